/- Part 19 of rules for walks through the code of a program, and of such walks; what each part proves is said by its theorems. -/
import Derived.Test.YtdaamclhcpjdpaaGreatDoorT18
set_option linter.unusedVariables false
set_option linter.unusedSimpArgs false
noncomputable section
set_option maxRecDepth 100000
set_option maxHeartbeats 4000000
namespace Go.Ev
open Go
inductive Ty where
 |i (k:IntKind) (lo hi:Int)
 |b
 |s (n:Nat)
 |l (n:Nat) (row:List Ty)
 |e (d:DC)
 |x
 |q (p:DC→Prop)
mutual
def Ty.ok:Ty→DC→Prop
 |.i k lo hi,d=>∃z,d= .i k z∧lo≤z∧z≤hi
 |.b,d=>∃b,d= .b b
 |.s n,d=>∃s:List UInt8,d=al s∧s.length≤n
 |.l n row,d=>∃rows,ao rows d∧rows.length≤n∧∀r,r∈rows→fK row r
 |.e x,d=>d=x
 |.x,_=>True
 |.q p,d=>p d
def fK:List Ty→List DC→Prop
 |[],l=>l=[]
 |p::ps,l=>∃d r,l=d::r∧p.ok d∧fK ps r
end
@[reducible] def af(row:List Ty)(rows:aj):Prop:=∀r,r∈rows→fK row r
theorem Ty.dP{k:IntKind}{lo hi:Int}{d:DC}(h:(Ty.i k lo hi).ok d):∃z,d= .i k z∧lo≤z∧z≤hi:=by simpa only[Ty.ok] using h
theorem Ty.eb{d:DC}(h:Ty.b.ok d):∃b,d= .b b:=by simpa only[Ty.ok] using h
theorem Ty.bC{n:Nat}{d:DC}(h:(Ty.s n).ok d):∃s:List UInt8,d=al s∧s.length≤n:=by simpa only[Ty.ok] using h
theorem Ty.aL{n:Nat}{row:List Ty}{d:DC}(h:(Ty.l n row).ok d):∃rows,ao rows d∧rows.length≤n∧af row rows:=by unfold Ty.ok at h;exact h
theorem Ty.EE{x d:DC}(h:(Ty.e x).ok d):d=x:=by simpa only[Ty.ok] using h
theorem EE{x:DC}:(Ty.e x).ok x:=by simp only[Ty.ok]
theorem bP{x:DC}:Ty.x.ok x:=by simp only[Ty.ok]
theorem Ty.bE{p:DC→Prop}{d:DC}(h:(Ty.q p).ok d):p d:=by simpa only[Ty.ok] using h
theorem bE{p:DC→Prop}{d:DC}(h:p d):(Ty.q p).ok d:=by simpa only[Ty.ok] using h
theorem dP{k:IntKind}{lo hi z:Int}(A:lo≤z)(h2:z≤hi):(Ty.i k lo hi).ok (.i k z):=by simp only[Ty.ok];exact⟨z,rfl,A,h2⟩
theorem eb{b:Bool}:Ty.b.ok (.b b):=by simp only[Ty.ok];exact⟨b,rfl⟩
theorem bC{n:Nat}{s:List UInt8}(h:s.length≤n):(Ty.s n).ok (al s):=by simp only[Ty.ok];exact⟨s,rfl,h⟩
theorem aL{n:Nat}{row:List Ty}{d:DC}{rows:aj}(z:ao rows d)(h2:rows.length≤n)(A:af row rows):(Ty.l n row).ok d:=by simp only[Ty.ok];exact⟨rows,z,h2,A⟩
theorem gv{n:Nat}{row:List Ty}:(Ty.l n row).ok .nil:=aL (rows:=[]) (.inr ⟨rfl,rfl⟩) (gX _) fun _ h=>by cases h
theorem ok_sl{n:Nat}{row:List Ty}{rows:aj}(h2:rows.length≤n)(z:af row rows):(Ty.l n row).ok (.sl rows):=aL (.inl rfl) h2 z
theorem bf:fK [] []:=by simp only[fK]
theorem ah{p:Ty}{ps:List Ty}{d:DC}{r:List DC}(h:p.ok d)(k:fK ps r):fK (p::ps) (d::r):=by rw[fK];exact⟨d,r,rfl,h,k⟩
theorem eP{p:Ty}{ps:List Ty}{l:List DC}(h:fK (p::ps) l):∃d r,l=d::r∧p.ok d∧fK ps r:=by rwa [fK] at h
theorem oT{l:List DC}(h:fK [] l):l=[]:=by rwa [fK] at h
theorem Q4:∀{ps:List Ty}{l:List DC},fK ps l→l.length=ps.length
 |[],l,h=>by rw[oT h];rfl
 |p::ps,l,h=>by obtain⟨d,r,rfl,_,h⟩:=eP h;rw[gy,gy,Q4 h]
theorem ca{row:List Ty}:af row []:=fun _ h=>by cases h
theorem df{row:List Ty}{a b:aj}(h:af row a)(k:af row b):af row (a++b):=fun r z=>(List.mem_append.1 z).elim (h r) (k r)
theorem c9{row:List Ty}{r:List DC}(h:fK row r):af row [r]:=fun _ z=>by rcases List.mem_singleton.1 z with rfl;exact h
theorem hZ{row:List Ty}{a:aj}{l n:Nat}(h:af row a):af row ((a.drop l).take n):=fun r z=>h r (En (Eo z))
theorem fm{row:List Ty}{a:aj}{j:Nat}{r:List DC}(h:af row a)(k:fK row r):af row (a.set j r):=fun q z=>(List.mem_or_eq_of_mem_set z).elim (h q) fun e=>e▸k
theorem Au{row:List Ty}{r:List DC}{n:Nat}(k:fK row r):af row (List.replicate n r):=fun q z=>(List.eq_of_mem_replicate z)▸k
theorem cP{row:List Ty}{rows:aj}{es:Nat}(h:af row rows)(z:row.length=es):∀r,r∈rows→r.length=es:=fun r A=>(Q4 (h r A)).trans z
theorem mb{row:List Ty}{rows:aj}(h:af row rows){j:Nat}{r:List DC}(z:rows[j]?=some r):fK row r:=h r (qw z)
variable{T:aO}{VE:bq}{B:aU}{Q:VV→aU→Prop}
theorem bF{z:Int}{n:Nat}(h0:0≤z)(A:z<n):∃j:Nat,z=j∧j<n:=⟨z.toNat,(vl h0).symm,aq⟩
theorem aF{x i:aI}{es:Nat}{k:IntKind}{rows:aj}{r:List DC}{d:DC}{z:Int}(A:x.vv VE=some (.d d))(hi:i.vv VE=some (.d (.i k z)))(G:ao rows d)(h0:0≤z)(I:rows[z.toNat]?=some r)(L:r.length=es)(M:Q (.rp r 0) B):VI T (.gQ es x i) VE B [] Q:=by
 obtain⟨j,rfl⟩:∃j:Nat,z=j:=⟨z.toNat,(vl h0).symm⟩;exact vi_idxD A G hi I L M
theorem lr{es:Nat}{x:aI}{lo hi:Option aI}{rows:aj}{row:List Ty}{d:DC}{l h:Nat}(M:x.vv VE=some (.d d))(hd:ao rows d)(z:af row rows)(he:row.length=es)(I:rows=[]→d= .nil)(O:yX VE hi rows.length h)(U:yX VE lo 0 l)(L:l≤h)(A:h≤rows.length)
  (Y:∀Z,ao ((rows.drop l).take (h-l)) Z→Q (.d Z) B):VI T (.yN es x lo hi) VE B [] Q:=by
 cases rows with
 |cons r0 rs=>exact vi_slD M hd (cP z he) (Nat.zero_lt_succ _) O U L A (Y _ (.inl rfl))
 |nil=>
  obtain rfl:=I rfl;obtain rfl:h=0:=by simpa using A
  obtain rfl:l=0:=by omega
  intro H0 X0 E H β z;obtain⟨a,h1,h2⟩:=z.bG M;simp only[aG,bK] at h2;subst h2;refine eU (v:=.fL) (fun call=>?_) (dC z (v:=.d .nil) (by simp only[aG,bK]) (Y .nil (.inr ⟨rfl,rfl⟩)))
  show bo x _ (.err 16) (fun v=>eT v (.err 16) (er _ hi 0 0 (.err 16) fun h=>er _ lo 0 h (.err 16) fun _=>.ok .fL H)
   fun f g off ln G=>aD (Nat.beq es G) (er _ hi ln (yS g off es ln) (.err 16) fun h=>er _ lo 0 h (.err 16) fun lo=>
    cL (Nat.add off (Nat.mul lo es)) fun off=>cL (Nat.sub h lo) fun n=>.ok (.slice f g off n G) H) (.err 16))=_
  rw[cR,h1,cS];show er _ hi 0 0 (aC.err 16) (fun h=>er _ lo 0 h (.err 16) fun _=>.ok .fL H)=_;rw[Ld (d:=0) z O (bt _) (bt _),Ld z U (bt _) (bt _)]
def zM:IntKind→Int
 |.i64=> -9223372036854775808
 |_=>0
def zN:IntKind→Int
 |.i64=>9223372036854775807
 |.u8=>255
 |.u16=>65535
 |.u64=>18446744073709551615
 |_=>0
def XC:IntKind→Bool
 |.i64=>true
 |.u8=>true
 |.u16=>true
 |.u64=>true
 |_=>false
theorem afW{k:IntKind}(h:XC k=true){n:Int}(z:zM k≤n)(h2:n≤zN k):k.wrap n=n:=by
 cases k<;>first|cases h|skip
 all_goals(simp only[zM,zN] at z h2;simp[IntKind.wrap,IntKind.bits,IntKind.signed])
 all_goals(first|omega|(split<;>omega))
theorem fR{k:IntKind}{x:aI}{z:IntKind}{n:Int}(A:x.vv VE=some (.d (.i z n)))(h:XC k=true)(G:zM k≤n)(h2:n≤zN k)(I:Q (.d (.i k n)) B):VI T (.conv k x) VE B [] Q:=
 abm A (by rw[afW h G h2];exact I)
theorem c6{x y:aI}{k:IntKind}{a b:Int}(z:x.vv VE=some (.d (.i k a)))(A:y.vv VE=some (.d (.i k b)))(h0:kX b 0=false)(G:0≤a)(_hb:0<b)(I:Q (.d (.i k (a % b))) B):VI T (.bin .rem x y) VE B [] Q:=
 Q3 z A h0 (by rw[afL G];exact I)
theorem ZV{mx:Bool}{x y:aI}{k:IntKind}{a b:Int}(G:x.vv VE=some (.d (.i k a)))(I:y.vv VE=some (.d (.i k b)))(L:∀z,((mx=true→a≤z∧b≤z)∧(mx=false→z≤a∧z≤b)∧(z=a∨z=b))→Q (.d (.i k z)) B):VI T (.xo mx x [y]) VE B [] Q:=fun _ _ E H _ A=>by
 have M:=A.tV G;have h2:=A.tV I;refine eU (v:=.int k (aD (aD mx (fA a b) (fA b a)) b a)) (fun call=>?_) (dC A (v:=.d (.i k (aD (aD mx (fA a b) (fA b a)) b a))) (by simp only[aG,bK]) (L _ ?_))
 ·show bo x E (.err 29) (fun a=>fq a (.err 29) fun k a=>ob (jq E [y]) (.err 29) fun vs=>ob (E6 mx k vs a) (.err 29) fun v=>.ok v H)=_;rw[cR,M,cS];show ob (jq E [y]) (aC.err 29) (fun vs=>ob (E6 mx k vs a) (.err 29) fun v=>.ok v H)=_;rw[aap h2 evs_nil,cS];show ob (lq (aD (aD mx (fA a b) (fA b a)) b a) fun a=>some (ak.int k a)) (aC.err 29) (fun v=>aC.ok v H)=_;rw[wV];rfl
 cases mx
 ·have e:aD (aD false (fA a b) (fA b a)) b a=if b<a then b else a:=by
   show aD (fA b a) b a=_;rw[nK]
   by_cases h:b<a
   ·rw[decide_eq_true h,bj h];rfl
   rw[decide_eq_false h,aZ h];rfl
  rw[e];refine⟨fun e=>(by cases e),fun _=>?_,?_⟩<;>split<;>omega
 have e:aD (aD true (fA a b) (fA b a)) b a=if a<b then b else a:=by
  show aD (fA a b) b a=_;rw[nK]
  by_cases h:a<b
  ·rw[decide_eq_true h,bj h];rfl
  rw[decide_eq_false h,aZ h];rfl
 rw[e];refine⟨fun _=>?_,fun e=>(by cases e),?_⟩<;>split<;>omega
theorem sO{x y:aI}{k:IntKind}{a b:Int}(A:x.vv VE=some (.d (.i k a)))(G:y.vv VE=some (.d (.i k b)))(I:∀z,a≤z∧b≤z∧(z=a∨z=b)→Q (.d (.i k z)) B):VI T (.xo true x [y]) VE B [] Q:=
 ZV A G fun z h=>I z ⟨(h.1 rfl).1,(h.1 rfl).2,h.2.2⟩
theorem C6{x y:aI}{k:IntKind}{a b:Int}(A:x.vv VE=some (.d (.i k a)))(G:y.vv VE=some (.d (.i k b)))(I:∀z,z≤a∧z≤b∧(z=a∨z=b)→Q (.d (.i k z)) B):VI T (.xo false x [y]) VE B [] Q:=
 ZV A G fun z h=>I z ⟨(h.2.1 rfl).1,(h.2.1 rfl).2,h.2.2⟩
theorem YG{H:ay}{X:Nat→Prop}{β:Nat→Nat}:∀{ks:List Nat}{r r':List DC}{l U:List ak},gU ks r=true→gU ks r'=true→aY H X β (r.map .d) l→aY H X β (r'.map .d) U→gj ks l=true∧gj ks U=true∧∃b,mP l U=some b
 |[],[],[],l,U,_,_,h,h'=>by
  simp only[BH,aY] at h h';subst h;subst h';exact⟨aa,aa,true,aa⟩
 |[],_::_,_,_,_,h,_,_,_=>by cases h
 |[],[],_::_,_,_,_,h,_,_=>by cases h
 |_::_,[],_,_,_,h,_,_,_=>by cases h
 |_::_,_::_,[],_,_,_,h,_,_=>by cases h
 |c::ks,d::r,d'::r',l,U,Y,z,h,h'=>by
  simp only[jz,aY] at h h';obtain⟨a,l,rfl,G,h2⟩:=h;obtain⟨a',U,rfl,I,Xd⟩:=h';have go:(gU ks r=true∧gU ks r'=true)→rk c a=true→rk c a'=true→(∃b,wZ a a'=some b)→gj (c::ks) (a::l)=true∧gj (c::ks) (a'::U)=true∧∃b,mP (a::l) (a'::U)=some b:=fun⟨g,g'⟩k L⟨b,hb⟩=>by
   obtain⟨e1,e2,b2,e3⟩:=YG g g' h2 Xd;refine⟨by simp only[gj,k,e1];rfl,by simp only[gj,L,e2];rfl,?_⟩;simp only[mP,hb,e3]
   cases b
   ·exact⟨false,aa⟩
   exact⟨b2,aa⟩
  simp only[aG] at G I
  cases d with
  |i k n=>
   obtain⟨M,Z⟩:=ic (show(Nat.beq (cG k) c&&gU ks r)=true from Y);simp only[bK] at G;subst G
   cases d' with
   |i L n'=>
    obtain⟨A,O⟩:=ic (show(Nat.beq (cG L) c&&gU ks r')=true from z);simp only[bK] at I;subst I;have e:cG k=cG L:=(cD M).trans (cD A).symm;refine go ⟨Z,O⟩ M A ?_;simp only[wZ,e,show Nat.beq (cG L) (cG L)=true from ij _];exact⟨_,aa⟩
   |b t=>obtain⟨A,_⟩:=ic (show(Nat.beq c 100&&gU ks r')=true from z);have G:=cD M;have h2:=cD A;exact absurd (G.trans h2) (by cases k<;>decide)
   |s m v=>obtain⟨A,_⟩:=ic (show(Nat.beq c 101&&gU ks r')=true from z);have G:=cD M;have h2:=cD A;exact absurd (G.trans h2) (by cases k<;>decide)
   |nil=>cases z
   |sl _=>cases z
   |raw _ _ _=>cases z
  |b t=>
   obtain⟨M,Z⟩:=ic (show(Nat.beq c 100&&gU ks r)=true from Y);simp only[bK] at G;subst G
   cases d' with
   |i L n'=>obtain⟨A,_⟩:=ic (show(Nat.beq (cG L) c&&gU ks r')=true from z);have G:=cD M;have h2:=cD A;exact absurd (h2.trans G) (by cases L<;>decide)
   |b t'=>
    obtain⟨A,O⟩:=ic (show(Nat.beq c 100&&gU ks r')=true from z);simp only[bK] at I;subst I;exact go ⟨Z,O⟩ M A ⟨_,aa⟩
   |s m v=>obtain⟨A,_⟩:=ic (show(Nat.beq c 101&&gU ks r')=true from z);have G:=cD M;have h2:=cD A;exact absurd (G.symm.trans h2) au
   |nil=>cases z
   |sl _=>cases z
   |raw _ _ _=>cases z
  |s m v=>
   obtain⟨M,Z⟩:=ic (show(Nat.beq c 101&&gU ks r)=true from Y);simp only[bK] at G;subst G
   cases d' with
   |i L n'=>obtain⟨A,_⟩:=ic (show(Nat.beq (cG L) c&&gU ks r')=true from z);have G:=cD M;have h2:=cD A;exact absurd (h2.trans G) (by cases L<;>decide)
   |b t'=>obtain⟨A,_⟩:=ic (show(Nat.beq c 100&&gU ks r')=true from z);have G:=cD M;have h2:=cD A;exact absurd (G.symm.trans h2) au
   |s m' v'=>
    obtain⟨A,O⟩:=ic (show(Nat.beq c 101&&gU ks r')=true from z);simp only[bK] at I;subst I;exact go ⟨Z,O⟩ M A ⟨_,aa⟩
   |nil=>cases z
   |sl _=>cases z
   |raw _ _ _=>cases z
  |nil=>cases Y
  |sl _=>cases Y
  |raw _ _ _=>cases Y
theorem xk{neg:Bool}{ks:List Nat}{x y:aI}{r r':List DC}(L:x.vv VE=some (.agg (r.map .d)))(M:y.vv VE=some (.agg (r'.map .d)))(O:gU ks r=true)(A:gU ks r'=true)(U:∀b,Q (.d (.b b)) B):VI T (.eqv (.agg ks) neg x y) VE B [] Q:=fun _ X0 _ H β G=>by
 obtain⟨a,Y,h2⟩:=G.bG L;obtain⟨b,Z,z⟩:=G.bG M;simp only[aG] at h2 z;obtain⟨l,rfl,h2⟩:=h2;obtain⟨I,rfl,z⟩:=z;obtain⟨k1,k2,t,k3⟩:=YG O A h2 z;refine eU (v:=.bool (Bool.xor neg t)) (fun call=>?_) (dC G (v:=.d (.b (Bool.xor neg t))) (by simp only[aG,bK]) (U _));show bo x _ (.err 7) (fun a=>bo y _ (.err 7) fun b=>ob (ox (.agg ks) a b) (.err 7) fun r=>nG (Bool.xor neg r) fun r=>.ok (.bool r) _)=_;rw[cR,Y,cS,cR,Z,cS];show ob (aD (gj ks l) (aD (gj ks I) (mP l I) none) none) _ _=_;rw[k1,k2,k3]
 cases neg<;>cases t<;>rfl
def isCmp:BinOp→Bool
 |.lss=>true
 |.leq=>true
 |.gtr=>true
 |.geq=>true
 |_=>false
theorem Lf{op:BinOp}{x y:aI}{a b:List UInt8}(A:x.vv VE=some (.d (al a)))(G:y.vv VE=some (.d (al b)))(ho:isCmp op=true)(I:∀b,Q (.d (.b b)) B):VI T (.bin op x y) VE B [] Q:=fun _ _ _ _ _ z=>by
 obtain⟨t,L⟩:∃t,BJ op (.str a.length (pack a)) (.str b.length (pack b))=some (.bool t):=by
  cases op<;>first|exact⟨_,rfl⟩|(cases ho;done)
 exact xj (z.str A) (z.str G) (v:=.bool t) L (dC z (v:=.d (.b t)) (by simp only[aG,bK]) (I _))
theorem cJ{row:List Ty}{r:List DC}{rs:aj}(h:fK row r)(k:af row rs):af row (r::rs):=fun q z=>by
 rcases List.mem_cons.1 z with rfl|z
 ·exact h
 exact k q z
theorem Q5{x y:aI}{k:IntKind}{a b:Int}(A:x.vv VE=some (.d (.i k a)))(G:y.vv VE=some (.d (.i k b)))(I:0≤a)(L:0<b)(M:∀z,0≤z→z<b→Q (.d (.i k z)) B):VI T (.bin .rem x y) VE B [] Q:=
 Q3 A G (by rw[rl];exact decide_eq_false aq) (by rw[afL I];exact M _ (Int.emod_nonneg _ aq) (Int.emod_lt_of_pos _ L))
theorem xl{x y:aI}{k:IntKind}{a b:Int}(A:x.vv VE=some (.d (.i k a)))(G:y.vv VE=some (.d (.i k b)))(h0:kX b 0=false)(I:XC k=true)(z:0≤a)(O:0<b)(L:a/b≤zN k)(h2:zM k≤0)(M:Q (.d (.i k (a/b))) B):VI T (.bin .quo x y) VE B [] Q:=
 abv A G h0 (by rw[lm127 z,afW I (TP h2 (Int.ediv_nonneg z aq)) L];exact M)
theorem iQ{c:IC}{R:Ex→bq→aU→Prop}(b i g elem aE es:Nat){e A:Nat}{row:List VV}(G:aN B b=some (.one e A row))(hi:row[i]?=some (.d .nil))(L:aN B g=none)(h:VC T c VE ((g,.acc elem aE es [])::(b,.one e A (row.set i (.ac g 0 es)))::B) R):VC T c VE B R:=
 fun H0 X0 E H β M=>(h H0 X0 E H β (M.ghostB G hi L)).mono fun _ _ _ O=>O.more fun c s z ho=>by
  rw[dr] at z
  by_cases I:g=c
  ·rw[bj I] at z;cases z;exact absurd rfl ho
  rw[aZ I,dr] at z
  by_cases k:b=c
  ·subst k;exact⟨_,G,trivial⟩
  rw[aZ k] at z;exact⟨s,z,ho⟩
theorem Av(z:Int): -9223372036854775808≤IntKind.i64.wrap z∧IntKind.i64.wrap z≤9223372036854775807:=by
 simp only[IntKind.wrap,IntKind.bits,IntKind.signed];simp;constructor<;>split<;>omega
theorem uM{x y:aI}{a b:Int}(A:x.vv VE=some (.d (.i .i64 a)))(G:y.vv VE=some (.d (.i .i64 b)))(I:∀z, -9223372036854775808≤z∧z≤9223372036854775807→Q (.d (.i .i64 z)) B):VI T (.bin .add x y) VE B [] Q:=abt A G (I _ (Av _))
theorem aby{x y:aI}{a b:Int}(A:x.vv VE=some (.d (.i .i64 a)))(G:y.vv VE=some (.d (.i .i64 b)))(I:∀z, -9223372036854775808≤z∧z≤9223372036854775807→Q (.d (.i .i64 z)) B):VI T (.bin .sub x y) VE B [] Q:=abu A G (I _ (Av _))
theorem vi_mulW{x y:aI}{a b:Int}(A:x.vv VE=some (.d (.i .i64 a)))(G:y.vv VE=some (.d (.i .i64 b)))(I:∀z, -9223372036854775808≤z∧z≤9223372036854775807→Q (.d (.i .i64 z)) B):VI T (.bin .mul x y) VE B [] Q:=vi_mulK A G (I _ (Av _))
theorem vi_quoW{x y:aI}{a b:Int}(A:x.vv VE=some (.d (.i .i64 a)))(G:y.vv VE=some (.d (.i .i64 b)))(h0:¬b=0)(I:∀z, -9223372036854775808≤z∧z≤9223372036854775807→Q (.d (.i .i64 z)) B):VI T (.bin .quo x y) VE B [] Q:=abv A G (by rw[rl];exact decide_eq_false h0) (I _ (Av _))
theorem aaD{neg:Bool}{x y:aI}{t u:Bool}(G:x.vv VE=some (.d (.b t)))(I:y.vv VE=some (.d (.b u)))(L:∀b,Q (.d (.b b)) B):VI T (.eqv .bool neg x y) VE B [] Q:=fun _ _ _ _ _ z=>by
 obtain⟨_,M,h2⟩:=z.bG G;obtain⟨_,O,A⟩:=z.bG I;simp only[aG,bK] at h2 A;subst h2;subst A;have e:∃r,ox .bool (.bool t) (.bool u)=some r:=by cases t<;>cases u<;>exact⟨_,rfl⟩
 obtain⟨r,e⟩:=e;exact K6 M O e (dC z (v:=.d (.b (Bool.xor neg r))) (by simp only[aG,bK]) (L _))
theorem Aw{elem es aE:Nat}{zero:List ak}{z:List VV}{A:List DC}{x y:aI}{n:Nat}(b:Nat)(L:nr b VE=true)(M:lW b B=true)(O:pR zero=some z)(G:iu z=some A)(I:zero.length=es)(U:x.vv VE=some (.d (.i .i64 (n:Int))))(Y:y.vv VE=some (.d (.i .i64 (n:Int))))
  (Z:n*aE≤70368744177664) (h2:n≤4611686018427387904) (hq:∀rows,rows=List.replicate n A→rows.length=n→Q (.bs b rows.length es) ((b,.arr elem aE es rows.length rows)::B)):VI T (.vJ elem es aE zero x y) VE B [] Q:=
 vi_mksl b L M O G I U Y Z h2 (by
  have:=hq (List.replicate n A) rfl vi
  rwa [vi] at this)
theorem eO{es:Nat}{x:aI}{lo hi:Option aI}{rows:aj}{row:List Ty}{d:DC}{l h:Nat}(M:x.vv VE=some (.d d))(O:ao rows d)(L:af row rows)(U:row.length=es)(A:rows=[]→d= .nil)(Y:yX VE hi rows.length h)(Z:yX VE lo 0 l)(G:l≤h)(I:h≤rows.length)
  (hq:∀z w,ao w z→w.length=h-l→af row w→Q (.d z) B):VI T (.yN es x lo hi) VE B [] Q:=
 lr M O L U A Y Z G I fun z h1=>hq z _ h1 (by rw[m6,rA];omega) (hZ L)
theorem ta{rows:aj}{d:DC}(h:0<rows.length):rows=[]→d= .nil:=fun e=>by rw[e] at h;cases h
theorem KK{x i:aI}{z j:Nat}{l:List VV}{v:VV}{k:IntKind}(M:x.vv VE=some (.agg l))(hi:i.vv VE=some (.d (.i k (j:Int))))(O:j<z)(U:l[j]?=some v)(Y:Q v B):VI T (.Di z 1 false x i) VE B [] Q:=fun _ _ _ _ _ A=>by
 obtain⟨_,Z,h2⟩:=A.bG M;obtain⟨_,i1,G⟩:=A.bG hi;simp only[aG] at h2 G;simp only[bK] at G;subst G;obtain⟨cs,rfl,h2⟩:=h2;obtain⟨a,h3,h4⟩:=h2.get U;obtain⟨L,h6⟩:=List.getElem?_eq_some_iff.1 h3;refine eU (v:=a) (fun call=>?_) (dC A h4 Y);show bo x _ (.err 13) (fun v=>mh v (.err 13) fun cs=>bo i _ (.err 13) fun I=>idx I z (.err 13) fun j=>aD (Nat.ble (Nat.add (Nat.mul j 1) 1) (gz cs)) (fN false ((cs.drop (Nat.mul j 1)).take 1) (.err 13) fun v=>.ok v _) (.err 13))=_;rw[cR,Z,cS];show bo i _ (.err 13) (fun I=>idx I z (.err 13) fun j=>aD (Nat.ble (Nat.add (Nat.mul j 1) 1) (gz cs)) (fN false ((cs.drop (Nat.mul j 1)).take 1) (.err 13) fun v=>.ok v _) (.err 13))=_;rw[cR,i1,cS];show aD (Nat.ble (Nat.succ j) z) (aD (Nat.ble (Nat.add (Nat.mul j 1) 1) (gz cs)) (fN false ((cs.drop (Nat.mul j 1)).take 1) (aC.err 13) fun v=>aC.ok v _) (aC.err 13)) (aC.err 13)=_;rw[gW O,et,oL,show Nat.mul j 1=j from NN _,show Nat.ble (Nat.add j 1) cs.length=true from gW L,et,NG L,vh,NI,h6];rfl
theorem nF{fl:List FL}{d g:Key}{want t:Bool}{op:bm}{r:List bl}(A:aN VE g.n=some (.d (.b t)))(G:t=!want){Q:bq→aU→Prop}(h:VQ T r ((d.n,.k .undef)::VE) B fl Q):VQ T (⟨some d,some (g,want),none,op⟩::r) VE B fl Q:=by
 intro H0 X0 E H β z bb I;obtain⟨L,M,O,U,Y⟩:=h H0 X0 _ H β (z.set (d:=d) (v:=.k .undef) (a:=.undef) (by simp only[aG])) bb I;refine⟨L,M,O,fun lf n Z a2=>?_,Y⟩;show bl.ji (T.call lf n) ⟨some d,some (g,want),none,op⟩ E H bb (iE (T.call lf n) r)=_;rw[Kw (z.bool A),aZ (by rw[G];cases want<;>decide)];exact U lf n Z a2
theorem FQ{fl:List FL}{d g:Key}{want t:Bool}{l:List Nat}{op:bm}{r:List bl}(A:aN VE g.n=some (.d (.b t)))(G:t=!want){Q:bq→aU→Prop}(h:VQ T r ((d.n,.k .undef)::VE) B (.rd []::fl) Q):VQ T (⟨some d,some (g,want),some l,op⟩::r) VE B fl Q:=by
 intro H0 X0 E H β z bb I;obtain⟨L,M,O,U,Y⟩:=h H0 X0 _ H β (z.set (d:=d) (v:=.k .undef) (a:=.undef) (by simp only[aG])) (⟨some [],[],0,0⟩::bb) (I.cons ⟨rfl,rfl,[],rfl,fun f h=>by cases h⟩);refine⟨L,M,O,fun lf n Z a2=>?_,Y⟩;show bl.ji (T.call lf n) ⟨some d,some (g,want),some l,op⟩ E H bb (iE (T.call lf n) r)=_;rw[Kw (z.bool A),aZ (by rw[G];cases want<;>decide)];exact U lf n Z a2
theorem Y1{call:dG}{d:Option Key}{g:Key}{want:Bool}{q:Option (List Nat)}{op:bm}{bb:List FP}{E:Env}{H:ay}{K:Env→ay→List FP→dD}(z:E.get g=some .undef):
  bl.ji call ⟨d,some (g,want),q,op⟩ E H bb K=K (iK E d .undef) H (nT q bb):=by
 show ob (E.get g) (.err 51) (fun v=>yR v (ib d E H fun E H=>K E H (nT q bb)) fun b=>aD (Bool.xor b want) (ib d E H fun E H=>K E H (nT q bb)) (bl.pc call ⟨d,some (g,want),q,op⟩ E H bb K))=_;rw[z,cS];show ib d E H (fun E H=>K E H (nT q bb))=_;rw[xe]
theorem bL{fl:List FL}{d g:Key}{want:Bool}{op:bm}{r:List bl}(A:aN VE g.n=some (.k .undef)){Q:bq→aU→Prop}(h:VQ T r ((d.n,.k .undef)::VE) B fl Q):VQ T (⟨some d,some (g,want),none,op⟩::r) VE B fl Q:=by
 intro H0 X0 E H β z bb G;obtain⟨a,I,h2⟩:=z.env g _ A;simp only[aG] at h2;subst h2;obtain⟨L,M,O,U,Y⟩:=h H0 X0 _ H β (z.set (d:=d) (v:=.k .undef) (a:=.undef) (by simp only[aG])) bb G;refine⟨L,M,O,fun lf n Z a2=>?_,Y⟩;show bl.ji (T.call lf n) ⟨some d,some (g,want),none,op⟩ E H bb (iE (T.call lf n) r)=_;rw[Y1 I];exact U lf n Z a2
theorem dA{fl:List FL}{d g:Key}{want:Bool}{l:List Nat}{op:bm}{r:List bl}(A:aN VE g.n=some (.k .undef)){Q:bq→aU→Prop}(h:VQ T r ((d.n,.k .undef)::VE) B (.rd []::fl) Q):VQ T (⟨some d,some (g,want),some l,op⟩::r) VE B fl Q:=by
 intro H0 X0 E H β z bb G;obtain⟨a,I,h2⟩:=z.env g _ A;simp only[aG] at h2;subst h2;obtain⟨L,M,O,U,Y⟩:=h H0 X0 _ H β (z.set (d:=d) (v:=.k .undef) (a:=.undef) (by simp only[aG])) (⟨some [],[],0,0⟩::bb) (G.cons ⟨rfl,rfl,[],rfl,fun f h=>by cases h⟩);refine⟨L,M,O,fun lf n Z a2=>?_,Y⟩;show bl.ji (T.call lf n) ⟨some d,some (g,want),some l,op⟩ E H bb (iE (T.call lf n) r)=_;rw[Y1 I];exact U lf n Z a2
theorem vi_storeA{n:Nat}{a x:aI}{b j o es elem aE:Nat}{rows:aj}{row z:List DC}{v:VV}{new:List VV}(ha:a.vv VE=some (.bp b rows.length j o es))(hb:aN B b=some (.acc elem aE es rows))(hx:x.vv VE=some v)(hv:v.cells=some new)(hd:iu new=some z)(O:z.length=n)(h0:0<n)(hk:o+n≤es)
  (A:rows[j]?=some row) (hq:Q .undef ((b,.acc elem aE es (rows.set j (qA row o z)))::B)):VI T (.store n a x) VE B [b] Q:=fun _ X0 _ H β L=>by
 obtain⟨_,h1,h2⟩:=L.bG ha;simp only[aG] at h2;subst h2;obtain⟨y,h3,h4⟩:=L.bG hx;obtain⟨t,h5,M⟩:=h4.cells hv;have M:=M.data hd;obtain⟨zH,cs,k1,k3,k4⟩:=(L.box b _ hb).resolve_left (fun e=>by rw[e] at A;cases A);obtain⟨l,k5,k6,k7⟩:=k4 j row A;have G:=(List.getElem?_eq_some_iff.1 A).1;have ht:t.length=n:=by rw[M.length,O]
 have U:=k7.length;have e:=fun K=>T6 (e:=aC.err 5) (K:=K) (q:=j) (o:=o) (n:=n) (new:=t) k1 aq G k5 k6 ht h0 hk
 refine⟨0,.undef,_,fun lf m _ _=>by rw[Qu h1 h3 h5,e],?_⟩;refine FM (s':=.acc elem aE es (rows.set j (qA row o z))) L hb (show rows≠[] from fun e=>by rw[e] at A;cases A) rfl (fun f hf=>?_) rfl rfl (fun X j1 Y=>?_) (fun X=>by simp only[aG]) hq
 ·show(H.t.set (β b) _).get f=_;rw[GT.dn,aZ hf]
 have hlen:(bif Nat.beq n es then t else eE l o t).length=es:=by
  cases Z:Nat.beq n es with
  |true=>have:=cD Z;show t.length=_;omega
  |false=>show(eE l o t).length=_;simp only[eE,fv,m6,rA];omega
 refine .inr ⟨rows.length,cs.set j (bif Nat.beq n es then t else eE l o t),?_,by rw[mU];exact bt _,fun i I hi=>?_⟩
 ·show(H.t.set (β b) _).get (β b)=_;rw[GT.dn,bj rfl,mU]
 rw[RT.dn];rw[TL] at hi
 by_cases ei:i=j
 ·subst ei;rw[bj rfl,bj G] at hi
  cases hi
  rw[bj rfl];refine⟨_,aa,hlen,?_⟩;have h7:=Y _ _ M;have h8:=Y _ _ k7;have h9:=h8.eE o h7;unfold qA;rw[O,←U,k6];rw[O] at h9;exact bZ.bif h7 h9
 rw[aZ (fun k=>ei k.symm)] at hi;rw[aZ ei];obtain⟨l',m1,m2,m3⟩:=k4 i I hi;exact⟨l',m1,m2,Y _ _ m3⟩
theorem mI.less{n:Nat}{B B':aU}{β:Nat→Nat}{fl:List FL}{bb:List FP}(h:mI n B β fl bb)(k:∀b s,aN B' b=some s→aN B b=some s):mI n B' β fl bb:=
 ⟨h.1,fun i x r L M=>by
  have:=h.2 i x r L M
  cases x with
  |rd R=>obtain⟨a,b,l,c,d⟩:=this;exact⟨a,b,l,c,fun f z=>⟨(d f z).1,fun b s A G I=>(d f z).2 b s (k b s A) G I⟩⟩
  |qt=>exact this
  |off _=>exact this
  |wr _=>exact fun f z=>⟨(this f z).1,fun b s A G I=>(this f z).2 b s (k b s A) G I⟩
  |un=>trivial⟩
theorem aaE{B:aU}{b:Nat}:∀c s,aN (du B b) c=some s→aN B c=some s:=fun c s h=>by
 rw[mN] at h
 by_cases e:b=c
 ·rw[bj e] at h;cases h
 rwa [aZ e] at h
theorem R4{ops:List bl}{fl:List FL}{Q:bq→aU→Prop}(k b:Nat){v:VV}{elem aE es lo:Nat}{rows:aj}(z:aN VE k=some v)(A:aN B b=some (.arr elem aE es lo rows))(ho:v.um b rows.length es)(h:VQ T ops ((k,v.jZ b (.sl rows))::VE) (du B b) fl Q):VQ T ops VE B fl Q:=
 fun H0 X0 E H β G bb I=>by
  obtain⟨L,M,O,U,Y⟩:=h H0 X0 E H β (G.jZ A z ho) bb (I.less aaE);exact⟨L,M,O,U,Y.more xf⟩
theorem lk{ops:List bl}{fl:List FL}{Q:bq→aU→Prop}(k b:Nat){v:VV}{elem aE es:Nat}{rows:aj}(z:aN VE k=some v)(A:aN B b=some (.acc elem aE es rows))(ho:v.wJ b rows.length es)(h:VQ T ops ((k,v.pd b (.cm rows))::VE) (du B b) fl Q):VQ T ops VE B fl Q:=
 fun H0 X0 E H β G bb I=>by
  obtain⟨L,M,O,U,Y⟩:=h H0 X0 E H β (G.pd A z ho) bb (I.less aaE);exact⟨L,M,O,U,Y.more xf⟩
theorem gO{n:Nat}{a x:aI}{b j o es elem aE:Nat}{rows:aj}{row z:List DC}{v:VV}{new:List VV}(A:a.vv VE=some (.bp b rows.length j o es))(G:aN B b=some (.acc elem aE es rows))(I:x.vv VE=some v)(L:v.cells=some new)(M:iu new=some z)(O:z.length=n)(h0:0<n)(U:o+n≤es)
  (Y:rows[j]?=some row) (Z:∀w,w=rows.set j (qA row o z)→w.length=rows.length→Q .undef ((b,.acc elem aE es w)::B)):VI T (.store n a x) VE B [b] Q:=
 vi_storeA A G I L M O h0 U Y (Z _ rfl (mU ..))
theorem q9{n:Nat}{a x:aI}{b j o es elem aE lo:Nat}{rows:aj}{row z:List DC}{v:VV}{new:List VV}(A:a.vv VE=some (.bp b rows.length j o es))(G:aN B b=some (.arr elem aE es lo rows))(I:x.vv VE=some v)(L:v.cells=some new)(M:iu new=some z)(O:z.length=n)(h0:0<n)(U:o+n≤es)
  (Y:rows[j]?=some row) (Z:∀w,w=rows.set j (qA row o z)→w.length=rows.length→Q .undef ((b,.arr elem aE es rows.length w)::B)):VI T (.store n a x) VE B [b] Q:=
 FN A G I L M O h0 U Y (Z _ rfl (mU ..))
theorem ae{p:Prop}(h:p:=by first|omega|((try simp only[fW,zM,zN,fv,gy,jP,mU,m6,rA,vi] at*);omega)):p:=h
theorem cr{T:aO}{VE:bq}{B:aU}{Q:bq→aU→Prop}{fl:List FL}{d:Key}{l:List Nat}{n:Nat}{w:Bool}{a:aI}{row:List DC}{o:Nat}{r:List bl}(ha:a.vv VE=some (.rp row o))(hk:mg [] l fl=true)(h:VI T (.load n w a) VE B [] fun v B'=>VQ T r ((d.n,v)::VE) B' (.rd []::fl) Q):VQ T (⟨some d,none,some l,.load n w a⟩::r) VE B fl Q:=by
 intro H0 X0 E H β L bb I;obtain⟨N,v0,H',e,M,v,B',β',Y,O,hv,hq⟩:=uK h L;obtain⟨x,Z,A⟩:=L.bG ha;simp only[aG] at A;obtain⟨f,g,Q1,l1,rfl,_,_,hX,U⟩:=A;have z:H'=H.mark:=KJ Z (e N N (bt _) (bt _));have G:H.mark.ws=[]∧H.mark.next=H.next:=by cases H;exact⟨rfl,rfl⟩
 have k:rN H.next B β (.rd []) ⟨(bm.load n w a).reads E,H'.ws,H.next,H'.next⟩:=by
  refine⟨by rw[z];exact G.1,by show H.next=H'.next;rw[z];exact G.2.symm,[f],?_,fun f' I=>?_⟩
  ·show some (fS (a.ev E))=_;rw[Z];rfl
  rcases List.mem_singleton.1 I with rfl
  exact⟨U,fun b s M h2 h3=>absurd (.inr ⟨b,s,M,h2,h3⟩) hX⟩
 obtain⟨N2,E2,H2,e2,hp⟩:=hq H0 X0 _ _ β' (O.set hv) (⟨(bm.load n w a).reads E,H'.ws,H.next,H'.next⟩::bb) ((I.cons k).step Y);refine⟨max N N2,E2,H2,fun lf n a1 a2=>?_,hp.of Y L.aQ⟩;show bl.ji (T.call lf n) ⟨some d,none,some l,_⟩ E H bb (iE (T.call lf n) r)=_;rw[uA,uB (e lf n aq aq) (xg I M hk)];exact e2 lf n aq aq
theorem ao.uniq{a b:aj}{d:DC}(h:ao a d)(k:ao b d):a=b:=by
 rcases h with rfl|⟨rfl,rfl⟩<;>rcases k with h|⟨rfl,h⟩<;>first|(cases h;rfl)|rfl|cases h
def jO(k n:Int)(w:aj):Prop:=∀(p:Nat)row z,(p:Int)<k→w[p]?=some row→row[0]?=some (.i .i64 z)→z≤n
def gu(k n:Int)(w:aj):Prop:=∀(q:Nat)r d wc,(q:Int)<k→w[q]?=some r→r[2]?=some d→ao wc d→jO wc.length n wc
theorem aaF{n:Int}{w:aj}:jO 0 n w:=fun p _ _ h=>by omega
theorem widthTo_0{n:Int}{w:aj}:gu 0 n w:=fun p _ _ _ h=>by omega
theorem jO.mono{k n m:Int}{w:aj}(h:jO k n w)(A:n≤m):jO k m w:=fun p r z a b c=>TP (h p r z a b c) A
theorem gu.mono{k n m:Int}{w:aj}(h:gu k n w)(z:n≤m):gu k m w:=fun q r d wc a b c e=>(h q r d wc a b c e).mono z
theorem jO.step{k n m z:Int}{w:aj}{row:List DC}(h:jO k n w)(h0:0≤k)(G:w[k.toNat]?=some row)(I:row[0]?=some (.i .i64 z))(L:n≤m)(A:z≤m):jO (k+1) m w:=fun p r M a b c=>by
 by_cases O:(p:Int)<k
 ·exact TP (h p r M O b c) L
 have:p=k.toNat:=by omega
 subst this;rw[G] at b;cases b;rw[I] at c;cases c;exact A
theorem gu.step{k n j:Int}{w wc:aj}{r:List DC}{d:DC}(h:gu k n w)(h0:0≤k)(G:w[k.toNat]?=some r)(I:r[2]?=some d)(L:ao wc d)(M:jO j n wc)(Z:(wc.length:Int)≤j):gu (k+1) n w:=fun q r' O A a b c e=>by
 by_cases U:(q:Int)<k
 ·exact h q r' O A U b c e
 have:q=k.toNat:=by omega
 subst this;rw[G] at b;cases b;rw[I] at c;cases c;have:=ao.uniq L e;subst this;intro p row z h1 h2 Y;exact M p row z aq h2 Y
theorem gu.get{k n:Int}{w wc:aj}{r:List DC}{d:DC}{q:Nat}(h:gu k n w)(I:(w.length:Int)≤k)(z:w[q]?=some r)(A:r[2]?=some d)(G:ao wc d):jO wc.length n wc:=by
 have:=(List.getElem?_eq_some_iff.1 z).1;exact h q r d wc aq z A G
theorem jO.get{k n z:Int}{w:aj}{row:List DC}{q:Nat}(h:jO k n w)(I:(w.length:Int)≤k)(A:w[q]?=some row)(G:row[0]?=some (.i .i64 z)):z≤n:=by
 have:=(List.getElem?_eq_some_iff.1 A).1;exact h q row z aq A G
theorem gu.all{k n:Int}{w:aj}(h:gu k n w)(z:(w.length:Int)≤k):gu w.length n w:=fun q r d wc a b c e=>h q r d wc aq b c e
theorem gu.at{n:Int}{w wc:aj}(h:gu w.length n w)(A:wc=[]∨∃(q:Nat)(r:List DC)(d:DC),w[q]?=some r∧r[2]?=some d∧ao wc d):jO wc.length n wc:=by
 rcases A with rfl|⟨q,r,d,a,b,c⟩
 ·exact fun p row z h=>by simp at h;omega
 exact h.get (vk _) a b c
theorem gu.cast{k n m:Int}{w:aj}(h:gu k n w)(e:n=m):gu k m w:=e▸h
def kp(k:Int)(w:aj):Prop:=∀(q:Nat)r d wc,(q:Int)<k→w[q]?=some r→r[2]?=some d→ao wc d→1≤(wc.length:Int)∧(wc.length:Int)≤12
theorem lensTo_0{w:aj}:kp 0 w:=fun p _ _ _ h=>by omega
theorem kp.step{k:Int}{w wc:aj}{r:List DC}{d:DC}(h:kp k w)(h0:0≤k)(A:w[k.toNat]?=some r)(G:r[2]?=some d)(I:ao wc d)(L:1≤(wc.length:Int)∧(wc.length:Int)≤12):kp (k+1) w:=fun q r' M z a b c e=>by
 by_cases O:(q:Int)<k
 ·exact h q r' M z O b c e
 have:q=k.toNat:=by omega
 subst this;rw[A] at b;cases b;rw[G] at c;cases c;have:=ao.uniq I e;subst this;exact L
theorem kp.all{k:Int}{w:aj}(h:kp k w)(z:(w.length:Int)≤k):kp w.length w:=fun q r d wc a b c e=>h q r d wc aq b c e
theorem kp.get{k:Int}{w wc:aj}{r:List DC}{d:DC}{q:Nat}(h:kp k w)(I:(w.length:Int)≤k)(z:w[q]?=some r)(A:r[2]?=some d)(G:ao wc d):1≤(wc.length:Int)∧(wc.length:Int)≤12:=by
 have:=(List.getElem?_eq_some_iff.1 z).1;exact h q r d wc aq z A G
theorem lens1{a b d:DC}{wc:aj}(z:ao wc d)(h:1≤(wc.length:Int)∧(wc.length:Int)≤12):kp ([[a,b,d]]:aj).length [[a,b,d]]:=fun q r M A G I h2 L=>by
 have:q=0:=by simp at G;omega
 subst this
 cases I
 cases h2
 have:=ao.uniq z L;subst this;exact h
def pS(n:Int)(w:aj):Prop:=0<n→∃(q:Nat)(r:List DC)(d:DC)(wc:aj)(p:Nat)(row:List DC),w[q]?=some r∧r[2]?=some d∧ao wc d∧wc[p]?=some row∧row[0]?=some (.i .i64 n)
theorem ZW{w:aj}:pS 0 w:=fun h=>absurd h au
theorem pS.max{a b n:Int}{w wc:aj}{q p:Nat}{r row:List DC}{d:DC}(h:pS a w)(z:w[q]?=some r)(A:r[2]?=some d)(G:ao wc d)(I:wc[p]?=some row)(L:row[0]?=some (.i .i64 b))(e:n=a∨n=b):pS n w:=by
 rcases e with rfl|rfl
 ·exact h
 exact fun _=>⟨q,r,d,wc,p,row,z,A,G,I,L⟩
theorem pS.le{n m:Int}{w:aj}(h:pS n w)(k:gu w.length m w)(h0:0≤m):n≤m:=by
 by_cases z:0<n
 ·obtain⟨q,r,d,wc,p,row,a,b,c,e,f⟩:=h z;exact(k.get (vk _) a b c).get (vk _) e f
 omega
theorem KU{T:aO}{VE:bq}{B:aU}{R:Ex→bq→aU→Prop}{k:Key}{a b:IC}{t:Bool}{p q:Prop}(z:aN VE k.n=some (.d (.b t)))(A:t=true→p→VC T a VE B R)(h2:t=false→q→VC T b VE B R)(G:(t=true)=p:=by first|(simp only[fy,im,hO,ov,fW];first|done|rfl)|rfl)(I:(t=false)=q:=by first|(simp only[fy,im,hO,ov,fW];first|done|rfl)|rfl):VC T (.cond (.t k) a b) VE B R:=cO z (fun h=>A h (Eq.mp G h)) (fun h=>h2 h (Eq.mp I h))
theorem vo_splitG{T:aO}{VE:bq}{B:aU}{g:Key}{t:Bool}{p q:Prop}{ops:List bl}{Q:bq→aU→Prop}(z:aN VE g.n=some (.d (.b t)))(A:t=true→p→VO T ops VE B Q)(h2:t=false→q→VO T ops VE B Q)(G:(t=true)=p:=by first|(simp only[fy,im,hO,ov,fW];first|done|rfl)|rfl)(I:(t=false)=q:=by first|(simp only[fy,im,hO,ov,fW];first|done|rfl)|rfl):VO T ops VE B Q:=vo_split z (fun h=>A h (Eq.mp G h)) (fun h=>h2 h (Eq.mp I h))
@[reducible] def tJ:Ty:=.i .i64 (-9223372036854775808) 9223372036854775807
@[reducible] def dJ(x:Int):DC:=.i .i64 x
@[reducible] def dU(x:Int):VV:=.d (.i .u16 x)
theorem ai{k:IntKind}{lo hi z:Int}(A:lo≤z:=by first|omega|((try simp only[fW,zM,zN,fv,gy,jP,mU,m6,rA,vi] at*);omega))(h2:z≤hi:=by first|omega|((try simp only[fW,zM,zN,fv,gy,jP,mU,m6,rA,vi] at*);omega)):(Ty.i k lo hi).ok (.i k z):=dP A h2
theorem Ub{row:List Ty}{rows:aj}(z:Int)(h:af row rows)(A:z.toNat<rows.length:=by first|omega|((try simp only[fW,zM,zN,fv,gy,jP,mU,m6,rA,vi] at*);omega)):∃r,rows[z.toNat]?=some r∧fK row r:=⟨_,dm A,mb h (dm A)⟩
theorem okR_n6{z p1 p2 p3 A G:Ty}{l:List DC}(h:fK [z,p1,p2,p3,A,G] l):∃d0 d1 d2 d3 d4 d5,l=[d0,d1,d2,d3,d4,d5]∧z.ok d0∧p1.ok d1∧p2.ok d2∧p3.ok d3∧A.ok d4∧G.ok d5:=by
 obtain⟨d0,_,rfl,I,h⟩:=eP h;obtain⟨d1,_,rfl,L,h⟩:=eP h;obtain⟨d2,_,rfl,M,h⟩:=eP h;obtain⟨d3,_,rfl,O,h⟩:=eP h;obtain⟨d4,_,rfl,U,h⟩:=eP h;obtain⟨d5,_,rfl,Y,h⟩:=eP h;obtain rfl:=oT h;exact⟨d0,d1,d2,d3,d4,d5,aa,I,L,M,O,U,Y⟩
theorem adE{A p1 p2 p3 G I L:Ty}{l:List DC}(h:fK [A,p1,p2,p3,G,I,L] l):∃d0 d1 d2 d3 d4 d5 z,l=[d0,d1,d2,d3,d4,d5,z]∧A.ok d0∧p1.ok d1∧p2.ok d2∧p3.ok d3∧G.ok d4∧I.ok d5∧L.ok z:=by
 obtain⟨d0,_,rfl,M,h⟩:=eP h;obtain⟨d1,_,rfl,O,h⟩:=eP h;obtain⟨d2,_,rfl,U,h⟩:=eP h;obtain⟨d3,_,rfl,Y,h⟩:=eP h;obtain⟨d4,_,rfl,Z,h⟩:=eP h;obtain⟨d5,_,rfl,k5,h⟩:=eP h;obtain⟨z,_,rfl,k6,h⟩:=eP h;obtain rfl:=oT h;exact⟨d0,d1,d2,d3,d4,d5,z,aa,M,O,U,Y,Z,k5,k6⟩
theorem bh{p:Prop}(h:p:=by simp):p:=h
theorem bW{p:Prop}(h:p:=by first|(intro _;rfl)|(intro h;rw[h];rfl)|(intro h;exact absurd (congrArg List.length h) (by simp only[jP];exact ae))):p:=h
theorem cE{p:Prop}(h:p:=by simp only[fv,gy,jP];omega):p:=h
theorem dz{p:Prop}(h:p:=by assumption):p:=h
theorem vQ{p:Prop}(h:p:=by simp only[fv,gy,jP,m6,rA];exact ae):p:=h
theorem mz{p:Prop}(h:p:=by first|omega|(simp only[fv,gy,jP];omega)):p:=h
theorem rP{p:Prop}(h:p:=by first|(simp only[fy] at*;omega)|(simp only[fy,gK,false_iff] at*;omega)|(refine Iff.trans (by assumption) ?_;omega)):p:=h
theorem EF{p:Prop}(h:p:=by first|(simp only[fy,gK,false_iff,true_iff];omega)|(simp;omega)):p:=h
theorem yZ{p:Prop}(h:p:=by first|exact .inl ae|exact .inr ⟨_,(by assumption),ae⟩):p:=h
theorem BP{p:Prop}(h:p:=by simp only[fv,gy,jP];exact ae):p:=h
theorem H6{p:Prop}(h:p:=by first|rfl|simp only[mU]):p:=h
theorem H7{p:Prop}(h:p:=by first|(constructor<;>intro z<;>(try simp only[fy,im,hO,ov] at*)<;>first|omega|(simp_all;omega)|(simp_all;done))):p:=h
theorem MR{p:Prop}(h:p:=by first|exact⟨fun h=>(by cases h),fun h=>absurd h (by assumption)⟩|exact⟨fun _=>(by assumption),fun _=>rfl⟩):p:=h
theorem MS{p:Prop}(h:p:=by simp only[jP];exact ae):p:=h
theorem MT{p:Prop}(h:p:=by first|omega|assumption|(simp only[fv,gy,jP];omega)):p:=h
theorem MU{p:Prop}(h:p:=by first|exact fun _=>ae|(intro h;simp at h;omega)):p:=h
theorem Uc{p:Prop}(h:p:=by simp only[gy,jP];omega):p:=h
theorem Ud{p:Prop}(h:p:=by first|assumption|exact widthTo_0|exact aaF|exact gu.mono (by assumption) ae|exact jO.step (by assumption) ae (by assumption) rfl ae ae|exact gu.step (by assumption) ae (by assumption) rfl (by assumption) (by assumption) ae):p:=h
end Go.Ev
namespace Go.Ev.Pp
end Go.Ev.Pp
namespace Go.Ev
open Go
def tX(id:Int)(w:aj):Prop:=∃(q:Nat)(row:List DC),w[q]?=some row∧row[0]?=some (.i .i64 id)∧row[5]?=some (.i .i64 1099511627776)
def kQ(k id:Int)(w:aj):Prop:=∀(q:Nat)(row:List DC),(q:Int)<k→w[q]?=some row→row[0]?=some (.i .i64 id)→row[5]?=some (.i .i64 1099511627776)→False
theorem tX.mk{id a b:Int}{w:aj}{q:Nat}{row:List DC}(z:w[q]?=some row)(h0:row[0]?=some (.i .i64 a))(A:row[5]?=some (.i .i64 b))(G:a=id)(I:b=1099511627776):tX id w:=⟨q,row,z,G▸h0,I▸A⟩
theorem afX{id:Int}{w:aj}:kQ 0 id w:=fun q _ h=>by omega
theorem kQ.afY{k id a:Int}{w:aj}{row:List DC}(h:kQ k id w)(h0:0≤k)(G:w[k.toNat]?=some row)(I:row[0]?=some (.i .i64 a))(L:a≠id):kQ (k+1) id w:=fun q r U z A M=>by
 by_cases O:(q:Int)<k
 ·exact h q r O z A M
 have:q=k.toNat:=by omega
 subst this;rw[G] at z;cases z;rw[I] at A;cases A;exact L aa
theorem kQ.afZ{k id a:Int}{w:aj}{row:List DC}(h:kQ k id w)(h0:0≤k)(G:w[k.toNat]?=some row)(I:row[5]?=some (.i .i64 a))(L:a≠1099511627776):kQ (k+1) id w:=fun q r U z M A=>by
 by_cases O:(q:Int)<k
 ·exact h q r O z M A
 have:q=k.toNat:=by omega
 subst this;rw[G] at z;cases z;rw[I] at A;cases A;exact L aa
theorem kQ.all{k id:Int}{w:aj}(h:kQ k id w)(I:(w.length:Int)≤k):kQ w.length id w:=fun q r L z A G=>h q r aq z A G
theorem find_ge{y id:Int}{w:aj}(A:(0≤y→tX id w)∧(y<0→kQ w.length id w))(G:tX id w):0≤y:=by
 by_cases h:0≤y
 ·exact h
 obtain⟨q,row,z,I,L⟩:=G;have:=(List.getElem?_eq_some_iff.1 z).1;exact(A.2 aq q row aq z I L).elim
def vR(k:Int)(w wc:aj):Prop:=∀(p:Nat)(row:List DC)(id:Int),(p:Int)<k→wc[p]?=some row→row[0]?=some (.i .i64 id)→tX id w
theorem allV_0{w wc:aj}:vR 0 w wc:=fun q _ _ h=>by omega
theorem vR.step{k id:Int}{w wc:aj}{row:List DC}(h:vR k w wc)(h0:0≤k)(G:wc[k.toNat]?=some row)(I:row[0]?=some (.i .i64 id))(L:tX id w):vR (k+1) w wc:=fun q r i O z A=>by
 by_cases M:(q:Int)<k
 ·exact h q r i M z A
 have:q=k.toNat:=by omega
 subst this;rw[G] at z;cases z;rw[I] at A;cases A;exact L
theorem vR.get{k id:Int}{w wc:aj}{row:List DC}{q:Nat}(h:vR k w wc)(G:(wc.length:Int)≤k)(z:wc[q]?=some row)(A:row[0]?=some (.i .i64 id)):tX id w:=by
 have:=(List.getElem?_eq_some_iff.1 z).1;exact h q row id aq z A
end Go.Ev
