/- Part 19 of rules for walks through the code of a program, and of such walks; what each part proves is said by its theorems. -/
import Derived.Test.YtdaamclhcpjdpaaGreatDoorR18
set_option linter.unusedVariables false
set_option linter.unusedSimpArgs false
noncomputable section
set_option maxRecDepth 100000
set_option maxHeartbeats 4000000
namespace Go.Ev
open Go
inductive Ty where
 |i (k:IntKind) (lo hi:Int)
 |b
 |s (n:Nat)
 |l (n:Nat) (row:List Ty)
 |e (d:DC)
 |x
 |q (p:DC→Prop)
mutual
def Ty.ok:Ty→DC→Prop
 |.i k lo hi,d=>∃z,d= .i k z∧lo≤z∧z≤hi
 |.b,d=>∃b,d= .b b
 |.s n,d=>∃s:List UInt8,d=aq s∧s.length≤n
 |.l n row,d=>∃rows,aA rows d∧rows.length≤n∧∀r,r∈rows→fC row r
 |.e x,d=>d=x
 |.x,_=>True
 |.q p,d=>p d
def fC:List Ty→List DC→Prop
 |[],l=>l=[]
 |p::ps,l=>∃d r,l=d::r∧p.ok d∧fC ps r
end
@[reducible] def af(row:List Ty)(rows:ak):Prop:=∀r,r∈rows→fC row r
theorem Ty.dH{k:IntKind}{lo hi:Int}{d:DC}(h:(Ty.i k lo hi).ok d):∃z,d= .i k z∧lo≤z∧z≤hi:=by simpa only[Ty.ok] using h
theorem Ty.dY{d:DC}(h:Ty.b.ok d):∃b,d= .b b:=by simpa only[Ty.ok] using h
theorem Ty.bE{n:Nat}{d:DC}(h:(Ty.s n).ok d):∃s:List UInt8,d=aq s∧s.length≤n:=by simpa only[Ty.ok] using h
theorem Ty.aM{n:Nat}{row:List Ty}{d:DC}(h:(Ty.l n row).ok d):∃rows,aA rows d∧rows.length≤n∧af row rows:=by unfold Ty.ok at h;exact h
theorem Ty.Ek{x d:DC}(h:(Ty.e x).ok d):d=x:=by simpa only[Ty.ok] using h
theorem Ek{x:DC}:(Ty.e x).ok x:=by simp only[Ty.ok]
theorem bX{x:DC}:Ty.x.ok x:=by simp only[Ty.ok]
theorem Ty.bA{p:DC→Prop}{d:DC}(h:(Ty.q p).ok d):p d:=by simpa only[Ty.ok] using h
theorem bA{p:DC→Prop}{d:DC}(h:p d):(Ty.q p).ok d:=by simpa only[Ty.ok] using h
theorem dH{k:IntKind}{lo hi z:Int}(A:lo≤z)(h2:z≤hi):(Ty.i k lo hi).ok (.i k z):=by simp only[Ty.ok];exact⟨z,rfl,A,h2⟩
theorem dY{b:Bool}:Ty.b.ok (.b b):=by simp only[Ty.ok];exact⟨b,rfl⟩
theorem bE{n:Nat}{s:List UInt8}(h:s.length≤n):(Ty.s n).ok (aq s):=by simp only[Ty.ok];exact⟨s,rfl,h⟩
theorem aM{n:Nat}{row:List Ty}{d:DC}{rows:ak}(z:aA rows d)(h2:rows.length≤n)(A:af row rows):(Ty.l n row).ok d:=by simp only[Ty.ok];exact⟨rows,z,h2,A⟩
theorem gp{n:Nat}{row:List Ty}:(Ty.l n row).ok .nil:=aM (rows:=[]) (.inr ⟨rfl,rfl⟩) (gT _) fun _ h=>by cases h
theorem ok_sl{n:Nat}{row:List Ty}{rows:ak}(h2:rows.length≤n)(z:af row rows):(Ty.l n row).ok (.sl rows):=aM (.inl rfl) h2 z
theorem bg:fC [] []:=by simp only[fC]
theorem aj{p:Ty}{ps:List Ty}{d:DC}{r:List DC}(h:p.ok d)(k:fC ps r):fC (p::ps) (d::r):=by rw[fC];exact⟨d,r,rfl,h,k⟩
theorem eM{p:Ty}{ps:List Ty}{l:List DC}(h:fC (p::ps) l):∃d r,l=d::r∧p.ok d∧fC ps r:=by rwa [fC] at h
theorem oZ{l:List DC}(h:fC [] l):l=[]:=by rwa [fC] at h
theorem QN:∀{ps:List Ty}{l:List DC},fC ps l→l.length=ps.length
 |[],l,h=>by rw[oZ h];rfl
 |p::ps,l,h=>by obtain⟨d,r,rfl,_,h⟩:=eM h;rw[gr,gr,QN h]
theorem bT{row:List Ty}:af row []:=fun _ h=>by cases h
theorem dC{row:List Ty}{a b:ak}(h:af row a)(k:af row b):af row (a++b):=fun r z=>(List.mem_append.1 z).elim (h r) (k r)
theorem dr{row:List Ty}{r:List DC}(h:fC row r):af row [r]:=fun _ z=>by rcases List.mem_singleton.1 z with rfl;exact h
theorem hO{row:List Ty}{a:ak}{l n:Nat}(h:af row a):af row ((a.drop l).take n):=fun r z=>h r (DV (yh z))
theorem e8{row:List Ty}{a:ak}{j:Nat}{r:List DC}(h:af row a)(k:fC row r):af row (a.set j r):=fun q z=>(Tk z).elim (h q) fun e=>e▸k
theorem FG{row:List Ty}{r:List DC}{n:Nat}(k:fC row r):af row (List.replicate n r):=fun q z=>(List.eq_of_mem_replicate z)▸k
theorem cO{row:List Ty}{rows:ak}{es:Nat}(h:af row rows)(z:row.length=es):∀r,r∈rows→r.length=es:=fun r A=>(QN (h r A)).trans z
theorem mN{row:List Ty}{rows:ak}(h:af row rows){j:Nat}{r:List DC}(z:rows[j]?=some r):fC row r:=h r (hZ z)
variable{T:aN}{VE:bo}{B:aT}{Q:VV→aT→Prop}
theorem bz{z:Int}{n:Nat}(h0:0≤z)(A:z<n):∃j:Nat,z=j∧j<n:=⟨z.toNat,(AE h0).symm,ah⟩
theorem aI{x i:aH}{es:Nat}{k:IntKind}{rows:ak}{r:List DC}{d:DC}{z:Int}(A:x.vv VE=some (.d d))(hi:i.vv VE=some (.d (.i k z)))(G:aA rows d)(h0:0≤z)(I:rows[z.toNat]?=some r)(L:r.length=es)(M:Q (.rp r 0) B):VI T (.iE es x i) VE B [] Q:=by
 obtain⟨j,rfl⟩:∃j:Nat,z=j:=⟨z.toNat,(AE h0).symm⟩;exact vi_idxD A G hi I L M
theorem lr{es:Nat}{x:aH}{lo hi:Option aH}{rows:ak}{row:List Ty}{d:DC}{l h:Nat}(M:x.vv VE=some (.d d))(hd:aA rows d)(z:af row rows)(he:row.length=es)(I:rows=[]→d= .nil)(O:yy VE hi rows.length h)(U:yy VE lo 0 l)(L:l≤h)(A:h≤rows.length)
  (Y:∀Z,aA ((rows.drop l).take (h-l)) Z→Q (.d Z) B):VI T (.yl es x lo hi) VE B [] Q:=by
 cases rows with
 |cons r0 rs=>exact vi_slD M hd (cO z he) (Nat.zero_lt_succ _) O U L A (Y _ (.inl rfl))
 |nil=>
  obtain rfl:=I rfl;obtain rfl:h=0:=by simpa using A
  obtain rfl:l=0:=by omega
  intro H0 X0 E H β z;obtain⟨a,h1,h2⟩:=z.bD M;simp only[aG,bH] at h2;subst h2;refine eO (v:=.fE) (fun call=>?_) (dy z (v:=.d .nil) (by simp only[aG,bH]) (Y .nil (.inr ⟨rfl,rfl⟩)))
  show bk x _ (.err 16) (fun v=>eR v (.err 16) (eb _ hi 0 0 (.err 16) fun h=>eb _ lo 0 h (.err 16) fun _=>.ok .fE H)
   fun f g off ln G=>aD (Nat.beq es G) (eb _ hi ln (yq g off es ln) (.err 16) fun h=>eb _ lo 0 h (.err 16) fun lo=>
    ct (Nat.add off (Nat.mul lo es)) fun off=>ct (Nat.sub h lo) fun n=>.ok (.slice f g off n G) H) (.err 16))=_
  rw[cL,h1,cI];show eb _ hi 0 0 (aC.err 16) (fun h=>eb _ lo 0 h (.err 16) fun _=>.ok .fE H)=_;rw[K6 (d:=0) z O (bq _) (bq _),K6 z U (bq _) (bq _)]
def za:IntKind→Int
 |.i64=> -9223372036854775808
 |_=>0
def zb:IntKind→Int
 |.i64=>9223372036854775807
 |.u8=>255
 |.u16=>65535
 |.u64=>18446744073709551615
 |_=>0
def Xb:IntKind→Bool
 |.i64=>true
 |.u8=>true
 |.u16=>true
 |.u64=>true
 |_=>false
theorem afE{k:IntKind}(h:Xb k=true){n:Int}(z:za k≤n)(h2:n≤zb k):k.wrap n=n:=by
 cases k<;>first|cases h|skip
 all_goals(simp only[za,zb] at z h2;simp[IntKind.wrap,IntKind.bits,IntKind.signed])
 all_goals(first|omega|(split<;>omega))
theorem fr{k:IntKind}{x:aH}{z:IntKind}{n:Int}(A:x.vv VE=some (.d (.i z n)))(h:Xb k=true)(G:za k≤n)(h2:n≤zb k)(I:Q (.d (.i k n)) B):VI T (.conv k x) VE B [] Q:=
 aa1 A (by rw[afE h G h2];exact I)
theorem c6{x y:aH}{k:IntKind}{a b:Int}(z:x.vv VE=some (.d (.i k a)))(A:y.vv VE=some (.d (.i k b)))(h0:kW b 0=false)(G:0≤a)(_hb:0<b)(I:Q (.d (.i k (a % b))) B):VI T (.bin .rem x y) VE B [] Q:=
 aba z A h0 (by rw[afu G];exact I)
theorem Zw{mx:Bool}{x y:aH}{k:IntKind}{a b:Int}(G:x.vv VE=some (.d (.i k a)))(I:y.vv VE=some (.d (.i k b)))(L:∀z,((mx=true→a≤z∧b≤z)∧(mx=false→z≤a∧z≤b)∧(z=a∨z=b))→Q (.d (.i k z)) B):VI T (.xb mx x [y]) VE B [] Q:=fun _ _ E H _ A=>by
 have M:=A.rZ G;have h2:=A.rZ I;refine eO (v:=.int k (aD (aD mx (fq a b) (fq b a)) b a)) (fun call=>?_) (dy A (v:=.d (.i k (aD (aD mx (fq a b) (fq b a)) b a))) (by simp only[aG,bH]) (L _ ?_))
 ·show bk x E (.err 29) (fun a=>ff a (.err 29) fun k a=>ob (ik E [y]) (.err 29) fun vs=>ob (EO mx k vs a) (.err 29) fun v=>.ok v H)=_;rw[cL,M,cI];show ob (ik E [y]) (aC.err 29) (fun vs=>ob (EO mx k vs a) (.err 29) fun v=>.ok v H)=_;rw[Z2 h2 evs_nil,cI];show ob (lq (aD (aD mx (fq a b) (fq b a)) b a) fun a=>some (al.int k a)) (aC.err 29) (fun v=>aC.ok v H)=_;rw[wK];rfl
 cases mx
 ·have e:aD (aD false (fq a b) (fq b a)) b a=if b<a then b else a:=by
   show aD (fq b a) b a=_;rw[nL]
   by_cases h:b<a
   ·rw[decide_eq_true h,bh h];rfl
   rw[decide_eq_false h,aZ h];rfl
  rw[e];refine⟨fun e=>(by cases e),fun _=>?_,?_⟩<;>split<;>omega
 have e:aD (aD true (fq a b) (fq b a)) b a=if a<b then b else a:=by
  show aD (fq a b) b a=_;rw[nL]
  by_cases h:a<b
  ·rw[decide_eq_true h,bh h];rfl
  rw[decide_eq_false h,aZ h];rfl
 rw[e];refine⟨fun _=>?_,fun e=>(by cases e),?_⟩<;>split<;>omega
theorem pZ{x y:aH}{k:IntKind}{a b:Int}(A:x.vv VE=some (.d (.i k a)))(G:y.vv VE=some (.d (.i k b)))(I:∀z,a≤z∧b≤z∧(z=a∨z=b)→Q (.d (.i k z)) B):VI T (.xb true x [y]) VE B [] Q:=
 Zw A G fun z h=>I z ⟨(h.1 rfl).1,(h.1 rfl).2,h.2.2⟩
theorem zP{x y:aH}{k:IntKind}{a b:Int}(A:x.vv VE=some (.d (.i k a)))(G:y.vv VE=some (.d (.i k b)))(I:∀z,z≤a∧z≤b∧(z=a∨z=b)→Q (.d (.i k z)) B):VI T (.xb false x [y]) VE B [] Q:=
 Zw A G fun z h=>I z ⟨(h.2.1 rfl).1,(h.2.1 rfl).2,h.2.2⟩
theorem Yg{H:aw}{X:Nat→Prop}{β:Nat→Nat}:∀{ks:List Nat}{r r':List DC}{l U:List al},gQ ks r=true→gQ ks r'=true→bb H X β (r.map .d) l→bb H X β (r'.map .d) U→ga ks l=true∧ga ks U=true∧∃b,mP l U=some b
 |[],[],[],l,U,_,_,h,h'=>by
  simp only[AB,bb] at h h';subst h;subst h';exact⟨aa,aa,true,aa⟩
 |[],_::_,_,_,_,h,_,_,_=>by cases h
 |[],[],_::_,_,_,_,h,_,_=>by cases h
 |_::_,[],_,_,_,h,_,_,_=>by cases h
 |_::_,_::_,[],_,_,_,h,_,_=>by cases h
 |c::ks,d::r,d'::r',l,U,Y,z,h,h'=>by
  simp only[jo,bb] at h h';obtain⟨a,l,rfl,G,h2⟩:=h;obtain⟨a',U,rfl,I,WK⟩:=h';have go:(gQ ks r=true∧gQ ks r'=true)→rA c a=true→rA c a'=true→(∃b,wO a a'=some b)→ga (c::ks) (a::l)=true∧ga (c::ks) (a'::U)=true∧∃b,mP (a::l) (a'::U)=some b:=fun⟨g,g'⟩k L⟨b,hb⟩=>by
   obtain⟨e1,e2,b2,e3⟩:=Yg g g' h2 WK;refine⟨by simp only[ga,k,e1];rfl,by simp only[ga,L,e2];rfl,?_⟩;simp only[mP,hb,e3]
   cases b
   ·exact⟨false,aa⟩
   exact⟨b2,aa⟩
  simp only[aG] at G I
  cases d with
  |i k n=>
   obtain⟨M,Z⟩:=hY (show(Nat.beq (cu k) c&&gQ ks r)=true from Y);simp only[bH] at G;subst G
   cases d' with
   |i L n'=>
    obtain⟨A,O⟩:=hY (show(Nat.beq (cu L) c&&gQ ks r')=true from z);simp only[bH] at I;subst I;have e:cu k=cu L:=(cq M).trans (cq A).symm;refine go ⟨Z,O⟩ M A ?_;simp only[wO,e,show Nat.beq (cu L) (cu L)=true from ia _];exact⟨_,aa⟩
   |b t=>obtain⟨A,_⟩:=hY (show(Nat.beq c 100&&gQ ks r')=true from z);have G:=cq M;have h2:=cq A;exact absurd (G.trans h2) (by cases k<;>decide)
   |s m v=>obtain⟨A,_⟩:=hY (show(Nat.beq c 101&&gQ ks r')=true from z);have G:=cq M;have h2:=cq A;exact absurd (G.trans h2) (by cases k<;>decide)
   |nil=>cases z
   |sl _=>cases z
   |raw _ _ _=>cases z
  |b t=>
   obtain⟨M,Z⟩:=hY (show(Nat.beq c 100&&gQ ks r)=true from Y);simp only[bH] at G;subst G
   cases d' with
   |i L n'=>obtain⟨A,_⟩:=hY (show(Nat.beq (cu L) c&&gQ ks r')=true from z);have G:=cq M;have h2:=cq A;exact absurd (h2.trans G) (by cases L<;>decide)
   |b t'=>
    obtain⟨A,O⟩:=hY (show(Nat.beq c 100&&gQ ks r')=true from z);simp only[bH] at I;subst I;exact go ⟨Z,O⟩ M A ⟨_,aa⟩
   |s m v=>obtain⟨A,_⟩:=hY (show(Nat.beq c 101&&gQ ks r')=true from z);have G:=cq M;have h2:=cq A;exact absurd (G.symm.trans h2) ao
   |nil=>cases z
   |sl _=>cases z
   |raw _ _ _=>cases z
  |s m v=>
   obtain⟨M,Z⟩:=hY (show(Nat.beq c 101&&gQ ks r)=true from Y);simp only[bH] at G;subst G
   cases d' with
   |i L n'=>obtain⟨A,_⟩:=hY (show(Nat.beq (cu L) c&&gQ ks r')=true from z);have G:=cq M;have h2:=cq A;exact absurd (h2.trans G) (by cases L<;>decide)
   |b t'=>obtain⟨A,_⟩:=hY (show(Nat.beq c 100&&gQ ks r')=true from z);have G:=cq M;have h2:=cq A;exact absurd (G.symm.trans h2) ao
   |s m' v'=>
    obtain⟨A,O⟩:=hY (show(Nat.beq c 101&&gQ ks r')=true from z);simp only[bH] at I;subst I;exact go ⟨Z,O⟩ M A ⟨_,aa⟩
   |nil=>cases z
   |sl _=>cases z
   |raw _ _ _=>cases z
  |nil=>cases Y
  |sl _=>cases Y
  |raw _ _ _=>cases Y
theorem wX{neg:Bool}{ks:List Nat}{x y:aH}{r r':List DC}(L:x.vv VE=some (.agg (r.map .d)))(M:y.vv VE=some (.agg (r'.map .d)))(O:gQ ks r=true)(A:gQ ks r'=true)(U:∀b,Q (.d (.b b)) B):VI T (.eqv (.agg ks) neg x y) VE B [] Q:=fun _ X0 _ H β G=>by
 obtain⟨a,Y,h2⟩:=G.bD L;obtain⟨b,Z,z⟩:=G.bD M;simp only[aG] at h2 z;obtain⟨l,rfl,h2⟩:=h2;obtain⟨I,rfl,z⟩:=z;obtain⟨k1,k2,t,k3⟩:=Yg O A h2 z;refine eO (v:=.bool (Bool.xor neg t)) (fun call=>?_) (dy G (v:=.d (.b (Bool.xor neg t))) (by simp only[aG,bH]) (U _));show bk x _ (.err 7) (fun a=>bk y _ (.err 7) fun b=>ob (nq (.agg ks) a b) (.err 7) fun r=>nH (Bool.xor neg r) fun r=>.ok (.bool r) _)=_;rw[cL,Y,cI,cL,Z,cI];show ob (aD (ga ks l) (aD (ga ks I) (mP l I) none) none) _ _=_;rw[k1,k2,k3]
 cases neg<;>cases t<;>rfl
def isCmp:BinOp→Bool
 |.lss=>true
 |.leq=>true
 |.gtr=>true
 |.geq=>true
 |_=>false
theorem K8{op:BinOp}{x y:aH}{a b:List UInt8}(A:x.vv VE=some (.d (aq a)))(G:y.vv VE=some (.d (aq b)))(ho:isCmp op=true)(I:∀b,Q (.d (.b b)) B):VI T (.bin op x y) VE B [] Q:=fun _ _ _ _ _ z=>by
 obtain⟨t,L⟩:∃t,Ee op (.str a.length (pack a)) (.str b.length (pack b))=some (.bool t):=by
  cases op<;>first|exact⟨_,rfl⟩|(cases ho;done)
 exact zM (z.str A) (z.str G) (v:=.bool t) L (dy z (v:=.d (.b t)) (by simp only[aG,bH]) (I _))
theorem cA{row:List Ty}{r:List DC}{rs:ak}(h:fC row r)(k:af row rs):af row (r::rs):=fun q z=>by
 rcases List.mem_cons.1 z with rfl|z
 ·exact h
 exact k q z
theorem QO{x y:aH}{k:IntKind}{a b:Int}(A:x.vv VE=some (.d (.i k a)))(G:y.vv VE=some (.d (.i k b)))(I:0≤a)(L:0<b)(M:∀z,0≤z→z<b→Q (.d (.i k z)) B):VI T (.bin .rem x y) VE B [] Q:=
 aba A G (by rw[td];exact decide_eq_false ah) (by rw[afu I];exact M _ (Int.emod_nonneg _ ah) (Int.emod_lt_of_pos _ L))
theorem wY{x y:aH}{k:IntKind}{a b:Int}(A:x.vv VE=some (.d (.i k a)))(G:y.vv VE=some (.d (.i k b)))(h0:kW b 0=false)(I:Xb k=true)(z:0≤a)(O:0<b)(L:a/b≤zb k)(h2:za k≤0)(M:Q (.d (.i k (a/b))) B):VI T (.bin .quo x y) VE B [] Q:=
 aa9 A G h0 (by rw[lm128 z,afE I (Tl h2 (Int.ediv_nonneg z ah)) L];exact M)
theorem jz{c:IC}{R:Ex→bo→aT→Prop}(b i g elem aF es:Nat){e A:Nat}{row:List VV}(G:aL B b=some (.one e A row))(hi:row[i]?=some (.d .nil))(L:aL B g=none)(h:VC T c VE ((g,.acc elem aF es [])::(b,.one e A (row.set i (.ac g 0 es)))::B) R):VC T c VE B R:=
 fun H0 X0 E H β M=>(h H0 X0 E H β (M.ghostB G hi L)).mono fun _ _ _ O=>O.more fun c s z ho=>by
  rw[dn] at z
  by_cases I:g=c
  ·rw[bh I] at z;cases z;exact absurd rfl ho
  rw[aZ I,dn] at z
  by_cases k:b=c
  ·subst k;exact⟨_,G,trivial⟩
  rw[aZ k] at z;exact⟨s,z,ho⟩
theorem zL(z:Int): -9223372036854775808≤IntKind.i64.wrap z∧IntKind.i64.wrap z≤9223372036854775807:=by
 simp only[IntKind.wrap,IntKind.bits,IntKind.signed];simp;constructor<;>split<;>omega
theorem ta{x y:aH}{a b:Int}(A:x.vv VE=some (.d (.i .i64 a)))(G:y.vv VE=some (.d (.i .i64 b)))(I:∀z, -9223372036854775808≤z∧z≤9223372036854775807→Q (.d (.i .i64 z)) B):VI T (.bin .add x y) VE B [] Q:=aa7 A G (I _ (zL _))
theorem abc{x y:aH}{a b:Int}(A:x.vv VE=some (.d (.i .i64 a)))(G:y.vv VE=some (.d (.i .i64 b)))(I:∀z, -9223372036854775808≤z∧z≤9223372036854775807→Q (.d (.i .i64 z)) B):VI T (.bin .sub x y) VE B [] Q:=aa8 A G (I _ (zL _))
theorem vi_mulW{x y:aH}{a b:Int}(A:x.vv VE=some (.d (.i .i64 a)))(G:y.vv VE=some (.d (.i .i64 b)))(I:∀z, -9223372036854775808≤z∧z≤9223372036854775807→Q (.d (.i .i64 z)) B):VI T (.bin .mul x y) VE B [] Q:=vi_mulK A G (I _ (zL _))
theorem vi_quoW{x y:aH}{a b:Int}(A:x.vv VE=some (.d (.i .i64 a)))(G:y.vv VE=some (.d (.i .i64 b)))(h0:¬b=0)(I:∀z, -9223372036854775808≤z∧z≤9223372036854775807→Q (.d (.i .i64 z)) B):VI T (.bin .quo x y) VE B [] Q:=aa9 A G (by rw[td];exact decide_eq_false h0) (I _ (zL _))
theorem aah{neg:Bool}{x y:aH}{t u:Bool}(G:x.vv VE=some (.d (.b t)))(I:y.vv VE=some (.d (.b u)))(L:∀b,Q (.d (.b b)) B):VI T (.eqv .bool neg x y) VE B [] Q:=fun _ _ _ _ _ z=>by
 obtain⟨_,M,h2⟩:=z.bD G;obtain⟨_,O,A⟩:=z.bD I;simp only[aG,bH] at h2 A;subst h2;subst A;have e:∃r,nq .bool (.bool t) (.bool u)=some r:=by cases t<;>cases u<;>exact⟨_,rfl⟩
 obtain⟨r,e⟩:=e;exact F4 M O e (dy z (v:=.d (.b (Bool.xor neg r))) (by simp only[aG,bH]) (L _))
theorem FH{elem es aF:Nat}{zero:List al}{z:List VV}{A:List DC}{x y:aH}{n:Nat}(b:Nat)(L:nw b VE=true)(M:lU b B=true)(O:pY zero=some z)(G:im z=some A)(I:zero.length=es)(U:x.vv VE=some (.d (.i .i64 (n:Int))))(Y:y.vv VE=some (.d (.i .i64 (n:Int))))
  (Z:n*aF≤70368744177664) (h2:n≤4611686018427387904) (hq:∀rows,rows=List.replicate n A→rows.length=n→Q (.bs b rows.length es) ((b,.arr elem aF es rows.length rows)::B)):VI T (.vB elem es aF zero x y) VE B [] Q:=
 vi_mksl b L M O G I U Y Z h2 (by
  have:=hq (List.replicate n A) rfl vd
  rwa [vd] at this)
theorem eI{es:Nat}{x:aH}{lo hi:Option aH}{rows:ak}{row:List Ty}{d:DC}{l h:Nat}(M:x.vv VE=some (.d d))(O:aA rows d)(L:af row rows)(U:row.length=es)(A:rows=[]→d= .nil)(Y:yy VE hi rows.length h)(Z:yy VE lo 0 l)(G:l≤h)(I:h≤rows.length)
  (hq:∀z w,aA w z→w.length=h-l→af row w→Q (.d z) B):VI T (.yl es x lo hi) VE B [] Q:=
 lr M O L U A Y Z G I fun z h1=>hq z _ h1 (by rw[lF,rG];omega) (hO L)
theorem tq{rows:ak}{d:DC}(h:0<rows.length):rows=[]→d= .nil:=fun e=>by rw[e] at h;cases h
theorem KD{x i:aH}{z j:Nat}{l:List VV}{v:VV}{k:IntKind}(M:x.vv VE=some (.agg l))(hi:i.vv VE=some (.d (.i k (j:Int))))(O:j<z)(U:l[j]?=some v)(Y:Q v B):VI T (.CM z 1 false x i) VE B [] Q:=fun _ _ _ _ _ A=>by
 obtain⟨_,Z,h2⟩:=A.bD M;obtain⟨_,i1,G⟩:=A.bD hi;simp only[aG] at h2 G;simp only[bH] at G;subst G;obtain⟨cs,rfl,h2⟩:=h2;obtain⟨a,h3,h4⟩:=h2.get U;obtain⟨L,h6⟩:=List.getElem?_eq_some_iff.1 h3;refine eO (v:=a) (fun call=>?_) (dy A h4 Y);show bk x _ (.err 13) (fun v=>mc v (.err 13) fun cs=>bk i _ (.err 13) fun I=>idx I z (.err 13) fun j=>aD (Nat.ble (Nat.add (Nat.mul j 1) 1) (gv cs)) (fH false ((cs.drop (Nat.mul j 1)).take 1) (.err 13) fun v=>.ok v _) (.err 13))=_;rw[cL,Z,cI];show bk i _ (.err 13) (fun I=>idx I z (.err 13) fun j=>aD (Nat.ble (Nat.add (Nat.mul j 1) 1) (gv cs)) (fH false ((cs.drop (Nat.mul j 1)).take 1) (.err 13) fun v=>.ok v _) (.err 13))=_;rw[cL,i1,cI];show aD (Nat.ble (Nat.succ j) z) (aD (Nat.ble (Nat.add (Nat.mul j 1) 1) (gv cs)) (fH false ((cs.drop (Nat.mul j 1)).take 1) (aC.err 13) fun v=>aC.ok v _) (aC.err 13)) (aC.err 13)=_;rw[gF O,dV,oO,show Nat.mul j 1=j from ND _,show Nat.ble (Nat.add j 1) cs.length=true from gF L,dV,IA L,xD,Nx,h6];rfl
theorem nG{fl:List FL}{d g:Key}{want t:Bool}{op:bn}{r:List bl}(A:aL VE g.n=some (.d (.b t)))(G:t=!want){Q:bo→aT→Prop}(h:VQ T r ((d.n,.k .undef)::VE) B fl Q):VQ T (⟨some d,some (g,want),none,op⟩::r) VE B fl Q:=by
 intro H0 X0 E H β z bc I;obtain⟨L,M,O,U,Y⟩:=h H0 X0 _ H β (z.set (d:=d) (v:=.k .undef) (a:=.undef) (by simp only[aG])) bc I;refine⟨L,M,O,fun lf n Z a2=>?_,Y⟩;show bl.jd (T.call lf n) ⟨some d,some (g,want),none,op⟩ E H bc (iC (T.call lf n) r)=_;rw[Kp (z.bool A),aZ (by rw[G];cases want<;>decide)];exact U lf n Z a2
theorem Fy{fl:List FL}{d g:Key}{want t:Bool}{l:List Nat}{op:bn}{r:List bl}(A:aL VE g.n=some (.d (.b t)))(G:t=!want){Q:bo→aT→Prop}(h:VQ T r ((d.n,.k .undef)::VE) B (.rd []::fl) Q):VQ T (⟨some d,some (g,want),some l,op⟩::r) VE B fl Q:=by
 intro H0 X0 E H β z bc I;obtain⟨L,M,O,U,Y⟩:=h H0 X0 _ H β (z.set (d:=d) (v:=.k .undef) (a:=.undef) (by simp only[aG])) (⟨some [],[],0,0⟩::bc) (I.cons ⟨rfl,rfl,[],rfl,fun f h=>by cases h⟩);refine⟨L,M,O,fun lf n Z a2=>?_,Y⟩;show bl.jd (T.call lf n) ⟨some d,some (g,want),some l,op⟩ E H bc (iC (T.call lf n) r)=_;rw[Kp (z.bool A),aZ (by rw[G];cases want<;>decide)];exact U lf n Z a2
theorem Yz{call:dG}{d:Option Key}{g:Key}{want:Bool}{q:Option (List Nat)}{op:bn}{bc:List FP}{E:Env}{H:aw}{K:Env→aw→List FP→dD}(z:E.get g=some .undef):
  bl.jd call ⟨d,some (g,want),q,op⟩ E H bc K=K (iJ E d .undef) H (nX q bc):=by
 show ob (E.get g) (.err 51) (fun v=>yp v (hU d E H fun E H=>K E H (nX q bc)) fun b=>aD (Bool.xor b want) (hU d E H fun E H=>K E H (nX q bc)) (bl.pg call ⟨d,some (g,want),q,op⟩ E H bc K))=_;rw[z,cI];show hU d E H (fun E H=>K E H (nX q bc))=_;rw[wR]
theorem bK{fl:List FL}{d g:Key}{want:Bool}{op:bn}{r:List bl}(A:aL VE g.n=some (.k .undef)){Q:bo→aT→Prop}(h:VQ T r ((d.n,.k .undef)::VE) B fl Q):VQ T (⟨some d,some (g,want),none,op⟩::r) VE B fl Q:=by
 intro H0 X0 E H β z bc G;obtain⟨a,I,h2⟩:=z.env g _ A;simp only[aG] at h2;subst h2;obtain⟨L,M,O,U,Y⟩:=h H0 X0 _ H β (z.set (d:=d) (v:=.k .undef) (a:=.undef) (by simp only[aG])) bc G;refine⟨L,M,O,fun lf n Z a2=>?_,Y⟩;show bl.jd (T.call lf n) ⟨some d,some (g,want),none,op⟩ E H bc (iC (T.call lf n) r)=_;rw[Yz I];exact U lf n Z a2
theorem dA{fl:List FL}{d g:Key}{want:Bool}{l:List Nat}{op:bn}{r:List bl}(A:aL VE g.n=some (.k .undef)){Q:bo→aT→Prop}(h:VQ T r ((d.n,.k .undef)::VE) B (.rd []::fl) Q):VQ T (⟨some d,some (g,want),some l,op⟩::r) VE B fl Q:=by
 intro H0 X0 E H β z bc G;obtain⟨a,I,h2⟩:=z.env g _ A;simp only[aG] at h2;subst h2;obtain⟨L,M,O,U,Y⟩:=h H0 X0 _ H β (z.set (d:=d) (v:=.k .undef) (a:=.undef) (by simp only[aG])) (⟨some [],[],0,0⟩::bc) (G.cons ⟨rfl,rfl,[],rfl,fun f h=>by cases h⟩);refine⟨L,M,O,fun lf n Z a2=>?_,Y⟩;show bl.jd (T.call lf n) ⟨some d,some (g,want),some l,op⟩ E H bc (iC (T.call lf n) r)=_;rw[Yz I];exact U lf n Z a2
theorem vi_storeA{n:Nat}{a x:aH}{b j o es elem aF:Nat}{rows:ak}{row z:List DC}{v:VV}{new:List VV}(ha:a.vv VE=some (.bp b rows.length j o es))(hb:aL B b=some (.acc elem aF es rows))(hx:x.vv VE=some v)(hv:v.cells=some new)(hd:im new=some z)(O:z.length=n)(h0:0<n)(hk:o+n≤es)
  (A:rows[j]?=some row) (hq:Q .undef ((b,.acc elem aF es (rows.set j (qJ row o z)))::B)):VI T (.store n a x) VE B [b] Q:=fun _ X0 _ H β L=>by
 obtain⟨_,h1,h2⟩:=L.bD ha;simp only[aG] at h2;subst h2;obtain⟨y,h3,h4⟩:=L.bD hx;obtain⟨t,h5,M⟩:=h4.cells hv;have M:=M.data hd;obtain⟨yX,cs,k1,k3,k4⟩:=(L.box b _ hb).resolve_left (fun e=>by rw[e] at A;cases A);obtain⟨l,k5,k6,k7⟩:=k4 j row A;have G:=(List.getElem?_eq_some_iff.1 A).1;have ht:t.length=n:=by rw[M.length,O]
 have U:=k7.length;have e:=fun K=>Tz (e:=aC.err 5) (K:=K) (q:=j) (o:=o) (n:=n) (new:=t) k1 ah G k5 k6 ht h0 hk
 refine⟨0,.undef,_,fun lf m _ _=>by rw[Qe h1 h3 h5,e],?_⟩;refine Fw (s':=.acc elem aF es (rows.set j (qJ row o z))) L hb (show rows≠[] from fun e=>by rw[e] at A;cases A) rfl (fun f hf=>?_) rfl rfl (fun X j1 Y=>?_) (fun X=>by simp only[aG]) hq
 ·show(H.t.set (β b) _).get f=_;rw[GT.di,aZ hf]
 have hlen:(bif Nat.beq n es then t else eE l o t).length=es:=by
  cases Z:Nat.beq n es with
  |true=>have:=cq Z;show t.length=_;omega
  |false=>show(eE l o t).length=_;simp only[eE,fA,lF,rG];omega
 refine .inr ⟨rows.length,cs.set j (bif Nat.beq n es then t else eE l o t),?_,by rw[kN];exact bq _,fun i I hi=>?_⟩
 ·show(H.t.set (β b) _).get (β b)=_;rw[GT.di,bh rfl,kN]
 rw[RT.di];rw[Th] at hi
 by_cases ei:i=j
 ·subst ei;rw[bh rfl,bh G] at hi
  cases hi
  rw[bh rfl];refine⟨_,aa,hlen,?_⟩;have h7:=Y _ _ M;have h8:=Y _ _ k7;have h9:=h8.eE o h7;unfold qJ;rw[O,←U,k6];rw[O] at h9;exact bU.bif h7 h9
 rw[aZ (fun k=>ei k.symm)] at hi;rw[aZ ei];obtain⟨l',m1,m2,m3⟩:=k4 i I hi;exact⟨l',m1,m2,Y _ _ m3⟩
theorem mF.less{n:Nat}{B B':aT}{β:Nat→Nat}{fl:List FL}{bc:List FP}(h:mF n B β fl bc)(k:∀b s,aL B' b=some s→aL B b=some s):mF n B' β fl bc:=
 ⟨h.1,fun i x r L M=>by
  have:=h.2 i x r L M
  cases x with
  |rd R=>obtain⟨a,b,l,c,d⟩:=this;exact⟨a,b,l,c,fun f z=>⟨(d f z).1,fun b s A G I=>(d f z).2 b s (k b s A) G I⟩⟩
  |qt=>exact this
  |off _=>exact this
  |wr _=>exact fun f z=>⟨(this f z).1,fun b s A G I=>(this f z).2 b s (k b s A) G I⟩
  |un=>trivial⟩
theorem aai{B:aT}{b:Nat}:∀c s,aL (du B b) c=some s→aL B c=some s:=fun c s h=>by
 rw[mL] at h
 by_cases e:b=c
 ·rw[bh e] at h;cases h
 rwa [aZ e] at h
theorem adh{ops:List bl}{fl:List FL}{Q:bo→aT→Prop}(k b:Nat){v:VV}{elem aF es lo:Nat}{rows:ak}(z:aL VE k=some v)(A:aL B b=some (.arr elem aF es lo rows))(ho:v.uq b rows.length es)(h:VQ T ops ((k,v.jN b (.sl rows))::VE) (du B b) fl Q):VQ T ops VE B fl Q:=
 fun H0 X0 E H β G bc I=>by
  obtain⟨L,M,O,U,Y⟩:=h H0 X0 E H β (G.jN A z ho) bc (I.less aai);exact⟨L,M,O,U,Y.more wS⟩
theorem lk{ops:List bl}{fl:List FL}{Q:bo→aT→Prop}(k b:Nat){v:VV}{elem aF es:Nat}{rows:ak}(z:aL VE k=some v)(A:aL B b=some (.acc elem aF es rows))(ho:v.wx b rows.length es)(h:VQ T ops ((k,v.ph b (.cE rows))::VE) (du B b) fl Q):VQ T ops VE B fl Q:=
 fun H0 X0 E H β G bc I=>by
  obtain⟨L,M,O,U,Y⟩:=h H0 X0 E H β (G.ph A z ho) bc (I.less aai);exact⟨L,M,O,U,Y.more wS⟩
theorem fZ{n:Nat}{a x:aH}{b j o es elem aF:Nat}{rows:ak}{row z:List DC}{v:VV}{new:List VV}(A:a.vv VE=some (.bp b rows.length j o es))(G:aL B b=some (.acc elem aF es rows))(I:x.vv VE=some v)(L:v.cells=some new)(M:im new=some z)(O:z.length=n)(h0:0<n)(U:o+n≤es)
  (Y:rows[j]?=some row) (Z:∀w,w=rows.set j (qJ row o z)→w.length=rows.length→Q .undef ((b,.acc elem aF es w)::B)):VI T (.store n a x) VE B [b] Q:=
 vi_storeA A G I L M O h0 U Y (Z _ rfl (kN ..))
theorem uD{n:Nat}{a x:aH}{b j o es elem aF lo:Nat}{rows:ak}{row z:List DC}{v:VV}{new:List VV}(A:a.vv VE=some (.bp b rows.length j o es))(G:aL B b=some (.arr elem aF es lo rows))(I:x.vv VE=some v)(L:v.cells=some new)(M:im new=some z)(O:z.length=n)(h0:0<n)(U:o+n≤es)
  (Y:rows[j]?=some row) (Z:∀w,w=rows.set j (qJ row o z)→w.length=rows.length→Q .undef ((b,.arr elem aF es rows.length w)::B)):VI T (.store n a x) VE B [b] Q:=
 Fx A G I L M O h0 U Y (Z _ rfl (kN ..))
theorem ae{p:Prop}(h:p:=by first|omega|((try simp only[fQ,za,zb,fA,gr,jF,kN,lF,rG,vd] at*);omega)):p:=h
theorem cD{T:aN}{VE:bo}{B:aT}{Q:bo→aT→Prop}{fl:List FL}{d:Key}{l:List Nat}{n:Nat}{w:Bool}{a:aH}{row:List DC}{o:Nat}{r:List bl}(ha:a.vv VE=some (.rp row o))(hk:l8 [] l fl=true)(h:VI T (.load n w a) VE B [] fun v B'=>VQ T r ((d.n,v)::VE) B' (.rd []::fl) Q):VQ T (⟨some d,none,some l,.load n w a⟩::r) VE B fl Q:=by
 intro H0 X0 E H β L bc I;obtain⟨N,v0,H',e,M,v,B',β',Y,O,hv,hq⟩:=uN h L;obtain⟨x,Z,A⟩:=L.bD ha;simp only[aG] at A;obtain⟨f,g,Q1,l1,rfl,_,_,hX,U⟩:=A;have z:H'=H.mark:=KC Z (e N N (bq _) (bq _));have G:H.mark.ws=[]∧H.mark.next=H.next:=by cases H;exact⟨rfl,rfl⟩
 have k:rX H.next B β (.rd []) ⟨(bn.load n w a).reads E,H'.ws,H.next,H'.next⟩:=by
  refine⟨by rw[z];exact G.1,by show H.next=H'.next;rw[z];exact G.2.symm,[f],?_,fun f' I=>?_⟩
  ·show some (fM (a.ev E))=_;rw[Z];rfl
  rcases List.mem_singleton.1 I with rfl
  exact⟨U,fun b s M h2 h3=>absurd (.inr ⟨b,s,M,h2,h3⟩) hX⟩
 obtain⟨N2,E2,H2,e2,hp⟩:=hq H0 X0 _ _ β' (O.set hv) (⟨(bn.load n w a).reads E,H'.ws,H.next,H'.next⟩::bc) ((I.cons k).step Y);refine⟨max N N2,E2,H2,fun lf n a1 a2=>?_,hp.of Y L.aQ⟩;show bl.jd (T.call lf n) ⟨some d,none,some l,_⟩ E H bc (iC (T.call lf n) r)=_;rw[uB,uC (e lf n ah ah) (wT I M hk)];exact e2 lf n ah ah
theorem aA.uniq{a b:ak}{d:DC}(h:aA a d)(k:aA b d):a=b:=by
 rcases h with rfl|⟨rfl,rfl⟩<;>rcases k with h|⟨rfl,h⟩<;>first|(cases h;rfl)|rfl|cases h
def jD(k n:Int)(w:ak):Prop:=∀(p:Nat)row z,(p:Int)<k→w[p]?=some row→row[0]?=some (.i .i64 z)→z≤n
def gn(k n:Int)(w:ak):Prop:=∀(q:Nat)r d wc,(q:Int)<k→w[q]?=some r→r[2]?=some d→aA wc d→jD wc.length n wc
theorem aaj{n:Int}{w:ak}:jD 0 n w:=fun p _ _ h=>by omega
theorem widthTo_0{n:Int}{w:ak}:gn 0 n w:=fun p _ _ _ h=>by omega
theorem jD.mono{k n m:Int}{w:ak}(h:jD k n w)(A:n≤m):jD k m w:=fun p r z a b c=>Tl (h p r z a b c) A
theorem gn.mono{k n m:Int}{w:ak}(h:gn k n w)(z:n≤m):gn k m w:=fun q r d wc a b c e=>(h q r d wc a b c e).mono z
theorem jD.step{k n m z:Int}{w:ak}{row:List DC}(h:jD k n w)(h0:0≤k)(G:w[k.toNat]?=some row)(I:row[0]?=some (.i .i64 z))(L:n≤m)(A:z≤m):jD (k+1) m w:=fun p r M a b c=>by
 by_cases O:(p:Int)<k
 ·exact Tl (h p r M O b c) L
 have:p=k.toNat:=by omega
 subst this;rw[G] at b;cases b;rw[I] at c;cases c;exact A
theorem gn.step{k n j:Int}{w wc:ak}{r:List DC}{d:DC}(h:gn k n w)(h0:0≤k)(G:w[k.toNat]?=some r)(I:r[2]?=some d)(L:aA wc d)(M:jD j n wc)(Z:(wc.length:Int)≤j):gn (k+1) n w:=fun q r' O A a b c e=>by
 by_cases U:(q:Int)<k
 ·exact h q r' O A U b c e
 have:q=k.toNat:=by omega
 subst this;rw[G] at b;cases b;rw[I] at c;cases c;have:=aA.uniq L e;subst this;intro p row z h1 h2 Y;exact M p row z ah h2 Y
theorem gn.get{k n:Int}{w wc:ak}{r:List DC}{d:DC}{q:Nat}(h:gn k n w)(I:(w.length:Int)≤k)(z:w[q]?=some r)(A:r[2]?=some d)(G:aA wc d):jD wc.length n wc:=by
 have:=(List.getElem?_eq_some_iff.1 z).1;exact h q r d wc ah z A G
theorem jD.get{k n z:Int}{w:ak}{row:List DC}{q:Nat}(h:jD k n w)(I:(w.length:Int)≤k)(A:w[q]?=some row)(G:row[0]?=some (.i .i64 z)):z≤n:=by
 have:=(List.getElem?_eq_some_iff.1 A).1;exact h q row z ah A G
theorem gn.all{k n:Int}{w:ak}(h:gn k n w)(z:(w.length:Int)≤k):gn w.length n w:=fun q r d wc a b c e=>h q r d wc ah b c e
theorem gn.at{n:Int}{w wc:ak}(h:gn w.length n w)(A:wc=[]∨∃(q:Nat)(r:List DC)(d:DC),w[q]?=some r∧r[2]?=some d∧aA wc d):jD wc.length n wc:=by
 rcases A with rfl|⟨q,r,d,a,b,c⟩
 ·exact fun p row z h=>by simp at h;omega
 exact h.get (mb _) a b c
theorem gn.cast{k n m:Int}{w:ak}(h:gn k n w)(e:n=m):gn k m w:=e▸h
def jX(k:Int)(w:ak):Prop:=∀(q:Nat)r d wc,(q:Int)<k→w[q]?=some r→r[2]?=some d→aA wc d→1≤(wc.length:Int)∧(wc.length:Int)≤12
theorem lensTo_0{w:ak}:jX 0 w:=fun p _ _ _ h=>by omega
theorem jX.step{k:Int}{w wc:ak}{r:List DC}{d:DC}(h:jX k w)(h0:0≤k)(A:w[k.toNat]?=some r)(G:r[2]?=some d)(I:aA wc d)(L:1≤(wc.length:Int)∧(wc.length:Int)≤12):jX (k+1) w:=fun q r' M z a b c e=>by
 by_cases O:(q:Int)<k
 ·exact h q r' M z O b c e
 have:q=k.toNat:=by omega
 subst this;rw[A] at b;cases b;rw[G] at c;cases c;have:=aA.uniq I e;subst this;exact L
theorem jX.all{k:Int}{w:ak}(h:jX k w)(z:(w.length:Int)≤k):jX w.length w:=fun q r d wc a b c e=>h q r d wc ah b c e
theorem jX.get{k:Int}{w wc:ak}{r:List DC}{d:DC}{q:Nat}(h:jX k w)(I:(w.length:Int)≤k)(z:w[q]?=some r)(A:r[2]?=some d)(G:aA wc d):1≤(wc.length:Int)∧(wc.length:Int)≤12:=by
 have:=(List.getElem?_eq_some_iff.1 z).1;exact h q r d wc ah z A G
theorem lens1{a b d:DC}{wc:ak}(z:aA wc d)(h:1≤(wc.length:Int)∧(wc.length:Int)≤12):jX ([[a,b,d]]:ak).length [[a,b,d]]:=fun q r M A G I h2 L=>by
 have:q=0:=by simp at G;omega
 subst this
 cases I
 cases h2
 have:=aA.uniq z L;subst this;exact h
def p0(n:Int)(w:ak):Prop:=0<n→∃(q:Nat)(r:List DC)(d:DC)(wc:ak)(p:Nat)(row:List DC),w[q]?=some r∧r[2]?=some d∧aA wc d∧wc[p]?=some row∧row[0]?=some (.i .i64 n)
theorem Zx{w:ak}:p0 0 w:=fun h=>absurd h ao
theorem p0.max{a b n:Int}{w wc:ak}{q p:Nat}{r row:List DC}{d:DC}(h:p0 a w)(z:w[q]?=some r)(A:r[2]?=some d)(G:aA wc d)(I:wc[p]?=some row)(L:row[0]?=some (.i .i64 b))(e:n=a∨n=b):p0 n w:=by
 rcases e with rfl|rfl
 ·exact h
 exact fun _=>⟨q,r,d,wc,p,row,z,A,G,I,L⟩
theorem p0.le{n m:Int}{w:ak}(h:p0 n w)(k:gn w.length m w)(h0:0≤m):n≤m:=by
 by_cases z:0<n
 ·obtain⟨q,r,d,wc,p,row,a,b,c,e,f⟩:=h z;exact(k.get (mb _) a b c).get (mb _) e f
 omega
theorem KO{T:aN}{VE:bo}{B:aT}{R:Ex→bo→aT→Prop}{k:Key}{a b:IC}{t:Bool}{p q:Prop}(z:aL VE k.n=some (.d (.b t)))(A:t=true→p→VC T a VE B R)(h2:t=false→q→VC T b VE B R)(G:(t=true)=p:=by first|(simp only[eK,ij,gZ,oz,fQ];first|done|rfl)|rfl)(I:(t=false)=q:=by first|(simp only[eK,ij,gZ,oz,fQ];first|done|rfl)|rfl):VC T (.cond (.t k) a b) VE B R:=cH z (fun h=>A h (Eq.mp G h)) (fun h=>h2 h (Eq.mp I h))
theorem vo_splitG{T:aN}{VE:bo}{B:aT}{g:Key}{t:Bool}{p q:Prop}{ops:List bl}{Q:bo→aT→Prop}(z:aL VE g.n=some (.d (.b t)))(A:t=true→p→VO T ops VE B Q)(h2:t=false→q→VO T ops VE B Q)(G:(t=true)=p:=by first|(simp only[eK,ij,gZ,oz,fQ];first|done|rfl)|rfl)(I:(t=false)=q:=by first|(simp only[eK,ij,gZ,oz,fQ];first|done|rfl)|rfl):VO T ops VE B Q:=vo_split z (fun h=>A h (Eq.mp G h)) (fun h=>h2 h (Eq.mp I h))
@[reducible] def tJ:Ty:=.i .i64 (-9223372036854775808) 9223372036854775807
@[reducible] def dJ(x:Int):DC:=.i .i64 x
@[reducible] def dU(x:Int):VV:=.d (.i .u16 x)
theorem ai{k:IntKind}{lo hi z:Int}(A:lo≤z:=by first|omega|((try simp only[fQ,za,zb,fA,gr,jF,kN,lF,rG,vd] at*);omega))(h2:z≤hi:=by first|omega|((try simp only[fQ,za,zb,fA,gr,jF,kN,lF,rG,vd] at*);omega)):(Ty.i k lo hi).ok (.i k z):=dH A h2
theorem TE{row:List Ty}{rows:ak}(z:Int)(h:af row rows)(A:z.toNat<rows.length:=by first|omega|((try simp only[fQ,za,zb,fA,gr,jF,kN,lF,rG,vd] at*);omega)):∃r,rows[z.toNat]?=some r∧fC row r:=⟨_,c7 A,mN h (c7 A)⟩
theorem okR_n6{z p1 p2 p3 A G:Ty}{l:List DC}(h:fC [z,p1,p2,p3,A,G] l):∃d0 d1 d2 d3 d4 d5,l=[d0,d1,d2,d3,d4,d5]∧z.ok d0∧p1.ok d1∧p2.ok d2∧p3.ok d3∧A.ok d4∧G.ok d5:=by
 obtain⟨d0,_,rfl,I,h⟩:=eM h;obtain⟨d1,_,rfl,L,h⟩:=eM h;obtain⟨d2,_,rfl,M,h⟩:=eM h;obtain⟨d3,_,rfl,O,h⟩:=eM h;obtain⟨d4,_,rfl,U,h⟩:=eM h;obtain⟨d5,_,rfl,Y,h⟩:=eM h;obtain rfl:=oZ h;exact⟨d0,d1,d2,d3,d4,d5,aa,I,L,M,O,U,Y⟩
theorem adi{A p1 p2 p3 G I L:Ty}{l:List DC}(h:fC [A,p1,p2,p3,G,I,L] l):∃d0 d1 d2 d3 d4 d5 z,l=[d0,d1,d2,d3,d4,d5,z]∧A.ok d0∧p1.ok d1∧p2.ok d2∧p3.ok d3∧G.ok d4∧I.ok d5∧L.ok z:=by
 obtain⟨d0,_,rfl,M,h⟩:=eM h;obtain⟨d1,_,rfl,O,h⟩:=eM h;obtain⟨d2,_,rfl,U,h⟩:=eM h;obtain⟨d3,_,rfl,Y,h⟩:=eM h;obtain⟨d4,_,rfl,Z,h⟩:=eM h;obtain⟨d5,_,rfl,k5,h⟩:=eM h;obtain⟨z,_,rfl,k6,h⟩:=eM h;obtain rfl:=oZ h;exact⟨d0,d1,d2,d3,d4,d5,z,aa,M,O,U,Y,Z,k5,k6⟩
theorem bB{p:Prop}(h:p:=by simp):p:=h
theorem bN{p:Prop}(h:p:=by first|(intro _;rfl)|(intro h;rw[h];rfl)|(intro h;exact absurd (congrArg List.length h) (by simp only[jF];exact ae))):p:=h
theorem cJ{p:Prop}(h:p:=by simp only[fA,gr,jF];omega):p:=h
theorem dm{p:Prop}(h:p:=by assumption):p:=h
theorem oe{p:Prop}(h:p:=by simp only[fA,gr,jF,lF,rG];exact ae):p:=h
theorem mu{p:Prop}(h:p:=by first|omega|(simp only[fA,gr,jF];omega)):p:=h
theorem vI{p:Prop}(h:p:=by first|(simp only[eK,fW,false_iff,true_iff];omega)|(simp;omega)):p:=h
theorem yA{p:Prop}(h:p:=by first|exact .inl ae|exact .inr ⟨_,(by assumption),ae⟩):p:=h
theorem Bg{p:Prop}(h:p:=by simp only[fA,gr,jF];exact ae):p:=h
theorem IY{p:Prop}(h:p:=by first|(constructor<;>intro z<;>(try simp only[eK,ij,gZ,oz] at*)<;>first|omega|(simp_all;omega)|(simp_all;done))):p:=h
theorem afF{p:Prop}(h:p:=by first|omega|(simp only[kN];omega)):p:=h
theorem MD{p:Prop}(h:p:=by first|assumption|omega|(simp only[kN];omega)):p:=h
theorem ME{p:Prop}(h:p:=by simp only[jF];exact ae):p:=h
theorem MF{p:Prop}(h:p:=by first|omega|assumption|(simp only[fA,gr,jF];omega)):p:=h
theorem MG{p:Prop}(h:p:=by first|exact fun _=>ae|(intro h;simp at h;omega)):p:=h
theorem TG{p:Prop}(h:p:=by simp only[gr,jF];omega):p:=h
theorem TH{p:Prop}(h:p:=by first|assumption|exact widthTo_0|exact aaj|exact gn.mono (by assumption) ae|exact jD.step (by assumption) ae (by assumption) rfl ae ae|exact gn.step (by assumption) ae (by assumption) rfl (by assumption) (by assumption) ae):p:=h
end Go.Ev
namespace Go.Ev.Pp
end Go.Ev.Pp
namespace Go.Ev
open Go
def ub(id:Int)(w:ak):Prop:=∃(q:Nat)(row:List DC),w[q]?=some row∧row[0]?=some (.i .i64 id)∧row[5]?=some (.i .i64 1099511627776)
def kI(k id:Int)(w:ak):Prop:=∀(q:Nat)(row:List DC),(q:Int)<k→w[q]?=some row→row[0]?=some (.i .i64 id)→row[5]?=some (.i .i64 1099511627776)→False
theorem ub.mk{id a b:Int}{w:ak}{q:Nat}{row:List DC}(z:w[q]?=some row)(h0:row[0]?=some (.i .i64 a))(A:row[5]?=some (.i .i64 b))(G:a=id)(I:b=1099511627776):ub id w:=⟨q,row,z,G▸h0,I▸A⟩
theorem afG{id:Int}{w:ak}:kI 0 id w:=fun q _ h=>by omega
theorem kI.afH{k id a:Int}{w:ak}{row:List DC}(h:kI k id w)(h0:0≤k)(G:w[k.toNat]?=some row)(I:row[0]?=some (.i .i64 a))(L:a≠id):kI (k+1) id w:=fun q r U z A M=>by
 by_cases O:(q:Int)<k
 ·exact h q r O z A M
 have:q=k.toNat:=by omega
 subst this;rw[G] at z;cases z;rw[I] at A;cases A;exact L aa
theorem kI.afI{k id a:Int}{w:ak}{row:List DC}(h:kI k id w)(h0:0≤k)(G:w[k.toNat]?=some row)(I:row[5]?=some (.i .i64 a))(L:a≠1099511627776):kI (k+1) id w:=fun q r U z M A=>by
 by_cases O:(q:Int)<k
 ·exact h q r O z M A
 have:q=k.toNat:=by omega
 subst this;rw[G] at z;cases z;rw[I] at A;cases A;exact L aa
theorem kI.all{k id:Int}{w:ak}(h:kI k id w)(I:(w.length:Int)≤k):kI w.length id w:=fun q r L z A G=>h q r ah z A G
theorem find_ge{y id:Int}{w:ak}(A:(0≤y→ub id w)∧(y<0→kI w.length id w))(G:ub id w):0≤y:=by
 by_cases h:0≤y
 ·exact h
 obtain⟨q,row,z,I,L⟩:=G;have:=(List.getElem?_eq_some_iff.1 z).1;exact(A.2 ah q row ah z I L).elim
def vJ(k:Int)(w wc:ak):Prop:=∀(p:Nat)(row:List DC)(id:Int),(p:Int)<k→wc[p]?=some row→row[0]?=some (.i .i64 id)→ub id w
theorem allV_0{w wc:ak}:vJ 0 w wc:=fun q _ _ h=>by omega
theorem vJ.step{k id:Int}{w wc:ak}{row:List DC}(h:vJ k w wc)(h0:0≤k)(G:wc[k.toNat]?=some row)(I:row[0]?=some (.i .i64 id))(L:ub id w):vJ (k+1) w wc:=fun q r i O z A=>by
 by_cases M:(q:Int)<k
 ·exact h q r i M z A
 have:q=k.toNat:=by omega
 subst this;rw[G] at z;cases z;rw[I] at A;cases A;exact L
theorem vJ.get{k id:Int}{w wc:ak}{row:List DC}{q:Nat}(h:vJ k w wc)(G:(wc.length:Int)≤k)(z:wc[q]?=some row)(A:row[0]?=some (.i .i64 id)):ub id w:=by
 have:=(List.getElem?_eq_some_iff.1 z).1;exact h q row id ah z A
end Go.Ev
