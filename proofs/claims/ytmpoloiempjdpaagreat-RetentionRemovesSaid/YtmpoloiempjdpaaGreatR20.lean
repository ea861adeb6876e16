/- Part 20 of rules for walks through the code of a program, and of such walks; what each part proves is said by its theorems. -/
import Derived.Test.YtmpoloiempjdpaaGreatR19
set_option linter.unusedVariables false
set_option linter.unusedSimpArgs false
noncomputable section
set_option maxRecDepth 100000
set_option maxHeartbeats 4000000
namespace Go.Ev
open Go
inductive Ty where
 |i (k:IntKind) (lo hi:Int)
 |b
 |s (n:Nat)
 |l (n:Nat) (row:List Ty)
 |e (d:DC)
 |x
 |q (p:DC→Prop)
mutual
def Ty.ok:Ty→DC→Prop
 |.i k lo hi,d=>∃z,d= .i k z∧lo≤z∧z≤hi
 |.b,d=>∃b,d= .b b
 |.s n,d=>∃s:List UInt8,d=aq s∧s.length≤n
 |.l n row,d=>∃rows,au rows d∧rows.length≤n∧∀r,r∈rows→e6 row r
 |.e x,d=>d=x
 |.x,_=>True
 |.q p,d=>p d
def e6:List Ty→List DC→Prop
 |[],l=>l=[]
 |p::ps,l=>∃d r,l=d::r∧p.ok d∧e6 ps r
end
@[reducible] def af(row:List Ty)(rows:ai):Prop:=∀r,r∈rows→e6 row r
theorem Ty.dY{k:IntKind}{lo hi:Int}{d:DC}(h:(Ty.i k lo hi).ok d):∃z,d= .i k z∧lo≤z∧z≤hi:=by simpa only[Ty.ok] using h
theorem Ty.eI{d:DC}(h:Ty.b.ok d):∃b,d= .b b:=by simpa only[Ty.ok] using h
theorem Ty.bB{n:Nat}{d:DC}(h:(Ty.s n).ok d):∃s:List UInt8,d=aq s∧s.length≤n:=by simpa only[Ty.ok] using h
theorem Ty.aL{n:Nat}{row:List Ty}{d:DC}(h:(Ty.l n row).ok d):∃rows,au rows d∧rows.length≤n∧af row rows:=by unfold Ty.ok at h;exact h
theorem Ty.t4{x d:DC}(h:(Ty.e x).ok d):d=x:=by simpa only[Ty.ok] using h
theorem t4{x:DC}:(Ty.e x).ok x:=by simp only[Ty.ok]
theorem bZ{x:DC}:Ty.x.ok x:=by simp only[Ty.ok]
theorem Ty.bC{p:DC→Prop}{d:DC}(h:(Ty.q p).ok d):p d:=by simpa only[Ty.ok] using h
theorem bC{p:DC→Prop}{d:DC}(h:p d):(Ty.q p).ok d:=by simpa only[Ty.ok] using h
theorem dY{k:IntKind}{lo hi z:Int}(A:lo≤z)(h2:z≤hi):(Ty.i k lo hi).ok (.i k z):=by simp only[Ty.ok];exact⟨z,rfl,A,h2⟩
theorem eI{b:Bool}:Ty.b.ok (.b b):=by simp only[Ty.ok];exact⟨b,rfl⟩
theorem bB{n:Nat}{s:List UInt8}(h:s.length≤n):(Ty.s n).ok (aq s):=by simp only[Ty.ok];exact⟨s,rfl,h⟩
theorem aL{n:Nat}{row:List Ty}{d:DC}{rows:ai}(z:au rows d)(h2:rows.length≤n)(A:af row rows):(Ty.l n row).ok d:=by simp only[Ty.ok];exact⟨rows,z,h2,A⟩
theorem gw{n:Nat}{row:List Ty}:(Ty.l n row).ok .nil:=aL (rows:=[]) (.inr ⟨rfl,rfl⟩) (hZ _) fun _ h=>by cases h
theorem ok_sl{n:Nat}{row:List Ty}{rows:ai}(h2:rows.length≤n)(z:af row rows):(Ty.l n row).ok (.sl rows):=aL (.inl rfl) h2 z
theorem bl:e6 [] []:=by simp only[e6]
theorem ah{p:Ty}{ps:List Ty}{d:DC}{r:List DC}(h:p.ok d)(k:e6 ps r):e6 (p::ps) (d::r):=by rw[e6];exact⟨d,r,rfl,h,k⟩
theorem dw{p:Ty}{ps:List Ty}{l:List DC}(h:e6 (p::ps) l):∃d r,l=d::r∧p.ok d∧e6 ps r:=by rwa [e6] at h
theorem pv{l:List DC}(h:e6 [] l):l=[]:=by rwa [e6] at h
theorem Rh:∀{ps:List Ty}{l:List DC},e6 ps l→l.length=ps.length
 |[],l,h=>by rw[pv h];rfl
 |p::ps,l,h=>by obtain⟨d,r,rfl,_,h⟩:=dw h;rw[gF,gF,Rh h]
theorem cb{row:List Ty}:af row []:=fun _ h=>by cases h
theorem dW{row:List Ty}{a b:ai}(h:af row a)(k:af row b):af row (a++b):=fun r z=>(List.mem_append.1 z).elim (h r) (k r)
theorem dG{row:List Ty}{r:List DC}(h:e6 row r):af row [r]:=fun _ z=>by rcases List.mem_singleton.1 z with rfl;exact h
theorem ik{row:List Ty}{a:ai}{l n:Nat}(h:af row a):af row ((a.drop l).take n):=fun r z=>h r (D4 (D5 z))
theorem fk{row:List Ty}{a:ai}{j:Nat}{r:List DC}(h:af row a)(k:e6 row r):af row (a.set j r):=fun q z=>(List.mem_or_eq_of_mem_set z).elim (h q) fun e=>e▸k
theorem FA{row:List Ty}{r:List DC}{n:Nat}(k:e6 row r):af row (List.replicate n r):=fun q z=>(List.eq_of_mem_replicate z)▸k
theorem cD{row:List Ty}{rows:ai}{es:Nat}(h:af row rows)(z:row.length=es):∀r,r∈rows→r.length=es:=fun r A=>(Rh (h r A)).trans z
theorem lu{row:List Ty}{rows:ai}(h:af row rows){j:Nat}{r:List DC}(z:rows[j]?=some r):e6 row r:=h r (nJ z)
variable{T:aM}{VE:bb}{B:aK}{Q:VV→aK→Prop}
theorem bD{z:Int}{n:Nat}(h0:0≤z)(A:z<n):∃j:Nat,z=j∧j<n:=⟨z.toNat,(AI h0).symm,al⟩
theorem aH{x i:aG}{es:Nat}{k:IntKind}{rows:ai}{r:List DC}{d:DC}{z:Int}(A:x.vv VE=some (.d d))(hi:i.vv VE=some (.d (.i k z)))(G:au rows d)(h0:0≤z)(I:rows[z.toNat]?=some r)(L:r.length=es)(M:Q (.rp r 0) B):VI T (.j0 es x i) VE B [] Q:=by
 obtain⟨j,rfl⟩:∃j:Nat,z=j:=⟨z.toNat,(AI h0).symm⟩;exact vi_idxD A G hi I L M
theorem lT{es:Nat}{x:aG}{lo hi:Option aG}{rows:ai}{row:List Ty}{d:DC}{l h:Nat}(M:x.vv VE=some (.d d))(hd:au rows d)(z:af row rows)(he:row.length=es)(I:rows=[]→d= .nil)(O:yB VE hi rows.length h)(U:yB VE lo 0 l)(L:l≤h)(A:h≤rows.length)
  (Y:∀Z,au ((rows.drop l).take (h-l)) Z→Q (.d Z) B):VI T (.tW es x lo hi) VE B [] Q:=by
 cases rows with
 |cons r0 rs=>exact vi_slD M hd (cD z he) (Nat.zero_lt_succ _) O U L A (Y _ (.inl rfl))
 |nil=>
  obtain rfl:=I rfl;obtain rfl:h=0:=by simpa using A
  obtain rfl:l=0:=by omega
  intro H0 X0 E H β z;obtain⟨a,h1,h2⟩:=z.bI M;simp only[aE,bF] at h2;subst h2;refine eX (v:=.fR) (fun call=>?_) (dA z (v:=.d .nil) (by simp only[aE,bF]) (Y .nil (.inr ⟨rfl,rfl⟩)))
  show bt x _ (.err 16) (fun v=>fc v (.err 16) (en _ hi 0 0 (.err 16) fun h=>en _ lo 0 h (.err 16) fun _=>.ok .fR H)
   fun f g off ln G=>aI (Nat.beq es G) (en _ hi ln (tY g off es ln) (.err 16) fun h=>en _ lo 0 h (.err 16) fun lo=>
    cm (Nat.add off (Nat.mul lo es)) fun off=>cm (Nat.sub h lo) fun n=>.ok (.slice f g off n G) H) (.err 16))=_
  rw[cY,h1,cI];show en _ hi 0 0 (aC.err 16) (fun h=>en _ lo 0 h (.err 16) fun _=>.ok .fR H)=_;rw[K0 (d:=0) z O (bf _) (bf _),K0 z U (bf _) (bf _)]
def zf:IntKind→Int
 |.i64=> -9223372036854775808
 |_=>0
def zg:IntKind→Int
 |.i64=>9223372036854775807
 |.u8=>255
 |.u16=>65535
 |.u64=>18446744073709551615
 |_=>0
def XU:IntKind→Bool
 |.i64=>true
 |.u8=>true
 |.u16=>true
 |.u64=>true
 |_=>false
theorem agK{k:IntKind}(h:XU k=true){n:Int}(z:zf k≤n)(h2:n≤zg k):k.wrap n=n:=by
 cases k<;>first|cases h|skip
 all_goals(simp only[zf,zg] at z h2;simp[IntKind.wrap,IntKind.bits,IntKind.signed])
 all_goals(first|omega|(split<;>omega))
theorem fm{k:IntKind}{x:aG}{z:IntKind}{n:Int}(A:x.vv VE=some (.d (.i z n)))(h:XU k=true)(G:zf k≤n)(h2:n≤zg k)(I:Q (.d (.i k n)) B):VI T (.conv k x) VE B [] Q:=
 abU A (by rw[agK h G h2];exact I)
theorem c6{x y:aG}{k:IntKind}{a b:Int}(z:x.vv VE=some (.d (.i k a)))(A:y.vv VE=some (.d (.i k b)))(h0:mr b 0=false)(G:0≤a)(_hb:0<b)(I:Q (.d (.i k (a % b))) B):VI T (.bin .rem x y) VE B [] Q:=
 Rg z A h0 (by rw[T7 G];exact I)
theorem aao{mx:Bool}{x y:aG}{k:IntKind}{a b:Int}(G:x.vv VE=some (.d (.i k a)))(I:y.vv VE=some (.d (.i k b)))(L:∀z,((mx=true→a≤z∧b≤z)∧(mx=false→z≤a∧z≤b)∧(z=a∨z=b))→Q (.d (.i k z)) B):VI T (.xm mx x [y]) VE B [] Q:=fun _ _ E H _ A=>by
 have M:=A.t3 G;have h2:=A.t3 I;refine eX (v:=.int k (aI (aI mx (fv a b) (fv b a)) b a)) (fun call=>?_) (dA A (v:=.d (.i k (aI (aI mx (fv a b) (fv b a)) b a))) (by simp only[aE,bF]) (L _ ?_))
 ·show bt x E (.err 29) (fun a=>fA a (.err 29) fun k a=>ob (iB E [y]) (.err 29) fun vs=>ob (EI mx k vs a) (.err 29) fun v=>.ok v H)=_;rw[cY,M,cI];show ob (iB E [y]) (aC.err 29) (fun vs=>ob (EI mx k vs a) (.err 29) fun v=>.ok v H)=_;rw[aaU h2 evs_nil,cI];show ob (lS (aI (aI mx (fv a b) (fv b a)) b a) fun a=>some (aj.int k a)) (aC.err 29) (fun v=>aC.ok v H)=_;rw[wW];rfl
 cases mx
 ·have e:aI (aI false (fv a b) (fv b a)) b a=if b<a then b else a:=by
   show aI (fv b a) b a=_;rw[ou]
   by_cases h:b<a
   ·rw[decide_eq_true h,bg h];rfl
   rw[decide_eq_false h,aZ h];rfl
  rw[e];refine⟨fun e=>(by cases e),fun _=>?_,?_⟩<;>split<;>omega
 have e:aI (aI true (fv a b) (fv b a)) b a=if a<b then b else a:=by
  show aI (fv a b) b a=_;rw[ou]
  by_cases h:a<b
  ·rw[decide_eq_true h,bg h];rfl
  rw[decide_eq_false h,aZ h];rfl
 rw[e];refine⟨fun _=>?_,fun e=>(by cases e),?_⟩<;>split<;>omega
theorem om{x y:aG}{k:IntKind}{a b:Int}(A:x.vv VE=some (.d (.i k a)))(G:y.vv VE=some (.d (.i k b)))(I:∀z,a≤z∧b≤z∧(z=a∨z=b)→Q (.d (.i k z)) B):VI T (.xm true x [y]) VE B [] Q:=
 aao A G fun z h=>I z ⟨(h.1 rfl).1,(h.1 rfl).2,h.2.2⟩
theorem tf{x y:aG}{k:IntKind}{a b:Int}(A:x.vv VE=some (.d (.i k a)))(G:y.vv VE=some (.d (.i k b)))(I:∀z,z≤a∧z≤b∧(z=a∨z=b)→Q (.d (.i k z)) B):VI T (.xm false x [y]) VE B [] Q:=
 aao A G fun z h=>I z ⟨(h.2.1 rfl).1,(h.2.1 rfl).2,h.2.2⟩
theorem Y7{H:ax}{X:Nat→Prop}{β:Nat→Nat}:∀{ks:List Nat}{r r':List DC}{l U:List aj},jM ks r=true→jM ks r'=true→bc H X β (r.map .d) l→bc H X β (r'.map .d) U→kC ks l=true∧kC ks U=true∧∃b,tc l U=some b
 |[],[],[],l,U,_,_,h,h'=>by
  simp only[D7,bc] at h h';subst h;subst h';exact⟨aa,aa,true,aa⟩
 |[],_::_,_,_,_,h,_,_,_=>by cases h
 |[],[],_::_,_,_,_,h,_,_=>by cases h
 |_::_,[],_,_,_,h,_,_,_=>by cases h
 |_::_,_::_,[],_,_,_,h,_,_=>by cases h
 |c::ks,d::r,d'::r',l,U,Y,z,h,h'=>by
  simp only[jv,bc] at h h';obtain⟨a,l,rfl,G,h2⟩:=h;obtain⟨a',U,rfl,I,Xx⟩:=h';have go:(jM ks r=true∧jM ks r'=true)→Gl c a=true→Gl c a'=true→(∃b,Fu a a'=some b)→kC (c::ks) (a::l)=true∧kC (c::ks) (a'::U)=true∧∃b,tc (a::l) (a'::U)=some b:=fun⟨g,g'⟩k L⟨b,hb⟩=>by
   obtain⟨e1,e2,b2,e3⟩:=Y7 g g' h2 Xx;refine⟨by simp only[kC,k,e1];rfl,by simp only[kC,L,e2];rfl,?_⟩;simp only[tc,hb,e3]
   cases b
   ·exact⟨false,aa⟩
   exact⟨b2,aa⟩
  simp only[aE] at G I
  cases d with
  |i k n=>
   obtain⟨M,Z⟩:=js (show(Nat.beq (cK k) c&&jM ks r)=true from Y);simp only[bF] at G;subst G
   cases d' with
   |i L n'=>
    obtain⟨A,O⟩:=js (show(Nat.beq (cK L) c&&jM ks r')=true from z);simp only[bF] at I;subst I;have e:cK k=cK L:=(cU M).trans (cU A).symm;refine go ⟨Z,O⟩ M A ?_;simp only[Fu,e,show Nat.beq (cK L) (cK L)=true from gG _];exact⟨_,aa⟩
   |b t=>obtain⟨A,_⟩:=js (show(Nat.beq c 100&&jM ks r')=true from z);have G:=cU M;have h2:=cU A;exact absurd (G.trans h2) (by cases k<;>decide)
   |s m v=>obtain⟨A,_⟩:=js (show(Nat.beq c 101&&jM ks r')=true from z);have G:=cU M;have h2:=cU A;exact absurd (G.trans h2) (by cases k<;>decide)
   |nil=>cases z
   |sl _=>cases z
   |raw _ _ _=>cases z
  |b t=>
   obtain⟨M,Z⟩:=js (show(Nat.beq c 100&&jM ks r)=true from Y);simp only[bF] at G;subst G
   cases d' with
   |i L n'=>obtain⟨A,_⟩:=js (show(Nat.beq (cK L) c&&jM ks r')=true from z);have G:=cU M;have h2:=cU A;exact absurd (h2.trans G) (by cases L<;>decide)
   |b t'=>
    obtain⟨A,O⟩:=js (show(Nat.beq c 100&&jM ks r')=true from z);simp only[bF] at I;subst I;exact go ⟨Z,O⟩ M A ⟨_,aa⟩
   |s m v=>obtain⟨A,_⟩:=js (show(Nat.beq c 101&&jM ks r')=true from z);have G:=cU M;have h2:=cU A;exact absurd (G.symm.trans h2) ao
   |nil=>cases z
   |sl _=>cases z
   |raw _ _ _=>cases z
  |s m v=>
   obtain⟨M,Z⟩:=js (show(Nat.beq c 101&&jM ks r)=true from Y);simp only[bF] at G;subst G
   cases d' with
   |i L n'=>obtain⟨A,_⟩:=js (show(Nat.beq (cK L) c&&jM ks r')=true from z);have G:=cU M;have h2:=cU A;exact absurd (h2.trans G) (by cases L<;>decide)
   |b t'=>obtain⟨A,_⟩:=js (show(Nat.beq c 100&&jM ks r')=true from z);have G:=cU M;have h2:=cU A;exact absurd (G.symm.trans h2) ao
   |s m' v'=>
    obtain⟨A,O⟩:=js (show(Nat.beq c 101&&jM ks r')=true from z);simp only[bF] at I;subst I;exact go ⟨Z,O⟩ M A ⟨_,aa⟩
   |nil=>cases z
   |sl _=>cases z
   |raw _ _ _=>cases z
  |nil=>cases Y
  |sl _=>cases Y
  |raw _ _ _=>cases Y
theorem xj{neg:Bool}{ks:List Nat}{x y:aG}{r r':List DC}(L:x.vv VE=some (.agg (r.map .d)))(M:y.vv VE=some (.agg (r'.map .d)))(O:jM ks r=true)(A:jM ks r'=true)(U:∀b,Q (.d (.b b)) B):VI T (.eqv (.agg ks) neg x y) VE B [] Q:=fun _ X0 _ H β G=>by
 obtain⟨a,Y,h2⟩:=G.bI L;obtain⟨b,Z,z⟩:=G.bI M;simp only[aE] at h2 z;obtain⟨l,rfl,h2⟩:=h2;obtain⟨I,rfl,z⟩:=z;obtain⟨k1,k2,t,k3⟩:=Y7 O A h2 z;refine eX (v:=.bool (Bool.xor neg t)) (fun call=>?_) (dA G (v:=.d (.b (Bool.xor neg t))) (by simp only[aE,bF]) (U _));show bt x _ (.err 7) (fun a=>bt y _ (.err 7) fun b=>ob (pX (.agg ks) a b) (.err 7) fun r=>pc (Bool.xor neg r) fun r=>.ok (.bool r) _)=_;rw[cY,Y,cI,cY,Z,cI];show ob (aI (kC ks l) (aI (kC ks I) (tc l I) none) none) _ _=_;rw[k1,k2,k3]
 cases neg<;>cases t<;>rfl
def isCmp:BinOp→Bool
 |.lss=>true
 |.leq=>true
 |.gtr=>true
 |.geq=>true
 |_=>false
theorem zV{op:BinOp}{x y:aG}{a b:List UInt8}(A:x.vv VE=some (.d (aq a)))(G:y.vv VE=some (.d (aq b)))(ho:isCmp op=true)(I:∀b,Q (.d (.b b)) B):VI T (.bin op x y) VE B [] Q:=fun _ _ _ _ _ z=>by
 obtain⟨t,L⟩:∃t,D9 op (.str a.length (pack a)) (.str b.length (pack b))=some (.bool t):=by
  cases op<;>first|exact⟨_,rfl⟩|(cases ho;done)
 exact zR (z.str A) (z.str G) (v:=.bool t) L (dA z (v:=.d (.b t)) (by simp only[aE,bF]) (I _))
theorem cH{row:List Ty}{r:List DC}{rs:ai}(h:e6 row r)(k:af row rs):af row (r::rs):=fun q z=>by
 rcases List.mem_cons.1 z with rfl|z
 ·exact h
 exact k q z
theorem Ri{x y:aG}{k:IntKind}{a b:Int}(A:x.vv VE=some (.d (.i k a)))(G:y.vv VE=some (.d (.i k b)))(I:0≤a)(L:0<b)(M:∀z,0≤z→z<b→Q (.d (.i k z)) B):VI T (.bin .rem x y) VE B [] Q:=
 Rg A G (by rw[tm];exact decide_eq_false al) (by rw[T7 I];exact M _ (Int.emod_nonneg _ al) (Int.emod_lt_of_pos _ L))
theorem rM{x y:aG}{k:IntKind}{a b:Int}(A:x.vv VE=some (.d (.i k a)))(G:y.vv VE=some (.d (.i k b)))(h0:mr b 0=false)(I:XU k=true)(z:0≤a)(O:0<b)(L:a/b≤zg k)(h2:zf k≤0)(M:Q (.d (.i k (a/b))) B):VI T (.bin .quo x y) VE B [] Q:=
 ab1 A G h0 (by rw[lm131 z,agK I (T8 h2 (Int.ediv_nonneg z al)) L];exact M)
theorem ja{c:IC}{R:Ex→bb→aK→Prop}(b i g elem aD es:Nat){e A:Nat}{row:List VV}(G:aF B b=some (.one e A row))(hi:row[i]?=some (.d .nil))(L:aF B g=none)(h:VC T c VE ((g,.acc elem aD es [])::(b,.one e A (row.set i (.ac g 0 es)))::B) R):VC T c VE B R:=
 fun H0 X0 E H β M=>(h H0 X0 E H β (M.aei G hi L)).mono fun _ _ _ O=>O.more fun c s z ho=>by
  rw[c7] at z
  by_cases I:g=c
  ·rw[bg I] at z;cases z;exact absurd rfl ho
  rw[aZ I,c7] at z
  by_cases k:b=c
  ·subst k;exact⟨_,G,trivial⟩
  rw[aZ k] at z;exact⟨s,z,ho⟩
theorem zO(z:Int): -9223372036854775808≤IntKind.i64.wrap z∧IntKind.i64.wrap z≤9223372036854775807:=by
 simp only[IntKind.wrap,IntKind.bits,IntKind.signed];simp;constructor<;>split<;>omega
theorem qh{x y:aG}{a b:Int}(A:x.vv VE=some (.d (.i .i64 a)))(G:y.vv VE=some (.d (.i .i64 b)))(I:∀z, -9223372036854775808≤z∧z≤9223372036854775807→Q (.d (.i .i64 z)) B):VI T (.bin .add x y) VE B [] Q:=abZ A G (I _ (zO _))
theorem ab3{x y:aG}{a b:Int}(A:x.vv VE=some (.d (.i .i64 a)))(G:y.vv VE=some (.d (.i .i64 b)))(I:∀z, -9223372036854775808≤z∧z≤9223372036854775807→Q (.d (.i .i64 z)) B):VI T (.bin .sub x y) VE B [] Q:=ab0 A G (I _ (zO _))
theorem vi_mulW{x y:aG}{a b:Int}(A:x.vv VE=some (.d (.i .i64 a)))(G:y.vv VE=some (.d (.i .i64 b)))(I:∀z, -9223372036854775808≤z∧z≤9223372036854775807→Q (.d (.i .i64 z)) B):VI T (.bin .mul x y) VE B [] Q:=vi_mulK A G (I _ (zO _))
theorem vi_quoW{x y:aG}{a b:Int}(A:x.vv VE=some (.d (.i .i64 a)))(G:y.vv VE=some (.d (.i .i64 b)))(h0:¬b=0)(I:∀z, -9223372036854775808≤z∧z≤9223372036854775807→Q (.d (.i .i64 z)) B):VI T (.bin .quo x y) VE B [] Q:=ab1 A G (by rw[tm];exact decide_eq_false h0) (I _ (zO _))
theorem aa8{neg:Bool}{x y:aG}{t u:Bool}(G:x.vv VE=some (.d (.b t)))(I:y.vv VE=some (.d (.b u)))(L:∀b,Q (.d (.b b)) B):VI T (.eqv .bool neg x y) VE B [] Q:=fun _ _ _ _ _ z=>by
 obtain⟨_,M,h2⟩:=z.bI G;obtain⟨_,O,A⟩:=z.bI I;simp only[aE,bF] at h2 A;subst h2;subst A;have e:∃r,pX .bool (.bool t) (.bool u)=some r:=by cases t<;>cases u<;>exact⟨_,rfl⟩
 obtain⟨r,e⟩:=e;exact KV M O e (dA z (v:=.d (.b (Bool.xor neg r))) (by simp only[aE,bF]) (L _))
theorem FB{elem es aD:Nat}{zero:List aj}{z:List VV}{A:List DC}{x y:aG}{n:Nat}(b:Nat)(L:mz b VE=true)(M:jC b B=true)(O:pf zero=some z)(G:gA z=some A)(I:zero.length=es)(U:x.vv VE=some (.d (.i .i64 (n:Int))))(Y:y.vv VE=some (.d (.i .i64 (n:Int))))
  (Z:n*aD≤70368744177664) (h2:n≤4611686018427387904) (hq:∀rows,rows=List.replicate n A→rows.length=n→Q (.bs b rows.length es) ((b,.arr elem aD es rows.length rows)::B)):VI T (.vI elem es aD zero x y) VE B [] Q:=
 vi_mksl b L M O G I U Y Z h2 (by
  have:=hq (List.replicate n A) rfl rS
  rwa [rS] at this)
theorem eQ{es:Nat}{x:aG}{lo hi:Option aG}{rows:ai}{row:List Ty}{d:DC}{l h:Nat}(M:x.vv VE=some (.d d))(O:au rows d)(L:af row rows)(U:row.length=es)(A:rows=[]→d= .nil)(Y:yB VE hi rows.length h)(Z:yB VE lo 0 l)(G:l≤h)(I:h≤rows.length)
  (hq:∀z w,au w z→w.length=h-l→af row w→Q (.d z) B):VI T (.tW es x lo hi) VE B [] Q:=
 lT M O L U A Y Z G I fun z h1=>hq z _ h1 (by rw[ju,qz];omega) (ik L)
theorem tE{rows:ai}{d:DC}(h:0<rows.length):rows=[]→d= .nil:=fun e=>by rw[e] at h;cases h
theorem Kv{x i:aG}{z j:Nat}{l:List VV}{v:VV}{k:IntKind}(M:x.vv VE=some (.agg l))(hi:i.vv VE=some (.d (.i k (j:Int))))(O:j<z)(U:l[j]?=some v)(Y:Q v B):VI T (.CO z 1 false x i) VE B [] Q:=fun _ _ _ _ _ A=>by
 obtain⟨_,Z,h2⟩:=A.bI M;obtain⟨_,i1,G⟩:=A.bI hi;simp only[aE] at h2 G;simp only[bF] at G;subst G;obtain⟨cs,rfl,h2⟩:=h2;obtain⟨a,h3,h4⟩:=h2.get U;obtain⟨L,h6⟩:=List.getElem?_eq_some_iff.1 h3;refine eX (v:=a) (fun call=>?_) (dA A h4 Y);show bt x _ (.err 13) (fun v=>mO v (.err 13) fun cs=>bt i _ (.err 13) fun I=>idx I z (.err 13) fun j=>aI (Nat.ble (Nat.add (Nat.mul j 1) 1) (gI cs)) (fO false ((cs.drop (Nat.mul j 1)).take 1) (.err 13) fun v=>.ok v _) (.err 13))=_;rw[cY,Z,cI];show bt i _ (.err 13) (fun I=>idx I z (.err 13) fun j=>aI (Nat.ble (Nat.add (Nat.mul j 1) 1) (gI cs)) (fO false ((cs.drop (Nat.mul j 1)).take 1) (.err 13) fun v=>.ok v _) (.err 13))=_;rw[cY,i1,cI];show aI (Nat.ble (Nat.succ j) z) (aI (Nat.ble (Nat.add (Nat.mul j 1) 1) (gI cs)) (fO false ((cs.drop (Nat.mul j 1)).take 1) (aC.err 13) fun v=>aC.ok v _) (aC.err 13)) (aC.err 13)=_;rw[gn O,dX,pe,show Nat.mul j 1=j from VA _,show Nat.ble (Nat.add j 1) cs.length=true from gn L,dX,vD L,xK,Nn,h6];rfl
theorem oi{fl:List FL}{d g:Key}{want t:Bool}{op:bq}{r:List bk}(A:aF VE g.n=some (.d (.b t)))(G:t=!want){Q:bb→aK→Prop}(h:VQ T r ((d.n,.k .undef)::VE) B fl Q):VQ T (⟨some d,some (g,want),none,op⟩::r) VE B fl Q:=by
 intro H0 X0 E H β z bd I;obtain⟨L,M,O,U,Y⟩:=h H0 X0 _ H β (z.set (d:=d) (v:=.k .undef) (a:=.undef) (by simp only[aE])) bd I;refine⟨L,M,O,fun lf n Z a2=>?_,Y⟩;show bk.jq (T.call lf n) ⟨some d,some (g,want),none,op⟩ E H bd (iM (T.call lf n) r)=_;rw[Kh (z.bool A),aZ (by rw[G];cases want<;>decide)];exact U lf n Z a2
theorem Fq{fl:List FL}{d g:Key}{want t:Bool}{l:List Nat}{op:bq}{r:List bk}(A:aF VE g.n=some (.d (.b t)))(G:t=!want){Q:bb→aK→Prop}(h:VQ T r ((d.n,.k .undef)::VE) B (.rd []::fl) Q):VQ T (⟨some d,some (g,want),some l,op⟩::r) VE B fl Q:=by
 intro H0 X0 E H β z bd I;obtain⟨L,M,O,U,Y⟩:=h H0 X0 _ H β (z.set (d:=d) (v:=.k .undef) (a:=.undef) (by simp only[aE])) (⟨some [],[],0,0⟩::bd) (I.cons ⟨rfl,rfl,[],rfl,fun f h=>by cases h⟩);refine⟨L,M,O,fun lf n Z a2=>?_,Y⟩;show bk.jq (T.call lf n) ⟨some d,some (g,want),some l,op⟩ E H bd (iM (T.call lf n) r)=_;rw[Kh (z.bool A),aZ (by rw[G];cases want<;>decide)];exact U lf n Z a2
theorem Zo{call:dO}{d:Option Key}{g:Key}{want:Bool}{q:Option (List Nat)}{op:bq}{bd:List FP}{E:Env}{H:ax}{K:Env→ax→List FP→dH}(z:E.get g=some .undef):
  bk.jq call ⟨d,some (g,want),q,op⟩ E H bd K=K (iU E d .undef) H (oE q bd):=by
 show ob (E.get g) (.err 51) (fun v=>yw v (il d E H fun E H=>K E H (oE q bd)) fun b=>aI (Bool.xor b want) (il d E H fun E H=>K E H (oE q bd)) (bk.pK call ⟨d,some (g,want),q,op⟩ E H bd K))=_;rw[z,cI];show il d E H (fun E H=>K E H (oE q bd))=_;rw[xd]
theorem bK{fl:List FL}{d g:Key}{want:Bool}{op:bq}{r:List bk}(A:aF VE g.n=some (.k .undef)){Q:bb→aK→Prop}(h:VQ T r ((d.n,.k .undef)::VE) B fl Q):VQ T (⟨some d,some (g,want),none,op⟩::r) VE B fl Q:=by
 intro H0 X0 E H β z bd G;obtain⟨a,I,h2⟩:=z.env g _ A;simp only[aE] at h2;subst h2;obtain⟨L,M,O,U,Y⟩:=h H0 X0 _ H β (z.set (d:=d) (v:=.k .undef) (a:=.undef) (by simp only[aE])) bd G;refine⟨L,M,O,fun lf n Z a2=>?_,Y⟩;show bk.jq (T.call lf n) ⟨some d,some (g,want),none,op⟩ E H bd (iM (T.call lf n) r)=_;rw[Zo I];exact U lf n Z a2
theorem dF{fl:List FL}{d g:Key}{want:Bool}{l:List Nat}{op:bq}{r:List bk}(A:aF VE g.n=some (.k .undef)){Q:bb→aK→Prop}(h:VQ T r ((d.n,.k .undef)::VE) B (.rd []::fl) Q):VQ T (⟨some d,some (g,want),some l,op⟩::r) VE B fl Q:=by
 intro H0 X0 E H β z bd G;obtain⟨a,I,h2⟩:=z.env g _ A;simp only[aE] at h2;subst h2;obtain⟨L,M,O,U,Y⟩:=h H0 X0 _ H β (z.set (d:=d) (v:=.k .undef) (a:=.undef) (by simp only[aE])) (⟨some [],[],0,0⟩::bd) (G.cons ⟨rfl,rfl,[],rfl,fun f h=>by cases h⟩);refine⟨L,M,O,fun lf n Z a2=>?_,Y⟩;show bk.jq (T.call lf n) ⟨some d,some (g,want),some l,op⟩ E H bd (iM (T.call lf n) r)=_;rw[Zo I];exact U lf n Z a2
theorem vi_storeA{n:Nat}{a x:aG}{b j o es elem aD:Nat}{rows:ai}{row z:List DC}{v:VV}{new:List VV}(ha:a.vv VE=some (.bp b rows.length j o es))(hb:aF B b=some (.acc elem aD es rows))(hx:x.vv VE=some v)(hv:v.cells=some new)(hd:gA new=some z)(O:z.length=n)(h0:0<n)(hk:o+n≤es)
  (A:rows[j]?=some row) (hq:Q .undef ((b,.acc elem aD es (rows.set j (jQ row o z)))::B)):VI T (.store n a x) VE B [b] Q:=fun _ X0 _ H β L=>by
 obtain⟨_,h1,h2⟩:=L.bI ha;simp only[aE] at h2;subst h2;obtain⟨y,h3,h4⟩:=L.bI hx;obtain⟨t,h5,M⟩:=h4.cells hv;have M:=M.data hd;obtain⟨sK,cs,k1,k3,k4⟩:=(L.box b _ hb).resolve_left (fun e=>by rw[e] at A;cases A);obtain⟨l,k5,k6,k7⟩:=k4 j row A;have G:=(List.getElem?_eq_some_iff.1 A).1;have ht:t.length=n:=by rw[M.length,O]
 have U:=k7.length;have e:=fun K=>HE (e:=aC.err 5) (K:=K) (q:=j) (o:=o) (n:=n) (new:=t) k1 al G k5 k6 ht h0 hk
 refine⟨0,.undef,_,fun lf m _ _=>by rw[KH h1 h3 h5,e],?_⟩;refine zF (s':=.acc elem aD es (rows.set j (jQ row o z))) L hb (show rows≠[] from fun e=>by rw[e] at A;cases A) rfl (fun f hf=>?_) rfl rfl (fun X j1 Y=>?_) (fun X=>by simp only[aE]) hq
 ·show(H.t.set (β b) _).get f=_;rw[GT.da,aZ hf]
 have hlen:(bif Nat.beq n es then t else ed l o t).length=es:=by
  cases Z:Nat.beq n es with
  |true=>have:=cU Z;show t.length=_;omega
  |false=>show(ed l o t).length=_;simp only[ed,eT,ju,qz];omega
 refine .inr ⟨rows.length,cs.set j (bif Nat.beq n es then t else ed l o t),?_,by rw[lA];exact bf _,fun i I hi=>?_⟩
 ·show(H.t.set (β b) _).get (β b)=_;rw[GT.da,bg rfl,lA]
 rw[RT.da];rw[Mj] at hi
 by_cases ei:i=j
 ·subst ei;rw[bg rfl,bg G] at hi
  cases hi
  rw[bg rfl];refine⟨_,aa,hlen,?_⟩;have h7:=Y _ _ M;have h8:=Y _ _ k7;have h9:=h8.ed o h7;unfold jQ;rw[O,←U,k6];rw[O] at h9;exact bX.bif h7 h9
 rw[aZ (fun k=>ei k.symm)] at hi;rw[aZ ei];obtain⟨l',m1,m2,m3⟩:=k4 i I hi;exact⟨l',m1,m2,Y _ _ m3⟩
theorem nf.less{n:Nat}{B B':aK}{β:Nat→Nat}{fl:List FL}{bd:List FP}(h:nf n B β fl bd)(k:∀b s,aF B' b=some s→aF B b=some s):nf n B' β fl bd:=
 ⟨h.1,fun i x r L M=>by
  have:=h.2 i x r L M
  cases x with
  |rd R=>obtain⟨a,b,l,c,d⟩:=this;exact⟨a,b,l,c,fun f z=>⟨(d f z).1,fun b s A G I=>(d f z).2 b s (k b s A) G I⟩⟩
  |qt=>exact this
  |off _=>exact this
  |wr _=>exact fun f z=>⟨(this f z).1,fun b s A G I=>(this f z).2 b s (k b s A) G I⟩
  |un=>trivial⟩
theorem aa9{B:aK}{b:Nat}:∀c s,aF (cQ B b) c=some s→aF B c=some s:=fun c s h=>by
 rw[jb] at h
 by_cases e:b=c
 ·rw[bg e] at h;cases h
 rwa [aZ e] at h
theorem aej{ops:List bk}{fl:List FL}{Q:bb→aK→Prop}(k b:Nat){v:VV}{elem aD es lo:Nat}{rows:ai}(z:aF VE k=some v)(A:aF B b=some (.arr elem aD es lo rows))(ho:v.uq b rows.length es)(h:VQ T ops ((k,v.mu b (.sl rows))::VE) (cQ B b) fl Q):VQ T ops VE B fl Q:=
 fun H0 X0 E H β G bd I=>by
  obtain⟨L,M,O,U,Y⟩:=h H0 X0 E H β (G.mu A z ho) bd (I.less aa9);exact⟨L,M,O,U,Y.more uN⟩
theorem lQ{ops:List bk}{fl:List FL}{Q:bb→aK→Prop}(k b:Nat){v:VV}{elem aD es:Nat}{rows:ai}(z:aF VE k=some v)(A:aF B b=some (.acc elem aD es rows))(ho:v.wI b rows.length es)(h:VQ T ops ((k,v.pL b (.cF rows))::VE) (cQ B b) fl Q):VQ T ops VE B fl Q:=
 fun H0 X0 E H β G bd I=>by
  obtain⟨L,M,O,U,Y⟩:=h H0 X0 E H β (G.pL A z ho) bd (I.less aa9);exact⟨L,M,O,U,Y.more uN⟩
theorem gZ{n:Nat}{a x:aG}{b j o es elem aD:Nat}{rows:ai}{row z:List DC}{v:VV}{new:List VV}(A:a.vv VE=some (.bp b rows.length j o es))(G:aF B b=some (.acc elem aD es rows))(I:x.vv VE=some v)(L:v.cells=some new)(M:gA new=some z)(O:z.length=n)(h0:0<n)(U:o+n≤es)
  (Y:rows[j]?=some row) (Z:∀w,w=rows.set j (jQ row o z)→w.length=rows.length→Q .undef ((b,.acc elem aD es w)::B)):VI T (.store n a x) VE B [b] Q:=
 vi_storeA A G I L M O h0 U Y (Z _ rfl (lA ..))
theorem rF{n:Nat}{a x:aG}{b j o es elem aD lo:Nat}{rows:ai}{row z:List DC}{v:VV}{new:List VV}(A:a.vv VE=some (.bp b rows.length j o es))(G:aF B b=some (.arr elem aD es lo rows))(I:x.vv VE=some v)(L:v.cells=some new)(M:gA new=some z)(O:z.length=n)(h0:0<n)(U:o+n≤es)
  (Y:rows[j]?=some row) (Z:∀w,w=rows.set j (jQ row o z)→w.length=rows.length→Q .undef ((b,.arr elem aD es rows.length w)::B)):VI T (.store n a x) VE B [b] Q:=
 Fo A G I L M O h0 U Y (Z _ rfl (lA ..))
theorem ae{p:Prop}(h:p:=by first|omega|((try simp only[gj,zf,zg,eT,gF,jK,lA,ju,qz,rS] at*);omega)):p:=h
theorem cJ{T:aM}{VE:bb}{B:aK}{Q:bb→aK→Prop}{fl:List FL}{d:Key}{l:List Nat}{n:Nat}{w:Bool}{a:aG}{row:List DC}{o:Nat}{r:List bk}(ha:a.vv VE=some (.rp row o))(hk:mL [] l fl=true)(h:VI T (.load n w a) VE B [] fun v B'=>VQ T r ((d.n,v)::VE) B' (.rd []::fl) Q):VQ T (⟨some d,none,some l,.load n w a⟩::r) VE B fl Q:=by
 intro H0 X0 E H β L bd I;obtain⟨N,v0,H',e,M,v,B',β',Y,O,hv,hq⟩:=uR h L;obtain⟨x,Z,A⟩:=L.bI ha;simp only[aE] at A;obtain⟨f,g,Q1,l1,rfl,_,_,hX,U⟩:=A;have z:H'=H.mark:=Ku Z (e N N (bf _) (bf _));have G:H.mark.ws=[]∧H.mark.next=H.next:=by cases H;exact⟨rfl,rfl⟩
 have k:sk H.next B β (.rd []) ⟨(bq.load n w a).reads E,H'.ws,H.next,H'.next⟩:=by
  refine⟨by rw[z];exact G.1,by show H.next=H'.next;rw[z];exact G.2.symm,[f],?_,fun f' I=>?_⟩
  ·show some (im (a.ev E))=_;rw[Z];rfl
  rcases List.mem_singleton.1 I with rfl
  exact⟨U,fun b s M h2 h3=>absurd (.inr ⟨b,s,M,h2,h3⟩) hX⟩
 obtain⟨N2,E2,H2,e2,hp⟩:=hq H0 X0 _ _ β' (O.set hv) (⟨(bq.load n w a).reads E,H'.ws,H.next,H'.next⟩::bd) ((I.cons k).step Y);refine⟨max N N2,E2,H2,fun lf n a1 a2=>?_,hp.of Y L.aR⟩;show bk.jq (T.call lf n) ⟨some d,none,some l,_⟩ E H bd (iM (T.call lf n) r)=_;rw[uG,uH (e lf n al al) (xe I M hk)];exact e2 lf n al al
theorem au.uniq{a b:ai}{d:DC}(h:au a d)(k:au b d):a=b:=by
 rcases h with rfl|⟨rfl,rfl⟩<;>rcases k with h|⟨rfl,h⟩<;>first|(cases h;rfl)|rfl|cases h
def jZ(k n:Int)(w:ai):Prop:=∀(p:Nat)row z,(p:Int)<k→w[p]?=some row→row[0]?=some (.i .i64 z)→z≤n
def gD(k n:Int)(w:ai):Prop:=∀(q:Nat)r d wc,(q:Int)<k→w[q]?=some r→r[2]?=some d→au wc d→jZ wc.length n wc
theorem aba{n:Int}{w:ai}:jZ 0 n w:=fun p _ _ h=>by omega
theorem widthTo_0{n:Int}{w:ai}:gD 0 n w:=fun p _ _ _ h=>by omega
theorem jZ.mono{k n m:Int}{w:ai}(h:jZ k n w)(A:n≤m):jZ k m w:=fun p r z a b c=>T8 (h p r z a b c) A
theorem gD.mono{k n m:Int}{w:ai}(h:gD k n w)(z:n≤m):gD k m w:=fun q r d wc a b c e=>(h q r d wc a b c e).mono z
theorem jZ.step{k n m z:Int}{w:ai}{row:List DC}(h:jZ k n w)(h0:0≤k)(G:w[k.toNat]?=some row)(I:row[0]?=some (.i .i64 z))(L:n≤m)(A:z≤m):jZ (k+1) m w:=fun p r M a b c=>by
 by_cases O:(p:Int)<k
 ·exact T8 (h p r M O b c) L
 have:p=k.toNat:=by omega
 subst this;rw[G] at b;cases b;rw[I] at c;cases c;exact A
theorem gD.step{k n j:Int}{w wc:ai}{r:List DC}{d:DC}(h:gD k n w)(h0:0≤k)(G:w[k.toNat]?=some r)(I:r[2]?=some d)(L:au wc d)(M:jZ j n wc)(Z:(wc.length:Int)≤j):gD (k+1) n w:=fun q r' O A a b c e=>by
 by_cases U:(q:Int)<k
 ·exact h q r' O A U b c e
 have:q=k.toNat:=by omega
 subst this;rw[G] at b;cases b;rw[I] at c;cases c;have:=au.uniq L e;subst this;intro p row z h1 h2 Y;exact M p row z al h2 Y
theorem gD.get{k n:Int}{w wc:ai}{r:List DC}{d:DC}{q:Nat}(h:gD k n w)(I:(w.length:Int)≤k)(z:w[q]?=some r)(A:r[2]?=some d)(G:au wc d):jZ wc.length n wc:=by
 have:=(List.getElem?_eq_some_iff.1 z).1;exact h q r d wc al z A G
theorem jZ.get{k n z:Int}{w:ai}{row:List DC}{q:Nat}(h:jZ k n w)(I:(w.length:Int)≤k)(A:w[q]?=some row)(G:row[0]?=some (.i .i64 z)):z≤n:=by
 have:=(List.getElem?_eq_some_iff.1 A).1;exact h q row z al A G
theorem gD.all{k n:Int}{w:ai}(h:gD k n w)(z:(w.length:Int)≤k):gD w.length n w:=fun q r d wc a b c e=>h q r d wc al b c e
theorem gD.at{n:Int}{w wc:ai}(h:gD w.length n w)(A:wc=[]∨∃(q:Nat)(r:List DC)(d:DC),w[q]?=some r∧r[2]?=some d∧au wc d):jZ wc.length n wc:=by
 rcases A with rfl|⟨q,r,d,a,b,c⟩
 ·exact fun p row z h=>by simp at h;omega
 exact h.get (qA _) a b c
theorem gD.cast{k n m:Int}{w:ai}(h:gD k n w)(e:n=m):gD k m w:=e▸h
def kG(k:Int)(w:ai):Prop:=∀(q:Nat)r d wc,(q:Int)<k→w[q]?=some r→r[2]?=some d→au wc d→1≤(wc.length:Int)∧(wc.length:Int)≤12
theorem lensTo_0{w:ai}:kG 0 w:=fun p _ _ _ h=>by omega
theorem kG.step{k:Int}{w wc:ai}{r:List DC}{d:DC}(h:kG k w)(h0:0≤k)(A:w[k.toNat]?=some r)(G:r[2]?=some d)(I:au wc d)(L:1≤(wc.length:Int)∧(wc.length:Int)≤12):kG (k+1) w:=fun q r' M z a b c e=>by
 by_cases O:(q:Int)<k
 ·exact h q r' M z O b c e
 have:q=k.toNat:=by omega
 subst this;rw[A] at b;cases b;rw[G] at c;cases c;have:=au.uniq I e;subst this;exact L
theorem kG.all{k:Int}{w:ai}(h:kG k w)(z:(w.length:Int)≤k):kG w.length w:=fun q r d wc a b c e=>h q r d wc al b c e
theorem kG.get{k:Int}{w wc:ai}{r:List DC}{d:DC}{q:Nat}(h:kG k w)(I:(w.length:Int)≤k)(z:w[q]?=some r)(A:r[2]?=some d)(G:au wc d):1≤(wc.length:Int)∧(wc.length:Int)≤12:=by
 have:=(List.getElem?_eq_some_iff.1 z).1;exact h q r d wc al z A G
theorem lens1{a b d:DC}{wc:ai}(z:au wc d)(h:1≤(wc.length:Int)∧(wc.length:Int)≤12):kG ([[a,b,d]]:ai).length [[a,b,d]]:=fun q r M A G I h2 L=>by
 have:q=0:=by simp at G;omega
 subst this
 cases I
 cases h2
 have:=au.uniq z L;subst this;exact h
def ql(n:Int)(w:ai):Prop:=0<n→∃(q:Nat)(r:List DC)(d:DC)(wc:ai)(p:Nat)(row:List DC),w[q]?=some r∧r[2]?=some d∧au wc d∧wc[p]?=some row∧row[0]?=some (.i .i64 n)
theorem aap{w:ai}:ql 0 w:=fun h=>absurd h ao
theorem ql.max{a b n:Int}{w wc:ai}{q p:Nat}{r row:List DC}{d:DC}(h:ql a w)(z:w[q]?=some r)(A:r[2]?=some d)(G:au wc d)(I:wc[p]?=some row)(L:row[0]?=some (.i .i64 b))(e:n=a∨n=b):ql n w:=by
 rcases e with rfl|rfl
 ·exact h
 exact fun _=>⟨q,r,d,wc,p,row,z,A,G,I,L⟩
theorem ql.le{n m:Int}{w:ai}(h:ql n w)(k:gD w.length m w)(h0:0≤m):n≤m:=by
 by_cases z:0<n
 ·obtain⟨q,r,d,wc,p,row,a,b,c,e,f⟩:=h z;exact(k.get (qA _) a b c).get (qA _) e f
 omega
theorem KI{T:aM}{VE:bb}{B:aK}{R:Ex→bb→aK→Prop}{k:Key}{a b:IC}{t:Bool}{p q:Prop}(z:aF VE k.n=some (.d (.b t)))(A:t=true→p→VC T a VE B R)(h2:t=false→q→VC T b VE B R)(G:(t=true)=p:=by first|(simp only[eW,gM,gx,mq,gj];first|done|rfl)|rfl)(I:(t=false)=q:=by first|(simp only[eW,gM,gx,mq,gj];first|done|rfl)|rfl):VC T (.cond (.t k) a b) VE B R:=cE z (fun h=>A h (Eq.mp G h)) (fun h=>h2 h (Eq.mp I h))
theorem vo_splitG{T:aM}{VE:bb}{B:aK}{g:Key}{t:Bool}{p q:Prop}{ops:List bk}{Q:bb→aK→Prop}(z:aF VE g.n=some (.d (.b t)))(A:t=true→p→VO T ops VE B Q)(h2:t=false→q→VO T ops VE B Q)(G:(t=true)=p:=by first|(simp only[eW,gM,gx,mq,gj];first|done|rfl)|rfl)(I:(t=false)=q:=by first|(simp only[eW,gM,gx,mq,gj];first|done|rfl)|rfl):VO T ops VE B Q:=vo_split z (fun h=>A h (Eq.mp G h)) (fun h=>h2 h (Eq.mp I h))
@[reducible] def tJ:Ty:=.i .i64 (-9223372036854775808) 9223372036854775807
@[reducible] def dJ(x:Int):DC:=.i .i64 x
@[reducible] def dU(x:Int):VV:=.d (.i .u16 x)
theorem ak{k:IntKind}{lo hi z:Int}(A:lo≤z:=by first|omega|((try simp only[gj,zf,zg,eT,gF,jK,lA,ju,qz,rS] at*);omega))(h2:z≤hi:=by first|omega|((try simp only[gj,zf,zg,eT,gF,jK,lA,ju,qz,rS] at*);omega)):(Ty.i k lo hi).ok (.i k z):=dY A h2
theorem Un{row:List Ty}{rows:ai}(z:Int)(h:af row rows)(A:z.toNat<rows.length:=by first|omega|((try simp only[gj,zf,zg,eT,gF,jK,lA,ju,qz,rS] at*);omega)):∃r,rows[z.toNat]?=some r∧e6 row r:=⟨_,dm A,lu h (dm A)⟩
theorem okR_n6{z p1 p2 p3 A G:Ty}{l:List DC}(h:e6 [z,p1,p2,p3,A,G] l):∃d0 d1 d2 d3 d4 d5,l=[d0,d1,d2,d3,d4,d5]∧z.ok d0∧p1.ok d1∧p2.ok d2∧p3.ok d3∧A.ok d4∧G.ok d5:=by
 obtain⟨d0,_,rfl,I,h⟩:=dw h;obtain⟨d1,_,rfl,L,h⟩:=dw h;obtain⟨d2,_,rfl,M,h⟩:=dw h;obtain⟨d3,_,rfl,O,h⟩:=dw h;obtain⟨d4,_,rfl,U,h⟩:=dw h;obtain⟨d5,_,rfl,Y,h⟩:=dw h;obtain rfl:=pv h;exact⟨d0,d1,d2,d3,d4,d5,aa,I,L,M,O,U,Y⟩
theorem aek{A p1 p2 p3 G I L:Ty}{l:List DC}(h:e6 [A,p1,p2,p3,G,I,L] l):∃d0 d1 d2 d3 d4 d5 z,l=[d0,d1,d2,d3,d4,d5,z]∧A.ok d0∧p1.ok d1∧p2.ok d2∧p3.ok d3∧G.ok d4∧I.ok d5∧L.ok z:=by
 obtain⟨d0,_,rfl,M,h⟩:=dw h;obtain⟨d1,_,rfl,O,h⟩:=dw h;obtain⟨d2,_,rfl,U,h⟩:=dw h;obtain⟨d3,_,rfl,Y,h⟩:=dw h;obtain⟨d4,_,rfl,Z,h⟩:=dw h;obtain⟨d5,_,rfl,k5,h⟩:=dw h;obtain⟨z,_,rfl,k6,h⟩:=dw h;obtain rfl:=pv h;exact⟨d0,d1,d2,d3,d4,d5,z,aa,M,O,U,Y,Z,k5,k6⟩
theorem bH{p:Prop}(h:p:=by simp):p:=h
theorem bR{p:Prop}(h:p:=by first|(intro _;rfl)|(intro h;rw[h];rfl)|(intro h;exact absurd (congrArg List.length h) (by simp only[jK];exact ae))):p:=h
theorem cR{p:Prop}(h:p:=by simp only[eT,gF,jK];omega):p:=h
theorem dC{p:Prop}(h:p:=by assumption):p:=h
theorem vQ{p:Prop}(h:p:=by simp only[eT,gF,jK,ju,qz];exact ae):p:=h
theorem mT{p:Prop}(h:p:=by first|omega|(simp only[eT,gF,jK];omega)):p:=h
theorem yD{p:Prop}(h:p:=by first|exact .inl ae|exact .inr ⟨_,(by assumption),ae⟩):p:=h
theorem Bm{p:Prop}(h:p:=by simp only[eT,gF,jK];exact ae):p:=h
theorem Eg{p:Prop}(h:p:=by first|(simp only[eW,gU,false_iff,true_iff];omega)|(simp;omega)):p:=h
theorem Eh{p:Prop}(h:p:=by first|assumption|exact .inl rfl):p:=h
theorem HG{p:Prop}(h:p:=by first|(constructor<;>intro z<;>(try simp only[eW,gM,gx,mq] at*)<;>first|omega|(simp_all;omega)|(simp_all;done))):p:=h
theorem Mw{p:Prop}(h:p:=by simp only[jK];exact ae):p:=h
theorem Mx{p:Prop}(h:p:=by first|omega|assumption|(simp only[eT,gF,jK];omega)):p:=h
theorem My{p:Prop}(h:p:=by first|exact fun _=>ae|(intro h;simp at h;omega)):p:=h
theorem Uo{p:Prop}(h:p:=by first|rfl|simp only[lA]):p:=h
theorem Up{p:Prop}(h:p:=by simp only[gF,jK];omega):p:=h
theorem Uq{p:Prop}(h:p:=by first|assumption|exact widthTo_0|exact aba|exact gD.mono (by assumption) ae|exact jZ.step (by assumption) ae (by assumption) rfl ae ae|exact gD.step (by assumption) ae (by assumption) rfl (by assumption) (by assumption) ae):p:=h
end Go.Ev
namespace Go.Ev.Pp
end Go.Ev.Pp
