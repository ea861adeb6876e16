/- Part 12 of rules for walks through the code of a program, and of such walks; what each part proves is said by its theorems. -/
import Derived.Test.YtmpoloiempjdpaaGreatS11
set_option linter.unusedVariables false
set_option linter.unusedSimpArgs false
noncomputable section
set_option maxRecDepth 100000
set_option maxHeartbeats 4000000
namespace Go.Ev
open Go
inductive Ty where
 |i (k:IntKind) (lo hi:Int)
 |b
 |s (n:Nat)
 |l (n:Nat) (row:List Ty)
 |e (d:DC)
 |x
 |q (p:DC→Prop)
mutual
def Ty.ok:Ty→DC→Prop
 |.i k lo hi,d=>∃z,d= .i k z∧lo≤z∧z≤hi
 |.b,d=>∃b,d= .b b
 |.s n,d=>∃s:List UInt8,d=aw s∧s.length≤n
 |.l n row,d=>∃rows,au rows d∧rows.length≤n∧∀r,r∈rows→fk row r
 |.e x,d=>d=x
 |.x,_=>True
 |.q p,d=>p d
def fk:List Ty→List DC→Prop
 |[],l=>l=[]
 |p::ps,l=>∃d r,l=d::r∧p.ok d∧fk ps r
end
@[reducible] def af(row:List Ty)(rows:ah):Prop:=∀r,r∈rows→fk row r
theorem Ty.dV{k:IntKind}{lo hi:Int}{d:DC}(h:(Ty.i k lo hi).ok d):∃z,d= .i k z∧lo≤z∧z≤hi:=by simpa only[Ty.ok] using h
theorem Ty.eU{d:DC}(h:Ty.b.ok d):∃b,d= .b b:=by simpa only[Ty.ok] using h
theorem Ty.bH{n:Nat}{d:DC}(h:(Ty.s n).ok d):∃s:List UInt8,d=aw s∧s.length≤n:=by simpa only[Ty.ok] using h
theorem Ty.aM{n:Nat}{row:List Ty}{d:DC}(h:(Ty.l n row).ok d):∃rows,au rows d∧rows.length≤n∧af row rows:=by unfold Ty.ok at h;exact h
theorem Ty.uq{x d:DC}(h:(Ty.e x).ok d):d=x:=by simpa only[Ty.ok] using h
theorem uq{x:DC}:(Ty.e x).ok x:=by simp only[Ty.ok]
theorem cg{x:DC}:Ty.x.ok x:=by simp only[Ty.ok]
theorem Ty.bT{p:DC→Prop}{d:DC}(h:(Ty.q p).ok d):p d:=by simpa only[Ty.ok] using h
theorem bT{p:DC→Prop}{d:DC}(h:p d):(Ty.q p).ok d:=by simpa only[Ty.ok] using h
theorem dV{k:IntKind}{lo hi z:Int}(A:lo≤z)(h2:z≤hi):(Ty.i k lo hi).ok (.i k z):=by simp only[Ty.ok];exact⟨z,rfl,A,h2⟩
theorem eU{b:Bool}:Ty.b.ok (.b b):=by simp only[Ty.ok];exact⟨b,rfl⟩
theorem bH{n:Nat}{s:List UInt8}(h:s.length≤n):(Ty.s n).ok (aw s):=by simp only[Ty.ok];exact⟨s,rfl,h⟩
theorem aM{n:Nat}{row:List Ty}{d:DC}{rows:ah}(z:au rows d)(h2:rows.length≤n)(A:af row rows):(Ty.l n row).ok d:=by simp only[Ty.ok];exact⟨rows,z,h2,A⟩
theorem gK{n:Nat}{row:List Ty}:(Ty.l n row).ok .nil:=aM (rows:=[]) (.inr ⟨rfl,rfl⟩) (gL _) fun _ h=>by cases h
theorem bm:fk [] []:=by simp only[fk]
theorem aj{p:Ty}{ps:List Ty}{d:DC}{r:List DC}(h:p.ok d)(k:fk ps r):fk (p::ps) (d::r):=by rw[fk];exact⟨d,r,rfl,h,k⟩
theorem dw{p:Ty}{ps:List Ty}{l:List DC}(h:fk (p::ps) l):∃d r,l=d::r∧p.ok d∧fk ps r:=by rwa [fk] at h
theorem oL{l:List DC}(h:fk [] l):l=[]:=by rwa [fk] at h
theorem RI:∀{ps:List Ty}{l:List DC},fk ps l→l.length=ps.length
 |[],l,h=>by rw[oL h];rfl
 |p::ps,l,h=>by obtain⟨d,r,rfl,_,h⟩:=dw h;rw[gB,gB,RI h]
theorem cj{row:List Ty}:af row []:=fun _ h=>by cases h
theorem eB{row:List Ty}{a b:ah}(h:af row a)(k:af row b):af row (a++b):=fun r z=>(List.mem_append.1 z).elim (h r) (k r)
theorem ee{row:List Ty}{r:List DC}(h:fk row r):af row [r]:=fun _ z=>by rcases List.mem_singleton.1 z with rfl;exact h
theorem iw{row:List Ty}{a:ah}{l n:Nat}(h:af row a):af row ((a.drop l).take n):=fun r z=>h r (Ec (Bt z))
theorem ff{row:List Ty}{a:ah}{j:Nat}{r:List DC}(h:af row a)(k:fk row r):af row (a.set j r):=fun q z=>(List.mem_or_eq_of_mem_set z).elim (h q) fun e=>e▸k
theorem FK{row:List Ty}{r:List DC}{n:Nat}(k:fk row r):af row (List.replicate n r):=fun q z=>(List.eq_of_mem_replicate z)▸k
theorem cC{row:List Ty}{rows:ah}{es:Nat}(h:af row rows)(z:row.length=es):∀r,r∈rows→r.length=es:=fun r A=>(RI (h r A)).trans z
theorem lJ{row:List Ty}{rows:ah}(h:af row rows){j:Nat}{r:List DC}(z:rows[j]?=some r):fk row r:=h r (rj z)
variable{T:aL}{VE:bb}{B:aK}{Q:VV→aK→Prop}
theorem bx{z:Int}{n:Nat}(h0:0≤z)(A:z<n):∃j:Nat,z=j∧j<n:=⟨z.toNat,(AX h0).symm,an⟩
theorem aH{x i:aG}{es:Nat}{k:IntKind}{rows:ah}{r:List DC}{d:DC}{z:Int}(A:x.vv VE=some (.d d))(hi:i.vv VE=some (.d (.i k z)))(G:au rows d)(h0:0≤z)(I:rows[z.toNat]?=some r)(L:r.length=es)(M:Q (.rp r 0) B):VI T (.kr es x i) VE B [] Q:=by
 obtain⟨j,rfl⟩:∃j:Nat,z=j:=⟨z.toNat,(AX h0).symm⟩;exact vi_idxD A G hi I L M
theorem md{es:Nat}{x:aG}{lo hi:Option aG}{rows:ah}{row:List Ty}{d:DC}{l h:Nat}(M:x.vv VE=some (.d d))(hd:au rows d)(z:af row rows)(he:row.length=es)(I:rows=[]→d= .nil)(O:pR VE hi rows.length h)(U:pR VE lo 0 l)(L:l≤h)(A:h≤rows.length)
  (Y:∀Z,au ((rows.drop l).take (h-l)) Z→Q (.d Z) B):VI T (.sE es x lo hi) VE B [] Q:=by
 cases rows with
 |cons r0 rs=>exact vi_slD M hd (cC z he) (Nat.zero_lt_succ _) O U L A (Y _ (.inl rfl))
 |nil=>
  obtain rfl:=I rfl;obtain rfl:h=0:=by simpa using A
  obtain rfl:l=0:=by omega
  intro H0 X0 E H β z;obtain⟨a,h1,h2⟩:=z.bC M;simp only[aE,bA] at h2;subst h2;refine eG (v:=.fV) (fun call=>?_) (du z (v:=.d .nil) (by simp only[aE,bA]) (Y .nil (.inr ⟨rfl,rfl⟩)))
  show bq x _ (.err 16) (fun v=>fy v (.err 16) (dT _ hi 0 0 (.err 16) fun h=>dT _ lo 0 h (.err 16) fun _=>.ok .fV H)
   fun f g off ln G=>aJ (Nat.beq es G) (dT _ hi ln (nW g off es ln) (.err 16) fun h=>dT _ lo 0 h (.err 16) fun lo=>
    ch (Nat.add off (Nat.mul lo es)) fun off=>ch (Nat.sub h lo) fun n=>.ok (.slice f g off n G) H) (.err 16))=_
  rw[cQ,h1,cA];show dT _ hi 0 0 (aD.err 16) (fun h=>dT _ lo 0 h (.err 16) fun _=>.ok .fV H)=_;rw[vf (d:=0) z O (bd _) (bd _),vf z U (bd _) (bd _)]
def zo:IntKind→Int
 |.i64=> -9223372036854775808
 |_=>0
def zp:IntKind→Int
 |.i64=>9223372036854775807
 |.u8=>255
 |.u16=>65535
 |.u64=>18446744073709551615
 |_=>0
def XR:IntKind→Bool
 |.i64=>true
 |.u8=>true
 |.u16=>true
 |.u64=>true
 |_=>false
theorem agx{k:IntKind}(h:XR k=true){n:Int}(z:zo k≤n)(h2:n≤zp k):k.wrap n=n:=by
 cases k<;>first|cases h|skip
 all_goals(simp only[zo,zp] at z h2;simp[IntKind.wrap,IntKind.bits,IntKind.signed])
 all_goals(first|omega|(split<;>omega))
theorem eO{k:IntKind}{x:aG}{z:IntKind}{n:Int}(A:x.vv VE=some (.d (.i z n)))(h:XR k=true)(G:zo k≤n)(h2:n≤zp k)(I:Q (.d (.i k n)) B):VI T (.conv k x) VE B [] Q:=
 abV A (by rw[agx h G h2];exact I)
theorem c7{x y:aG}{k:IntKind}{a b:Int}(z:x.vv VE=some (.d (.i k a)))(A:y.vv VE=some (.d (.i k b)))(h0:mF b 0=false)(G:0≤a)(_hb:0<b)(I:Q (.d (.i k (a % b))) B):VI T (.bin .rem x y) VE B [] Q:=
 ab3 z A h0 (by rw[ago G];exact I)
theorem aah{mx:Bool}{x y:aG}{k:IntKind}{a b:Int}(G:x.vv VE=some (.d (.i k a)))(I:y.vv VE=some (.d (.i k b)))(L:∀z,((mx=true→a≤z∧b≤z)∧(mx=false→z≤a∧z≤b)∧(z=a∨z=b))→Q (.d (.i k z)) B):VI T (.xD mx x [y]) VE B [] Q:=fun _ _ E H _ A=>by
 have M:=A.sH G;have h2:=A.sH I;refine eG (v:=.int k (aJ (aJ mx (fu a b) (fu b a)) b a)) (fun call=>?_) (du A (v:=.d (.i k (aJ (aJ mx (fu a b) (fu b a)) b a))) (by simp only[aE,bA]) (L _ ?_))
 ·show bq x E (.err 29) (fun a=>fG a (.err 29) fun k a=>ob (iK E [y]) (.err 29) fun vs=>ob (ET mx k vs a) (.err 29) fun v=>.ok v H)=_;rw[cQ,M,cA];show ob (iK E [y]) (aD.err 29) (fun vs=>ob (ET mx k vs a) (.err 29) fun v=>.ok v H)=_;rw[aaP h2 evs_nil,cA];show ob (mb (aJ (aJ mx (fu a b) (fu b a)) b a) fun a=>some (ai.int k a)) (aD.err 29) (fun v=>aD.ok v H)=_;rw[xj];rfl
 cases mx
 ·have e:aJ (aJ false (fu a b) (fu b a)) b a=if b<a then b else a:=by
   show aJ (fu b a) b a=_;rw[oF]
   by_cases h:b<a
   ·rw[decide_eq_true h,bg h];rfl
   rw[decide_eq_false h,aX h];rfl
  rw[e];refine⟨fun e=>(by cases e),fun _=>?_,?_⟩<;>split<;>omega
 have e:aJ (aJ true (fu a b) (fu b a)) b a=if a<b then b else a:=by
  show aJ (fu a b) b a=_;rw[oF]
  by_cases h:a<b
  ·rw[decide_eq_true h,bg h];rfl
  rw[decide_eq_false h,aX h];rfl
 rw[e];refine⟨fun _=>?_,fun e=>(by cases e),?_⟩<;>split<;>omega
theorem mR{x y:aG}{k:IntKind}{a b:Int}(A:x.vv VE=some (.d (.i k a)))(G:y.vv VE=some (.d (.i k b)))(I:∀z,a≤z∧b≤z∧(z=a∨z=b)→Q (.d (.i k z)) B):VI T (.xD true x [y]) VE B [] Q:=
 aah A G fun z h=>I z ⟨(h.1 rfl).1,(h.1 rfl).2,h.2.2⟩
theorem tO{x y:aG}{k:IntKind}{a b:Int}(A:x.vv VE=some (.d (.i k a)))(G:y.vv VE=some (.d (.i k b)))(I:∀z,z≤a∧z≤b∧(z=a∨z=b)→Q (.d (.i k z)) B):VI T (.xD false x [y]) VE B [] Q:=
 aah A G fun z h=>I z ⟨(h.2.1 rfl).1,(h.2.1 rfl).2,h.2.2⟩
theorem Y0{H:ax}{X:Nat→Prop}{β:Nat→Nat}:∀{ks:List Nat}{r r':List DC}{l U:List ai},jS ks r=true→jS ks r'=true→bc H X β (r.map .d) l→bc H X β (r'.map .d) U→kK ks l=true∧kK ks U=true∧∃b,tL l U=some b
 |[],[],[],l,U,_,_,h,h'=>by
  simp only[IT,bc] at h h';subst h;subst h';exact⟨aa,aa,true,aa⟩
 |[],_::_,_,_,_,h,_,_,_=>by cases h
 |[],[],_::_,_,_,_,h,_,_=>by cases h
 |_::_,[],_,_,_,h,_,_,_=>by cases h
 |_::_,_::_,[],_,_,_,h,_,_=>by cases h
 |c::ks,d::r,d'::r',l,U,Y,z,h,h'=>by
  simp only[lM,bc] at h h';obtain⟨a,l,rfl,G,h2⟩:=h;obtain⟨a',U,rfl,I,Xs⟩:=h';have go:(jS ks r=true∧jS ks r'=true)→Gx c a=true→Gx c a'=true→(∃b,FD a a'=some b)→kK (c::ks) (a::l)=true∧kK (c::ks) (a'::U)=true∧∃b,tL (a::l) (a'::U)=some b:=fun⟨g,g'⟩k L⟨b,hb⟩=>by
   obtain⟨e1,e2,b2,e3⟩:=Y0 g g' h2 Xs;refine⟨by simp only[kK,k,e1];rfl,by simp only[kK,L,e2];rfl,?_⟩;simp only[tL,hb,e3]
   cases b
   ·exact⟨false,aa⟩
   exact⟨b2,aa⟩
  simp only[aE] at G I
  cases d with
  |i k n=>
   obtain⟨M,Z⟩:=jD (show(Nat.beq (cS k) c&&jS ks r)=true from Y);simp only[bA] at G;subst G
   cases d' with
   |i L n'=>
    obtain⟨A,O⟩:=jD (show(Nat.beq (cS L) c&&jS ks r')=true from z);simp only[bA] at I;subst I;have e:cS k=cS L:=(cW M).trans (cW A).symm;refine go ⟨Z,O⟩ M A ?_;simp only[FD,e,show Nat.beq (cS L) (cS L)=true from gu _];exact⟨_,aa⟩
   |b t=>obtain⟨A,_⟩:=jD (show(Nat.beq c 100&&jS ks r')=true from z);have G:=cW M;have h2:=cW A;exact absurd (G.trans h2) (by cases k<;>decide)
   |s m v=>obtain⟨A,_⟩:=jD (show(Nat.beq c 101&&jS ks r')=true from z);have G:=cW M;have h2:=cW A;exact absurd (G.trans h2) (by cases k<;>decide)
   |nil=>cases z
   |sl _=>cases z
   |raw _ _ _=>cases z
  |b t=>
   obtain⟨M,Z⟩:=jD (show(Nat.beq c 100&&jS ks r)=true from Y);simp only[bA] at G;subst G
   cases d' with
   |i L n'=>obtain⟨A,_⟩:=jD (show(Nat.beq (cS L) c&&jS ks r')=true from z);have G:=cW M;have h2:=cW A;exact absurd (h2.trans G) (by cases L<;>decide)
   |b t'=>
    obtain⟨A,O⟩:=jD (show(Nat.beq c 100&&jS ks r')=true from z);simp only[bA] at I;subst I;exact go ⟨Z,O⟩ M A ⟨_,aa⟩
   |s m v=>obtain⟨A,_⟩:=jD (show(Nat.beq c 101&&jS ks r')=true from z);have G:=cW M;have h2:=cW A;exact absurd (G.symm.trans h2) ao
   |nil=>cases z
   |sl _=>cases z
   |raw _ _ _=>cases z
  |s m v=>
   obtain⟨M,Z⟩:=jD (show(Nat.beq c 101&&jS ks r)=true from Y);simp only[bA] at G;subst G
   cases d' with
   |i L n'=>obtain⟨A,_⟩:=jD (show(Nat.beq (cS L) c&&jS ks r')=true from z);have G:=cW M;have h2:=cW A;exact absurd (h2.trans G) (by cases L<;>decide)
   |b t'=>obtain⟨A,_⟩:=jD (show(Nat.beq c 100&&jS ks r')=true from z);have G:=cW M;have h2:=cW A;exact absurd (G.symm.trans h2) ao
   |s m' v'=>
    obtain⟨A,O⟩:=jD (show(Nat.beq c 101&&jS ks r')=true from z);simp only[bA] at I;subst I;exact go ⟨Z,O⟩ M A ⟨_,aa⟩
   |nil=>cases z
   |sl _=>cases z
   |raw _ _ _=>cases z
  |nil=>cases Y
  |sl _=>cases Y
  |raw _ _ _=>cases Y
theorem xw{neg:Bool}{ks:List Nat}{x y:aG}{r r':List DC}(L:x.vv VE=some (.agg (r.map .d)))(M:y.vv VE=some (.agg (r'.map .d)))(O:jS ks r=true)(A:jS ks r'=true)(U:∀b,Q (.d (.b b)) B):VI T (.eqv (.agg ks) neg x y) VE B [] Q:=fun _ X0 _ H β G=>by
 obtain⟨a,Y,h2⟩:=G.bC L;obtain⟨b,Z,z⟩:=G.bC M;simp only[aE] at h2 z;obtain⟨l,rfl,h2⟩:=h2;obtain⟨I,rfl,z⟩:=z;obtain⟨k1,k2,t,k3⟩:=Y0 O A h2 z;refine eG (v:=.bool (Bool.xor neg t)) (fun call=>?_) (du G (v:=.d (.b (Bool.xor neg t))) (by simp only[aE,bA]) (U _));show bq x _ (.err 7) (fun a=>bq y _ (.err 7) fun b=>ob (qc (.agg ks) a b) (.err 7) fun r=>po (Bool.xor neg r) fun r=>.ok (.bool r) _)=_;rw[cQ,Y,cA,cQ,Z,cA];show ob (aJ (kK ks l) (aJ (kK ks I) (tL l I) none) none) _ _=_;rw[k1,k2,k3]
 cases neg<;>cases t<;>rfl
def isCmp:BinOp→Bool
 |.lss=>true
 |.leq=>true
 |.gtr=>true
 |.geq=>true
 |_=>false
theorem Af{op:BinOp}{x y:aG}{a b:List UInt8}(A:x.vv VE=some (.d (aw a)))(G:y.vv VE=some (.d (aw b)))(ho:isCmp op=true)(I:∀b,Q (.d (.b b)) B):VI T (.bin op x y) VE B [] Q:=fun _ _ _ _ _ z=>by
 obtain⟨t,L⟩:∃t,Ei op (.str a.length (pack a)) (.str b.length (pack b))=some (.bool t):=by
  cases op<;>first|exact⟨_,rfl⟩|(cases ho;done)
 exact Ab (z.str A) (z.str G) (v:=.bool t) L (du z (v:=.d (.b t)) (by simp only[aE,bA]) (I _))
theorem cI{row:List Ty}{r:List DC}{rs:ah}(h:fk row r)(k:af row rs):af row (r::rs):=fun q z=>by
 rcases List.mem_cons.1 z with rfl|z
 ·exact h
 exact k q z
theorem Gf{x y:aG}{k:IntKind}{a b:Int}(A:x.vv VE=some (.d (.i k a)))(G:y.vv VE=some (.d (.i k b)))(I:0≤a)(L:0<b)(M:∀z,0≤z→z<b→Q (.d (.i k z)) B):VI T (.bin .rem x y) VE B [] Q:=
 ab3 A G (by rw[vo];exact decide_eq_false an) (by rw[ago I];exact M _ (Int.emod_nonneg _ an) (Int.emod_lt_of_pos _ L))
theorem rY{x y:aG}{k:IntKind}{a b:Int}(A:x.vv VE=some (.d (.i k a)))(G:y.vv VE=some (.d (.i k b)))(h0:mF b 0=false)(I:XR k=true)(z:0≤a)(O:0<b)(L:a/b≤zp k)(h2:zo k≤0)(M:Q (.d (.i k (a/b))) B):VI T (.bin .quo x y) VE B [] Q:=
 ab2 A G h0 (by rw[lm129 z,agx I (T9 h2 (Int.ediv_nonneg z an)) L];exact M)
theorem jh{c:IC}{R:Ex→bb→aK→Prop}(b i g elem aC es:Nat){e A:Nat}{row:List VV}(G:aF B b=some (.one e A row))(hi:row[i]?=some (.d .nil))(L:aF B g=none)(h:VC T c VE ((g,.acc elem aC es [])::(b,.one e A (row.set i (.ac g 0 es)))::B) R):VC T c VE B R:=
 fun H0 X0 E H β M=>(h H0 X0 E H β (M.aee G hi L)).mono fun _ _ _ O=>O.more fun c s z ho=>by
  rw[cP] at z
  by_cases I:g=c
  ·rw[bg I] at z;cases z;exact absurd rfl ho
  rw[aX I,cP] at z
  by_cases k:b=c
  ·subst k;exact⟨_,G,trivial⟩
  rw[aX k] at z;exact⟨s,z,ho⟩
theorem zY(z:Int): -9223372036854775808≤IntKind.i64.wrap z∧IntKind.i64.wrap z≤9223372036854775807:=by
 simp only[IntKind.wrap,IntKind.bits,IntKind.signed];simp;constructor<;>split<;>omega
theorem oB{x y:aG}{a b:Int}(A:x.vv VE=some (.d (.i .i64 a)))(G:y.vv VE=some (.d (.i .i64 b)))(I:∀z, -9223372036854775808≤z∧z≤9223372036854775807→Q (.d (.i .i64 z)) B):VI T (.bin .add x y) VE B [] Q:=ab0 A G (I _ (zY _))
theorem ab5{x y:aG}{a b:Int}(A:x.vv VE=some (.d (.i .i64 a)))(G:y.vv VE=some (.d (.i .i64 b)))(I:∀z, -9223372036854775808≤z∧z≤9223372036854775807→Q (.d (.i .i64 z)) B):VI T (.bin .sub x y) VE B [] Q:=ab1 A G (I _ (zY _))
theorem vi_mulW{x y:aG}{a b:Int}(A:x.vv VE=some (.d (.i .i64 a)))(G:y.vv VE=some (.d (.i .i64 b)))(I:∀z, -9223372036854775808≤z∧z≤9223372036854775807→Q (.d (.i .i64 z)) B):VI T (.bin .mul x y) VE B [] Q:=vi_mulK A G (I _ (zY _))
theorem vi_quoW{x y:aG}{a b:Int}(A:x.vv VE=some (.d (.i .i64 a)))(G:y.vv VE=some (.d (.i .i64 b)))(h0:¬b=0)(I:∀z, -9223372036854775808≤z∧z≤9223372036854775807→Q (.d (.i .i64 z)) B):VI T (.bin .quo x y) VE B [] Q:=ab2 A G (by rw[vo];exact decide_eq_false h0) (I _ (zY _))
theorem aa4{neg:Bool}{x y:aG}{t u:Bool}(G:x.vv VE=some (.d (.b t)))(I:y.vv VE=some (.d (.b u)))(L:∀b,Q (.d (.b b)) B):VI T (.eqv .bool neg x y) VE B [] Q:=fun _ _ _ _ _ z=>by
 obtain⟨_,M,h2⟩:=z.bC G;obtain⟨_,O,A⟩:=z.bC I;simp only[aE,bA] at h2 A;subst h2;subst A;have e:∃r,qc .bool (.bool t) (.bool u)=some r:=by cases t<;>cases u<;>exact⟨_,rfl⟩
 obtain⟨r,e⟩:=e;exact Lb M O e (du z (v:=.d (.b (Bool.xor neg r))) (by simp only[aE,bA]) (L _))
theorem FM{elem es aC:Nat}{zero:List ai}{z:List VV}{A:List DC}{x y:aG}{n:Nat}(b:Nat)(L:j0 b VE=true)(M:fX b B=true)(O:pv zero=some z)(G:gG z=some A)(I:zero.length=es)(U:x.vv VE=some (.d (.i .i64 (n:Int))))(Y:y.vv VE=some (.d (.i .i64 (n:Int))))
  (Z:n*aC≤70368744177664) (h2:n≤4611686018427387904) (hq:∀rows,rows=List.replicate n A→rows.length=n→Q (.bs b rows.length es) ((b,.arr elem aC es rows.length rows)::B)):VI T (.vT elem es aC zero x y) VE B [] Q:=
 vi_mksl b L M O G I U Y Z h2 (by
  have:=hq (List.replicate n A) rfl qQ
  rwa [qQ] at this)
theorem eC{es:Nat}{x:aG}{lo hi:Option aG}{rows:ah}{row:List Ty}{d:DC}{l h:Nat}(M:x.vv VE=some (.d d))(O:au rows d)(L:af row rows)(U:row.length=es)(A:rows=[]→d= .nil)(Y:pR VE hi rows.length h)(Z:pR VE lo 0 l)(G:l≤h)(I:h≤rows.length)
  (hq:∀z w,au w z→w.length=h-l→af row w→Q (.d z) B):VI T (.sE es x lo hi) VE B [] Q:=
 md M O L U A Y Z G I fun z h1=>hq z _ h1 (by rw[iD,qP];omega) (iw L)
theorem oM{rows:ah}{d:DC}(h:0<rows.length):rows=[]→d= .nil:=fun e=>by rw[e] at h;cases h
theorem KO{x i:aG}{z j:Nat}{l:List VV}{v:VV}{k:IntKind}(M:x.vv VE=some (.agg l))(hi:i.vv VE=some (.d (.i k (j:Int))))(O:j<z)(U:l[j]?=some v)(Y:Q v B):VI T (.C2 z 1 false x i) VE B [] Q:=fun _ _ _ _ _ A=>by
 obtain⟨_,Z,h2⟩:=A.bC M;obtain⟨_,i1,G⟩:=A.bC hi;simp only[aE] at h2 G;simp only[bA] at G;subst G;obtain⟨cs,rfl,h2⟩:=h2;obtain⟨a,h3,h4⟩:=h2.get U;obtain⟨L,h6⟩:=List.getElem?_eq_some_iff.1 h3;refine eG (v:=a) (fun call=>?_) (du A h4 Y);show bq x _ (.err 13) (fun v=>na v (.err 13) fun cs=>bq i _ (.err 13) fun I=>idx I z (.err 13) fun j=>aJ (Nat.ble (Nat.add (Nat.mul j 1) 1) (gM cs)) (fT false ((cs.drop (Nat.mul j 1)).take 1) (.err 13) fun v=>.ok v _) (.err 13))=_;rw[cQ,Z,cA];show bq i _ (.err 13) (fun I=>idx I z (.err 13) fun j=>aJ (Nat.ble (Nat.add (Nat.mul j 1) 1) (gM cs)) (fT false ((cs.drop (Nat.mul j 1)).take 1) (.err 13) fun v=>.ok v _) (.err 13))=_;rw[cQ,i1,cA];show aJ (Nat.ble (Nat.succ j) z) (aJ (Nat.ble (Nat.add (Nat.mul j 1) 1) (gM cs)) (fT false ((cs.drop (Nat.mul j 1)).take 1) (aD.err 13) fun v=>aD.ok v _) (aD.err 13)) (aD.err 13)=_;rw[fR O,dM,pt,show Nat.mul j 1=j from Vu _,show Nat.ble (Nat.add j 1) cs.length=true from fR L,dM,Br L,xV,NH,h6];rfl
theorem oA{fl:List FL}{d g:Key}{want t:Bool}{op:br}{r:List bl}(A:aF VE g.n=some (.d (.b t)))(G:t=!want){Q:bb→aK→Prop}(h:VQ T r ((d.n,.k .undef)::VE) B fl Q):VQ T (⟨some d,some (g,want),none,op⟩::r) VE B fl Q:=by
 intro H0 X0 E H β z bf I;obtain⟨L,M,O,U,Y⟩:=h H0 X0 _ H β (z.set (d:=d) (v:=.k .undef) (a:=.undef) (by simp only[aE])) bf I;refine⟨L,M,O,fun lf n Z a2=>?_,Y⟩;show bl.jB (T.call lf n) ⟨some d,some (g,want),none,op⟩ E H bf (iS (T.call lf n) r)=_;rw[Kz (z.bool A),aX (by rw[G];cases want<;>decide)];exact U lf n Z a2
theorem FA{fl:List FL}{d g:Key}{want t:Bool}{l:List Nat}{op:br}{r:List bl}(A:aF VE g.n=some (.d (.b t)))(G:t=!want){Q:bb→aK→Prop}(h:VQ T r ((d.n,.k .undef)::VE) B (.rd []::fl) Q):VQ T (⟨some d,some (g,want),some l,op⟩::r) VE B fl Q:=by
 intro H0 X0 E H β z bf I;obtain⟨L,M,O,U,Y⟩:=h H0 X0 _ H β (z.set (d:=d) (v:=.k .undef) (a:=.undef) (by simp only[aE])) (⟨some [],[],0,0⟩::bf) (I.cons ⟨rfl,rfl,[],rfl,fun f h=>by cases h⟩);refine⟨L,M,O,fun lf n Z a2=>?_,Y⟩;show bl.jB (T.call lf n) ⟨some d,some (g,want),some l,op⟩ E H bf (iS (T.call lf n) r)=_;rw[Kz (z.bool A),aX (by rw[G];cases want<;>decide)];exact U lf n Z a2
theorem Zh{call:dQ}{d:Option Key}{g:Key}{want:Bool}{q:Option (List Nat)}{op:br}{bf:List FP}{E:Env}{H:ax}{K:Env→ax→List FP→dO}(z:E.get g=some .undef):
  bl.jB call ⟨d,some (g,want),q,op⟩ E H bf K=K (ja E d .undef) H (oJ q bf):=by
 show ob (E.get g) (.err 51) (fun v=>yG v (iA d E H fun E H=>K E H (oJ q bf)) fun b=>aJ (Bool.xor b want) (iA d E H fun E H=>K E H (oJ q bf)) (bl.pP call ⟨d,some (g,want),q,op⟩ E H bf K))=_;rw[z,cA];show iA d E H (fun E H=>K E H (oJ q bf))=_;rw[xp]
theorem bL{fl:List FL}{d g:Key}{want:Bool}{op:br}{r:List bl}(A:aF VE g.n=some (.k .undef)){Q:bb→aK→Prop}(h:VQ T r ((d.n,.k .undef)::VE) B fl Q):VQ T (⟨some d,some (g,want),none,op⟩::r) VE B fl Q:=by
 intro H0 X0 E H β z bf G;obtain⟨a,I,h2⟩:=z.env g _ A;simp only[aE] at h2;subst h2;obtain⟨L,M,O,U,Y⟩:=h H0 X0 _ H β (z.set (d:=d) (v:=.k .undef) (a:=.undef) (by simp only[aE])) bf G;refine⟨L,M,O,fun lf n Z a2=>?_,Y⟩;show bl.jB (T.call lf n) ⟨some d,some (g,want),none,op⟩ E H bf (iS (T.call lf n) r)=_;rw[Zh I];exact U lf n Z a2
theorem dK{fl:List FL}{d g:Key}{want:Bool}{l:List Nat}{op:br}{r:List bl}(A:aF VE g.n=some (.k .undef)){Q:bb→aK→Prop}(h:VQ T r ((d.n,.k .undef)::VE) B (.rd []::fl) Q):VQ T (⟨some d,some (g,want),some l,op⟩::r) VE B fl Q:=by
 intro H0 X0 E H β z bf G;obtain⟨a,I,h2⟩:=z.env g _ A;simp only[aE] at h2;subst h2;obtain⟨L,M,O,U,Y⟩:=h H0 X0 _ H β (z.set (d:=d) (v:=.k .undef) (a:=.undef) (by simp only[aE])) (⟨some [],[],0,0⟩::bf) (G.cons ⟨rfl,rfl,[],rfl,fun f h=>by cases h⟩);refine⟨L,M,O,fun lf n Z a2=>?_,Y⟩;show bl.jB (T.call lf n) ⟨some d,some (g,want),some l,op⟩ E H bf (iS (T.call lf n) r)=_;rw[Zh I];exact U lf n Z a2
theorem vi_storeA{n:Nat}{a x:aG}{b j o es elem aC:Nat}{rows:ah}{row z:List DC}{v:VV}{new:List VV}(ha:a.vv VE=some (.bp b rows.length j o es))(hb:aF B b=some (.acc elem aC es rows))(hx:x.vv VE=some v)(hv:v.cells=some new)(hd:gG new=some z)(O:z.length=n)(h0:0<n)(hk:o+n≤es)
  (A:rows[j]?=some row) (hq:Q .undef ((b,.acc elem aC es (rows.set j (jV row o z)))::B)):VI T (.store n a x) VE B [b] Q:=fun _ X0 _ H β L=>by
 obtain⟨_,h1,h2⟩:=L.bC ha;simp only[aE] at h2;subst h2;obtain⟨y,h3,h4⟩:=L.bC hx;obtain⟨t,h5,M⟩:=h4.cells hv;have M:=M.data hd;obtain⟨qe,cs,k1,k3,k4⟩:=(L.box b _ hb).resolve_left (fun e=>by rw[e] at A;cases A);obtain⟨l,k5,k6,k7⟩:=k4 j row A;have G:=(List.getElem?_eq_some_iff.1 A).1;have ht:t.length=n:=by rw[M.length,O]
 have U:=k7.length;have e:=fun K=>HV (e:=aD.err 5) (K:=K) (q:=j) (o:=o) (n:=n) (new:=t) k1 an G k5 k6 ht h0 hk
 refine⟨0,.undef,_,fun lf m _ _=>by rw[KZ h1 h3 h5,e],?_⟩;refine zN (s':=.acc elem aC es (rows.set j (jV row o z))) L hb (show rows≠[] from fun e=>by rw[e] at A;cases A) rfl (fun f hf=>?_) rfl rfl (fun X j1 Y=>?_) (fun X=>by simp only[aE]) hq
 ·show(H.t.set (β b) _).get f=_;rw[GT.df,aX hf]
 have hlen:(bif Nat.beq n es then t else en l o t).length=es:=by
  cases Z:Nat.beq n es with
  |true=>have:=cW Z;show t.length=_;omega
  |false=>show(en l o t).length=_;simp only[en,e7,iD,qP];omega
 refine .inr ⟨rows.length,cs.set j (bif Nat.beq n es then t else en l o t),?_,by rw[jA];exact bd _,fun i I hi=>?_⟩
 ·show(H.t.set (β b) _).get (β b)=_;rw[GT.df,bg rfl,jA]
 rw[RT.df];rw[My] at hi
 by_cases ei:i=j
 ·subst ei;rw[bg rfl,bg G] at hi
  cases hi
  rw[bg rfl];refine⟨_,aa,hlen,?_⟩;have h7:=Y _ _ M;have h8:=Y _ _ k7;have h9:=h8.en o h7;unfold jV;rw[O,←U,k6];rw[O] at h9;exact bS.bif h7 h9
 rw[aX (fun k=>ei k.symm)] at hi;rw[aX ei];obtain⟨l',m1,m2,m3⟩:=k4 i I hi;exact⟨l',m1,m2,Y _ _ m3⟩
theorem nx.less{n:Nat}{B B':aK}{β:Nat→Nat}{fl:List FL}{bf:List FP}(h:nx n B β fl bf)(k:∀b s,aF B' b=some s→aF B b=some s):nx n B' β fl bf:=
 ⟨h.1,fun i x r L M=>by
  have:=h.2 i x r L M
  cases x with
  |rd R=>obtain⟨a,b,l,c,d⟩:=this;exact⟨a,b,l,c,fun f z=>⟨(d f z).1,fun b s A G I=>(d f z).2 b s (k b s A) G I⟩⟩
  |qt=>exact this
  |off _=>exact this
  |wr _=>exact fun f z=>⟨(this f z).1,fun b s A G I=>(this f z).2 b s (k b s A) G I⟩
  |un=>trivial⟩
theorem aa5{B:aK}{b:Nat}:∀c s,aF (cL B b) c=some s→aF B c=some s:=fun c s h=>by
 rw[gz] at h
 by_cases e:b=c
 ·rw[bg e] at h;cases h
 rwa [aX e] at h
theorem SB{ops:List bl}{fl:List FL}{Q:bb→aK→Prop}(k b:Nat){v:VV}{elem aC es lo:Nat}{rows:ah}(z:aF VE k=some v)(A:aF B b=some (.arr elem aC es lo rows))(ho:v.uI b rows.length es)(h:VQ T ops ((k,v.mG b (.sl rows))::VE) (cL B b) fl Q):VQ T ops VE B fl Q:=
 fun H0 X0 E H β G bf I=>by
  obtain⟨L,M,O,U,Y⟩:=h H0 X0 E H β (G.mG A z ho) bf (I.less aa5);exact⟨L,M,O,U,Y.more u9⟩
theorem l9{ops:List bl}{fl:List FL}{Q:bb→aK→Prop}(k b:Nat){v:VV}{elem aC es:Nat}{rows:ah}(z:aF VE k=some v)(A:aF B b=some (.acc elem aC es rows))(ho:v.wT b rows.length es)(h:VQ T ops ((k,v.pQ b (.cR rows))::VE) (cL B b) fl Q):VQ T ops VE B fl Q:=
 fun H0 X0 E H β G bf I=>by
  obtain⟨L,M,O,U,Y⟩:=h H0 X0 E H β (G.pQ A z ho) bf (I.less aa5);exact⟨L,M,O,U,Y.more u9⟩
theorem gy{n:Nat}{a x:aG}{b j o es elem aC:Nat}{rows:ah}{row z:List DC}{v:VV}{new:List VV}(A:a.vv VE=some (.bp b rows.length j o es))(G:aF B b=some (.acc elem aC es rows))(I:x.vv VE=some v)(L:v.cells=some new)(M:gG new=some z)(O:z.length=n)(h0:0<n)(U:o+n≤es)
  (Y:rows[j]?=some row) (Z:∀w,w=rows.set j (jV row o z)→w.length=rows.length→Q .undef ((b,.acc elem aC es w)::B)):VI T (.store n a x) VE B [b] Q:=
 vi_storeA A G I L M O h0 U Y (Z _ rfl (jA ..))
theorem rT{n:Nat}{a x:aG}{b j o es elem aC lo:Nat}{rows:ah}{row z:List DC}{v:VV}{new:List VV}(A:a.vv VE=some (.bp b rows.length j o es))(G:aF B b=some (.arr elem aC es lo rows))(I:x.vv VE=some v)(L:v.cells=some new)(M:gG new=some z)(O:z.length=n)(h0:0<n)(U:o+n≤es)
  (Y:rows[j]?=some row) (Z:∀w,w=rows.set j (jV row o z)→w.length=rows.length→Q .undef ((b,.arr elem aC es rows.length w)::B)):VI T (.store n a x) VE B [b] Q:=
 Fz A G I L M O h0 U Y (Z _ rfl (jA ..))
theorem ae{p:Prop}(h:p:=by first|omega|((try simp only[gm,zo,zp,e7,gB,jQ,jA,iD,qP,qQ] at*);omega)):p:=h
theorem cE{T:aL}{VE:bb}{B:aK}{Q:bb→aK→Prop}{fl:List FL}{d:Key}{l:List Nat}{n:Nat}{w:Bool}{a:aG}{row:List DC}{o:Nat}{r:List bl}(ha:a.vv VE=some (.rp row o))(hk:mX [] l fl=true)(h:VI T (.load n w a) VE B [] fun v B'=>VQ T r ((d.n,v)::VE) B' (.rd []::fl) Q):VQ T (⟨some d,none,some l,.load n w a⟩::r) VE B fl Q:=by
 intro H0 X0 E H β L bf I;obtain⟨N,v0,H',e,M,v,B',β',Y,O,hv,hq⟩:=ve h L;obtain⟨x,Z,A⟩:=L.bC ha;simp only[aE] at A;obtain⟨f,g,Q1,l1,rfl,_,_,hX,U⟩:=A;have z:H'=H.mark:=KN Z (e N N (bd _) (bd _));have G:H.mark.ws=[]∧H.mark.next=H.next:=by cases H;exact⟨rfl,rfl⟩
 have k:sG H.next B β (.rd []) ⟨(br.load n w a).reads E,H'.ws,H.next,H'.next⟩:=by
  refine⟨by rw[z];exact G.1,by show H.next=H'.next;rw[z];exact G.2.symm,[f],?_,fun f' I=>?_⟩
  ·show some (iB (a.ev E))=_;rw[Z];rfl
  rcases List.mem_singleton.1 I with rfl
  exact⟨U,fun b s M h2 h3=>absurd (.inr ⟨b,s,M,h2,h3⟩) hX⟩
 obtain⟨N2,E2,H2,e2,hp⟩:=hq H0 X0 _ _ β' (O.set hv) (⟨(br.load n w a).reads E,H'.ws,H.next,H'.next⟩::bf) ((I.cons k).step Y);refine⟨max N N2,E2,H2,fun lf n a1 a2=>?_,hp.of Y L.aS⟩;show bl.jB (T.call lf n) ⟨some d,none,some l,_⟩ E H bf (iS (T.call lf n) r)=_;rw[uU,uV (e lf n an an) (xq I M hk)];exact e2 lf n an an
theorem au.uniq{a b:ah}{d:DC}(h:au a d)(k:au b d):a=b:=by
 rcases h with rfl|⟨rfl,rfl⟩<;>rcases k with h|⟨rfl,h⟩<;>first|(cases h;rfl)|rfl|cases h
def ko(k n:Int)(w:ah):Prop:=∀(p:Nat)row z,(p:Int)<k→w[p]?=some row→row[0]?=some (.i .i64 z)→z≤n
def gI(k n:Int)(w:ah):Prop:=∀(q:Nat)r d wc,(q:Int)<k→w[q]?=some r→r[2]?=some d→au wc d→ko wc.length n wc
theorem aa6{n:Int}{w:ah}:ko 0 n w:=fun p _ _ h=>by omega
theorem widthTo_0{n:Int}{w:ah}:gI 0 n w:=fun p _ _ _ h=>by omega
theorem ko.mono{k n m:Int}{w:ah}(h:ko k n w)(A:n≤m):ko k m w:=fun p r z a b c=>T9 (h p r z a b c) A
theorem gI.mono{k n m:Int}{w:ah}(h:gI k n w)(z:n≤m):gI k m w:=fun q r d wc a b c e=>(h q r d wc a b c e).mono z
theorem ko.step{k n m z:Int}{w:ah}{row:List DC}(h:ko k n w)(h0:0≤k)(G:w[k.toNat]?=some row)(I:row[0]?=some (.i .i64 z))(L:n≤m)(A:z≤m):ko (k+1) m w:=fun p r M a b c=>by
 by_cases O:(p:Int)<k
 ·exact T9 (h p r M O b c) L
 have:p=k.toNat:=by omega
 subst this;rw[G] at b;cases b;rw[I] at c;cases c;exact A
theorem gI.step{k n j:Int}{w wc:ah}{r:List DC}{d:DC}(h:gI k n w)(h0:0≤k)(G:w[k.toNat]?=some r)(I:r[2]?=some d)(L:au wc d)(M:ko j n wc)(Z:(wc.length:Int)≤j):gI (k+1) n w:=fun q r' O A a b c e=>by
 by_cases U:(q:Int)<k
 ·exact h q r' O A U b c e
 have:q=k.toNat:=by omega
 subst this;rw[G] at b;cases b;rw[I] at c;cases c;have:=au.uniq L e;subst this;intro p row z h1 h2 Y;exact M p row z an h2 Y
theorem gI.get{k n:Int}{w wc:ah}{r:List DC}{d:DC}{q:Nat}(h:gI k n w)(I:(w.length:Int)≤k)(z:w[q]?=some r)(A:r[2]?=some d)(G:au wc d):ko wc.length n wc:=by
 have:=(List.getElem?_eq_some_iff.1 z).1;exact h q r d wc an z A G
theorem ko.get{k n z:Int}{w:ah}{row:List DC}{q:Nat}(h:ko k n w)(I:(w.length:Int)≤k)(A:w[q]?=some row)(G:row[0]?=some (.i .i64 z)):z≤n:=by
 have:=(List.getElem?_eq_some_iff.1 A).1;exact h q row z an A G
theorem gI.all{k n:Int}{w:ah}(h:gI k n w)(z:(w.length:Int)≤k):gI w.length n w:=fun q r d wc a b c e=>h q r d wc an b c e
theorem gI.at{n:Int}{w wc:ah}(h:gI w.length n w)(A:wc=[]∨∃(q:Nat)(r:List DC)(d:DC),w[q]?=some r∧r[2]?=some d∧au wc d):ko wc.length n wc:=by
 rcases A with rfl|⟨q,r,d,a,b,c⟩
 ·exact fun p row z h=>by simp at h;omega
 exact h.get (qR _) a b c
theorem gI.cast{k n m:Int}{w:ah}(h:gI k n w)(e:n=m):gI k m w:=e▸h
def kO(k:Int)(w:ah):Prop:=∀(q:Nat)r d wc,(q:Int)<k→w[q]?=some r→r[2]?=some d→au wc d→1≤(wc.length:Int)∧(wc.length:Int)≤12
theorem lensTo_0{w:ah}:kO 0 w:=fun p _ _ _ h=>by omega
theorem kO.step{k:Int}{w wc:ah}{r:List DC}{d:DC}(h:kO k w)(h0:0≤k)(A:w[k.toNat]?=some r)(G:r[2]?=some d)(I:au wc d)(L:1≤(wc.length:Int)∧(wc.length:Int)≤12):kO (k+1) w:=fun q r' M z a b c e=>by
 by_cases O:(q:Int)<k
 ·exact h q r' M z O b c e
 have:q=k.toNat:=by omega
 subst this;rw[A] at b;cases b;rw[G] at c;cases c;have:=au.uniq I e;subst this;exact L
theorem kO.all{k:Int}{w:ah}(h:kO k w)(z:(w.length:Int)≤k):kO w.length w:=fun q r d wc a b c e=>h q r d wc an b c e
theorem kO.get{k:Int}{w wc:ah}{r:List DC}{d:DC}{q:Nat}(h:kO k w)(I:(w.length:Int)≤k)(z:w[q]?=some r)(A:r[2]?=some d)(G:au wc d):1≤(wc.length:Int)∧(wc.length:Int)≤12:=by
 have:=(List.getElem?_eq_some_iff.1 z).1;exact h q r d wc an z A G
theorem lens1{a b d:DC}{wc:ah}(z:au wc d)(h:1≤(wc.length:Int)∧(wc.length:Int)≤12):kO ([[a,b,d]]:ah).length [[a,b,d]]:=fun q r M A G I h2 L=>by
 have:q=0:=by simp at G;omega
 subst this
 cases I
 cases h2
 have:=au.uniq z L;subst this;exact h
def qD(n:Int)(w:ah):Prop:=0<n→∃(q:Nat)(r:List DC)(d:DC)(wc:ah)(p:Nat)(row:List DC),w[q]?=some r∧r[2]?=some d∧au wc d∧wc[p]?=some row∧row[0]?=some (.i .i64 n)
theorem aai{w:ah}:qD 0 w:=fun h=>absurd h ao
theorem qD.max{a b n:Int}{w wc:ah}{q p:Nat}{r row:List DC}{d:DC}(h:qD a w)(z:w[q]?=some r)(A:r[2]?=some d)(G:au wc d)(I:wc[p]?=some row)(L:row[0]?=some (.i .i64 b))(e:n=a∨n=b):qD n w:=by
 rcases e with rfl|rfl
 ·exact h
 exact fun _=>⟨q,r,d,wc,p,row,z,A,G,I,L⟩
theorem qD.le{n m:Int}{w:ah}(h:qD n w)(k:gI w.length m w)(h0:0≤m):n≤m:=by
 by_cases z:0<n
 ·obtain⟨q,r,d,wc,p,row,a,b,c,e,f⟩:=h z;exact(k.get (qR _) a b c).get (qR _) e f
 omega
theorem K0{T:aL}{VE:bb}{B:aK}{R:Ex→bb→aK→Prop}{k:Key}{a b:IC}{t:Bool}{p q:Prop}(z:aF VE k.n=some (.d (.b t)))(A:t=true→p→VC T a VE B R)(h2:t=false→q→VC T b VE B R)(G:(t=true)=p:=by first|(simp only[eM,gQ,gD,mE,gm];first|done|rfl)|rfl)(I:(t=false)=q:=by first|(simp only[eM,gQ,gD,mE,gm];first|done|rfl)|rfl):VC T (.cond (.t k) a b) VE B R:=cF z (fun h=>A h (Eq.mp G h)) (fun h=>h2 h (Eq.mp I h))
theorem vo_splitG{T:aL}{VE:bb}{B:aK}{g:Key}{t:Bool}{p q:Prop}{ops:List bl}{Q:bb→aK→Prop}(z:aF VE g.n=some (.d (.b t)))(A:t=true→p→VO T ops VE B Q)(h2:t=false→q→VO T ops VE B Q)(G:(t=true)=p:=by first|(simp only[eM,gQ,gD,mE,gm];first|done|rfl)|rfl)(I:(t=false)=q:=by first|(simp only[eM,gQ,gD,mE,gm];first|done|rfl)|rfl):VO T ops VE B Q:=aaY z (fun h=>A h (Eq.mp G h)) (fun h=>h2 h (Eq.mp I h))
@[reducible] def tJ:Ty:=.i .i64 (-9223372036854775808) 9223372036854775807
@[reducible] def dJ(x:Int):DC:=.i .i64 x
@[reducible] def dU(x:Int):VV:=.d (.i .u16 x)
theorem al{k:IntKind}{lo hi z:Int}(A:lo≤z:=by first|omega|((try simp only[gm,zo,zp,e7,gB,jQ,jA,iD,qP,qQ] at*);omega))(h2:z≤hi:=by first|omega|((try simp only[gm,zo,zp,e7,gB,jQ,jA,iD,qP,qQ] at*);omega)):(Ty.i k lo hi).ok (.i k z):=dV A h2
theorem Un{row:List Ty}{rows:ah}(z:Int)(h:af row rows)(A:z.toNat<rows.length:=by first|omega|((try simp only[gm,zo,zp,e7,gB,jQ,jA,iD,qP,qQ] at*);omega)):∃r,rows[z.toNat]?=some r∧fk row r:=⟨_,dx A,lJ h (dx A)⟩
theorem okR_n3{z p1 p2:Ty}{l:List DC}(h:fk [z,p1,p2] l):∃d0 d1 d2,l=[d0,d1,d2]∧z.ok d0∧p1.ok d1∧p2.ok d2:=by
 obtain⟨d0,_,rfl,A,h⟩:=dw h;obtain⟨d1,_,rfl,G,h⟩:=dw h;obtain⟨d2,_,rfl,I,h⟩:=dw h;obtain rfl:=oL h;exact⟨d0,d1,d2,aa,A,G,I⟩
theorem okR_n6{z p1 p2 p3 A G:Ty}{l:List DC}(h:fk [z,p1,p2,p3,A,G] l):∃d0 d1 d2 d3 d4 d5,l=[d0,d1,d2,d3,d4,d5]∧z.ok d0∧p1.ok d1∧p2.ok d2∧p3.ok d3∧A.ok d4∧G.ok d5:=by
 obtain⟨d0,_,rfl,I,h⟩:=dw h;obtain⟨d1,_,rfl,L,h⟩:=dw h;obtain⟨d2,_,rfl,M,h⟩:=dw h;obtain⟨d3,_,rfl,O,h⟩:=dw h;obtain⟨d4,_,rfl,U,h⟩:=dw h;obtain⟨d5,_,rfl,Y,h⟩:=dw h;obtain rfl:=oL h;exact⟨d0,d1,d2,d3,d4,d5,aa,I,L,M,O,U,Y⟩
theorem aef{A p1 p2 p3 G I L:Ty}{l:List DC}(h:fk [A,p1,p2,p3,G,I,L] l):∃d0 d1 d2 d3 d4 d5 z,l=[d0,d1,d2,d3,d4,d5,z]∧A.ok d0∧p1.ok d1∧p2.ok d2∧p3.ok d3∧G.ok d4∧I.ok d5∧L.ok z:=by
 obtain⟨d0,_,rfl,M,h⟩:=dw h;obtain⟨d1,_,rfl,O,h⟩:=dw h;obtain⟨d2,_,rfl,U,h⟩:=dw h;obtain⟨d3,_,rfl,Y,h⟩:=dw h;obtain⟨d4,_,rfl,Z,h⟩:=dw h;obtain⟨d5,_,rfl,k5,h⟩:=dw h;obtain⟨z,_,rfl,k6,h⟩:=dw h;obtain rfl:=oL h;exact⟨d0,d1,d2,d3,d4,d5,z,aa,M,O,U,Y,Z,k5,k6⟩
theorem bI{p:Prop}(h:p:=by simp):p:=h
theorem bP{p:Prop}(h:p:=by first|(intro _;rfl)|(intro h;rw[h];rfl)|(intro h;exact absurd (congrArg List.length h) (by simp only[jQ];exact ae))):p:=h
theorem dj{p:Prop}(h:p:=by simp only[e7,gB,jQ];omega):p:=h
theorem dZ{p:Prop}(h:p:=by assumption):p:=h
theorem BC{p:Prop}(h:p:=by simp only[e7,gB,jQ,iD,qP];exact ae):p:=h
theorem ni{p:Prop}(h:p:=by first|omega|(simp only[e7,gB,jQ];omega)):p:=h
theorem yK{p:Prop}(h:p:=by first|exact .inl ae|exact .inr ⟨_,(by assumption),ae⟩):p:=h
theorem BD{p:Prop}(h:p:=by simp only[e7,gB,jQ];exact ae):p:=h
theorem Er{p:Prop}(h:p:=by first|(simp only[eM,gA,false_iff,true_iff];omega)|(simp;omega)):p:=h
theorem Et{p:Prop}(h:p:=by first|assumption|exact .inl rfl):p:=h
theorem HX{p:Prop}(h:p:=by first|(constructor<;>intro z<;>(try simp only[eM,gQ,gD,mE] at*)<;>first|omega|(simp_all;omega)|(simp_all;done))):p:=h
theorem MM{p:Prop}(h:p:=by simp only[jQ];exact ae):p:=h
theorem MN{p:Prop}(h:p:=by first|omega|assumption|(simp only[e7,gB,jQ];omega)):p:=h
theorem Uo{p:Prop}(h:p:=by first|rfl|simp only[jA]):p:=h
theorem Up{p:Prop}(h:p:=by simp only[gB,jQ];omega):p:=h
theorem Uq{p:Prop}(h:p:=by first|assumption|exact widthTo_0|exact aa6|exact gI.mono (by assumption) ae|exact ko.step (by assumption) ae (by assumption) rfl ae ae|exact gI.step (by assumption) ae (by assumption) rfl (by assumption) (by assumption) ae):p:=h
end Go.Ev
namespace Go.Ev.Pp
end Go.Ev.Pp
namespace Go.Ev.Rp
open Go Go.Ev.Pp
structure FT(T:aL):Prop where
 q4:T.ft.get 4=some i4
 q5:T.ft.get 5=some i5
 q6:T.ft.get 6=some i6
 q9:T.ft.get 9=some i9
 q10:T.ft.get 10=some i10
 q11:T.ft.get 11=some i11
 q12:T.ft.get 12=some i12
 q13:T.ft.get 13=some i13
 q14:T.ft.get 14=some i14
 q15:T.ft.get 15=some i15
 q16:T.ft.get 16=some i16
 q17:T.ft.get 17=some i17
 q18:T.ft.get 18=some i18
 q19:T.ft.get 19=some i19
 q20:T.ft.get 20=some i20
 q21:T.ft.get 21=some i21
 q22:T.ft.get 22=some i22
 q23:T.ft.get 23=some i23
 q24:T.ft.get 24=some i24
 q25:T.ft.get 25=some i25
 q26:T.ft.get 26=some i26
 q27:T.ft.get 27=some i27
 q28:T.ft.get 28=some i28
 q29:T.ft.get 29=some i29
 q30:T.ft.get 30=some i30
 q31:T.ft.get 31=some i31
 q32:T.ft.get 32=some i32
 q33:T.ft.get 33=some i33
 q34:T.ft.get 34=some i34
 q35:T.ft.get 35=some i35
 q36:T.ft.get 36=some i36
 q37:T.ft.get 37=some i37
 q38:T.ft.get 38=some i38
 q39:T.ft.get 39=some i39
 q40:T.ft.get 40=some i40
 q41:T.ft.get 41=some i41
 q42:T.ft.get 42=some i42
 q43:T.ft.get 43=some i43
 q46:T.ft.get 46=some i46
 q47:T.ft.get 47=some i47
 q48:T.ft.get 48=some i48
 q49:T.ft.get 49=some i49
 q50:T.ft.get 50=some i50
 q51:T.ft.get 51=some i51
 q52:T.ft.get 52=some i52
 q53:T.ft.get 53=some i53
 q54:T.ft.get 54=some i54
 q55:T.ft.get 55=some i55
 XS:T.ft.get 56=some i56
 q57:T.ft.get 57=some i57
 q58:T.ft.get 58=some i58
 q59:T.ft.get 59=some i59
 q60:T.ft.get 60=some i60
 q61:T.ft.get 61=some i61
 q62:T.ft.get 62=some i62
 q63:T.ft.get 63=some i63
 q64:T.ft.get 64=some i64
 q65:T.ft.get 65=some i65
 q66:T.ft.get 66=some i66
 q67:T.ft.get 67=some i67
 q68:T.ft.get 68=some i68
 q69:T.ft.get 69=some i69
 q70:T.ft.get 70=some i70
 q71:T.ft.get 71=some i71
 q72:T.ft.get 72=some i72
 q73:T.ft.get 73=some i73
 q74:T.ft.get 74=some i74
 q76:T.ft.get 76=some i76
 q77:T.ft.get 77=some i77
 q78:T.ft.get 78=some i78
 q79:T.ft.get 79=some i79
 q80:T.ft.get 80=some i80
 q81:T.ft.get 81=some i81
 q82:T.ft.get 82=some i82
 q83:T.ft.get 83=some i83
 q84:T.ft.get 84=some i84
 q85:T.ft.get 85=some i85
 q86:T.ft.get 86=some i86
 q87:T.ft.get 87=some i87
 q88:T.ft.get 88=some i88
 q89:T.ft.get 89=some i89
 q90:T.ft.get 90=some i90
 q91:T.ft.get 91=some i91
 q92:T.ft.get 92=some i92
 q93:T.ft.get 93=some i93
 q94:T.ft.get 94=some i94
 q95:T.ft.get 95=some i95
 q96:T.ft.get 96=some i96
 q97:T.ft.get 97=some i97
 q98:T.ft.get 98=some i98
 q99:T.ft.get 99=some i99
 q100:T.ft.get 100=some i100
 ajb:T.ft.get 101=some i101
 q102:T.ft.get 102=some i102
 q103:T.ft.get 103=some i103
 q104:T.ft.get 104=some i104
 q105:T.ft.get 105=some i105
 q106:T.ft.get 106=some i106
 q107:T.ft.get 107=some i107
 q108:T.ft.get 108=some i108
 q109:T.ft.get 109=some i109
 q110:T.ft.get 110=some i110
 q111:T.ft.get 111=some i111
 q112:T.ft.get 112=some i112
 ajc:T.ft.get 113=some i113
 q114:T.ft.get 114=some i114
 ajd:T.ft.get 115=some i115
 q116:T.ft.get 116=some i116
 q118:T.ft.get 118=some i118
 q119:T.ft.get 119=some i119
 q121:T.ft.get 121=some i121
 q122:T.ft.get 122=some i122
 q123:T.ft.get 123=some i123
 q124:T.ft.get 124=some i124
 q125:T.ft.get 125=some i125
 q126:T.ft.get 126=some i126
 q131:T.ft.get 131=some i131
 q134:T.ft.get 134=some i134
 aje:T.ft.get 135=some i135
 ajf:T.ft.get 136=some i136
 q137:T.ft.get 137=some i137
 q138:T.ft.get 138=some i138
 q139:T.ft.get 139=some i139
 q140:T.ft.get 140=some i140
 q141:T.ft.get 141=some i141
 q142:T.ft.get 142=some i142
 q143:T.ft.get 143=some i143
 q144:T.ft.get 144=some i144
 q145:T.ft.get 145=some i145
 q146:T.ft.get 146=some i146
 q147:T.ft.get 147=some i147
 ajg:T.ft.get 148=some i148
 q149:T.ft.get 149=some i149
 ajh:T.ft.get 150=some i150
 q151:T.ft.get 151=some i151
 q152:T.ft.get 152=some aja
 q153:T.ft.get 153=some i153
 aji:T.ft.get 154=some i154
 q163:T.ft.get 163=some i163
 ajj:T.ft.get 167=some i167
 q168:T.ft.get 168=some i168
 q169:T.ft.get 169=some i169
 q170:T.ft.get 170=some i170
 q171:T.ft.get 171=some i171
 q172:T.ft.get 172=some i172
 q173:T.ft.get 173=some i173
 q174:T.ft.get 174=some i174
 q175:T.ft.get 175=some i175
 q176:T.ft.get 176=some i176
 q177:T.ft.get 177=some i177
 q178:T.ft.get 178=some i178
 q179:T.ft.get 179=some i179
 q180:T.ft.get 180=some i180
 q181:T.ft.get 181=some i181
 ajk:T.ft.get 182=some i182
 q183:T.ft.get 183=some i183
 q184:T.ft.get 184=some i184
 q186:T.ft.get 186=some i186
 q190:T.ft.get 190=some i190
 q196:T.ft.get 196=some i196
 q197:T.ft.get 197=some i197
 q198:T.ft.get 198=some i198
 q199:T.ft.get 199=some i199
 q200:T.ft.get 200=some i200
 q201:T.ft.get 201=some i201
 q202:T.ft.get 202=some i202
 q203:T.ft.get 203=some i203
 q204:T.ft.get 204=some i204
 ajl:T.ft.get 205=some i205
 q206:T.ft.get 206=some i206
 q221:T.ft.get 221=some i221
 q222:T.ft.get 222=some i222
 q223:T.ft.get 223=some i223
 q224:T.ft.get 224=some i224
 q225:T.ft.get 225=some i225
 q226:T.ft.get 226=some i226
 q227:T.ft.get 227=some i227
 ajm:T.ft.get 228=some i228
 q229:T.ft.get 229=some i229
 q230:T.ft.get 230=some i230
 ajn:T.ft.get 231=some i231
 q232:T.ft.get 232=some i232
 q233:T.ft.get 233=some i233
 q234:T.ft.get 234=some i234
 ajo:T.ft.get 235=some i235
 q236:T.ft.get 236=some i236
 q241:T.ft.get 241=some i241
 q242:T.ft.get 242=some i242
 q243:T.ft.get 243=some i243
 q259:T.ft.get 259=some i259
 q260:T.ft.get 260=some i260
 q262:T.ft.get 262=some i262
 q263:T.ft.get 263=some i263
 q264:T.ft.get 264=some i264
 q265:T.ft.get 265=some i265
 q266:T.ft.get 266=some i266
 q267:T.ft.get 267=some i267
 q268:T.ft.get 268=some i268
 q270:T.ft.get 270=some i270
 q271:T.ft.get 271=some i271
 q284:T.ft.get 284=some i284
 q285:T.ft.get 285=some i285
def bn:List Ty:=[tJ]
def cB:List Ty:=[tJ,tJ,.s 1000]
def lN:List Ty:=[.i .i64 1 12,.s 1000,tJ]
def dX:List Ty:=[tJ,tJ,.l 13 lN]
def ew:List Ty:=[.e (DC.sl [[DC.i .i64 1]]),.s 1000,.e (DC.sl [[DC.i .i64 1]])]
def dW:List Ty:=[tJ,.l 200 bn]
def gj:List Ty:=[tJ,.l 1000000000 cB,tJ,tJ,tJ,tJ]
def iW:List Ty:=[.i .i64 1 4,tJ,tJ]
def ga:List Ty:=[tJ,tJ,tJ]
def ey:List Ty:=[.i .i64 0 100,.i .i64 0 100,.i .i64 0 100,.i .i64 0 100,tJ,tJ,.s 1000]
def VS:List Ty:=[.s 10]
def jW:List Ty:=[.l 1000000000 cB,tJ,tJ,.l 200 bn]
def qT:List Ty:=[.l 1000000000 cB,.l 0 bn]
def ez:List Ty:=[tJ,tJ]
def yL:List Ty:=[.l 1000000000 cB,.x,.l 0 bn]
def nj:List Ty:=[tJ,tJ,.l 1000000000 bn]
def d8(nv mv:Nat):List Ty:=[.s 1000,.l nv dX,.l 200 bn,.l 4 ew,.l 4 dW,.l mv gj]
def MO:List Ty:=[tJ,.s 1000,.l 1000000000 cB,tJ,tJ,.l 100 ey,tJ,.l 10 ez,.s 1000,.l 100 dX,.l 200 bn,.l 4 ew,.l 4 dW,tJ,.s 1000,tJ]
def XT:List Ty:=[.i .u16 0 65535,.i .u16 0 65535,.i .u16 0 65535,.i .u16 0 65535,.i .u16 0 65535,.i .u16 0 65535,.i .u16 0 65535,.i .u16 0 65535,.i .u16 0 65535]
def Ur:List Ty:=[tJ,.s 1000,tJ]
def HY:List Ty:=[.l 1000000000 cB,.l 1000000000 bn]
def yM:List Ty:=[.s 1000,.l 200 bn]
def jE:List Ty:=[tJ,tJ,tJ,tJ,.s 1000,.l 4096 HY]
theorem DH:af [.i .i64 1 1] [[.i .i64 1]]:=ee (aj al bm)
theorem tR:af bn [[.i .i64 1]]:=ee (aj al bm)
end Go.Ev.Rp
namespace Go.Ev
open Go
def ur(id:Int)(w:ah):Prop:=∃(q:Nat)(row:List DC),w[q]?=some row∧row[0]?=some (.i .i64 id)∧row[5]?=some (.i .i64 1099511627776)
def lF(k id:Int)(w:ah):Prop:=∀(q:Nat)(row:List DC),(q:Int)<k→w[q]?=some row→row[0]?=some (.i .i64 id)→row[5]?=some (.i .i64 1099511627776)→False
theorem ur.mk{id a b:Int}{w:ah}{q:Nat}{row:List DC}(z:w[q]?=some row)(h0:row[0]?=some (.i .i64 a))(A:row[5]?=some (.i .i64 b))(G:a=id)(I:b=1099511627776):ur id w:=⟨q,row,z,G▸h0,I▸A⟩
theorem agy{id:Int}{w:ah}:lF 0 id w:=fun q _ h=>by omega
theorem lF.agz{k id a:Int}{w:ah}{row:List DC}(h:lF k id w)(h0:0≤k)(G:w[k.toNat]?=some row)(I:row[0]?=some (.i .i64 a))(L:a≠id):lF (k+1) id w:=fun q r U z A M=>by
 by_cases O:(q:Int)<k
 ·exact h q r O z A M
 have:q=k.toNat:=by omega
 subst this;rw[G] at z;cases z;rw[I] at A;cases A;exact L aa
theorem lF.agA{k id a:Int}{w:ah}{row:List DC}(h:lF k id w)(h0:0≤k)(G:w[k.toNat]?=some row)(I:row[5]?=some (.i .i64 a))(L:a≠1099511627776):lF (k+1) id w:=fun q r U z M A=>by
 by_cases O:(q:Int)<k
 ·exact h q r O z M A
 have:q=k.toNat:=by omega
 subst this;rw[G] at z;cases z;rw[I] at A;cases A;exact L aa
theorem lF.all{k id:Int}{w:ah}(h:lF k id w)(I:(w.length:Int)≤k):lF w.length id w:=fun q r L z A G=>h q r an z A G
theorem find_ge{y id:Int}{w:ah}(A:(0≤y→ur id w)∧(y<0→lF w.length id w))(G:ur id w):0≤y:=by
 by_cases h:0≤y
 ·exact h
 obtain⟨q,row,z,I,L⟩:=G;have:=(List.getElem?_eq_some_iff.1 z).1;exact(A.2 an q row an z I L).elim
def v8(k:Int)(w wc:ah):Prop:=∀(p:Nat)(row:List DC)(id:Int),(p:Int)<k→wc[p]?=some row→row[0]?=some (.i .i64 id)→ur id w
theorem allV_0{w wc:ah}:v8 0 w wc:=fun q _ _ h=>by omega
theorem v8.step{k id:Int}{w wc:ah}{row:List DC}(h:v8 k w wc)(h0:0≤k)(G:wc[k.toNat]?=some row)(I:row[0]?=some (.i .i64 id))(L:ur id w):v8 (k+1) w wc:=fun q r i O z A=>by
 by_cases M:(q:Int)<k
 ·exact h q r i M z A
 have:q=k.toNat:=by omega
 subst this;rw[G] at z;cases z;rw[I] at A;cases A;exact L
theorem v8.get{k id:Int}{w wc:ah}{row:List DC}{q:Nat}(h:v8 k w wc)(G:(wc.length:Int)≤k)(z:wc[q]?=some row)(A:row[0]?=some (.i .i64 id)):ur id w:=by
 have:=(List.getElem?_eq_some_iff.1 z).1;exact h q row id an z A
section
variable{T:aL}{VE:bb}{B:aK}
theorem ji{b:Nat}{s s':BS}(A:aF B b=some s)(G:s'.born↔s.born):∀c t,aF ((b,s')::B) c=some t→t.born→∃u,aF B c=some u∧u.born:=fun c t z ho=>by
 rw[cP] at z
 by_cases k:b=c
 ·subst k;rw[bg rfl] at z;cases z;exact⟨s,A,G.1 ho⟩
 rw[aX k] at z;exact⟨t,z,ho⟩
theorem Rel.nZ{H0:Nat→Nat}{X0:Nat→Prop}{E:Env}{H:ax}{β:Nat→Nat}(h:Rel H0 X0 VE B E H β){b:Nat}{s s':BS}(Y:aF B b=some s)(Z:s'.born↔s.born)(L:∀X,de H X β (β b) s→de H X β (β b) s'):Rel H0 X0 VE ((b,s')::B) E H β:=by
 have I:=ji (B:=B) Y Z;have M:eJ H (XB X0 B β) H (XB X0 ((b,s')::B) β):=⟨bd _,fun f _ hx=>⟨fun k=>hx (k.imp id fun⟨c,t,O,ho,h2⟩=>by obtain⟨u,A,G⟩:=I c t O ho;exact⟨c,u,A,G,h2⟩),rfl⟩⟩;refine⟨h.jr,h.aS,h.x0,fun c t z ho=>?_,fun c d t u z U hs ht he=>?_,fun k v hk=>?_,fun c t z=>?_⟩
 ·obtain⟨u,A,G⟩:=I c t z ho;exact h.new c u A G
 ·obtain⟨s1,A,G⟩:=I c t z hs;obtain⟨t1,k3,k4⟩:=I d u U ht;exact h.inj c d s1 t1 A k3 G k4 he
 ·obtain⟨a,O,h2⟩:=h.env k v hk;exact⟨a,O,h2.lift M⟩
 rw[cP] at z
 by_cases k:b=c
 ·subst k;rw[bg rfl] at z
  cases z
  exact L _ ((h.box b s Y).lift M aa)
 rw[aX k] at z;exact(h.box c t z).lift M rfl
theorem Rel.slot{H0:Nat→Nat}{X0:Nat→Prop}{E:Env}{H:ax}{β:Nat→Nat}(h:Rel H0 X0 VE B E H β){k:Nat}{v v':VV}(A:aF VE k=some v)(G:∀a,aE H (XB X0 B β) β v a→aE H (XB X0 B β) β v' a):Rel H0 X0 ((k,v')::VE) B E H β:=by
 refine{h with env:=fun c w z=>?_};rw[cP] at z
 by_cases e:k=c.n
 ·rw[bg e] at z;cases z;subst e;obtain⟨a,I,h2⟩:=h.env c v A;exact⟨a,I,G a h2⟩
 rw[aX e] at z;exact h.env c w z
theorem nx.nZ{n:Nat}{β:Nat→Nat}{fl:List FL}{bf:List FP}{b:Nat}{s s':BS}(O:aF B b=some s)(U:s'.born↔s.born)(h:nx n B β fl bf):nx n ((b,s')::B) β fl bf:=
 ⟨h.1,fun i x r Y Z=>by
  have:=h.2 i x r Y Z
  cases x with
  |rd R=>obtain⟨a,e,l,c,d⟩:=this;exact⟨a,e,l,c,fun f z=>⟨(d f z).1,fun c t A G I=>by obtain⟨u,L,M⟩:=ji (B:=B) O U c t A G;exact(d f z).2 c u L M I⟩⟩
  |qt=>exact this
  |off _=>exact this
  |wr _=>exact fun f z=>⟨(this f z).1,fun c t A G I=>by obtain⟨u,L,M⟩:=ji (B:=B) O U c t A G;exact(this f z).2 c u L M I⟩
  |un=>trivial⟩
variable{ops:List bl}{c:IC}{fl:List FL}{Q:bb→aK→Prop}{R:Ex→bb→aK→Prop}
theorem GJ(b:Nat){s:BS}(z:aF B b=some s)(h:∀f,VO T ops VE ((b,.bK f s)::B) Q):VO T ops VE B Q:=
 fun H0 X0 E H β A=>(h (β b) H0 X0 E H β (A.nZ z fS fun _ k=>⟨fun _=>rfl,k⟩)).mono fun _ _ G=>G.more (ji z fS)
theorem SC(b:Nat){s:BS}(z:aF B b=some s)(h:∀f,VC T c VE ((b,.bK f s)::B) R):VC T c VE B R:=
 fun H0 X0 E H β A=>(h (β b) H0 X0 E H β (A.nZ z fS fun _ k=>⟨fun _=>rfl,k⟩)).mono fun _ _ _ G=>G.more (ji z fS)
theorem nI(b:Nat){s:BS}(z:aF B b=some s)(h:∀f,VQ T ops VE ((b,.bK f s)::B) fl Q):VQ T ops VE B fl Q:=
 fun H0 X0 E H β A bf G=>(h (β b) H0 X0 E H β (A.nZ z fS fun _ k=>⟨fun _=>rfl,k⟩) bf (G.nZ z fS)).mono fun _ _ I=>I.more (ji z fS)
theorem tF(b:Nat){f:Nat}{s:BS}(z:aF B b=some (.bK f s))(h:VO T ops VE ((b,s)::B) Q):VO T ops VE B Q:=
 fun H0 X0 E H β A=>(h H0 X0 E H β (A.nZ z fS fun _ k=>k.2)).mono fun _ _ G=>G.more (ji z fS)
theorem K1(b:Nat){f:Nat}{s:BS}(z:aF B b=some (.bK f s))(h:VQ T ops VE ((b,s)::B) fl Q):VQ T ops VE B fl Q:=
 fun H0 X0 E H β A bf G=>(h H0 X0 E H β (A.nZ z fS fun _ k=>k.2) bf (G.nZ z fS)).mono fun _ _ I=>I.more (ji z fS)
theorem Rel.pinned{H0:Nat→Nat}{X0:Nat→Prop}{E:Env}{H:ax}{β:Nat→Nat}(h:Rel H0 X0 VE B E H β){b f:Nat}{s:BS}(z:aF B b=some (.bK f s))(ho:s.born):β b=f:=(h.box b _ z).1 ho
theorem Rel.rawA{H0:Nat→Nat}{X0:Nat→Prop}{E:Env}{H:ax}{β:Nat→Nat}(h:Rel H0 X0 VE B E H β){k b f n es elem aC e:Nat}{rows:ah}(A:aF VE k=some (.ac b n es))(G:aF B b=some (.bK f (.acc elem aC e rows)))(h0:0<n)(I:rows≠[]):Rel H0 X0 ((k,.d (.raw f n es))::VE) B E H β:=
 h.slot A fun a z=>by
  have e:=h.pinned G I;simp only[aE,bA] at z⊢;rcases z with⟨L,_⟩|⟨_,h2⟩
  ·omega
  rw[h2,e]
theorem Rel.rawB{H0:Nat→Nat}{X0:Nat→Prop}{E:Env}{H:ax}{β:Nat→Nat}(h:Rel H0 X0 VE B E H β){k b f n es elem aC e lo:Nat}{rows:ah}(A:aF VE k=some (.bs b n es))(G:aF B b=some (.bK f (.arr elem aC e lo rows))):Rel H0 X0 ((k,.d (.raw f n es))::VE) B E H β:=
 h.slot A fun a z=>by
  have e:=h.pinned G trivial;simp only[aE,bA] at z⊢;rw[z,e]
theorem Rel.unrawA{H0:Nat→Nat}{X0:Nat→Prop}{E:Env}{H:ax}{β:Nat→Nat}(h:Rel H0 X0 VE B E H β){k b f n es elem aC e:Nat}{rows:ah}(A:aF VE k=some (.d (.raw f n es)))(G:aF B b=some (.bK f (.acc elem aC e rows)))(h0:0<n)(I:rows≠[]):Rel H0 X0 ((k,.ac b n es)::VE) B E H β:=
 h.slot A fun a z=>by
  have e:=h.pinned G I;simp only[aE,bA] at z⊢;exact .inr ⟨h0,by rw[z,e]⟩
theorem Rel.unrawB{H0:Nat→Nat}{X0:Nat→Prop}{E:Env}{H:ax}{β:Nat→Nat}(h:Rel H0 X0 VE B E H β){k b f n es elem aC e lo:Nat}{rows:ah}(A:aF VE k=some (.d (.raw f n es)))(G:aF B b=some (.bK f (.arr elem aC e lo rows))):Rel H0 X0 ((k,.bs b n es)::VE) B E H β:=
 h.slot A fun a z=>by
  have e:=h.pinned G trivial;simp only[aE,bA] at z⊢;rw[z,e]
theorem rZ(k b:Nat){f n es elem aC e:Nat}{rows:ah}(z:aF VE k=some (.ac b n es))(A:aF B b=some (.bK f (.acc elem aC e rows)))(h0:0<n)(G:rows≠[])(h:VQ T ops ((k,.d (.raw f n es))::VE) B fl Q):VQ T ops VE B fl Q:=
 fun H0 X0 E H β I bf L=>h H0 X0 E H β (I.rawA z A h0 G) bf L
theorem FB(k b:Nat){f n es elem aC e:Nat}{rows:ah}(z:aF VE k=some (.d (.raw f n es)))(A:aF B b=some (.bK f (.acc elem aC e rows)))(h0:0<n)(G:rows≠[])(h:VQ T ops ((k,.ac b n es)::VE) B fl Q):VQ T ops VE B fl Q:=
 fun H0 X0 E H β I bf L=>h H0 X0 E H β (I.unrawA z A h0 G) bf L
theorem aaj(k b:Nat){f n es elem aC e lo:Nat}{rows:ah}(z:aF VE k=some (.d (.raw f n es)))(A:aF B b=some (.bK f (.arr elem aC e lo rows)))(h:VO T ops ((k,.bs b n es)::VE) B Q):VO T ops VE B Q:=
 fun H0 X0 E H β G=>h H0 X0 E H β (G.unrawB z A)
end
section
variable{T:aL}{VE:bb}{B:aK}{W:List Nat}{fl:List FL}{Q:bb→aK→Prop}
theorem VI.Us{op:br}{b f:Nat}{s:BS}{Q:VV→aK→Prop}(A:aF B b=some (.bK f s))(h:VI T op VE ((b,s)::B) W Q):VI T op VE B W Q:=fun H0 X0 E H β G=>
 (h H0 X0 E H β (G.nZ A fS fun _ k=>k.2)).mono fun a H' I=>by
  obtain⟨v,B',β',L,z,M,O⟩:=I;exact⟨v,B',β',L.more (ji A fS),z,M,O⟩
theorem Re(c:Nat){f:Nat}{s:BS}{d:Key}{l:List Nat}{op:br}{r:List bl}(G:aF B c=some (.bK f s))(I:s.born)(L:yJ c W=false)(Y:mX W l fl=true)(h:VI T op VE B W fun v B'=>VQ T r ((d.n,v)::VE) B' (.off f::fl) Q):VQ T (⟨some d,none,some l,op⟩::r) VE B fl Q:=by
 intro H0 X0 E H β z bf M;obtain⟨N,a,H',e,O,v,B',β',U,A,Z,hq⟩:=ve h z;have k:sG H'.next B' β' (.off f) ⟨op.reads E,H'.ws,H.next,H'.next⟩:=by
  intro hm;obtain⟨b,t,k1,k2,k3,k4⟩:=O f hm;have:=z.inj b c t _ k2 G k3 I (k4.trans (z.pinned G I).symm);subst this;rw[KX k1] at L;cases L
 obtain⟨N2,E2,H2,e2,hp⟩:=hq H0 X0 _ _ β' (A.set Z) (⟨op.reads E,H'.ws,H.next,H'.next⟩::bf) ((M.step U).cons k);refine⟨max N N2,E2,H2,fun lf n a1 a2=>?_,hp.of U z.aS⟩;show bl.jB (T.call lf n) ⟨some d,none,some l,op⟩ E H bf (iS (T.call lf n) r)=_;rw[uU,uV (e lf n an an) (xq M O Y)];exact e2 lf n an an
def Lh(f:Nat)(l:List Nat)(fl:List FL):Prop:=
 match l with
 |[]=>True
 |i::r=>(match fl[i]?with
  |some (.rd _)=>True
  |some .qt=>True
  |some (.off g)=>g=f
  |_=>False)∧Lh f r fl
theorem aak{n f:Nat}{β:Nat→Nat}{bf:List FP}{fp:FP}(L:nx n B β fl bf)(O:fp.ws=[])(U:fp.rd=some [f]):∀{l:List Nat},Lh f l fl→mO fp bf l=true
 |[],_=>rfl
 |i::r,h=>by
  simp only[Lh] at h;obtain⟨hi,M⟩:=h;show ob (bf[i]?) false (fun b=>aJ (nG fp b) (mO fp bf r) false)=true;have G:i<bf.length:=by
   rw[L.1]
   cases z:fl[i]?with
   |none=>rw[z] at hi;exact hi.elim
   |some x=>exact(List.getElem?_eq_some_iff.1 z).1
  rw[dx G,cA];have I:i<fl.length:=by rw[←L.1];exact G
  have A:=L.2 i _ _ (dx I) (dx G);rw[dx I] at hi;have e:nG fp bf[i]=true:=by
   have Y:f∉bf[i].ws:=by
    cases z:fl[i] with
    |un=>rw[z] at hi;exact hi.elim
    |wr _=>rw[z] at hi;exact hi.elim
    |qt=>rw[z] at A;have A:bf[i].ws=[]:=A;rw[A];intro h;cases h
    |rd R=>rw[z] at A;rw[A.1];intro h;cases h
    |off g=>rw[z] at A hi;have hi:g=f:=hi;subst hi;exact A
   unfold nG;rw[O,U,QL,QC (fun x z Z=>by rcases List.mem_singleton.1 Z with rfl;exact Y z)];rfl
  rw[e,dM];exact aak L O U M
theorem aa7{d:Key}{l:List Nat}{op:br}{r:List bl}(Y:mX W l fl=true)(h:VI T op VE B W fun v B'=>VQ T r ((d.n,v)::VE) B' (.wr W::fl) Q):VQ T (⟨some d,none,some l,op⟩::r) VE B fl Q:=by
 intro H0 X0 E H β z bf G;obtain⟨N,a,H',e,I,v,B',β',L,A,Z,hq⟩:=ve h z;have k:sG H.next B β (.wr W) ⟨op.reads E,H'.ws,H.next,H'.next⟩:=by
  intro f hm;obtain⟨b,t,k1,M,O,U⟩:=I f hm
  exact⟨by have:=(z.new b t M O).2;rw[U] at this;exact this,fun c s m1 m2 m3=>by
   have:=z.inj c b s t m1 M m2 O (m3.trans U.symm)
   rw[this];exact k1⟩
 obtain⟨N2,E2,H2,e2,hp⟩:=hq H0 X0 _ _ β' (A.set Z) (⟨op.reads E,H'.ws,H.next,H'.next⟩::bf) ((G.cons k).step L);refine⟨max N N2,E2,H2,fun lf n a1 a2=>?_,hp.of L z.aS⟩;show bl.jB (T.call lf n) ⟨some d,none,some l,op⟩ E H bf (iS (T.call lf n) r)=_;rw[uU,uV (e lf n an an) (xq G I Y)];exact e2 lf n an an
def OG(b:Nat)(l:List Nat)(fl:List FL):Bool:=
 match l with
 |[]=>true
 |i::r=>(match fl[i]?with
  |some (.rd _)=>true
  |some .qt=>true
  |some (.wr W)=>!yJ b W
  |_=>false)&&OG b r fl
theorem aa8{n b:Nat}{β:Nat→Nat}{s:BS}{bf:List FP}{fp:FP}(L:nx n B β fl bf)(U:aF B b=some s)(Y:s.born)(Z:fp.ws=[])(hr:fp.rd=some [β b]):∀{l:List Nat},OG b l fl=true→mO fp bf l=true
 |[],_=>rfl
 |i::r,h=>by
  simp only[OG,cU] at h;obtain⟨hi,M⟩:=h;show ob (bf[i]?) false (fun b=>aJ (nG fp b) (mO fp bf r) false)=true;have G:i<bf.length:=by
   rw[L.1]
   cases z:fl[i]?with
   |none=>rw[z] at hi;simp at hi
   |some x=>exact(List.getElem?_eq_some_iff.1 z).1
  rw[dx G,cA];have I:i<fl.length:=by rw[←L.1];exact G
  have A:=L.2 i _ _ (dx I) (dx G);rw[dx I] at hi;have e:nG fp bf[i]=true:=by
   have hd:β b∉bf[i].ws:=by
    cases z:fl[i] with
    |un=>rw[z] at hi;simp at hi
    |off _=>rw[z] at hi;simp at hi
    |qt=>rw[z] at A;have A:bf[i].ws=[]:=A;rw[A];intro h;cases h
    |rd R=>rw[z] at A;rw[A.1];intro h;cases h
    |wr W=>rw[z] at A hi;intro O;have h2:=(A _ O).2 b s U Y rfl;have hi:(!yJ b W)=true:=hi;rw[KX h2] at hi;simp at hi
   unfold nG;rw[Z,hr,QL,QC (fun x z O=>by rcases List.mem_singleton.1 O with rfl;exact hd z)];rfl
  rw[e,dM];exact aa8 L U Y Z hr M
theorem QR{d:Key}{l:List Nat}{n:Nat}{w:Bool}{a:aG}{b o:Nat}{s:BS}{r:List bl}(ha:a.vv VE=some (.vp b o))(O:aF B b=some s)(U:s.born)(hk:OG b l fl=true)(h:VI T (.load n w a) VE B [] fun v B'=>VQ T r ((d.n,v)::VE) B' (.rd [b]::fl) Q):VQ T (⟨some d,none,some l,.load n w a⟩::r) VE B fl Q:=by
 intro H0 X0 E H β G bf M;obtain⟨N,v0,H',e,Z,v,B',β',hw,Y,hv,hq⟩:=ve h G;obtain⟨x,hx,I⟩:=G.bC ha;simp only[aE] at I;subst I;have z:H'=H.mark:=KN hx (e N N (bd _) (bd _));have A:H.mark.ws=[]∧H.mark.next=H.next:=by cases H;exact⟨rfl,rfl⟩
 have L:(br.load n w a).reads E=some [β b]:=by
  show some (iB (a.ev E))=_;rw[hx];rfl
 have k:sG H.next B β (.rd [b]) ⟨(br.load n w a).reads E,H'.ws,H.next,H'.next⟩:=by
  refine⟨by rw[z];exact A.1,by show H.next=H'.next;rw[z];exact A.2.symm,[β b],L,fun f M=>?_⟩;rcases List.mem_singleton.1 M with rfl
  exact⟨(G.new b s O U).2,fun c t Z h2 h3=>List.mem_singleton.2 (G.inj c b t s Z O h2 U h3)⟩
 obtain⟨N2,E2,H2,e2,hp⟩:=hq H0 X0 _ _ β' (Y.set hv) (⟨(br.load n w a).reads E,H'.ws,H.next,H'.next⟩::bf) ((M.cons k).step hw);refine⟨max N N2,E2,H2,fun lf n a1 a2=>?_,hp.of hw G.aS⟩;show bl.jB (T.call lf n) ⟨some d,none,some l,_⟩ E H bf (iS (T.call lf n) r)=_;rw[uU,uV (e lf n an an) (aa8 M O U (by show H'.ws=[];rw[z];exact A.1) L hk)];exact e2 lf n an an
theorem Rf{d:Key}{l:List Nat}{n:Nat}{w:Bool}{a:aG}{c o f:Nat}{s:BS}{r:List bl}(Z:a.vv VE=some (.vp c o))(hc:aF B c=some (.bK f s))(hs:s.born)(hk:Lh f l fl)(h:VI T (.load n w a) VE B [] fun v B'=>VQ T r ((d.n,v)::VE) B' (.qt::fl) Q):VQ T (⟨some d,none,some l,.load n w a⟩::r) VE B fl Q:=by
 intro H0 X0 E H β I bf O;obtain⟨N,v0,H',e,h1,v,B',β',U,L,hv,hq⟩:=ve h I;obtain⟨x,Y,A⟩:=I.bC Z;simp only[aE] at A;subst A;have z:H'=H.mark:=KN Y (e N N (bd _) (bd _));have M:H.mark.ws=[]:=by cases H;rfl
 have G:H'.ws=[]:=by rw[z];exact M
 obtain⟨N2,E2,H2,e2,hp⟩:=hq H0 X0 _ _ β' (L.set hv) (⟨(br.load n w a).reads E,H'.ws,H.next,H'.next⟩::bf) ((O.step U).cons (x:=.qt) G);refine⟨max N N2,E2,H2,fun lf n a1 a2=>?_,hp.of U I.aS⟩;show bl.jB (T.call lf n) ⟨some d,none,some l,_⟩ E H bf (iS (T.call lf n) r)=_;rw[uU,uV (e lf n an an) (aak O G (by show some (iB (a.ev E))=_;rw[Y,I.pinned hc hs];rfl) hk)];exact e2 lf n an an
end
theorem OH{p q r:Ty}{a b c:DC}(h:fk [p,q,r] [a,b,c]):p.ok a∧q.ok b∧r.ok c:=by
 simp only[fk] at h;obtain⟨d,l,e,z,d2,L,A,h2,d3,M,G,I,O⟩:=h
 cases e;cases A;cases G
 exact⟨z,h2,I⟩
def oC(w:ah)(f n:Nat):Prop:=∃v l,w[w.length-1]?=some [v,.raw f n 2,l]
theorem oC.step{R w' z:ah}{i j f n:Nat}{a b c l:DC}{r':List DC}(I:w'=R.set i (jV [a,b,c] 1 [.raw f n 2]))(h2:z=w'.set j (jV r' 2 [l]))(G:w'[j]?=some r')(L:(i:Int)=(R.length:Int) -1)(M:(j:Int)=(R.length:Int) -1):oC z f n:=by
 have hi:i<R.length:=by omega
 have A:j=i:=by omega
 subst A;subst I;rw[HB hi] at G
 cases G
 subst h2;have e:j=R.length-1:=by omega
 refine⟨a,l,?_⟩;rw[jA,jA,←e,HB (by rw[jA];exact hi)];rfl
theorem jj{w:ah}{r:List DC}:(w++[r])[w.length]?=some r:=by simp
def lO(R:List DC→List DC→Prop)(w w':ah):Prop:=w.length=w'.length∧∀(q:Nat)r r',w[q]?=some r→w'[q]?=some r'→R r r'
def A3(r r':List DC):Prop:=∃f t d z w,r=[f,t,d]∧r'=[f,t,z]∧au w d∧au w z
def Au(r r':List DC):Prop:=∃k d z w,r=[k,d]∧r'=[k,z]∧au w d∧au w z
end Go.Ev
