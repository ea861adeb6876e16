/- Part 3 of rules for walks through the code of a program, and of such walks; what each part proves is said by its theorems. -/
import Derived.Test.YtmpoloiempjdpaaGreatR2
import Derived.IntWalk
import Derived.Deep.AppendSrc
import Derived.RowKit3
set_option linter.unusedVariables false
set_option linter.unusedSimpArgs false
noncomputable section
set_option maxRecDepth 100000
set_option maxHeartbeats 4000000
namespace Go.Ev
theorem dX{β:Type}(k e:β):aI true k e=k:=rfl
theorem chk_false{β:Type}(k e:β):aI false k e=e:=rfl
theorem th{β:Type}(b:Bool)(k e:β):aI b k e=if b=true then k else e:=by cases b<;>rfl
section
variable{v:aj}{H':ax}{n:Nat}
theorem fN{b:Bool}{k:aC}(h:aI b k (.err n)= .ok v H'):b=true∧k= .ok v H':=by
 cases b
 ·cases h
 exact⟨rfl,h⟩
theorem iO{α:Type}{o:Option α}{k:α→aC}(h:ob o (.err n) k= .ok v H'):∃x,o=some x∧k x= .ok v H':=by
 cases o with
 |none=>cases h
 |some x=>exact⟨x,rfl,h⟩
theorem eG{x:aG}{E:Env}{k:aj→aC}(h:bt x E (.err n) k= .ok v H'):∃a,x.ev E=some a∧k a= .ok v H':=by
 cases x with
 |t i=>exact iO h
 |c a=>exact⟨a,rfl,h⟩
theorem onBool_ok{a:aj}{k:Bool→aC}(h:uY a (.err n) k= .ok v H'):∃b,a= .bool b∧k b= .ok v H':=by
 cases a<;>first|cases h;done|exact⟨_,rfl,h⟩
theorem Ct{a:aj}{k:IntKind→Int→aC}(h:fA a (.err n) k= .ok v H'):∃b i,a= .int b i∧k b i= .ok v H':=by
 cases a<;>first|cases h;done|exact⟨_,_,rfl,h⟩
theorem Ky{a:aj}{k:Nat→Nat→aC}(h:lB a (.err n) k= .ok v H'):∃l s,a= .str l s∧k l s= .ok v H':=by
 cases a<;>first|cases h;done|exact⟨_,_,rfl,h⟩
theorem Fv{a:aj}{k:Nat→Nat→Nat→aC}(h:jf a (.err n) k= .ok v H'):∃f g o,a= .ptr f g o∧k f g o= .ok v H':=by
 cases a<;>first|cases h;done|exact⟨_,_,_,rfl,h⟩
theorem wT{a:aj}{e:aC}{k:Nat→Nat→Nat→Nat→Nat→aC}(h:fc a (.err n) e k= .ok v H'):
  (a= .fR∧e= .ok v H')∨∃f g o l es,a= .slice f g o l es∧k f g o l es= .ok v H':=by
 cases a<;>first|cases h;done|exact .inr ⟨_,_,_,_,_,rfl,h⟩|exact .inl ⟨rfl,h⟩
theorem aaH{a:aj}{k:List aj→aC}(h:mO a (.err n) k= .ok v H'):∃l,a= .agg l∧k l= .ok v H':=by
 cases a<;>first|cases h;done|exact⟨_,rfl,h⟩
theorem onTuple_ok{a:aj}{k:List aj→aC}(h:uQ a (.err n) k= .ok v H'):∃l,a= .tuple l∧k l= .ok v H':=by
 cases a<;>first|cases h;done|exact⟨_,rfl,h⟩
theorem onFunc_ok{a:aj}{k:Nat→List aj→List aj→aC}(h:xo a (.err n) k= .ok v H'):∃f fs l,a= .func f fs l∧k f fs l= .ok v H':=by
 cases a<;>first|cases h;done|exact⟨_,_,_,rfl,h⟩
theorem Kz{i:Int}{k:Nat→aC}(h:iN i (.err n) k= .ok v H'):∃m:Nat,i=(m:Int)∧k m= .ok v H':=by
 cases i with
 |ofNat m=>exact⟨m,rfl,h⟩
 |negSucc m=>cases h
theorem pe(l:List aj):gI l=l.length:=by
 induction l with
 |nil=>rfl
 |cons a r z=>show Nat.succ (gI r)=_;rw[z];rfl
theorem Lr{a:aj}{m:Nat}{k:Nat→aC}(h:idx a m (.err n) k= .ok v H'):∃z i,a= .int z (i:Nat)∧i<m∧k i= .ok v H':=by
 obtain⟨z,i,rfl,h⟩:=Ct h;obtain⟨j,rfl,h⟩:=Kz h;obtain⟨A,h⟩:=fN h;exact⟨z,j,rfl,aX A,h⟩
theorem adW{E:Env}{x:Option aG}{d y:Nat}{k:Nat→aC}(h:en E x d y (.err n) k= .ok v H'):
  (x=none∧k d= .ok v H')∨∃z A i,x=some z∧z.ev E=some (.int A (i:Nat))∧i≤y∧k i= .ok v H':=by
 cases x with
 |none=>exact .inl ⟨rfl,h⟩
 |some z=>
  obtain⟨a,G,h⟩:=iO h;obtain⟨A,i,rfl,h⟩:=Ct h;obtain⟨j,rfl,h⟩:=Kz h;obtain⟨I,h⟩:=fN h;exact .inr ⟨z,A,j,rfl,G,aX I,h⟩
theorem aaI{o:Option cV}{k:Nat→Nat→Nat→Nat→Nat→Nat→RT→aC}(h:kN o (.err n) k= .ok v H'):
  ∃elem es aD m lo fl cs,o=some (.row elem es aD m lo fl cs)∧k elem es aD m lo fl cs= .ok v H':=by
 cases o with
 |none=>cases h
 |some o=>cases o with
  |row=>exact⟨_,_,_,_,_,_,_,rfl,h⟩
  |map=>cases h
theorem Q7{agg:Bool}{l:List aj}{k:aj→aC}(h:fO agg l (.err n) k= .ok v H'):
  (agg=true∧k (.agg l)= .ok v H')∨∃x,agg=false∧l=[x]∧k x= .ok v H':=by
 cases agg with
 |true=>exact .inl ⟨rfl,h⟩
 |false=>
  cases l with
  |nil=>cases h
  |cons x r=>cases r with
   |nil=>exact .inr ⟨x,rfl,rfl,h⟩
   |cons y s=>cases h
theorem Fw{H:ax}{o:cV}{k:Nat→ax→aC}(h:H.alloc o k= .ok v H'):k H.next ⟨H.next+1,H.aR,H.ws,H.t.set H.next o⟩= .ok v H':=by
 cases H with
 |mk next aR ws t=>
  have h':cm next (fun f=>t.fB f o fun t=>k f ⟨Nat.succ f,aR,ws,t⟩)= .ok v H':=h;rw[fy,GT.jI] at h';exact h'
end
theorem Ls(m n:Nat):ui m n=(m:Int) -(n:Int):=by
 unfold ui
 cases h:Nat.ble n m
 ·have:¬n≤m:=fun e=>by rw[gn e] at h;cases h
  show Int.negSucc (n-m-1)=_;rw[kT];omega
 have:n≤m:=aX h;show Int.ofNat (m-n)=_;rw[gj];omega
theorem addI_eq(x y:Int):ajb x y=x+y:=by
 cases x with
 |ofNat m=>cases y with
  |ofNat n=>rfl
  |negSucc n=>show ui m (n+1)=_;rw[Ls,kT,gj];omega
 |negSucc m=>cases y with
  |ofNat n=>show ui n (m+1)=_;rw[Ls,kT,gj];omega
  |negSucc n=>show Int.negSucc (m+n+1)=_;rw[kT,kT,kT];omega
theorem subI_eq(x y:Int):ajc x y=x-y:=by
 cases x with
 |ofNat m=>cases y with
  |ofNat n=>show ui m n=_;rw[Ls];rfl
  |negSucc n=>show Int.ofNat (m+(n+1))=_;rw[kT,gj,gj];omega
 |negSucc m=>cases y with
  |ofNat n=>show Int.negSucc (m+n)=_;rw[kT,kT,gj];omega
  |negSucc n=>show ui n m=_;rw[Ls,kT,kT];omega
theorem Lt(x y:Int):Jx x y=fv x y:=by cases x<;>cases y<;>rfl
theorem adX(x y:Int):Xp x y=mr x y:=by cases x<;>cases y<;>rfl
theorem w64_eq(n:Int):w64 n=IntKind.wrap .i64 n:=by
 cases n with
 |ofNat m=>
  show Bool.rec (motive:=fun _=>Int) (IntKind.wrap .i64 (.ofNat m)) (.ofNat m) (Nat.ble m 9223372036854775807)=_
  cases h:Nat.ble m 9223372036854775807
  ·rfl
  have:=aX h;exact(IntWalk.i64_in (Int.ofNat m) (by simp only[gj];omega)).symm
 |negSucc m=>
  show Bool.rec (motive:=fun _=>Int) (IntKind.wrap .i64 (.negSucc m)) (.negSucc m) (Nat.ble m 9223372036854775807)=_
  cases h:Nat.ble m 9223372036854775807
  ·rfl
  have:=aX h;exact(IntWalk.i64_in (Int.negSucc m) (by rw[kT];omega)).symm
theorem Mp(mx:Nat)(k:IntKind)(z:∀n:Int,0≤n∧n≤mx→k.wrap n=n)(n:Int):wU mx k n=IntKind.wrap k n:=by
 cases n with
 |ofNat m=>
  show Bool.rec (motive:=fun _=>Int) (IntKind.wrap k (.ofNat m)) (.ofNat m) (Nat.ble m mx)=_
  cases h:Nat.ble m mx
  ·rfl
  have:=aX h;exact(z (Int.ofNat m) (by simp only[gj];omega)).symm
 |negSucc m=>rfl
theorem wrapQ_eq(k:IntKind)(n:Int):Ua k n=k.wrap n:=by
 cases k with
 |i8=>rfl
 |i16=>rfl
 |i32=>rfl
 |i64=>exact w64_eq n
 |u8=>exact Mp _ _ IntWalk.u8_in n
 |u16=>exact Mp _ _ IntWalk.u16_in n
 |u32=>exact Mp _ _ IntWalk.u32_in n
 |u64=>exact Mp _ _ IntWalk.u64_in n
theorem og(k:IntKind)(n:Int):lW k n=k.wrap n:=by
 unfold lW
 split
 ·rename_i m
  split
  ·rename_i h;have h:=aX h;exact(IntWalk.i64_in (Int.ofNat m) (by simp only[gj];omega)).symm
  rfl
 ·rename_i m
  split
  ·rename_i h;have h:=aX h;exact(IntWalk.i64_in (Int.negSucc m) (by rw[kT];omega)).symm
  rfl
 rfl
theorem ZQ{f:Int→Int→Int}{op:BinOp}(h:∀k a G b,gl op k a G b=aI (Nat.beq (cK k) (cK G)) (some (.int k (lW k (f a b)))) none)(a b:aj)(k:aj→aC):R8 f op a b k=nB op a b k:=by
 cases a<;>try rfl
 cases b<;>try rfl
 rename_i z x A y;show aI (Nat.beq (cK z) (cK A)) (lS (Ua z (f x y)) fun r=>k (.int z r)) (.err 6)=ob (gl op z x A y) (.err 6) fun v=>mJ v k
 rw[h,wW,wrapQ_eq,←og]
 cases Nat.beq (cK z) (cK A)
 ·rfl
 exact(wX (.int z (lW z (f x y))) k).symm
theorem CA{f:Int→Int→Bool}{op:BinOp}(h:∀k a G b,gl op k a G b=aI (Nat.beq (cK k) (cK G)) (some (.bool (f a b))) none)(a b:aj)(k:aj→aC):Bg f op a b k=nB op a b k:=by
 cases a<;>try rfl
 cases b<;>try rfl
 rename_i A x z y;show aI (Nat.beq (cK A) (cK z)) (pc (f x y) fun r=>k (.bool r)) (.err 6)=ob (gl op A x z y) (.err 6) fun v=>mJ v k
 rw[h]
 cases Nat.beq (cK A) (cK z)
 ·rfl
 refine Eq.trans ?_ (wX (.bool (f x y)) k).symm;show pc (f x y) (fun r=>k (.bool r))=_
 cases f x y<;>rfl
theorem KS(op:BinOp)(a b:aj)(k:aj→aC):D' op a b k=ob (D9 op a b) (.err 6) fun v=>mJ v k:=by
 cases op with
 |add=>exact ZQ (fun k a z b=>by rw[addI_eq];rfl) a b k
 |sub=>exact ZQ (fun k a z b=>by rw[subI_eq];rfl) a b k
 |eql=>exact CA (fun k a z b=>by rw[adX];rfl) a b k
 |neq=>exact CA (fun k a z b=>by unfold neI;rw[adX];rfl) a b k
 |lss=>exact CA (fun k a z b=>by rw[Lt];rfl) a b k
 |leq=>exact CA (fun k a z b=>by unfold leI;rw[Lt];rfl) a b k
 |gtr=>exact CA (fun k a z b=>by unfold gtI;rw[Lt];rfl) a b k
 |geq=>exact CA (fun k a z b=>by unfold geI;rw[Lt];rfl) a b k
 |mul=>rfl
 |quo=>rfl
 |rem=>rfl
 |and=>rfl
 |or=>rfl
 |xor=>rfl
 |shl=>rfl
 |shr=>rfl
 |andNot=>rfl
structure VJ(H:ax)(f g off n:Nat)(l:List aj):Prop where
 ex:∃elem es aD m lo fl cs x,H.t.get f=some (.row elem es aD m lo fl cs)∧lo≤g∧g≤m∧off % es+n≤es∧off/es<g∧cs.get (off/es)=some x∧
  ((l=x∧n=es)∨l=(x.drop (off % es)).take n)
theorem Uf{β:Type}{H:ax}{f g off n:Nat}{e:β}{k:List aj→β}{r:β}(h:rd H f g off n e k=r)(z:e≠r):∃l,VJ H f g off n l∧k l=r:=by
 unfold rd at h
 cases ho:H.t.get f with
 |none=>rw[ho] at h;exact absurd h z
 |some o=>
  rw[ho] at h
  cases o with
  |map=>exact absurd h z
  |row elem es aD m lo fl cs=>
   simp only[kN,th] at h
   split at h
   ·rename_i O
    split at h
    ·rename_i h2
     split at h
     ·rename_i U
      split at h
      ·rename_i Y
       cases A:cs.get (Nat.div off es) with
       |none=>rw[A] at h;exact absurd h z
       |some x=>
        rw[A] at h;simp only[ob] at h;have G:=aX O;have I:=aX h2;have L:=aX U;have M:=aX Y
        split at h
        ·rename_i Z;exact⟨x,⟨_,_,_,_,_,_,_,x,ho,G,I,L,M,A,.inl ⟨rfl,cU Z⟩⟩,h⟩
        exact⟨_,⟨_,_,_,_,_,_,_,x,ho,G,I,L,M,A,.inr rfl⟩,h⟩
      exact absurd h z
     exact absurd h z
    exact absurd h z
   exact absurd h z
theorem KA(f:Nat)(l:List Nat):pJ f l=true↔f∈l:=by
 induction l with
 |nil=>simp[pJ]
 |cons x r z=>
  show aI (Nat.beq f x) true (pJ f r)=true↔_;rw[th]
  by_cases h:f=x
  ·simp[h]
  have:¬(Nat.beq f x=true):=by simpa[uh] using h
  simp[h,this,z]
theorem wY(f aR:Nat)(ws:List Nat)(x:Nat):x∈wrote f aR ws↔x∈ws∨(x=f∧f<aR):=by
 unfold wrote;rw[th,th]
 by_cases h:aR≤f
 ·rw[bg (gn h)];constructor
  ·exact .inl
  rintro(z|⟨_,z⟩)
  ·exact z
  omega
 have G:¬(Nat.ble aR f=true):=by simpa using h
 rw[aZ G]
 by_cases A:pJ f ws=true
 ·rw[bg A];rw[KA] at A;constructor
  ·exact .inl
  rintro(z|⟨rfl,_⟩)
  ·exact z
  exact A
 rw[aZ A];simp only[sd];constructor
 ·rintro(rfl|z)
  ·exact .inr ⟨rfl,al⟩
  exact .inl z
 rintro(z|⟨rfl,_⟩)
 ·exact .inr z
 exact .inl rfl
structure ajd(H:ax)(f g off n:Nat)(new:List aj)(H':ax):Prop where
 ex:∃elem es aD lo cs x,H.t.get f=some (.row elem es aD g lo 0 cs)∧lo≤g∧off % es+n≤es∧off/es<g∧new.length=n∧cs.get (off/es)=some x∧
  H'=⟨H.next,H.aR,wrote f H.aR H.ws,H.t.set f (.row elem es aD g g 0 (cs.set (off/es) (if n=es then new else ed x (off % es) new)))⟩
theorem AM{H:ax}{f g off n m:Nat}{new:List aj}{k:ax→aC}{v:aj}{H':ax}(h:wr H f g off n new (.err m) k= .ok v H'):∃H1,ajd H f g off n new H1∧k H1= .ok v H':=by
 cases H with
 |mk next aR ws t=>
  have h:=aaI h;obtain⟨elem,es,aD,mm,lo,fl,cs,ho,h⟩:=h;obtain⟨z,h⟩:=fN h;obtain⟨h2,h⟩:=fN h;obtain⟨I,h⟩:=fN h;obtain⟨L,h⟩:=fN h;obtain⟨M,h⟩:=fN h;obtain⟨O,h⟩:=fN h;obtain⟨x,U,A⟩:=iO h;rw[RT.jI,GT.jI] at A;have Y:=cU z;have Z:=cU h2;have G:=cU O;rw[pe] at G;clear h z h2;subst Y Z;refine⟨_,⟨elem,es,aD,lo,cs,x,ho,aX I,aX L,aX M,G,U,?_⟩,A⟩;rw[th];simp only[uh];rfl
structure eE(H H':ax):Prop where
 next:H.next≤H'.next
 aR:H'.aR=H.aR
 ws:∀f,f∈H.ws→f∈H'.ws
 same:∀f,f<H.aR→f∉H'.ws→H'.t.get f=H.t.get f
 wf:(∀f,H.next≤f→H.t.get f=none)→∀f,H'.next≤f→H'.t.get f=none
 gJ:∀f,H.t.get f≠none→H'.t.get f≠none
theorem eE.refl(H:ax):eE H H:=⟨bf _,rfl,fun _ h=>h,fun _ _ _=>rfl,fun h=>h,fun _ h=>h⟩
theorem eE.trans{A B C:ax}(h:eE A B)(k:eE B C):eE A C:=
 ⟨eO h.next k.next,k.aR.trans h.aR,fun f z=>k.ws f (h.ws f z),fun f z G=>(k.same f (h.aR▸z) G).trans (h.same f z fun e=>G (k.ws f e)),fun x=>k.wf (h.wf x),fun f x=>k.gJ f (h.gJ f x)⟩
theorem eE.alloc{H:ax}(o:cV)(A:H.aR≤H.next):eE H ⟨H.next+1,H.aR,H.ws,H.t.set H.next o⟩:=
 ⟨Ba _,rfl,fun _ h=>h,fun f z _=>by show(H.t.set H.next o).get f=_;rw[GT.da,aZ al],
  fun h f z=>by
  have z:H.next+1≤f:=z;show(H.t.set H.next o).get f=none;rw[GT.da,aZ al];exact h f al,
  fun f z=>by
  show(H.t.set H.next o).get f≠none;rw[GT.da]
  split
  ·simp
  exact z⟩
theorem eE.write{H:ax}(f:Nat)(o:cV){A:cV}(h0:H.t.get f=some A):eE H ⟨H.next,H.aR,wrote f H.aR H.ws,H.t.set f o⟩:=
 ⟨bf _,rfl,fun x z=>(wY _ _ _ _).2 (.inl z),fun x z G=>by
  show(H.t.set f o).get x=_;rw[GT.da]
  split
  ·rename_i e;subst e;exact absurd ((wY _ _ _ _).2 (.inr ⟨rfl,z⟩)) G
  ·rfl,fun h x z=>by
  have z:H.next≤x:=z;show(H.t.set f o).get x=none;rw[GT.da]
  split
  ·rename_i e;subst e;rw[h x z] at h0;cases h0
  ·exact h x z,fun x z=>by
  show(H.t.set f o).get x≠none;rw[GT.da]
  split
  ·simp
  exact z⟩
def TM(H:ax)(r:aC):Prop:=∀v H',r= .ok v H'→eE H H'
theorem TM.err{H:ax}{n:Nat}:TM H (.err n):=fun _ _ h=>by cases h
theorem TM.ok{H:ax}{v:aj}:TM H (.ok v H):=fun _ _ h=>by cases h;exact eE.refl _
theorem TM.aI{H:ax}{b:Bool}{k e:aC}(h:TM H k)(h':TM H e):TM H (aI b k e):=by cases b;exact h';exact h
theorem TM.ob{H:ax}{α:Type}{o:Option α}{e:aC}{k:α→aC}(h:∀x,TM H (k x))(h':TM H e):TM H (ob o e k):=by cases o;exact h';exact h _
theorem TM.bt{H:ax}{x:aG}{E:Env}{e:aC}{k:aj→aC}(h:∀x,TM H (k x))(h':TM H e):TM H (bt x E e k):=by
 cases x with
 |t i=>exact TM.ob (o:=E.get i) h h'
 |c a=>exact h a
theorem TM.uY{H:ax}{a:aj}{e:aC}{k:Bool→aC}(h:∀x,TM H (k x))(h':TM H e):TM H (uY a e k):=by cases a<;>first|exact h'|exact h _
theorem TM.fA{H:ax}{a:aj}{e:aC}{k:IntKind→Int→aC}(h:∀x y,TM H (k x y))(h':TM H e):TM H (fA a e k):=by cases a<;>first|exact h'|exact h _ _
theorem TM.lB{H:ax}{a:aj}{e:aC}{k:Nat→Nat→aC}(h:∀x y,TM H (k x y))(h':TM H e):TM H (lB a e k):=by cases a<;>first|exact h'|exact h _ _
theorem TM.jf{H:ax}{a:aj}{e:aC}{k:Nat→Nat→Nat→aC}(h:∀x y z,TM H (k x y z))(h':TM H e):TM H (jf a e k):=by cases a<;>first|exact h'|exact h _ _ _
theorem TM.fc{H:ax}{a:aj}{e A:aC}{k:Nat→Nat→Nat→Nat→Nat→aC}(h:∀x y z u w,TM H (k x y z u w))(h2:TM H A)(h':TM H e):TM H (fc a e A k):=by cases a<;>first|exact h'|exact h2|exact h _ _ _ _ _
theorem TM.mO{H:ax}{a:aj}{e:aC}{k:List aj→aC}(h:∀x,TM H (k x))(h':TM H e):TM H (mO a e k):=by cases a<;>first|exact h'|exact h _
theorem TM.uQ{H:ax}{a:aj}{e:aC}{k:List aj→aC}(h:∀x,TM H (k x))(h':TM H e):TM H (uQ a e k):=by cases a<;>first|exact h'|exact h _
theorem TM.xo{H:ax}{a:aj}{e:aC}{k:Nat→List aj→List aj→aC}(h:∀x y z,TM H (k x y z))(h':TM H e):TM H (xo a e k):=by cases a<;>first|exact h'|exact h _ _ _
theorem TM.iN{H:ax}{i:Int}{e:aC}{k:Nat→aC}(h:∀x,TM H (k x))(h':TM H e):TM H (iN i e k):=by cases i;exact h _;exact h'
theorem TM.idx{H:ax}{a:aj}{n:Nat}{e:aC}{k:Nat→aC}(h:∀x,TM H (k x))(h':TM H e):TM H (idx a n e k):=TM.fA (fun _ _=>TM.iN (fun _=>TM.aI (h _) h') h') h'
theorem TM.en{H:ax}{E:Env}{x:Option aG}{d y:Nat}{e:aC}{k:Nat→aC}(h:∀x,TM H (k x))(h':TM H e):TM H (en E x d y e k):=by
 cases x with
 |none=>exact h _
 |some z=>exact TM.ob (fun _=>TM.fA (fun _ _=>TM.iN (fun _=>TM.aI (h _) h') h') h') h'
theorem TM.kN{H:ax}{o:Option cV}{e:aC}{k:Nat→Nat→Nat→Nat→Nat→Nat→RT→aC}(h:∀a b c d e f g,TM H (k a b c d e f g))(h':TM H e):TM H (kN o e k):=by
 cases o with
 |none=>exact h'
 |some o=>cases o with
  |row=>exact h _ _ _ _ _ _ _
  |map=>exact h'
theorem TM.fO{H:ax}{agg:Bool}{l:List aj}{e:aC}{k:aj→aC}(h:∀x,TM H (k x))(h':TM H e):TM H (fO agg l e k):=by
 refine TM.aI (h _) ?_
 cases l with
 |nil=>exact h'
 |cons x r=>cases r with
  |nil=>exact h _
  |cons=>exact h'
theorem TM.cm{H:ax}{n:Nat}{k:Nat→aC}(h:∀x,TM H (k x)):TM H (cm n k):=by rw[fy];exact h _
theorem TM.lS{H:ax}{n:Int}{k:Int→aC}(h:∀x,TM H (k x)):TM H (lS n k):=by rw[wW];exact h _
theorem TM.mJ{H:ax}{n:aj}{k:aj→aC}(h:∀x,TM H (k x)):TM H (mJ n k):=by rw[wX];exact h _
theorem TM.pc{H:ax}{n:Bool}{k:Bool→aC}(h:∀x,TM H (k x)):TM H (pc n k):=by cases n<;>exact h _
theorem TM.D'{H:ax}{op:BinOp}{a b:aj}:TM H (D' op a b fun v=>.ok v H):=by rw[KS];exact TM.ob (fun _=>TM.mJ fun _=>TM.ok) TM.err
theorem TM.Bj{H:ax}{t:HT}{n:Nat}{o:cV}{k:HT→aC}(h:TM H (k (t.set n o))):TM H (t.fB n o k):=by rw[GT.jI];exact h
theorem TM.fill{H:ax}{l:List (List aj)}{t:RT}{i:Nat}{k:RT→aC}(h:TM H (k (gE l t i))):TM H (xL l t i k):=by rw[Cr];exact h
theorem TM.rep{H:ax}{x:List aj}{n:Nat}{k:RT→aC}(h:TM H (k (oD x n))):TM H (Bh x n k):=by rw[KN];exact h
theorem TM.alloc{H:ax}{o:cV}{k:Nat→ax→aC}(G:H.aR≤H.next)(I:∀f z,∃v,k f z= .ok v z):TM H (H.alloc o k):=fun x H' h=>by
 have A:=Fw h;obtain⟨v,L⟩:=I H.next ⟨H.next+1,H.aR,H.ws,H.t.set H.next o⟩;rw[L] at A;cases A;exact eE.alloc o G
theorem TM.rd{H:ax}{f g off n:Nat}{e:aC}{k:List aj→aC}(h:∀x,TM H (k x))(h':TM H e):TM H (rd H f g off n e k):=
 TM.kN (fun _ _ _ _ _ _ _=>TM.aI (TM.aI (TM.aI (TM.aI (TM.ob (fun _=>TM.aI (h _) (h _)) h') h') h') h') h') h'
theorem TM.wrK{H:ax}{f g off n m:Nat}{new:List aj}{k:ax→aC}(A:∀z,∃v,k z= .ok v z):TM H (wr H f g off n new (.err m) k):=fun x H' h=>by
 obtain⟨H1,⟨_,_,_,_,_,_,G,_,_,_,_,_,e⟩,h⟩:=AM h;obtain⟨v,I⟩:=A H1;rw[I] at h
 cases h
 subst e;exact eE.write f _ G
theorem TM.iT{H:ax}{elem es aD n:Nat}{new:List (List aj)}{x:aj}(z:H.aR≤H.next):TM H (iT elem es aD n new H x):=by
 cases n with
 |zero=>exact TM.fc (fun _ _ _ _ _=>TM.ok) TM.ok TM.err
 |succ n=>
  refine TM.fc (fun f g off G cW=>?_) (TM.aI (TM.fill (TM.alloc z (fun _ _=>⟨_,rfl⟩))) TM.err) TM.err;refine TM.aI ?_ (TM.aI (TM.aI (TM.aI (TM.aI ?_ TM.err) TM.err) TM.err) TM.err)
  rotate_left
  ·cases new with
   |nil=>exact TM.err
   |cons row r=>exact TM.wrK (fun _=>⟨_,rfl⟩)
  cases H with
  |mk next aR ws t=>
   show TM _ (Ev.kN (t.get f) _ _)
   cases A:t.get f with
   |none=>exact TM.err
   |some ob=>cases ob with
    |map=>exact TM.err
    |row I L M O U a6 Y=>
   refine TM.aI (TM.aI (TM.aI (TM.aI (TM.aI (TM.aI (TM.aI TM.err (TM.aI (TM.aI (TM.cm fun _=>TM.fill (TM.Bj ?_)) TM.err) TM.err)) TM.err) TM.err) TM.err) TM.err) TM.err) TM.err;exact fun v H' h=>by cases h;exact eE.write (H:=⟨next,aR,ws,t⟩) f _ A
theorem TM.wr{H:ax}{f g off n:Nat}{new:List aj}{v:aj}:TM H (wr H f g off n new (.err 5) fun H=>.ok v H):=fun x H' h=>by
 obtain⟨H1,⟨_,_,_,_,_,_,z,_,_,_,_,_,e⟩,h⟩:=AM h
 cases h
 subst e;exact eE.write f _ z
theorem TM.clr{f g es:Nat}{z:List aj}:∀{n off:Nat}{H:ax},TM H (qT f g es z n off H)
 |0,_,_=>TM.ok
 |n+1,off,H=>fun x H' h=>by
  have h:Go.Ev.wr H f g off es z (aC.err 28) (fun H=>Go.Ev.cm (Nat.add off es) fun off=>qT f g es z n off H)=aC.ok x H':=h;obtain⟨H1,⟨_,_,_,_,_,_,A,_,_,_,_,_,e⟩,h⟩:=AM h;rw[fy] at h;have h2:=TM.clr (n:=n) x H' h;subst e;exact(eE.write f _ A).trans h2
theorem TM.pI{H:ax}{a b c:Nat}{d:List aj}{E:Env}(z:H.aR≤H.next):TM H (AK a b c d E H):=
 TM.alloc (o:=.row a b c 1 1 0 (.one d)) (k:=fun f H=>.ok (.ptr f 1 0) H) z (fun _ _=>⟨_,rfl⟩)
theorem TM.mu{H:ax}{f e:Nat}{v:aj}:TM H (mu f e H fun H=>.ok v H):=by
 cases H with
 |mk next aR ws t=>
  show TM _ (Ev.kN (t.get f) _ _)
  cases z:t.get f with
  |none=>exact TM.err
  |some ob=>cases ob with
   |map=>exact TM.err
   |row A G I L M a6 O=>
   refine TM.aI (TM.aI (TM.aI (TM.Bj ?_) TM.err) TM.err) TM.err;exact fun v H' h=>by cases h;exact eE.write (H:=⟨next,aR,ws,t⟩) f _ z
theorem TM.ins{call:dO}{H:ax}(z:H.aR≤H.next)(A:∀f a,TM H (call f a H))(E:Env)(o:bq):TM H (o.ev call E H):=by
 cases o with
 |d8 x=>exact TM.bt (fun _=>TM.ok) TM.err
 |pick c a b=>exact TM.bt (fun _=>TM.uY (fun _=>TM.aI (TM.bt (fun _=>TM.ok) TM.err) (TM.bt (fun _=>TM.ok) TM.err)) TM.err) TM.err
 |pI a b c d=>exact TM.pI (E:=E) z
 |box a b c d=>exact TM.bt (fun _=>TM.ob (fun _=>TM.aI (TM.pI (E:=E) z) TM.err) TM.err) TM.err
 |load a b c=>exact TM.bt (fun _=>TM.jf (fun _ _ _=>TM.rd (fun _=>TM.fO (fun _=>TM.ok) TM.err) TM.err) TM.err) TM.err
 |store a b c=>exact TM.bt (fun _=>TM.jf (fun _ _ _=>TM.bt (fun _=>TM.ob (fun _=>TM.wr) TM.err) TM.err) TM.err) TM.err
 |bin op x y=>exact TM.bt (fun _=>TM.bt (fun _=>TM.D') TM.err) TM.err
 |eqv c n x y=>exact TM.bt (fun _=>TM.bt (fun _=>TM.ob (fun _=>TM.pc fun _=>TM.ok) TM.err) TM.err) TM.err
 |un op x=>exact TM.bt (fun _=>TM.ob (fun _=>TM.mJ fun _=>TM.ok) TM.err) TM.err
 |eR x k=>exact TM.bt (fun _=>TM.jf (fun _ _ _=>TM.cm fun _=>TM.ok) TM.err) TM.err
 |sub x a b c=>exact TM.bt (fun _=>TM.mO (fun _=>TM.aI (TM.fO (fun _=>TM.ok) TM.err) TM.err) TM.err) TM.err
 |Ab a b x i=>exact TM.bt (fun _=>TM.jf (fun _ _ _=>TM.bt (fun _=>TM.idx (fun _=>TM.cm fun _=>TM.ok) TM.err) TM.err) TM.err) TM.err
 |j0 a x i=>exact TM.bt (fun _=>TM.fc (fun _ _ _ _ _=>TM.bt (fun _=>TM.idx (fun _=>TM.cm fun _=>TM.ok) TM.err) TM.err) TM.err TM.err) TM.err
 |CO a b c x i=>exact TM.bt (fun _=>TM.mO (fun _=>TM.bt (fun _=>TM.idx (fun _=>TM.aI (TM.fO (fun _=>TM.ok) TM.err) TM.err) TM.err) TM.err) TM.err) TM.err
 |CP x i=>exact TM.bt (fun _=>TM.lB (fun _ _=>TM.bt (fun _=>TM.idx (fun _=>TM.cm fun _=>TM.ok) TM.err) TM.err) TM.err) TM.err
 |Hi x a b=>exact TM.bt (fun _=>TM.lB (fun _ _=>TM.en (fun _=>TM.en (fun _=>TM.cm fun _=>TM.cm fun _=>TM.ok) TM.err) TM.err) TM.err) TM.err
 |tW n x a b=>exact TM.bt (fun _=>TM.fc (fun _ _ _ _ _=>TM.aI (TM.en (fun _=>TM.en (fun _=>TM.cm fun _=>TM.cm fun _=>TM.ok) TM.err) TM.err) TM.err) (TM.en (fun _=>TM.en (fun _=>TM.ok) TM.err) TM.err) TM.err) TM.err
 |Jw n x a b c=>exact TM.bt (fun _=>TM.fc (fun _ _ _ _ _=>TM.aI (TM.en (fun _=>TM.aI (TM.en (fun _=>TM.en (fun _=>TM.cm fun _=>TM.cm fun _=>TM.ok) TM.err) TM.err) TM.err) TM.err) TM.err) TM.err TM.err) TM.err
 |vH x i=>exact TM.bt (fun _=>TM.uQ (fun _=>TM.ob (fun _=>TM.ok) TM.err) TM.err) TM.err
 |rT x=>exact TM.bt (fun _=>TM.aI TM.ok TM.err) TM.err
 |yv f fs l=>exact TM.ob (fun _=>TM.ob (fun _=>TM.ok) TM.err) TM.err
 |vI a b c d e f=>exact TM.bt (fun _=>TM.fA (fun _ _=>TM.iN (fun _=>TM.bt (fun _=>TM.fA (fun _ _=>TM.iN (fun _=>TM.aI (TM.aI (TM.aI (TM.rep (TM.alloc z (fun _ _=>⟨_,rfl⟩))) TM.err) TM.err) TM.err) TM.err) TM.err) TM.err) TM.err) TM.err) TM.err
 |build a b=>exact TM.ob (fun _=>TM.ok) TM.err
 |tb a b c d e f=>exact TM.ob (fun _=>TM.alloc z (fun _ _=>⟨_,rfl⟩)) TM.err
 |len x=>exact TM.bt (fun _=>TM.fc (fun _ _ _ _ _=>TM.ok) TM.ok TM.err) TM.err
 |tX x=>exact TM.bt (fun _=>TM.lB (fun _ _=>TM.ok) TM.err) TM.err
 |app a b c x y=>exact TM.bt (fun _=>TM.bt (fun _=>TM.fc (fun _ _ _ _ _=>TM.ob (fun _=>TM.iT z) TM.err) (TM.iT z) TM.err) TM.err) TM.err
 |xl a x y=>exact TM.bt (fun _=>TM.bt (fun _=>TM.lB (fun _ _=>TM.iT z) TM.err) TM.err) TM.err
 |copy a b c=>exact TM.bt (fun _=>TM.fc (fun _ _ _ _ _=>TM.bt (fun _=>TM.mO (fun _=>TM.aI (TM.aI TM.clr TM.err) TM.err) TM.err) TM.err) TM.ok TM.err) TM.err
 |xm a b c=>exact TM.bt (fun _=>TM.fA (fun _ _=>TM.ob (fun _=>TM.ob (fun _=>TM.ok) TM.err) TM.err) TM.err) TM.err
 |conv k x=>exact TM.bt (fun _=>TM.fA (fun _ _=>TM.lS fun _=>TM.ok) TM.err) TM.err
 |xn x=>exact TM.bt (fun _=>TM.fc (fun _ _ _ _ _=>TM.ob (fun _=>TM.ob (fun _=>TM.cm fun _=>TM.ok) TM.err) TM.err) TM.ok TM.err) TM.err
 |call f l=>exact TM.ob (fun _=>A _ _) TM.err
 |tB x l=>exact TM.bt (fun _=>TM.xo (fun _ _ _=>TM.ob (fun _=>A _ _) TM.err) TM.err) TM.err
mutual
theorem KB(ρ:Ho):∀(v:Value)(a:aj),jr v=some a→VR ρ a v
 |.bool b,a,h=>by simp only[jr,eC] at h;subst h;simp[VR]
 |.int k n,a,h=>by simp only[jr,eC] at h;subst h;simp[VR]
 |.float _ _,a,h=>by simp[jr] at h
 |.complex _ _ _,a,h=>by simp[jr] at h
 |.string s,a,h=>by simp only[jr,eC] at h;subst h;simp only[VR];exact⟨s,rfl,rfl,rfl⟩
 |.pointer none,a,h=>by simp only[jr,eC] at h;subst h;simp[VR]
 |.pointer (some _),a,h=>by simp[jr] at h
 |.slice none l c,a,h=>by
  unfold jr at h
  split at h<;>simp_all
  subst h;simp[VR]
 |.slice (some _) _ _,a,h=>by simp[jr] at h
 |.map none,a,h=>by simp only[jr,eC] at h;subst h;simp[VR]
 |.map (some _),a,h=>by simp[jr] at h
 |.chan _,a,h=>by simp[jr] at h
 |.func _ _ _,a,h=>by simp[jr] at h
 |.nilFunc,a,h=>by simp only[jr,eC] at h;subst h;simp[VR]
 |.iface _ _,a,h=>by simp[jr] at h
 |.nilIface,a,h=>by simp only[jr,eC] at h;subst h;simp[VR]
 |.agg ⟨cs⟩,a,h=>by
  unfold jr at h
  split at h
  ·rename_i l z
   split at h
   ·rename_i A
    cases h
    simp only[VR];exact⟨_,rfl,ZR ρ cs l z,A⟩
   cases h
  cases h
 |.tuple _,a,h=>by simp[jr] at h
theorem ZR(ρ:Ho):∀(l:List Value)(z:List aj),Gt l=some z→bO ρ z l
 |[],z,h=>by simp only[Gt,eC] at h;subst h;rfl
 |v::r,z,h=>by
  unfold Gt at h
  split at h
  ·rename_i x l A h2
   cases h
   exact⟨v,r,rfl,KB ρ v x A,ZR ρ r l h2⟩
  cases h
end
def IG(P:Program)(g:Nat):Bool:=match P.globals[g]?with|some v=>v.name== "strconv.ErrRange"|none=>false
def vl(P:Program)(ρ:Ho):Prop:=∀g,g<P.globals.size→∃h,ρ g 1=some h∧h.bE=g∧h.off=0∧(IG P g=true→h.ro=true∧h.bP=true)
def xO(P:Program)(w:World):Prop:=∀g,g<P.globals.size→g<w.heap.size∧(IG P g=true→∃z A,w.cell? ⟨g,0,none⟩=some (.iface z A))
structure AR(P:Program)(ρ:Ho)(nt:Nat)(E:Env)(a:Act):Prop where
 size:a.tmps.size=nt
 defers:a.defers=[]
 tmp:∀t v,E.get t=some v→∃cv,a.tmps[t.n]?=some cv∧VR ρ v cv
 qU:vl P ρ
theorem AR.mono{P:Program}{ρ ρ':Ho}{nt:Nat}{E:Env}{a:Act}(h:AR P ρ nt E a)(A:ρ.le ρ'):AR P ρ' nt E a:=
 ⟨h.size,h.defers,fun t v e=>let⟨cv,z,h2⟩:=h.tmp t v e;⟨cv,z,h2.mono A⟩,fun g G=>let⟨x,z,h2⟩:=h.qU g G;⟨x,A _ _ _ z,h2⟩⟩
theorem AR.put{P:Program}{ρ:Ho}{nt:Nat}{E:Env}{a:Act}(h:AR P ρ nt E a){d:Key}(A:d.n<nt){v:aj}{cv:Value}(G:VR ρ v cv):AR P ρ nt (E.set d v) (a.put (some d.n) cv):=by
 refine⟨by simp[Act.put,h.size],by simp[Act.put,h.defers],fun t x e=>?_,h.qU⟩;rw[T4.da] at e
 split at e
 ·rename_i z;subst z
  cases e
  exact⟨cv,by simp[Act.put,h.size,A],G⟩
 rename_i z;obtain⟨y,I,k⟩:=h.tmp t x e;exact⟨y,by simp only[Act.put];rw[Array.getElem?_setIfInBounds_ne (fun e=>z (Key.inj e.symm))];exact I,k⟩
section
variable{P:Program}{ρ:Ho}{nt:Nat}{E:Env}{a:Act}
theorem AR.bI(h:AR P ρ nt E a){x:Operand}{y:aG}{v:aj}(ho:cB P x=some y)(z:y.ev E=some v):VR ρ v (a.eval x):=by
 cases x with
 |tmp t=>
  simp only[cB] at ho
  split at ho
  ·rename_i G
   cases ho
   obtain⟨cv,A,h2⟩:=h.tmp (pk t) v z;rw[Bf G] at A;simp only[Act.eval];rw[yl,A];exact h2
  cases ho
 |const c=>
  simp only[cB] at ho
  split at ho
  ·rename_i w I
   cases ho
   cases z
   exact KB ρ _ _ I
  cases ho
 |global g=>
  simp only[cB] at ho
  split at ho
  ·rename_i L
   cases ho
   cases z
   obtain⟨x,M,rfl,h2,_⟩:=h.qU g L;simp only[VR,Act.eval];exact⟨x,M,by simp[h2]⟩
  cases ho
 |func f=>
  simp only[cB,eC] at ho;subst ho
  cases z
  simp only[VR,Act.eval];exact⟨#[],#[],rfl,by simp only[bO],by simp only[bO]⟩
theorem AR.dc(h:AR P ρ nt E a):∀{I:List Operand}{ys:List aG}{vs:List aj},jX P I=some ys→iB E ys=some vs→bO ρ vs (I.map a.eval)
 |[],ys,vs,ho,A=>by
  simp only[jX,eC] at ho;subst ho
  cases A
  rfl
 |x::r,ys,vs,ho,A=>by
  simp only[jX] at ho
  split at ho
  ·rename_i y l L M
   cases ho
   have z:ob (y.ev E) none (fun v=>ob (iB E l) none fun vs=>some (v::vs))=some vs:=A
   cases G:y.ev E with
   |none=>rw[G] at z;cases z
   |some v=>
    rw[G] at z
    cases h2:iB E l with
    |none=>rw[h2] at z;cases z
    |some O=>
     rw[h2] at z
     cases z
     exact⟨_,_,rfl,h.bI L G,AR.dc h M h2⟩
  cases ho
end
def eF(P:Program)(o:Oper)(a:Act)(w:World)(Φ:Value→World→Prop):Prop:=
 (∃cv w',(execOp a.eval o).run P w= .ok (.value cv) w'∧Φ cv w')∨
 (∃w',(execOp a.eval o).run P w= .ok .skip w'∧Φ undef w')∨
 (∃f args,(execOp a.eval o).run P w= .ok (.enter f args) w∧Calls P f args w fun e w'=>∃cv,e= .returned cv∧Φ cv w')
theorem Zq{P:Program}{o:Oper}{a:Act}{w:World}{Φ:Value→World→Prop}{K:Act→World→Prop}{Q:Exit→Act→World→Prop}
  (h:eF P o a w Φ) (A:∀cv w',Φ cv w'→K (a.put o.dst cv) w'):o.wp P a w K Q:=by
 unfold Oper.wp;rcases h with⟨cv,w',e,z⟩|⟨w',e,z⟩|⟨f,args,e,z⟩
 ·rw[e];exact A _ _ z
 ·rw[e];exact A _ _ z
 rw[e];refine Calls.mono z fun e w' G=>?_
 obtain⟨cv,rfl,z⟩:=G;exact A _ _ z
def eg(C:Nat→Option cV)(H H':ax)(f:Nat):Option cV:=
 open Classical in
 if H.next≤f∧f<H'.next then H'.t.get f else if H'.t.get f=H.t.get f then C f else H'.t.get f
def Wr(H':ax)(f:Nat):Prop:=f∈H'.ws∨H'.aR≤f
def cZ(ρ:Ho)(C:Nat→Option cV)(w:World)(H:ax)(v:aj)(H':ax)(cv:Value)(w':World):Prop:=
 ∃ρ',VR ρ' v cv∧Ext (Wr H') H.next H'.next ρ ρ' w w'∧R ρ' (eg C H H') w'
theorem rH(C:Nat→Option cV)(H:ax):eg C H H=C:=by
 funext f
 unfold eg;rw[aZ al,bg rfl]
theorem cZ.pure{ρ:Ho}{C:Nat→Option cV}{w:World}{H:ax}{v:aj}{cv:Value}(z:R ρ C w)(A:VR ρ v cv):cZ ρ C w H v H cv w:=
 ⟨ρ,A,Ext.refl _ _ _ _,by rw[rH];exact z⟩
theorem KT{a b:IntKind}(h:Nat.beq (cK a) (cK b)=true):a=b:=by cases a<;>cases b<;>first|rfl|cases h
theorem ou(a b:Int):fv a b=decide (a<b):=by
 rw[ym,decide_eq_true_iff]
 cases a with
 |ofNat a=>cases b with
  |ofNat b=>simp only[fv,Nat.ble_eq,gj];omega
  |negSucc b=>simp only[fv,gj,kT,gU,false_iff];omega
 |negSucc a=>cases b with
  |ofNat b=>simp only[fv,gj,kT,true_iff];omega
  |negSucc b=>simp only[fv,Nat.ble_eq,kT];omega
theorem tm(a b:Int):mr a b=decide (a=b):=by
 rw[ym,decide_eq_true_iff]
 cases a with
 |ofNat a=>cases b with
  |ofNat b=>simp only[mr,uh,gj];omega
  |negSucc b=>simp only[mr,gj,kT,gU,false_iff];omega
 |negSucc a=>cases b with
  |ofNat b=>simp only[mr,gj,kT,gU,false_iff];omega
  |negSucc b=>simp only[mr,uh,kT];omega
theorem Y9(a b:List UInt8):pack (a++b)=pack a+256^a.length*pack b:=by
 induction a with
 |nil=>simp[pack]
 |cons x r z=>
  simp only[A9,pack,z,gF,Nl];rw[Nat.mul_add,←kU,←Nat.mul_assoc,qM 256 (256^r.length)]
theorem abB(a:List UInt8):pack a<256^a.length:=by
 induction a with
 |nil=>simp[pack]
 |cons x r z=>
  simp only[pack,gF,Nl];have:x.toNat<256:=x.toNat_lt;omega
theorem ZS(l:List UInt8)(i:Nat):pack l/256^i=pack (l.drop i):=by
 induction i generalizing l with
 |zero=>simp
 |succ i z=>
  cases l with
  |nil=>simp[pack]
  |cons x r=>
   simp only[pack,List.drop_succ_cons];have A:x.toNat<256:=x.toNat_lt;have e:(x.toNat+256*pack r)/256=pack r:=by omega
   rw[Nl,qM (256^i) 256,←Nat.div_div_eq_div_mul,e,z]
theorem ZU(l:List UInt8)(n:Nat):pack l % 256^n=pack (l.take n):=by
 by_cases h:n≤l.length
 ·have z:pack l=pack (l.take n)+256^n*pack (l.drop n):=by
   have:=Y9 (l.take n) (l.drop n);rw[yn,ju,Nat.min_eq_left h] at this;exact this
  have h2:=abB (l.take n);rw[ju,Nat.min_eq_left h] at h2;rw[z,Nat.add_mul_mod_self_left,D3 h2]
 have h':l.length≤n:=by omega
 rw[pF h'];refine D3 (jh (abB l) ?_);exact Nat.pow_le_pow_right al h'
theorem VK(i:Nat):2^(8*i)=256^i:=by rw[Nat.pow_mul]
theorem aje(v i:Nat):Nat.shiftRight v (Nat.mul 8 i)=v/256^i:=by
 show v>>>(8*i)=_;rw[Nat.shiftRight_eq_div_pow,VK]
theorem Y'(l:List UInt8)(i:Nat)(h:i<l.length):Ac (pack l) i=(l[i]).toNat:=by
 unfold Ac;rw[aje,ZS];show pack (l.drop i) % 256=_;have z:=ZU (l.drop i) 1;rw[lm36] at z;have e:(l.drop i).take 1=[l[i]]:=by rw[vD h];rfl
 rw[e] at z;rw[z];show l[i].toNat+256*0=_;omega
theorem strSub_pack(l:List UInt8)(lo hi:Nat):R6 (pack l) lo hi=pack ((l.drop lo).take (hi-lo)):=by
 unfold R6;rw[aje,ZS,←ZU];show _ % (1<<<(8*(hi-lo)))=_;rw[Nat.shiftLeft_eq,Bc,VK]
theorem Za(a b:List UInt8):Gk a.length (pack a) (pack b)=pack (a++b):=by
 unfold Gk;rw[Y9];show pack a+(pack b)<<<(8*a.length)=_;rw[Nat.shiftLeft_eq,VK,qM]
theorem aaJ:∀{a b:List UInt8},a.length=b.length→pack a=pack b→a=b
 |[],[],_,_=>rfl
 |[],_::_,h,_=>by simp at h
 |_::_,[],h,_=>by simp at h
 |x::r,y::s,h,k=>by
  simp only[pack] at k;have G:x.toNat<256:=x.toNat_lt;have I:y.toNat<256:=y.toNat_lt;have z:x.toNat=y.toNat:=by omega
  have A:pack r=pack s:=by omega
  rw[aaJ (by simpa using h) A,UInt8.toNat_inj.1 z]
theorem Ki(a b:List UInt8):AJ a.length (pack a) b.length (pack b)=decide (a=b):=by
 unfold AJ;rw[ym,decide_eq_true_iff];constructor
 ·intro h
  split at h
  ·rename_i z;exact aaJ (cU z) (cU h)
  cases h
 rintro rfl;simp
theorem Zr:∀(a b:List UInt8),strLt a.length (pack a) b.length (pack b)=Op.bytesLess a b
 |[],[]=>rfl
 |[],_::_=>rfl
 |x::r,[]=>rfl
 |x::r,y::s=>by
  have O:x.toNat<256:=x.toNat_lt;have U:y.toNat<256:=y.toNat_lt;have z:Nat.mod (pack (x::r)) 256=x.toNat:=by show(x.toNat+256*pack r) % 256=_;omega
  have A:Nat.mod (pack (y::s)) 256=y.toNat:=by show(y.toNat+256*pack s) % 256=_;omega
  have G:Nat.div (pack (x::r)) 256=pack r:=by show(x.toNat+256*pack r)/256=_;omega
  have I:Nat.div (pack (y::s)) 256=pack s:=by show(y.toNat+256*pack s)/256=_;omega
  have step:strLt (x::r).length (pack (x::r)) (y::s).length (pack (y::s))=
    match Nat.beq (Nat.mod (pack (x::r)) 256) (Nat.mod (pack (y::s)) 256) with
    |true=>strLt r.length (Nat.div (pack (x::r)) 256) s.length (Nat.div (pack (y::s)) 256)
    |false=>Nat.ble (Nat.succ (Nat.mod (pack (x::r)) 256)) (Nat.mod (pack (y::s)) 256):=rfl
  rw[step,z,A,G,I,Zr r s];simp only[Op.bytesLess]
  by_cases h:x=y
  ·subst h;have:¬(x<x):=by rw[Iq];omega
   simp[this]
  have L:Nat.beq x.toNat y.toNat=false:=by
   rw[←O0,uh];exact fun e=>h (UInt8.toNat_inj.1 e)
  rw[L];have M:(x==y)=false:=by simpa using h
  simp only[M,Bool.false_and,Bool.or_false];rw[ym,Nat.ble_eq,decide_eq_true_iff,Iq];exact ga
end Go.Ev
