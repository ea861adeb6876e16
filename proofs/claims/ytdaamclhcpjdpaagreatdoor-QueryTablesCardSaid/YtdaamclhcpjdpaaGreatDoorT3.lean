/- Part 3 of rules for walks through the code of a program, and of such walks; what each part proves is said by its theorems. -/
import Derived.Test.YtdaamclhcpjdpaaGreatDoorT2
import Derived.IntWalk
import Derived.Deep.AppendSrc
import Derived.RowKit3
set_option linter.unusedVariables false
set_option linter.unusedSimpArgs false
noncomputable section
set_option maxRecDepth 100000
set_option maxHeartbeats 4000000
namespace Go.Ev
theorem et{β:Type}(k e:β):aD true k e=k:=rfl
theorem chk_false{β:Type}(k e:β):aD false k e=e:=rfl
theorem sT{β:Type}(b:Bool)(k e:β):aD b k e=if b=true then k else e:=by cases b<;>rfl
section
variable{v:ak}{H':ay}{n:Nat}
theorem eu{b:Bool}{k:aC}(h:aD b k (.err n)= .ok v H'):b=true∧k= .ok v H':=by
 cases b
 ·cases h
 exact⟨rfl,h⟩
theorem gS{α:Type}{o:Option α}{k:α→aC}(h:ob o (.err n) k= .ok v H'):∃x,o=some x∧k x= .ok v H':=by
 cases o with
 |none=>cases h
 |some x=>exact⟨x,rfl,h⟩
theorem eg{x:aI}{E:Env}{k:ak→aC}(h:bo x E (.err n) k= .ok v H'):∃a,x.ev E=some a∧k a= .ok v H':=by
 cases x with
 |t i=>exact gS h
 |c a=>exact⟨a,rfl,h⟩
theorem onBool_ok{a:ak}{k:Bool→aC}(h:uT a (.err n) k= .ok v H'):∃b,a= .bool b∧k b= .ok v H':=by
 cases a<;>first|cases h;done|exact⟨_,rfl,h⟩
theorem xd{a:ak}{k:IntKind→Int→aC}(h:fq a (.err n) k= .ok v H'):∃b i,a= .int b i∧k b i= .ok v H':=by
 cases a<;>first|cases h;done|exact⟨_,_,rfl,h⟩
theorem FW{a:ak}{k:Nat→Nat→aC}(h:jQ a (.err n) k= .ok v H'):∃l s,a= .str l s∧k l s= .ok v H':=by
 cases a<;>first|cases h;done|exact⟨_,_,rfl,h⟩
theorem Ap{a:ak}{k:Nat→Nat→Nat→aC}(h:gw a (.err n) k= .ok v H'):∃f g o,a= .ptr f g o∧k f g o= .ok v H':=by
 cases a<;>first|cases h;done|exact⟨_,_,_,rfl,h⟩
theorem wS{a:ak}{e:aC}{k:Nat→Nat→Nat→Nat→Nat→aC}(h:eT a (.err n) e k= .ok v H'):
  (a= .fL∧e= .ok v H')∨∃f g o l es,a= .slice f g o l es∧k f g o l es= .ok v H':=by
 cases a<;>first|cases h;done|exact .inr ⟨_,_,_,_,_,rfl,h⟩|exact .inl ⟨rfl,h⟩
theorem aab{a:ak}{k:List ak→aC}(h:mh a (.err n) k= .ok v H'):∃l,a= .agg l∧k l= .ok v H':=by
 cases a<;>first|cases h;done|exact⟨_,rfl,h⟩
theorem onTuple_ok{a:ak}{k:List ak→aC}(h:uJ a (.err n) k= .ok v H'):∃l,a= .tuple l∧k l= .ok v H':=by
 cases a<;>first|cases h;done|exact⟨_,rfl,h⟩
theorem onFunc_ok{a:ak}{k:Nat→List ak→List ak→aC}(h:AG a (.err n) k= .ok v H'):∃f fs l,a= .func f fs l∧k f fs l= .ok v H':=by
 cases a<;>first|cases h;done|exact⟨_,_,_,rfl,h⟩
theorem CU{i:Int}{k:Nat→aC}(h:gR i (.err n) k= .ok v H'):∃m:Nat,i=(m:Int)∧k m= .ok v H':=by
 cases i with
 |ofNat m=>exact⟨m,rfl,h⟩
 |negSucc m=>cases h
theorem oL(l:List ak):gz l=l.length:=by
 induction l with
 |nil=>rfl
 |cons a r z=>show Nat.succ (gz r)=_;rw[z];rfl
theorem LJ{a:ak}{m:Nat}{k:Nat→aC}(h:idx a m (.err n) k= .ok v H'):∃z i,a= .int z (i:Nat)∧i<m∧k i= .ok v H':=by
 obtain⟨z,i,rfl,h⟩:=xd h;obtain⟨j,rfl,h⟩:=CU h;obtain⟨A,h⟩:=eu h;exact⟨z,j,rfl,aV A,h⟩
theorem adj{E:Env}{x:Option aI}{d y:Nat}{k:Nat→aC}(h:er E x d y (.err n) k= .ok v H'):
  (x=none∧k d= .ok v H')∨∃z A i,x=some z∧z.ev E=some (.int A (i:Nat))∧i≤y∧k i= .ok v H':=by
 cases x with
 |none=>exact .inl ⟨rfl,h⟩
 |some z=>
  obtain⟨a,G,h⟩:=gS h;obtain⟨A,i,rfl,h⟩:=xd h;obtain⟨j,rfl,h⟩:=CU h;obtain⟨I,h⟩:=eu h;exact .inr ⟨z,A,j,rfl,G,aV I,h⟩
theorem aac{o:Option cV}{k:Nat→Nat→Nat→Nat→Nat→Nat→RT→aC}(h:iT o (.err n) k= .ok v H'):
  ∃elem es aE m lo fl cs,o=some (.row elem es aE m lo fl cs)∧k elem es aE m lo fl cs= .ok v H':=by
 cases o with
 |none=>cases h
 |some o=>cases o with
  |row=>exact⟨_,_,_,_,_,_,_,rfl,h⟩
  |map=>cases h
theorem QT{agg:Bool}{l:List ak}{k:ak→aC}(h:fN agg l (.err n) k= .ok v H'):
  (agg=true∧k (.agg l)= .ok v H')∨∃x,agg=false∧l=[x]∧k x= .ok v H':=by
 cases agg with
 |true=>exact .inl ⟨rfl,h⟩
 |false=>
  cases l with
  |nil=>cases h
  |cons x r=>cases r with
   |nil=>exact .inr ⟨x,rfl,rfl,h⟩
   |cons y s=>cases h
theorem CV{H:ay}{o:cV}{k:Nat→ay→aC}(h:H.alloc o k= .ok v H'):k H.next ⟨H.next+1,H.aQ,H.ws,H.t.set H.next o⟩= .ok v H':=by
 cases H with
 |mk next aQ ws t=>
  have h':cL next (fun f=>t.fr f o fun t=>k f ⟨Nat.succ f,aQ,ws,t⟩)= .ok v H':=h;rw[fQ,GT.jc] at h';exact h'
end
theorem LK(m n:Nat):uh m n=(m:Int) -(n:Int):=by
 unfold uh
 cases h:Nat.ble n m
 ·have:¬n≤m:=fun e=>by rw[gW e] at h;cases h
  show Int.negSucc (n-m-1)=_;rw[kG];omega
 have:n≤m:=aV h;show Int.ofNat (m-n)=_;rw[fW];omega
theorem addI_eq(x y:Int):aip x y=x+y:=by
 cases x with
 |ofNat m=>cases y with
  |ofNat n=>rfl
  |negSucc n=>show uh m (n+1)=_;rw[LK,kG,fW];omega
 |negSucc m=>cases y with
  |ofNat n=>show uh n (m+1)=_;rw[LK,kG,fW];omega
  |negSucc n=>show Int.negSucc (m+n+1)=_;rw[kG,kG,kG];omega
theorem subI_eq(x y:Int):aiq x y=x-y:=by
 cases x with
 |ofNat m=>cases y with
  |ofNat n=>show uh m n=_;rw[LK];rfl
  |negSucc n=>show Int.ofNat (m+(n+1))=_;rw[kG,fW,fW];omega
 |negSucc m=>cases y with
  |ofNat n=>show Int.negSucc (m+n)=_;rw[kG,kG,fW];omega
  |negSucc n=>show uh n m=_;rw[LK,kG,kG];omega
theorem LL(x y:Int):JM x y=fA x y:=by cases x<;>cases y<;>rfl
theorem adk(x y:Int):W6 x y=kX x y:=by cases x<;>cases y<;>rfl
theorem w64_eq(n:Int):w64 n=IntKind.wrap .i64 n:=by
 cases n with
 |ofNat m=>
  show Bool.rec (motive:=fun _=>Int) (IntKind.wrap .i64 (.ofNat m)) (.ofNat m) (Nat.ble m 9223372036854775807)=_
  cases h:Nat.ble m 9223372036854775807
  ·rfl
  have:=aV h;exact(IntWalk.i64_in (Int.ofNat m) (by simp only[fW];omega)).symm
 |negSucc m=>
  show Bool.rec (motive:=fun _=>Int) (IntKind.wrap .i64 (.negSucc m)) (.negSucc m) (Nat.ble m 9223372036854775807)=_
  cases h:Nat.ble m 9223372036854775807
  ·rfl
  have:=aV h;exact(IntWalk.i64_in (Int.negSucc m) (by rw[kG];omega)).symm
theorem MJ(mx:Nat)(k:IntKind)(z:∀n:Int,0≤n∧n≤mx→k.wrap n=n)(n:Int):wU mx k n=IntKind.wrap k n:=by
 cases n with
 |ofNat m=>
  show Bool.rec (motive:=fun _=>Int) (IntKind.wrap k (.ofNat m)) (.ofNat m) (Nat.ble m mx)=_
  cases h:Nat.ble m mx
  ·rfl
  have:=aV h;exact(z (Int.ofNat m) (by simp only[fW];omega)).symm
 |negSucc m=>rfl
theorem wrapQ_eq(k:IntKind)(n:Int):TU k n=k.wrap n:=by
 cases k with
 |i8=>rfl
 |i16=>rfl
 |i32=>rfl
 |i64=>exact w64_eq n
 |u8=>exact MJ _ _ IntWalk.u8_in n
 |u16=>exact MJ _ _ IntWalk.u16_in n
 |u32=>exact MJ _ _ IntWalk.u32_in n
 |u64=>exact MJ _ _ IntWalk.u64_in n
theorem nD(k:IntKind)(n:Int):lA k n=k.wrap n:=by
 unfold lA
 split
 ·rename_i m
  split
  ·rename_i h;have h:=aV h;exact(IntWalk.i64_in (Int.ofNat m) (by simp only[fW];omega)).symm
  rfl
 ·rename_i m
  split
  ·rename_i h;have h:=aV h;exact(IntWalk.i64_in (Int.negSucc m) (by rw[kG];omega)).symm
  rfl
 rfl
theorem Zp{f:Int→Int→Int}{op:BinOp}(h:∀k a G b,ga op k a G b=aD (Nat.beq (cG k) (cG G)) (some (.int k (lA k (f a b)))) none)(a b:ak)(k:ak→aC):RQ f op a b k=mV op a b k:=by
 cases a<;>try rfl
 cases b<;>try rfl
 rename_i z x A y;show aD (Nat.beq (cG z) (cG A)) (lq (TU z (f x y)) fun r=>k (.int z r)) (.err 6)=ob (ga op z x A y) (.err 6) fun v=>me v k
 rw[h,wV,wrapQ_eq,←nD]
 cases Nat.beq (cG z) (cG A)
 ·rfl
 exact(wW (.int z (lA z (f x y))) k).symm
theorem C3{f:Int→Int→Bool}{op:BinOp}(h:∀k a G b,ga op k a G b=aD (Nat.beq (cG k) (cG G)) (some (.bool (f a b))) none)(a b:ak)(k:ak→aC):BK f op a b k=mV op a b k:=by
 cases a<;>try rfl
 cases b<;>try rfl
 rename_i A x z y;show aD (Nat.beq (cG A) (cG z)) (nG (f x y) fun r=>k (.bool r)) (.err 6)=ob (ga op A x z y) (.err 6) fun v=>me v k
 rw[h]
 cases Nat.beq (cG A) (cG z)
 ·rfl
 refine Eq.trans ?_ (wW (.bool (f x y)) k).symm;show nG (f x y) (fun r=>k (.bool r))=_
 cases f x y<;>rfl
theorem K3(op:BinOp)(a b:ak)(k:ak→aC):Ez op a b k=ob (BJ op a b) (.err 6) fun v=>me v k:=by
 cases op with
 |add=>exact Zp (fun k a z b=>by rw[addI_eq];rfl) a b k
 |sub=>exact Zp (fun k a z b=>by rw[subI_eq];rfl) a b k
 |eql=>exact C3 (fun k a z b=>by rw[adk];rfl) a b k
 |neq=>exact C3 (fun k a z b=>by unfold neI;rw[adk];rfl) a b k
 |lss=>exact C3 (fun k a z b=>by rw[LL];rfl) a b k
 |leq=>exact C3 (fun k a z b=>by unfold leI;rw[LL];rfl) a b k
 |gtr=>exact C3 (fun k a z b=>by unfold gtI;rw[LL];rfl) a b k
 |geq=>exact C3 (fun k a z b=>by unfold geI;rw[LL];rfl) a b k
 |mul=>rfl
 |quo=>rfl
 |rem=>rfl
 |and=>rfl
 |or=>rfl
 |xor=>rfl
 |shl=>rfl
 |shr=>rfl
 |andNot=>rfl
structure Vx(H:ay)(f g off n:Nat)(l:List ak):Prop where
 ex:∃elem es aE m lo fl cs x,H.t.get f=some (.row elem es aE m lo fl cs)∧lo≤g∧g≤m∧off % es+n≤es∧off/es<g∧cs.get (off/es)=some x∧
  ((l=x∧n=es)∨l=(x.drop (off % es)).take n)
theorem T0{β:Type}{H:ay}{f g off n:Nat}{e:β}{k:List ak→β}{r:β}(h:rd H f g off n e k=r)(z:e≠r):∃l,Vx H f g off n l∧k l=r:=by
 unfold rd at h
 cases ho:H.t.get f with
 |none=>rw[ho] at h;exact absurd h z
 |some o=>
  rw[ho] at h
  cases o with
  |map=>exact absurd h z
  |row elem es aE m lo fl cs=>
   simp only[iT,sT] at h
   split at h
   ·rename_i O
    split at h
    ·rename_i h2
     split at h
     ·rename_i U
      split at h
      ·rename_i Y
       cases A:cs.get (Nat.div off es) with
       |none=>rw[A] at h;exact absurd h z
       |some x=>
        rw[A] at h;simp only[ob] at h;have G:=aV O;have I:=aV h2;have L:=aV U;have M:=aV Y
        split at h
        ·rename_i Z;exact⟨x,⟨_,_,_,_,_,_,_,x,ho,G,I,L,M,A,.inl ⟨rfl,cD Z⟩⟩,h⟩
        exact⟨_,⟨_,_,_,_,_,_,_,x,ho,G,I,L,M,A,.inr rfl⟩,h⟩
      exact absurd h z
     exact absurd h z
    exact absurd h z
   exact absurd h z
theorem Qm(f:Nat)(l:List Nat):qy f l=true↔f∈l:=by
 induction l with
 |nil=>simp[qy]
 |cons x r z=>
  show aD (Nat.beq f x) true (qy f r)=true↔_;rw[sT]
  by_cases h:f=x
  ·simp[h]
  have:¬(Nat.beq f x=true):=by simpa[uf] using h
  simp[h,this,z]
theorem Ah(f aQ:Nat)(ws:List Nat)(x:Nat):x∈wrote f aQ ws↔x∈ws∨(x=f∧f<aQ):=by
 unfold wrote;rw[sT,sT]
 by_cases h:aQ≤f
 ·rw[bj (gW h)];constructor
  ·exact .inl
  rintro(z|⟨_,z⟩)
  ·exact z
  omega
 have G:¬(Nat.ble aQ f=true):=by simpa using h
 rw[aZ G]
 by_cases A:qy f ws=true
 ·rw[bj A];rw[Qm] at A;constructor
  ·exact .inl
  rintro(z|⟨rfl,_⟩)
  ·exact z
  exact A
 rw[aZ A];simp only[rJ];constructor
 ·rintro(rfl|z)
  ·exact .inr ⟨rfl,aq⟩
  exact .inl z
 rintro(z|⟨rfl,_⟩)
 ·exact .inr z
 exact .inl rfl
structure air(H:ay)(f g off n:Nat)(new:List ak)(H':ay):Prop where
 ex:∃elem es aE lo cs x,H.t.get f=some (.row elem es aE g lo 0 cs)∧lo≤g∧off % es+n≤es∧off/es<g∧new.length=n∧cs.get (off/es)=some x∧
  H'=⟨H.next,H.aQ,wrote f H.aQ H.ws,H.t.set f (.row elem es aE g g 0 (cs.set (off/es) (if n=es then new else eE x (off % es) new)))⟩
theorem Bj{H:ay}{f g off n m:Nat}{new:List ak}{k:ay→aC}{v:ak}{H':ay}(h:wr H f g off n new (.err m) k= .ok v H'):∃H1,air H f g off n new H1∧k H1= .ok v H':=by
 cases H with
 |mk next aQ ws t=>
  have h:=aac h;obtain⟨elem,es,aE,mm,lo,fl,cs,ho,h⟩:=h;obtain⟨z,h⟩:=eu h;obtain⟨h2,h⟩:=eu h;obtain⟨I,h⟩:=eu h;obtain⟨L,h⟩:=eu h;obtain⟨M,h⟩:=eu h;obtain⟨O,h⟩:=eu h;obtain⟨x,U,A⟩:=gS h;rw[RT.jc,GT.jc] at A;have Y:=cD z;have Z:=cD h2;have G:=cD O;rw[oL] at G;clear h z h2;subst Y Z;refine⟨_,⟨elem,es,aE,lo,cs,x,ho,aV I,aV L,aV M,G,U,?_⟩,A⟩;rw[sT];simp only[uf];rfl
structure eH(H H':ay):Prop where
 next:H.next≤H'.next
 aQ:H'.aQ=H.aQ
 ws:∀f,f∈H.ws→f∈H'.ws
 same:∀f,f<H.aQ→f∉H'.ws→H'.t.get f=H.t.get f
 wf:(∀f,H.next≤f→H.t.get f=none)→∀f,H'.next≤f→H'.t.get f=none
 gg:∀f,H.t.get f≠none→H'.t.get f≠none
theorem eH.refl(H:ay):eH H H:=⟨bt _,rfl,fun _ h=>h,fun _ _ _=>rfl,fun h=>h,fun _ h=>h⟩
theorem eH.trans{A B C:ay}(h:eH A B)(k:eH B C):eH A C:=
 ⟨eZ h.next k.next,k.aQ.trans h.aQ,fun f z=>k.ws f (h.ws f z),fun f z G=>(k.same f (h.aQ▸z) G).trans (h.same f z fun e=>G (k.ws f e)),fun x=>k.wf (h.wf x),fun f x=>k.gg f (h.gg f x)⟩
theorem eH.alloc{H:ay}(o:cV)(A:H.aQ≤H.next):eH H ⟨H.next+1,H.aQ,H.ws,H.t.set H.next o⟩:=
 ⟨BE _,rfl,fun _ h=>h,fun f z _=>by show(H.t.set H.next o).get f=_;rw[GT.dn,aZ aq],
  fun h f z=>by
  have z:H.next+1≤f:=z;show(H.t.set H.next o).get f=none;rw[GT.dn,aZ aq];exact h f aq,
  fun f z=>by
  show(H.t.set H.next o).get f≠none;rw[GT.dn]
  split
  ·simp
  exact z⟩
theorem eH.write{H:ay}(f:Nat)(o:cV){A:cV}(h0:H.t.get f=some A):eH H ⟨H.next,H.aQ,wrote f H.aQ H.ws,H.t.set f o⟩:=
 ⟨bt _,rfl,fun x z=>(Ah _ _ _ _).2 (.inl z),fun x z G=>by
  show(H.t.set f o).get x=_;rw[GT.dn]
  split
  ·rename_i e;subst e;exact absurd ((Ah _ _ _ _).2 (.inr ⟨rfl,z⟩)) G
  ·rfl,fun h x z=>by
  have z:H.next≤x:=z;show(H.t.set f o).get x=none;rw[GT.dn]
  split
  ·rename_i e;subst e;rw[h x z] at h0;cases h0
  ·exact h x z,fun x z=>by
  show(H.t.set f o).get x≠none;rw[GT.dn]
  split
  ·simp
  exact z⟩
def TM(H:ay)(r:aC):Prop:=∀v H',r= .ok v H'→eH H H'
theorem TM.err{H:ay}{n:Nat}:TM H (.err n):=fun _ _ h=>by cases h
theorem TM.ok{H:ay}{v:ak}:TM H (.ok v H):=fun _ _ h=>by cases h;exact eH.refl _
theorem TM.aD{H:ay}{b:Bool}{k e:aC}(h:TM H k)(h':TM H e):TM H (aD b k e):=by cases b;exact h';exact h
theorem TM.ob{H:ay}{α:Type}{o:Option α}{e:aC}{k:α→aC}(h:∀x,TM H (k x))(h':TM H e):TM H (ob o e k):=by cases o;exact h';exact h _
theorem TM.bo{H:ay}{x:aI}{E:Env}{e:aC}{k:ak→aC}(h:∀x,TM H (k x))(h':TM H e):TM H (bo x E e k):=by
 cases x with
 |t i=>exact TM.ob (o:=E.get i) h h'
 |c a=>exact h a
theorem TM.uT{H:ay}{a:ak}{e:aC}{k:Bool→aC}(h:∀x,TM H (k x))(h':TM H e):TM H (uT a e k):=by cases a<;>first|exact h'|exact h _
theorem TM.fq{H:ay}{a:ak}{e:aC}{k:IntKind→Int→aC}(h:∀x y,TM H (k x y))(h':TM H e):TM H (fq a e k):=by cases a<;>first|exact h'|exact h _ _
theorem TM.jQ{H:ay}{a:ak}{e:aC}{k:Nat→Nat→aC}(h:∀x y,TM H (k x y))(h':TM H e):TM H (jQ a e k):=by cases a<;>first|exact h'|exact h _ _
theorem TM.gw{H:ay}{a:ak}{e:aC}{k:Nat→Nat→Nat→aC}(h:∀x y z,TM H (k x y z))(h':TM H e):TM H (gw a e k):=by cases a<;>first|exact h'|exact h _ _ _
theorem TM.eT{H:ay}{a:ak}{e A:aC}{k:Nat→Nat→Nat→Nat→Nat→aC}(h:∀x y z u w,TM H (k x y z u w))(h2:TM H A)(h':TM H e):TM H (eT a e A k):=by cases a<;>first|exact h'|exact h2|exact h _ _ _ _ _
theorem TM.mh{H:ay}{a:ak}{e:aC}{k:List ak→aC}(h:∀x,TM H (k x))(h':TM H e):TM H (mh a e k):=by cases a<;>first|exact h'|exact h _
theorem TM.uJ{H:ay}{a:ak}{e:aC}{k:List ak→aC}(h:∀x,TM H (k x))(h':TM H e):TM H (uJ a e k):=by cases a<;>first|exact h'|exact h _
theorem TM.AG{H:ay}{a:ak}{e:aC}{k:Nat→List ak→List ak→aC}(h:∀x y z,TM H (k x y z))(h':TM H e):TM H (AG a e k):=by cases a<;>first|exact h'|exact h _ _ _
theorem TM.gR{H:ay}{i:Int}{e:aC}{k:Nat→aC}(h:∀x,TM H (k x))(h':TM H e):TM H (gR i e k):=by cases i;exact h _;exact h'
theorem TM.idx{H:ay}{a:ak}{n:Nat}{e:aC}{k:Nat→aC}(h:∀x,TM H (k x))(h':TM H e):TM H (idx a n e k):=TM.fq (fun _ _=>TM.gR (fun _=>TM.aD (h _) h') h') h'
theorem TM.er{H:ay}{E:Env}{x:Option aI}{d y:Nat}{e:aC}{k:Nat→aC}(h:∀x,TM H (k x))(h':TM H e):TM H (er E x d y e k):=by
 cases x with
 |none=>exact h _
 |some z=>exact TM.ob (fun _=>TM.fq (fun _ _=>TM.gR (fun _=>TM.aD (h _) h') h') h') h'
theorem TM.iT{H:ay}{o:Option cV}{e:aC}{k:Nat→Nat→Nat→Nat→Nat→Nat→RT→aC}(h:∀a b c d e f g,TM H (k a b c d e f g))(h':TM H e):TM H (iT o e k):=by
 cases o with
 |none=>exact h'
 |some o=>cases o with
  |row=>exact h _ _ _ _ _ _ _
  |map=>exact h'
theorem TM.fN{H:ay}{agg:Bool}{l:List ak}{e:aC}{k:ak→aC}(h:∀x,TM H (k x))(h':TM H e):TM H (fN agg l e k):=by
 refine TM.aD (h _) ?_
 cases l with
 |nil=>exact h'
 |cons x r=>cases r with
  |nil=>exact h _
  |cons=>exact h'
theorem TM.cL{H:ay}{n:Nat}{k:Nat→aC}(h:∀x,TM H (k x)):TM H (cL n k):=by rw[fQ];exact h _
theorem TM.lq{H:ay}{n:Int}{k:Int→aC}(h:∀x,TM H (k x)):TM H (lq n k):=by rw[wV];exact h _
theorem TM.me{H:ay}{n:ak}{k:ak→aC}(h:∀x,TM H (k x)):TM H (me n k):=by rw[wW];exact h _
theorem TM.nG{H:ay}{n:Bool}{k:Bool→aC}(h:∀x,TM H (k x)):TM H (nG n k):=by cases n<;>exact h _
theorem TM.Ez{H:ay}{op:BinOp}{a b:ak}:TM H (Ez op a b fun v=>.ok v H):=by rw[K3];exact TM.ob (fun _=>TM.me fun _=>TM.ok) TM.err
theorem TM.BN{H:ay}{t:HT}{n:Nat}{o:cV}{k:HT→aC}(h:TM H (k (t.set n o))):TM H (t.fr n o k):=by rw[GT.jc];exact h
theorem TM.fill{H:ay}{l:List (List ak)}{t:RT}{i:Nat}{k:RT→aC}(h:TM H (k (gb l t i))):TM H (vm l t i k):=by rw[Ao];exact h
theorem TM.rep{H:ay}{x:List ak}{n:Nat}{k:RT→aC}(h:TM H (k (nR x n))):TM H (BL x n k):=by rw[KY];exact h
theorem TM.alloc{H:ay}{o:cV}{k:Nat→ay→aC}(G:H.aQ≤H.next)(I:∀f z,∃v,k f z= .ok v z):TM H (H.alloc o k):=fun x H' h=>by
 have A:=CV h;obtain⟨v,L⟩:=I H.next ⟨H.next+1,H.aQ,H.ws,H.t.set H.next o⟩;rw[L] at A;cases A;exact eH.alloc o G
theorem TM.rd{H:ay}{f g off n:Nat}{e:aC}{k:List ak→aC}(h:∀x,TM H (k x))(h':TM H e):TM H (rd H f g off n e k):=
 TM.iT (fun _ _ _ _ _ _ _=>TM.aD (TM.aD (TM.aD (TM.aD (TM.ob (fun _=>TM.aD (h _) (h _)) h') h') h') h') h') h'
theorem TM.wrK{H:ay}{f g off n m:Nat}{new:List ak}{k:ay→aC}(A:∀z,∃v,k z= .ok v z):TM H (wr H f g off n new (.err m) k):=fun x H' h=>by
 obtain⟨H1,⟨_,_,_,_,_,_,G,_,_,_,_,_,e⟩,h⟩:=Bj h;obtain⟨v,I⟩:=A H1;rw[I] at h
 cases h
 subst e;exact eH.write f _ G
theorem TM.iJ{H:ay}{elem es aE n:Nat}{new:List (List ak)}{x:ak}(z:H.aQ≤H.next):TM H (iJ elem es aE n new H x):=by
 cases n with
 |zero=>exact TM.eT (fun _ _ _ _ _=>TM.ok) TM.ok TM.err
 |succ n=>
  refine TM.eT (fun f g off G cY=>?_) (TM.aD (TM.fill (TM.alloc z (fun _ _=>⟨_,rfl⟩))) TM.err) TM.err;refine TM.aD ?_ (TM.aD (TM.aD (TM.aD (TM.aD ?_ TM.err) TM.err) TM.err) TM.err)
  rotate_left
  ·cases new with
   |nil=>exact TM.err
   |cons row r=>exact TM.wrK (fun _=>⟨_,rfl⟩)
  cases H with
  |mk next aQ ws t=>
   show TM _ (Ev.iT (t.get f) _ _)
   cases A:t.get f with
   |none=>exact TM.err
   |some ob=>cases ob with
    |map=>exact TM.err
    |row I L M O U Y Z=>
   refine TM.aD (TM.aD (TM.aD (TM.aD (TM.aD (TM.aD (TM.aD TM.err (TM.aD (TM.aD (TM.cL fun _=>TM.fill (TM.BN ?_)) TM.err) TM.err)) TM.err) TM.err) TM.err) TM.err) TM.err) TM.err;exact fun v H' h=>by cases h;exact eH.write (H:=⟨next,aQ,ws,t⟩) f _ A
theorem TM.wr{H:ay}{f g off n:Nat}{new:List ak}{v:ak}:TM H (wr H f g off n new (.err 5) fun H=>.ok v H):=fun x H' h=>by
 obtain⟨H1,⟨_,_,_,_,_,_,z,_,_,_,_,_,e⟩,h⟩:=Bj h
 cases h
 subst e;exact eH.write f _ z
theorem TM.clr{f g es:Nat}{z:List ak}:∀{n off:Nat}{H:ay},TM H (BM f g es z n off H)
 |0,_,_=>TM.ok
 |n+1,off,H=>fun x H' h=>by
  have h:Go.Ev.wr H f g off es z (aC.err 28) (fun H=>Go.Ev.cL (Nat.add off es) fun off=>BM f g es z n off H)=aC.ok x H':=h;obtain⟨H1,⟨_,_,_,_,_,_,A,_,_,_,_,_,e⟩,h⟩:=Bj h;rw[fQ] at h;have h2:=TM.clr (n:=n) x H' h;subst e;exact(eH.write f _ A).trans h2
theorem TM.pb{H:ay}{a b c:Nat}{d:List ak}{E:Env}(z:H.aQ≤H.next):TM H (Bf a b c d E H):=
 TM.alloc (o:=.row a b c 1 1 0 (.one d)) (k:=fun f H=>.ok (.ptr f 1 0) H) z (fun _ _=>⟨_,rfl⟩)
theorem TM.jZ{H:ay}{f e:Nat}{v:ak}:TM H (jZ f e H fun H=>.ok v H):=by
 cases H with
 |mk next aQ ws t=>
  show TM _ (Ev.iT (t.get f) _ _)
  cases z:t.get f with
  |none=>exact TM.err
  |some ob=>cases ob with
   |map=>exact TM.err
   |row A G I L M O U=>
   refine TM.aD (TM.aD (TM.aD (TM.BN ?_) TM.err) TM.err) TM.err;exact fun v H' h=>by cases h;exact eH.write (H:=⟨next,aQ,ws,t⟩) f _ z
theorem TM.ins{call:dG}{H:ay}(z:H.aQ≤H.next)(A:∀f a,TM H (call f a H))(E:Env)(o:bm):TM H (o.ev call E H):=by
 cases o with
 |cj x=>exact TM.bo (fun _=>TM.ok) TM.err
 |pick c a b=>exact TM.bo (fun _=>TM.uT (fun _=>TM.aD (TM.bo (fun _=>TM.ok) TM.err) (TM.bo (fun _=>TM.ok) TM.err)) TM.err) TM.err
 |pb a b c d=>exact TM.pb (E:=E) z
 |box a b c d=>exact TM.bo (fun _=>TM.ob (fun _=>TM.aD (TM.pb (E:=E) z) TM.err) TM.err) TM.err
 |load a b c=>exact TM.bo (fun _=>TM.gw (fun _ _ _=>TM.rd (fun _=>TM.fN (fun _=>TM.ok) TM.err) TM.err) TM.err) TM.err
 |store a b c=>exact TM.bo (fun _=>TM.gw (fun _ _ _=>TM.bo (fun _=>TM.ob (fun _=>TM.wr) TM.err) TM.err) TM.err) TM.err
 |bin op x y=>exact TM.bo (fun _=>TM.bo (fun _=>TM.Ez) TM.err) TM.err
 |eqv c n x y=>exact TM.bo (fun _=>TM.bo (fun _=>TM.ob (fun _=>TM.nG fun _=>TM.ok) TM.err) TM.err) TM.err
 |un op x=>exact TM.bo (fun _=>TM.ob (fun _=>TM.me fun _=>TM.ok) TM.err) TM.err
 |dM x k=>exact TM.bo (fun _=>TM.gw (fun _ _ _=>TM.cL fun _=>TM.ok) TM.err) TM.err
 |sub x a b c=>exact TM.bo (fun _=>TM.mh (fun _=>TM.aD (TM.fN (fun _=>TM.ok) TM.err) TM.err) TM.err) TM.err
 |AF a b x i=>exact TM.bo (fun _=>TM.gw (fun _ _ _=>TM.bo (fun _=>TM.idx (fun _=>TM.cL fun _=>TM.ok) TM.err) TM.err) TM.err) TM.err
 |gQ a x i=>exact TM.bo (fun _=>TM.eT (fun _ _ _ _ _=>TM.bo (fun _=>TM.idx (fun _=>TM.cL fun _=>TM.ok) TM.err) TM.err) TM.err TM.err) TM.err
 |Di a b c x i=>exact TM.bo (fun _=>TM.mh (fun _=>TM.bo (fun _=>TM.idx (fun _=>TM.aD (TM.fN (fun _=>TM.ok) TM.err) TM.err) TM.err) TM.err) TM.err) TM.err
 |Dj x i=>exact TM.bo (fun _=>TM.jQ (fun _ _=>TM.bo (fun _=>TM.idx (fun _=>TM.cL fun _=>TM.ok) TM.err) TM.err) TM.err) TM.err
 |HG x a b=>exact TM.bo (fun _=>TM.jQ (fun _ _=>TM.er (fun _=>TM.er (fun _=>TM.cL fun _=>TM.cL fun _=>TM.ok) TM.err) TM.err) TM.err) TM.err
 |yN n x a b=>exact TM.bo (fun _=>TM.eT (fun _ _ _ _ _=>TM.aD (TM.er (fun _=>TM.er (fun _=>TM.cL fun _=>TM.cL fun _=>TM.ok) TM.err) TM.err) TM.err) (TM.er (fun _=>TM.er (fun _=>TM.ok) TM.err) TM.err) TM.err) TM.err
 |JK n x a b c=>exact TM.bo (fun _=>TM.eT (fun _ _ _ _ _=>TM.aD (TM.er (fun _=>TM.aD (TM.er (fun _=>TM.er (fun _=>TM.cL fun _=>TM.cL fun _=>TM.ok) TM.err) TM.err) TM.err) TM.err) TM.err) TM.err TM.err) TM.err
 |vI x i=>exact TM.bo (fun _=>TM.uJ (fun _=>TM.ob (fun _=>TM.ok) TM.err) TM.err) TM.err
 |rB x=>exact TM.bo (fun _=>TM.aD TM.ok TM.err) TM.err
 |yO f fs l=>exact TM.ob (fun _=>TM.ob (fun _=>TM.ok) TM.err) TM.err
 |yP t x=>exact TM.bo (fun _=>TM.ok) TM.err
 |vJ a b c d e f=>exact TM.bo (fun _=>TM.fq (fun _ _=>TM.gR (fun _=>TM.bo (fun _=>TM.fq (fun _ _=>TM.gR (fun _=>TM.aD (TM.aD (TM.aD (TM.rep (TM.alloc z (fun _ _=>⟨_,rfl⟩))) TM.err) TM.err) TM.err) TM.err) TM.err) TM.err) TM.err) TM.err) TM.err
 |build a b=>exact TM.ob (fun _=>TM.ok) TM.err
 |sM a b c d e f=>exact TM.ob (fun _=>TM.alloc z (fun _ _=>⟨_,rfl⟩)) TM.err
 |len x=>exact TM.bo (fun _=>TM.eT (fun _ _ _ _ _=>TM.ok) TM.ok TM.err) TM.err
 |IQ n=>exact TM.ok
 |tQ x=>exact TM.bo (fun _=>TM.jQ (fun _ _=>TM.ok) TM.err) TM.err
 |app a b c x y=>exact TM.bo (fun _=>TM.bo (fun _=>TM.eT (fun _ _ _ _ _=>TM.ob (fun _=>TM.iJ z) TM.err) (TM.iJ z) TM.err) TM.err) TM.err
 |xn a x y=>exact TM.bo (fun _=>TM.bo (fun _=>TM.jQ (fun _ _=>TM.iJ z) TM.err) TM.err) TM.err
 |copy a b c=>exact TM.bo (fun _=>TM.eT (fun _ _ _ _ _=>TM.bo (fun _=>TM.mh (fun _=>TM.aD (TM.aD TM.clr TM.err) TM.err) TM.err) TM.err) TM.ok TM.err) TM.err
 |xo a b c=>exact TM.bo (fun _=>TM.fq (fun _ _=>TM.ob (fun _=>TM.ob (fun _=>TM.ok) TM.err) TM.err) TM.err) TM.err
 |conv k x=>exact TM.bo (fun _=>TM.fq (fun _ _=>TM.lq fun _=>TM.ok) TM.err) TM.err
 |LF x=>exact TM.bo (fun _=>TM.ok) TM.err
 |Dk e x=>exact TM.bo (fun _=>TM.jQ (fun _ _=>TM.aD (TM.fill (TM.alloc z (fun _ _=>⟨_,rfl⟩))) TM.err) TM.err) TM.err
 |xp x=>exact TM.bo (fun _=>TM.eT (fun _ _ _ _ _=>TM.ob (fun _=>TM.ob (fun _=>TM.cL fun _=>TM.ok) TM.err) TM.err) TM.ok TM.err) TM.err
 |call f l=>exact TM.ob (fun _=>A _ _) TM.err
 |xR x l=>exact TM.bo (fun _=>TM.AG (fun _ _ _=>TM.ob (fun _=>A _ _) TM.err) TM.err) TM.err
 |xS t n x=>exact TM.bo (fun _=>TM.aD TM.ok (TM.gw (fun _ _ _=>TM.iT (fun _ _ _ _ _ _ _=>TM.aD (TM.aD (TM.aD (TM.aD (TM.aD (TM.aD (TM.aD TM.ok TM.err) TM.err) TM.err) TM.err) TM.err) TM.err) TM.err) TM.err) TM.err)) TM.err
 |JL x=>exact TM.bo (fun _=>TM.eT (fun _ _ _ _ _=>TM.aD TM.err TM.ok) TM.ok TM.err) TM.err
 |yQ e x n=>exact TM.bo (fun _=>TM.aD (TM.bo (fun _=>TM.fq (fun _ _=>TM.gR (fun _=>TM.aD (TM.aD TM.ok TM.err) TM.err) TM.err) TM.err) TM.err) (TM.gw (fun _ _ _=>TM.bo (fun _=>TM.fq (fun _ _=>TM.gR (fun _=>TM.aD (TM.aD (TM.aD (TM.aD (TM.ob (fun _=>TM.ob (fun _=>TM.cL fun _=>TM.jZ) TM.err) TM.err) TM.err) TM.err) TM.err) TM.err) TM.err) TM.err) TM.err) TM.err)) TM.err
mutual
theorem KN(ρ:Ho):∀(v:Value)(a:ak),valOf v=some a→VR ρ a v
 |.bool b,a,h=>by simp only[valOf,eA] at h;subst h;simp[VR]
 |.int k n,a,h=>by simp only[valOf,eA] at h;subst h;simp[VR]
 |.float _ _,a,h=>by simp[valOf] at h
 |.complex _ _ _,a,h=>by simp[valOf] at h
 |.string s,a,h=>by simp only[valOf,eA] at h;subst h;simp only[VR];exact⟨s,rfl,rfl,rfl⟩
 |.pointer none,a,h=>by simp only[valOf,eA] at h;subst h;simp[VR]
 |.pointer (some _),a,h=>by simp[valOf] at h
 |.slice none l c,a,h=>by
  unfold valOf at h
  split at h<;>simp_all
  subst h;simp[VR]
 |.slice (some _) _ _,a,h=>by simp[valOf] at h
 |.map none,a,h=>by simp only[valOf,eA] at h;subst h;simp[VR]
 |.map (some _),a,h=>by simp[valOf] at h
 |.chan _,a,h=>by simp[valOf] at h
 |.func _ _ _,a,h=>by simp[valOf] at h
 |.nilFunc,a,h=>by simp only[valOf,eA] at h;subst h;simp[VR]
 |.iface _ _,a,h=>by simp[valOf] at h
 |.nilIface,a,h=>by simp only[valOf,eA] at h;subst h;simp[VR]
 |.agg ⟨cs⟩,a,h=>by
  unfold valOf at h
  split at h
  ·rename_i l z
   split at h
   ·rename_i A
    cases h
    simp only[VR];exact⟨_,rfl,Zq ρ cs l z,A⟩
   cases h
  cases h
 |.tuple _,a,h=>by simp[valOf] at h
theorem Zq(ρ:Ho):∀(l:List Value)(z:List ak),GL l=some z→bQ ρ z l
 |[],z,h=>by simp only[GL,eA] at h;subst h;rfl
 |v::r,z,h=>by
  unfold GL at h
  split at h
  ·rename_i x l A h2
   cases h
   exact⟨v,r,rfl,KN ρ v x A,Zq ρ r l h2⟩
  cases h
end
def I1(P:Program)(g:Nat):Bool:=match P.globals[g]?with|some v=>v.name== "strconv.ErrRange"|none=>false
def vn(P:Program)(ρ:Ho):Prop:=∀g,g<P.globals.size→∃h,ρ g 1=some h∧h.bz=g∧h.off=0∧(I1 P g=true→h.ro=true∧h.db=true)
def xV(P:Program)(w:World):Prop:=∀g,g<P.globals.size→g<w.heap.size∧(I1 P g=true→∃z A,w.cell? ⟨g,0,none⟩=some (.iface z A))
structure AR(P:Program)(ρ:Ho)(nt:Nat)(E:Env)(a:Act):Prop where
 size:a.tmps.size=nt
 defers:a.defers=[]
 tmp:∀t v,E.get t=some v→∃cv,a.tmps[t.n]?=some cv∧VR ρ v cv
 qz:vn P ρ
theorem AR.mono{P:Program}{ρ ρ':Ho}{nt:Nat}{E:Env}{a:Act}(h:AR P ρ nt E a)(A:ρ.le ρ'):AR P ρ' nt E a:=
 ⟨h.size,h.defers,fun t v e=>let⟨cv,z,h2⟩:=h.tmp t v e;⟨cv,z,h2.mono A⟩,fun g G=>let⟨x,z,h2⟩:=h.qz g G;⟨x,A _ _ _ z,h2⟩⟩
theorem AR.put{P:Program}{ρ:Ho}{nt:Nat}{E:Env}{a:Act}(h:AR P ρ nt E a){d:Key}(A:d.n<nt){v:ak}{cv:Value}(G:VR ρ v cv):AR P ρ nt (E.set d v) (a.put (some d.n) cv):=by
 refine⟨by simp[Act.put,h.size],by simp[Act.put,h.defers],fun t x e=>?_,h.qz⟩;rw[T4.dn] at e
 split at e
 ·rename_i z;subst z
  cases e
  exact⟨cv,by simp[Act.put,h.size,A],G⟩
 rename_i z;obtain⟨y,I,k⟩:=h.tmp t x e;exact⟨y,by simp only[Act.put];rw[Array.getElem?_setIfInBounds_ne (fun e=>z (Key.inj e.symm))];exact I,k⟩
section
variable{P:Program}{ρ:Ho}{nt:Nat}{E:Env}{a:Act}
theorem AR.bG(h:AR P ρ nt E a){x:Operand}{y:aI}{v:ak}(ho:ct P x=some y)(z:y.ev E=some v):VR ρ v (a.eval x):=by
 cases x with
 |tmp t=>
  simp only[ct] at ho
  split at ho
  ·rename_i G
   cases ho
   obtain⟨cv,A,h2⟩:=h.tmp (pk t) v z;rw[BI G] at A;simp only[Act.eval];rw[yw,A];exact h2
  cases ho
 |const c=>
  simp only[ct] at ho
  split at ho
  ·rename_i w I
   cases ho
   cases z
   exact KN ρ _ _ I
  cases ho
 |global g=>
  simp only[ct] at ho
  split at ho
  ·rename_i L
   cases ho
   cases z
   obtain⟨x,M,rfl,h2,_⟩:=h.qz g L;simp only[VR,Act.eval];exact⟨x,M,by simp[h2]⟩
  cases ho
 |func f=>
  simp only[ct,eA] at ho;subst ho
  cases z
  simp only[VR,Act.eval];exact⟨#[],#[],rfl,by simp only[bQ],by simp only[bQ]⟩
theorem AR.cT(h:AR P ρ nt E a):∀{I:List Operand}{ys:List aI}{vs:List ak},jM P I=some ys→jq E ys=some vs→bQ ρ vs (I.map a.eval)
 |[],ys,vs,ho,A=>by
  simp only[jM,eA] at ho;subst ho
  cases A
  rfl
 |x::r,ys,vs,ho,A=>by
  simp only[jM] at ho
  split at ho
  ·rename_i y l L M
   cases ho
   have z:ob (y.ev E) none (fun v=>ob (jq E l) none fun vs=>some (v::vs))=some vs:=A
   cases G:y.ev E with
   |none=>rw[G] at z;cases z
   |some v=>
    rw[G] at z
    cases h2:jq E l with
    |none=>rw[h2] at z;cases z
    |some O=>
     rw[h2] at z
     cases z
     exact⟨_,_,rfl,h.bG L G,AR.cT h M h2⟩
  cases ho
end
def en(P:Program)(o:Oper)(a:Act)(w:World)(Φ:Value→World→Prop):Prop:=
 (∃cv w',(execOp a.eval o).run P w= .ok (.value cv) w'∧Φ cv w')∨
 (∃w',(execOp a.eval o).run P w= .ok .skip w'∧Φ undef w')∨
 (∃f args,(execOp a.eval o).run P w= .ok (.enter f args) w∧Calls P f args w fun e w'=>∃cv,e= .returned cv∧Φ cv w')
theorem Y3{P:Program}{o:Oper}{a:Act}{w:World}{Φ:Value→World→Prop}{K:Act→World→Prop}{Q:Exit→Act→World→Prop}
  (h:en P o a w Φ) (A:∀cv w',Φ cv w'→K (a.put o.dst cv) w'):o.wp P a w K Q:=by
 unfold Oper.wp;rcases h with⟨cv,w',e,z⟩|⟨w',e,z⟩|⟨f,args,e,z⟩
 ·rw[e];exact A _ _ z
 ·rw[e];exact A _ _ z
 rw[e];refine Calls.mono z fun e w' G=>?_
 obtain⟨cv,rfl,z⟩:=G;exact A _ _ z
def ep(C:Nat→Option cV)(H H':ay)(f:Nat):Option cV:=
 open Classical in
 if H.next≤f∧f<H'.next then H'.t.get f else if H'.t.get f=H.t.get f then C f else H'.t.get f
def Wr(H':ay)(f:Nat):Prop:=f∈H'.ws∨H'.aQ≤f
def cQ(ρ:Ho)(C:Nat→Option cV)(w:World)(H:ay)(v:ak)(H':ay)(cv:Value)(w':World):Prop:=
 ∃ρ',VR ρ' v cv∧Ext (Wr H') H.next H'.next ρ ρ' w w'∧R ρ' (ep C H H') w'
theorem oJ(C:Nat→Option cV)(H:ay):ep C H H=C:=by
 funext f
 unfold ep;rw[aZ aq,bj rfl]
theorem cQ.pure{ρ:Ho}{C:Nat→Option cV}{w:World}{H:ay}{v:ak}{cv:Value}(z:R ρ C w)(A:VR ρ v cv):cQ ρ C w H v H cv w:=
 ⟨ρ,A,Ext.refl _ _ _ _,by rw[oJ];exact z⟩
theorem K4{a b:IntKind}(h:Nat.beq (cG a) (cG b)=true):a=b:=by cases a<;>cases b<;>first|rfl|cases h
theorem nK(a b:Int):fA a b=decide (a<b):=by
 rw[yy,decide_eq_true_iff]
 cases a with
 |ofNat a=>cases b with
  |ofNat b=>simp only[fA,Nat.ble_eq,fW];omega
  |negSucc b=>simp only[fA,fW,kG,gK,false_iff];omega
 |negSucc a=>cases b with
  |ofNat b=>simp only[fA,fW,kG,true_iff];omega
  |negSucc b=>simp only[fA,Nat.ble_eq,kG];omega
theorem rl(a b:Int):kX a b=decide (a=b):=by
 rw[yy,decide_eq_true_iff]
 cases a with
 |ofNat a=>cases b with
  |ofNat b=>simp only[kX,uf,fW];omega
  |negSucc b=>simp only[kX,fW,kG,gK,false_iff];omega
 |negSucc a=>cases b with
  |ofNat b=>simp only[kX,fW,kG,gK,false_iff];omega
  |negSucc b=>simp only[kX,uf,kG];omega
theorem YJ(a b:List UInt8):pack (a++b)=pack a+256^a.length*pack b:=by
 induction a with
 |nil=>simp[pack]
 |cons x r z=>
  simp only[El,pack,z,gy,NF];rw[Nat.mul_add,←kH,←Nat.mul_assoc,qu 256 (256^r.length)]
theorem aa4(a:List UInt8):pack a<256^a.length:=by
 induction a with
 |nil=>simp[pack]
 |cons x r z=>
  simp only[pack,gy,NF];have:x.toNat<256:=x.toNat_lt;omega
theorem Zr(l:List UInt8)(i:Nat):pack l/256^i=pack (l.drop i):=by
 induction i generalizing l with
 |zero=>simp
 |succ i z=>
  cases l with
  |nil=>simp[pack]
  |cons x r=>
   simp only[pack,List.drop_succ_cons];have A:x.toNat<256:=x.toNat_lt;have e:(x.toNat+256*pack r)/256=pack r:=by omega
   rw[NF,qu (256^i) 256,←Nat.div_div_eq_div_mul,e,z]
theorem Zs(l:List UInt8)(n:Nat):pack l % 256^n=pack (l.take n):=by
 by_cases h:n≤l.length
 ·have z:pack l=pack (l.take n)+256^n*pack (l.drop n):=by
   have:=YJ (l.take n) (l.drop n);rw[IJ,m6,Nat.min_eq_left h] at this;exact this
  have h2:=aa4 (l.take n);rw[m6,Nat.min_eq_left h] at h2;rw[z,Nat.add_mul_mod_self_left,Em h2]
 have h':l.length≤n:=by omega
 rw[o5 h'];refine Em (jj (aa4 l) ?_);exact Nat.pow_le_pow_right aq h'
theorem Vy(i:Nat):2^(8*i)=256^i:=by rw[Nat.pow_mul]
theorem ais(v i:Nat):Nat.shiftRight v (Nat.mul 8 i)=v/256^i:=by
 show v>>>(8*i)=_;rw[Nat.shiftRight_eq_div_pow,Vy]
theorem YK(l:List UInt8)(i:Nat)(h:i<l.length):AH (pack l) i=(l[i]).toNat:=by
 unfold AH;rw[ais,Zr];show pack (l.drop i) % 256=_;have z:=Zs (l.drop i) 1;rw[lm36] at z;have e:(l.drop i).take 1=[l[i]]:=by rw[NG h];rfl
 rw[e] at z;rw[z];show l[i].toNat+256*0=_;omega
theorem strSub_pack(l:List UInt8)(lo hi:Nat):RO (pack l) lo hi=pack ((l.drop lo).take (hi-lo)):=by
 unfold RO;rw[ais,Zr,←Zs];show _ % (1<<<(8*(hi-lo)))=_;rw[Nat.shiftLeft_eq,BF,Vy]
theorem YL(a b:List UInt8):GC a.length (pack a) (pack b)=pack (a++b):=by
 unfold GC;rw[YJ];show pack a+(pack b)<<<(8*a.length)=_;rw[Nat.shiftLeft_eq,Vy,qu]
theorem aad:∀{a b:List UInt8},a.length=b.length→pack a=pack b→a=b
 |[],[],_,_=>rfl
 |[],_::_,h,_=>by simp at h
 |_::_,[],h,_=>by simp at h
 |x::r,y::s,h,k=>by
  simp only[pack] at k;have G:x.toNat<256:=x.toNat_lt;have I:y.toNat<256:=y.toNat_lt;have z:x.toNat=y.toNat:=by omega
  have A:pack r=pack s:=by omega
  rw[aad (by simpa using h) A,UInt8.toNat_inj.1 z]
theorem Kx(a b:List UInt8):s7 a.length (pack a) b.length (pack b)=decide (a=b):=by
 unfold s7;rw[yy,decide_eq_true_iff];constructor
 ·intro h
  split at h
  ·rename_i z;exact aad (cD z) (cD h)
  cases h
 rintro rfl;simp
theorem PL:∀(a b:List UInt8),strLt a.length (pack a) b.length (pack b)=Op.bytesLess a b
 |[],[]=>rfl
 |[],_::_=>rfl
 |x::r,[]=>rfl
 |x::r,y::s=>by
  have O:x.toNat<256:=x.toNat_lt;have U:y.toNat<256:=y.toNat_lt;have z:Nat.mod (pack (x::r)) 256=x.toNat:=by show(x.toNat+256*pack r) % 256=_;omega
  have A:Nat.mod (pack (y::s)) 256=y.toNat:=by show(y.toNat+256*pack s) % 256=_;omega
  have G:Nat.div (pack (x::r)) 256=pack r:=by show(x.toNat+256*pack r)/256=_;omega
  have I:Nat.div (pack (y::s)) 256=pack s:=by show(y.toNat+256*pack s)/256=_;omega
  have step:strLt (x::r).length (pack (x::r)) (y::s).length (pack (y::s))=
    match Nat.beq (Nat.mod (pack (x::r)) 256) (Nat.mod (pack (y::s)) 256) with
    |true=>strLt r.length (Nat.div (pack (x::r)) 256) s.length (Nat.div (pack (y::s)) 256)
    |false=>Nat.ble (Nat.succ (Nat.mod (pack (x::r)) 256)) (Nat.mod (pack (y::s)) 256):=rfl
  rw[step,z,A,G,I,PL r s];simp only[Op.bytesLess]
  by_cases h:x=y
  ·subst h;have:¬(x<x):=by rw[IK];omega
   simp[this]
  have L:Nat.beq x.toNat y.toNat=false:=by
   rw[←OS,uf];exact fun e=>h (UInt8.toNat_inj.1 e)
  rw[L];have M:(x==y)=false:=by simpa using h
  simp only[M,Bool.false_and,Bool.or_false];rw[yy,Nat.ble_eq,decide_eq_true_iff,IK];exact iG
end Go.Ev
