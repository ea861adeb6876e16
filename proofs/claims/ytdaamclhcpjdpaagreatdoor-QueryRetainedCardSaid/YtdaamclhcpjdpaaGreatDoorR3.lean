/- Part 3 of rules for walks through the code of a program, and of such walks; what each part proves is said by its theorems. -/
import Derived.Test.YtdaamclhcpjdpaaGreatDoorR2
import Derived.IntWalk
import Derived.Deep.AppendSrc
import Derived.RowKit3
set_option linter.unusedVariables false
set_option linter.unusedSimpArgs false
noncomputable section
set_option maxRecDepth 100000
set_option maxHeartbeats 4000000
namespace Go.Ev
theorem dV{β:Type}(k e:β):aD true k e=k:=rfl
theorem chk_false{β:Type}(k e:β):aD false k e=e:=rfl
theorem tc{β:Type}(b:Bool)(k e:β):aD b k e=if b=true then k else e:=by cases b<;>rfl
section
variable{v:al}{H':aw}{n:Nat}
theorem ed{b:Bool}{k:aC}(h:aD b k (.err n)= .ok v H'):b=true∧k= .ok v H':=by
 cases b
 ·cases h
 exact⟨rfl,h⟩
theorem gN{α:Type}{o:Option α}{k:α→aC}(h:ob o (.err n) k= .ok v H'):∃x,o=some x∧k x= .ok v H':=by
 cases o with
 |none=>cases h
 |some x=>exact⟨x,rfl,h⟩
theorem dW{x:aH}{E:Env}{k:al→aC}(h:bk x E (.err n) k= .ok v H'):∃a,x.ev E=some a∧k a= .ok v H':=by
 cases x with
 |t i=>exact gN h
 |c a=>exact⟨a,rfl,h⟩
theorem onBool_ok{a:al}{k:Bool→aC}(h:uV a (.err n) k= .ok v H'):∃b,a= .bool b∧k b= .ok v H':=by
 cases a<;>first|cases h;done|exact⟨_,rfl,h⟩
theorem wQ{a:al}{k:IntKind→Int→aC}(h:ff a (.err n) k= .ok v H'):∃b i,a= .int b i∧k b i= .ok v H':=by
 cases a<;>first|cases h;done|exact⟨_,_,rfl,h⟩
theorem FB{a:al}{k:Nat→Nat→aC}(h:jm a (.err n) k= .ok v H'):∃l s,a= .str l s∧k l s= .ok v H':=by
 cases a<;>first|cases h;done|exact⟨_,_,rfl,h⟩
theorem zG{a:al}{k:Nat→Nat→Nat→aC}(h:gq a (.err n) k= .ok v H'):∃f g o,a= .ptr f g o∧k f g o= .ok v H':=by
 cases a<;>first|cases h;done|exact⟨_,_,_,rfl,h⟩
theorem wI{a:al}{e:aC}{k:Nat→Nat→Nat→Nat→Nat→aC}(h:eR a (.err n) e k= .ok v H'):
  (a= .fE∧e= .ok v H')∨∃f g o l es,a= .slice f g o l es∧k f g o l es= .ok v H':=by
 cases a<;>first|cases h;done|exact .inr ⟨_,_,_,_,_,rfl,h⟩|exact .inl ⟨rfl,h⟩
theorem ZN{a:al}{k:List al→aC}(h:mc a (.err n) k= .ok v H'):∃l,a= .agg l∧k l= .ok v H':=by
 cases a<;>first|cases h;done|exact⟨_,rfl,h⟩
theorem onTuple_ok{a:al}{k:List al→aC}(h:uM a (.err n) k= .ok v H'):∃l,a= .tuple l∧k l= .ok v H':=by
 cases a<;>first|cases h;done|exact⟨_,rfl,h⟩
theorem onFunc_ok{a:al}{k:Nat→List al→List al→aC}(h:xe a (.err n) k= .ok v H'):∃f fs l,a= .func f fs l∧k f fs l= .ok v H':=by
 cases a<;>first|cases h;done|exact⟨_,_,_,rfl,h⟩
theorem Cr{i:Int}{k:Nat→aC}(h:gM i (.err n) k= .ok v H'):∃m:Nat,i=(m:Int)∧k m= .ok v H':=by
 cases i with
 |ofNat m=>exact⟨m,rfl,h⟩
 |negSucc m=>cases h
theorem oO(l:List al):gv l=l.length:=by
 induction l with
 |nil=>rfl
 |cons a r z=>show Nat.succ (gv r)=_;rw[z];rfl
theorem LC{a:al}{m:Nat}{k:Nat→aC}(h:idx a m (.err n) k= .ok v H'):∃z i,a= .int z (i:Nat)∧i<m∧k i= .ok v H':=by
 obtain⟨z,i,rfl,h⟩:=wQ h;obtain⟨j,rfl,h⟩:=Cr h;obtain⟨A,h⟩:=ed h;exact⟨z,j,rfl,aS A,h⟩
theorem acU{E:Env}{x:Option aH}{d y:Nat}{k:Nat→aC}(h:eb E x d y (.err n) k= .ok v H'):
  (x=none∧k d= .ok v H')∨∃z A i,x=some z∧z.ev E=some (.int A (i:Nat))∧i≤y∧k i= .ok v H':=by
 cases x with
 |none=>exact .inl ⟨rfl,h⟩
 |some z=>
  obtain⟨a,G,h⟩:=gN h;obtain⟨A,i,rfl,h⟩:=wQ h;obtain⟨j,rfl,h⟩:=Cr h;obtain⟨I,h⟩:=ed h;exact .inr ⟨z,A,j,rfl,G,aS I,h⟩
theorem ZO{o:Option cT}{k:Nat→Nat→Nat→Nat→Nat→Nat→RT→aC}(h:iR o (.err n) k= .ok v H'):
  ∃elem es aF m lo fl cs,o=some (.row elem es aF m lo fl cs)∧k elem es aF m lo fl cs= .ok v H':=by
 cases o with
 |none=>cases h
 |some o=>cases o with
  |row=>exact⟨_,_,_,_,_,_,_,rfl,h⟩
  |map=>cases h
theorem QD{agg:Bool}{l:List al}{k:al→aC}(h:fH agg l (.err n) k= .ok v H'):
  (agg=true∧k (.agg l)= .ok v H')∨∃x,agg=false∧l=[x]∧k x= .ok v H':=by
 cases agg with
 |true=>exact .inl ⟨rfl,h⟩
 |false=>
  cases l with
  |nil=>cases h
  |cons x r=>cases r with
   |nil=>exact .inr ⟨x,rfl,rfl,h⟩
   |cons y s=>cases h
theorem Cs{H:aw}{o:cT}{k:Nat→aw→aC}(h:H.alloc o k= .ok v H'):k H.next ⟨H.next+1,H.aQ,H.ws,H.t.set H.next o⟩= .ok v H':=by
 cases H with
 |mk next aQ ws t=>
  have h':ct next (fun f=>t.fh f o fun t=>k f ⟨Nat.succ f,aQ,ws,t⟩)= .ok v H':=h;rw[fK,GT.i4] at h';exact h'
end
theorem LD(m n:Nat):uk m n=(m:Int) -(n:Int):=by
 unfold uk
 cases h:Nat.ble n m
 ·have:¬n≤m:=fun e=>by rw[gF e] at h;cases h
  show Int.negSucc (n-m-1)=_;rw[kp];omega
 have:n≤m:=aS h;show Int.ofNat (m-n)=_;rw[fQ];omega
theorem addI_eq(x y:Int):ah5 x y=x+y:=by
 cases x with
 |ofNat m=>cases y with
  |ofNat n=>rfl
  |negSucc n=>show uk m (n+1)=_;rw[LD,kp,fQ];omega
 |negSucc m=>cases y with
  |ofNat n=>show uk n (m+1)=_;rw[LD,kp,fQ];omega
  |negSucc n=>show Int.negSucc (m+n+1)=_;rw[kp,kp,kp];omega
theorem subI_eq(x y:Int):ah6 x y=x-y:=by
 cases x with
 |ofNat m=>cases y with
  |ofNat n=>show uk m n=_;rw[LD];rfl
  |negSucc n=>show Int.ofNat (m+(n+1))=_;rw[kp,fQ,fQ];omega
 |negSucc m=>cases y with
  |ofNat n=>show Int.negSucc (m+n)=_;rw[kp,kp,fQ];omega
  |negSucc n=>show uk n m=_;rw[LD,kp,kp];omega
theorem LF(x y:Int):JJ x y=fq x y:=by cases x<;>cases y<;>rfl
theorem acV(x y:Int):WC x y=kW x y:=by cases x<;>cases y<;>rfl
theorem w64_eq(n:Int):w64 n=IntKind.wrap .i64 n:=by
 cases n with
 |ofNat m=>
  show Bool.rec (motive:=fun _=>Int) (IntKind.wrap .i64 (.ofNat m)) (.ofNat m) (Nat.ble m 9223372036854775807)=_
  cases h:Nat.ble m 9223372036854775807
  ·rfl
  have:=aS h;exact(IntWalk.i64_in (Int.ofNat m) (by simp only[fQ];omega)).symm
 |negSucc m=>
  show Bool.rec (motive:=fun _=>Int) (IntKind.wrap .i64 (.negSucc m)) (.negSucc m) (Nat.ble m 9223372036854775807)=_
  cases h:Nat.ble m 9223372036854775807
  ·rfl
  have:=aS h;exact(IntWalk.i64_in (Int.negSucc m) (by rw[kp];omega)).symm
theorem Mu(mx:Nat)(k:IntKind)(z:∀n:Int,0≤n∧n≤mx→k.wrap n=n)(n:Int):wU mx k n=IntKind.wrap k n:=by
 cases n with
 |ofNat m=>
  show Bool.rec (motive:=fun _=>Int) (IntKind.wrap k (.ofNat m)) (.ofNat m) (Nat.ble m mx)=_
  cases h:Nat.ble m mx
  ·rfl
  have:=aS h;exact(z (Int.ofNat m) (by simp only[fQ];omega)).symm
 |negSucc m=>rfl
theorem wrapQ_eq(k:IntKind)(n:Int):Tm k n=k.wrap n:=by
 cases k with
 |i8=>rfl
 |i16=>rfl
 |i32=>rfl
 |i64=>exact w64_eq n
 |u8=>exact Mu _ _ IntWalk.u8_in n
 |u16=>exact Mu _ _ IntWalk.u16_in n
 |u32=>exact Mu _ _ IntWalk.u32_in n
 |u64=>exact Mu _ _ IntWalk.u64_in n
theorem nF(k:IntKind)(n:Int):lv k n=k.wrap n:=by
 unfold lv
 split
 ·rename_i m
  split
  ·rename_i h;have h:=aS h;exact(IntWalk.i64_in (Int.ofNat m) (by simp only[fQ];omega)).symm
  rfl
 ·rename_i m
  split
  ·rename_i h;have h:=aS h;exact(IntWalk.i64_in (Int.negSucc m) (by rw[kp];omega)).symm
  rfl
 rfl
theorem YZ{f:Int→Int→Int}{op:BinOp}(h:∀k a G b,fT op k a G b=aD (Nat.beq (cu k) (cu G)) (some (.int k (lv k (f a b)))) none)(a b:al)(k:al→aC):Ry f op a b k=mU op a b k:=by
 cases a<;>try rfl
 cases b<;>try rfl
 rename_i z x A y;show aD (Nat.beq (cu z) (cu A)) (lq (Tm z (f x y)) fun r=>k (.int z r)) (.err 6)=ob (fT op z x A y) (.err 6) fun v=>l6 v k
 rw[h,wK,wrapQ_eq,←nF]
 cases Nat.beq (cu z) (cu A)
 ·rfl
 exact(wL (.int z (lv z (f x y))) k).symm
theorem Cy{f:Int→Int→Bool}{op:BinOp}(h:∀k a G b,fT op k a G b=aD (Nat.beq (cu k) (cu G)) (some (.bool (f a b))) none)(a b:al)(k:al→aC):Ba f op a b k=mU op a b k:=by
 cases a<;>try rfl
 cases b<;>try rfl
 rename_i A x z y;show aD (Nat.beq (cu A) (cu z)) (nH (f x y) fun r=>k (.bool r)) (.err 6)=ob (fT op A x z y) (.err 6) fun v=>l6 v k
 rw[h]
 cases Nat.beq (cu A) (cu z)
 ·rfl
 refine Eq.trans ?_ (wL (.bool (f x y)) k).symm;show nH (f x y) (fun r=>k (.bool r))=_
 cases f x y<;>rfl
theorem KX(op:BinOp)(a b:al)(k:al→aC):Ef op a b k=ob (Ee op a b) (.err 6) fun v=>l6 v k:=by
 cases op with
 |add=>exact YZ (fun k a z b=>by rw[addI_eq];rfl) a b k
 |sub=>exact YZ (fun k a z b=>by rw[subI_eq];rfl) a b k
 |eql=>exact Cy (fun k a z b=>by rw[acV];rfl) a b k
 |neq=>exact Cy (fun k a z b=>by unfold neI;rw[acV];rfl) a b k
 |lss=>exact Cy (fun k a z b=>by rw[LF];rfl) a b k
 |leq=>exact Cy (fun k a z b=>by unfold leI;rw[LF];rfl) a b k
 |gtr=>exact Cy (fun k a z b=>by unfold gtI;rw[LF];rfl) a b k
 |geq=>exact Cy (fun k a z b=>by unfold geI;rw[LF];rfl) a b k
 |mul=>rfl
 |quo=>rfl
 |rem=>rfl
 |and=>rfl
 |or=>rfl
 |xor=>rfl
 |shl=>rfl
 |shr=>rfl
 |andNot=>rfl
structure UZ(H:aw)(f g off n:Nat)(l:List al):Prop where
 ex:∃elem es aF m lo fl cs x,H.t.get f=some (.row elem es aF m lo fl cs)∧lo≤g∧g≤m∧off % es+n≤es∧off/es<g∧cs.get (off/es)=some x∧
  ((l=x∧n=es)∨l=(x.drop (off % es)).take n)
theorem Tt{β:Type}{H:aw}{f g off n:Nat}{e:β}{k:List al→β}{r:β}(h:rd H f g off n e k=r)(z:e≠r):∃l,UZ H f g off n l∧k l=r:=by
 unfold rd at h
 cases ho:H.t.get f with
 |none=>rw[ho] at h;exact absurd h z
 |some o=>
  rw[ho] at h
  cases o with
  |map=>exact absurd h z
  |row elem es aF m lo fl cs=>
   simp only[iR,tc] at h
   split at h
   ·rename_i O
    split at h
    ·rename_i h2
     split at h
     ·rename_i U
      split at h
      ·rename_i Y
       cases A:cs.get (Nat.div off es) with
       |none=>rw[A] at h;exact absurd h z
       |some x=>
        rw[A] at h;simp only[ob] at h;have G:=aS O;have I:=aS h2;have L:=aS U;have M:=aS Y
        split at h
        ·rename_i Z;exact⟨x,⟨_,_,_,_,_,_,_,x,ho,G,I,L,M,A,.inl ⟨rfl,cq Z⟩⟩,h⟩
        exact⟨_,⟨_,_,_,_,_,_,_,x,ho,G,I,L,M,A,.inr rfl⟩,h⟩
      exact absurd h z
     exact absurd h z
    exact absurd h z
   exact absurd h z
theorem P9(f:Nat)(l:List Nat):qG f l=true↔f∈l:=by
 induction l with
 |nil=>simp[qG]
 |cons x r z=>
  show aD (Nat.beq f x) true (qG f r)=true↔_;rw[tc]
  by_cases h:f=x
  ·simp[h]
  have:¬(Nat.beq f x=true):=by simpa[ui] using h
  simp[h,this,z]
theorem zw(f aQ:Nat)(ws:List Nat)(x:Nat):x∈wrote f aQ ws↔x∈ws∨(x=f∧f<aQ):=by
 unfold wrote;rw[tc,tc]
 by_cases h:aQ≤f
 ·rw[bh (gF h)];constructor
  ·exact .inl
  rintro(z|⟨_,z⟩)
  ·exact z
  omega
 have G:¬(Nat.ble aQ f=true):=by simpa using h
 rw[aZ G]
 by_cases A:qG f ws=true
 ·rw[bh A];rw[P9] at A;constructor
  ·exact .inl
  rintro(z|⟨rfl,_⟩)
  ·exact z
  exact A
 rw[aZ A];simp only[rR];constructor
 ·rintro(rfl|z)
  ·exact .inr ⟨rfl,ah⟩
  exact .inl z
 rintro(z|⟨rfl,_⟩)
 ·exact .inr z
 exact .inl rfl
structure ah7(H:aw)(f g off n:Nat)(new:List al)(H':aw):Prop where
 ex:∃elem es aF lo cs x,H.t.get f=some (.row elem es aF g lo 0 cs)∧lo≤g∧off % es+n≤es∧off/es<g∧new.length=n∧cs.get (off/es)=some x∧
  H'=⟨H.next,H.aQ,wrote f H.aQ H.ws,H.t.set f (.row elem es aF g g 0 (cs.set (off/es) (if n=es then new else eE x (off % es) new)))⟩
theorem AI{H:aw}{f g off n m:Nat}{new:List al}{k:aw→aC}{v:al}{H':aw}(h:wr H f g off n new (.err m) k= .ok v H'):∃H1,ah7 H f g off n new H1∧k H1= .ok v H':=by
 cases H with
 |mk next aQ ws t=>
  have h:=ZO h;obtain⟨elem,es,aF,mm,lo,fl,cs,ho,h⟩:=h;obtain⟨z,h⟩:=ed h;obtain⟨h2,h⟩:=ed h;obtain⟨I,h⟩:=ed h;obtain⟨L,h⟩:=ed h;obtain⟨M,h⟩:=ed h;obtain⟨O,h⟩:=ed h;obtain⟨x,U,A⟩:=gN h;rw[RT.i4,GT.i4] at A;have Y:=cq z;have Z:=cq h2;have G:=cq O;rw[oO] at G;clear h z h2;subst Y Z;refine⟨_,⟨elem,es,aF,lo,cs,x,ho,aS I,aS L,aS M,G,U,?_⟩,A⟩;rw[tc];simp only[ui];rfl
structure eF(H H':aw):Prop where
 next:H.next≤H'.next
 aQ:H'.aQ=H.aQ
 ws:∀f,f∈H.ws→f∈H'.ws
 same:∀f,f<H.aQ→f∉H'.ws→H'.t.get f=H.t.get f
 wf:(∀f,H.next≤f→H.t.get f=none)→∀f,H'.next≤f→H'.t.get f=none
 fX:∀f,H.t.get f≠none→H'.t.get f≠none
theorem eF.refl(H:aw):eF H H:=⟨bq _,rfl,fun _ h=>h,fun _ _ _=>rfl,fun h=>h,fun _ h=>h⟩
theorem eF.trans{A B C:aw}(h:eF A B)(k:eF B C):eF A C:=
 ⟨eZ h.next k.next,k.aQ.trans h.aQ,fun f z=>k.ws f (h.ws f z),fun f z G=>(k.same f (h.aQ▸z) G).trans (h.same f z fun e=>G (k.ws f e)),fun x=>k.wf (h.wf x),fun f x=>k.fX f (h.fX f x)⟩
theorem eF.alloc{H:aw}(o:cT)(A:H.aQ≤H.next):eF H ⟨H.next+1,H.aQ,H.ws,H.t.set H.next o⟩:=
 ⟨A5 _,rfl,fun _ h=>h,fun f z _=>by show(H.t.set H.next o).get f=_;rw[GT.di,aZ ah],
  fun h f z=>by
  have z:H.next+1≤f:=z;show(H.t.set H.next o).get f=none;rw[GT.di,aZ ah];exact h f ah,
  fun f z=>by
  show(H.t.set H.next o).get f≠none;rw[GT.di]
  split
  ·simp
  exact z⟩
theorem eF.write{H:aw}(f:Nat)(o:cT){A:cT}(h0:H.t.get f=some A):eF H ⟨H.next,H.aQ,wrote f H.aQ H.ws,H.t.set f o⟩:=
 ⟨bq _,rfl,fun x z=>(zw _ _ _ _).2 (.inl z),fun x z G=>by
  show(H.t.set f o).get x=_;rw[GT.di]
  split
  ·rename_i e;subst e;exact absurd ((zw _ _ _ _).2 (.inr ⟨rfl,z⟩)) G
  ·rfl,fun h x z=>by
  have z:H.next≤x:=z;show(H.t.set f o).get x=none;rw[GT.di]
  split
  ·rename_i e;subst e;rw[h x z] at h0;cases h0
  ·exact h x z,fun x z=>by
  show(H.t.set f o).get x≠none;rw[GT.di]
  split
  ·simp
  exact z⟩
def TM(H:aw)(r:aC):Prop:=∀v H',r= .ok v H'→eF H H'
theorem TM.err{H:aw}{n:Nat}:TM H (.err n):=fun _ _ h=>by cases h
theorem TM.ok{H:aw}{v:al}:TM H (.ok v H):=fun _ _ h=>by cases h;exact eF.refl _
theorem TM.aD{H:aw}{b:Bool}{k e:aC}(h:TM H k)(h':TM H e):TM H (aD b k e):=by cases b;exact h';exact h
theorem TM.ob{H:aw}{α:Type}{o:Option α}{e:aC}{k:α→aC}(h:∀x,TM H (k x))(h':TM H e):TM H (ob o e k):=by cases o;exact h';exact h _
theorem TM.bk{H:aw}{x:aH}{E:Env}{e:aC}{k:al→aC}(h:∀x,TM H (k x))(h':TM H e):TM H (bk x E e k):=by
 cases x with
 |t i=>exact TM.ob (o:=E.get i) h h'
 |c a=>exact h a
theorem TM.uV{H:aw}{a:al}{e:aC}{k:Bool→aC}(h:∀x,TM H (k x))(h':TM H e):TM H (uV a e k):=by cases a<;>first|exact h'|exact h _
theorem TM.ff{H:aw}{a:al}{e:aC}{k:IntKind→Int→aC}(h:∀x y,TM H (k x y))(h':TM H e):TM H (ff a e k):=by cases a<;>first|exact h'|exact h _ _
theorem TM.jm{H:aw}{a:al}{e:aC}{k:Nat→Nat→aC}(h:∀x y,TM H (k x y))(h':TM H e):TM H (jm a e k):=by cases a<;>first|exact h'|exact h _ _
theorem TM.gq{H:aw}{a:al}{e:aC}{k:Nat→Nat→Nat→aC}(h:∀x y z,TM H (k x y z))(h':TM H e):TM H (gq a e k):=by cases a<;>first|exact h'|exact h _ _ _
theorem TM.eR{H:aw}{a:al}{e A:aC}{k:Nat→Nat→Nat→Nat→Nat→aC}(h:∀x y z u w,TM H (k x y z u w))(h2:TM H A)(h':TM H e):TM H (eR a e A k):=by cases a<;>first|exact h'|exact h2|exact h _ _ _ _ _
theorem TM.mc{H:aw}{a:al}{e:aC}{k:List al→aC}(h:∀x,TM H (k x))(h':TM H e):TM H (mc a e k):=by cases a<;>first|exact h'|exact h _
theorem TM.uM{H:aw}{a:al}{e:aC}{k:List al→aC}(h:∀x,TM H (k x))(h':TM H e):TM H (uM a e k):=by cases a<;>first|exact h'|exact h _
theorem TM.xe{H:aw}{a:al}{e:aC}{k:Nat→List al→List al→aC}(h:∀x y z,TM H (k x y z))(h':TM H e):TM H (xe a e k):=by cases a<;>first|exact h'|exact h _ _ _
theorem TM.gM{H:aw}{i:Int}{e:aC}{k:Nat→aC}(h:∀x,TM H (k x))(h':TM H e):TM H (gM i e k):=by cases i;exact h _;exact h'
theorem TM.idx{H:aw}{a:al}{n:Nat}{e:aC}{k:Nat→aC}(h:∀x,TM H (k x))(h':TM H e):TM H (idx a n e k):=TM.ff (fun _ _=>TM.gM (fun _=>TM.aD (h _) h') h') h'
theorem TM.eb{H:aw}{E:Env}{x:Option aH}{d y:Nat}{e:aC}{k:Nat→aC}(h:∀x,TM H (k x))(h':TM H e):TM H (eb E x d y e k):=by
 cases x with
 |none=>exact h _
 |some z=>exact TM.ob (fun _=>TM.ff (fun _ _=>TM.gM (fun _=>TM.aD (h _) h') h') h') h'
theorem TM.iR{H:aw}{o:Option cT}{e:aC}{k:Nat→Nat→Nat→Nat→Nat→Nat→RT→aC}(h:∀a b c d e f g,TM H (k a b c d e f g))(h':TM H e):TM H (iR o e k):=by
 cases o with
 |none=>exact h'
 |some o=>cases o with
  |row=>exact h _ _ _ _ _ _ _
  |map=>exact h'
theorem TM.fH{H:aw}{agg:Bool}{l:List al}{e:aC}{k:al→aC}(h:∀x,TM H (k x))(h':TM H e):TM H (fH agg l e k):=by
 refine TM.aD (h _) ?_
 cases l with
 |nil=>exact h'
 |cons x r=>cases r with
  |nil=>exact h _
  |cons=>exact h'
theorem TM.ct{H:aw}{n:Nat}{k:Nat→aC}(h:∀x,TM H (k x)):TM H (ct n k):=by rw[fK];exact h _
theorem TM.lq{H:aw}{n:Int}{k:Int→aC}(h:∀x,TM H (k x)):TM H (lq n k):=by rw[wK];exact h _
theorem TM.l6{H:aw}{n:al}{k:al→aC}(h:∀x,TM H (k x)):TM H (l6 n k):=by rw[wL];exact h _
theorem TM.nH{H:aw}{n:Bool}{k:Bool→aC}(h:∀x,TM H (k x)):TM H (nH n k):=by cases n<;>exact h _
theorem TM.Ef{H:aw}{op:BinOp}{a b:al}:TM H (Ef op a b fun v=>.ok v H):=by rw[KX];exact TM.ob (fun _=>TM.l6 fun _=>TM.ok) TM.err
theorem TM.Be{H:aw}{t:HT}{n:Nat}{o:cT}{k:HT→aC}(h:TM H (k (t.set n o))):TM H (t.fh n o k):=by rw[GT.i4];exact h
theorem TM.fill{H:aw}{l:List (List al)}{t:RT}{i:Nat}{k:RT→aC}(h:TM H (k (fU l t i))):TM H (ve l t i k):=by rw[zF];exact h
theorem TM.rep{H:aw}{x:List al}{n:Nat}{k:RT→aC}(h:TM H (k (nW x n))):TM H (Bc x n k):=by rw[KS];exact h
theorem TM.alloc{H:aw}{o:cT}{k:Nat→aw→aC}(G:H.aQ≤H.next)(I:∀f z,∃v,k f z= .ok v z):TM H (H.alloc o k):=fun x H' h=>by
 have A:=Cs h;obtain⟨v,L⟩:=I H.next ⟨H.next+1,H.aQ,H.ws,H.t.set H.next o⟩;rw[L] at A;cases A;exact eF.alloc o G
theorem TM.rd{H:aw}{f g off n:Nat}{e:aC}{k:List al→aC}(h:∀x,TM H (k x))(h':TM H e):TM H (rd H f g off n e k):=
 TM.iR (fun _ _ _ _ _ _ _=>TM.aD (TM.aD (TM.aD (TM.aD (TM.ob (fun _=>TM.aD (h _) (h _)) h') h') h') h') h') h'
theorem TM.wrK{H:aw}{f g off n m:Nat}{new:List al}{k:aw→aC}(A:∀z,∃v,k z= .ok v z):TM H (wr H f g off n new (.err m) k):=fun x H' h=>by
 obtain⟨H1,⟨_,_,_,_,_,_,G,_,_,_,_,_,e⟩,h⟩:=AI h;obtain⟨v,I⟩:=A H1;rw[I] at h
 cases h
 subst e;exact eF.write f _ G
theorem TM.iI{H:aw}{elem es aF n:Nat}{new:List (List al)}{x:al}(z:H.aQ≤H.next):TM H (iI elem es aF n new H x):=by
 cases n with
 |zero=>exact TM.eR (fun _ _ _ _ _=>TM.ok) TM.ok TM.err
 |succ n=>
  refine TM.eR (fun f g off G cV=>?_) (TM.aD (TM.fill (TM.alloc z (fun _ _=>⟨_,rfl⟩))) TM.err) TM.err;refine TM.aD ?_ (TM.aD (TM.aD (TM.aD (TM.aD ?_ TM.err) TM.err) TM.err) TM.err)
  rotate_left
  ·cases new with
   |nil=>exact TM.err
   |cons row r=>exact TM.wrK (fun _=>⟨_,rfl⟩)
  cases H with
  |mk next aQ ws t=>
   show TM _ (Ev.iR (t.get f) _ _)
   cases A:t.get f with
   |none=>exact TM.err
   |some ob=>cases ob with
    |map=>exact TM.err
    |row I L M O U Y Z=>
   refine TM.aD (TM.aD (TM.aD (TM.aD (TM.aD (TM.aD (TM.aD TM.err (TM.aD (TM.aD (TM.ct fun _=>TM.fill (TM.Be ?_)) TM.err) TM.err)) TM.err) TM.err) TM.err) TM.err) TM.err) TM.err;exact fun v H' h=>by cases h;exact eF.write (H:=⟨next,aQ,ws,t⟩) f _ A
theorem TM.wr{H:aw}{f g off n:Nat}{new:List al}{v:al}:TM H (wr H f g off n new (.err 5) fun H=>.ok v H):=fun x H' h=>by
 obtain⟨H1,⟨_,_,_,_,_,_,z,_,_,_,_,_,e⟩,h⟩:=AI h
 cases h
 subst e;exact eF.write f _ z
theorem TM.clr{f g es:Nat}{z:List al}:∀{n off:Nat}{H:aw},TM H (Bd f g es z n off H)
 |0,_,_=>TM.ok
 |n+1,off,H=>fun x H' h=>by
  have h:Go.Ev.wr H f g off es z (aC.err 28) (fun H=>Go.Ev.ct (Nat.add off es) fun off=>Bd f g es z n off H)=aC.ok x H':=h;obtain⟨H1,⟨_,_,_,_,_,_,A,_,_,_,_,_,e⟩,h⟩:=AI h;rw[fK] at h;have h2:=TM.clr (n:=n) x H' h;subst e;exact(eF.write f _ A).trans h2
theorem TM.pf{H:aw}{a b c:Nat}{d:List al}{E:Env}(z:H.aQ≤H.next):TM H (AF a b c d E H):=
 TM.alloc (o:=.row a b c 1 1 0 (.one d)) (k:=fun f H=>.ok (.ptr f 1 0) H) z (fun _ _=>⟨_,rfl⟩)
theorem TM.jN{H:aw}{f e:Nat}{v:al}:TM H (jN f e H fun H=>.ok v H):=by
 cases H with
 |mk next aQ ws t=>
  show TM _ (Ev.iR (t.get f) _ _)
  cases z:t.get f with
  |none=>exact TM.err
  |some ob=>cases ob with
   |map=>exact TM.err
   |row A G I L M O U=>
   refine TM.aD (TM.aD (TM.aD (TM.Be ?_) TM.err) TM.err) TM.err;exact fun v H' h=>by cases h;exact eF.write (H:=⟨next,aQ,ws,t⟩) f _ z
theorem TM.ins{call:dG}{H:aw}(z:H.aQ≤H.next)(A:∀f a,TM H (call f a H))(E:Env)(o:bn):TM H (o.ev call E H):=by
 cases o with
 |ch x=>exact TM.bk (fun _=>TM.ok) TM.err
 |pick c a b=>exact TM.bk (fun _=>TM.uV (fun _=>TM.aD (TM.bk (fun _=>TM.ok) TM.err) (TM.bk (fun _=>TM.ok) TM.err)) TM.err) TM.err
 |pf a b c d=>exact TM.pf (E:=E) z
 |box a b c d=>exact TM.bk (fun _=>TM.ob (fun _=>TM.aD (TM.pf (E:=E) z) TM.err) TM.err) TM.err
 |load a b c=>exact TM.bk (fun _=>TM.gq (fun _ _ _=>TM.rd (fun _=>TM.fH (fun _=>TM.ok) TM.err) TM.err) TM.err) TM.err
 |store a b c=>exact TM.bk (fun _=>TM.gq (fun _ _ _=>TM.bk (fun _=>TM.ob (fun _=>TM.wr) TM.err) TM.err) TM.err) TM.err
 |bin op x y=>exact TM.bk (fun _=>TM.bk (fun _=>TM.Ef) TM.err) TM.err
 |eqv c n x y=>exact TM.bk (fun _=>TM.bk (fun _=>TM.ob (fun _=>TM.nH fun _=>TM.ok) TM.err) TM.err) TM.err
 |un op x=>exact TM.bk (fun _=>TM.ob (fun _=>TM.l6 fun _=>TM.ok) TM.err) TM.err
 |dM x k=>exact TM.bk (fun _=>TM.gq (fun _ _ _=>TM.ct fun _=>TM.ok) TM.err) TM.err
 |sub x a b c=>exact TM.bk (fun _=>TM.mc (fun _=>TM.aD (TM.fH (fun _=>TM.ok) TM.err) TM.err) TM.err) TM.err
 |zX a b x i=>exact TM.bk (fun _=>TM.gq (fun _ _ _=>TM.bk (fun _=>TM.idx (fun _=>TM.ct fun _=>TM.ok) TM.err) TM.err) TM.err) TM.err
 |iE a x i=>exact TM.bk (fun _=>TM.eR (fun _ _ _ _ _=>TM.bk (fun _=>TM.idx (fun _=>TM.ct fun _=>TM.ok) TM.err) TM.err) TM.err TM.err) TM.err
 |CM a b c x i=>exact TM.bk (fun _=>TM.mc (fun _=>TM.bk (fun _=>TM.idx (fun _=>TM.aD (TM.fH (fun _=>TM.ok) TM.err) TM.err) TM.err) TM.err) TM.err) TM.err
 |zY x i=>exact TM.bk (fun _=>TM.jm (fun _ _=>TM.bk (fun _=>TM.idx (fun _=>TM.ct fun _=>TM.ok) TM.err) TM.err) TM.err) TM.err
 |Hy x a b=>exact TM.bk (fun _=>TM.jm (fun _ _=>TM.eb (fun _=>TM.eb (fun _=>TM.ct fun _=>TM.ct fun _=>TM.ok) TM.err) TM.err) TM.err) TM.err
 |yl n x a b=>exact TM.bk (fun _=>TM.eR (fun _ _ _ _ _=>TM.aD (TM.eb (fun _=>TM.eb (fun _=>TM.ct fun _=>TM.ct fun _=>TM.ok) TM.err) TM.err) TM.err) (TM.eb (fun _=>TM.eb (fun _=>TM.ok) TM.err) TM.err) TM.err) TM.err
 |JH n x a b c=>exact TM.bk (fun _=>TM.eR (fun _ _ _ _ _=>TM.aD (TM.eb (fun _=>TM.aD (TM.eb (fun _=>TM.eb (fun _=>TM.ct fun _=>TM.ct fun _=>TM.ok) TM.err) TM.err) TM.err) TM.err) TM.err) TM.err TM.err) TM.err
 |vA x i=>exact TM.bk (fun _=>TM.uM (fun _=>TM.ob (fun _=>TM.ok) TM.err) TM.err) TM.err
 |rH x=>exact TM.bk (fun _=>TM.aD TM.ok TM.err) TM.err
 |ym f fs l=>exact TM.ob (fun _=>TM.ob (fun _=>TM.ok) TM.err) TM.err
 |yn t x=>exact TM.bk (fun _=>TM.ok) TM.err
 |vB a b c d e f=>exact TM.bk (fun _=>TM.ff (fun _ _=>TM.gM (fun _=>TM.bk (fun _=>TM.ff (fun _ _=>TM.gM (fun _=>TM.aD (TM.aD (TM.aD (TM.rep (TM.alloc z (fun _ _=>⟨_,rfl⟩))) TM.err) TM.err) TM.err) TM.err) TM.err) TM.err) TM.err) TM.err) TM.err
 |build a b=>exact TM.ob (fun _=>TM.ok) TM.err
 |s8 a b c d e f=>exact TM.ob (fun _=>TM.alloc z (fun _ _=>⟨_,rfl⟩)) TM.err
 |len x=>exact TM.bk (fun _=>TM.eR (fun _ _ _ _ _=>TM.ok) TM.ok TM.err) TM.err
 |IG n=>exact TM.ok
 |tW x=>exact TM.bk (fun _=>TM.jm (fun _ _=>TM.ok) TM.err) TM.err
 |app a b c x y=>exact TM.bk (fun _=>TM.bk (fun _=>TM.eR (fun _ _ _ _ _=>TM.ob (fun _=>TM.iI z) TM.err) (TM.iI z) TM.err) TM.err) TM.err
 |wZ a x y=>exact TM.bk (fun _=>TM.bk (fun _=>TM.jm (fun _ _=>TM.iI z) TM.err) TM.err) TM.err
 |copy a b c=>exact TM.bk (fun _=>TM.eR (fun _ _ _ _ _=>TM.bk (fun _=>TM.mc (fun _=>TM.aD (TM.aD TM.clr TM.err) TM.err) TM.err) TM.err) TM.ok TM.err) TM.err
 |xb a b c=>exact TM.bk (fun _=>TM.ff (fun _ _=>TM.ob (fun _=>TM.ob (fun _=>TM.ok) TM.err) TM.err) TM.err) TM.err
 |conv k x=>exact TM.bk (fun _=>TM.ff (fun _ _=>TM.lq fun _=>TM.ok) TM.err) TM.err
 |Ly x=>exact TM.bk (fun _=>TM.ok) TM.err
 |CN e x=>exact TM.bk (fun _=>TM.jm (fun _ _=>TM.aD (TM.fill (TM.alloc z (fun _ _=>⟨_,rfl⟩))) TM.err) TM.err) TM.err
 |xd x=>exact TM.bk (fun _=>TM.eR (fun _ _ _ _ _=>TM.ob (fun _=>TM.ob (fun _=>TM.ct fun _=>TM.ok) TM.err) TM.err) TM.ok TM.err) TM.err
 |call f l=>exact TM.ob (fun _=>A _ _) TM.err
 |rI x l=>exact TM.bk (fun _=>TM.xe (fun _ _ _=>TM.ob (fun _=>A _ _) TM.err) TM.err) TM.err
 |xE t n x=>exact TM.bk (fun _=>TM.aD TM.ok (TM.gq (fun _ _ _=>TM.iR (fun _ _ _ _ _ _ _=>TM.aD (TM.aD (TM.aD (TM.aD (TM.aD (TM.aD (TM.aD TM.ok TM.err) TM.err) TM.err) TM.err) TM.err) TM.err) TM.err) TM.err) TM.err)) TM.err
 |JI x=>exact TM.bk (fun _=>TM.eR (fun _ _ _ _ _=>TM.aD TM.err TM.ok) TM.ok TM.err) TM.err
 |yo e x n=>exact TM.bk (fun _=>TM.aD (TM.bk (fun _=>TM.ff (fun _ _=>TM.gM (fun _=>TM.aD (TM.aD TM.ok TM.err) TM.err) TM.err) TM.err) TM.err) (TM.gq (fun _ _ _=>TM.bk (fun _=>TM.ff (fun _ _=>TM.gM (fun _=>TM.aD (TM.aD (TM.aD (TM.aD (TM.ob (fun _=>TM.ob (fun _=>TM.ct fun _=>TM.jN) TM.err) TM.err) TM.err) TM.err) TM.err) TM.err) TM.err) TM.err) TM.err) TM.err)) TM.err
mutual
theorem KG(ρ:Ho):∀(v:Value)(a:al),valOf v=some a→VR ρ a v
 |.bool b,a,h=>by simp only[valOf,eB] at h;subst h;simp[VR]
 |.int k n,a,h=>by simp only[valOf,eB] at h;subst h;simp[VR]
 |.float _ _,a,h=>by simp[valOf] at h
 |.complex _ _ _,a,h=>by simp[valOf] at h
 |.string s,a,h=>by simp only[valOf,eB] at h;subst h;simp only[VR];exact⟨s,rfl,rfl,rfl⟩
 |.pointer none,a,h=>by simp only[valOf,eB] at h;subst h;simp[VR]
 |.pointer (some _),a,h=>by simp[valOf] at h
 |.slice none l c,a,h=>by
  unfold valOf at h
  split at h<;>simp_all
  subst h;simp[VR]
 |.slice (some _) _ _,a,h=>by simp[valOf] at h
 |.map none,a,h=>by simp only[valOf,eB] at h;subst h;simp[VR]
 |.map (some _),a,h=>by simp[valOf] at h
 |.chan _,a,h=>by simp[valOf] at h
 |.func _ _ _,a,h=>by simp[valOf] at h
 |.nilFunc,a,h=>by simp only[valOf,eB] at h;subst h;simp[VR]
 |.iface _ _,a,h=>by simp[valOf] at h
 |.nilIface,a,h=>by simp only[valOf,eB] at h;subst h;simp[VR]
 |.agg ⟨cs⟩,a,h=>by
  unfold valOf at h
  split at h
  ·rename_i l z
   split at h
   ·rename_i A
    cases h
    simp only[VR];exact⟨_,rfl,Y0 ρ cs l z,A⟩
   cases h
  cases h
 |.tuple _,a,h=>by simp[valOf] at h
theorem Y0(ρ:Ho):∀(l:List Value)(z:List al),Gy l=some z→bO ρ z l
 |[],z,h=>by simp only[Gy,eB] at h;subst h;rfl
 |v::r,z,h=>by
  unfold Gy at h
  split at h
  ·rename_i x l A h2
   cases h
   exact⟨v,r,rfl,KG ρ v x A,Y0 ρ r l h2⟩
  cases h
end
def IS(P:Program)(g:Nat):Bool:=match P.globals[g]?with|some v=>v.name== "strconv.ErrRange"|none=>false
def vf(P:Program)(ρ:Ho):Prop:=∀g,g<P.globals.size→∃h,ρ g 1=some h∧h.bw=g∧h.off=0∧(IS P g=true→h.ro=true∧h.c9=true)
def xH(P:Program)(w:World):Prop:=∀g,g<P.globals.size→g<w.heap.size∧(IS P g=true→∃z A,w.cell? ⟨g,0,none⟩=some (.iface z A))
structure AR(P:Program)(ρ:Ho)(nt:Nat)(E:Env)(a:Act):Prop where
 size:a.tmps.size=nt
 defers:a.defers=[]
 tmp:∀t v,E.get t=some v→∃cv,a.tmps[t.n]?=some cv∧VR ρ v cv
 qH:vf P ρ
theorem AR.mono{P:Program}{ρ ρ':Ho}{nt:Nat}{E:Env}{a:Act}(h:AR P ρ nt E a)(A:ρ.le ρ'):AR P ρ' nt E a:=
 ⟨h.size,h.defers,fun t v e=>let⟨cv,z,h2⟩:=h.tmp t v e;⟨cv,z,h2.mono A⟩,fun g G=>let⟨x,z,h2⟩:=h.qH g G;⟨x,A _ _ _ z,h2⟩⟩
theorem AR.put{P:Program}{ρ:Ho}{nt:Nat}{E:Env}{a:Act}(h:AR P ρ nt E a){d:Key}(A:d.n<nt){v:al}{cv:Value}(G:VR ρ v cv):AR P ρ nt (E.set d v) (a.put (some d.n) cv):=by
 refine⟨by simp[Act.put,h.size],by simp[Act.put,h.defers],fun t x e=>?_,h.qH⟩;rw[T4.di] at e
 split at e
 ·rename_i z;subst z
  cases e
  exact⟨cv,by simp[Act.put,h.size,A],G⟩
 rename_i z;obtain⟨y,I,k⟩:=h.tmp t x e;exact⟨y,by simp only[Act.put];rw[Array.getElem?_setIfInBounds_ne (fun e=>z (Key.inj e.symm))];exact I,k⟩
section
variable{P:Program}{ρ:Ho}{nt:Nat}{E:Env}{a:Act}
theorem AR.bD(h:AR P ρ nt E a){x:Operand}{y:aH}{v:al}(ho:cg P x=some y)(z:y.ev E=some v):VR ρ v (a.eval x):=by
 cases x with
 |tmp t=>
  simp only[cg] at ho
  split at ho
  ·rename_i G
   cases ho
   obtain⟨cv,A,h2⟩:=h.tmp (pk t) v z;rw[A' G] at A;simp only[Act.eval];rw[yf,A];exact h2
  cases ho
 |const c=>
  simp only[cg] at ho
  split at ho
  ·rename_i w I
   cases ho
   cases z
   exact KG ρ _ _ I
  cases ho
 |global g=>
  simp only[cg] at ho
  split at ho
  ·rename_i L
   cases ho
   cases z
   obtain⟨x,M,rfl,h2,_⟩:=h.qH g L;simp only[VR,Act.eval];exact⟨x,M,by simp[h2]⟩
  cases ho
 |func f=>
  simp only[cg,eB] at ho;subst ho
  cases z
  simp only[VR,Act.eval];exact⟨#[],#[],rfl,by simp only[bO],by simp only[bO]⟩
theorem AR.cR(h:AR P ρ nt E a):∀{I:List Operand}{ys:List aH}{vs:List al},jB P I=some ys→ik E ys=some vs→bO ρ vs (I.map a.eval)
 |[],ys,vs,ho,A=>by
  simp only[jB,eB] at ho;subst ho
  cases A
  rfl
 |x::r,ys,vs,ho,A=>by
  simp only[jB] at ho
  split at ho
  ·rename_i y l L M
   cases ho
   have z:ob (y.ev E) none (fun v=>ob (ik E l) none fun vs=>some (v::vs))=some vs:=A
   cases G:y.ev E with
   |none=>rw[G] at z;cases z
   |some v=>
    rw[G] at z
    cases h2:ik E l with
    |none=>rw[h2] at z;cases z
    |some O=>
     rw[h2] at z
     cases z
     exact⟨_,_,rfl,h.bD L G,AR.cR h M h2⟩
  cases ho
end
def dX(P:Program)(o:Oper)(a:Act)(w:World)(Φ:Value→World→Prop):Prop:=
 (∃cv w',(execOp a.eval o).run P w= .ok (.value cv) w'∧Φ cv w')∨
 (∃w',(execOp a.eval o).run P w= .ok .skip w'∧Φ undef w')∨
 (∃f args,(execOp a.eval o).run P w= .ok (.enter f args) w∧Calls P f args w fun e w'=>∃cv,e= .returned cv∧Φ cv w')
theorem YB{P:Program}{o:Oper}{a:Act}{w:World}{Φ:Value→World→Prop}{K:Act→World→Prop}{Q:Exit→Act→World→Prop}
  (h:dX P o a w Φ) (A:∀cv w',Φ cv w'→K (a.put o.dst cv) w'):o.wp P a w K Q:=by
 unfold Oper.wp;rcases h with⟨cv,w',e,z⟩|⟨w',e,z⟩|⟨f,args,e,z⟩
 ·rw[e];exact A _ _ z
 ·rw[e];exact A _ _ z
 rw[e];refine Calls.mono z fun e w' G=>?_
 obtain⟨cv,rfl,z⟩:=G;exact A _ _ z
def dZ(C:Nat→Option cT)(H H':aw)(f:Nat):Option cT:=
 open Classical in
 if H.next≤f∧f<H'.next then H'.t.get f else if H'.t.get f=H.t.get f then C f else H'.t.get f
def Wr(H':aw)(f:Nat):Prop:=f∈H'.ws∨H'.aQ≤f
def cP(ρ:Ho)(C:Nat→Option cT)(w:World)(H:aw)(v:al)(H':aw)(cv:Value)(w':World):Prop:=
 ∃ρ',VR ρ' v cv∧Ext (Wr H') H.next H'.next ρ ρ' w w'∧R ρ' (dZ C H H') w'
theorem oL(C:Nat→Option cT)(H:aw):dZ C H H=C:=by
 funext f
 unfold dZ;rw[aZ ah,bh rfl]
theorem cP.pure{ρ:Ho}{C:Nat→Option cT}{w:World}{H:aw}{v:al}{cv:Value}(z:R ρ C w)(A:VR ρ v cv):cP ρ C w H v H cv w:=
 ⟨ρ,A,Ext.refl _ _ _ _,by rw[oL];exact z⟩
theorem KY{a b:IntKind}(h:Nat.beq (cu a) (cu b)=true):a=b:=by cases a<;>cases b<;>first|rfl|cases h
theorem nL(a b:Int):fq a b=decide (a<b):=by
 rw[yg,decide_eq_true_iff]
 cases a with
 |ofNat a=>cases b with
  |ofNat b=>simp only[fq,Nat.ble_eq,fQ];omega
  |negSucc b=>simp only[fq,fQ,kp,fW,false_iff];omega
 |negSucc a=>cases b with
  |ofNat b=>simp only[fq,fQ,kp,true_iff];omega
  |negSucc b=>simp only[fq,Nat.ble_eq,kp];omega
theorem td(a b:Int):kW a b=decide (a=b):=by
 rw[yg,decide_eq_true_iff]
 cases a with
 |ofNat a=>cases b with
  |ofNat b=>simp only[kW,ui,fQ];omega
  |negSucc b=>simp only[kW,fQ,kp,fW,false_iff];omega
 |negSucc a=>cases b with
  |ofNat b=>simp only[kW,fQ,kp,fW,false_iff];omega
  |negSucc b=>simp only[kW,ui,kp];omega
theorem Yi(a b:List UInt8):pack (a++b)=pack a+256^a.length*pack b:=by
 induction a with
 |nil=>simp[pack]
 |cons x r z=>
  simp only[DS,pack,z,gr,Nv];rw[Nat.mul_add,←kr,←Nat.mul_assoc,qC 256 (256^r.length)]
theorem aaJ(a:List UInt8):pack a<256^a.length:=by
 induction a with
 |nil=>simp[pack]
 |cons x r z=>
  simp only[pack,gr,Nv];have:x.toNat<256:=x.toNat_lt;omega
theorem Y1(l:List UInt8)(i:Nat):pack l/256^i=pack (l.drop i):=by
 induction i generalizing l with
 |zero=>simp
 |succ i z=>
  cases l with
  |nil=>simp[pack]
  |cons x r=>
   simp only[pack,List.drop_succ_cons];have A:x.toNat<256:=x.toNat_lt;have e:(x.toNat+256*pack r)/256=pack r:=by omega
   rw[Nv,qC (256^i) 256,←Nat.div_div_eq_div_mul,e,z]
theorem Y2(l:List UInt8)(n:Nat):pack l % 256^n=pack (l.take n):=by
 by_cases h:n≤l.length
 ·have z:pack l=pack (l.take n)+256^n*pack (l.drop n):=by
   have:=Yi (l.take n) (l.drop n);rw[DT,lF,Nat.min_eq_left h] at this;exact this
  have h2:=aaJ (l.take n);rw[lF,Nat.min_eq_left h] at h2;rw[z,Nat.add_mul_mod_self_left,DU h2]
 have h':l.length≤n:=by omega
 rw[mq h'];refine DU (jg (aaJ l) ?_);exact Nat.pow_le_pow_right ah h'
theorem U0(i:Nat):2^(8*i)=256^i:=by rw[Nat.pow_mul]
theorem ah8(v i:Nat):Nat.shiftRight v (Nat.mul 8 i)=v/256^i:=by
 show v>>>(8*i)=_;rw[Nat.shiftRight_eq_div_pow,U0]
theorem Yj(l:List UInt8)(i:Nat)(h:i<l.length):oQ (pack l) i=(l[i]).toNat:=by
 unfold oQ;rw[ah8,Y1];show pack (l.drop i) % 256=_;have z:=Y2 (l.drop i) 1;rw[lm36] at z;have e:(l.drop i).take 1=[l[i]]:=by rw[IA h];rfl
 rw[e] at z;rw[z];show l[i].toNat+256*0=_;omega
theorem strSub_pack(l:List UInt8)(lo hi:Nat):Rw (pack l) lo hi=pack ((l.drop lo).take (hi-lo)):=by
 unfold Rw;rw[ah8,Y1,←Y2];show _ % (1<<<(8*(hi-lo)))=_;rw[Nat.shiftLeft_eq,A6,U0]
theorem Yk(a b:List UInt8):Gq a.length (pack a) (pack b)=pack (a++b):=by
 unfold Gq;rw[Yi];show pack a+(pack b)<<<(8*a.length)=_;rw[Nat.shiftLeft_eq,U0,qC]
theorem ZP:∀{a b:List UInt8},a.length=b.length→pack a=pack b→a=b
 |[],[],_,_=>rfl
 |[],_::_,h,_=>by simp at h
 |_::_,[],h,_=>by simp at h
 |x::r,y::s,h,k=>by
  simp only[pack] at k;have G:x.toNat<256:=x.toNat_lt;have I:y.toNat<256:=y.toNat_lt;have z:x.toNat=y.toNat:=by omega
  have A:pack r=pack s:=by omega
  rw[ZP (by simpa using h) A,UInt8.toNat_inj.1 z]
theorem Kr(a b:List UInt8):tn a.length (pack a) b.length (pack b)=decide (a=b):=by
 unfold tn;rw[yg,decide_eq_true_iff];constructor
 ·intro h
  split at h
  ·rename_i z;exact ZP (cq z) (cq h)
  cases h
 rintro rfl;simp
theorem YC:∀(a b:List UInt8),strLt a.length (pack a) b.length (pack b)=Op.bytesLess a b
 |[],[]=>rfl
 |[],_::_=>rfl
 |x::r,[]=>rfl
 |x::r,y::s=>by
  have O:x.toNat<256:=x.toNat_lt;have U:y.toNat<256:=y.toNat_lt;have z:Nat.mod (pack (x::r)) 256=x.toNat:=by show(x.toNat+256*pack r) % 256=_;omega
  have A:Nat.mod (pack (y::s)) 256=y.toNat:=by show(y.toNat+256*pack s) % 256=_;omega
  have G:Nat.div (pack (x::r)) 256=pack r:=by show(x.toNat+256*pack r)/256=_;omega
  have I:Nat.div (pack (y::s)) 256=pack s:=by show(y.toNat+256*pack s)/256=_;omega
  have step:strLt (x::r).length (pack (x::r)) (y::s).length (pack (y::s))=
    match Nat.beq (Nat.mod (pack (x::r)) 256) (Nat.mod (pack (y::s)) 256) with
    |true=>strLt r.length (Nat.div (pack (x::r)) 256) s.length (Nat.div (pack (y::s)) 256)
    |false=>Nat.ble (Nat.succ (Nat.mod (pack (x::r)) 256)) (Nat.mod (pack (y::s)) 256):=rfl
  rw[step,z,A,G,I,YC r s];simp only[Op.bytesLess]
  by_cases h:x=y
  ·subst h;have:¬(x<x):=by rw[IB];omega
   simp[this]
  have L:Nat.beq x.toNat y.toNat=false:=by
   rw[←OF,ui];exact fun e=>h (UInt8.toNat_inj.1 e)
  rw[L];have M:(x==y)=false:=by simpa using h
  simp only[M,Bool.false_and,Bool.or_false];rw[yg,Nat.ble_eq,decide_eq_true_iff,IB];exact gS
end Go.Ev
