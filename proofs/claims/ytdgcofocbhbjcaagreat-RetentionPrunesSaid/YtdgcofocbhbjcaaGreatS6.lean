/- Part 6 of rules for walks through the code of a program, and of such walks; what each part proves is said by its theorems. -/
import Derived.Test.YtdgcofocbhbjcaaGreatS5
set_option linter.unusedVariables false
set_option linter.unusedSimpArgs false
noncomputable section
set_option maxRecDepth 100000
set_option maxHeartbeats 4000000
namespace Go.Ev
def aC.mark(H:aC):aC:=⟨H.next,H.next,[],H.t⟩
def AV(H H1:aC):aC:=⟨H1.next,H.bb,oc H.bb H.ws H1.ws,H1.t⟩
theorem CX(bb:Nat)(ws:List Nat):∀(new:List Nat)(x:Nat),x∈oc bb ws new↔x∈ws∨(x∈new∧x<bb)
 |[],x=>by show x∈ws↔_;simp
 |f::r,x=>by
  show x∈wrote f bb (oc bb ws r)↔_
  rw[uP,CX bb ws r]
  simp only[qv]
  constructor
  ·rintro((h|⟨h,k⟩)|⟨rfl,k⟩)
   ·exact .inl h
   ·exact .inr ⟨.inr h,k⟩
   exact .inr ⟨.inl rfl,k⟩
  rintro(h|⟨rfl|h,k⟩)
  ·exact .inl (.inl h)
  ·exact .inr ⟨rfl,k⟩
  exact .inl (.inr ⟨h,k⟩)
theorem ey.AV{H H1:aC}(A:H.bb≤H.next)(h:ey H.mark H1):ey H (AV H H1):=
 ⟨h.next,rfl,fun f p=>(CX _ _ _ _).2 (.inl p),fun f p z=>h.same f (by show f<H.next;omega) (fun e=>z ((CX _ _ _ _).2 (.inr ⟨e,p⟩))),h.wf,h.gl⟩
theorem Ub{l m:List Nat}(h:Bg l m=true):∀x,x∈l→x∉m:=by
 induction l with
 |nil=>intro x p;cases p
 |cons y r F=>
  have h:aI (oA y m) false (Bg r m)=true:=h
  intro x p A
  cases z:oA y m
  ·rw[z] at h
   cases p with
   |head=>rw[(Hy _ _).2 A] at z;cases z
   |tail _ p=>exact F h x p A
  rw[z] at h;cases h
theorem Uc{l:List Nat}{r:Option (List Nat)}(h:Et l r=true){x:Nat}(p:x∈l):∃m,r=some m∧x∉m:=by
 cases l with
 |nil=>cases p
 |cons y s=>
  cases r with
  |none=>cases h
  |some m=>exact⟨m,rfl,Ub (l:=y::s) h x p⟩
theorem outN_mem{l:List Nat}{lo hi:Nat}(h:wg l lo hi=true):∀x,x∈l→¬(lo≤x∧x<hi):=by
 induction l with
 |nil=>intro x p;cases p
 |cons y r G=>
  have h:aI (Nat.ble lo y) (aI (Nat.ble hi y) (wg r lo hi) false) (wg r lo hi)=true:=h
  intro x p⟨A,h2⟩
  cases z:Nat.ble lo y
  ·rw[z] at h
   cases p with
   |head=>rw[gD A] at z;cases z
   |tail _ p=>exact G h x p ⟨A,h2⟩
  rw[z] at h
  have h:aI (Nat.ble hi y) (wg r lo hi) false=true:=h
  cases F:Nat.ble hi y
  ·rw[F] at h;cases h
  rw[F] at h
  cases p with
  |head=>have:=aX F;omega
  |tail _ p=>exact G h x p ⟨A,h2⟩
structure AJ(a b:FP):Prop where
 ab:∀x,x∈a.ws→∃m,b.rd=some m∧x∉m
 ba:∀x,x∈b.ws→∃m,a.rd=some m∧x∉m
 ww:∀x,x∈a.ws→x∉b.ws
 out:∀x,x∈a.ws→¬(b.lo≤x∧x<b.hi)
theorem apartFP_ok{a b:FP}(h:oY a b=true):AJ a b:=by
 unfold oY at h
 have z:∀{p:Bool}{q:Bool},aI p q false=true→p=true∧q=true:=by intro p q h;cases p;cases h;exact⟨rfl,h⟩
 obtain⟨A,h⟩:=z h
 obtain⟨h2,h⟩:=z h
 obtain⟨F,h⟩:=z h
 exact⟨fun x=>Uc A,fun x=>Uc h2,Ub F,outN_mem h⟩
theorem Tq{a:FP}{bB:List FP}:∀{l:List Nat},nr a bB l=true→∀k,k∈l→∃b,bB[k]?=some b∧AJ a b
 |[],_,k,p=>by cases p
 |i::r,h,k,p=>by
  have h:ob (bB[i]?) false (fun b=>aI (oY a b) (nr a bB r) false)=true:=h
  cases z:bB[i]?with
  |none=>rw[z] at h;cases h
  |some b=>
   rw[z] at h
   have h:aI (oY a b) (nr a bB r) false=true:=h
   cases A:oY a b
   ·rw[A] at h;cases h
   rw[A] at h
   cases p with
   |head=>exact⟨b,z,apartFP_ok A⟩
   |tail _ p=>exact Tq h k p
inductive pa(call:dr)(o:bK)(E:Env)(H:aC)(bB:List FP):Bool→aw→FP→aC→Prop
 |skip {fp:FP}:mf E o.g false→(o.q.isSome=true→fp=⟨some [],[],0,0⟩)→pa call o E H bB false .undef fp H
 |plain {v:aw} {fp:FP} {H1:aC}:mf E o.g true→o.q=none→o.op.ev call E H= .ok v H1→pa call o E H bB true v fp H1
 |marked {v:aw} {q:List Nat} {H1:aC}:mf E o.g true→o.q=some q→o.op.ev call E H.mark= .ok v H1→nr ⟨o.op.reads E,H1.ws,H.next,H1.next⟩ bB q=true→
   pa call o E H bB true v ⟨o.op.reads E,H1.ws,H.next,H1.next⟩ (AV H H1)
def C5(o:bK)(fp:FP)(bB:List FP):List FP:=match o.q with|some _=>fp::bB|none=>bB
theorem finQ_ok{rs:Option (List Nat)}{l:List Nat}{next bb:Nat}{ws:List Nat}{bB:List FP}{dst:Option Key}{E E':Env}{H':aC}{k:Env→aC→List FP→dq}{v:aw}{next' z:Nat}{p:List Nat}{t':HT}
  (h:B9 rs l next bb ws bB dst E k (.ok v ⟨next',z,p,t'⟩)= .ok E' H'):
  nr ⟨rs,p,next,next'⟩ bB l=true∧k (iD E dst v) ⟨next',bb,oc bb ws p,t'⟩ (⟨rs,p,next,next'⟩::bB)= .ok E' H':=by
 unfold B9 at h
 dsimp only at h
 cases A:nr ⟨rs,p,next,next'⟩ bB l
 ·rw[A] at h;cases h
 rw[A,dw] at h
 refine⟨rfl,?_⟩
 cases dst with
 |none=>exact h
 |some d=>
  dsimp only at h
  rw[T4.Dd] at h
  exact h
theorem UL{call:dr}{o:bK}{E E':Env}{H H':aC}{bB:List FP}{k:Env→aC→List FP→dq}(h:o.jQ call E H bB k= .ok E' H'):
  ∃b v fp H1,pa call o E H bB b v fp H1∧k (iD E o.dst v) H1 (C5 o fp bB)= .ok E' H':=by
 have run:mf E o.g true→o.oB call E H bB k= .ok E' H'→∃b v fp H1,pa call o E H bB b v fp H1∧k (iD E o.dst v) H1 (C5 o fp bB)= .ok E' H':=by
  intro p h
  obtain⟨dst,g,q,op⟩:=o
  cases q with
  |none=>
   obtain⟨v,H1,I,h2⟩:=Iu (k:=fun E H=>k E H bB) h
   exact⟨true,v,⟨none,[],0,0⟩,H1,.plain p rfl I,h2⟩
  |some q=>
   cases H with
   |mk next bb ws t=>
    have h:cA next (fun next=>B9 (op.reads E) q next bb ws bB dst E k (op.ev call E ⟨next,next,[],t⟩))= .ok E' H':=h
    rw[eP] at h
    cases G:op.ev call E ⟨next,next,[],t⟩ with
    |err n=>rw[G] at h;cases h
    |ok v H1=>
     rw[G] at h
     cases H1 with
     |mk next' z A t'=>
      obtain⟨J,h⟩:=finQ_ok h
      exact⟨true,v,⟨op.reads E,A,next,next'⟩,AV ⟨next,bb,ws,t⟩ ⟨next',z,A,t'⟩,.marked (q:=q) (H1:=⟨next',z,A,t'⟩) p rfl G J,h⟩
 have skip:mf E o.g false→ib o.dst E H (fun E H=>k E H (nF o.q bB))= .ok E' H'→∃b v fp H1,pa call o E H bB b v fp H1∧k (iD E o.dst v) H1 (C5 o fp bB)= .ok E' H':=by
  intro p h
  rw[uU] at h
  obtain⟨dst,g,q,op⟩:=o
  refine⟨false,.undef,⟨some [],[],0,0⟩,H,.skip p (fun _=>rfl),?_⟩
  cases q<;>exact h
 obtain⟨dst,g,q,op⟩:=o
 cases g with
 |none=>exact run .none h
 |some K=>
  obtain⟨t,want⟩:=K
  have h:ob (E.get t) (dq.err 51) (fun v=>we v (ib dst E H fun E H=>k E H (nF q bB)) fun b=>aI (Bool.xor b want) (ib dst E H fun E H=>k E H (nF q bB)) (bK.oB call ⟨dst,some (t,want),q,op⟩ E H bB k))= .ok E' H':=h
  cases F:E.get t with
  |none=>rw[F] at h;cases h
  |some v=>
   rw[F] at h
   cases v<;>try(cases h;done)
   case undef=>exact skip (.off F) h
   rename_i b
   have h:aI (Bool.xor b want) (ib dst E H fun E H=>k E H (nF q bB)) (bK.oB call ⟨dst,some (t,want),q,op⟩ E H bB k)= .ok E' H':=h
   have p:=mf.slot (E:=E) (want:=want) F
   cases b<;>cases want
   ·exact run p h
   ·exact skip p h
   ·exact skip p h
   exact run p h
structure Trace(call:dr)(l:List bK)(E:Env)(H:aC)(bB:List FP)(E':Env)(H':aC)(Es:Nat→Env)(Hs:Nat→aC)(Rs:Nat→List FP)(Wn:Nat→Bool)(Vs:Nat→aw)(Fp:Nat→FP):Prop where
 e0:Es 0=E
 h0:Hs 0=H
 r0:Rs 0=bB
 eN:Es l.length=E'
 hN:Hs l.length=H'
 step:∀i o,l[i]?=some o→pa call o (Es i) (Hs i) (Rs i) (Wn i) (Vs i) (Fp i) (Hs (i+1))∧Es (i+1)=iD (Es i) o.dst (Vs i)∧Rs (i+1)=C5 o (Fp i) (Rs i)
theorem UM{call:dr}:∀(l:List bK)(E:Env)(H:aC)(bB:List FP)(E':Env)(H':aC),jb call l E H bB= .ok E' H'→
  ∃Es Hs Rs Wn Vs Fp,Trace call l E H bB E' H' Es Hs Rs Wn Vs Fp
 |[],E,H,bB,E',H',h=>by
  cases h
  exact⟨fun _=>E,fun _=>H,fun _=>bB,fun _=>true,fun _=>.undef,fun _=>⟨none,[],0,0⟩,rfl,rfl,rfl,rfl,rfl,fun i o h=>by simp at h⟩
 |o::r,E,H,bB,E',H',h=>by
  obtain⟨b,v,fp,H1,z,h2⟩:=UL (show o.jQ call E H bB (jb call r)= .ok E' H' from h)
  obtain⟨Es,Hs,Rs,Wn,Vs,Fp,t⟩:=UM r _ _ _ _ _ h2
  refine⟨fun|0=>E|i+1=>Es i,fun|0=>H|i+1=>Hs i,fun|0=>bB|i+1=>Rs i,fun|0=>b|i+1=>Wn i,fun|0=>v|i+1=>Vs i,fun|0=>fp|i+1=>Fp i,rfl,rfl,rfl,t.eN,t.hN,fun i x p=>?_⟩
  cases i with
  |zero=>
   simp at p
   subst p
   simp only[t.e0,t.h0,t.r0]
   exact⟨z,True.intro,True.intro⟩
  |succ i=>exact t.step i x (by simpa using p)
def PS(H:aC)(r:aF):Prop:=∀v H',r= .ok v H'→H'=H
theorem PS.err{H:aC}{n:Nat}:PS H (.err n):=fun _ _ h=>by cases h
theorem PS.ok{H:aC}{v:aw}:PS H (.ok v H):=fun _ _ h=>by cases h;rfl
theorem PS.aI{H:aC}{b:Bool}{k e:aF}(h:PS H k)(h':PS H e):PS H (aI b k e):=by cases b;exact h';exact h
theorem PS.ob{H:aC}{α:Type}{o:Option α}{e:aF}{k:α→aF}(h:∀x,PS H (k x))(h':PS H e):PS H (ob o e k):=by cases o;exact h';exact h _
theorem PS.bD{H:aC}{x:aM}{E:Env}{e:aF}{k:aw→aF}(h:∀x,PS H (k x))(h':PS H e):PS H (bD x E e k):=by
 cases x with
 |t i=>exact PS.ob (o:=E.get i) h h'
 |c a=>exact h a
theorem PS.sV{H:aC}{a:aw}{e:aF}{k:Bool→aF}(h:∀x,PS H (k x))(h':PS H e):PS H (sV a e k):=by cases a<;>first|exact h'|exact h _
theorem PS.ew{H:aC}{a:aw}{e:aF}{k:IntKind→Int→aF}(h:∀x y,PS H (k x y))(h':PS H e):PS H (ew a e k):=by cases a<;>first|exact h'|exact h _ _
theorem PS.iM{H:aC}{a:aw}{e:aF}{k:Nat→Nat→aF}(h:∀x y,PS H (k x y))(h':PS H e):PS H (iM a e k):=by cases a<;>first|exact h'|exact h _ _
theorem PS.gA{H:aC}{a:aw}{e:aF}{k:Nat→Nat→Nat→aF}(h:∀x y z,PS H (k x y z))(h':PS H e):PS H (gA a e k):=by cases a<;>first|exact h'|exact h _ _ _
theorem PS.eG{H:aC}{a:aw}{e p:aF}{k:Nat→Nat→Nat→Nat→Nat→aF}(h:∀x y z u w,PS H (k x y z u w))(h2:PS H p)(h':PS H e):PS H (eG a e p k):=by cases a<;>first|exact h'|exact h2|exact h _ _ _ _ _
theorem PS.mc{H:aC}{a:aw}{e:aF}{k:List aw→aF}(h:∀x,PS H (k x))(h':PS H e):PS H (mc a e k):=by cases a<;>first|exact h'|exact h _
theorem PS.sQ{H:aC}{a:aw}{e:aF}{k:List aw→aF}(h:∀x,PS H (k x))(h':PS H e):PS H (sQ a e k):=by cases a<;>first|exact h'|exact h _
theorem PS.vd{H:aC}{a:aw}{e:aF}{k:Nat→List aw→List aw→aF}(h:∀x y z,PS H (k x y z))(h':PS H e):PS H (vd a e k):=by cases a<;>first|exact h'|exact h _ _ _
theorem PS.fQ{H:aC}{i:Int}{e:aF}{k:Nat→aF}(h:∀x,PS H (k x))(h':PS H e):PS H (fQ i e k):=by cases i;exact h _;exact h'
theorem PS.idx{H:aC}{a:aw}{n:Nat}{e:aF}{k:Nat→aF}(h:∀x,PS H (k x))(h':PS H e):PS H (idx a n e k):=PS.ew (fun _ _=>PS.fQ (fun _=>PS.aI (h _) h') h') h'
theorem PS.dK{H:aC}{E:Env}{x:Option aM}{d y:Nat}{e:aF}{k:Nat→aF}(h:∀x,PS H (k x))(h':PS H e):PS H (dK E x d y e k):=by
 cases x with
 |none=>exact h _
 |some z=>exact PS.ob (fun _=>PS.ew (fun _ _=>PS.fQ (fun _=>PS.aI (h _) h') h') h') h'
theorem PS.iN{H:aC}{o:Option cZ}{e:aF}{k:Nat→Nat→Nat→Nat→Nat→Nat→RT→aF}(h:∀a b c d e f g,PS H (k a b c d e f g))(h':PS H e):PS H (iN o e k):=by
 cases o with
 |none=>exact h'
 |some o=>cases o with
  |row=>exact h _ _ _ _ _ _ _
  |map=>exact h'
theorem PS.fD{H:aC}{agg:Bool}{l:List aw}{e:aF}{k:aw→aF}(h:∀x,PS H (k x))(h':PS H e):PS H (fD agg l e k):=by
 refine PS.aI (h _) ?_
 cases l with
 |nil=>exact h'
 |cons x r=>cases r with
  |nil=>exact h _
  |cons=>exact h'
theorem PS.cA{H:aC}{n:Nat}{k:Nat→aF}(h:∀x,PS H (k x)):PS H (cA n k):=by rw[eP];exact h _
theorem PS.jM{H:aC}{n:Int}{k:Int→aF}(h:∀x,PS H (k x)):PS H (jM n k):=by rw[sI];exact h _
theorem PS.l8{H:aC}{n:aw}{k:aw→aF}(h:∀x,PS H (k x)):PS H (l8 n k):=by rw[uO];exact h _
theorem PS.nx{H:aC}{n:Bool}{k:Bool→aF}(h:∀x,PS H (k x)):PS H (nx n k):=by cases n<;>exact h _
theorem pure_same{call:dr}{H:aC}{E:Env}{o:bF}(p:l9 o=true):PS H (o.ev call E H):=by
 cases o with
 |cG x=>exact PS.bD (fun _=>PS.ok) PS.err
 |pick c a b=>exact PS.bD (fun _=>PS.sV (fun _=>PS.aI (PS.bD (fun _=>PS.ok) PS.err) (PS.bD (fun _=>PS.ok) PS.err)) PS.err) PS.err
 |oz a b c d=>cases p
 |box a b c d=>cases p
 |load a b c=>cases p
 |store a b c=>cases p
 |bin op x y=>exact PS.bD (fun _=>PS.bD (fun _=>by rw[HR];exact PS.ob (fun _=>PS.l8 fun _=>PS.ok) PS.err) PS.err) PS.err
 |eqv c n x y=>exact PS.bD (fun _=>PS.bD (fun _=>PS.ob (fun _=>PS.nx fun _=>PS.ok) PS.err) PS.err) PS.err
 |un op x=>exact PS.bD (fun _=>PS.ob (fun _=>PS.l8 fun _=>PS.ok) PS.err) PS.err
 |dt x k=>exact PS.bD (fun _=>PS.gA (fun _ _ _=>PS.cA fun _=>PS.ok) PS.err) PS.err
 |sub x a b c=>exact PS.bD (fun _=>PS.mc (fun _=>PS.aI (PS.fD (fun _=>PS.ok) PS.err) PS.err) PS.err) PS.err
 |xF a b x i=>exact PS.bD (fun _=>PS.gA (fun _ _ _=>PS.bD (fun _=>PS.idx (fun _=>PS.cA fun _=>PS.ok) PS.err) PS.err) PS.err) PS.err
 |fP a x i=>exact PS.bD (fun _=>PS.eG (fun _ _ _ _ _=>PS.bD (fun _=>PS.idx (fun _=>PS.cA fun _=>PS.ok) PS.err) PS.err) PS.err PS.err) PS.err
 |AO a b c x i=>exact PS.bD (fun _=>PS.mc (fun _=>PS.bD (fun _=>PS.idx (fun _=>PS.aI (PS.fD (fun _=>PS.ok) PS.err) PS.err) PS.err) PS.err) PS.err) PS.err
 |AP x i=>exact PS.bD (fun _=>PS.iM (fun _ _=>PS.bD (fun _=>PS.idx (fun _=>PS.cA fun _=>PS.ok) PS.err) PS.err) PS.err) PS.err
 |Ed x a b=>exact PS.bD (fun _=>PS.iM (fun _ _=>PS.dK (fun _=>PS.dK (fun _=>PS.cA fun _=>PS.cA fun _=>PS.ok) PS.err) PS.err) PS.err) PS.err
 |rX n x a b=>exact PS.bD (fun _=>PS.eG (fun _ _ _ _ _=>PS.aI (PS.dK (fun _=>PS.dK (fun _=>PS.cA fun _=>PS.cA fun _=>PS.ok) PS.err) PS.err) PS.err) (PS.dK (fun _=>PS.dK (fun _=>PS.ok) PS.err) PS.err) PS.err) PS.err
 |Gw n x a b c=>exact PS.bD (fun _=>PS.eG (fun _ _ _ _ _=>PS.aI (PS.dK (fun _=>PS.aI (PS.dK (fun _=>PS.dK (fun _=>PS.cA fun _=>PS.cA fun _=>PS.ok) PS.err) PS.err) PS.err) PS.err) PS.err) PS.err PS.err) PS.err
 |tD x i=>exact PS.bD (fun _=>PS.sQ (fun _=>PS.ob (fun _=>PS.ok) PS.err) PS.err) PS.err
 |ql x=>exact PS.bD (fun _=>PS.aI PS.ok PS.err) PS.err
 |wa f fs l=>exact PS.ob (fun _=>PS.ob (fun _=>PS.ok) PS.err) PS.err
 |wb t x=>exact PS.bD (fun _=>PS.ok) PS.err
 |tE a b c d e f=>cases p
 |build a b=>exact PS.ob (fun _=>PS.ok) PS.err
 |rf a b c d e f=>cases p
 |len x=>exact PS.bD (fun _=>PS.eG (fun _ _ _ _ _=>PS.ok) PS.ok PS.err) PS.err
 |FE n=>exact PS.ok
 |rY x=>exact PS.bD (fun _=>PS.iM (fun _ _=>PS.ok) PS.err) PS.err
 |app a b c x y=>cases p
 |va a x y=>cases p
 |copy a b c=>cases p
 |vb a b c=>exact PS.bD (fun _=>PS.ew (fun _ _=>PS.ob (fun _=>PS.ob (fun _=>PS.ok) PS.err) PS.err) PS.err) PS.err
 |conv k x=>exact PS.bD (fun _=>PS.ew (fun _ _=>PS.jM fun _=>PS.ok) PS.err) PS.err
 |Ik x=>exact PS.bD (fun _=>PS.ok) PS.err
 |AQ e x=>cases p
 |vc x=>cases p
 |call f l=>cases p
 |rA x l=>cases p
 |vt t n x=>cases p
 |Gx x=>exact PS.bD (fun _=>PS.eG (fun _ _ _ _ _=>PS.aI PS.err PS.ok) PS.ok PS.err) PS.err
 |wc e x n=>cases p
theorem pure_reads{E:Env}{o:bF}(p:l9 o=true):o.reads E=some []:=by
 cases o<;>first|rfl|cases p
inductive jO(ops:Array Oper):Nat→Nat→Prop
 |Kl {j:Nat} {o:Oper} {e:Edge}:ops[j]?=some o→e∈o.after→Region.binds .any e=true→jO ops e.on j
 |step {i k j:Nat}:jO ops i k→jO ops k j→jO ops i j
def Iv(ops:Array Oper)(S:Nat→Bool):Prop:=∀j o e,ops[j]?=some o→e∈o.after→Region.binds .any e=true→S j=true→S e.on=true
def Pc(ops:Array Oper)(S:Nat→Bool)(j:Nat):Prop:=∀o e,ops[j]?=some o→e∈o.after→Region.binds .any e=true→S e.on=true
theorem jO.closed{ops:Array Oper}{S:Nat→Bool}(A:Iv ops S){i j:Nat}(h:jO ops i j):S j=true→S i=true:=by
 induction h with
 |Kl F h2 G=>exact fun h=>A _ _ _ F h2 G h
 |step _ _ p z=>exact fun h=>p (z h)
theorem jO.ready{ops:Array Oper}{S:Nat→Bool}(A:Iv ops S){i j:Nat}(h:jO ops i j):Pc ops S j→S i=true:=by
 induction h with
 |Kl p h2 F=>exact fun h=>h _ _ p h2 F
 |step p _ _ z=>exact fun h=>p.closed A (z h)
def CI(ms:List Nat):List Edge→Nat
 |[]=>0
 |e::r=>if Region.binds .any e=true then 2^e.on|||ms.getD e.on 0|||CI ms r else CI ms r
def At:List Oper→List Nat→List Nat
 |[],ms=>ms
 |o::r,ms=>At r (ms++[CI ms o.after.toList])
def HB:Nat→List Oper→Bool
 |_,[]=>true
 |k,o::r=>(o.after.toList.all fun e=>!Region.binds .any e||decide (e.on<k))&&HB (k+1) r
theorem WW{ops:Array Oper}{ms:List Nat}(p:∀j i,(ms.getD j 0).testBit i=true→jO ops i j){j:Nat}{o:Oper}(ho:ops[j]?=some o):
  ∀(l:List Edge),(∀e,e∈l→e∈o.after)→∀i,(CI ms l).testBit i=true→jO ops i j
 |[],_,i,h=>by simp[CI] at h
 |e::r,z,i,h=>by
  have A:=WW p ho r (fun e G=>z e (qw _ G)) i
  unfold CI at h
  split at h
  ·rename_i F
   rw[Nat.testBit_or,Nat.testBit_or] at h
   simp only[tq] at h
   rcases h with(h|h)|h
   ·rw[Nat.testBit_two_pow] at h
    have:e.on=i:=by simpa using h
    subst this
    exact .Kl ho (z e (jU ..)) F
   ·exact .step (p _ _ h) (.Kl ho (z e (jU ..)) F)
   exact A h
  exact A h
theorem Td{ops:Array Oper}:∀(l:List Oper)(ms:List Nat),(∀n,l[n]?=ops[ms.length+n]?)→(∀j i,(ms.getD j 0).testBit i=true→jO ops i j)→
  ∀j i,((At l ms).getD j 0).testBit i=true→jO ops i j
 |[],ms,_,h=>h
 |o::r,ms,A,h=>by
  refine Td r _ (fun n=>?_) fun j i p=>?_
  ·have:=A (n+1)
   simp only[aac] at this
   rw[this];simp only[fZ,kZ,nK];congr 1;omega
  have ho:ops[ms.length]?=some o:=by have:=A 0;simpa using this.symm
  rcases Qo j ms.length with z|rfl|F
  ·rw[Jd,tn z,←Jd] at p
   exact h j i p
  ·rw[Jd,rQ (bM _)] at p
   simp only[Nat.sub_self,List.getElem?_cons_zero,Option.getD_some] at p
   exact WW h ho _ (fun e G=>by simpa using G) i p
  rw[Jd,yL (by simp;omega)] at p
  simp at p
theorem Ts:∀(l:List Oper)(k:Nat),HB k l=true→∀n o e,l[n]?=some o→e∈o.after→Region.binds .any e=true→e.on<k+n
 |[],_,_,n,o,e,h,_,_=>by simp at h
 |x::r,k,h,n,o,e,p,z,A=>by
  unfold HB at h
  simp only[ep,J4] at h
  cases n with
  |zero=>
   simp at p;subst p
   have:=h.1 e (by simpa using z)
   simpa[A] using this
  |succ n=>
   have:=Ts r (k+1) h.2 n o e (by simpa using p) z A
   omega
def slotOf:aM→Option Key
 |.t n=>some n
 |_=>none
def sW(o:bK):List Key:=o.op.cR.filterMap slotOf++(match o.g with|some (t,_)=>[t]|none=>[])
def Ez(d:Option Key)(l:List Key):Bool:=match d with|some d=>!(l.contains d)|none=>true
def M5(x y:bK):Bool:=Ez x.dst (sW y)&&Ez x.dst y.dst.toList&&Ez y.dst (sW x)
def WX(ms:List Nat)(l:List bK):Bool:=
 (List.range l.length).all fun j=>(List.range j).all fun i=>(ms.getD j 0).testBit i||(match l[i]?,l[j]?with|some x,some y=>M5 x y|_,_=>false)
theorem LR{d:Option Key}{l:List Key}(h:Ez d l=true):∀t,t∈l→d≠some t:=by
 intro t p z
 subst z
 simp[Ez] at h
 exact h p
structure M6(x y:bK):Prop where
 xy:∀t,t∈sW y→x.dst≠some t
 dd:∀t,y.dst=some t→x.dst≠some t
 yx:∀t,t∈sW x→y.dst≠some t
theorem apartI_ok{x y:bK}(h:M5 x y=true):M6 x y:=by
 unfold M5 at h
 simp only[ep] at h
 exact⟨LR h.1.1,fun t p=>LR h.1.2 t (by simp[p]),LR h.2⟩
theorem tmpsOk_ok{ms:List Nat}{l:List bK}(h:WX ms l=true){i j:Nat}{x y:bK}(z:i<j)(F:l[i]?=some x)(A:l[j]?=some y):(ms.getD j 0).testBit i=true∨M6 x y:=by
 have G:j<l.length:=(List.getElem?_eq_some_iff.1 A).1
 have p:=List.all_eq_true.1 (List.all_eq_true.1 h j (List.mem_range.2 G)) i (List.mem_range.2 z)
 rw[F,A] at p
 rcases tq _ _|>.mp p with p|p
 ·exact .inl p
 exact .inr (apartI_ok p)
theorem Ud{E E':Env}{o:bK}(h:∀t,t∈sW o→E.get t=E'.get t):∀x∈o.op.cR,x.ev E=x.ev E':=by
 intro x p
 cases x with
 |t n=>exact h n (Qu _ (List.mem_filterMap.2 ⟨.t n,p,rfl⟩))
 |c v=>rfl
theorem looks_wants{E E':Env}{o:bK}(h:∀t,t∈sW o→E.get t=E'.get t){b:Bool}(p:mf E o.g b):mf E' o.g b:=by
 generalize z:o.g=g at p
 cases p with
 |none=>exact .none
 |slot k=>
  rename_i t want b
  refine .slot ?_
  rw[←h t (Kd _ (by rw[z];simp))]
  exact k
 |off k=>
  rename_i t want
  refine .off ?_
  rw[←h t (Kd _ (by rw[z];simp))]
  exact k
def Au(m:Nat):Nat→List Nat→List Nat
 |_,[]=>[]
 |k,j::r=>if m.testBit j then Au m (k+1) r else k::Au m (k+1) r
def om(ms:List Nat):Nat→List Nat→List bK→List bK
 |_,_,[]=>[]
 |i,seen,o::r=>if l9 o.op then{o with q:=none}::om ms (i+1) seen r else{o with q:=some (Au (ms.getD i 0) 0 seen)}::om ms (i+1) (i::seen) r
def seenAt(L:List bK):Nat→List Nat
 |0=>[]
 |n+1=>match L[n]?with
  |some o=>if l9 o.op then seenAt L n else n::seenAt L n
  |none=>seenAt L n
theorem Te{m j:Nat}(p:m.testBit j=false):∀(seen:List Nat)(k n:Nat),seen[n]?=some j→k+n∈Au m k seen
 |[],_,_,h=>by simp at h
 |x::r,k,n,h=>by
  unfold Au
  cases n with
  |zero=>simp at h;subst h;rw[bw (by simp[p])];exact jU ..
  |succ n=>
   have:=Te p r (k+1) n (by simpa using h)
   rw[show k+(n+1)=k+1+n by omega]
   split
   ·exact this
   exact qw _ this
theorem C6{ms:List Nat}{L:List bK}:∀(l:List bK)(i:Nat),(∀n,l[n]?=L[i+n]?)→∀n io,(om ms i (seenAt L i) l)[n]?=some io→
  ∃p,L[i+n]?=some p∧io.dst=p.dst∧io.g=p.g∧io.op=p.op∧io.q=if l9 p.op then none else some (Au (ms.getD (i+n) 0) 0 (seenAt L (i+n)))
 |[],i,_,n,io,h=>by simp[om] at h
 |o::r,i,A,n,io,h=>by
  have h0:L[i]?=some o:=by have:=A 0;simpa using this.symm
  have F:∀n,r[n]?=L[i+1+n]?:=fun n=>by have:=A (n+1);rw[show i+1+n=i+(n+1) by omega];simpa using this
  have G:=C6 (ms:=ms) r (i+1) F
  have I:seenAt L (i+1)=if l9 o.op then seenAt L i else i::seenAt L i:=by simp only[seenAt,h0]
  unfold om at h
  cases n with
  |zero=>
   refine⟨o,h0,?_⟩
   split at h
   ·rename_i z;simp at h;subst h;exact⟨rfl,rfl,rfl,by rw[bE z]⟩
   rename_i z;simp at h;subst h;exact⟨rfl,rfl,rfl,by rw[bw z];rfl⟩
  |succ n=>
   rw[show i+(n+1)=i+1+n by omega]
   refine G n io ?_
   rw[I]
   split at h
   ·rename_i z;rw[bE z];simpa using h
   rename_i z;rw[bw z];simpa using h
theorem Tf{ms:List Nat}:∀(l:List bK)(i:Nat)(s:List Nat),(om ms i s l).length=l.length
 |[],_,_=>rfl
 |o::r,i,s=>by
  unfold om
  split<;>simp[Tf r]
theorem TH{L:List bK}{i:Nat}{o:bK}(h:L[i]?=some o)(z:l9 o.op=false):∀n,i<n→i∈seenAt L n
 |0,h=>by omega
 |n+1,A=>by
  unfold seenAt
  rcases Je (Nat.le_of_lt_succ A) with p|rfl
  ·have:=TH h z n p
   split
   ·split
    ·exact this
    exact qw _ this
   exact this
  simp[h,z]
theorem Ext.wide{W:Nat→Prop}{n0 n1 p z:Nat}{ρ ρ':Ho}{w w':World}(h:Ext W n0 n1 ρ ρ' w w')(h0:p≤n0)(A:n1≤z):Ext W p z ρ ρ' w w':=
 ⟨h.le,fun f g x e=>(h.gN f g x e).imp_right fun k=>⟨ax,ax⟩,h.bW,h.frame,h.size,by have:=h.nn;omega,h.os,h.tape,h.output⟩
theorem Ext.transW{W:Nat→Prop}{n0 n1:Nat}{ρ p z:Ho}{w K L:World}(h:Ext W n0 n1 ρ p w K)(k:Ext W n0 n1 p z K L):Ext W n0 n1 ρ z w L:=by
 refine⟨Ho.le_trans h.le k.le,?_,?_,?_,fY h.size k.size,h.nn,k.os.trans h.os,k.tape.trans h.tape,k.output.trans h.output⟩
 ·intro f g x A
  rcases k.gN f g x A with⟨g0,h0,e⟩|e
  ·exact h.gN f g0 h0 e
  exact .inr e
 ·intro f g x A
  rcases k.bW f g x A with e|⟨a,b⟩|⟨g0,h0,e,F,G⟩
  ·exact h.bW f g x e
  ·exact .inr (.inl ⟨fY h.size a,b⟩)
  rcases h.bW f g0 h0 e with I|⟨a,b⟩|⟨Y,Z,I,e3,e4⟩
  ·exact .inr (.inr ⟨g0,h0,I,F,G⟩)
  ·exact .inr (.inl ⟨F▸a,G▸b⟩)
  exact .inr (.inr ⟨Y,Z,I,e3.trans F,e4.trans G⟩)
 intro b M J
 rw[k.frame b (lH M h.size) ?_,h.frame b M J]
 intro f g x A O U
 rcases h.bW f g x A with e|⟨a,_⟩|⟨g0,h0,e,F,G⟩
 ·exact J f g x e O U
 ·intro hh;omega
 exact F▸J f g0 h0 e (G.trans O) U
def oo(l:List bK)(n:Nat):Option Key:=(l[n]?).bind (·.dst)
def rE(l:List bK)(E:Env)(V:Nat→aw)(S:Nat→Bool):Nat→Env
 |0=>E
 |n+1=>if S n=true then iD (rE l E V S n) (oo l n) (V n) else rE l E V S n
def rC(C:Nat→Option cZ)(Hs:Nat→aC)(S:Nat→Bool):Nat→Nat→Option cZ
 |0=>C
 |n+1=>if S n=true then dZ (rC C Hs S n) (Hs n) (Hs (n+1)) else rC C Hs S n
theorem Dl{l:List bK}{E:Env}{V:Nat→aw}{S:Nat→Bool}(n:Nat):rE l E V S (n+1)=if S n=true then iD (rE l E V S n) (oo l n) (V n) else rE l E V S n:=rfl
theorem Dm{C:Nat→Option cZ}{Hs:Nat→aC}{S:Nat→Bool}(n:Nat):rC C Hs S (n+1)=if S n=true then dZ (rC C Hs S n) (Hs n) (Hs (n+1)) else rC C Hs S n:=rfl
def ins(S:Nat→Bool)(j:Nat):Nat→Bool:=fun i=>i==j||S i
theorem AB(E:Env)(d:Option Key)(v:aw)(t:Key):(iD E d v).get t=if d=some t then some v else E.get t:=by
 cases d with
 |none=>simp[iD]
 |some d=>
  show(E.set d v).get t=_
  rw[T4.c7]
  by_cases h:t=d
  ·subst h;simp
  rw[bw h,bw (by simp;exact fun e=>h e.symm)]
section
variable{l:List bK}{E:Env}{V:Nat→aw}{S:Nat→Bool}{j:Nat}
theorem Iw(t:Key){T:Nat→Bool}:∀n,(∀i,i<n→S i≠T i→oo l i≠some t)→(rE l E V S n).get t=(rE l E V T n).get t
 |0,_=>rfl
 |n+1,h=>by
  have p:=Iw t n fun i hi=>h i ax
  have z:=h n ax
  rw[Dl,Dl]
  cases A:S n<;>cases F:T n
  ·simpa using p
  ·have:=z (by simp[A,F])
   simp only[ju,if_false,if_true,AB,bw this];exact p
  ·have:=z (by simp[A,F])
   simp only[ju,if_false,if_true,AB,bw this];exact p
  simp only[if_true,AB,p]
theorem HU(t:Key):∀n,j≤n→(∀k,j≤k→k<n→S k=true→oo l k≠some t)→(rE l E V S n).get t=(rE l E V S j).get t
 |0,p,_=>by have:j=0:=ax;subst this;rfl
 |n+1,p,h=>by
  rcases Je p with A|rfl
  ·have z:=HU t n ax fun k F h2=>h k F ax
   rw[Dl]
   split
   ·rename_i G;rw[AB,bw (h n ax ax G)];exact z
   exact z
  rfl
theorem WY(F:S j=false)(z:j<l.length)(G:∀k t,j<k→S k=true→oo l j=some t→oo l k≠some t)(t:Key):
  (rE l E V (ins S j) l.length).get t=(iD (rE l E V S l.length) (oo l j) (V j)).get t:=by
 rw[AB]
 have e:∀i,ins S j i≠S i→i=j:=by
  intro i hi
  unfold ins at hi
  by_cases h:i=j
  ·exact h
  simp[h] at hi
 split
 ·rename_i p
  rw[HU (j:=j+1) t l.length z fun k I h2 A=>G k t ax (by unfold ins at A;simpa[show k≠j by omega] using A) p]
  rw[Dl]
  rw[bE (by simp[ins]),AB,bE p]
 rename_i p
 exact Iw t _ fun i _ hi=>by rw[e i hi];exact p
end
section
variable{C:Nat→Option cZ}{Hs:Nat→aC}{S:Nat→Bool}{j:Nat}
def Touch(Hs:Nat→aC)(n f:Nat):Prop:=((Hs n).next≤f∧f<(Hs (n+1)).next)∨(Hs (n+1)).t.get f≠(Hs n).t.get f
theorem Hq{n f:Nat}(h:Touch Hs n f):dZ C (Hs n) (Hs (n+1)) f=(Hs (n+1)).t.get f:=by
 unfold dZ
 rcases h with h|h
 ·rw[bE h]
 rw[bw h];split<;>rfl
theorem Hc{n f:Nat}(h:¬Touch Hs n f):dZ C (Hs n) (Hs (n+1)) f=C f:=by
 unfold dZ
 rw[bw (fun k=>h (.inl k)),bE (Ea fun k=>h (.inr k))]
theorem WZ(f:Nat){T:Nat→Bool}:∀n,(∀i,i<n→S i≠T i→¬Touch Hs i f)→rC C Hs S n f=rC C Hs T n f
 |0,_=>rfl
 |n+1,h=>by
  have z:=WZ f n fun i hi=>h i ax
  have A:=h n ax
  rw[Dm,Dm]
  by_cases p:Touch Hs n f
  ·have e:S n=T n:=Ea fun k=>A k p
   rw[e]
   cases T n
   ·simpa using z
   simp only[if_true,Hq p]
  cases S n<;>cases T n<;>simp only[ju,if_false,if_true,Hc p]<;>exact z
theorem Dn(f:Nat):∀n,j≤n→(∀k,j≤k→k<n→S k=true→¬Touch Hs k f)→rC C Hs S n f=rC C Hs S j f
 |0,p,_=>by have:j=0:=ax;subst this;rfl
 |n+1,p,h=>by
  rcases Je p with A|rfl
  ·have z:=Dn f n ax fun k F h2=>h k F ax
   rw[Dm]
   split
   ·rename_i G;rw[Hc (h n ax ax G)];exact z
   exact z
  rfl
theorem W0{N:Nat}(F:S j=false)(z:j<N)(G:∀k f,j<k→k<N→S k=true→Touch Hs j f→¬Touch Hs k f)(f:Nat):
  rC C Hs (ins S j) N f=dZ (rC C Hs S N) (Hs j) (Hs (j+1)) f:=by
 have e:∀i,ins S j i≠S i→i=j:=by
  intro i hi
  unfold ins at hi
  by_cases h:i=j
  ·exact h
  simp[h] at hi
 by_cases p:Touch Hs j f
 ·rw[Hq p,Dn (j:=j+1) f N z fun k I h2 A=>G k f ax h2 (by unfold ins at A;simpa[show k≠j by omega] using A) p]
  rw[Dm]
  rw[bE (by simp[ins]),Hq p]
 rw[Hc p]
 exact WZ f _ fun i _ hi=>by rw[e i hi];exact p
theorem LS(f:Nat)(h0:∀o,(Hs 0).t.get f=some o→C f=some o):∀n,(∀i,i<n→S i=false→¬Touch Hs i f)→∀o,(Hs n).t.get f=some o→rC C Hs S n f=some o
 |0,_,o,h=>h0 o h
 |n+1,z,o,h=>by
  have A:=LS f h0 n (fun i hi=>z i ax) o
  rw[Dm]
  by_cases p:Touch Hs n f
  ·have:S n=true:=by
    cases F:S n
    ·exact absurd p (z n ax F)
    rfl
   rw[bE this,Hq p];exact h
  have e:(Hs (n+1)).t.get f=(Hs n).t.get f:=Ea fun k=>p (.inr k)
  rw[e] at h
  split
  ·rw[Hc p];exact A h
  exact A h
end
structure Fact(call:dr)(o:bK)(E:Env)(H:aC)(b:Bool)(v:aw)(fp:FP)(H1:aC):Prop where
 lK:ey H H1
 touch:∀f,((H.next≤f∧f<H1.next)∨H1.t.get f≠H.t.get f)→o.q.isSome=true∧(f∈fp.ws∨(fp.lo≤f∧f<fp.hi∧H.next≤f∧f<H1.next))
 wants:mf E o.g b
 off:b=false→v= .undef∧H1=H
 on:b=true→∃Hm Hn,o.op.ev call E Hm= .ok v Hn∧Hm.bb≤Hm.next∧Hm.next=H.next∧Hm.t=H.t∧Hn.next=H1.next∧Hn.t=H1.t∧(∀f,Wr Hn f→Wr H1 f)∧(o.q.isSome=true→fp.rd=o.op.reads E)
section
variable{P:Program}{call:dr}
theorem pa.fact{o:bK}{E:Env}{H:aC}{bB:List FP}{b:Bool}{v:aw}{fp:FP}{H1:aC}(L:jc P call)(M:o.q=none→l9 o.op=true)(K:H.bb≤H.next)(A:WF H)(h:pa call o E H bB b v fp H1):
  Fact call o E H b v fp H1:=by
 cases h with
 |skip F G=>exact⟨ey.refl _,fun f p=>absurd p (by rintro(p|p);omega;exact p rfl),F,fun _=>⟨rfl,rfl⟩,fun h=>by cases h⟩
 |plain F G I=>
  have e:=pure_same (M G) v H1 I
  subst e
  exact⟨ey.refl _,fun f p=>absurd p (by rintro(p|p);omega;exact p rfl),F,fun h=>(by cases h),fun _=>⟨H1,H1,I,K,rfl,rfl,rfl,rfl,fun _ h=>h,fun h=>by rw[G] at h;cases h⟩⟩
 |marked F G I Y=>
  rename_i q z
  have t:=TM.ins (H:=H.mark) (bM _) (fun f a=>L.lK f a _ (bM _)) E o.op v z I
  refine⟨t.AV K,fun f p=>⟨by rw[G];rfl,?_⟩,F,fun h=>(by cases h),fun _=>⟨H.mark,z,I,bM _,rfl,rfl,rfl,rfl,fun f p=>?_,fun _=>rfl⟩⟩
  ·have p:((H.next≤f∧f<z.next)∨z.t.get f≠H.t.get f):=p
   show f∈z.ws∨(H.next≤f∧f<z.next∧H.next≤f∧f<z.next)
   by_cases J:f<H.next
   ·rcases p with p|p
    ·omega
    exact .inl (Ea fun k=>p (t.same f J k))
   by_cases h2:f<z.next
   ·exact .inr ⟨ax,h2,ax,h2⟩
   rcases p with p|p
   ·omega
   have O:H.t.get f=none:=A f ax
   have U:z.t.get f=none:=t.wf A f ax
   exact absurd (U.trans O.symm) p
  rcases p with p|p
  ·by_cases J:f<H.bb
   ·exact .inl ((CX _ _ _ _).2 (.inr ⟨p,J⟩))
   exact .inr (by show H.bb≤f;omega)
  have:H.next≤f:=by rw[t.bb] at p;exact p
  exact .inr (by show H.bb≤f;omega)
end
structure vA(P:Program)(nt:Nat)(ops:Array Oper)(l:List bK):Prop where
 len:l.length=ops.size
 opof:∀(i:Nat)(o:Oper)(io:bK),ops[i]?=some o→l[i]?=some io→Cd P nt ops o io
 back:∀(j:Nat)(o:Oper)(e:Edge),ops[j]?=some o→e∈o.after→Region.binds .any e=true→e.on<j
 tmps:∀(i j:Nat)(x y:bK),i<j→l[i]?=some x→l[j]?=some y→jO ops i j∨M6 x y
 pure:∀(i:Nat)(x:bK),l[i]?=some x→x.q=none→l9 x.op=true
section
variable{P:Program}{call:dr}{nt:Nat}{ops:Array Oper}{l:List bK}{E E':Env}{H H':aC}{Es:Nat→Env}{Hs:Nat→aC}{Rs:Nat→List FP}{Wn:Nat→Bool}{Vs:Nat→aw}{Fp:Nat→FP}
theorem Trace.wf(z:jc P call)(A:vA P nt ops l)(T:Trace call l E H [] E' H' Es Hs Rs Wn Vs Fp)(F:H.bb≤H.next)(p:WF H):∀i,i≤l.length→(Hs i).bb≤(Hs i).next∧WF (Hs i)
 |0,_=>by rw[T.h0];exact⟨F,p⟩
 |i+1,hi=>by
  obtain⟨G,h2⟩:=Trace.wf z A T F p i ax
  obtain⟨o,ho⟩:∃o,l[i]?=some o:=⟨_,dz ax⟩
  have t:=((T.step i o ho).1.fact z (A.pure i o ho) G h2).lK
  exact⟨by rw[t.bb];exact fY G t.next,t.wf h2⟩
theorem Trace.fact(z:jc P call)(A:vA P nt ops l)(T:Trace call l E H [] E' H' Es Hs Rs Wn Vs Fp)(F:H.bb≤H.next)(p:WF H){i:Nat}{o:bK}(ho:l[i]?=some o):
  Fact call o (Es i) (Hs i) (Wn i) (Vs i) (Fp i) (Hs (i+1)):=by
 have hi:i<l.length:=(List.getElem?_eq_some_iff.1 ho).1
 obtain⟨G,h2⟩:=T.wf z A F p i ax
 exact(T.step i o ho).1.fact z (A.pure i o ho) G h2
theorem Trace.lK(z:jc P call)(A:vA P nt ops l)(T:Trace call l E H [] E' H' Es Hs Rs Wn Vs Fp)(F:H.bb≤H.next)(p:WF H){i:Nat}:∀k,i≤k→k≤l.length→ey (Hs i) (Hs k)
 |0,h,_=>by have:i=0:=ax;subst this;exact ey.refl _
 |k+1,h,I=>by
  rcases Je h with G|rfl
  ·obtain⟨o,ho⟩:∃o,l[k]?=some o:=⟨_,dz ax⟩
   exact(Trace.lK z A T F p k ax ax).trans (T.fact z A F p ho).lK
  exact ey.refl _
theorem Trace.env(T:Trace call l E H [] E' H' Es Hs Rs Wn Vs Fp):∀n,n≤l.length→Es n=rE l E Vs (fun _=>true) n
 |0,_=>T.e0
 |n+1,p=>by
  obtain⟨o,ho⟩:∃o,l[n]?=some o:=⟨_,dz ax⟩
  rw[(T.step n o ho).2.1,Dl,Trace.env T n ax,bE rfl]
  simp[oo,ho]
structure Inv(P:Program)(nt:Nat)(l:List bK)(E:Env)(H H':aC)(Hs:Nat→aC)(Vs:Nat→aw)(ρ0:Ho)(C0:Nat→Option cZ)(w0:World)(S:Nat→Bool)(a:Act)(w:World)(ρ:Ho):Prop where
 ar:AR P ρ nt (rE l E Vs S l.length) a
 r:R ρ (rC C0 Hs S l.length) w
 ext:Ext (Wr H') H.next H'.next ρ0 ρ w0 w
 gN:∀f g h,ρ f g=some h→(∃g0 h0,ρ0 f g0=some h0)∨∃k,k<l.length∧S k=true∧(Hs k).next≤f∧f<(Hs (k+1)).next
theorem AR.congr{ρ:Ho}{a:Act}{E1 p:Env}(h:AR P ρ nt E1 a)(z:∀t,p.get t=E1.get t):AR P ρ nt p a:=
 ⟨h.size,h.defers,fun t v k=>h.tmp t v (by rw[←z];exact k),h.sb⟩
theorem step_any(hc:jc P call)(hr:vA P nt ops l)(T:Trace call l E H [] E' H' Es Hs Rs Wn Vs Fp)
  (I:∀(i j:Nat)(x y:bK),i<j→l[i]?=some x→l[j]?=some y→x.q.isSome=true→y.q.isSome=true→jO ops i j∨AJ (Fp j) (Fp i))
  (hm:H.bb≤H.next) (mY:WF H) {ρ0:Ho} {C0:Nat→Option cZ} {w0:World} (R8:iO ρ0 C0 H) (K2:fE ρ0 H.next H'.next)
  {S:Nat→Bool} (hS:Iv ops S) {j:Nat} (hj:j<l.length) (J:S j=false) (hjr:Pc ops S j) {a:Act} {w:World} {ρ:Ho} (hI:Inv P nt l E H H' Hs Vs ρ0 C0 w0 S a w ρ)
  {Q:Exit→Act→World→Prop} {K:Act→World→Prop} (hK:∀a' w' ρ',Inv P nt l E H H' Hs Vs ρ0 C0 w0 (ins S j) a' w' ρ'→K a' w'):wpOp P ops Q j K a w:=by
 obtain⟨io,z⟩:∃io,l[j]?=some io:=⟨_,dz hj⟩
 obtain⟨o,ho⟩:∃o,ops[j]?=some o:=⟨_,yM (by rw[←hr.len];exact hj)⟩
 have CJ:=hr.opof j o io ho z
 have fj:=T.fact hc hr hm mY z
 have F:∀i k,i≤k→k≤l.length→(Hs i).next≤(Hs k).next:=fun i k h1 h2=>(T.lK hc hr hm mY k h1 h2).next
 have h0:Hs 0=H:=T.h0
 have hN:Hs l.length=H':=T.hN
 have Y:∀k,S k=true→¬jO ops j k:=fun k hk hb=>by rw[hb.closed hS hk] at J;cases J
 have aaM:∀i,S i=false→¬jO ops i j:=fun i hi hb=>by rw[hb.ready hS hjr] at hi;cases hi
 have get:∀{k},k<l.length→∃y,l[k]?=some y:=fun hk=>⟨_,dz hk⟩
 have A:∀{k y},l[k]?=some y→oo l k=y.dst:=fun M=>by simp[oo,M]
 have R9:∀t,t∈sW io→(rE l E Vs S l.length).get t=(Es j).get t:=by
  intro t ht
  rw[T.env j ax,HU (j:=j) t l.length ax fun k h1 h2 G=>?_]
  ·refine Iw t j fun i hi G=>?_
   obtain⟨x,U⟩:=get (k:=i) ax
   have G:S i=false:=by simpa using G
   rw[A U]
   exact((hr.tmps i j x io hi U z).resolve_left (aaM i G)).xy t ht
  obtain⟨y,M⟩:=get h2
  have qN:j≠k:=fun e=>by rw[←e,J] at G;cases G
  rw[A M]
  exact((hr.tmps j k io y ax z M).resolve_left (Y k G)).yx t ht
 have aaN:∀k t,j<k→S k=true→oo l j=some t→oo l k≠some t:=by
  intro k t hk G hd R'
  by_cases K3:k<l.length
  ·obtain⟨y,M⟩:=get K3
   rw[A M] at R';rw[A z] at hd
   exact((hr.tmps j k io y hk z M).resolve_left (Y k G)).dd t R' hd
  simp[oo,yL (Nat.le_of_not_lt K3)] at R'
 have p:∀{k f y},l[k]?=some y→Touch Hs k f→y.q.isSome=true∧(f∈(Fp k).ws∨((Fp k).lo≤f∧f<(Fp k).hi∧(Hs k).next≤f∧f<(Hs (k+1)).next)):=
  fun M ht=>(T.fact hc hr hm mY M).touch _ ht
 have Z:∀i,i≤l.length→WF (Hs i):=fun i hi=>(T.wf hc hr hm mY i hi).2
 have W1:∀k f,j<k→k<l.length→S k=true→Touch Hs j f→¬Touch Hs k f:=by
  intro k f hk K3 G tj tk
  obtain⟨y,M⟩:=get K3
  obtain⟨qj,ej⟩:=p z tj
  obtain⟨qk,ek⟩:=p M tk
  have fa:=(I j k io y hk z M qj qk).resolve_left (Y k G)
  have n1:=F (j+1) k hk ax
  have n2:=F j (j+1) ax ax
  rcases ek with ek|⟨e1,e2,e3,e4⟩
  ·rcases ej with ej|⟨e1,e2,e3,e4⟩
   ·exact fa.ww f ek ej
   exact fa.out f ek ⟨e1,e2⟩
  rcases tj with tj|tj
  ·omega
  refine tj ((Z (j+1) ax f ax).trans (Z j ax f ax).symm)
 have FQ:∀{i f},i<l.length→S i=false→(Hs i).next≤f→f<(Hs (i+1)).next→∀g,ρ f g=none:=by
  intro i f hi G h1 h2 g
  cases U:ρ f g with
  |none=>rfl
  |some x=>
   rcases hI.gN f g x U with⟨g0,x0,e⟩|⟨k,hk,Sa,e1,e2⟩
   ·have n1:=F 0 i ax ax
    have n2:=F (i+1) l.length ax ax
    rw[h0] at n1;rw[hN] at n2
    rw[K2 f g0 ax ax] at e;cases e
   rcases Qo i k with ss|rfl|KV
   ·have:=F (i+1) k ax ax;omega
   ·rw[G] at Sa;cases Sa
   have:=F (k+1) i ax ax;omega
 have hfree:fE ρ (Hs j).next (Hs (j+1)).next:=fun f g h1 h2=>FQ hj J h1 h2 g
 have hreads:Wn j=true→∀f ob,(∀ls,io.op.reads (Es j)=some ls→f∈ls)→(∃g h,ρ f g=some h)→(Hs j).t.get f=some ob→rC C0 Hs S l.length f=some ob:=by
  intro hon f ob wM⟨g,x,U⟩CK
  obtain⟨_,_,_,_,_,_,_,_,_,hrd2⟩:=fj.on hon
  have L:io.q.isSome=true:=by
   cases hq:io.q with
   |some q=>rfl
   |none=>have:=wM [] (pure_reads (hr.pure j io z hq));cases this
  have hrdj:(Fp j).rd=io.op.reads (Es j):=hrd2 L
  have aaO:∀m,(Fp j).rd=some m→f∈m:=fun m hm=>wM m (hrdj▸hm)
  have fj2:f<(Hs j).next:=Ea fun k=>by rw[Z j ax f ax] at CK;cases CK
  rw[Dn (j:=j) f l.length ax fun k h1 h2 G tk=>?_]
  ·refine LS f (fun o' uq=>?_) j (fun i hi G ti=>?_) ob CK
   ·rw[h0] at uq
    refine R8 f o' ?_ uq
    rcases hI.gN f g x U with e|⟨k,hk,Sa,e1,e2⟩
    ·exact e
    have n1:=F 0 k ax ax
    rw[h0] at n1
    rw[mY f ax] at uq;cases uq
   obtain⟨y,M⟩:=get (k:=i) ax
   obtain⟨qi,ei⟩:=p M ti
   rcases ei with ei|⟨_,_,e3,e4⟩
   ·obtain⟨m,zZ,GH⟩:=((I i j y io hi M z qi L).resolve_left (aaM i G)).ba f ei
    exact GH (aaO m zZ)
   rw[FQ ax G e3 e4 g] at U;cases U
  obtain⟨y,M⟩:=get h2
  have qN:j≠k:=fun e=>by rw[←e,J] at G;cases G
  obtain⟨qk,ek⟩:=p M tk
  rcases ek with ek|⟨_,_,e3,e4⟩
  ·obtain⟨m,zZ,GH⟩:=((I j k io y ax z M L qk).resolve_left (Y k G)).ab f ek
   exact GH (aaO m zZ)
  have:=F j k ax ax;omega
 have O:∀k,S k=true→ins S j k=true:=fun k hk=>by simp[ins,hk]
 unfold wpOp
 simp only[ho]
 have hw:=looks_wants (E':=rE l E Vs S l.length) (fun t ht=>(R9 t ht).symm) fj.wants
 rw[LA CJ hw hI.ar.tmp]
 cases hb:Wn j with
 |false=>
  rw[bw (by simp)]
  obtain⟨e1,e2⟩:=fj.off hb
  refine hK _ _ ρ ⟨?_,?_,hI.ext,fun f g x U=>(hI.gN f g x U).imp_right fun⟨k,h1,h2,h3⟩=>⟨k,h1,O k h2,h3⟩⟩
  ·refine AR.congr (E1:=iD (rE l E Vs S l.length) io.dst .undef) (by rw[CJ.dst];exact hI.ar.Kk CJ.lt (by simp only[VR])) fun t=>?_
   rw[WY J hj aaN t,A z,e1]
  rw[show rC C0 Hs (ins S j) l.length=rC C0 Hs S l.length from funext fun f=>by rw[W0 J hj W1 f,e2,mD]]
  exact hI.r
 |true=>
  rw[bE rfl]
  left
  obtain⟨Hm,Hn,he,k1,k2,k3,k4,k5,k6,k7⟩:=fj.on hb
  rcases CJ.op with wL|QN
  case inr=>rw[QN] at he;exact(Vo he).elim
  have hop2:io.op.ev call (rE l E Vs S l.length) Hm= .ok (Vs j) Hn:=by
   rw[bF.ev_congr io.op (Ud (E':=Es j) R9)];exact he
  have R6:=T' (o:=o) wL hI.ar hI.r (by rw[k2,k4];exact hfree) (fun f ob wM U CK=>by
   rw[k3] at CK
   refine hreads hb f ob (fun ls hls=>wM ls ?_) U CK
   rw[bF.reads_congr io.op (Ud (E':=Es j) R9)];exact hls) k1 (fun x U=>by rw[k3];exact Z j ax x (by rw[←k2];exact U)) hc hop2
  refine TB R6 fun cv w' hp=>?_
  obtain⟨ρ',hv,QO,R7⟩:=hp
  have hupd:dZ (rC C0 Hs S l.length) Hm Hn=dZ (rC C0 Hs S l.length) (Hs j) (Hs (j+1)):=by
   funext f;unfold dZ;rw[k2,k3,k4,k5]
  refine hK _ _ ρ' ⟨?_,?_,hI.ext.transW (Ext.wide (QO.mono fun f hf=>?_) ?_ ?_),fun f g x U=>?_⟩
  ·refine AR.congr (E1:=iD (rE l E Vs S l.length) io.dst (Vs j)) (by rw[CJ.dst];exact(hI.ar.mono QO.le).Kk CJ.lt hv) fun t=>?_
   rw[WY J hj aaN t,A z]
  ·rw[show rC C0 Hs (ins S j) l.length=dZ (rC C0 Hs S l.length) Hm Hn from funext fun f=>by rw[W0 J hj W1 f,hupd]]
   exact R7
  ·have t:=T.lK hc hr hm mY (i:=j+1) l.length ax ax
   rw[hN] at t
   exact Mc t f (k6 f hf)
  ·rw[k2,←h0];exact F 0 j ax ax
  ·rw[k4,←hN];exact F (j+1) l.length ax ax
  rcases QO.gN f g x U with⟨g0,x0,e⟩|e
  ·exact(hI.gN f g0 x0 e).imp_right fun⟨k,h1,h2,h3⟩=>⟨k,h1,O k h2,h3⟩
  rw[k2,k4] at e
  exact .inr ⟨j,hj,by simp[ins],e⟩
end
theorem Tt{p q:Nat→Bool}:∀(l:List Nat){j:Nat},j∈l→p j=true→q j=false→(∀i,q i=true→p i=true)→(l.filter q).length+1≤(l.filter p).length
 |[],_,A,_,_,_=>by cases A
 |x::r,j,A,I,J,h=>by
  have le:(r.filter q).length≤(r.filter p).length:=by
   clear A
   induction r with
   |nil=>simp
   |cons y s G=>
    cases z:q y
    ·rw[Eb (by simp[z])]
     cases F:p y
     ·rw[Eb (by simp[F])];exact G
     rw[x9 F];simp;omega
    rw[x9 z,x9 (h y z)];simp;exact G
  rcases List.mem_cons.1 A with rfl|A
  ·rw[Eb (by simp[J]),x9 I];simp;exact le
  have G:=Tt r A I J h
  cases z:q x
  ·rw[Eb (by simp[z])]
   cases F:p x
   ·rw[Eb (by simp[F])];exact G
   rw[x9 F];simp;omega
  rw[x9 z,x9 (h x z)];simp;omega
def ja(fx:Array Bool):Nat→Bool:=fun i=>fx.getD i false
def K4(fx:Array Bool)(n:Nat):Nat:=((List.range n).filter fun i=>!ja fx i).length
section
variable{P:Program}{call:dr}{nt:Nat}{ops:Array Oper}{l:List bK}{E E':Env}{H H':aC}{Es:Nat→Env}{Hs:Nat→aC}{Rs:Nat→List FP}{Wn:Nat→Bool}{Vs:Nat→aw}{Fp:Nat→FP}
theorem listedS_set{fx:Array Bool}{j:Nat}(p:j<fx.size):ja (fx.setIfInBounds j true)=ins (ja fx) j:=by
 funext i
 unfold ja ins
 by_cases h:i=j
 ·subst h;simp[p]
 rw[getD_set_ne false (Ne.symm h)];simp[h]
theorem none_ready(z:vA P nt ops l){fx:Array Bool}(G:fx.size=l.length)(h:Region.ready .any ops fx=[]):∀i,i<l.length→ja fx i=true:=by
 intro i
 induction i using Nat.strongRecOn with
 |_ i I=>
  intro hi
  cases p:ja fx i with
  |true=>rfl
  |false=>
   obtain⟨o,ho⟩:∃o,ops[i]?=some o:=⟨_,yM (by rw[←z.len];exact hi)⟩
   have:i∈Region.ready .any ops fx:=by
    rw[mem_ready]
    refine⟨?_,o,ho,fun e A F=>I e.on (z.back i o e ho A F) (Nat.lt_trans (z.back i o e ho A F) hi)⟩
    unfold ja at p
    simp only[vW] at p⊢
    rw[yM (by rw[G];exact hi)] at p⊢
    simpa using p
   rw[h] at this;cases this
theorem any_ok(hc:jc P call)(O:vA P nt ops l)(T:Trace call l E H [] E' H' Es Hs Rs Wn Vs Fp)
  (F:∀(i j:Nat)(x y:bK),i<j→l[i]?=some x→l[j]?=some y→x.q.isSome=true→y.q.isSome=true→jO ops i j∨AJ (Fp j) (Fp i))
  (hm:H.bb≤H.next) (mY:WF H) {ρ0:Ho} {C0:Nat→Option cZ} {w0:World} (R8:iO ρ0 C0 H) (K2:fE ρ0 H.next H'.next) {Q:Exit→Act→World→Prop}
  (G:∀S a w ρ,(∀i,i<l.length→S i=true)→Inv P nt l E H H' Hs Vs ρ0 C0 w0 S a w ρ→Q .normal a w):
  ∀(fuel:Nat)(fx:Array Bool)(a:Act)(w:World)(ρ:Ho),fx.size=l.length→Iv ops (ja fx)→Inv P nt l E H H' Hs Vs ρ0 C0 w0 (ja fx) a w ρ→K4 fx l.length≤fuel→
   wpAny P .any ops Q fuel fx a w:=by
 intro fuel
 induction fuel with
 |zero=>
  intro fx a w ρ J hC U hu
  have all:∀i,i<l.length→ja fx i=true:=by
   intro i hi
   cases hl:ja fx i with
   |true=>rfl
   |false=>
    have:i∈(List.range l.length).filter fun i=>!ja fx i:=List.mem_filter.2 ⟨List.mem_range.2 hi,by simp[hl]⟩
    rw[tm (Nat.le_zero.1 hu)] at this;cases this
  refine⟨?_,G _ a w ρ all U⟩
  cases I:Region.ready .any ops fx with
  |nil=>rfl
  |cons j r=>
   have hj:j∈Region.ready .any ops fx:=by rw[I];exact jU ..
   obtain⟨h0,o,ho,_⟩:=mem_ready.1 hj
   have z:j<l.length:=by rw[O.len];exact(Array.getElem?_eq_some_iff.1 ho).1
   have:=all j z
   unfold ja at this
   simp only[vW] at h0 this
   rw[yM (by rw[J];exact z)] at h0 this
   simp at h0 this;rw[h0] at this;cases this
 |succ fuel ih=>
  intro fx a w ρ J hC U hu
  refine⟨fun h=>G _ a w ρ (none_ready O J h) U,fun j hj=>?_⟩
  obtain⟨h0,o,ho,I⟩:=mem_ready.1 hj
  have z:j<l.length:=by rw[O.len];exact(Array.getElem?_eq_some_iff.1 ho).1
  have K:ja fx j=false:=by
   unfold ja
   simp only[vW] at h0⊢
   rw[yM (by rw[J];exact z)] at h0⊢
   simpa using h0
  have L:Pc ops (ja fx) j:=fun o' e A Y Z=>by
   rw[ho] at A;cases A
   exact I e Y Z
  have zh:=listedS_set (fx:=fx) (j:=j) (by rw[J];exact z)
  refine step_any hc O T F hm mY R8 K2 hC z K L U fun a' w' ρ' hI'=>?_
  refine ih _ a' w' ρ' (by simp[J]) ?_ (by rw[zh];exact hI') ?_
  ·rw[zh]
   intro k o' e A Y Z hk
   unfold ins at hk⊢
   by_cases M:k=j
   ·subst M;simp[L o' e A Y Z]
   simp[M] at hk;simp[hC k o' e A Y Z hk]
  have:=Tt (p:=fun i=>!ja fx i) (q:=fun i=>!ja (fx.setIfInBounds j true) i) (List.range l.length) (List.mem_range.2 z) (by simp[K]) (by rw[zh];simp[ins]) (by
   intro i hi;rw[zh] at hi;simp[ins] at hi;simp[hi])
  have h2:K4 (fx.setIfInBounds j true) l.length+1≤K4 fx l.length:=this
  omega
theorem Inv.fin(hc:jc P call)(hr:vA P nt ops l)(T:Trace call l E H [] E' H' Es Hs Rs Wn Vs Fp)(hm:H.bb≤H.next)(G:WF H){ρ0 ρ:Ho}{C0:Nat→Option cZ}{w0 w:World}(K:iO ρ0 C0 H)(K2:fE ρ0 H.next H'.next)
  {S:Nat→Bool} {a:Act} (A:∀i,i<l.length→S i=true) (O:Inv P nt l E H H' Hs Vs ρ0 C0 w0 S a w ρ):AR P ρ nt E' a∧R ρ (dZ C0 H H') w:=by
 have h0:Hs 0=H:=T.h0
 have hN:Hs l.length=H':=T.hN
 have p:∀i k,i≤k→k≤l.length→(Hs i).next≤(Hs k).next:=fun i k h1 h2=>(T.lK hc hr hm G k h1 h2).next
 refine⟨AR.congr O.ar fun t=>?_,O.r.weaken fun f o I hd=>?_⟩
 ·rw[←T.eN,T.env l.length (bM _)]
  exact Iw t _ fun i hi M=>absurd (A i hi).symm M
 obtain⟨g,x,hx⟩:=hd
 have F:=O.gN f g x hx
 have known:∀J,H'.t.get f=some J→rC C0 Hs S l.length f=some J:=by
  rw[←hN]
  refine LS f (fun J z=>?_) _ (fun i hi M=>by rw[A i hi] at M;cases M)
  rw[h0] at z
  rcases F with e|⟨k,hk,_,e1,e2⟩
  ·exact K f J e z
  have n1:=p 0 k ax ax
  rw[h0] at n1
  rw[G f ax] at z;cases z
 unfold dZ at I
 split at I
 ·exact known o I
 rename_i hn
 split at I
 ·rename_i he
  have U:∃g0 x0,ρ0 f g0=some x0:=by
   rcases F with e|⟨k,hk,_,e1,e2⟩
   ·exact e
   have n1:=p 0 k ax ax
   have Y:=p (k+1) l.length ax ax
   rw[h0] at n1;rw[hN] at Y
   omega
  cases Z:H.t.get f with
  |some J=>
   have:=K f J U Z
   rw[I] at this;cases this
   exact known o (he.trans Z)
  |none=>
   have nn:∀i,i≤l.length→(Hs i).t.get f=none:=by
    intro i hi
    cases uj:(Hs i).t.get f with
    |none=>rfl
    |some o2=>
     have:=(T.lK hc hr hm G (i:=i) l.length hi (bM _)).gl f (by rw[uj];simp)
     rw[hN,he,Z] at this;exact absurd rfl this
   rw[Dn (j:=0) f l.length (mR _) fun k _ hk _ L=>?_]
   ·exact I
   rcases L with L|L
   ·have n1:=p 0 k ax ax
    have Y:=p (k+1) l.length ax ax
    rw[h0] at n1;rw[hN] at Y
    omega
   rw[nn k ax,nn (k+1) ax] at L;exact L rfl
 exact known o I
theorem Vp{ms:List Nat}{p:List bK}(A:l=om ms 0 [] p)(T:Trace call l E H [] E' H' Es Hs Rs Wn Vs Fp):∀n,n≤l.length→Rs n=(seenAt p n).map Fp
 |0,_=>T.r0
 |n+1,G=>by
  obtain⟨o,ho⟩:∃o,l[n]?=some o:=⟨_,dz ax⟩
  rw[(T.step n o ho).2.2,Vp A T n ax]
  obtain⟨z,h0,_,_,_,F⟩:=C6 (ms:=ms) (L:=p) p 0 (fun n=>by simp) n o (by rw[←ho,A];rfl)
  rw[fC] at h0 F
  unfold C5
  simp only[seenAt,h0]
  rw[F]
  cases l9 z.op<;>rfl
theorem pairs_ok{ms:List Nat}{A:List bK}(K:l=om ms 0 [] A)(M:∀j i,(ms.getD j 0).testBit i=true→jO ops i j)(T:Trace call l E H [] E' H' Es Hs Rs Wn Vs Fp)
  (i j:Nat) (x y:bK) (O:i<j) (hx:l[i]?=some x) (U:l[j]?=some y) (qx:x.q.isSome=true) (F:y.q.isSome=true):jO ops i j∨AJ (Fp j) (Fp i):=by
 have GD:j<l.length:=(List.getElem?_eq_some_iff.1 U).1
 obtain⟨x0,G,_,_,_,z⟩:=C6 (ms:=ms) (L:=A) A 0 (fun n=>by simp) i x (by rw[←hx,K];rfl)
 obtain⟨y0,Y,_,_,_,p⟩:=C6 (ms:=ms) (L:=A) A 0 (fun n=>by simp) j y (by rw[←U,K];rfl)
 rw[fC] at G Y z p
 have px:l9 x0.op=false:=by
  cases h:l9 x0.op
  ·rfl
  rw[h] at z;rw[z] at qx;cases qx
 have py:l9 y0.op=false:=by
  cases h:l9 y0.op
  ·rfl
  rw[h] at p;rw[p] at F;cases F
 rw[py] at p
 cases hb:(ms.getD j 0).testBit i
 case true=>exact .inl (M _ _ hb)
 right
 obtain⟨n,hn⟩:=Qs (TH G px j O)
 have hp:=Te hb (seenAt A j) 0 n hn
 rw[fC] at hp
 have hr:=Vp K T j ax
 generalize hWj:Wn j=wj at*
 generalize hVj:Vs j=vj at*
 have Z:=(T.step j y U).1
 have key:∀{b:Bool}{v:aw}{fp:FP}{H1:aC},pa call y (Es j) (Hs j) (Rs j) b v fp H1→AJ fp (Fp i):=by
  intro b v fp H1 Z
  cases Z with
  |skip hw I=>
   rw[I F]
   exact⟨fun _ h=>(by cases h),fun _ _=>⟨[],rfl,by simp⟩,fun _ h=>(by cases h),fun _ h=>(by cases h)⟩
  |plain hw I _=>rw[I] at F;cases F
  |marked hw I he ha=>
   rename_i q H2
   rw[I] at p
   simp at p
   subst p
   obtain⟨b,J,pI⟩:=Tq ha n hp
   rw[hr,BV,hn] at J
   cases J
   exact pI
 exact key Z
theorem regionQ_sound(M:jc P call)(G:vA P nt ops l){ms:List Nat}{l0:List bK}(hl:l=om ms 0 [] l0)(O:∀j i,(ms.getD j 0).testBit i=true→jO ops i j)(I:P.follows .mixedOrders=true)
  {ρ:Ho} {C:Nat→Option cZ} {w:World} {a:Act} {id:Nat} {K:Act→World→Prop} {Q:Exit→Act→World→Prop} (h:jb call l E H []= .ok E' H') (hA:AR P ρ nt E a) (J:R ρ C w) (U:iO ρ C H) (hF:fE ρ H.next H'.next) (Y:H.bb≤H.next) (A:WF H)
  (F:qB P nt E' H H' C ρ w K) (hQ:∀a w,K a w→Q .normal a w):(Code.region id ops true).wp P Q a w:=by
 obtain⟨Es,Hs,Rs,Wn,Vs,Fp,T⟩:=UM l E H [] E' H' h
 have Z:H.next≤H'.next:=by
  have:=(T.lK M G Y A (i:=0) l.length (mR _) (bM _)).next
  rw[T.h0,T.hN] at this;exact this
 refine wp_region_any I (any_ok M G T (pairs_ok hl O T) Y A (ρ0:=ρ) (C0:=C) (w0:={w with drawn:=w.drawn+1}) U hF (fun S a' w' ρ' L hI=>?_) ops.size _ a _ ρ (by simp[G.len]) ?_ ⟨?_,?_,?_,fun f g h e=>.inl ⟨g,h,e⟩⟩ ?_)
 ·obtain⟨k1,k2⟩:=hI.fin M G T Y A U hF L
  have p:=hI.ext
  exact hQ _ _ (F a' w' ρ' k1 ⟨p.le,p.gN,p.bW,p.frame,p.size,p.nn,p.os,p.tape,p.output⟩ k2 (Hp U p.gN))
 ·intro j o e ho p hb hj
  exact absurd hj (by unfold ja;by_cases z:j<ops.size<;>simp[vW,OR,z])
 ·refine AR.congr hA fun t=>?_
  rw[HU (j:=0) t l.length (mR _) fun k _ _ hk=>?_]
  ·rfl
  exact absurd hk (by unfold ja;by_cases z:k<ops.size<;>simp[vW,OR,z])
 ·have e:rC C Hs (ja (Array.replicate ops.size false)) l.length=C:=funext fun f=>by
   rw[Dn (j:=0) f l.length (mR _) fun k _ _ hk=>?_]
   ·rfl
   exact absurd hk (by unfold ja;by_cases z:k<ops.size<;>simp[vW,OR,z])
  rw[e]
  exact⟨fun f o ho g x hx=>(J.obj f o ho g x hx).gl (Ho.le_refl _) rfl,J.nL,J.iH,J.uniq,J.ct⟩
 ·exact(Ext.refl _ H.next ρ _).wide (bM _) Z
 unfold K4
 refine fY (Yx _ _) ?_
 simp[G.len]
end
end Go.Ev
