/- Part 9 of rules for walks through the code of a program, and of such walks; what each part proves is said by its theorems. -/
import Derived.Test.YtmpoloiempjdpaaGreatR8
set_option linter.unusedVariables false
set_option linter.unusedSimpArgs false
noncomputable section
set_option maxRecDepth 100000
set_option maxHeartbeats 4000000
namespace Go.Ev
def iU(E:Env)(d:Option Key)(v:aj):Env:=match d with|some d=>E.set d v|none=>E
theorem Lv{dst:Option Key}{E E':Env}{H':ax}{k:Env→ax→dH}{r:aC}(h:fin dst E k r= .ok E' H'):∃v H1,r= .ok v H1∧k (iU E dst v) H1= .ok E' H':=by
 cases r with
 |err n=>cases h
 |ok v H1=>
  refine⟨v,H1,rfl,?_⟩
  cases dst with
  |none=>exact h
  |some d=>
   have h:E.D8 d v (fun E=>k E H1)= .ok E' H':=h;rw[T4.FM] at h;exact h
theorem xd(dst:Option Key)(E:Env)(H:ax)(k:Env→ax→dH):il dst E H k=k (iU E dst .undef) H:=by
 cases dst with
 |none=>rfl
 |some d=>show E.D8 d .undef (fun E=>k E H)=_;rw[T4.FM];rfl
inductive mQ(E:Env):Option (Key×Bool)→Bool→Prop
 |none:mQ E none true
 |slot {t:Key} {want b:Bool}:E.get t=some (.bool b)→mQ E (some (t,want)) (b==want)
 |off {t:Key} {want:Bool}:E.get t=some .undef→mQ E (some (t,want)) false
theorem abJ{call:dO}{o:bk}{E E':Env}{H H':ax}{k:Env→ax→dH}(h:o.step call E H k= .ok E' H'):
  (mQ E o.g true∧∃v H1,o.op.ev call E H= .ok v H1∧k (iU E o.dst v) H1= .ok E' H')∨(mQ E o.g false∧k (iU E o.dst .undef) H= .ok E' H'):=by
 obtain⟨dst,g,q,op⟩:=o
 cases g with
 |none=>exact .inl ⟨.none,Lv h⟩
 |some G=>
  obtain⟨t,want⟩:=G;have h:ob (E.get t) (dH.err 51) (fun v=>yw v (il dst E H k) fun b=>aI (Bool.xor b want) (il dst E H k) (bk.run call ⟨dst,some (t,want),q,op⟩ E H k))= .ok E' H':=h
  cases z:E.get t with
  |none=>rw[z] at h;cases h
  |some v=>
   rw[z] at h
   cases v<;>try(cases h;done)
   case undef=>
    have h:il dst E H k= .ok E' H':=h;rw[xd] at h;exact .inr ⟨.off z,h⟩
   rename_i b;have h:aI (Bool.xor b want) (il dst E H k) (bk.run call ⟨dst,some (t,want),q,op⟩ E H k)= .ok E' H':=h;have A:=mQ.slot (E:=E) (want:=want) z
   cases b<;>cases want
   ·exact .inl ⟨A,Lv h⟩
   ·rw[show Bool.xor false true=true from rfl,dX,xd] at h;exact .inr ⟨A,h⟩
   ·rw[show Bool.xor true false=true from rfl,dX,xd] at h;exact .inr ⟨A,h⟩
   exact .inl ⟨A,Lv h⟩
structure Ed(P:Program)(nt:Nat)(ops:Array Oper)(o:Oper)(io:bk):Prop where
 dst:o.dst=io.dst.map Key.n
 lt:∀d,io.dst=some d→d.n<nt
 g:(o.guard=none∧io.g=none)∨∃j want d,o.guard=some (j,want)∧(ops[j]?).bind (·.dst)=some d.n∧io.g=some (d,want)
 op:ID P o.op=some io.op∨io.op=Jz
theorem abK{call:dO}{E:Env}{H H':ax}{v:aj}(h:Jz.ev call E H= .ok v H'):False:=by cases h
section
variable{P:Program}{ρ:Ho}{nt:Nat}{E:Env}{a:Act}{C:Nat→Option cV}{w:World}{H H':ax}{v:aj}{call:dO}{ops:Array Oper}{Q:Exit→Act→World→Prop}
theorem Qi{o:Oper}{io:bk}{b:Bool}(ho:Ed P nt ops o io)(A:mQ E io.g b)(M:∀t v,E.get t=some v→∃cv,a.tmps[t.n]?=some cv∧VR ρ v cv):Region.wanted o (yielded ops a.tmps)=b:=by
 unfold Region.wanted;rcases ho.g with⟨G,h2⟩|⟨j,want,d,G,h2,O⟩
 ·rw[h2] at A;rw[G]
  cases A
  rfl
 rw[O] at A;rw[G]
 cases A with
 |slot I=>
  obtain⟨cv,L,z⟩:=M _ _ I;simp only[VR] at z;subst z;simp only[yielded,h2,Option.bind_some,L];rename_i b
  cases b<;>cases want<;>rfl
 |off I=>
  obtain⟨cv,L,z⟩:=M _ _ I;simp only[VR] at z;subst z;simp only[yielded,h2,Option.bind_some,L,undef]
  cases want<;>rfl
theorem Kn(A:gS ρ C H){ρ':Ho}(G:∀f g h,ρ' f g=some h→(∃g0 h0,ρ f g0=some h0)∨(H.next≤f∧f<H'.next)):gS ρ' (eg C H H') H':=by
 intro f o z ho;obtain⟨g,h,z⟩:=z;unfold eg
 split
 ·exact ho
 rename_i I
 split
 ·rename_i L;refine A f o ?_ (L▸ho);rcases G f g h z with k|k
  ·exact k
  exact absurd k I
 exact ho
theorem fC.sub(h:fC ρ H.next H'.next){ρ':Ho}{n1:Nat}(z:∀f g h,ρ' f g=some h→(∃g0 h0,ρ f g0=some h0)∨(H.next≤f∧f<n1))(I:H.next≤n1):fC ρ' n1 H'.next:=by
 intro f g h2 A
 cases G:ρ' f g with
 |none=>rfl
 |some x=>
  rcases z f g x G with⟨g0,h0,e⟩|e
  ·rw[h f g0 al A] at e;cases e
  omega
theorem fC.le{n0 n1 z:Nat}(h:fC ρ n0 z)(A:n1≤z):fC ρ n0 n1:=fun f g a b=>h f g a al
theorem AR.Oa(h:AR P ρ nt E a){d:Option Key}(z:∀x,d=some x→x.n<nt){v:aj}{cv:Value}(A:VR ρ v cv):AR P ρ nt (iU E d v) (a.put (d.map Key.n) cv):=by
 cases d with
 |none=>exact h
 |some d=>exact h.put (z d rfl) A
theorem Kj(A:jn P call):∀(l:List bk)(E:Env)(H:ax)(E':Env)(H':ax),H.aR≤H.next→mP call l E H= .ok E' H'→eE H H'
 |[],E,H,E',H',_,h=>by cases h;exact eE.refl _
 |o::r,E,H,E',H',z,h=>by
  rcases abJ (show o.step call E H (mP call r)= .ok E' H' from h) with⟨_,v,H1,G,h2⟩|⟨_,h2⟩
  ·have t1:=TM.ins z (fun f a=>A.kX f a H z) E o.op v H1 G;exact t1.trans (Kj A r _ _ _ _ (by rw[t1.aR];exact eO z t1.next) h2)
  exact Kj A r _ _ _ _ z h2
def WF(H:ax):Prop:=∀x,H.next≤x→H.t.get x=none
theorem Ra{H1 A:ax}(h:eE H1 A)(f:Nat)(z:Wr H1 f):Wr A f:=by
 rcases z with z|z
 ·exact .inl (h.ws f z)
 exact .inr (by rw[h.aR];exact z)
def sj(P:Program)(nt:Nat)(E':Env)(H H':ax)(C:Nat→Option cV)(ρ:Ho)(w:World)(K:Act→World→Prop):Prop:=
 ∀z w' ρ',AR P ρ' nt E' z→Ext (Wr H') H.next H'.next ρ ρ' w w'→R ρ' (eg C H H') w'→gS ρ' (eg C H H') H'→K z w'
theorem Z3{ρ:Ho}(hK:gS ρ C H){H1 z:ax}(h1:H.next≤H1.next)(h2:H1.next≤z.next)(A:∀f,H1.t.get f≠none→z.t.get f≠none){ρ':Ho}(hd:∀f g h,ρ' f g=some h→(∃g0 h0,ρ f g0=some h0)∨(H.next≤f∧f<z.next))
  (f:Nat) (o:cV) (h:eg C H z f=some o) (I:∃g x,ρ' f g=some x):eg (eg C H H1) H1 z f=some o:=by
 obtain⟨g,x,I⟩:=I;unfold eg at h⊢
 by_cases L:H1.next≤f∧f<z.next
 ·rw[bg ⟨al,L.2⟩] at h;rw[bg L];exact h
 rw[aZ L]
 by_cases M:H.next≤f∧f<H1.next
 ·rw[bg ⟨M.1,al⟩] at h;rw[bg M]
  split
  ·rename_i e;rw[←e];exact h
  exact h
 have c3:¬(H.next≤f∧f<z.next):=by omega
 rw[aZ M];rw[aZ c3] at h;have G:∃g0 h0,ρ f g0=some h0:=(hd f g x I).resolve_right c3;have O:=fun U=>hK f U G
 split
 ·rename_i e
  split
  ·rename_i Y;rw[bg (e.trans Y)] at h;exact h
  rename_i Y;rw[aZ (by rw[e];exact Y),e] at h;exact h
 rename_i e
 split at h
 ·rename_i Z;rw[Z]
  cases hg:H.t.get f with
  |none=>
   have h3:H1.t.get f≠none:=fun e3=>e (by rw[Z,hg,e3])
   exact absurd (Z.trans hg) (A f h3)
  |some U=>
   rw[O U hg] at h;exact h
 exact h
theorem rest_ok{o:Oper}{io:bk}{H1:ax}{E':Env}{K:Act→World→Prop}(ho:Ed P nt ops o io)(hA:AR P ρ nt E a)(O:gS ρ C H)(U:eE H H1)(I:eE H1 H')
  (L:sj P nt E' H H' C ρ w K) {cv:Value} {w':World} (hp:cZ ρ C w H v H1 cv w') {K':Act→World→Prop}
  (hk:∀ρ' Y,AR P ρ' nt (iU E io.dst v) (a.put o.dst cv)→R ρ' Y w'→gS ρ' Y H1→(∀f g h,ρ' f g=some h→(∃g0 h0,ρ f g0=some h0)∨(H.next≤f∧f<H1.next))→vl P ρ'→sj P nt E' H1 H' Y ρ' w' K→K' (a.put o.dst cv) w'):
  K' (a.put o.dst cv) w':=by
 obtain⟨ρ',hv,A,Z⟩:=hp;have G:AR P ρ' nt (iU E io.dst v) (a.put o.dst cv):=by
  rw[ho.dst];exact(hA.mono A.le).Oa ho.lt hv
 refine hk ρ' (eg C H H1) G Z (Kn O A.gy) A.gy G.qU fun a2 w2 M G he2 hR2 hK2=>?_
 have z:Ext (Wr H') H.next H'.next ρ M w w2:=(A.mono (Ra I)).trans he2;refine L a2 w2 M G z ?_ (Kn O z.gy);exact hR2.weaken fun f o h hf=>Z3 O U.next I.next I.gJ z.gy f o h hf
theorem Zf(hc:jn P call){K:Act→World→Prop}:∀(l:List bk)(os:List Oper)(k:Nat),os.length=l.length→(∀(i:Nat)(o:Oper)(io:bk),os[i]?=some o→l[i]?=some io→Ed P nt ops o io)→(∀(i:Nat)(o:Oper),os[i]?=some o→ops[k+i]?=some o)→
  ∀(E:Env)(H:ax)(E':Env)(H':ax)(ρ:Ho)(C:Nat→Option cV)(a:Act)(w:World),mP call l E H= .ok E' H'→AR P ρ nt E a→R ρ C w→gS ρ C H→fC ρ H.next H'.next→H.aR≤H.next→WF H→
  sj P nt E' H H' C ρ w K→(∀a w,K a w→Q .normal a w)→wpOps P ops Q ((List.range' k l.length)) a w
 |[],os,k,hl,M,O,E,H,E',H',ρ,C,a,w,h,U,hR,hK,hF,Z,I,z,hQ=>by
  cases h
  refine hQ _ _ (z a w ρ U (Ext.refl _ _ _ _) ?_ ?_)
  ·rw[rH];exact hR
  rw[rH];exact hK
 |io::r,[],k,hl,_,_,_,_,_,_,_,_,_,_,_,_,_,_,_,_,_,_,_=>by simp at hl
 |io::r,o::os,k,hl,M,O,E,H,E',H',ρ,C,a,w,h,U,hR,hK,hF,Z,I,z,hQ=>by
  have ho:=M 0 o io rfl rfl;have XG:ops[k]?=some o:=by simpa using O 0 o rfl
  have A:=Zf hc (K:=K) r os (k+1) (by simpa using hl) (fun i o io L h2=>M (i+1) o io (by simpa using L) (by simpa using h2)) (fun i o L=>by
   have:=O (i+1) o (by simpa using L);rwa [show k+(i+1)=k+1+i by omega] at this)
  rw[gF,List.range'_succ,wpOps_cons];unfold wpOp;simp only[XG];rcases abJ (show io.step call E H (mP call r)= .ok E' H' from h) with⟨hw,v,H1,L,h2⟩|⟨hw,h2⟩
  ·rw[Qi ho hw U.tmp,bg rfl];left;have G:=TM.ins Z (fun f a=>hc.kX f a H Z) E io.op v H1 L;have re:H1.aR≤H1.next:=by rw[G.aR];exact eO Z G.next
   have ht2:=Kj hc r _ _ _ _ re h2;rcases ho.op with JJ|VN
   case inr=>rw[VN] at L;exact(abK L).elim
   have hok2:=Z2 (o:=o) JJ U hR (hF.le ht2.next) (fun f o' _ hf ri=>hK f o' hf ri) Z I hc L;refine Zq hok2 fun cv w' hp=>?_
   refine rest_ok ho U hK G ht2 z hp (K':=wpOps P ops Q (List.range' (k+1) r.length)) fun ρ' C' Y XH hK' hd hg ht=>?_
   exact A _ H1 E' H' ρ' C' _ w' h2 Y XH hK' (hF.sub hd G.next) re (G.wf I) ht hQ
  rw[Qi ho hw U.tmp,aZ (by simp)];have Y:AR P ρ nt (iU E io.dst .undef) (a.put o.dst undef):=by
   rw[ho.dst];exact U.Oa ho.lt (by simp only[VR])
  exact A _ H E' H' ρ C _ w h2 Y hR hK hF Z I z hQ
end
def ax.mark(H:ax):ax:=⟨H.next,H.next,[],H.t⟩
def CS(H H1:ax):ax:=⟨H1.next,H.aR,pd H.aR H.ws H1.ws,H1.t⟩
theorem Fh(aR:Nat)(ws:List Nat):∀(new:List Nat)(x:Nat),x∈pd aR ws new↔x∈ws∨(x∈new∧x<aR)
 |[],x=>by show x∈ws↔_;simp
 |f::r,x=>by
  show x∈wrote f aR (pd aR ws r)↔_;rw[wY,Fh aR ws r];simp only[sd];constructor
  ·rintro((h|⟨h,k⟩)|⟨rfl,k⟩)
   ·exact .inl h
   ·exact .inr ⟨.inr h,k⟩
   exact .inr ⟨.inl rfl,k⟩
  rintro(h|⟨rfl|h,k⟩)
  ·exact .inl (.inl h)
  ·exact .inr ⟨rfl,k⟩
  exact .inl (.inr ⟨h,k⟩)
theorem eE.CS{H H1:ax}(G:H.aR≤H.next)(h:eE H.mark H1):eE H (CS H H1):=
 ⟨h.next,rfl,fun f z=>(Fh _ _ _ _).2 (.inl z),fun f z A=>h.same f (by show f<H.next;omega) (fun e=>A ((Fh _ _ _ _).2 (.inr ⟨e,z⟩))),h.wf,h.gJ⟩
theorem Z4{l m:List Nat}(h:Dl l m=true):∀x,x∈l→x∉m:=by
 induction l with
 |nil=>intro x z;cases z
 |cons y r I=>
  have h:aI (pJ y m) false (Dl r m)=true:=h;intro x z G
  cases A:pJ y m
  ·rw[A] at h
   cases z with
   |head=>rw[(KA _ _).2 G] at A;cases A
   |tail _ z=>exact I h x z G
  rw[A] at h;cases h
theorem Z5{l:List Nat}{r:Option (List Nat)}(h:Hy l r=true){x:Nat}(z:x∈l):∃m,r=some m∧x∉m:=by
 cases l with
 |nil=>cases z
 |cons y s=>
  cases r with
  |none=>cases h
  |some m=>exact⟨m,rfl,Z4 (l:=y::s) h x z⟩
theorem outN_mem{l:List Nat}{lo hi:Nat}(h:yy l lo hi=true):∀x,x∈l→¬(lo≤x∧x<hi):=by
 induction l with
 |nil=>intro x z;cases z
 |cons y r L=>
  have h:aI (Nat.ble lo y) (aI (Nat.ble hi y) (yy r lo hi) false) (yy r lo hi)=true:=h;intro x z⟨G,h2⟩
  cases A:Nat.ble lo y
  ·rw[A] at h
   cases z with
   |head=>rw[gn G] at A;cases A
   |tail _ z=>exact L h x z ⟨G,h2⟩
  rw[A] at h;have h:aI (Nat.ble hi y) (yy r lo hi) false=true:=h
  cases I:Nat.ble hi y
  ·rw[I] at h;cases h
  rw[I] at h
  cases z with
  |head=>have:=aX I;omega
  |tail _ z=>exact L h x z ⟨G,h2⟩
structure CB(a b:FP):Prop where
 ab:∀x,x∈a.ws→∃m,b.rd=some m∧x∉m
 ba:∀x,x∈b.ws→∃m,a.rd=some m∧x∉m
 ww:∀x,x∈a.ws→x∉b.ws
 out:∀x,x∈a.ws→¬(b.lo≤x∧x<b.hi)
theorem apartFP_ok{a b:FP}(h:nu a b=true):CB a b:=by
 unfold nu at h;have z:∀{p:Bool}{q:Bool},aI p q false=true→p=true∧q=true:=by intro p q h;cases p;cases h;exact⟨rfl,h⟩
 obtain⟨A,h⟩:=z h;obtain⟨h2,h⟩:=z h;obtain⟨G,h⟩:=z h;exact⟨fun x=>Z5 A,fun x=>Z5 h2,Z4 G,outN_mem h⟩
theorem Zg{a:FP}{bd:List FP}:∀{l:List Nat},mG a bd l=true→∀k,k∈l→∃b,bd[k]?=some b∧CB a b
 |[],_,k,z=>by cases z
 |i::r,h,k,z=>by
  have h:ob (bd[i]?) false (fun b=>aI (nu a b) (mG a bd r) false)=true:=h
  cases A:bd[i]?with
  |none=>rw[A] at h;cases h
  |some b=>
   rw[A] at h;have h:aI (nu a b) (mG a bd r) false=true:=h
   cases G:nu a b
   ·rw[G] at h;cases h
   rw[G] at h
   cases z with
   |head=>exact⟨b,A,apartFP_ok G⟩
   |tail _ z=>exact Zg h k z
inductive qB(call:dO)(o:bk)(E:Env)(H:ax)(bd:List FP):Bool→aj→FP→ax→Prop
 |skip {fp:FP}:mQ E o.g false→(o.q.isSome=true→fp=⟨some [],[],0,0⟩)→qB call o E H bd false .undef fp H
 |plain {v:aj} {fp:FP} {H1:ax}:mQ E o.g true→o.q=none→o.op.ev call E H= .ok v H1→qB call o E H bd true v fp H1
 |marked {v:aj} {q:List Nat} {H1:ax}:mQ E o.g true→o.q=some q→o.op.ev call E H.mark= .ok v H1→mG ⟨o.op.reads E,H1.ws,H.next,H1.next⟩ bd q=true→
   qB call o E H bd true v ⟨o.op.reads E,H1.ws,H.next,H1.next⟩ (CS H H1)
def Fx(o:bk)(fp:FP)(bd:List FP):List FP:=match o.q with|some _=>fp::bd|none=>bd
theorem finQ_ok{rs:Option (List Nat)}{l:List Nat}{next aR:Nat}{ws:List Nat}{bd:List FP}{dst:Option Key}{E E':Env}{H':ax}{k:Env→ax→List FP→dH}{v:aj}{next' A:Nat}{z:List Nat}{t':HT}
  (h:Ea rs l next aR ws bd dst E k (.ok v ⟨next',A,z,t'⟩)= .ok E' H'):
  mG ⟨rs,z,next,next'⟩ bd l=true∧k (iU E dst v) ⟨next',aR,pd aR ws z,t'⟩ (⟨rs,z,next,next'⟩::bd)= .ok E' H':=by
 unfold Ea at h;dsimp only at h
 cases G:mG ⟨rs,z,next,next'⟩ bd l
 ·rw[G] at h;cases h
 rw[G,dX] at h;refine⟨rfl,?_⟩
 cases dst with
 |none=>exact h
 |some d=>
  dsimp only at h;rw[T4.FM] at h;exact h
theorem aaM{call:dO}{o:bk}{E E':Env}{H H':ax}{bd:List FP}{k:Env→ax→List FP→dH}(h:o.jq call E H bd k= .ok E' H'):
  ∃b v fp H1,qB call o E H bd b v fp H1∧k (iU E o.dst v) H1 (Fx o fp bd)= .ok E' H':=by
 have run:mQ E o.g true→o.pK call E H bd k= .ok E' H'→∃b v fp H1,qB call o E H bd b v fp H1∧k (iU E o.dst v) H1 (Fx o fp bd)= .ok E' H':=by
  intro z h;obtain⟨dst,g,q,op⟩:=o
  cases q with
  |none=>
   obtain⟨v,H1,M,h2⟩:=Lv (k:=fun E H=>k E H bd) h;exact⟨true,v,⟨none,[],0,0⟩,H1,.plain z rfl M,h2⟩
  |some q=>
   cases H with
   |mk next aR ws t=>
    have h:cm next (fun next=>Ea (op.reads E) q next aR ws bd dst E k (op.ev call E ⟨next,next,[],t⟩))= .ok E' H':=h;rw[fy] at h
    cases L:op.ev call E ⟨next,next,[],t⟩ with
    |err n=>rw[L] at h;cases h
    |ok v H1=>
     rw[L] at h
     cases H1 with
     |mk next' A G t'=>
      obtain⟨O,h⟩:=finQ_ok h;exact⟨true,v,⟨op.reads E,G,next,next'⟩,CS ⟨next,aR,ws,t⟩ ⟨next',A,G,t'⟩,.marked (q:=q) (H1:=⟨next',A,G,t'⟩) z rfl L O,h⟩
 have skip:mQ E o.g false→il o.dst E H (fun E H=>k E H (oE o.q bd))= .ok E' H'→∃b v fp H1,qB call o E H bd b v fp H1∧k (iU E o.dst v) H1 (Fx o fp bd)= .ok E' H':=by
  intro z h;rw[xd] at h;obtain⟨dst,g,q,op⟩:=o;refine⟨false,.undef,⟨some [],[],0,0⟩,H,.skip z (fun _=>rfl),?_⟩
  cases q<;>exact h
 obtain⟨dst,g,q,op⟩:=o
 cases g with
 |none=>exact run .none h
 |some U=>
  obtain⟨t,want⟩:=U;have h:ob (E.get t) (dH.err 51) (fun v=>yw v (il dst E H fun E H=>k E H (oE q bd)) fun b=>aI (Bool.xor b want) (il dst E H fun E H=>k E H (oE q bd)) (bk.pK call ⟨dst,some (t,want),q,op⟩ E H bd k))= .ok E' H':=h
  cases I:E.get t with
  |none=>rw[I] at h;cases h
  |some v=>
   rw[I] at h
   cases v<;>try(cases h;done)
   case undef=>exact skip (.off I) h
   rename_i b;have h:aI (Bool.xor b want) (il dst E H fun E H=>k E H (oE q bd)) (bk.pK call ⟨dst,some (t,want),q,op⟩ E H bd k)= .ok E' H':=h;have z:=mQ.slot (E:=E) (want:=want) I
   cases b<;>cases want
   ·exact run z h
   ·exact skip z h
   ·exact skip z h
   exact run z h
structure Trace(call:dO)(l:List bk)(E:Env)(H:ax)(bd:List FP)(E':Env)(H':ax)(Es:Nat→Env)(Hs:Nat→ax)(Rs:Nat→List FP)(Wn:Nat→Bool)(Vs:Nat→aj)(Fp:Nat→FP):Prop where
 e0:Es 0=E
 h0:Hs 0=H
 r0:Rs 0=bd
 eN:Es l.length=E'
 hN:Hs l.length=H'
 step:∀i o,l[i]?=some o→qB call o (Es i) (Hs i) (Rs i) (Wn i) (Vs i) (Fp i) (Hs (i+1))∧Es (i+1)=iU (Es i) o.dst (Vs i)∧Rs (i+1)=Fx o (Fp i) (Rs i)
theorem aaN{call:dO}:∀(l:List bk)(E:Env)(H:ax)(bd:List FP)(E':Env)(H':ax),iM call l E H bd= .ok E' H'→
  ∃Es Hs Rs Wn Vs Fp,Trace call l E H bd E' H' Es Hs Rs Wn Vs Fp
 |[],E,H,bd,E',H',h=>by
  cases h
  exact⟨fun _=>E,fun _=>H,fun _=>bd,fun _=>true,fun _=>.undef,fun _=>⟨none,[],0,0⟩,rfl,rfl,rfl,rfl,rfl,fun i o h=>by simp at h⟩
 |o::r,E,H,bd,E',H',h=>by
  obtain⟨b,v,fp,H1,A,h2⟩:=aaM (show o.jq call E H bd (iM call r)= .ok E' H' from h);obtain⟨Es,Hs,Rs,Wn,Vs,Fp,t⟩:=aaN r _ _ _ _ _ h2;refine⟨fun|0=>E|i+1=>Es i,fun|0=>H|i+1=>Hs i,fun|0=>bd|i+1=>Rs i,fun|0=>b|i+1=>Wn i,fun|0=>v|i+1=>Vs i,fun|0=>fp|i+1=>Fp i,rfl,rfl,rfl,t.eN,t.hN,fun i x z=>?_⟩
  cases i with
  |zero=>
   simp at z;subst z;simp only[t.e0,t.h0,t.r0];exact⟨A,True.intro,True.intro⟩
  |succ i=>exact t.step i x (by simpa using z)
def PS(H:ax)(r:aC):Prop:=∀v H',r= .ok v H'→H'=H
theorem PS.err{H:ax}{n:Nat}:PS H (.err n):=fun _ _ h=>by cases h
theorem PS.ok{H:ax}{v:aj}:PS H (.ok v H):=fun _ _ h=>by cases h;rfl
theorem PS.aI{H:ax}{b:Bool}{k e:aC}(h:PS H k)(h':PS H e):PS H (aI b k e):=by cases b;exact h';exact h
theorem PS.ob{H:ax}{α:Type}{o:Option α}{e:aC}{k:α→aC}(h:∀x,PS H (k x))(h':PS H e):PS H (ob o e k):=by cases o;exact h';exact h _
theorem PS.bt{H:ax}{x:aG}{E:Env}{e:aC}{k:aj→aC}(h:∀x,PS H (k x))(h':PS H e):PS H (bt x E e k):=by
 cases x with
 |t i=>exact PS.ob (o:=E.get i) h h'
 |c a=>exact h a
theorem PS.uY{H:ax}{a:aj}{e:aC}{k:Bool→aC}(h:∀x,PS H (k x))(h':PS H e):PS H (uY a e k):=by cases a<;>first|exact h'|exact h _
theorem PS.fA{H:ax}{a:aj}{e:aC}{k:IntKind→Int→aC}(h:∀x y,PS H (k x y))(h':PS H e):PS H (fA a e k):=by cases a<;>first|exact h'|exact h _ _
theorem PS.lB{H:ax}{a:aj}{e:aC}{k:Nat→Nat→aC}(h:∀x y,PS H (k x y))(h':PS H e):PS H (lB a e k):=by cases a<;>first|exact h'|exact h _ _
theorem PS.jf{H:ax}{a:aj}{e:aC}{k:Nat→Nat→Nat→aC}(h:∀x y z,PS H (k x y z))(h':PS H e):PS H (jf a e k):=by cases a<;>first|exact h'|exact h _ _ _
theorem PS.fc{H:ax}{a:aj}{e A:aC}{k:Nat→Nat→Nat→Nat→Nat→aC}(h:∀x y z u w,PS H (k x y z u w))(h2:PS H A)(h':PS H e):PS H (fc a e A k):=by cases a<;>first|exact h'|exact h2|exact h _ _ _ _ _
theorem PS.mO{H:ax}{a:aj}{e:aC}{k:List aj→aC}(h:∀x,PS H (k x))(h':PS H e):PS H (mO a e k):=by cases a<;>first|exact h'|exact h _
theorem PS.uQ{H:ax}{a:aj}{e:aC}{k:List aj→aC}(h:∀x,PS H (k x))(h':PS H e):PS H (uQ a e k):=by cases a<;>first|exact h'|exact h _
theorem PS.xo{H:ax}{a:aj}{e:aC}{k:Nat→List aj→List aj→aC}(h:∀x y z,PS H (k x y z))(h':PS H e):PS H (xo a e k):=by cases a<;>first|exact h'|exact h _ _ _
theorem PS.iN{H:ax}{i:Int}{e:aC}{k:Nat→aC}(h:∀x,PS H (k x))(h':PS H e):PS H (iN i e k):=by cases i;exact h _;exact h'
theorem PS.idx{H:ax}{a:aj}{n:Nat}{e:aC}{k:Nat→aC}(h:∀x,PS H (k x))(h':PS H e):PS H (idx a n e k):=PS.fA (fun _ _=>PS.iN (fun _=>PS.aI (h _) h') h') h'
theorem PS.en{H:ax}{E:Env}{x:Option aG}{d y:Nat}{e:aC}{k:Nat→aC}(h:∀x,PS H (k x))(h':PS H e):PS H (en E x d y e k):=by
 cases x with
 |none=>exact h _
 |some z=>exact PS.ob (fun _=>PS.fA (fun _ _=>PS.iN (fun _=>PS.aI (h _) h') h') h') h'
theorem PS.kN{H:ax}{o:Option cV}{e:aC}{k:Nat→Nat→Nat→Nat→Nat→Nat→RT→aC}(h:∀a b c d e f g,PS H (k a b c d e f g))(h':PS H e):PS H (kN o e k):=by
 cases o with
 |none=>exact h'
 |some o=>cases o with
  |row=>exact h _ _ _ _ _ _ _
  |map=>exact h'
theorem PS.fO{H:ax}{agg:Bool}{l:List aj}{e:aC}{k:aj→aC}(h:∀x,PS H (k x))(h':PS H e):PS H (fO agg l e k):=by
 refine PS.aI (h _) ?_
 cases l with
 |nil=>exact h'
 |cons x r=>cases r with
  |nil=>exact h _
  |cons=>exact h'
theorem PS.cm{H:ax}{n:Nat}{k:Nat→aC}(h:∀x,PS H (k x)):PS H (cm n k):=by rw[fy];exact h _
theorem PS.lS{H:ax}{n:Int}{k:Int→aC}(h:∀x,PS H (k x)):PS H (lS n k):=by rw[wW];exact h _
theorem PS.mJ{H:ax}{n:aj}{k:aj→aC}(h:∀x,PS H (k x)):PS H (mJ n k):=by rw[wX];exact h _
theorem PS.pc{H:ax}{n:Bool}{k:Bool→aC}(h:∀x,PS H (k x)):PS H (pc n k):=by cases n<;>exact h _
theorem pure_same{call:dO}{H:ax}{E:Env}{o:bq}(z:mK o=true):PS H (o.ev call E H):=by
 cases o with
 |d8 x=>exact PS.bt (fun _=>PS.ok) PS.err
 |pick c a b=>exact PS.bt (fun _=>PS.uY (fun _=>PS.aI (PS.bt (fun _=>PS.ok) PS.err) (PS.bt (fun _=>PS.ok) PS.err)) PS.err) PS.err
 |pI a b c d=>cases z
 |box a b c d=>cases z
 |load a b c=>cases z
 |store a b c=>cases z
 |bin op x y=>exact PS.bt (fun _=>PS.bt (fun _=>by rw[KS];exact PS.ob (fun _=>PS.mJ fun _=>PS.ok) PS.err) PS.err) PS.err
 |eqv c n x y=>exact PS.bt (fun _=>PS.bt (fun _=>PS.ob (fun _=>PS.pc fun _=>PS.ok) PS.err) PS.err) PS.err
 |un op x=>exact PS.bt (fun _=>PS.ob (fun _=>PS.mJ fun _=>PS.ok) PS.err) PS.err
 |eR x k=>exact PS.bt (fun _=>PS.jf (fun _ _ _=>PS.cm fun _=>PS.ok) PS.err) PS.err
 |sub x a b c=>exact PS.bt (fun _=>PS.mO (fun _=>PS.aI (PS.fO (fun _=>PS.ok) PS.err) PS.err) PS.err) PS.err
 |Ab a b x i=>exact PS.bt (fun _=>PS.jf (fun _ _ _=>PS.bt (fun _=>PS.idx (fun _=>PS.cm fun _=>PS.ok) PS.err) PS.err) PS.err) PS.err
 |j0 a x i=>exact PS.bt (fun _=>PS.fc (fun _ _ _ _ _=>PS.bt (fun _=>PS.idx (fun _=>PS.cm fun _=>PS.ok) PS.err) PS.err) PS.err PS.err) PS.err
 |CO a b c x i=>exact PS.bt (fun _=>PS.mO (fun _=>PS.bt (fun _=>PS.idx (fun _=>PS.aI (PS.fO (fun _=>PS.ok) PS.err) PS.err) PS.err) PS.err) PS.err) PS.err
 |CP x i=>exact PS.bt (fun _=>PS.lB (fun _ _=>PS.bt (fun _=>PS.idx (fun _=>PS.cm fun _=>PS.ok) PS.err) PS.err) PS.err) PS.err
 |Hi x a b=>exact PS.bt (fun _=>PS.lB (fun _ _=>PS.en (fun _=>PS.en (fun _=>PS.cm fun _=>PS.cm fun _=>PS.ok) PS.err) PS.err) PS.err) PS.err
 |tW n x a b=>exact PS.bt (fun _=>PS.fc (fun _ _ _ _ _=>PS.aI (PS.en (fun _=>PS.en (fun _=>PS.cm fun _=>PS.cm fun _=>PS.ok) PS.err) PS.err) PS.err) (PS.en (fun _=>PS.en (fun _=>PS.ok) PS.err) PS.err) PS.err) PS.err
 |Jw n x a b c=>exact PS.bt (fun _=>PS.fc (fun _ _ _ _ _=>PS.aI (PS.en (fun _=>PS.aI (PS.en (fun _=>PS.en (fun _=>PS.cm fun _=>PS.cm fun _=>PS.ok) PS.err) PS.err) PS.err) PS.err) PS.err) PS.err PS.err) PS.err
 |vH x i=>exact PS.bt (fun _=>PS.uQ (fun _=>PS.ob (fun _=>PS.ok) PS.err) PS.err) PS.err
 |rT x=>exact PS.bt (fun _=>PS.aI PS.ok PS.err) PS.err
 |yv f fs l=>exact PS.ob (fun _=>PS.ob (fun _=>PS.ok) PS.err) PS.err
 |vI a b c d e f=>cases z
 |build a b=>exact PS.ob (fun _=>PS.ok) PS.err
 |tb a b c d e f=>cases z
 |len x=>exact PS.bt (fun _=>PS.fc (fun _ _ _ _ _=>PS.ok) PS.ok PS.err) PS.err
 |tX x=>exact PS.bt (fun _=>PS.lB (fun _ _=>PS.ok) PS.err) PS.err
 |app a b c x y=>cases z
 |xl a x y=>cases z
 |copy a b c=>cases z
 |xm a b c=>exact PS.bt (fun _=>PS.fA (fun _ _=>PS.ob (fun _=>PS.ob (fun _=>PS.ok) PS.err) PS.err) PS.err) PS.err
 |conv k x=>exact PS.bt (fun _=>PS.fA (fun _ _=>PS.lS fun _=>PS.ok) PS.err) PS.err
 |xn x=>cases z
 |call f l=>cases z
 |tB x l=>cases z
theorem pure_reads{E:Env}{o:bq}(z:mK o=true):o.reads E=some []:=by
 cases o<;>first|rfl|cases z
inductive jY(ops:Array Oper):Nat→Nat→Prop
 |Ob {j:Nat} {o:Oper} {e:Edge}:ops[j]?=some o→e∈o.after→Region.binds .any e=true→jY ops e.on j
 |step {i k j:Nat}:jY ops i k→jY ops k j→jY ops i j
def Lw(ops:Array Oper)(S:Nat→Bool):Prop:=∀j o e,ops[j]?=some o→e∈o.after→Region.binds .any e=true→S j=true→S e.on=true
def Ug(ops:Array Oper)(S:Nat→Bool)(j:Nat):Prop:=∀o e,ops[j]?=some o→e∈o.after→Region.binds .any e=true→S e.on=true
theorem jY.closed{ops:Array Oper}{S:Nat→Bool}(G:Lw ops S){i j:Nat}(h:jY ops i j):S j=true→S i=true:=by
 induction h with
 |Ob I h2 L=>exact fun h=>G _ _ _ I h2 L h
 |step _ _ z A=>exact fun h=>z (A h)
theorem jY.ready{ops:Array Oper}{S:Nat→Bool}(G:Lw ops S){i j:Nat}(h:jY ops i j):Ug ops S j→S i=true:=by
 induction h with
 |Ob z h2 I=>exact fun h=>h _ _ z h2 I
 |step z _ _ A=>exact fun h=>z.closed G (A h)
def ET(ms:List Nat):List Edge→Nat
 |[]=>0
 |e::r=>if Region.binds .any e=true then 2^e.on|||ms.getD e.on 0|||ET ms r else ET ms r
def Cl:List Oper→List Nat→List Nat
 |[],ms=>ms
 |o::r,ms=>Cl r (ms++[ET ms o.after.toList])
def KC:Nat→List Oper→Bool
 |_,[]=>true
 |k,o::r=>(o.after.toList.all fun e=>!Region.binds .any e||decide (e.on<k))&&KC (k+1) r
theorem ad2{ops:Array Oper}{ms:List Nat}(z:∀j i,(ms.getD j 0).testBit i=true→jY ops i j){j:Nat}{o:Oper}(ho:ops[j]?=some o):
  ∀(l:List Edge),(∀e,e∈l→e∈o.after)→∀i,(ET ms l).testBit i=true→jY ops i j
 |[],_,i,h=>by simp[ET] at h
 |e::r,A,i,h=>by
  have G:=ad2 z ho r (fun e L=>A e (pG _ L)) i;unfold ET at h
  split at h
  ·rename_i I;rw[Nat.testBit_or,Nat.testBit_or] at h;simp only[oN] at h;rcases h with(h|h)|h
   ·rw[Nat.testBit_two_pow] at h;have:e.on=i:=by simpa using h
    subst this;exact .Ob ho (A e (jw ..)) I
   ·exact .step (z _ _ h) (.Ob ho (A e (jw ..)) I)
   exact G h
  exact G h
theorem Y3{ops:Array Oper}:∀(l:List Oper)(ms:List Nat),(∀n,l[n]?=ops[ms.length+n]?)→(∀j i,(ms.getD j 0).testBit i=true→jY ops i j)→
  ∀j i,((Cl l ms).getD j 0).testBit i=true→jY ops i j
 |[],ms,_,h=>h
 |o::r,ms,G,h=>by
  refine Y3 r _ (fun n=>?_) fun j i z=>?_
  ·have:=G (n+1);simp only[Nq] at this;rw[this];simp only[eT,gF,jK];congr 1;omega
  have ho:ops[ms.length]?=some o:=by have:=G 0;simpa using this.symm
  rcases Vr j ms.length with A|rfl|I
  ·rw[Mf,sg A,←Mf] at z;exact h j i z
  ·rw[Mf,qR (bf _)] at z;simp only[TY,Mg,TZ] at z;exact ad2 h ho _ (fun e L=>by simpa using L) i z
  rw[Mf,yp (by simp;omega)] at z;simp at z
theorem Zh:∀(l:List Oper)(k:Nat),KC k l=true→∀n o e,l[n]?=some o→e∈o.after→Region.binds .any e=true→e.on<k+n
 |[],_,_,n,o,e,h,_,_=>by simp at h
 |x::r,k,h,n,o,e,z,A,G=>by
  unfold KC at h;simp only[cN,tQ] at h
  cases n with
  |zero=>
   simp at z;subst z;have:=h.1 e (by simpa using A);simpa[G] using this
  |succ n=>
   have:=Zh r (k+1) h.2 n o e (by simpa using z) A G;omega
def slotOf:aG→Option Key
 |.t n=>some n
 |_=>none
def u7(o:bk):List Key:=o.op.dc.filterMap slotOf++(match o.g with|some (t,_)=>[t]|none=>[])
def HB(d:Option Key)(l:List Key):Bool:=match d with|some d=>!(l.contains d)|none=>true
def Sc(x y:bk):Bool:=HB x.dst (u7 y)&&HB x.dst y.dst.toList&&HB y.dst (u7 x)
def ad3(ms:List Nat)(l:List bk):Bool:=
 (List.range l.length).all fun j=>(List.range j).all fun i=>(ms.getD j 0).testBit i||(match l[i]?,l[j]?with|some x,some y=>Sc x y|_,_=>false)
theorem QE{d:Option Key}{l:List Key}(h:HB d l=true):∀t,t∈l→d≠some t:=by
 intro t z A;subst A;simp[HB] at h;exact h z
structure Sd(x y:bk):Prop where
 xy:∀t,t∈u7 y→x.dst≠some t
 dd:∀t,y.dst=some t→x.dst≠some t
 yx:∀t,t∈u7 x→y.dst≠some t
theorem apartI_ok{x y:bk}(h:Sc x y=true):Sd x y:=by
 unfold Sc at h;simp only[cN] at h;exact⟨QE h.1.1,fun t z=>QE h.1.2 t (by simp[z]),QE h.2⟩
theorem tmpsOk_ok{ms:List Nat}{l:List bk}(h:ad3 ms l=true){i j:Nat}{x y:bk}(A:i<j)(I:l[i]?=some x)(G:l[j]?=some y):(ms.getD j 0).testBit i=true∨Sd x y:=by
 have L:j<l.length:=(List.getElem?_eq_some_iff.1 G).1;have z:=List.all_eq_true.1 (List.all_eq_true.1 h j (List.mem_range.2 L)) i (List.mem_range.2 A);rw[I,G] at z;rcases oN _ _|>.mp z with z|z
 ·exact .inl z
 exact .inr (apartI_ok z)
theorem Z6{E E':Env}{o:bk}(h:∀t,t∈u7 o→E.get t=E'.get t):∀x∈o.op.dc,x.ev E=x.ev E':=by
 intro x z
 cases x with
 |t n=>exact h n (Vz _ (List.mem_filterMap.2 ⟨.t n,z,rfl⟩))
 |c v=>rfl
theorem looks_wants{E E':Env}{o:bk}(h:∀t,t∈u7 o→E.get t=E'.get t){b:Bool}(z:mQ E o.g b):mQ E' o.g b:=by
 generalize A:o.g=g at z
 cases z with
 |none=>exact .none
 |slot k=>
  rename_i t want b;refine .slot ?_;rw[←h t (Ns _ (by rw[A];simp))];exact k
 |off k=>
  rename_i t want;refine .off ?_;rw[←h t (Ns _ (by rw[A];simp))];exact k
def Cm(m:Nat):Nat→List Nat→List Nat
 |_,[]=>[]
 |k,j::r=>if m.testBit j then Cm m (k+1) r else k::Cm m (k+1) r
def pr(ms:List Nat):Nat→List Nat→List bk→List bk
 |_,_,[]=>[]
 |i,seen,o::r=>if mK o.op then{o with q:=none}::pr ms (i+1) seen r else{o with q:=some (Cm (ms.getD i 0) 0 seen)}::pr ms (i+1) (i::seen) r
def seenAt(L:List bk):Nat→List Nat
 |0=>[]
 |n+1=>match L[n]?with
  |some o=>if mK o.op then seenAt L n else n::seenAt L n
  |none=>seenAt L n
theorem Y4{m j:Nat}(z:m.testBit j=false):∀(seen:List Nat)(k n:Nat),seen[n]?=some j→k+n∈Cm m k seen
 |[],_,_,h=>by simp at h
 |x::r,k,n,h=>by
  unfold Cm
  cases n with
  |zero=>simp at h;subst h;rw[aZ (by simp[z])];exact jw ..
  |succ n=>
   have:=Y4 z r (k+1) n (by simpa using h);rw[show k+(n+1)=k+1+n by omega]
   split
   ·exact this
   exact pG _ this
theorem Fy{ms:List Nat}{L:List bk}:∀(l:List bk)(i:Nat),(∀n,l[n]?=L[i+n]?)→∀n io,(pr ms i (seenAt L i) l)[n]?=some io→
  ∃z,L[i+n]?=some z∧io.dst=z.dst∧io.g=z.g∧io.op=z.op∧io.q=if mK z.op then none else some (Cm (ms.getD (i+n) 0) 0 (seenAt L (i+n)))
 |[],i,_,n,io,h=>by simp[pr] at h
 |o::r,i,G,n,io,h=>by
  have h0:L[i]?=some o:=by have:=G 0;simpa using this.symm
  have I:∀n,r[n]?=L[i+1+n]?:=fun n=>by have:=G (n+1);rw[show i+1+n=i+(n+1) by omega];simpa using this
  have M:=Fy (ms:=ms) r (i+1) I;have O:seenAt L (i+1)=if mK o.op then seenAt L i else i::seenAt L i:=by simp only[seenAt,h0]
  unfold pr at h
  cases n with
  |zero=>
   refine⟨o,h0,?_⟩
   split at h
   ·rename_i A;simp at h;subst h;exact⟨rfl,rfl,rfl,by rw[bg A]⟩
   rename_i A;simp at h;subst h;exact⟨rfl,rfl,rfl,by rw[aZ A];rfl⟩
  |succ n=>
   rw[show i+(n+1)=i+1+n by omega];refine M n io ?_;rw[O]
   split at h
   ·rename_i A;rw[bg A];simpa using h
   rename_i A;rw[aZ A];simpa using h
theorem Y5{ms:List Nat}:∀(l:List bk)(i:Nat)(s:List Nat),(pr ms i s l).length=l.length
 |[],_,_=>rfl
 |o::r,i,s=>by
  unfold pr
  split<;>simp[Y5 r]
theorem Zz{L:List bk}{i:Nat}{o:bk}(h:L[i]?=some o)(A:mK o.op=false):∀n,i<n→i∈seenAt L n
 |0,h=>by omega
 |n+1,G=>by
  unfold seenAt;rcases Mh (Nat.le_of_lt_succ G) with z|rfl
  ·have:=Zz h A n z
   split
   ·split
    ·exact this
    exact pG _ this
   exact this
  simp[h,A]
theorem Ext.wide{W:Nat→Prop}{n0 n1 z A:Nat}{ρ ρ':Ho}{w w':World}(h:Ext W n0 n1 ρ ρ' w w')(h0:z≤n0)(G:n1≤A):Ext W z A ρ ρ' w w':=
 ⟨h.le,fun f g x e=>(h.gy f g x e).imp_right fun k=>⟨al,al⟩,h.bE,h.frame,h.size,by have:=h.nn;omega,h.os,h.tape,h.output⟩
theorem Ext.transW{W:Nat→Prop}{n0 n1:Nat}{ρ z A:Ho}{w U Y:World}(h:Ext W n0 n1 ρ z w U)(k:Ext W n0 n1 z A U Y):Ext W n0 n1 ρ A w Y:=by
 refine⟨Ho.le_trans h.le k.le,?_,?_,?_,eO h.size k.size,h.nn,k.os.trans h.os,k.tape.trans h.tape,k.output.trans h.output⟩
 ·intro f g x G;rcases k.gy f g x G with⟨g0,h0,e⟩|e
  ·exact h.gy f g0 h0 e
  exact .inr e
 ·intro f g x G;rcases k.bE f g x G with e|⟨a,b⟩|⟨g0,h0,e,I,L⟩
  ·exact h.bE f g x e
  ·exact .inr (.inl ⟨eO h.size a,b⟩)
  rcases h.bE f g0 h0 e with M|⟨a,b⟩|⟨g1,h1,M,e3,e4⟩
  ·exact .inr (.inr ⟨g0,h0,M,I,L⟩)
  ·exact .inr (.inl ⟨I▸a,L▸b⟩)
  exact .inr (.inr ⟨g1,h1,M,e3.trans I,e4.trans L⟩)
 intro b Z O;rw[k.frame b (jh Z h.size) ?_,h.frame b Z O];intro f g x G hr hw;rcases h.bE f g x G with e|⟨a,_⟩|⟨g0,h0,e,I,L⟩
 ·exact O f g x e hr hw
 ·intro hh;omega
 exact I▸O f g0 h0 e (L.trans hr) hw
def pt(l:List bk)(n:Nat):Option Key:=(l[n]?).bind (·.dst)
def rE(l:List bk)(E:Env)(V:Nat→aj)(S:Nat→Bool):Nat→Env
 |0=>E
 |n+1=>if S n=true then iU (rE l E V S n) (pt l n) (V n) else rE l E V S n
def rC(C:Nat→Option cV)(Hs:Nat→ax)(S:Nat→Bool):Nat→Nat→Option cV
 |0=>C
 |n+1=>if S n=true then eg (rC C Hs S n) (Hs n) (Hs (n+1)) else rC C Hs S n
theorem FW{l:List bk}{E:Env}{V:Nat→aj}{S:Nat→Bool}(n:Nat):rE l E V S (n+1)=if S n=true then iU (rE l E V S n) (pt l n) (V n) else rE l E V S n:=rfl
theorem FY{C:Nat→Option cV}{Hs:Nat→ax}{S:Nat→Bool}(n:Nat):rC C Hs S (n+1)=if S n=true then eg (rC C Hs S n) (Hs n) (Hs (n+1)) else rC C Hs S n:=rfl
def ins(S:Nat→Bool)(j:Nat):Nat→Bool:=fun i=>i==j||S i
theorem Cu(E:Env)(d:Option Key)(v:aj)(t:Key):(iU E d v).get t=if d=some t then some v else E.get t:=by
 cases d with
 |none=>simp[iU]
 |some d=>
  show(E.set d v).get t=_;rw[T4.da]
  by_cases h:t=d
  ·subst h;simp
  rw[aZ h,aZ (by simp;exact fun e=>h e.symm)]
section
variable{l:List bk}{E:Env}{V:Nat→aj}{S:Nat→Bool}{j:Nat}
theorem Lx(t:Key){T:Nat→Bool}:∀n,(∀i,i<n→S i≠T i→pt l i≠some t)→(rE l E V S n).get t=(rE l E V T n).get t
 |0,_=>rfl
 |n+1,h=>by
  have z:=Lx t n fun i hi=>h i al
  have A:=h n al;rw[FW,FW]
  cases G:S n<;>cases I:T n
  ·simpa using z
  ·have:=A (by simp[G,I]);simp only[gU,if_false,if_true,Cu,aZ this];exact z
  ·have:=A (by simp[G,I]);simp only[gU,if_false,if_true,Cu,aZ this];exact z
  simp only[if_true,Cu,z]
theorem KU(t:Key):∀n,j≤n→(∀k,j≤k→k<n→S k=true→pt l k≠some t)→(rE l E V S n).get t=(rE l E V S j).get t
 |0,z,_=>by have:j=0:=al;subst this;rfl
 |n+1,z,h=>by
  rcases Mh z with G|rfl
  ·have A:=KU t n al fun k I h2=>h k I al
   rw[FW]
   split
   ·rename_i L;rw[Cu,aZ (h n al al L)];exact A
   exact A
  rfl
theorem ad4(I:S j=false)(A:j<l.length)(L:∀k t,j<k→S k=true→pt l j=some t→pt l k≠some t)(t:Key):
  (rE l E V (ins S j) l.length).get t=(iU (rE l E V S l.length) (pt l j) (V j)).get t:=by
 rw[Cu];have e:∀i,ins S j i≠S i→i=j:=by
  intro i hi;unfold ins at hi
  by_cases h:i=j
  ·exact h
  simp[h] at hi
 split
 ·rename_i z;rw[KU (j:=j+1) t l.length A fun k M h2 G=>L k t al (by unfold ins at G;simpa[show k≠j by omega] using G) z];rw[FW];rw[bg (by simp[ins]),Cu,bg z]
 rename_i z;exact Lx t _ fun i _ hi=>by rw[e i hi];exact z
end
section
variable{C:Nat→Option cV}{Hs:Nat→ax}{S:Nat→Bool}{j:Nat}
def Touch(Hs:Nat→ax)(n f:Nat):Prop:=((Hs n).next≤f∧f<(Hs (n+1)).next)∨(Hs (n+1)).t.get f≠(Hs n).t.get f
theorem Ko{n f:Nat}(h:Touch Hs n f):eg C (Hs n) (Hs (n+1)) f=(Hs (n+1)).t.get f:=by
 unfold eg;rcases h with h|h
 ·rw[bg h]
 rw[aZ h];split<;>rfl
theorem Kg{n f:Nat}(h:¬Touch Hs n f):eg C (Hs n) (Hs (n+1)) f=C f:=by
 unfold eg;rw[aZ (fun k=>h (.inl k)),bg (AG fun k=>h (.inr k))]
theorem ad5(f:Nat){T:Nat→Bool}:∀n,(∀i,i<n→S i≠T i→¬Touch Hs i f)→rC C Hs S n f=rC C Hs T n f
 |0,_=>rfl
 |n+1,h=>by
  have A:=ad5 f n fun i hi=>h i al
  have G:=h n al;rw[FY,FY]
  by_cases z:Touch Hs n f
  ·have e:S n=T n:=AG fun k=>G k z
   rw[e]
   cases T n
   ·simpa using A
   simp only[if_true,Ko z]
  cases S n<;>cases T n<;>simp only[gU,if_false,if_true,Kg z]<;>exact A
theorem FZ(f:Nat):∀n,j≤n→(∀k,j≤k→k<n→S k=true→¬Touch Hs k f)→rC C Hs S n f=rC C Hs S j f
 |0,z,_=>by have:j=0:=al;subst this;rfl
 |n+1,z,h=>by
  rcases Mh z with G|rfl
  ·have A:=FZ f n al fun k I h2=>h k I al
   rw[FY]
   split
   ·rename_i L;rw[Kg (h n al al L)];exact A
   exact A
  rfl
theorem ad6{N:Nat}(I:S j=false)(A:j<N)(L:∀k f,j<k→k<N→S k=true→Touch Hs j f→¬Touch Hs k f)(f:Nat):
  rC C Hs (ins S j) N f=eg (rC C Hs S N) (Hs j) (Hs (j+1)) f:=by
 have e:∀i,ins S j i≠S i→i=j:=by
  intro i hi;unfold ins at hi
  by_cases h:i=j
  ·exact h
  simp[h] at hi
 by_cases z:Touch Hs j f
 ·rw[Ko z,FZ (j:=j+1) f N A fun k M h2 G=>L k f al h2 (by unfold ins at G;simpa[show k≠j by omega] using G) z];rw[FY];rw[bg (by simp[ins]),Ko z]
 rw[Kg z];exact ad5 f _ fun i _ hi=>by rw[e i hi];exact z
theorem QF(f:Nat)(h0:∀o,(Hs 0).t.get f=some o→C f=some o):∀n,(∀i,i<n→S i=false→¬Touch Hs i f)→∀o,(Hs n).t.get f=some o→rC C Hs S n f=some o
 |0,_,o,h=>h0 o h
 |n+1,A,o,h=>by
  have G:=QF f h0 n (fun i hi=>A i al) o;rw[FY]
  by_cases z:Touch Hs n f
  ·have:S n=true:=by
    cases I:S n
    ·exact absurd z (A n al I)
    rfl
   rw[bg this,Ko z];exact h
  have e:(Hs (n+1)).t.get f=(Hs n).t.get f:=AG fun k=>z (.inr k)
  rw[e] at h
  split
  ·rw[Kg z];exact G h
  exact G h
end
end Go.Ev
