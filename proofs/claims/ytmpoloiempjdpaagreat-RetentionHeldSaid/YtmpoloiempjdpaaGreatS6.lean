/- Part 6 of rules for walks through the code of a program, and of such walks; what each part proves is said by its theorems. -/
import Derived.Test.YtmpoloiempjdpaaGreatS5
import Derived.LoopN
import Derived.Lib.Bytealg
import Derived.Laws.StandIn
set_option linter.unusedVariables false
set_option linter.unusedSimpArgs false
noncomputable section
set_option maxRecDepth 100000
set_option maxHeartbeats 4000000
namespace Go.Ev
theorem Ext.wide{W:Nat→Prop}{n0 n1 z A:Nat}{ρ ρ':Ho}{w w':World}(h:Ext W n0 n1 ρ ρ' w w')(h0:z≤n0)(G:n1≤A):Ext W z A ρ ρ' w w':=
 ⟨h.le,fun f g x e=>(h.gE f g x e).imp_right fun k=>⟨an,an⟩,h.bG,h.frame,h.size,by have:=h.nn;omega,h.os,h.tape,h.output⟩
theorem Ext.transW{W:Nat→Prop}{n0 n1:Nat}{ρ z A:Ho}{w U Y:World}(h:Ext W n0 n1 ρ z w U)(k:Ext W n0 n1 z A U Y):Ext W n0 n1 ρ A w Y:=by
 refine⟨Ho.le_trans h.le k.le,?_,?_,?_,eT h.size k.size,h.nn,k.os.trans h.os,k.tape.trans h.tape,k.output.trans h.output⟩
 ·intro f g x G;rcases k.gE f g x G with⟨g0,h0,e⟩|e
  ·exact h.gE f g0 h0 e
  exact .inr e
 ·intro f g x G;rcases k.bG f g x G with e|⟨a,b⟩|⟨g0,h0,e,I,L⟩
  ·exact h.bG f g x e
  ·exact .inr (.inl ⟨eT h.size a,b⟩)
  rcases h.bG f g0 h0 e with M|⟨a,b⟩|⟨g1,h1,M,e3,e4⟩
  ·exact .inr (.inr ⟨g0,h0,M,I,L⟩)
  ·exact .inr (.inl ⟨I▸a,L▸b⟩)
  exact .inr (.inr ⟨g1,h1,M,e3.trans I,e4.trans L⟩)
 intro b Z O;rw[k.frame b (jn Z h.size) ?_,h.frame b Z O];intro f g x G hr hw;rcases h.bG f g x G with e|⟨a,_⟩|⟨g0,h0,e,I,L⟩
 ·exact O f g x e hr hw
 ·intro hh;omega
 exact I▸O f g0 h0 e (L.trans hr) hw
def pG(l:List bl)(n:Nat):Option Key:=(l[n]?).bind (·.dst)
def rE(l:List bl)(E:Env)(V:Nat→ai)(S:Nat→Bool):Nat→Env
 |0=>E
 |n+1=>if S n=true then ja (rE l E V S n) (pG l n) (V n) else rE l E V S n
def rC(C:Nat→Option cX)(Hs:Nat→ax)(S:Nat→Bool):Nat→Nat→Option cX
 |0=>C
 |n+1=>if S n=true then ep (rC C Hs S n) (Hs n) (Hs (n+1)) else rC C Hs S n
theorem F8{l:List bl}{E:Env}{V:Nat→ai}{S:Nat→Bool}(n:Nat):rE l E V S (n+1)=if S n=true then ja (rE l E V S n) (pG l n) (V n) else rE l E V S n:=rfl
theorem F9{C:Nat→Option cX}{Hs:Nat→ax}{S:Nat→Bool}(n:Nat):rC C Hs S (n+1)=if S n=true then ep (rC C Hs S n) (Hs n) (Hs (n+1)) else rC C Hs S n:=rfl
def ins(S:Nat→Bool)(j:Nat):Nat→Bool:=fun i=>i==j||S i
theorem CL(E:Env)(d:Option Key)(v:ai)(t:Key):(ja E d v).get t=if d=some t then some v else E.get t:=by
 cases d with
 |none=>simp[ja]
 |some d=>
  show(E.set d v).get t=_;rw[T4.df]
  by_cases h:t=d
  ·subst h;simp
  rw[aX h,aX (by simp;exact fun e=>h e.symm)]
section
variable{l:List bl}{E:Env}{V:Nat→ai}{S:Nat→Bool}{j:Nat}
theorem LR(t:Key){T:Nat→Bool}:∀n,(∀i,i<n→S i≠T i→pG l i≠some t)→(rE l E V S n).get t=(rE l E V T n).get t
 |0,_=>rfl
 |n+1,h=>by
  have z:=LR t n fun i hi=>h i an
  have A:=h n an;rw[F8,F8]
  cases G:S n<;>cases I:T n
  ·simpa using z
  ·have:=A (by simp[G,I]);simp only[gA,if_false,if_true,CL,aX this];exact z
  ·have:=A (by simp[G,I]);simp only[gA,if_false,if_true,CL,aX this];exact z
  simp only[if_true,CL,z]
theorem La(t:Key):∀n,j≤n→(∀k,j≤k→k<n→S k=true→pG l k≠some t)→(rE l E V S n).get t=(rE l E V S j).get t
 |0,z,_=>by have:j=0:=an;subst this;rfl
 |n+1,z,h=>by
  rcases Mw z with G|rfl
  ·have A:=La t n an fun k I h2=>h k I an
   rw[F8]
   split
   ·rename_i L;rw[CL,aX (h n an an L)];exact A
   exact A
  rfl
theorem adZ(I:S j=false)(A:j<l.length)(L:∀k t,j<k→S k=true→pG l j=some t→pG l k≠some t)(t:Key):
  (rE l E V (ins S j) l.length).get t=(ja (rE l E V S l.length) (pG l j) (V j)).get t:=by
 rw[CL];have e:∀i,ins S j i≠S i→i=j:=by
  intro i hi;unfold ins at hi
  by_cases h:i=j
  ·exact h
  simp[h] at hi
 split
 ·rename_i z;rw[La (j:=j+1) t l.length A fun k M h2 G=>L k t an (by unfold ins at G;simpa[show k≠j by omega] using G) z];rw[F8];rw[bg (by simp[ins]),CL,bg z]
 rename_i z;exact LR t _ fun i _ hi=>by rw[e i hi];exact z
end
section
variable{C:Nat→Option cX}{Hs:Nat→ax}{S:Nat→Bool}{j:Nat}
def Touch(Hs:Nat→ax)(n f:Nat):Prop:=((Hs n).next≤f∧f<(Hs (n+1)).next)∨(Hs (n+1)).t.get f≠(Hs n).t.get f
theorem KG{n f:Nat}(h:Touch Hs n f):ep C (Hs n) (Hs (n+1)) f=(Hs (n+1)).t.get f:=by
 unfold ep;rcases h with h|h
 ·rw[bg h]
 rw[aX h];split<;>rfl
theorem Ky{n f:Nat}(h:¬Touch Hs n f):ep C (Hs n) (Hs (n+1)) f=C f:=by
 unfold ep;rw[aX (fun k=>h (.inl k)),bg (Dx fun k=>h (.inr k))]
theorem ad0(f:Nat){T:Nat→Bool}:∀n,(∀i,i<n→S i≠T i→¬Touch Hs i f)→rC C Hs S n f=rC C Hs T n f
 |0,_=>rfl
 |n+1,h=>by
  have A:=ad0 f n fun i hi=>h i an
  have G:=h n an;rw[F9,F9]
  by_cases z:Touch Hs n f
  ·have e:S n=T n:=Dx fun k=>G k z
   rw[e]
   cases T n
   ·simpa using A
   simp only[if_true,KG z]
  cases S n<;>cases T n<;>simp only[gA,if_false,if_true,Ky z]<;>exact A
theorem F'(f:Nat):∀n,j≤n→(∀k,j≤k→k<n→S k=true→¬Touch Hs k f)→rC C Hs S n f=rC C Hs S j f
 |0,z,_=>by have:j=0:=an;subst this;rfl
 |n+1,z,h=>by
  rcases Mw z with G|rfl
  ·have A:=F' f n an fun k I h2=>h k I an
   rw[F9]
   split
   ·rename_i L;rw[Ky (h n an an L)];exact A
   exact A
  rfl
theorem ad1{N:Nat}(I:S j=false)(A:j<N)(L:∀k f,j<k→k<N→S k=true→Touch Hs j f→¬Touch Hs k f)(f:Nat):
  rC C Hs (ins S j) N f=ep (rC C Hs S N) (Hs j) (Hs (j+1)) f:=by
 have e:∀i,ins S j i≠S i→i=j:=by
  intro i hi;unfold ins at hi
  by_cases h:i=j
  ·exact h
  simp[h] at hi
 by_cases z:Touch Hs j f
 ·rw[KG z,F' (j:=j+1) f N A fun k M h2 G=>L k f an h2 (by unfold ins at G;simpa[show k≠j by omega] using G) z];rw[F9];rw[bg (by simp[ins]),KG z]
 rw[Ky z];exact ad0 f _ fun i _ hi=>by rw[e i hi];exact z
theorem Q5(f:Nat)(h0:∀o,(Hs 0).t.get f=some o→C f=some o):∀n,(∀i,i<n→S i=false→¬Touch Hs i f)→∀o,(Hs n).t.get f=some o→rC C Hs S n f=some o
 |0,_,o,h=>h0 o h
 |n+1,A,o,h=>by
  have G:=Q5 f h0 n (fun i hi=>A i an) o;rw[F9]
  by_cases z:Touch Hs n f
  ·have:S n=true:=by
    cases I:S n
    ·exact absurd z (A n an I)
    rfl
   rw[bg this,KG z];exact h
  have e:(Hs (n+1)).t.get f=(Hs n).t.get f:=Dx fun k=>z (.inr k)
  rw[e] at h
  split
  ·rw[Ky z];exact G h
  exact G h
end
structure Fact(call:dQ)(o:bl)(E:Env)(H:ax)(b:Bool)(v:ai)(fp:FP)(H1:ax):Prop where
 lr:eH H H1
 touch:∀f,((H.next≤f∧f<H1.next)∨H1.t.get f≠H.t.get f)→o.q.isSome=true∧(f∈fp.ws∨(fp.lo≤f∧f<fp.hi∧H.next≤f∧f<H1.next))
 wants:nd E o.g b
 off:b=false→v= .undef∧H1=H
 on:b=true→∃Hm Hn,o.op.ev call E Hm= .ok v Hn∧Hm.aS≤Hm.next∧Hm.next=H.next∧Hm.t=H.t∧Hn.next=H1.next∧Hn.t=H1.t∧(∀f,Wr Hn f→Wr H1 f)∧(o.q.isSome=true→fp.rd=o.op.reads E)
section
variable{P:Program}{call:dQ}
theorem qS.fact{o:bl}{E:Env}{H:ax}{bf:List FP}{b:Bool}{v:ai}{fp:FP}{H1:ax}(Y:jx P call)(Z:o.q=none→mV o.op=true)(U:H.aS≤H.next)(G:WF H)(h:qS call o E H bf b v fp H1):
  Fact call o E H b v fp H1:=by
 cases h with
 |skip I L=>exact⟨eH.refl _,fun f z=>absurd z (by rintro(z|z);omega;exact z rfl),I,fun _=>⟨rfl,rfl⟩,fun h=>by cases h⟩
 |plain I L M=>
  have e:=pure_same (Z L) v H1 M;subst e;exact⟨eH.refl _,fun f z=>absurd z (by rintro(z|z);omega;exact z rfl),I,fun h=>(by cases h),fun _=>⟨H1,H1,M,U,rfl,rfl,rfl,rfl,fun _ h=>h,fun h=>by rw[L] at h;cases h⟩⟩
 |marked I L M ha=>
  rename_i q A;have t:=TM.ins (H:=H.mark) (bd _) (fun f a=>Y.lr f a _ (bd _)) E o.op v A M;refine⟨t.C5 U,fun f z=>⟨by rw[L];rfl,?_⟩,I,fun h=>(by cases h),fun _=>⟨H.mark,A,M,bd _,rfl,rfl,rfl,rfl,fun f z=>?_,fun _=>rfl⟩⟩
  ·have z:((H.next≤f∧f<A.next)∨A.t.get f≠H.t.get f):=z;show f∈A.ws∨(H.next≤f∧f<A.next∧H.next≤f∧f<A.next)
   by_cases O:f<H.next
   ·rcases z with z|z
    ·omega
    exact .inl (Dx fun k=>z (t.same f O k))
   by_cases h2:f<A.next
   ·exact .inr ⟨an,h2,an,h2⟩
   rcases z with z|z
   ·omega
   have e1:H.t.get f=none:=G f an;have e2:A.t.get f=none:=t.wf G f an;exact absurd (e2.trans e1.symm) z
  rcases z with z|z
  ·by_cases O:f<H.aS
   ·exact .inl ((Fu _ _ _ _).2 (.inr ⟨z,O⟩))
   exact .inr (by show H.aS≤f;omega)
  have:H.next≤f:=by rw[t.aS] at z;exact z
  exact .inr (by show H.aS≤f;omega)
end
structure x8(P:Program)(nt:Nat)(ops:Array Oper)(l:List bl):Prop where
 len:l.length=ops.size
 opof:∀(i:Nat)(o:Oper)(io:bl),ops[i]?=some o→l[i]?=some io→En P nt ops o io
 back:∀(j:Nat)(o:Oper)(e:Edge),ops[j]?=some o→e∈o.after→Region.binds .any e=true→e.on<j
 tmps:∀(i j:Nat)(x y:bl),i<j→l[i]?=some x→l[j]?=some y→kg ops i j∨Sx x y
 pure:∀(i:Nat)(x:bl),l[i]?=some x→x.q=none→mV x.op=true
section
variable{P:Program}{call:dQ}{nt:Nat}{ops:Array Oper}{l:List bl}{E E':Env}{H H':ax}{Es:Nat→Env}{Hs:Nat→ax}{Rs:Nat→List FP}{Wn:Nat→Bool}{Vs:Nat→ai}{Fp:Nat→FP}
theorem Trace.wf(A:jx P call)(G:x8 P nt ops l)(T:Trace call l E H [] E' H' Es Hs Rs Wn Vs Fp)(I:H.aS≤H.next)(z:WF H):∀i,i≤l.length→(Hs i).aS≤(Hs i).next∧WF (Hs i)
 |0,_=>by rw[T.h0];exact⟨I,z⟩
 |i+1,hi=>by
  obtain⟨L,h2⟩:=Trace.wf A G T I z i an;obtain⟨o,ho⟩:∃o,l[i]?=some o:=⟨_,dx an⟩;have t:=((T.step i o ho).1.fact A (G.pure i o ho) L h2).lr;exact⟨by rw[t.aS];exact eT L t.next,t.wf h2⟩
theorem Trace.fact(A:jx P call)(G:x8 P nt ops l)(T:Trace call l E H [] E' H' Es Hs Rs Wn Vs Fp)(I:H.aS≤H.next)(z:WF H){i:Nat}{o:bl}(ho:l[i]?=some o):
  Fact call o (Es i) (Hs i) (Wn i) (Vs i) (Fp i) (Hs (i+1)):=by
 have hi:i<l.length:=(List.getElem?_eq_some_iff.1 ho).1;obtain⟨L,h2⟩:=T.wf A G I z i an;exact(T.step i o ho).1.fact A (G.pure i o ho) L h2
theorem Trace.lr(A:jx P call)(G:x8 P nt ops l)(T:Trace call l E H [] E' H' Es Hs Rs Wn Vs Fp)(I:H.aS≤H.next)(z:WF H){i:Nat}:∀k,i≤k→k≤l.length→eH (Hs i) (Hs k)
 |0,h,_=>by have:i=0:=an;subst this;exact eH.refl _
 |k+1,h,M=>by
  rcases Mw h with L|rfl
  ·obtain⟨o,ho⟩:∃o,l[k]?=some o:=⟨_,dx an⟩;exact(Trace.lr A G T I z k an an).trans (T.fact A G I z ho).lr
  exact eH.refl _
theorem Trace.env(T:Trace call l E H [] E' H' Es Hs Rs Wn Vs Fp):∀n,n≤l.length→Es n=rE l E Vs (fun _=>true) n
 |0,_=>T.e0
 |n+1,z=>by
  obtain⟨o,ho⟩:∃o,l[n]?=some o:=⟨_,dx an⟩;rw[(T.step n o ho).2.1,F8,Trace.env T n an,bg rfl];simp[pG,ho]
structure Inv(P:Program)(nt:Nat)(l:List bl)(E:Env)(H H':ax)(Hs:Nat→ax)(Vs:Nat→ai)(ρ0:Ho)(C0:Nat→Option cX)(w0:World)(S:Nat→Bool)(a:Act)(w:World)(ρ:Ho):Prop where
 ar:AR P ρ nt (rE l E Vs S l.length) a
 r:R ρ (rC C0 Hs S l.length) w
 ext:Ext (Wr H') H.next H'.next ρ0 ρ w0 w
 gE:∀f g h,ρ f g=some h→(∃g0 h0,ρ0 f g0=some h0)∨∃k,k<l.length∧S k=true∧(Hs k).next≤f∧f<(Hs (k+1)).next
theorem AR.congr{ρ:Ho}{a:Act}{E1 z:Env}(h:AR P ρ nt E1 a)(A:∀t,z.get t=E1.get t):AR P ρ nt z a:=
 ⟨h.size,h.defers,fun t v k=>h.tmp t v (by rw[←A];exact k),h.ru⟩
theorem step_any(hc:jx P call)(hr:x8 P nt ops l)(T:Trace call l E H [] E' H' Es Hs Rs Wn Vs Fp)
  (M:∀(i j:Nat)(x y:bl),i<j→l[i]?=some x→l[j]?=some y→x.q.isSome=true→y.q.isSome=true→kg ops i j∨CS (Fp j) (Fp i))
  (hm:H.aS≤H.next) (oi:WF H) {ρ0:Ho} {C0:Nat→Option cX} {w0:World} (XE:hJ ρ0 C0 H) (E5:fI ρ0 H.next H'.next)
  {S:Nat→Bool} (hS:LQ ops S) {j:Nat} (hj:j<l.length) (O:S j=false) (hjr:Ug ops S j) {a:Act} {w:World} {ρ:Ho} (hI:Inv P nt l E H H' Hs Vs ρ0 C0 w0 S a w ρ)
  {Q:Exit→Act→World→Prop} {K:Act→World→Prop} (hK:∀a' w' ρ',Inv P nt l E H H' Hs Vs ρ0 C0 w0 (ins S j) a' w' ρ'→K a' w'):wpOp P ops Q j K a w:=by
 obtain⟨io,A⟩:∃io,l[j]?=some io:=⟨_,dx hj⟩;obtain⟨o,ho⟩:∃o,ops[j]?=some o:=⟨_,Bv (by rw[←hr.len];exact hj)⟩;have E6:=hr.opof j o io ho A;have fj:=T.fact hc hr hm oi A;have I:∀i k,i≤k→k≤l.length→(Hs i).next≤(Hs k).next:=fun i k h1 h2=>(T.lr hc hr hm oi k h1 h2).next
 have h0:Hs 0=H:=T.h0;have hN:Hs l.length=H':=T.hN;have Oy:∀k,S k=true→¬kg ops j k:=fun k hk hb=>by rw[hb.closed hS hk] at O;cases O
 have ai0:∀i,S i=false→¬kg ops i j:=fun i hi hb=>by rw[hb.ready hS hjr] at hi;cases hi
 have get:∀{k},k<l.length→∃y,l[k]?=some y:=fun hk=>⟨_,dx hk⟩
 have G:∀{k y},l[k]?=some y→pG l k=y.dst:=fun Y=>by simp[pG,Y]
 have XG:∀t,t∈vq io→(rE l E Vs S l.length).get t=(Es j).get t:=by
  intro t ht;rw[T.env j an,La (j:=j) t l.length an fun k h1 h2 L=>?_]
  ·refine LR t j fun i hi L=>?_
   obtain⟨x,hx⟩:=get (k:=i) an;have L:S i=false:=by simpa using L
   rw[G hx];exact((hr.tmps i j x io hi hx A).resolve_left (ai0 i L)).xy t ht
  obtain⟨y,Y⟩:=get h2;have fB:j≠k:=fun e=>by rw[←e,O] at L;cases L
  rw[G Y];exact((hr.tmps j k io y an A Y).resolve_left (Oy k L)).yx t ht
 have ai1:∀k t,j<k→S k=true→pG l j=some t→pG l k≠some t:=by
  intro k t hk L hd lU
  by_cases PB:k<l.length
  ·obtain⟨y,Y⟩:=get PB;rw[G Y] at lU;rw[G A] at hd;exact((hr.tmps j k io y hk A Y).resolve_left (Oy k L)).dd t lU hd
  simp[pG,yB (Nat.le_of_not_lt PB)] at lU
 have z:∀{k f y},l[k]?=some y→Touch Hs k f→y.q.isSome=true∧(f∈(Fp k).ws∨((Fp k).lo≤f∧f<(Fp k).hi∧(Hs k).next≤f∧f<(Hs (k+1)).next)):=
  fun Y ht=>(T.fact hc hr hm oi Y).touch _ ht
 have Oz:∀i,i≤l.length→WF (Hs i):=fun i hi=>(T.wf hc hr hm oi i hi).2
 have ad2:∀k f,j<k→k<l.length→S k=true→Touch Hs j f→¬Touch Hs k f:=by
  intro k f hk PB L tj tk;obtain⟨y,Y⟩:=get PB;obtain⟨qj,ej⟩:=z A tj;obtain⟨qk,ek⟩:=z Y tk;have fa:=(M j k io y hk A Y qj qk).resolve_left (Oy k L);have n1:=I (j+1) k hk an;have n2:=I j (j+1) an an;rcases ek with ek|⟨e1,e2,e3,e4⟩
  ·rcases ej with ej|⟨e1,e2,e3,e4⟩
   ·exact fa.ww f ek ej
   exact fa.out f ek ⟨e1,e2⟩
  rcases tj with tj|tj
  ·omega
  refine tj ((Oz (j+1) an f an).trans (Oz j an f an).symm)
 have I5:∀{i f},i<l.length→S i=false→(Hs i).next≤f→f<(Hs (i+1)).next→∀g,ρ f g=none:=by
  intro i f hi L h1 h2 g
  cases hx:ρ f g with
  |none=>rfl
  |some x=>
   rcases hI.gE f g x hx with⟨g0,x0,e⟩|⟨k,hk,XH,e1,e2⟩
   ·have n1:=I 0 i an an;have n2:=I (i+1) l.length an an;rw[h0] at n1;rw[hN] at n2;rw[E5 f g0 an an] at e;cases e
   rcases Vm i k with lT|rfl|Pw
   ·have:=I (i+1) k an an;omega
   ·rw[L] at XH;cases XH
   have:=I (k+1) i an an;omega
 have hfree:fI ρ (Hs j).next (Hs (j+1)).next:=fun f g h1 h2=>I5 hj O h1 h2 g
 have hreads:Wn j=true→∀f ob,(∀ls,io.op.reads (Es j)=some ls→f∈ls)→(∃g h,ρ f g=some h)→(Hs j).t.get f=some ob→rC C0 Hs S l.length f=some ob:=by
  intro hon f ob E7⟨g,x,hx⟩E8;obtain⟨_,_,_,_,_,_,_,_,_,hrd2⟩:=fj.on hon;have U:io.q.isSome=true:=by
   cases hq:io.q with
   |some q=>rfl
   |none=>have:=E7 [] (pure_reads (hr.pure j io A hq));cases this
  have hrdj:(Fp j).rd=io.op.reads (Es j):=hrd2 U;have ai2:∀m,(Fp j).rd=some m→f∈m:=fun m hm=>E7 m (hrdj▸hm)
  have fj2:f<(Hs j).next:=Dx fun k=>by rw[Oz j an f an] at E8;cases E8
  rw[F' (j:=j) f l.length an fun k h1 h2 L tk=>?_]
  ·refine Q5 f (fun o' pb=>?_) j (fun i hi L ti=>?_) ob E8
   ·rw[h0] at pb;refine XE f o' ?_ pb;rcases hI.gE f g x hx with e|⟨k,hk,XH,e1,e2⟩
    ·exact e
    have n1:=I 0 k an an;rw[h0] at n1;rw[oi f an] at pb;cases pb
   obtain⟨y,Y⟩:=get (k:=i) an;obtain⟨qi,ei⟩:=z Y ti;rcases ei with ei|⟨_,_,e3,e4⟩
   ·obtain⟨m,rI,qd⟩:=((M i j y io hi Y A qi U).resolve_left (ai0 i L)).ba f ei;exact qd (ai2 m rI)
   rw[I5 an L e3 e4 g] at hx;cases hx
  obtain⟨y,Y⟩:=get h2;have fB:j≠k:=fun e=>by rw[←e,O] at L;cases L
  obtain⟨qk,ek⟩:=z Y tk;rcases ek with ek|⟨_,_,e3,e4⟩
  ·obtain⟨m,rI,qd⟩:=((M j k io y an A Y U qk).resolve_left (Oy k L)).ab f ek;exact qd (ai2 m rI)
  have:=I j k an an;omega
 have Z:∀k,S k=true→ins S j k=true:=fun k hk=>by simp[ins,hk]
 unfold wpOp;simp only[ho];have hw:=looks_wants (E':=rE l E Vs S l.length) (fun t ht=>(XG t ht).symm) fj.wants;rw[QJ E6 hw hI.ar.tmp]
 cases hb:Wn j with
 |false=>
  rw[aX (by simp)];obtain⟨e1,e2⟩:=fj.off hb;refine hK _ _ ρ ⟨?_,?_,hI.ext,fun f g x hx=>(hI.gE f g x hx).imp_right fun⟨k,h1,h2,h3⟩=>⟨k,h1,Z k h2,h3⟩⟩
  ·refine AR.congr (E1:=ja (rE l E Vs S l.length) io.dst .undef) (by rw[E6.dst];exact hI.ar.Ow E6.lt (by simp only[VR])) fun t=>?_
   rw[adZ O hj ai1 t,G A,e1]
  rw[show rC C0 Hs (ins S j) l.length=rC C0 Hs S l.length from funext fun f=>by rw[ad1 O hj ad2 f,e2,rU]];exact hI.r
 |true=>
  rw[bg rfl];left;obtain⟨Hm,Hn,he,k1,k2,k3,k4,k5,k6,k7⟩:=fj.on hb;rcases E6.op with zk|VH
  case inr=>rw[VH] at he;exact(abL he).elim
  have hop2:io.op.ev call (rE l E Vs S l.length) Hm= .ok (Vs j) Hn:=by
   rw[br.ev_congr io.op (ZY (E':=Es j) XG)];exact he
  have XC:=ZU (o:=o) zk hI.ar hI.r (by rw[k2,k4];exact hfree) (fun f ob E7 hx E8=>by
   rw[k3] at E8;refine hreads hb f ob (fun ls PC=>E7 ls ?_) hx E8
   rw[br.reads_congr io.op (ZY (E':=Es j) XG)];exact PC) k1 (fun x hx=>by rw[k3];exact Oz j an x (by rw[←k2];exact hx)) hc hop2
  refine Zj XC fun cv w' hp=>?_
  obtain⟨ρ',hv,VJ,XD⟩:=hp;have hupd:ep (rC C0 Hs S l.length) Hm Hn=ep (rC C0 Hs S l.length) (Hs j) (Hs (j+1)):=by
   funext f;unfold ep;rw[k2,k3,k4,k5]
  refine hK _ _ ρ' ⟨?_,?_,hI.ext.transW (Ext.wide (VJ.mono fun f hf=>?_) ?_ ?_),fun f g x hx=>?_⟩
  ·refine AR.congr (E1:=ja (rE l E Vs S l.length) io.dst (Vs j)) (by rw[E6.dst];exact(hI.ar.mono VJ.le).Ow E6.lt hv) fun t=>?_
   rw[adZ O hj ai1 t,G A]
  ·rw[show rC C0 Hs (ins S j) l.length=ep (rC C0 Hs S l.length) Hm Hn from funext fun f=>by rw[ad1 O hj ad2 f,hupd]];exact XD
  ·have t:=T.lr hc hr hm oi (i:=j+1) l.length an an;rw[hN] at t;exact RE t f (k6 f hf)
  ·rw[k2,←h0];exact I 0 j an an
  ·rw[k4,←hN];exact I (j+1) l.length an an
  rcases VJ.gE f g x hx with⟨g0,x0,e⟩|e
  ·exact(hI.gE f g0 x0 e).imp_right fun⟨k,h1,h2,h3⟩=>⟨k,h1,Z k h2,h3⟩
  rw[k2,k4] at e;exact .inr ⟨j,hj,by simp[ins],e⟩
end
theorem Zb{p q:Nat→Bool}:∀(l:List Nat){j:Nat},j∈l→p j=true→q j=false→(∀i,q i=true→p i=true)→(l.filter q).length+1≤(l.filter p).length
 |[],_,A,_,_,_=>by cases A
 |x::r,j,A,L,M,h=>by
  have le:(r.filter q).length≤(r.filter p).length:=by
   clear A
   induction r with
   |nil=>simp
   |cons y s I=>
    cases z:q y
    ·rw[Hz (by simp[z])]
     cases G:p y
     ·rw[Hz (by simp[G])];exact I
     rw[AW G];simp;omega
    rw[AW z,AW (h y z)];simp;exact I
  rcases List.mem_cons.1 A with rfl|A
  ·rw[Hz (by simp[M]),AW L];simp;exact le
  have I:=Zb r A L M h
  cases z:q x
  ·rw[Hz (by simp[z])]
   cases G:p x
   ·rw[Hz (by simp[G])];exact I
   rw[AW G];simp;omega
  rw[AW z,AW (h x z)];simp;omega
def jv(fM:Array Bool):Nat→Bool:=fun i=>fM.getD i false
def PD(fM:Array Bool)(n:Nat):Nat:=((List.range n).filter fun i=>!jv fM i).length
section
variable{P:Program}{call:dQ}{nt:Nat}{ops:Array Oper}{l:List bl}{E E':Env}{H H':ax}{Es:Nat→Env}{Hs:Nat→ax}{Rs:Nat→List FP}{Wn:Nat→Bool}{Vs:Nat→ai}{Fp:Nat→FP}
theorem listedS_set{fM:Array Bool}{j:Nat}(z:j<fM.size):jv (fM.setIfInBounds j true)=ins (jv fM) j:=by
 funext i
 unfold jv ins
 by_cases h:i=j
 ·subst h;simp[z]
 rw[getD_set_ne false (Ne.symm h)];simp[h]
theorem none_ready(A:x8 P nt ops l){fM:Array Bool}(L:fM.size=l.length)(h:Region.ready .any ops fM=[]):∀i,i<l.length→jv fM i=true:=by
 intro i
 induction i using Nat.strongRecOn with
 |_ i M=>
  intro hi
  cases z:jv fM i with
  |true=>rfl
  |false=>
   obtain⟨o,ho⟩:∃o,ops[i]?=some o:=⟨_,Bv (by rw[←A.len];exact hi)⟩;have:i∈Region.ready .any ops fM:=by
    rw[mem_ready];refine⟨?_,o,ho,fun e G I=>M e.on (A.back i o e ho G I) (Nat.lt_trans (A.back i o e ho G I) hi)⟩;unfold jv at z;simp only[yz] at z⊢;rw[Bv (by rw[L];exact hi)] at z⊢;simpa using z
   rw[h] at this;cases this
theorem any_ok(hc:jx P call)(Z:x8 P nt ops l)(T:Trace call l E H [] E' H' Es Hs Rs Wn Vs Fp)
  (G:∀(i j:Nat)(x y:bl),i<j→l[i]?=some x→l[j]?=some y→x.q.isSome=true→y.q.isSome=true→kg ops i j∨CS (Fp j) (Fp i))
  (hm:H.aS≤H.next) (oi:WF H) {ρ0:Ho} {C0:Nat→Option cX} {w0:World} (XE:hJ ρ0 C0 H) (E5:fI ρ0 H.next H'.next) {Q:Exit→Act→World→Prop}
  (I:∀S a w ρ,(∀i,i<l.length→S i=true)→Inv P nt l E H H' Hs Vs ρ0 C0 w0 S a w ρ→Q .normal a w):
  ∀(fuel:Nat)(fM:Array Bool)(a:Act)(w:World)(ρ:Ho),fM.size=l.length→LQ ops (jv fM)→Inv P nt l E H H' Hs Vs ρ0 C0 w0 (jv fM) a w ρ→PD fM l.length≤fuel→
   wpAny P .any ops Q fuel fM a w:=by
 intro fuel
 induction fuel with
 |zero=>
  intro fM a w ρ M hC hI hu;have all:∀i,i<l.length→jv fM i=true:=by
   intro i hi
   cases hl:jv fM i with
   |true=>rfl
   |false=>
    have:i∈(List.range l.length).filter fun i=>!jv fM i:=List.mem_filter.2 ⟨List.mem_range.2 hi,by simp[hl]⟩
    rw[su (Nat.le_zero.1 hu)] at this;cases this
  refine⟨?_,I _ a w ρ all hI⟩
  cases L:Region.ready .any ops fM with
  |nil=>rfl
  |cons j r=>
   have hj:j∈Region.ready .any ops fM:=by rw[L];exact jo ..
   obtain⟨h0,o,ho,_⟩:=mem_ready.1 hj;have z:j<l.length:=by rw[Z.len];exact(Array.getElem?_eq_some_iff.1 ho).1
   have:=all j z;unfold jv at this;simp only[yz] at h0 this;rw[Bv (by rw[M];exact z)] at h0 this;simp at h0 this;rw[h0] at this;cases this
 |succ fuel ih=>
  intro fM a w ρ M hC hI hu;refine⟨fun h=>I _ a w ρ (none_ready Z M h) hI,fun j hj=>?_⟩;obtain⟨h0,o,ho,L⟩:=mem_ready.1 hj;have z:j<l.length:=by rw[Z.len];exact(Array.getElem?_eq_some_iff.1 ho).1
  have O:jv fM j=false:=by
   unfold jv;simp only[yz] at h0⊢;rw[Bv (by rw[M];exact z)] at h0⊢;simpa using h0
  have U:Ug ops (jv fM) j:=fun o' e A he hb=>by
   rw[ho] at A;cases A;exact L e he hb
  have Bz:=listedS_set (fM:=fM) (j:=j) (by rw[M];exact z);refine step_any hc Z T G hm oi XE E5 hC z O U hI fun a' w' ρ' hI'=>?_
  refine ih _ a' w' ρ' (by simp[M]) ?_ (by rw[Bz];exact hI') ?_
  ·rw[Bz];intro k o' e A he hb hk;unfold ins at hk⊢
   by_cases Y:k=j
   ·subst Y;simp[U o' e A he hb]
   simp[Y] at hk;simp[hC k o' e A he hb hk]
  have:=Zb (p:=fun i=>!jv fM i) (q:=fun i=>!jv (fM.setIfInBounds j true) i) (List.range l.length) (List.mem_range.2 z) (by simp[O]) (by rw[Bz];simp[ins]) (by
   intro i hi;rw[Bz] at hi;simp[ins] at hi;simp[hi])
  have h2:PD (fM.setIfInBounds j true) l.length+1≤PD fM l.length:=this;omega
theorem Inv.fin(hc:jx P call)(hr:x8 P nt ops l)(T:Trace call l E H [] E' H' Es Hs Rs Wn Vs Fp)(hm:H.aS≤H.next)(L:WF H){ρ0 ρ:Ho}{C0:Nat→Option cX}{w0 w:World}(U:hJ ρ0 C0 H)(E5:fI ρ0 H.next H'.next)
  {S:Nat→Bool} {a:Act} (G:∀i,i<l.length→S i=true) (hI:Inv P nt l E H H' Hs Vs ρ0 C0 w0 S a w ρ):AR P ρ nt E' a∧R ρ (ep C0 H H') w:=by
 have h0:Hs 0=H:=T.h0;have hN:Hs l.length=H':=T.hN;have z:∀i k,i≤k→k≤l.length→(Hs i).next≤(Hs k).next:=fun i k h1 h2=>(T.lr hc hr hm L k h1 h2).next
 refine⟨AR.congr hI.ar fun t=>?_,hI.r.weaken fun f o M hd=>?_⟩
 ·rw[←T.eN,T.env l.length (bd _)];exact LR t _ fun i hi Z=>absurd (G i hi).symm Z
 obtain⟨g,x,hx⟩:=hd;have I:=hI.gE f g x hx;have known:∀O,H'.t.get f=some O→rC C0 Hs S l.length f=some O:=by
  rw[←hN];refine Q5 f (fun O A=>?_) _ (fun i hi Z=>by rw[G i hi] at Z;cases Z);rw[h0] at A;rcases I with e|⟨k,hk,_,e1,e2⟩
  ·exact U f O e A
  have n1:=z 0 k an an;rw[h0] at n1;rw[L f an] at A;cases A
 unfold ep at M
 split at M
 ·exact known o M
 rename_i hn
 split at M
 ·rename_i he;have hd0:∃g0 x0,ρ0 f g0=some x0:=by
   rcases I with e|⟨k,hk,_,e1,e2⟩
   ·exact e
   have n1:=z 0 k an an;have n2:=z (k+1) l.length an an;rw[h0] at n1;rw[hN] at n2;omega
  cases hg:H.t.get f with
  |some O=>
   have:=U f O hd0 hg;rw[M] at this;cases this;exact known o (he.trans hg)
  |none=>
   have nn:∀i,i≤l.length→(Hs i).t.get f=none:=by
    intro i hi
    cases wQ:(Hs i).t.get f with
    |none=>rfl
    |some o2=>
     have:=(T.lr hc hr hm L (i:=i) l.length hi (bd _)).gN f (by rw[wQ];simp);rw[hN,he,hg] at this;exact absurd rfl this
   rw[F' (j:=0) f l.length (gL _) fun k _ hk _ Y=>?_]
   ·exact M
   rcases Y with Y|Y
   ·have n1:=z 0 k an an;have n2:=z (k+1) l.length an an;rw[h0] at n1;rw[hN] at n2;omega
   rw[nn k an,nn (k+1) an] at Y;exact Y rfl
 exact known o M
theorem abM{ms:List Nat}{z:List bl}(G:l=pF ms 0 [] z)(T:Trace call l E H [] E' H' Es Hs Rs Wn Vs Fp):∀n,n≤l.length→Rs n=(seenAt z n).map Fp
 |0,_=>T.r0
 |n+1,M=>by
  obtain⟨o,ho⟩:∃o,l[n]?=some o:=⟨_,dx an⟩;rw[(T.step n o ho).2.2,abM G T n an];obtain⟨A,h0,_,_,_,I⟩:=FH (ms:=ms) (L:=z) z 0 (fun n=>by simp) n o (by rw[←ho,G];rfl);rw[e6] at h0 I;unfold FG;simp only[seenAt,h0];rw[I]
  cases mV A.op<;>rfl
theorem pairs_ok{ms:List Nat}{G:List bl}(Y:l=pF ms 0 [] G)(Z:∀j i,(ms.getD j 0).testBit i=true→kg ops i j)(T:Trace call l E H [] E' H' Es Hs Rs Wn Vs Fp)
  (i j:Nat) (x y:bl) (XI:i<j) (hx:l[i]?=some x) (hy:l[j]?=some y) (qx:x.q.isSome=true) (I:y.q.isSome=true):kg ops i j∨CS (Fp j) (Fp i):=by
 have JY:j<l.length:=(List.getElem?_eq_some_iff.1 hy).1;obtain⟨x0,M,_,_,_,A⟩:=FH (ms:=ms) (L:=G) G 0 (fun n=>by simp) i x (by rw[←hx,Y];rfl);obtain⟨y0,XJ,_,_,_,z⟩:=FH (ms:=ms) (L:=G) G 0 (fun n=>by simp) j y (by rw[←hy,Y];rfl);rw[e6] at M XJ A z;have px:mV x0.op=false:=by
  cases h:mV x0.op
  ·rfl
  rw[h] at A;rw[A] at qx;cases qx
 have py:mV y0.op=false:=by
  cases h:mV y0.op
  ·rfl
  rw[h] at z;rw[z] at I;cases I
 rw[py] at z
 cases hb:(ms.getD j 0).testBit i
 case true=>exact .inl (Z _ _ hb)
 right;obtain⟨n,hn⟩:=Vp (Zs M px j XI);have hp:=YX hb (seenAt G j) 0 n hn;rw[e6] at hp;have hr:=abM Y T j an;generalize hWj:Wn j=wj at*;generalize hVj:Vs j=vj at*;have st:=(T.step j y hy).1;have key:∀{b:Bool}{v:ai}{fp:FP}{H1:ax},qS call y (Es j) (Hs j) (Rs j) b v fp H1→CS fp (Fp i):=by
  intro b v fp H1 st
  cases st with
  |skip hw O=>
   rw[O I];exact⟨fun _ h=>(by cases h),fun _ _=>⟨[],rfl,by simp⟩,fun _ h=>(by cases h),fun _ h=>(by cases h)⟩
  |plain hw O _=>rw[O] at I;cases I
  |marked hw O he ha=>
   rename_i q H2;rw[O] at z;simp at z;subst z;obtain⟨b,U,rJ⟩:=Y' ha n hp;rw[hr,yC,hn] at U
   cases U
   exact rJ
 exact key st
theorem regionQ_sound(Y:jx P call)(L:x8 P nt ops l){ms:List Nat}{l0:List bl}(hl:l=pF ms 0 [] l0)(Z:∀j i,(ms.getD j 0).testBit i=true→kg ops i j)(M:P.follows .mixedOrders=true)
  {ρ:Ho} {C:Nat→Option cX} {w:World} {a:Act} {id:Nat} {K:Act→World→Prop} {Q:Exit→Act→World→Prop} (h:iS call l E H []= .ok E' H') (hA:AR P ρ nt E a) (O:R ρ C w) (hK:hJ ρ C H) (hF:fI ρ H.next H'.next) (hm:H.aS≤H.next) (G:WF H)
  (I:sF P nt E' H H' C ρ w K) (hQ:∀a w,K a w→Q .normal a w):(Code.region id ops true).wp P Q a w:=by
 obtain⟨Es,Hs,Rs,Wn,Vs,Fp,T⟩:=aaI l E H [] E' H' h;have hnn:H.next≤H'.next:=by
  have:=(T.lr Y L hm G (i:=0) l.length (gL _) (bd _)).next;rw[T.h0,T.hN] at this;exact this
 refine wp_region_any M (any_ok Y L T (pairs_ok hl Z T) hm G (ρ0:=ρ) (C0:=C) (w0:={w with drawn:=w.drawn+1}) hK hF (fun S a' w' ρ' U hI=>?_) ops.size _ a _ ρ (by simp[L.len]) ?_ ⟨?_,?_,?_,fun f g h e=>.inl ⟨g,h,e⟩⟩ ?_)
 ·obtain⟨k1,k2⟩:=hI.fin Y L T hm G hK hF U;have z:=hI.ext;exact hQ _ _ (I a' w' ρ' k1 ⟨z.le,z.gE,z.bG,z.frame,z.size,z.nn,z.os,z.tape,z.output⟩ k2 (KF hK z.gE))
 ·intro j o e ho z hb hj;exact absurd hj (by unfold jv;by_cases A:j<ops.size<;>simp[yz,TZ,A])
 ·refine AR.congr hA fun t=>?_
  rw[La (j:=0) t l.length (gL _) fun k _ _ hk=>?_]
  ·rfl
  exact absurd hk (by unfold jv;by_cases A:k<ops.size<;>simp[yz,TZ,A])
 ·have e:rC C Hs (jv (Array.replicate ops.size false)) l.length=C:=funext fun f=>by
   rw[F' (j:=0) f l.length (gL _) fun k _ _ hk=>?_]
   ·rfl
   exact absurd hk (by unfold jv;by_cases A:k<ops.size<;>simp[yz,TZ,A])
  rw[e];exact⟨fun f o ho g x hx=>(O.obj f o ho g x hx).gN (Ho.le_refl _) rfl,O.oY,O.hU,O.uniq,O.bK⟩
 ·exact(Ext.refl _ H.next ρ _).wide (bd _) hnn
 unfold PD;refine eT (agl _ _) ?_;simp[L.len]
end
def guardOf(ops:Array Oper):Option (Nat×Bool)→Option (Option (Key×Bool))
 |none=>some none
 |some (j,want)=>match(ops[j]?).bind (·.dst) with|some d=>if d<1296 then some (some (pk d,want)) else none|none=>none
def Uh(nt:Nat):Option Nat→Bool
 |some d=>decide (d<nt)&&decide (d<1296)
 |none=>true
def MG(P:Program)(o:Op):br:=match I1 P o with|some io=>io|none=>JS
def Ui(P:Program)(nt:Nat)(ops:Array Oper)(o:Oper):Option bl:=
 match guardOf ops o.guard with
 |none=>none
 |some g=>if Uh nt o.dst=true then some {dst:=o.dst.map pk,g:=g,q:=none,op:=MG P o.op} else none
def LS(P:Program)(nt:Nat)(ops:Array Oper):List Oper→Option (List bl)
 |[]=>some []
 |o::r=>match Ui P nt ops o,LS P nt ops r with
  |some a,some l=>some (a::l)
  |_,_=>none
def HS:IC:=.region false [{dst:=none,g:=none,q:=none,op:=JS}]
def aaJ(P:Program)(nt:Nat)(ops:Array Oper)(draw:Bool):IC:=
 match LS P nt ops ops.toList with
 |none=>HS
 |some l=>
  if draw then
   let ms:=CE ops.toList []
   if KV 0 ops.toList&&adY ms l then .region true (pF ms 0 [] l) else HS
  else .region false l
def ky(P:Program)(nt:Nat):Code→IC
 |.skip=>.skip
 |.region _ ops draw=>aaJ P nt ops draw
 |.seq a b=>.seq (ky P nt a) (ky P nt b)
 |.cond c a b=>match cG P c with
  |some y=>.cond y (ky P nt a) (ky P nt b)
  |none=>HS
 |.block id b=>.block id (ky P nt b)
 |.loop b=>.loop (ky P nt b)
 |.exit id=>.exit id
 |.ret=>.ret
 |_=>HS
def nN(P:Program):List ResultVar→Option (List jU)
 |[]=>some []
 |.tmp t::r=>match nN P r with|some l=>if t<1296 then some (.tmp (pk t)::l) else none|none=>none
 |.cell a t::r=>match nN P r,gZ P t with|some l,some n=>if a<1296 then some (.cell (pk a) n (qH P t)::l) else none|_,_=>none
def vX(P:Program)(fn:Func):Option aQ:=
 match fn.body,nN P fn.results.toList with
 |some c,some rs=>if fn.params.size+fn.nfree≤fn.ntmps∧fn.params.size+fn.nfree≤1296∧(fn.name== "runtime.NumGoroutine")=false then some {nt:=fn.ntmps,ps:=(List.range (fn.params.size+fn.nfree)).map pk,res:=rs,body:=ky P fn.ntmps c} else none
 |_,_=>none
section
variable{P:Program}{nt:Nat}{ops:Array Oper}
theorem iopOf_ok{o:Oper}{io:bl}(h:Ui P nt ops o=some io):En P nt ops o io:=by
 unfold Ui at h
 cases z:guardOf ops o.guard with
 |none=>rw[z] at h;cases h
 |some g=>
  rw[z] at h;dsimp only at h
  split at h
  ·rename_i A
   cases h
   refine⟨?_,fun d e=>?_,?_,?_⟩
   ·show o.dst=(o.dst.map pk).map Key.n
    cases ho:o.dst with
    |none=>rfl
    |some d=>
     rw[ho] at A;simp only[Uh,cU,eM] at A;simp only[sw,Bw A.2]
   ·have e:o.dst.map pk=some d:=e
    cases ho:o.dst with
    |none=>rw[ho] at e;cases e
    |some x=>
     rw[ho] at A e;simp only[Uh,cU,eM] at A
     cases e
     rw[Bw A.2];exact A.1
   ·cases h0:o.guard with
    |none=>rw[h0] at z;cases z;exact .inl ⟨rfl,rfl⟩
    |some M=>
     obtain⟨j,want⟩:=M;rw[h0] at z;unfold guardOf at z
     split at z
     ·rename_i G;cases G
     rename_i O I G
     cases G
     split at z
     ·rename_i d A
      split at z
      ·rename_i L
       cases z
       exact .inr ⟨j,want,pk d,rfl,by rw[Bw L];exact A,rfl⟩
      cases z
     cases z
   show I1 P o.op=some (MG P o.op)∨MG P o.op=JS;unfold MG
   split
   ·rename_i io h;exact .inl h
   exact .inr rfl
  cases h
theorem ZZ:∀{os:List Oper}{l:List bl},LS P nt ops os=some l→l.length=os.length∧∀(i:Nat)(o:Oper)(io:bl),os[i]?=some o→l[i]?=some io→En P nt ops o io
 |[],l,h=>by cases h;exact⟨rfl,fun i o io h=>by simp at h⟩
 |o::r,l,h=>by
  unfold LS at h
  split at h
  ·rename_i a I G h2
   cases h
   obtain⟨e,k⟩:=ZZ h2;refine⟨by simp[e],fun i x io A z=>?_⟩
   cases i with
   |zero=>simp at A z;subst A;subst z;exact iopOf_ok G
   |succ i=>exact k i x io (by simpa using A) (by simpa using z)
  cases h
def ai3:Ex→Exit
 |.normal=>.normal
 |.exit id=>.exit id
 |.ret=>.ret
theorem Qq{r:Out}{k:Env→ax→Out}{x:Ex}{E':Env}{H':ax}(h:xo r k= .ok x E' H'):
  ∃y E1 H1,r= .ok y E1 H1∧((y= .normal∧k E1 H1= .ok x E' H')∨(y≠.normal∧y=x∧E1=E'∧H1=H')):=by
 cases r with
 |err n=>cases h
 |ok y E1 H1=>
  refine⟨y,E1,H1,rfl,?_⟩
  cases y with
  |normal=>exact .inl ⟨rfl,h⟩
  |exit id=>cases h;exact .inr ⟨by simp,rfl,rfl,rfl⟩
  |ret=>cases h;exact .inr ⟨by simp,rfl,rfl,rfl⟩
theorem LU{r:dO}{x:Ex}{E':Env}{H':ax}(h:EU r= .ok x E' H'):x= .normal∧r= .ok E' H':=by
 cases r with
 |err n=>cases h
 |ok E H=>cases h;exact⟨rfl,rfl⟩
theorem qS.lr{call:dQ}(G:jx P call){o:bl}{E:Env}{H:ax}{bf:List FP}{b:Bool}{v:ai}{fp:FP}{H1:ax}(z:H.aS≤H.next)(h:qS call o E H bf b v fp H1):eH H H1:=by
 cases h with
 |skip=>exact eH.refl _
 |plain _ _ A=>exact TM.ins z (fun f a=>G.lr f a H z) E o.op v _ A
 |marked _ _ A _=>exact(TM.ins (H:=H.mark) (bd _) (fun f a=>G.lr f a _ (bd _)) E o.op v _ A).C5 z
theorem Zc{call:dQ}(z:jx P call):∀(l:List bl)(E:Env)(H:ax)(bf:List FP)(E':Env)(H':ax),H.aS≤H.next→iS call l E H bf= .ok E' H'→eH H H'
 |[],E,H,bf,E',H',_,h=>by cases h;exact eH.refl _
 |o::r,E,H,bf,E',H',A,h=>by
  obtain⟨b,v,fp,H1,G,h2⟩:=aaH (show o.jB call E H bf (iS call r)= .ok E' H' from h);have t1:=G.lr z A;exact t1.trans (Zc z r _ _ _ _ _ (by rw[t1.aS];exact eT A t1.next) h2)
def TF(f:Env→ax→Out):Prop:=∀E H x E' H',H.aS≤H.next→f E H= .ok x E' H'→eH H H'
theorem TF.seq{f g:Env→ax→Out}(A:TF f)(G:TF g):TF fun E H=>xo (f E H) g:=by
 intro E H x E' H' z h;obtain⟨y,E1,H1,I,h2⟩:=Qq h;have t1:=A _ _ _ _ _ z I;rcases h2 with⟨_,h2⟩|⟨_,_,_,e⟩
 ·exact t1.trans (G _ _ _ _ _ (by rw[t1.aS];exact eT z t1.next) h2)
 exact e▸t1
theorem TF.loop{f:Env→ax→Out}(z:TF f):∀n,TF (xX f n)
 |0=>fun _ _ _ _ _ _ h=>by cases h
 |n+1=>TF.seq z (TF.loop z n)
theorem aaK{c:aG}{i j:IC}{f g:Env→ax→Out}{E E':Env}{H H':ax}{x:Ex}(h:Ub c i j f g E H= .ok x E' H'):∃t,c.ev E=some (.bool t)∧(if t then f E H else g E H)= .ok x E' H':=by
 unfold Ub at h
 cases z:c.ev E with
 |none=>rw[z] at h;cases h
 |some v=>
  rw[z] at h
  cases v<;>try(cases h;done)
  rename_i t;refine⟨t,rfl,?_⟩
  cases t<;>exact h
theorem Z0{id:Nat}{i:IC}{f:Env→ax→Out}{E E':Env}{H H':ax}{x:Ex}(h:GD id i f E H= .ok x E' H'):
  ∃y,f E H= .ok y E' H'∧((y= .normal∧x= .normal)∨(y= .exit id∧x= .normal)∨(∃z,z≠id∧y= .exit z∧x= .exit z)∨(y= .ret∧x= .ret)):=by
 unfold GD at h
 cases G:f E H with
 |err n=>rw[G] at h;cases h
 |ok y E1 H1=>
  rw[G] at h
  cases y with
  |normal=>cases h;exact⟨_,rfl,.inl ⟨rfl,rfl⟩⟩
  |ret=>cases h;exact⟨_,rfl,.inr (.inr (.inr ⟨rfl,rfl⟩))⟩
  |exit z=>
   have h:aJ (Nat.beq z id) (Out.ok .normal E1 H1) (.ok (.exit z) E1 H1)= .ok x E' H':=h
   by_cases A:z=id
   ·subst A;rw[show Nat.beq z z=true from gu z] at h
    cases h;exact⟨_,rfl,.inr (.inl ⟨rfl,rfl⟩)⟩
   have e:Nat.beq z id=false:=by
    cases I:Nat.beq z id
    ·rfl
    exact absurd (cW I) A
   rw[e] at h
   cases h;exact⟨_,rfl,.inr (.inr (.inl ⟨z,A,rfl,rfl⟩))⟩
theorem tM{call:dQ}{lf:Nat}(z:jx P call):∀c:IC,TF (c.ev call lf)
 |.skip=>fun _ _ _ _ _ _ h=>by cases h;exact eH.refl _
 |.region d ops=>fun E H x E' H' A h=>by
  cases d with
  |false=>exact KB z ops E H E' H' A (LU h).2
  |true=>exact Zc z ops E H [] E' H' A (LU h).2
 |.seq a b=>TF.seq (tM z a) (tM z b)
 |.cond c a b=>fun E H x E' H' A h=>by
  obtain⟨t,_,h⟩:=aaK (i:=a) (j:=b) (f:=a.ev call lf) (g:=b.ev call lf) h
  cases t
  ·exact tM z b _ _ _ _ _ A h
  exact tM z a _ _ _ _ _ A h
 |.block id b=>fun E H x E' H' A h=>by
  obtain⟨y,h,_⟩:=Z0 (i:=b) (f:=b.ev call lf) h;exact tM z b _ _ _ _ _ A h
 |.loop b=>TF.loop (tM z b) lf
 |.exit id=>fun _ _ _ _ _ _ h=>by cases h;exact eH.refl _
 |.ret=>fun _ _ _ _ _ _ h=>by cases h;exact eH.refl _
variable{ρ:Ho}{E E':Env}{H H' H1:ax}{C:Nat→Option cX}{w:World}{a:Act}{call:dQ}{lf:Nat}
theorem sF.step(U:hJ ρ C H)(t1:eH H H1)(t2:eH H1 H'){K:Act→World→Prop}(z:sF P nt E' H H' C ρ w K){A:Ho}{Y:World}(G:Ext (Wr H1) H.next H1.next ρ A w Y):sF P nt E' H1 H' (ep C H H1) A Y K:=
 fun Z w2 I L M O _=>by
  have h2:=(G.mono (RE t2)).trans M;exact z Z w2 I L h2 (O.weaken fun f o h hf=>ZV U t1.next t2.next t2.gN h2.gE f o h hf) (KF U h2.gE)
theorem sF.refl{K:Act→World→Prop}(A:AR P ρ nt E a)(G:R ρ C w)(I:hJ ρ C H)(z:sF P nt E H H C ρ w K):K a w:=by
 refine z a w ρ A (Ext.refl _ _ _ _) ?_ ?_
 ·rw[rU];exact G
 rw[rU];exact I
theorem xn{x:Ex}(h:HS.ev call lf E H= .ok x E' H'):False:=by cases h
def GG(P:Program)(nt:Nat)(c:Code)(f:Env→ax→Out):Prop:=
 ∀E H x E' H' ρ C a w Q,f E H= .ok x E' H'→AR P ρ nt E a→R ρ C w→hJ ρ C H→fI ρ H.next H'.next→H.aS≤H.next→WF H→sF P nt E' H H' C ρ w (Q (ai3 x))→c.wp P Q a w
theorem GG.rounds{c:Code}{f:Env→ax→Out}(L:GG P nt c f)(M:TF f):∀n E H x E' H' ρ C a w(Q:Exit→Act→World→Prop),xX f n E H= .ok x E' H'→AR P ρ nt E a→R ρ C w→hJ ρ C H→fI ρ H.next H'.next→H.aS≤H.next→WF H→
  sF P nt E' H H' C ρ w (Q (ai3 x))→Code.rounds P c Q n a w
 |0,_,_,_,_,_,_,_,_,_,_,h,_,_,_,_,_,_,_=>by cases h
 |n+1,E,H,x,E',H',ρ,C,a,w,Q,h,hA,hR,O,U,I,z,Y=>by
  rw[rounds_succ];obtain⟨y,E1,H1,Z,h2⟩:=Qq (k:=xX f n) h;have t1:=M _ _ _ _ _ I Z;have A:H1.aS≤H1.next:=by rw[t1.aS];exact eT I t1.next
  rcases h2 with⟨rfl,h2⟩|⟨hy,rfl,rfl,rfl⟩
  ·have t2:=TF.loop M n _ _ _ _ _ A h2;exact L E H _ E1 H1 ρ C a w _ Z hA hR O (U.le t2.next) I z fun a1 w1 ρ1 XK G XL J2=>(GG.rounds L M n E1 H1 x E' H' ρ1 _ a1 w1 Q h2 XK XL J2 (U.sub G.gE t1.next) A (t1.wf z) (Y.step O t1 t2 G))
  refine L E H _ E1 H1 ρ C a w _ Z hA hR O U I z ?_
  cases y with
  |normal=>exact absurd rfl hy
  |exit id=>exact Y
  |ret=>exact Y
theorem zK(hc:jx P call)(G:P.follows .mixedOrders=true):∀c:Code,GG P nt c ((ky P nt c).ev call lf)
 |.skip=>fun E H x E' H' ρ C a w Q h I U M Z Y z A=>by
  cases h
  exact wp_skip (A.refl I U M)
 |.exit id=>fun E H x E' H' ρ C a w Q h I U M Z Y z A=>by
  cases h
  exact wp_exit (A.refl I U M)
 |.ret=>fun E H x E' H' ρ C a w Q h I U M Z Y z A=>by
  cases h
  exact wp_ret (A.refl I U M)
 |.seq c d=>fun E H x E' H' ρ C a w Q h I U M Z Y z A=>by
  have hcc:=zK hc G c;have hd:=zK hc G d;obtain⟨y,E1,H1,h1,h2⟩:=Qq (k:=(ky P nt d).ev call lf) h;have t1:=tM hc (ky P nt c) _ _ _ _ _ Y h1;have rI:H1.aS≤H1.next:=by rw[t1.aS];exact eT Y t1.next
  refine wp_seq ?_;rcases h2 with⟨rfl,h2⟩|⟨hy,rfl,rfl,rfl⟩
  ·have t2:=tM hc (ky P nt d) _ _ _ _ _ rI h2;exact hcc E H _ E1 H1 ρ C a w _ h1 I U M (Z.le t2.next) Y z fun a1 w1 ρ1 XK PE XL J2=>(hd E1 H1 x E' H' ρ1 _ a1 w1 Q h2 XK XL J2 (Z.sub PE.gE t1.next) rI (t1.wf z) (A.step M t1 t2 PE))
  refine hcc E H _ E1 H1 ρ C a w _ h1 I U M Z Y z ?_
  cases y with
  |normal=>exact absurd rfl hy
  |exit id=>exact A
  |ret=>exact A
 |.cond c d e=>fun E H x E' H' ρ C a w Q h I U M Z Y z A=>by
  unfold ky at h
  split at h
  ·rename_i y hy;obtain⟨t,h1,h2⟩:=aaK (i:=ky P nt d) (j:=ky P nt e) (f:=(ky P nt d).ev call lf) (g:=(ky P nt e).ev call lf) h;have k:=I.bC hy h1;simp only[VR] at k;refine wp_cond (t:=t) k ?_
   cases t
   ·exact zK hc G e E H x E' H' ρ C a w Q h2 I U M Z Y z A
   exact zK hc G d E H x E' H' ρ C a w Q h2 I U M Z Y z A
  exact(xn h).elim
 |.block id c=>fun E H x E' H' ρ C a w Q h I U M Z Y z A=>by
  obtain⟨y,h1,h2⟩:=Z0 (i:=ky P nt c) (f:=(ky P nt c).ev call lf) h;refine wp_block (zK hc G c E H y E' H' ρ C a w _ h1 I U M Z Y z ?_);rcases h2 with⟨rfl,rfl⟩|⟨rfl,rfl⟩|⟨id',fB,rfl,rfl⟩|⟨rfl,rfl⟩
  ·exact A
  ·intro a1 w1 ρ1 b1 b2 b3 b4;show Exit.inBlock id Q (.exit id) a1 w1;simp only[Exit.inBlock,if_true];exact A a1 w1 ρ1 b1 b2 b3 b4
  ·intro a1 w1 ρ1 b1 b2 b3 b4;show Exit.inBlock id Q (.exit id') a1 w1;simp only[Exit.inBlock,aX fB];exact A a1 w1 ρ1 b1 b2 b3 b4
  exact A
 |.loop c=>fun E H x E' H' ρ C a w Q h I U M Z Y z A=>
  wp_loop_rounds lf (GG.rounds (zK hc G c) (tM hc _) lf E H x E' H' ρ C a w Q h I U M Z Y z A)
 |.region id ops draw=>fun E H x E' H' ρ C a w Q h I U M Z Y z A=>by
  unfold ky aaJ at h
  split at h
  ·exact(xn h).elim
  rename_i l hl;obtain⟨hlen,zk⟩:=ZZ hl
  cases draw with
  |false=>
   simp only[gA,if_false] at h;obtain⟨rfl,hz⟩:=LU (r:=nc call l E H) h;refine wp_region ?_;rw[show ops.size=l.length by rw[hlen];simp,List.range_eq_range'];exact Y9 hc (K:=Q .normal) l ops.toList 0 hlen.symm zk (fun i o h=>by simpa using h) E H E' H' ρ C a w hz I U M Z Y z A (fun _ _ h=>h)
  |true=>
   simp only[if_true] at h
   split at h
   ·rename_i XM;simp only[cU] at XM;obtain⟨rfl,hz⟩:=LU (r:=iS call (pF (CE ops.toList []) 0 [] l) E H []) h;have XN:=YW (ops:=ops) ops.toList [] (fun n=>by simp) (fun j i h=>by simp at h);have get:∀{i:Nat}{io:bl},(pF (CE ops.toList []) 0 [] l)[i]?=some io→∃O,l[i]?=some O∧io.dst=O.dst∧io.g=O.g∧io.op=O.op∧(io.q=none→mV io.op=true):=by
     intro i io J1;obtain⟨O,h0,h1,h2,h3,h4⟩:=FH (ms:=CE ops.toList []) (L:=l) l 0 (fun n=>by simp) i io J1;rw[e6] at h0;refine⟨O,h0,h1,h2,h3,fun hq=>?_⟩;rw[hq] at h4;rw[h3]
     cases hp:mV O.op
     ·rw[hp] at h4;simp at h4
     rfl
    refine regionQ_sound hc ⟨?_,?_,?_,?_,?_⟩ rfl XN G hz I U M Z Y z A (fun _ _ h=>h)
    ·rw[YY,hlen];simp
    ·intro i o io ho J1;obtain⟨O,h0,h1,h2,h3,_⟩:=get J1;have k:=zk i o O (by simpa using ho) h0;exact⟨by rw[h1];exact k.dst,fun d hd=>k.lt d (by rw[←h1];exact hd),by rw[h2];exact k.g,by rw[h3];exact k.op⟩
    ·intro j o e ho he hb;have:=Za ops.toList 0 XM.1 j o e (by simpa using ho) he hb;omega
    ·intro i j x y XI hx hy;obtain⟨x0,J3,a1,a2,a3,_⟩:=get hx;obtain⟨y0,XJ,b1,b2,b3,_⟩:=get hy;rcases tmpsOk_ok XM.2 XI J3 XJ with k|k
     ·exact .inl (XN _ _ k)
     refine .inr ⟨fun t A=>?_,fun t A=>?_,fun t A=>?_⟩
     ·rw[a1];exact k.xy t (by unfold vq at A⊢;rw[←b2,←b3];exact A)
     ·rw[a1];exact k.dd t (by rw[←b1];exact A)
     rw[b1];exact k.yx t (by unfold vq at A⊢;rw[←a2,←a3];exact A)
    intro i x hx hq;obtain⟨_,_,_,_,_,k⟩:=get hx;exact k hq
   exact(xn h).elim
 |.rangeFunc ..=>fun E H x E' H' ρ C a w Q h _ _ _ _ _ _ _=>(xn h).elim
 |.scope _=>fun E H x E' H' ρ C a w Q h _ _ _ _ _ _ _=>(xn h).elim
 |.label _=>fun E H x E' H' ρ C a w Q h _ _ _ _ _ _ _=>(xn h).elim
 |.goto _=>fun E H x E' H' ρ C a w Q h _ _ _ _ _ _ _=>(xn h).elim
 |.refuse _=>fun E H x E' H' ρ C a w Q h _ _ _ _ _ _ _=>(xn h).elim
end
structure Kept(w w':World):Prop where
 os:w'.os=w.os
 tape:w'.tape=w.tape
 output:w'.output=w.output
 size:w.heap.size≤w'.heap.size
 uG:∀b,b<w.heap.size→w'.heap[b]?=w.heap[b]?
section
variable{ρ:Ho}{C:Nat→Option cX}{w w':World}
theorem R.kept(z:R ρ C w)(G:Kept w w'):R ρ C w':=
 ⟨fun f o ho g h A=>(z.obj f o ho g h A).gN (Ho.le_refl _) (G.uG _ (z.hU f g h A)),z.oY,fun f g h A=>jn (z.hU f g h A) G.size,z.uniq,fun f g h A a b=>(z.bK f g h A a b).gN (cell_of_heap (w:=w) (G.uG _ (z.hU f g h A)))⟩
theorem Kept.ext(z:Kept w w')(W:Nat→Prop)(n:Nat)(ρ:Ho):Ext W n n ρ ρ w w':=
 ⟨Ho.le_refl _,fun _ g h e=>.inl ⟨g,h,e⟩,fun _ _ _ e=>.inl e,fun b A _=>z.uG b A,z.size,bd _,z.os,z.tape,z.output⟩
end
section
variable{P:Program}{nt:Nat}{ρ:Ho}{E E':Env}{H H' H1:ax}{C:Nat→Option cX}{w:World}{a:Act}{call:dQ}{lf:Nat}
theorem Z1:∀(ks:List Key)(l:List ai)(E:Env)(c:Env→aD)(v:ai)(H':ax),params ks l E c= .ok v H'→
  ks.length=l.length∧∃E',c E'= .ok v H'∧∀t x,E'.get t=some x→E.get t=some x∨∃i:Nat,ks[i]?=some t∧l[i]?=some x
 |[],[],E,c,v,H',h=>⟨rfl,E,h,fun t x A=>.inl A⟩
 |[],_::_,E,c,v,H',h=>by cases h
 |_::_,[],E,c,v,H',h=>by cases h
 |k::ks,y::l,E,c,v,H',h=>by
  have h:E.fH k y (fun E=>params ks l E c)= .ok v H':=h;rw[T4.jO] at h;obtain⟨G,E',h2,I⟩:=Z1 ks l _ _ _ _ h;refine⟨by simp[G],E',h2,fun t x A=>?_⟩;rcases I t x A with z|⟨i,z,L⟩
  ·rw[T4.df] at z
   split at z
   ·rename_i e;subst e
    cases z
    exact .inr ⟨0,rfl,rfl⟩
   exact .inl z
  exact .inr ⟨i+1,by simpa using z,by simpa using L⟩
theorem AR.init{args:List ai}{dc:Array Value}(A:bR ρ args dc.toList)(Z:args.length≤nt)(I:vE P ρ){E':Env}{n:Nat}(L:n≤1296)
  (M:∀t x,E'.get t=some x→T4.emp.get t=some x∨∃i:Nat,((List.range n).map pk)[i]?=some t∧args[i]?=some x):
  AR P ρ nt E' {tmps:=dc++Array.replicate (nt-dc.size) undef,defers:=[]}:=by
 have hl:dc.size=args.length:=by have:=A.length;simpa using this
 refine⟨by simp;omega,rfl,fun t v h=>?_,I⟩;rcases M t v h with h|⟨i,G,h2⟩
 ·rw[T4.tI] at h;cases h
 obtain⟨y,O,z⟩:=A.get _ v h2;refine⟨y,?_,z⟩;have hi:i<n:=by
  have:=(List.getElem?_eq_some_iff.1 G).1;simpa using this
 have U:pk i=t:=by simpa[hi] using G
 have Y:t.n=i:=by rw[←U];exact Bw an
 have:i<dc.size:=by
  have:=(List.getElem?_eq_some_iff.1 h2).1;omega
 rw[Y,Vr this];simpa using O
def Eo(tmps:Array Value):ResultVar→Sem Value
 |.tmp t=>pure (tmps.getD t undef)
 |.cell a t=>do loadVar t (←asAddr (tmps.getD a undef))
theorem results_eq(fn:Func)(tmps:Array Value):Go.results fn tmps=(do
  let vs←fn.results.mapM (Eo tmps)
  pure (if h:vs.size=1 then vs[0] else .tuple vs)):=by
 unfold Go.results;congr 2
theorem abN{tmps:Array Value}{t:Nat}{cv:Value}(h:tmps[t]?=some cv):tmps.getD t undef=cv:=by
 simp[yz,h]
theorem resA_ok(hA:AR P ρ nt E a)(hR:R ρ C w)(hK:hJ ρ C H){r:ResultVar}{rs:List jU}{ir:jU}(z:nN P (r::[])=some [ir]){k:ai→aD}{e:Nat}{v:ai}(h:El E H ir (.err e) k= .ok v H'):
  ∃x L,(Eo a.tmps r).run P w= .ok L w∧VR ρ x L∧k x= .ok v H':=by
 cases r with
 |tmp t=>
  simp only[nN] at z
  split at z
  case isFalse=>cases z
  rename_i ht;simp only[eE,Eg,and_true] at z;subst z;replace h:=iV (o:=E.get (pk t)) h;obtain⟨x,I,h⟩:=h;obtain⟨cv,M,h2⟩:=hA.tmp (pk t) x I;rw[Bw ht] at M;exact⟨x,cv,by simp[Eo,abN M],h2,h⟩
 |cell s t=>
  simp only[nN] at z
  split at z
  ·rename_i l n U hn
   cases U
   split at z
   case isFalse=>cases z
   rename_i G;simp only[eE,Eg,and_true] at z;subst z;replace h:=iV (o:=E.get (pk s)) h;obtain⟨x,I,h⟩:=h;replace h:=FE h;obtain⟨f,g,off,rfl,h⟩:=h;obtain⟨l,U,h⟩:=Uf h (by simp);obtain⟨cv,M,h2⟩:=hA.tmp (pk s) _ I;rw[Bw G] at M;simp only[VR] at h2;obtain⟨hm,hh,rfl⟩:=h2;obtain⟨_,_,_,_,_,uF⟩:=u7 hn;have Y:C f=H.t.get f:=by
    obtain⟨_,_,_,_,_,_,_,_,hg,_⟩:=U;exact(hK f _ ⟨_,_,hh⟩ hg).trans hg.symm
   obtain⟨hlen,hk,hc⟩:=hR.rd U Y hh an;have key:∀x,fT (qH P t) l (.err 0) (fun v=>.ok v H)= .ok x H→k x= .ok v H'→∃x L,(Eo a.tmps (.cell s t)).run P w= .ok L w∧VR ρ x L∧k x= .ok v H':=by
    intro x I Z;obtain⟨_,cv,O,wP⟩:=Y5 (P:=P) (ρ:=ρ) (w:=w) (ad:=⟨hm.bG,hm.off+off,none⟩) hn hlen hk (fun j x I=>by rw[Addr.add_lit];exact hc j x I) I;exact⟨x,cv,by simp[Eo,abN M,asAddr,O],wP,Z⟩
   rcases RB h with⟨A,h⟩|⟨x,A,EX,h⟩
   ·exact key _ (by rw[A];rfl) h
   exact key x (by rw[A,EX];rfl) h
  cases z
theorem aaL(Z:AR P ρ nt E a)(hR:R ρ C w)(hK:hJ ρ C H){e:Nat}{v:ai}:∀{l:List ResultVar}{rs:List jU}(z:nN P l=some rs){k:List ai→aD},xY E H rs (.err e) k= .ok v H'→
  ∃vs oh,(l.mapM (Eo a.tmps)).run P w= .ok oh w∧bR ρ vs oh∧k vs= .ok v H'
 |[],rs,z,k,h=>by
  cases z
  exact⟨[],[],by simp,by simp only[bR],h⟩
 |r::l,rs,z,k,h=>by
  have A:∃I G,rs=I::G∧nN P [r]=some [I]∧nN P l=some G:=by
   cases r with
   |tmp t=>
    unfold nN at z
    split at z
    ·rename_i L M
     split at z
     ·rename_i O;cases z;exact⟨_,L,rfl,by simp[nN,O],M⟩
     cases z
    cases z
   |cell s t=>
    unfold nN at z
    split at z
    ·rename_i L n M hn
     split at z
     ·rename_i O;cases z;exact⟨_,L,rfl,by simp[nN,hn,O],M⟩
     cases z
    cases z
  obtain⟨I,G,rfl,h1,h2⟩:=A;have h:El E H I (.err e) (fun v=>xY E H G (.err e) fun vs=>k (v::vs))= .ok v H':=h;obtain⟨x,cx,hx,U,h⟩:=resA_ok Z hR hK (rs:=[]) h1 h;obtain⟨vs,oh,hm,Y,h⟩:=aaL Z hR hK h2 h;exact⟨x::vs,cx::oh,by simp[hx,hm],⟨cx,oh,rfl,U,Y⟩,h⟩
theorem resultsA_ok(G:AR P ρ nt E a)(I:R ρ C w)(L:hJ ρ C H){fn:Func}{rs:List jU}(M:nN P fn.results.toList=some rs){v:ai}(h:results E H rs= .ok v H'):
  H'=H∧∃cv,(Go.results fn a.tmps).run P w= .ok cv w∧VR ρ v cv:=by
 obtain⟨vs,oh,A,z,h⟩:=aaL (P:=P) (e:=70) G I L M h;rw[results_eq]
 cases vs with
 |nil=>
  cases h
  simp only[bR] at z;subst z;refine⟨rfl,.tuple #[],by simp[T0,A],?_⟩;simp only[VR];exact⟨#[],rfl,by simp only[bR]⟩
 |cons x r=>
  cases r with
  |nil=>
   cases h
   simp only[bR] at z;obtain⟨c,t,rfl,O,rfl⟩:=z;exact⟨rfl,c,by simp[T0,A],O⟩
  |cons y s=>
   cases h
   refine⟨rfl,.tuple oh.toArray,?_,?_⟩
   ·have U:=z.length;have:¬oh.length=1:=by simp at U;omega
    simp[T0,A,this]
   simp only[VR];exact⟨oh.toArray,rfl,by simpa using z⟩
theorem abO{g:Func}{fn:aQ}(h:vX P g=some fn):∃c,g.body=some c∧nN P g.results.toList=some fn.res∧(∃n,n≤g.ntmps∧n≤1296∧fn.ps=(List.range n).map pk)∧fn.nt=g.ntmps∧fn.body=ky P g.ntmps c∧(g.name== "runtime.NumGoroutine")=false:=by
 unfold vX at h
 split at h
 ·rename_i c rs A G
  split at h
  ·rename_i z
   cases h
   exact⟨c,A,G,⟨_,z.1,z.2.1,rfl⟩,rfl,rfl,z.2.2⟩
  cases h
 cases h
theorem abP{fn:aQ}{args:List ai}{v:ai}(h:vU call lf fn args H= .ok v H'):
  fn.ps.length=args.length∧∃E' x E1 H1,(∀t y,E'.get t=some y→T4.emp.get t=some y∨∃i:Nat,fn.ps[i]?=some t∧args[i]?=some y)∧fn.body.ev call lf E' H= .ok x E1 H1∧(x= .normal∨x= .ret)∧results E1 H1 fn.res= .ok v H':=by
 obtain⟨A,E',h2,G⟩:=Z1 fn.ps args .emp _ _ _ h;refine⟨A,E',?_⟩
 cases z:fn.body.ev call lf E' H with
 |err n=>rw[z] at h2;cases h2
 |ok x E1 H1=>
  rw[z] at h2;refine⟨x,E1,H1,G,rfl,?_⟩
  cases x with
  |normal=>exact⟨.inl rfl,h2⟩
  |exit id=>cases h2
  |ret=>exact⟨.inr rfl,h2⟩
theorem PS.rd{H:ax}{f g off n:Nat}{e:aD}{k:List ai→aD}(h:∀x,PS H (k x))(h':PS H e):PS H (rd H f g off n e k):=
 PS.kU (fun _ _ _ _ _ _ _=>PS.aJ (PS.aJ (PS.aJ (PS.aJ (PS.ob (fun _=>PS.aJ (h _) (h _)) h') h') h') h') h') h'
theorem YZ{rs:List jU}{v:ai}(h:results E H rs= .ok v H'):H'=H:=by
 have key:∀(rs:List jU)(k:List ai→aD),(∀vs,PS H (k vs))→PS H (xY E H rs (.err 70) k):=by
  intro rs
  induction rs with
  |nil=>intro k A;exact A []
  |cons r rs G=>
   intro k A;show PS H (El E H r (.err 70) fun v=>xY E H rs (.err 70) fun vs=>k (v::vs));have z:∀v,PS H (xY E H rs (.err 70) fun vs=>k (v::vs)):=fun v=>G _ fun vs=>A _
   cases r with
   |tmp t=>exact PS.ob (fun x=>z x) PS.err
   |cell s n g=>exact PS.ob (fun x=>PS.jk (fun _ _ _=>PS.rd (fun _=>PS.fT (fun x=>z x) PS.err) PS.err) PS.err) PS.err
 exact key rs _ (fun vs=>by
  cases vs with
  |nil=>exact PS.ok
  |cons x r=>cases r<;>exact PS.ok) v H' h
def Ga(P:Program)(ft:Tr aQ):Prop:=∀f fn,ft.get f=some fn→∃g,P.funcs[f]?=some g∧vX P g=some fn
theorem Zt(hc:jx P call)(A:P.follows .mixedOrders=true){f:Nat}{g:Func}{fn:aQ}(hf:P.funcs[f]?=some g)(hg:vX P g=some fn){args:List ai}{v:ai}{dc:Array Value}
  (h:vU call lf fn args H= .ok v H') (hm:H.aS≤H.next) (O:WF H) (hR:R ρ C w) (hK:hJ ρ C H) (hF:fI ρ H.next H'.next) (hG:vE P ρ) (hv:bR ρ args dc.toList):
  Calls P f dc w fun e w'=>∃cv,e= .returned cv∧c9 ρ C w H v H' cv w':=by
 obtain⟨c,hb,hr,⟨np,U,G,Y⟩,hnt,z,_⟩:=abO hg;obtain⟨hlen,E',x,E1,H1,hE,h1,hx,h2⟩:=abP h;have he:=YZ h2;subst he;rw[Y] at hE hlen;have hA:AR P ρ g.ntmps E' {tmps:=dc++Array.replicate (g.ntmps-dc.size) undef,defers:=[]}:=AR.init hv (by rw[←hlen];simpa using U) hG G hE;rw[z] at h1;refine calls_of_wp hf hb (zK hc A c _ H x E1 H' ρ C _ w _ h1 hA hR hK hF hm O fun a1 Z ρ1 I PE L J2=>?_);obtain⟨_,cv,M,wP⟩:=resultsA_ok I L J2 hr h2;have fin:a1.defers=[]∧∃v,(Go.results g a1.tmps).run P Z= .ok v Z∧∃cv,Ending.returned v= .returned cv∧c9 ρ C w H ‹ai› H' cv Z:=⟨I.defers,cv,M,cv,rfl,ρ1,wP,PE,L⟩;rcases hx with rfl|rfl
 ·exact fin
 exact fin
def ad3(P:Program)(f:Nat):Prop:=∀w:World,xZ P w→
 ((callFunc f #[]).run P w= .ok (.enter f #[]) w∧Calls P f #[] w fun e w'=>e= .returned (.bool true)∧Kept w w')∨∃w',(callFunc f #[]).run P w= .ok (.value (.bool true)) w'∧Kept w w'
def MH(P:Program)(xt:Tr Nat):Prop:=∀f c,xt.get f=some c→ad3 P f
theorem ext_same{c:Nat}{args:List ai}:PS H (vW c args H):=by
 show PS H (Uc args H)
 cases args with
 |nil=>exact PS.ok
 |cons x r=>exact PS.err
theorem Sy(z:R ρ C w)(L:vE P ρ):xZ P w:=fun g M=>by
 obtain⟨x,A,O,ho,G⟩:=L g M;refine⟨by have:=z.hU g 1 x A;omega,fun h=>?_⟩;obtain⟨U,Y,I⟩:=(z.bK _ _ _ A (G h).1 (G h).2).2;rw[O,ho] at I;exact⟨U,Y,I⟩
theorem LV(z:P.follows .mixedOrders=true){ft:Tr aQ}{xt:Tr Nat}{zt:ZT}(ht:Ga P ft)(hx:MH P xt)(hz:RD P zt):∀n,jx P (sZ ft xt zt lf n)
 |0=>⟨fun _ _ _ _=>TM.err,fun _ _ _ _ _ _ _ _ _ h=>(by cases h)⟩
 |n+1=>by
  have ih:=LV z ht hx hz n;have key:∀f args H v H',sZ ft xt zt lf (n+1) f args H= .ok v H'→(∃fn,ft.get f=some fn∧vU (sZ ft xt zt lf n) lf fn args H= .ok v H')∨(∃c,xt.get f=some c∧vW c args H= .ok v H')∨∃F,zt.get f=some F∧F args H= .ok v H':=by
   intro f args H v H' h;have h:ob (ft.get f) (ob (xt.get f) (ob (zt.get f) (.err (Nat.add 10000 f)) fun F=>F args H) fun c=>vW c args H) (fun fn=>vU (sZ ft xt zt lf n) lf fn args H)= .ok v H':=h
   cases hf:ft.get f with
   |some fn=>rw[hf] at h;exact .inl ⟨fn,rfl,h⟩
   |none=>
    rw[hf] at h;have h:ob (xt.get f) (ob (zt.get f) (.err (Nat.add 10000 f)) fun F=>F args H) (fun c=>vW c args H)= .ok v H':=h
    cases U:xt.get f with
    |some c=>rw[U] at h;exact .inr (.inl ⟨c,rfl,h⟩)
    |none=>rw[U] at h;exact .inr (.inr (iV (o:=zt.get f) h))
  refine⟨fun f args H L v H' h=>?_,fun f args H v H' ρ C w dc h L M Y hK Z hG hv=>?_⟩
  ·rcases key _ _ _ _ _ h with⟨fn,_,h⟩|⟨c,_,h⟩|⟨F,Z,h⟩
   ·obtain⟨_,_,x,E1,H1,_,A,_,h2⟩:=abP h;rw[YZ h2];exact tM ih fn.body _ _ _ _ _ L A
   ·rw[ext_same v H' h];exact eH.refl _
   exact(hz f F Z).lr args H L v H' h
  rcases key _ _ _ _ _ h with⟨fn,J4,h⟩|⟨c,U,h⟩|⟨F0,E5,h⟩
  rotate_left 2
  ·exact(hz f F0 E5).sound args H v H' ρ C w dc h L M Y hK Z hG hv
  ·obtain⟨g,hg,O⟩:=ht f fn J4;obtain⟨cd,hb,_,_,_,_,G⟩:=abO O;have A:g.name≠ "runtime.NumGoroutine":=by simpa using G
   exact .inl ⟨by simp[callFunc,hg,A,hb],Zt ih z hg O h L M Y hK Z hG hv⟩
  have I:=hx f c U;have h:Uc args H= .ok v H':=h
  cases args with
  |cons x r=>cases h
  |nil=>
   cases h
   simp only[bR] at hv;have Pz:dc=#[]:=by have:=congrArg List.toArray hv;simpa using this
   subst Pz;have o9:xZ P w:=Sy Y hG;have post:∀{w':World},Kept w w'→c9 ρ C w H (.bool true) H (.bool true) w':=fun hk=>⟨ρ,by simp only[VR],hk.ext _ _ _,by rw[rU];exact Y.kept hk⟩
   rcases I w o9 with⟨A,h2⟩|⟨w',A,h2⟩
   ·exact .inl ⟨A,Calls.mono h2 fun e w'⟨he,hk⟩=>⟨_,he,post hk⟩⟩
   exact .inr ⟨_,w',A,post h2⟩
end
def base(P:Program):Ho:=fun f g=>if f<P.globals.size∧g=1 then some ⟨f,0,0,true,I4 P f⟩ else none
def H0(n:Nat):ax:=⟨n,0,[],.emp⟩
section
variable{P:Program}{ρ:Ho}{C:Nat→Option cX}{w w':World}{H H':ax}{call:dQ}{f n:Nat}{args:List ai}{dc:Array Value}{v:ai}
theorem qA{f g:Nat}{h:Hm}(e:base P f g=some h):f<P.globals.size∧g=1∧h=⟨f,0,0,true,I4 P f⟩:=by
 unfold base at e
 split at e
 ·rename_i k;cases e;exact⟨k.1,k.2,rfl⟩
 cases e
theorem C6(z:xZ P w):R (base P) (fun _=>none) w:=by
 refine⟨fun f o h=>(by cases h),fun f g h f' g' h' e A _ _=>?_,fun f g h e=>?_,fun f g h g' h' e A _=>?_,fun f g h e _ G=>?_⟩
 rotate_right
 ·obtain⟨k,_,rfl⟩:=qA e;exact⟨fun g' h' A=>by obtain⟨_,_,rfl⟩:=qA A;rfl,(z f k).2 G⟩
 ·obtain⟨_,_,rfl⟩:=qA e;obtain⟨_,_,rfl⟩:=qA A;exact⟨rfl,rfl⟩
 ·obtain⟨k,_,rfl⟩:=qA e;exact(z f k).1
 obtain⟨_,_,rfl⟩:=qA e;obtain⟨_,_,rfl⟩:=qA A;rfl
theorem QB:vE P (base P):=fun g z=>⟨⟨g,0,0,true,I4 P g⟩,by simp[base,z],rfl,rfl,fun h=>⟨rfl,h⟩⟩
theorem Z2(z:P.globals.size≤n)(m:Nat):fI (base P) n m:=fun f g A _=>by
 unfold base;rw[aX an]
theorem agt:WF (H0 n):=fun x _=>GT.tI x
theorem aaM:hJ (base P) (fun _=>none) (H0 n):=fun f o _ h=>by
 rw[show(H0 n).t.get f=none from GT.tI f] at h;cases h
theorem c9.kept{cv:Value}(h:c9 (base P) C w H v H' cv w'):Kept w w':=by
 obtain⟨ρ',_,z,_⟩:=h;exact⟨z.os,z.tape,z.output,z.size,fun b A=>z.frame b A fun f g x G I _=>by obtain⟨_,_,rfl⟩:=qA G;cases I⟩
theorem trueOk_of(O:jx P call){I:Nat}(U:P.globals.size≤n)(Y:call I [] (H0 n)= .ok (.bool true) H'):ad3 P I:=fun w L=>by
 have post:∀{cv:Value}{w':World},c9 (base P) (fun _=>none) w (H0 n) (.bool true) H' cv w'→cv= .bool true∧Kept w w':=by
  intro cv w' G;have z:=G.kept;obtain⟨_,A,_,_⟩:=G;simp only[VR] at A;exact⟨A,z⟩
 rcases O.sound I [] (H0 n) (.bool true) H' (base P) (fun _=>none) w #[] Y (gL _) agt (C6 L) aaM (Z2 U _) QB (by simp only[bR]) with⟨M,h2⟩|⟨cv,w',M,h2⟩
 ·exact .inl ⟨M,Calls.mono h2 fun e w'⟨cv,Z,G⟩=>by
   obtain⟨rfl,z⟩:=post G
   exact⟨Z,z⟩⟩
 obtain⟨rfl,z⟩:=post h2;exact .inr ⟨w',M,z⟩
def HU{α:Type}(l:List (Nat×α)):Tr α:=List.rec (motive:=fun _=>Tr α) .leaf (fun p _ z=>z.set p.1 p.2) l
theorem Z3{α:Type}{f:Nat}{x:α}:∀{l:List (Nat×α)},(HU l).get f=some x→(f,x)∈l
 |[],h=>by rw[show HU ([]:List (Nat×α))= .leaf from rfl,Tr.uY] at h;cases h
 |p::r,h=>by
  have h:((HU r).set p.1 p.2).get f=some x:=h;rw[Tr.df] at h
  split at h
  ·rename_i e;cases h;subst e;exact jo ..
  exact oV _ (Z3 h)
def RowOk(P:Program)(p:Nat×aQ):Prop:=∃g,P.funcs[p.1]?=some g∧vX P g=some p.2
theorem tabOf_ok{l:List (Nat×aQ)}(h:∀p,p∈l→RowOk P p):Ga P (HU l):=fun f fn z=>h (f,fn) (Z3 z)
end
def okT(r:aD):Bool:=aD.rec (motive:=fun _=>Bool) (fun v _=>ai.rec (motive_1:=fun _=>Bool) (motive_2:=fun _=>Unit) (fun b=>b) (fun _ _=>false) (fun _ _=>false) (fun _ _ _=>false) false (fun _ _ _ _ _=>false) false (fun _ _=>false) (fun _ _=>false) (fun _ _ _ _ _=>false) false (fun _ _ _=>false) false (fun _=>false) false false () (fun _ _ _ _=>()) v) (fun _=>false) r
theorem okT_ok{r:aD}(h:okT r=true):∃H,r= .ok (.bool true) H:=by
 cases r with
 |err n=>cases h
 |ok v H=>
  cases v with
  |bool b=>cases b with
   |true=>exact⟨H,rfl⟩
   |false=>cases h
  |_=>cases h
end Go.Ev
