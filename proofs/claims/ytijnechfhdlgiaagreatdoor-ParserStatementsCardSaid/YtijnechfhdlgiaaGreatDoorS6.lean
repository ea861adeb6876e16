/- Part 6 of rules for walks through the code of a program, and of such walks; what each part proves is said by its theorems. -/
import Derived.Test.YtijnechfhdlgiaaGreatDoorS5
import Derived.LoopN
set_option linter.unusedVariables false
set_option linter.unusedSimpArgs false
noncomputable section
set_option maxRecDepth 100000
set_option maxHeartbeats 4000000
namespace Go.Ev
theorem Ext.wide{W:Nat→Prop}{n0 n1 z A:Nat}{ρ ρ':Ho}{w w':World}(h:Ext W n0 n1 ρ ρ' w w')(h0:z≤n0)(G:n1≤A):Ext W z A ρ ρ' w w':=
 ⟨h.le,fun f g x e=>(h.jL f g x e).imp_right fun k=>⟨ah,ah⟩,h.ct,h.frame,h.size,by have:=h.nn;omega,h.os,h.tape,h.output⟩
theorem Ext.W5{W:Nat→Prop}{n0 n1:Nat}{ρ z A:Ho}{w K O:World}(h:Ext W n0 n1 ρ z w K)(k:Ext W n0 n1 z A K O):Ext W n0 n1 ρ A w O:=by
 refine⟨Ho.le_trans h.le k.le,?_,?_,?_,kx h.size k.size,h.nn,k.os.trans h.os,k.tape.trans h.tape,k.output.trans h.output⟩
 ·intro f g x G
  rcases k.jL f g x G with⟨g0,h0,e⟩|e
  ·exact h.jL f g0 h0 e
  exact .inr e
 ·intro f g x G
  rcases k.ct f g x G with e|⟨a,b⟩|⟨g0,h0,e,e1,e2⟩
  ·exact h.ct f g x e
  ·exact .inr (.inl ⟨kx h.size a,b⟩)
  rcases h.ct f g0 h0 e with I|⟨a,b⟩|⟨g1,h1,I,e3,e4⟩
  ·exact .inr (.inr ⟨g0,h0,I,e1,e2⟩)
  ·exact .inr (.inl ⟨e1▸a,e2▸b⟩)
  exact .inr (.inr ⟨g1,h1,I,e3.trans e1,e4.trans e2⟩)
 intro b U J
 rw[k.frame b (m9 U h.size) ?_,h.frame b U J]
 intro f g x G Y Z
 rcases h.ct f g x G with e|⟨a,_⟩|⟨g0,h0,e,e1,e2⟩
 ·exact J f g x e Y Z
 ·intro hh;omega
 exact e1▸J f g0 h0 e (e2.trans Y) Z
def pP(l:List bA)(n:Nat):Option Key:=(l[n]?).bind (·.dst)
def rE(l:List bA)(E:Env)(V:Nat→ax)(S:Nat→Bool):Nat→Env
 |0=>E
 |n+1=>if S n=true then kP (rE l E V S n) (pP l n) (V n) else rE l E V S n
def rC(C:Nat→Option et)(Hs:Nat→aE)(S:Nat→Bool):Nat→Nat→Option et
 |0=>C
 |n+1=>if S n=true then gY (rC C Hs S n) (Hs n) (Hs (n+1)) else rC C Hs S n
theorem Bl{l:List bA}{E:Env}{V:Nat→ax}{S:Nat→Bool}(n:Nat):rE l E V S (n+1)=if S n=true then kP (rE l E V S n) (pP l n) (V n) else rE l E V S n:=rfl
theorem Bm{C:Nat→Option et}{Hs:Nat→aE}{S:Nat→Bool}(n:Nat):rC C Hs S (n+1)=if S n=true then gY (rC C Hs S n) (Hs n) (Hs (n+1)) else rC C Hs S n:=rfl
def ins(S:Nat→Bool)(j:Nat):Nat→Bool:=fun i=>i==j||S i
theorem ye(E:Env)(d:Option Key)(v:ax)(t:Key):(kP E d v).get t=if d=some t then some v else E.get t:=by
 cases d with
 |none=>simp[kP]
 |some d=>
  show(E.set d v).get t=_
  rw[T4.eY]
  by_cases h:t=d
  ·subst h;simp
  rw[al h,al (by simp;exact fun e=>h e.symm)]
section
variable{l:List bA}{E:Env}{V:Nat→ax}{S:Nat→Bool}{j:Nat}
theorem EN(t:Key){T:Nat→Bool}:∀n,(∀i,i<n→S i≠T i→pP l i≠some t)→(rE l E V S n).get t=(rE l E V T n).get t
 |0,_=>rfl
 |n+1,h=>by
  have z:=EN t n fun i hi=>h i ah
  have A:=h n ah
  rw[Bl,Bl]
  cases G:S n<;>cases I:T n
  ·simpa using z
  ·have:=A (by simp[G,I])
   simp only[qN,if_false,if_true,ye,al this];exact z
  ·have:=A (by simp[G,I])
   simp only[qN,if_false,if_true,ye,al this];exact z
  simp only[if_true,ye,z]
theorem Eg(t:Key):∀n,j≤n→(∀k,j≤k→k<n→S k=true→pP l k≠some t)→(rE l E V S n).get t=(rE l E V S j).get t
 |0,z,_=>by have:j=0:=ah;subst this;rfl
 |n+1,z,h=>by
  rcases BU z with ew|rfl
  ·have A:=Eg t n ah fun k G h2=>h k G ah
   rw[Bl]
   split
   ·rename_i I;rw[ye,al (h n ah ah I)];exact A
   exact A
  rfl
theorem Oc(I:S j=false)(A:j<l.length)(J:∀k t,j<k→S k=true→pP l j=some t→pP l k≠some t)(t:Key):
  (rE l E V (ins S j) l.length).get t=(kP (rE l E V S l.length) (pP l j) (V j)).get t:=by
 rw[ye]
 have e:∀i,ins S j i≠S i→i=j:=by
  intro i hi
  unfold ins at hi
  by_cases h:i=j
  ·exact h
  simp[h] at hi
 split
 ·rename_i z
  rw[Eg (j:=j+1) t l.length A fun k K h2 G=>J k t ah (by unfold ins at G;simpa[show k≠j by omega] using G) z]
  rw[Bl]
  rw[az (by simp[ins]),ye,az z]
 rename_i z
 exact EN t _ fun i _ hi=>by rw[e i hi];exact z
end
section
variable{C:Nat→Option et}{Hs:Nat→aE}{S:Nat→Bool}{j:Nat}
def Touch(Hs:Nat→aE)(n f:Nat):Prop:=((Hs n).next≤f∧f<(Hs (n+1)).next)∨(Hs (n+1)).t.get f≠(Hs n).t.get f
theorem DN{n f:Nat}(h:Touch Hs n f):gY C (Hs n) (Hs (n+1)) f=(Hs (n+1)).t.get f:=by
 unfold gY
 rcases h with h|h
 ·rw[az h]
 rw[al h];split<;>rfl
theorem Dz{n f:Nat}(h:¬Touch Hs n f):gY C (Hs n) (Hs (n+1)) f=C f:=by
 unfold gY
 rw[al (fun k=>h (.inl k)),az (vi fun k=>h (.inr k))]
theorem Od(f:Nat){T:Nat→Bool}:∀n,(∀i,i<n→S i≠T i→¬Touch Hs i f)→rC C Hs S n f=rC C Hs T n f
 |0,_=>rfl
 |n+1,h=>by
  have A:=Od f n fun i hi=>h i ah
  have G:=h n ah
  rw[Bm,Bm]
  by_cases z:Touch Hs n f
  ·have e:S n=T n:=vi fun k=>G k z
   rw[e]
   cases T n
   ·simpa using A
   simp only[if_true,DN z]
  cases S n<;>cases T n<;>simp only[qN,if_false,if_true,Dz z]<;>exact A
theorem Bo(f:Nat):∀n,j≤n→(∀k,j≤k→k<n→S k=true→¬Touch Hs k f)→rC C Hs S n f=rC C Hs S j f
 |0,z,_=>by have:j=0:=ah;subst this;rfl
 |n+1,z,h=>by
  rcases BU z with ew|rfl
  ·have A:=Bo f n ah fun k G h2=>h k G ah
   rw[Bm]
   split
   ·rename_i I;rw[Dz (h n ah ah I)];exact A
   exact A
  rfl
theorem Oe{N:Nat}(I:S j=false)(A:j<N)(J:∀k f,j<k→k<N→S k=true→Touch Hs j f→¬Touch Hs k f)(f:Nat):
  rC C Hs (ins S j) N f=gY (rC C Hs S N) (Hs j) (Hs (j+1)) f:=by
 have e:∀i,ins S j i≠S i→i=j:=by
  intro i hi
  unfold ins at hi
  by_cases h:i=j
  ·exact h
  simp[h] at hi
 by_cases z:Touch Hs j f
 ·rw[DN z,Bo (j:=j+1) f N A fun k K h2 G=>J k f ah h2 (by unfold ins at G;simpa[show k≠j by omega] using G) z]
  rw[Bm]
  rw[az (by simp[ins]),DN z]
 rw[Dz z]
 exact Od f _ fun i _ hi=>by rw[e i hi];exact z
theorem HC(f:Nat)(h0:∀o,(Hs 0).t.get f=some o→C f=some o):∀n,(∀i,i<n→S i=false→¬Touch Hs i f)→∀o,(Hs n).t.get f=some o→rC C Hs S n f=some o
 |0,_,o,h=>h0 o h
 |n+1,A,o,h=>by
  have G:=HC f h0 n (fun i hi=>A i ah) o
  rw[Bm]
  by_cases z:Touch Hs n f
  ·have:S n=true:=by
    cases I:S n
    ·exact absurd z (A n ah I)
    rfl
   rw[az this,DN z];exact h
  have e:(Hs (n+1)).t.get f=(Hs n).t.get f:=vi fun k=>z (.inr k)
  rw[e] at h
  split
  ·rw[Dz z];exact G h
  exact G h
end
structure Fact(call:fc)(o:bA)(E:Env)(H:aE)(b:Bool)(v:ax)(fp:FP)(H1:aE):Prop where
 nc:gO H H1
 X6:∀f,((H.next≤f∧f<H1.next)∨H1.t.get f≠H.t.get f)→o.q.isSome=true∧(f∈fp.ws∨(fp.lo≤f∧f<fp.hi∧H.next≤f∧f<H1.next))
 X7:nw E o.g b
 off:b=false→v= .undef∧H1=H
 on:b=true→∃Hm Hn,o.op.ev call E Hm= .ok v Hn∧Hm.bj≤Hm.next∧Hm.next=H.next∧Hm.t=H.t∧Hn.next=H1.next∧Hn.t=H1.t∧(∀f,Wr Hn f→Wr H1 f)∧(o.q.isSome=true→fp.rd=o.op.reads E)
section
variable{P:Program}{call:fc}
theorem qH.fact{o:bA}{E:Env}{H:aE}{b9:List FP}{b:Bool}{v:ax}{fp:FP}{H1:aE}(U:kZ P call)(hp:o.q=none→nk o.op=true)(O:H.bj≤H.next)(G:WF H)(h:qH call o E H b9 b v fp H1):
  Fact call o E H b v fp H1:=by
 cases h with
 |skip I J=>exact⟨gO.refl _,fun f z=>absurd z (by rintro(z|z);omega;exact z rfl),I,fun _=>⟨rfl,rfl⟩,fun h=>by cases h⟩
 |plain I J he=>
  have e:=TW (hp J) v H1 he
  subst e
  exact⟨gO.refl _,fun f z=>absurd z (by rintro(z|z);omega;exact z rfl),I,fun h=>(by cases h),fun _=>⟨H1,H1,he,O,rfl,rfl,rfl,rfl,fun _ h=>h,fun h=>by rw[J] at h;cases h⟩⟩
 |marked I J he Y=>
  rename_i q A
  have t:=TM.ins (H:=H.mark) (bR _) (fun f a=>U.nc f a _ (bR _)) E o.op v A he
  refine⟨t.yH O,fun f z=>⟨by rw[J];rfl,?_⟩,I,fun h=>(by cases h),fun _=>⟨H.mark,A,he,bR _,rfl,rfl,rfl,rfl,fun f z=>?_,fun _=>rfl⟩⟩
  ·have z:((H.next≤f∧f<A.next)∨A.t.get f≠H.t.get f):=z
   show f∈A.ws∨(H.next≤f∧f<A.next∧H.next≤f∧f<A.next)
   by_cases K:f<H.next
   ·rcases z with z|z
    ·omega
    exact .inl (vi fun k=>z (t.same f K k))
   by_cases h2:f<A.next
   ·exact .inr ⟨ah,h2,ah,h2⟩
   rcases z with z|z
   ·omega
   have e1:H.t.get f=none:=G f ah
   have e2:A.t.get f=none:=t.wf G f ah
   exact absurd (e2.trans e1.symm) z
  rcases z with z|z
  ·by_cases K:f<H.bj
   ·exact .inl ((AQ _ _ _ _).2 (.inr ⟨z,K⟩))
   exact .inr (by show H.bj≤f;omega)
  have:H.next≤f:=by rw[t.bj] at z;exact z
  exact .inr (by show H.bj≤f;omega)
end
structure vG(P:Program)(nt:Nat)(ops:Array Oper)(l:List bA):Prop where
 len:l.length=ops.size
 YY:∀(i:Nat)(o:Oper)(io:bA),ops[i]?=some o→l[i]?=some io→Ah P nt ops o io
 back:∀(j:Nat)(o:Oper)(e:Edge),ops[j]?=some o→e∈o.after→Region.binds .any e=true→e.on<j
 tmps:∀(i j:Nat)(x y:bA),i<j→l[i]?=some x→l[j]?=some y→lT ops i j∨Io x y
 pure:∀(i:Nat)(x:bA),l[i]?=some x→x.q=none→nk x.op=true
section
variable{P:Program}{call:fc}{nt:Nat}{ops:Array Oper}{l:List bA}{E E':Env}{H H':aE}{Es:Nat→Env}{Hs:Nat→aE}{Rs:Nat→List FP}{Wn:Nat→Bool}{Vs:Nat→ax}{Fp:Nat→FP}
theorem Trace.wf(A:kZ P call)(G:vG P nt ops l)(T:Trace call l E H [] E' H' Es Hs Rs Wn Vs Fp)(I:H.bj≤H.next)(z:WF H):∀i,i≤l.length→(Hs i).bj≤(Hs i).next∧WF (Hs i)
 |0,_=>by rw[T.h0];exact⟨I,z⟩
 |i+1,hi=>by
  obtain⟨J,h2⟩:=Trace.wf A G T I z i ah
  obtain⟨o,ho⟩:∃o,l[i]?=some o:=⟨_,fe ah⟩
  have t:=((T.step i o ho).1.fact A (G.pure i o ho) J h2).nc
  exact⟨by rw[t.bj];exact kx J t.next,t.wf h2⟩
theorem Trace.fact(A:kZ P call)(G:vG P nt ops l)(T:Trace call l E H [] E' H' Es Hs Rs Wn Vs Fp)(I:H.bj≤H.next)(z:WF H){i:Nat}{o:bA}(ho:l[i]?=some o):
  Fact call o (Es i) (Hs i) (Wn i) (Vs i) (Fp i) (Hs (i+1)):=by
 have hi:i<l.length:=(List.getElem?_eq_some_iff.1 ho).1
 obtain⟨J,h2⟩:=T.wf A G I z i ah
 exact(T.step i o ho).1.fact A (G.pure i o ho) J h2
theorem Trace.nc(A:kZ P call)(G:vG P nt ops l)(T:Trace call l E H [] E' H' Es Hs Rs Wn Vs Fp)(I:H.bj≤H.next)(z:WF H){i:Nat}:∀k,i≤k→k≤l.length→gO (Hs i) (Hs k)
 |0,h,_=>by have:i=0:=ah;subst this;exact gO.refl _
 |k+1,h,hk=>by
  rcases BU h with ew|rfl
  ·obtain⟨o,ho⟩:∃o,l[k]?=some o:=⟨_,fe ah⟩
   exact(Trace.nc A G T I z k ah ah).trans (T.fact A G I z ho).nc
  exact gO.refl _
theorem Trace.env(T:Trace call l E H [] E' H' Es Hs Rs Wn Vs Fp):∀n,n≤l.length→Es n=rE l E Vs (fun _=>true) n
 |0,_=>T.e0
 |n+1,z=>by
  obtain⟨o,ho⟩:∃o,l[n]?=some o:=⟨_,fe ah⟩
  rw[(T.step n o ho).2.1,Bl,Trace.env T n ah,az rfl]
  simp[pP,ho]
structure Inv(P:Program)(nt:Nat)(l:List bA)(E:Env)(H H':aE)(Hs:Nat→aE)(Vs:Nat→ax)(ρ0:Ho)(C0:Nat→Option et)(w0:World)(S:Nat→Bool)(a:Act)(w:World)(ρ:Ho):Prop where
 ar:AR P ρ nt (rE l E Vs S l.length) a
 r:R ρ (rC C0 Hs S l.length) w
 ext:Ext (Wr H') H.next H'.next ρ0 ρ w0 w
 jL:∀f g h,ρ f g=some h→(∃g0 h0,ρ0 f g0=some h0)∨∃k,k<l.length∧S k=true∧(Hs k).next≤f∧f<(Hs (k+1)).next
theorem AR.congr{ρ:Ho}{a:Act}{E1 z:Env}(h:AR P ρ nt E1 a)(he:∀t,z.get t=E1.get t):AR P ρ nt z a:=
 ⟨h.size,h.defers,fun t v k=>h.tmp t v (by rw[←he];exact k),h.sG⟩
theorem UB(hc:kZ P call)(hr:vG P nt ops l)(T:Trace call l E H [] E' H' Es Hs Rs Wn Vs Fp)
  (O:∀(i j:Nat)(x y:bA),i<j→l[i]?=some x→l[j]?=some y→x.q.isSome=true→y.q.isSome=true→lT ops i j∨yn (Fp j) (Fp i))
  (hm:H.bj≤H.next) (od:WF H) {ρ0:Ho} {C0:Nat→Option et} {w0:World} (J1:kH ρ0 C0 H) (GF:iQ ρ0 H.next H'.next)
  {S:Nat→Bool} (hS:EM ops S) {j:Nat} (hj:j<l.length) (U:S j=false) (hjr:I0 ops S j) {a:Act} {w:World} {ρ:Ho} (hI:Inv P nt l E H H' Hs Vs ρ0 C0 w0 S a w ρ)
  {Q:Exit→Act→World→Prop} {K:Act→World→Prop} (hK:∀a' w' ρ',Inv P nt l E H H' Hs Vs ρ0 C0 w0 (ins S j) a' w' ρ'→K a' w'):wpOp P ops Q j K a w:=by
 obtain⟨io,A⟩:∃io,l[j]?=some io:=⟨_,fe hj⟩
 obtain⟨o,ho⟩:∃o,ops[j]?=some o:=⟨_,xo (by rw[←hr.len];exact hj)⟩
 have AG:=hr.YY j o io ho A
 have fj:=T.fact hc hr hm od A
 have I:∀i k,i≤k→k≤l.length→(Hs i).next≤(Hs k).next:=fun i k h1 h2=>(T.nc hc hr hm od k h1 h2).next
 have h0:Hs 0=H:=T.h0
 have hN:Hs l.length=H':=T.hN
 have F':∀k,S k=true→¬lT ops j k:=fun k hk hb=>by rw[hb.closed hS hk] at U;cases U
 have Qq:∀i,S i=false→¬lT ops i j:=fun i hi hb=>by rw[hb.ready hS hjr] at hi;cases hi
 have get:∀{k},k<l.length→∃y,l[k]?=some y:=fun hk=>⟨_,fe hk⟩
 have G:∀{k y},l[k]?=some y→pP l k=y.dst:=fun Z=>by simp[pP,Z]
 have J2:∀t,t∈tz io→(rE l E Vs S l.length).get t=(Es j).get t:=by
  intro t ht
  rw[T.env j ah,Eg (j:=j) t l.length ah fun k h1 h2 J=>?_]
  ·refine EN t j fun i hi J=>?_
   obtain⟨x,hx⟩:=get (k:=i) ah
   have J:S i=false:=by simpa using J
   rw[G hx]
   exact((hr.tmps i j x io hi hx A).resolve_left (Qq i J)).xy t ht
  obtain⟨y,Z⟩:=get h2
  have l8:j≠k:=fun e=>by rw[←e,U] at J;cases J
  rw[G Z]
  exact((hr.tmps j k io y ah A Z).resolve_left (F' k J)).yx t ht
 have Qr:∀k t,j<k→S k=true→pP l j=some t→pP l k≠some t:=by
  intro k t hk J hd uy
  by_cases C7:k<l.length
  ·obtain⟨y,Z⟩:=get C7
   rw[G Z] at uy;rw[G A] at hd
   exact((hr.tmps j k io y hk A Z).resolve_left (F' k J)).dd t uy hd
  simp[pP,FY (Nat.le_of_not_lt C7)] at uy
 have z:∀{k f y},l[k]?=some y→Touch Hs k f→y.q.isSome=true∧(f∈(Fp k).ws∨((Fp k).lo≤f∧f<(Fp k).hi∧(Hs k).next≤f∧f<(Hs (k+1)).next)):=
  fun Z ht=>(T.fact hc hr hm od Z).X6 _ ht
 have Ga:∀i,i≤l.length→WF (Hs i):=fun i hi=>(T.wf hc hr hm od i hi).2
 have Of:∀k f,j<k→k<l.length→S k=true→Touch Hs j f→¬Touch Hs k f:=by
  intro k f hk C7 J tj tk
  obtain⟨y,Z⟩:=get C7
  obtain⟨qj,ej⟩:=z A tj
  obtain⟨qk,ek⟩:=z Z tk
  have fa:=(O j k io y hk A Z qj qk).resolve_left (F' k J)
  have n1:=I (j+1) k hk ah
  have n2:=I j (j+1) ah ah
  rcases ek with ek|⟨e1,e2,e3,e4⟩
  ·rcases ej with ej|⟨e1,e2,e3,e4⟩
   ·exact fa.ww f ek ej
   exact fa.out f ek ⟨e1,e2⟩
  rcases tj with tj|tj
  ·omega
  refine tj ((Ga (j+1) ah f ah).trans (Ga j ah f ah).symm)
 have CH:∀{i f},i<l.length→S i=false→(Hs i).next≤f→f<(Hs (i+1)).next→∀g,ρ f g=none:=by
  intro i f hi J h1 h2 g
  cases hx:ρ f g with
  |none=>rfl
  |some x=>
   rcases hI.jL f g x hx with⟨g0,x0,e⟩|⟨k,hk,J3,e1,e2⟩
   ·have n1:=I 0 i ah ah
    have n2:=I (i+1) l.length ah ah
    rw[h0] at n1;rw[hN] at n2
    rw[GF f g0 ah ah] at e;cases e
   rcases Jb i k with ew|rfl|Gx
   ·have:=I (i+1) k ah ah;omega
   ·rw[J] at J3;cases J3
   have:=I (k+1) i ah ah;omega
 have X8:iQ ρ (Hs j).next (Hs (j+1)).next:=fun f g h1 h2=>CH hj U h1 h2 g
 have W6:Wn j=true→∀f ob,(∀ls,io.op.reads (Es j)=some ls→f∈ls)→(∃g h,ρ f g=some h)→(Hs j).t.get f=some ob→rC C0 Hs S l.length f=some ob:=by
  intro hon f ob qW⟨g,x,hx⟩AH
  obtain⟨_,_,_,_,_,_,_,_,_,YZ⟩:=fj.on hon
  have Y:io.q.isSome=true:=by
   cases hq:io.q with
   |some q=>rfl
   |none=>have:=qW [] (Th (hr.pure j io A hq));cases this
  have Y0:(Fp j).rd=io.op.reads (Es j):=YZ Y
  have Qs:∀m,(Fp j).rd=some m→f∈m:=fun m hm=>qW m (Y0▸hm)
  have fj2:f<(Hs j).next:=vi fun k=>by rw[Ga j ah f ah] at AH;cases AH
  rw[Bo (j:=j) f l.length ah fun k h1 h2 J tk=>?_]
  ·refine HC f (fun o' uw=>?_) j (fun i hi J ti=>?_) ob AH
   ·rw[h0] at uw
    refine J1 f o' ?_ uw
    rcases hI.jL f g x hx with e|⟨k,hk,J3,e1,e2⟩
    ·exact e
    have n1:=I 0 k ah ah
    rw[h0] at n1
    rw[od f ah] at uw;cases uw
   obtain⟨y,Z⟩:=get (k:=i) ah
   obtain⟨qi,ei⟩:=z Z ti
   rcases ei with ei|⟨_,_,e3,e4⟩
   ·obtain⟨m,ux,GB⟩:=((O i j y io hi Z A qi Y).resolve_left (Qq i J)).ba f ei
    exact GB (Qs m ux)
   rw[CH ah J e3 e4 g] at hx;cases hx
  obtain⟨y,Z⟩:=get h2
  have l8:j≠k:=fun e=>by rw[←e,U] at J;cases J
  obtain⟨qk,ek⟩:=z Z tk
  rcases ek with ek|⟨_,_,e3,e4⟩
  ·obtain⟨m,ux,GB⟩:=((O j k io y ah A Z Y qk).resolve_left (F' k J)).ab f ek
   exact GB (Qs m ux)
  have:=I j k ah ah;omega
 have Nf:∀k,S k=true→ins S j k=true:=fun k hk=>by simp[ins,hk]
 unfold wpOp
 simp only[ho]
 have hw:=SN (E':=rE l E Vs S l.length) (fun t ht=>(J2 t ht).symm) fj.X7
 rw[Hl AG hw hI.ar.tmp]
 cases hb:Wn j with
 |false=>
  rw[al (by simp)]
  obtain⟨e1,e2⟩:=fj.off hb
  refine hK _ _ ρ ⟨?_,?_,hI.ext,fun f g x hx=>(hI.jL f g x hx).imp_right fun⟨k,h1,h2,h3⟩=>⟨k,h1,Nf k h2,h3⟩⟩
  ·refine AR.congr (E1:=kP (rE l E Vs S l.length) io.dst .undef) (by rw[AG.dst];exact hI.ar.F8 AG.lt (by simp only[VR])) fun t=>?_
   rw[Oc U hj Qr t,G A,e1]
  rw[show rC C0 Hs (ins S j) l.length=rC C0 Hs S l.length from funext fun f=>by rw[Oe U hj Of f,e2,qe]]
  exact hI.r
 |true=>
  rw[az rfl]
  left
  obtain⟨Hm,Hn,he,k1,k2,k3,k4,k5,k6,k7⟩:=fj.on hb
  rcases AG.op with wi|Ju
  case inr=>rw[Ju] at he;exact(Nd he).elim
  have Y1:io.op.ev call (rE l E Vs S l.length) Hm= .ok (Vs j) Hn:=by
   rw[bP.Uz io.op (LM (E':=Es j) J2)];exact he
  have C5:=LH (o:=o) wi hI.ar hI.r (by rw[k2,k4];exact X8) (fun f ob qW hx AH=>by
   rw[k3] at AH
   refine W6 hb f ob (fun ls GG=>qW ls ?_) hx AH
   rw[bP.SG io.op (LM (E':=Es j) J2)];exact GG) k1 (fun x hx=>by rw[k3];exact Ga j ah x (by rw[←k2];exact hx)) hc Y1
  refine Lb C5 fun cv w' hp=>?_
  obtain⟨ρ',hv,Jv,C4⟩:=hp
  have Y2:gY (rC C0 Hs S l.length) Hm Hn=gY (rC C0 Hs S l.length) (Hs j) (Hs (j+1)):=by
   funext f;unfold gY;rw[k2,k3,k4,k5]
  refine hK _ _ ρ' ⟨?_,?_,hI.ext.W5 (Ext.wide (Jv.mono fun f hf=>?_) ?_ ?_),fun f g x hx=>?_⟩
  ·refine AR.congr (E1:=kP (rE l E Vs S l.length) io.dst (Vs j)) (by rw[AG.dst];exact(hI.ar.mono Jv.le).F8 AG.lt hv) fun t=>?_
   rw[Oc U hj Qr t,G A]
  ·rw[show rC C0 Hs (ins S j) l.length=gY (rC C0 Hs S l.length) Hm Hn from funext fun f=>by rw[Oe U hj Of f,Y2]]
   exact C4
  ·have t:=T.nc hc hr hm od (i:=j+1) l.length ah ah
   rw[hN] at t
   exact HS t f (k6 f hf)
  ·rw[k2,←h0];exact I 0 j ah ah
  ·rw[k4,←hN];exact I (j+1) l.length ah ah
  rcases Jv.jL f g x hx with⟨g0,x0,e⟩|e
  ·exact(hI.jL f g0 x0 e).imp_right fun⟨k,h1,h2,h3⟩=>⟨k,h1,Nf k h2,h3⟩
  rw[k2,k4] at e
  exact .inr ⟨j,hj,by simp[ins],e⟩
end
theorem K3{p q:Nat→Bool}:∀(l:List Nat){j:Nat},j∈l→p j=true→q j=false→(∀i,q i=true→p i=true)→(l.filter q).length+1≤(l.filter p).length
 |[],_,A,_,_,_=>by cases A
 |x::r,j,A,hp,J,h=>by
  have le:(r.filter q).length≤(r.filter p).length:=by
   clear A
   induction r with
   |nil=>simp
   |cons y s I=>
    cases z:q y
    ·rw[BV (by simp[z])]
     cases G:p y
     ·rw[BV (by simp[G])];exact I
     rw[w9 G];simp;omega
    rw[w9 z,w9 (h y z)];simp;exact I
  rcases List.mem_cons.1 A with rfl|A
  ·rw[BV (by simp[J]),w9 hp];simp;exact le
  have I:=K3 r A hp J h
  cases z:q x
  ·rw[BV (by simp[z])]
   cases G:p x
   ·rw[BV (by simp[G])];exact I
   rw[w9 G];simp;omega
  rw[w9 z,w9 (h x z)];simp;omega
def kY(iI:Array Bool):Nat→Bool:=fun i=>iI.getD i false
def GH(iI:Array Bool)(n:Nat):Nat:=((List.range n).filter fun i=>!kY iI i).length
section
variable{P:Program}{call:fc}{nt:Nat}{ops:Array Oper}{l:List bA}{E E':Env}{H H':aE}{Es:Nat→Env}{Hs:Nat→aE}{Rs:Nat→List FP}{Wn:Nat→Bool}{Vs:Nat→ax}{Fp:Nat→FP}
theorem SO{iI:Array Bool}{j:Nat}(z:j<iI.size):kY (iI.setIfInBounds j true)=ins (kY iI) j:=by
 funext i
 unfold kY ins
 by_cases h:i=j
 ·subst h;simp[z]
 rw[getD_set_ne false (Ne.symm h)];simp[h]
theorem Ti(A:vG P nt ops l){iI:Array Bool}(I:iI.size=l.length)(h:Region.ready .any ops iI=[]):∀i,i<l.length→kY iI i=true:=by
 intro i
 induction i using Nat.strongRecOn with
 |_ i J=>
  intro hi
  cases z:kY iI i with
  |true=>rfl
  |false=>
   obtain⟨o,ho⟩:∃o,ops[i]?=some o:=⟨_,xo (by rw[←A.len];exact hi)⟩
   have:i∈Region.ready .any ops iI:=by
    rw[mem_ready]
    refine⟨?_,o,ho,fun e he G=>J e.on (A.back i o e ho he G) (Nat.lt_trans (A.back i o e ho he G) hi)⟩
    unfold kY at z
    simp only[vR] at z⊢
    rw[xo (by rw[I];exact hi)] at z⊢
    simpa using z
   rw[h] at this;cases this
theorem W7(hc:kZ P call)(Z:vG P nt ops l)(T:Trace call l E H [] E' H' Es Hs Rs Wn Vs Fp)
  (G:∀(i j:Nat)(x y:bA),i<j→l[i]?=some x→l[j]?=some y→x.q.isSome=true→y.q.isSome=true→lT ops i j∨yn (Fp j) (Fp i))
  (hm:H.bj≤H.next) (od:WF H) {ρ0:Ho} {C0:Nat→Option et} {w0:World} (J1:kH ρ0 C0 H) (GF:iQ ρ0 H.next H'.next) {Q:Exit→Act→World→Prop}
  (I:∀S a w ρ,(∀i,i<l.length→S i=true)→Inv P nt l E H H' Hs Vs ρ0 C0 w0 S a w ρ→Q .normal a w):
  ∀(fuel:Nat)(iI:Array Bool)(a:Act)(w:World)(ρ:Ho),iI.size=l.length→EM ops (kY iI)→Inv P nt l E H H' Hs Vs ρ0 C0 w0 (kY iI) a w ρ→GH iI l.length≤fuel→
   wpAny P .any ops Q fuel iI a w:=by
 intro fuel
 induction fuel with
 |zero=>
  intro iI a w ρ K hC hI hu
  have all:∀i,i<l.length→kY iI i=true:=by
   intro i hi
   cases hl:kY iI i with
   |true=>rfl
   |false=>
    have:i∈(List.range l.length).filter fun i=>!kY iI i:=List.mem_filter.2 ⟨List.mem_range.2 hi,by simp[hl]⟩
    rw[um (Nat.le_zero.1 hu)] at this;cases this
  refine⟨?_,I _ a w ρ all hI⟩
  cases J:Region.ready .any ops iI with
  |nil=>rfl
  |cons j r=>
   have hj:j∈Region.ready .any ops iI:=by rw[J];exact lh ..
   obtain⟨h0,o,ho,_⟩:=mem_ready.1 hj
   have z:j<l.length:=by rw[Z.len];exact(Array.getElem?_eq_some_iff.1 ho).1
   have:=all j z
   unfold kY at this
   simp only[vR] at h0 this
   rw[xo (by rw[K];exact z)] at h0 this
   simp at h0 this;rw[h0] at this;cases this
 |succ fuel ih=>
  intro iI a w ρ K hC hI hu
  refine⟨fun h=>I _ a w ρ (Ti Z K h) hI,fun j hj=>?_⟩
  obtain⟨h0,o,ho,J⟩:=mem_ready.1 hj
  have z:j<l.length:=by rw[Z.len];exact(Array.getElem?_eq_some_iff.1 ho).1
  have O:kY iI j=false:=by
   unfold kY
   simp only[vR] at h0⊢
   rw[xo (by rw[K];exact z)] at h0⊢
   simpa using h0
  have U:I0 ops (kY iI) j:=fun o' e A he hb=>by
   rw[ho] at A;cases A
   exact J e he hb
  have xv:=SO (iI:=iI) (j:=j) (by rw[K];exact z)
  refine UB hc Z T G hm od J1 GF hC z O U hI fun a' w' ρ' hI'=>?_
  refine ih _ a' w' ρ' (by simp[K]) ?_ (by rw[xv];exact hI') ?_
  ·rw[xv]
   intro k o' e A he hb hk
   unfold ins at hk⊢
   by_cases Y:k=j
   ·subst Y;simp[U o' e A he hb]
   simp[Y] at hk;simp[hC k o' e A he hb hk]
  have:=K3 (p:=fun i=>!kY iI i) (q:=fun i=>!kY (iI.setIfInBounds j true) i) (List.range l.length) (List.mem_range.2 z) (by simp[O]) (by rw[xv];simp[ins]) (by
   intro i hi;rw[xv] at hi;simp[ins] at hi;simp[hi])
  have h2:GH (iI.setIfInBounds j true) l.length+1≤GH iI l.length:=this
  omega
theorem Inv.fin(hc:kZ P call)(hr:vG P nt ops l)(T:Trace call l E H [] E' H' Es Hs Rs Wn Vs Fp)(hm:H.bj≤H.next)(J:WF H){ρ0 ρ:Ho}{C0:Nat→Option et}{w0 w:World}(U:kH ρ0 C0 H)(GF:iQ ρ0 H.next H'.next)
  {S:Nat→Bool} {a:Act} (G:∀i,i<l.length→S i=true) (hI:Inv P nt l E H H' Hs Vs ρ0 C0 w0 S a w ρ):AR P ρ nt E' a∧R ρ (gY C0 H H') w:=by
 have h0:Hs 0=H:=T.h0
 have hN:Hs l.length=H':=T.hN
 have z:∀i k,i≤k→k≤l.length→(Hs i).next≤(Hs k).next:=fun i k h1 h2=>(T.nc hc hr hm J k h1 h2).next
 refine⟨AR.congr hI.ar fun t=>?_,hI.r.weaken fun f o K hd=>?_⟩
 ·rw[←T.eN,T.env l.length (bR _)]
  exact EN t _ fun i hi Z=>absurd (G i hi).symm Z
 obtain⟨g,x,hx⟩:=hd
 have I:=hI.jL f g x hx
 have known:∀O,H'.t.get f=some O→rC C0 Hs S l.length f=some O:=by
  rw[←hN]
  refine HC f (fun O A=>?_) _ (fun i hi Z=>by rw[G i hi] at Z;cases Z)
  rw[h0] at A
  rcases I with e|⟨k,hk,_,e1,e2⟩
  ·exact U f O e A
  have n1:=z 0 k ah ah
  rw[h0] at n1
  rw[J f ah] at A;cases A
 unfold gY at K
 split at K
 ·exact known o K
 rename_i hn
 split at K
 ·rename_i he
  have hd0:∃g0 x0,ρ0 f g0=some x0:=by
   rcases I with e|⟨k,hk,_,e1,e2⟩
   ·exact e
   have n1:=z 0 k ah ah
   have n2:=z (k+1) l.length ah ah
   rw[h0] at n1;rw[hN] at n2
   omega
  cases hg:H.t.get f with
  |some O=>
   have:=U f O hd0 hg
   rw[K] at this;cases this
   exact known o (he.trans hg)
  |none=>
   have nn:∀i,i≤l.length→(Hs i).t.get f=none:=by
    intro i hi
    cases nD:(Hs i).t.get f with
    |none=>rfl
    |some o2=>
     have:=(T.nc hc hr hm J (i:=i) l.length hi (bR _)).jo f (by rw[nD];simp)
     rw[hN,he,hg] at this;exact absurd rfl this
   rw[Bo (j:=0) f l.length (dp _) fun k _ hk _ Y=>?_]
   ·exact K
   rcases Y with Y|Y
   ·have n1:=z 0 k ah ah
    have n2:=z (k+1) l.length ah ah
    rw[h0] at n1;rw[hN] at n2
    omega
   rw[nn k ah,nn (k+1) ah] at Y;exact Y rfl
 exact known o K
theorem Ng{ms:List Nat}{l0:List bA}(A:l=pO ms 0 [] l0)(T:Trace call l E H [] E' H' Es Hs Rs Wn Vs Fp):∀n,n≤l.length→Rs n=(seenAt l0 n).map Fp
 |0,_=>T.r0
 |n+1,I=>by
  obtain⟨o,ho⟩:∃o,l[n]?=some o:=⟨_,fe ah⟩
  rw[(T.step n o ho).2.2,Ng A T n ah]
  obtain⟨z,h0,_,_,_,G⟩:=A6 (ms:=ms) (L:=l0) l0 0 (fun n=>by simp) n o (by rw[←ho,A];rfl)
  rw[jR] at h0 G
  unfold A5
  simp only[seenAt,h0]
  rw[G]
  cases nk z.op<;>rfl
theorem UC{ms:List Nat}{l0:List bA}(O:l=pO ms 0 [] l0)(U:∀j i,(ms.getD j 0).testBit i=true→lT ops i j)(T:Trace call l E H [] E' H' Es Hs Rs Wn Vs Fp)
  (i j:Nat) (x y:bA) (Y:i<j) (hx:l[i]?=some x) (Z:l[j]?=some y) (qx:x.q.isSome=true) (G:y.q.isSome=true):lT ops i j∨yn (Fp j) (Fp i):=by
 have CZ:j<l.length:=(List.getElem?_eq_some_iff.1 Z).1
 obtain⟨x0,I,_,_,_,A⟩:=A6 (ms:=ms) (L:=l0) l0 0 (fun n=>by simp) i x (by rw[←hx,O];rfl)
 obtain⟨y0,J4,_,_,_,z⟩:=A6 (ms:=ms) (L:=l0) l0 0 (fun n=>by simp) j y (by rw[←Z,O];rfl)
 rw[jR] at I J4 A z
 have px:nk x0.op=false:=by
  cases h:nk x0.op
  ·rfl
  rw[h] at A;rw[A] at qx;cases qx
 have py:nk y0.op=false:=by
  cases h:nk y0.op
  ·rfl
  rw[h] at z;rw[z] at G;cases G
 rw[py] at z
 cases hb:(ms.getD j 0).testBit i
 case true=>exact .inl (U _ _ hb)
 right
 obtain⟨n,hn⟩:=Jf (Li I px j Y)
 have hp:=KO hb (seenAt l0 j) 0 n hn
 rw[jR] at hp
 have hr:=Ng O T j ah
 generalize hWj:Wn j=wj at*
 generalize hVj:Vs j=vj at*
 have st:=(T.step j y Z).1
 have key:∀{b:Bool}{v:ax}{fp:FP}{H1:aE},qH call y (Es j) (Hs j) (Rs j) b v fp H1→yn fp (Fp i):=by
  intro b v fp H1 st
  cases st with
  |skip hw J=>
   rw[J G]
   exact⟨fun _ h=>(by cases h),fun _ _=>⟨[],rfl,by simp⟩,fun _ h=>(by cases h),fun _ h=>(by cases h)⟩
  |plain hw J _=>rw[J] at G;cases G
  |marked hw J he ha=>
   rename_i q H2
   rw[J] at z
   simp at z
   subst z
   obtain⟨b,K,AB⟩:=K1 ha n hp
   rw[hr,iJ,hn] at K
   cases K
   exact AB
 exact key st
theorem Sj(Y:kZ P call)(I:vG P nt ops l){ms:List Nat}{l0:List bA}(hl:l=pO ms 0 [] l0)(Z:∀j i,(ms.getD j 0).testBit i=true→lT ops i j)(J:P.follows .mixedOrders=true)
  {ρ:Ho} {C:Nat→Option et} {w:World} {a:Act} {id:Nat} {K:Act→World→Prop} {Q:Exit→Act→World→Prop} (h:mz call l E H []= .ok E' H') (hA:AR P ρ nt E a) (O:R ρ C w) (hK:kH ρ C H) (hF:iQ ρ H.next H'.next) (hm:H.bj≤H.next) (A:WF H)
  (G:rD P nt E' H H' C ρ w K) (hQ:∀a w,K a w→Q .normal a w):(Code.region id ops true).wp P Q a w:=by
 obtain⟨Es,Hs,Rs,Wn,Vs,Fp,T⟩:=Mt l E H [] E' H' h
 have hnn:H.next≤H'.next:=by
  have:=(T.nc Y I hm A (i:=0) l.length (dp _) (bR _)).next
  rw[T.h0,T.hN] at this;exact this
 refine wp_region_any J (W7 Y I T (UC hl Z T) hm A (ρ0:=ρ) (C0:=C) (w0:={w with drawn:=w.drawn+1}) hK hF (fun S a' w' ρ' U hI=>?_) ops.size _ a _ ρ (by simp[I.len]) ?_ ⟨?_,?_,?_,fun f g h e=>.inl ⟨g,h,e⟩⟩ ?_)
 ·obtain⟨k1,k2⟩:=hI.fin Y I T hm A hK hF U
  have he:=hI.ext
  exact hQ _ _ (G a' w' ρ' k1 ⟨he.le,he.jL,he.ct,he.frame,he.size,he.nn,he.os,he.tape,he.output⟩ k2 (DM hK he.jL))
 ·intro j o e ho he hb hj
  exact absurd hj (by unfold kY;by_cases z:j<ops.size<;>simp[vR,IE,z])
 ·refine AR.congr hA fun t=>?_
  rw[Eg (j:=0) t l.length (dp _) fun k _ _ hk=>?_]
  ·rfl
  exact absurd hk (by unfold kY;by_cases z:k<ops.size<;>simp[vR,IE,z])
 ·have e:rC C Hs (kY (Array.replicate ops.size false)) l.length=C:=funext fun f=>by
   rw[Bo (j:=0) f l.length (dp _) fun k _ _ hk=>?_]
   ·rfl
   exact absurd hk (by unfold kY;by_cases z:k<ops.size<;>simp[vR,IE,z])
  rw[e]
  exact⟨fun f o ho g x hx=>(O.obj f o ho g x hx).jo (Ho.le_refl _) rfl,O.oV,O.kB,O.uniq,O.nf⟩
 ·exact(Ext.refl _ H.next ρ _).wide (bR _) hnn
 unfold GH
 refine kx (List.length_filter_le _ _) ?_
 simp[I.len]
end
def guardOf(ops:Array Oper):Option (Nat×Bool)→Option (Option (Key×Bool))
 |none=>some none
 |some (j,want)=>match(ops[j]?).bind (·.dst) with|some d=>if d<1296 then some (some (pk d,want)) else none|none=>none
def I1(nt:Nat):Option Nat→Bool
 |some d=>decide (d<nt)&&decide (d<1296)
 |none=>true
def Fx(P:Program)(o:Op):bP:=match CG P o with|some io=>io|none=>bad
def I2(P:Program)(nt:Nat)(ops:Array Oper)(o:Oper):Option bA:=
 match guardOf ops o.guard with
 |none=>none
 |some g=>if I1 nt o.dst=true then some {dst:=o.dst.map pk,g:=g,q:=none,op:=Fx P o.op} else none
def EO(P:Program)(nt:Nat)(ops:Array Oper):List Oper→Option (List bA)
 |[]=>some []
 |o::r=>match I2 P nt ops o,EO P nt ops r with
  |some a,some l=>some (a::l)
  |_,_=>none
def Cf:IC:=.region false [{dst:=none,g:=none,q:=none,op:=bad}]
def Mu(P:Program)(nt:Nat)(ops:Array Oper)(draw:Bool):IC:=
 match EO P nt ops ops.toList with
 |none=>Cf
 |some l=>
  if draw then
   let ms:=xY ops.toList []
   if DZ 0 ops.toList&&Ob ms l then .region true (pO ms 0 [] l) else Cf
  else .region false l
def l6(P:Program)(nt:Nat):Code→IC
 |.skip=>.skip
 |.region _ ops draw=>Mu P nt ops draw
 |.seq a b=>.seq (l6 P nt a) (l6 P nt b)
 |.cond c a b=>match dH P c with
  |some y=>.cond y (l6 P nt a) (l6 P nt b)
  |none=>Cf
 |.block id b=>.block id (l6 P nt b)
 |.loop b=>.loop (l6 P nt b)
 |.exit id=>.exit id
 |.ret=>.ret
 |_=>Cf
def nU(P:Program):List ResultVar→Option (List ml)
 |[]=>some []
 |.tmp t::r=>match nU P r with|some l=>if t<1296 then some (.tmp (pk t)::l) else none|none=>none
 |.cell a t::r=>match nU P r,j8 P t with|some l,some n=>if a<1296 then some (.cell (pk a) n (qu P t)::l) else none|_,_=>none
def xz(P:Program)(fn:Func):Option bH:=
 match fn.body,nU P fn.results.toList with
 |some c,some rs=>if fn.params.size+fn.nfree≤fn.ntmps∧fn.params.size+fn.nfree≤1296∧(fn.name== "runtime.NumGoroutine")=false then some {nt:=fn.ntmps,ps:=(List.range (fn.params.size+fn.nfree)).map pk,res:=rs,body:=l6 P fn.ntmps c} else none
 |_,_=>none
section
variable{P:Program}{nt:Nat}{ops:Array Oper}
theorem UD{o:Oper}{io:bA}(h:I2 P nt ops o=some io):Ah P nt ops o io:=by
 unfold I2 at h
 cases z:guardOf ops o.guard with
 |none=>rw[z] at h;cases h
 |some g=>
  rw[z] at h
  dsimp only at h
  split at h
  ·rename_i A
   cases h
   refine⟨?_,fun d e=>?_,?_,?_⟩
   ·show o.dst=(o.dst.map pk).map Key.n
    cases ho:o.dst with
    |none=>rfl
    |some d=>
     rw[ho] at A
     simp only[I1,fE,fx] at A
     simp only[tU,xp A.2]
   ·have e:o.dst.map pk=some d:=e
    cases ho:o.dst with
    |none=>rw[ho] at e;cases e
    |some x=>
     rw[ho] at A e
     simp only[I1,fE,fx] at A
     cases e
     rw[xp A.2]
     exact A.1
   ·cases h0:o.guard with
    |none=>rw[h0] at z;cases z;exact .inl ⟨rfl,rfl⟩
    |some K=>
     obtain⟨j,want⟩:=K
     rw[h0] at z
     unfold guardOf at z
     split at z
     ·rename_i G;cases G
     rename_i O I G
     cases G
     split at z
     ·rename_i d A
      split at z
      ·rename_i J
       cases z
       exact .inr ⟨j,want,pk d,rfl,by rw[xp J];exact A,rfl⟩
      cases z
     cases z
   show CG P o.op=some (Fx P o.op)∨Fx P o.op=bad
   unfold Fx
   split
   ·rename_i io h;exact .inl h
   exact .inr rfl
  cases h
theorem LN:∀{os:List Oper}{l:List bA},EO P nt ops os=some l→l.length=os.length∧∀(i:Nat)(o:Oper)(io:bA),os[i]?=some o→l[i]?=some io→Ah P nt ops o io
 |[],l,h=>by cases h;exact⟨rfl,fun i o io h=>by simp at h⟩
 |o::r,l,h=>by
  unfold EO at h
  split at h
  ·rename_i a I G h2
   cases h
   obtain⟨e,k⟩:=LN h2
   refine⟨by simp[e],fun i x io A z=>?_⟩
   cases i with
   |zero=>simp at A z;subst A;subst z;exact UD G
   |succ i=>exact k i x io (by simpa using A) (by simpa using z)
  cases h
def Qt:Ex→Exit
 |.normal=>.normal
 |.exit id=>.exit id
 |.ret=>.ret
theorem G0{r:Out}{k:Env→aE→Out}{x:Ex}{E':Env}{H':aE}(h:uP r k= .ok x E' H'):
  ∃y E1 H1,r= .ok y E1 H1∧((y= .normal∧k E1 H1= .ok x E' H')∨(y≠.normal∧y=x∧E1=E'∧H1=H')):=by
 cases r with
 |err n=>cases h
 |ok y E1 H1=>
  refine⟨y,E1,H1,rfl,?_⟩
  cases y with
  |normal=>exact .inl ⟨rfl,h⟩
  |exit id=>cases h;exact .inr ⟨by simp,rfl,rfl,rfl⟩
  |ret=>cases h;exact .inr ⟨by simp,rfl,rfl,rfl⟩
theorem EP{r:e9}{x:Ex}{E':Env}{H':aE}(h:Av r= .ok x E' H'):x= .normal∧r= .ok E' H':=by
 cases r with
 |err n=>cases h
 |ok E H=>cases h;exact⟨rfl,rfl⟩
theorem qH.nc{call:fc}(A:kZ P call){o:bA}{E:Env}{H:aE}{b9:List FP}{b:Bool}{v:ax}{fp:FP}{H1:aE}(z:H.bj≤H.next)(h:qH call o E H b9 b v fp H1):gO H H1:=by
 cases h with
 |skip=>exact gO.refl _
 |plain _ _ he=>exact TM.ins z (fun f a=>A.nc f a H z) E o.op v _ he
 |marked _ _ he _=>exact(TM.ins (H:=H.mark) (bR _) (fun f a=>A.nc f a _ (bR _)) E o.op v _ he).yH z
theorem K4{call:fc}(z:kZ P call):∀(l:List bA)(E:Env)(H:aE)(b9:List FP)(E':Env)(H':aE),H.bj≤H.next→mz call l E H b9= .ok E' H'→gO H H'
 |[],E,H,b9,E',H',_,h=>by cases h;exact gO.refl _
 |o::r,E,H,b9,E',H',A,h=>by
  obtain⟨b,v,fp,H1,G,h2⟩:=Ms (show o.nT call E H b9 (mz call r)= .ok E' H' from h)
  have t1:=G.nc z A
  exact t1.trans (K4 z r _ _ _ _ _ (by rw[t1.bj];exact kx A t1.next) h2)
def TF(f:Env→aE→Out):Prop:=∀E H x E' H',H.bj≤H.next→f E H= .ok x E' H'→gO H H'
theorem TF.seq{f g:Env→aE→Out}(A:TF f)(G:TF g):TF fun E H=>uP (f E H) g:=by
 intro E H x E' H' z h
 obtain⟨y,E1,H1,I,h2⟩:=G0 h
 have t1:=A _ _ _ _ _ z I
 rcases h2 with⟨_,h2⟩|⟨_,_,_,e⟩
 ·exact t1.trans (G _ _ _ _ _ (by rw[t1.bj];exact kx z t1.next) h2)
 exact e▸t1
theorem TF.loop{f:Env→aE→Out}(z:TF f):∀n,TF (vB f n)
 |0=>fun _ _ _ _ _ _ h=>by cases h
 |n+1=>TF.seq z (TF.loop z n)
theorem Mv{c:aI}{i j:IC}{f g:Env→aE→Out}{E E':Env}{H H':aE}{x:Ex}(h:IT c i j f g E H= .ok x E' H'):∃t,c.ev E=some (.bool t)∧(if t then f E H else g E H)= .ok x E' H':=by
 unfold IT at h
 cases z:c.ev E with
 |none=>rw[z] at h;cases h
 |some v=>
  rw[z] at h
  cases v<;>try(cases h;done)
  rename_i t
  refine⟨t,rfl,?_⟩
  cases t<;>exact h
theorem LO{id:Nat}{i:IC}{f:Env→aE→Out}{E E':Env}{H H':aE}{x:Ex}(h:BI id i f E H= .ok x E' H'):
  ∃y,f E H= .ok y E' H'∧((y= .normal∧x= .normal)∨(y= .exit id∧x= .normal)∨(∃z,z≠id∧y= .exit z∧x= .exit z)∨(y= .ret∧x= .ret)):=by
 unfold BI at h
 cases A:f E H with
 |err n=>rw[A] at h;cases h
 |ok y E1 H1=>
  rw[A] at h
  cases y with
  |normal=>cases h;exact⟨_,rfl,.inl ⟨rfl,rfl⟩⟩
  |ret=>cases h;exact⟨_,rfl,.inr (.inr (.inr ⟨rfl,rfl⟩))⟩
  |exit z=>
   have h:aJ (Nat.beq z id) (Out.ok .normal E1 H1) (.ok (.exit z) E1 H1)= .ok x E' H':=h
   by_cases he:z=id
   ·subst he
    rw[show Nat.beq z z=true from jl z] at h
    cases h;exact⟨_,rfl,.inr (.inl ⟨rfl,rfl⟩)⟩
   have e:Nat.beq z id=false:=by
    cases G:Nat.beq z id
    ·rfl
    exact absurd (eH G) he
   rw[e] at h
   cases h;exact⟨_,rfl,.inr (.inr (.inl ⟨z,he,rfl,rfl⟩))⟩
theorem rW{call:fc}{lf:Nat}(z:kZ P call):∀c:IC,TF (c.ev call lf)
 |.skip=>fun _ _ _ _ _ _ h=>by cases h;exact gO.refl _
 |.region d ops=>fun E H x E' H' A h=>by
  cases d with
  |false=>exact DF z ops E H E' H' A (EP h).2
  |true=>exact K4 z ops E H [] E' H' A (EP h).2
 |.seq a b=>TF.seq (rW z a) (rW z b)
 |.cond c a b=>fun E H x E' H' A h=>by
  obtain⟨t,_,h⟩:=Mv (i:=a) (j:=b) (f:=a.ev call lf) (g:=b.ev call lf) h
  cases t
  ·exact rW z b _ _ _ _ _ A h
  exact rW z a _ _ _ _ _ A h
 |.block id b=>fun E H x E' H' A h=>by
  obtain⟨y,h,_⟩:=LO (i:=b) (f:=b.ev call lf) h
  exact rW z b _ _ _ _ _ A h
 |.loop b=>TF.loop (rW z b) lf
 |.exit id=>fun _ _ _ _ _ _ h=>by cases h;exact gO.refl _
 |.ret=>fun _ _ _ _ _ _ h=>by cases h;exact gO.refl _
variable{ρ:Ho}{E E':Env}{H H' H1:aE}{C:Nat→Option et}{w:World}{a:Act}{call:fc}{lf:Nat}
theorem rD.step(Y:kH ρ C H)(t1:gO H H1)(t2:gO H1 H'){K:Act→World→Prop}(z:rD P nt E' H H' C ρ w K){A:Ho}{Z:World}(G:Ext (Wr H1) H.next H1.next ρ A w Z):rD P nt E' H1 H' (gY C H H1) A Z K:=
 fun a2 w2 I J O U _=>by
  have h2:=(G.mono (HS t2)).trans O
  exact z a2 w2 I J h2 (U.weaken fun f o h hf=>LJ Y t1.next t2.next t2.jo h2.jL f o h hf) (DM Y h2.jL)
theorem rD.refl{K:Act→World→Prop}(A:AR P ρ nt E a)(G:R ρ C w)(I:kH ρ C H)(z:rD P nt E H H C ρ w K):K a w:=by
 refine z a w ρ A (Ext.refl _ _ _ _) ?_ ?_
 ·rw[qe];exact G
 rw[qe];exact I
theorem uL{x:Ex}(h:Cf.ev call lf E H= .ok x E' H'):False:=by cases h
def BK(P:Program)(nt:Nat)(c:Code)(f:Env→aE→Out):Prop:=
 ∀E H x E' H' ρ C a w Q,f E H= .ok x E' H'→AR P ρ nt E a→R ρ C w→kH ρ C H→iQ ρ H.next H'.next→H.bj≤H.next→WF H→rD P nt E' H H' C ρ w (Q (Qt x))→c.wp P Q a w
theorem BK.rounds{c:Code}{f:Env→aE→Out}(J:BK P nt c f)(K:TF f):∀n E H x E' H' ρ C a w(Q:Exit→Act→World→Prop),vB f n E H= .ok x E' H'→AR P ρ nt E a→R ρ C w→kH ρ C H→iQ ρ H.next H'.next→H.bj≤H.next→WF H→
  rD P nt E' H H' C ρ w (Q (Qt x))→Code.rounds P c Q n a w
 |0,_,_,_,_,_,_,_,_,_,_,h,_,_,_,_,_,_,_=>by cases h
 |n+1,E,H,x,E',H',ρ,C,a,w,Q,h,hA,hR,O,U,I,z,Y=>by
  rw[rounds_succ]
  obtain⟨y,E1,H1,Z,h2⟩:=G0 (k:=vB f n) h
  have t1:=K _ _ _ _ _ I Z
  have A:H1.bj≤H1.next:=by rw[t1.bj];exact kx I t1.next
  rcases h2 with⟨rfl,h2⟩|⟨hy,rfl,rfl,rfl⟩
  ·have t2:=TF.loop K n _ _ _ _ _ A h2
   exact J E H _ E1 H1 ρ C a w _ Z hA hR O (U.le t2.next) I z fun a1 w1 ρ1 J5 G J6 C8=>(BK.rounds J K n E1 H1 x E' H' ρ1 _ a1 w1 Q h2 J5 J6 C8 (U.sub G.jL t1.next) A (t1.wf z) (Y.step O t1 t2 G))
  refine J E H _ E1 H1 ρ C a w _ Z hA hR O U I z ?_
  cases y with
  |normal=>exact absurd rfl hy
  |exit id=>exact Y
  |ret=>exact Y
theorem wz(hc:kZ P call)(G:P.follows .mixedOrders=true):∀c:Code,BK P nt c ((l6 P nt c).ev call lf)
 |.skip=>fun E H x E' H' ρ C a w Q h I U J Z Y z A=>by
  cases h
  exact wp_skip (A.refl I U J)
 |.exit id=>fun E H x E' H' ρ C a w Q h I U J Z Y z A=>by
  cases h
  exact wp_exit (A.refl I U J)
 |.ret=>fun E H x E' H' ρ C a w Q h I U J Z Y z A=>by
  cases h
  exact wp_ret (A.refl I U J)
 |.seq c d=>fun E H x E' H' ρ C a w Q h I U J Z Y z A=>by
  have AI:=wz hc G c
  have hd:=wz hc G d
  obtain⟨y,E1,H1,h1,h2⟩:=G0 (k:=(l6 P nt d).ev call lf) h
  have t1:=rW hc (l6 P nt c) _ _ _ _ _ Y h1
  have ux:H1.bj≤H1.next:=by rw[t1.bj];exact kx Y t1.next
  refine wp_seq ?_
  rcases h2 with⟨rfl,h2⟩|⟨hy,rfl,rfl,rfl⟩
  ·have t2:=rW hc (l6 P nt d) _ _ _ _ _ ux h2
   exact AI E H _ E1 H1 ρ C a w _ h1 I U J (Z.le t2.next) Y z fun a1 w1 ρ1 J5 wk J6 C8=>(hd E1 H1 x E' H' ρ1 _ a1 w1 Q h2 J5 J6 C8 (Z.sub wk.jL t1.next) ux (t1.wf z) (A.step J t1 t2 wk))
  refine AI E H _ E1 H1 ρ C a w _ h1 I U J Z Y z ?_
  cases y with
  |normal=>exact absurd rfl hy
  |exit id=>exact A
  |ret=>exact A
 |.cond c d e=>fun E H x E' H' ρ C a w Q h I U J Z Y z A=>by
  unfold l6 at h
  split at h
  ·rename_i y hy
   obtain⟨t,h1,h2⟩:=Mv (i:=l6 P nt d) (j:=l6 P nt e) (f:=(l6 P nt d).ev call lf) (g:=(l6 P nt e).ev call lf) h
   have k:=I.ch hy h1
   simp only[VR] at k
   refine wp_cond (t:=t) k ?_
   cases t
   ·exact wz hc G e E H x E' H' ρ C a w Q h2 I U J Z Y z A
   exact wz hc G d E H x E' H' ρ C a w Q h2 I U J Z Y z A
  exact(uL h).elim
 |.block id c=>fun E H x E' H' ρ C a w Q h I U J Z Y z A=>by
  obtain⟨y,h1,h2⟩:=LO (i:=l6 P nt c) (f:=(l6 P nt c).ev call lf) h
  refine wp_block (wz hc G c E H y E' H' ρ C a w _ h1 I U J Z Y z ?_)
  rcases h2 with⟨rfl,rfl⟩|⟨rfl,rfl⟩|⟨id',l8,rfl,rfl⟩|⟨rfl,rfl⟩
  ·exact A
  ·intro a1 w1 ρ1 b1 b2 b3 b4
   show Exit.inBlock id Q (.exit id) a1 w1
   simp only[Exit.inBlock,if_true]
   exact A a1 w1 ρ1 b1 b2 b3 b4
  ·intro a1 w1 ρ1 b1 b2 b3 b4
   show Exit.inBlock id Q (.exit id') a1 w1
   simp only[Exit.inBlock,al l8]
   exact A a1 w1 ρ1 b1 b2 b3 b4
  exact A
 |.loop c=>fun E H x E' H' ρ C a w Q h I U J Z Y z A=>
  wp_loop_rounds lf (BK.rounds (wz hc G c) (rW hc _) lf E H x E' H' ρ C a w Q h I U J Z Y z A)
 |.region id ops draw=>fun E H x E' H' ρ C a w Q h I U J Z Y z A=>by
  unfold l6 Mu at h
  split at h
  ·exact(uL h).elim
  rename_i l hl
  obtain⟨hlen,wi⟩:=LN hl
  cases draw with
  |false=>
   simp only[qN,if_false] at h
   obtain⟨rfl,hz⟩:=EP (r:=nu call l E H) h
   refine wp_region ?_
   rw[show ops.size=l.length by rw[hlen];simp,List.range_eq_range']
   exact K0 hc (K:=Q .normal) l ops.toList 0 hlen.symm wi (fun i o h=>by simpa using h) E H E' H' ρ C a w hz I U J Z Y z A (fun _ _ h=>h)
  |true=>
   simp only[if_true] at h
   split at h
   ·rename_i J7
    simp only[fE] at J7
    obtain⟨rfl,hz⟩:=EP (r:=mz call (pO (xY ops.toList []) 0 [] l) E H []) h
    have Rh:=KN (ops:=ops) ops.toList [] (fun n=>by simp) (fun j i h=>by simp at h)
    have get:∀{i:Nat}{io:bA},(pO (xY ops.toList []) 0 [] l)[i]?=some io→∃O,l[i]?=some O∧io.dst=O.dst∧io.g=O.g∧io.op=O.op∧(io.q=none→nk io.op=true):=by
     intro i io C6
     obtain⟨O,h0,h1,h2,h3,h4⟩:=A6 (ms:=xY ops.toList []) (L:=l) l 0 (fun n=>by simp) i io C6
     rw[jR] at h0
     refine⟨O,h0,h1,h2,h3,fun hq=>?_⟩
     rw[hq] at h4
     rw[h3]
     cases hp:nk O.op
     ·rw[hp] at h4;simp at h4
     rfl
    refine Sj hc ⟨?_,?_,?_,?_,?_⟩ rfl Rh G hz I U J Z Y z A (fun _ _ h=>h)
    ·rw[KP,hlen];simp
    ·intro i o io ho C6
     obtain⟨O,h0,h1,h2,h3,_⟩:=get C6
     have k:=wi i o O (by simpa using ho) h0
     exact⟨by rw[h1];exact k.dst,fun d hd=>k.lt d (by rw[←h1];exact hd),by rw[h2];exact k.g,by rw[h3];exact k.op⟩
    ·intro j o e ho he hb
     have:=K2 ops.toList 0 J7.1 j o e (by simpa using ho) he hb
     omega
    ·intro i j x y hij hx hy
     obtain⟨x0,hx0,a1,a2,a3,_⟩:=get hx
     obtain⟨y0,J4,b1,b2,b3,_⟩:=get hy
     rcases TY J7.2 hij hx0 J4 with k|k
     ·exact .inl (Rh _ _ k)
     refine .inr ⟨fun t A=>?_,fun t A=>?_,fun t A=>?_⟩
     ·rw[a1];exact k.xy t (by unfold tz at A⊢;rw[←b2,←b3];exact A)
     ·rw[a1];exact k.dd t (by rw[←b1];exact A)
     rw[b1];exact k.yx t (by unfold tz at A⊢;rw[←a2,←a3];exact A)
    intro i x hx hq
    obtain⟨_,_,_,_,_,k⟩:=get hx
    exact k hq
   exact(uL h).elim
 |.rangeFunc ..=>fun E H x E' H' ρ C a w Q h _ _ _ _ _ _ _=>(uL h).elim
 |.scope _=>fun E H x E' H' ρ C a w Q h _ _ _ _ _ _ _=>(uL h).elim
 |.label _=>fun E H x E' H' ρ C a w Q h _ _ _ _ _ _ _=>(uL h).elim
 |.goto _=>fun E H x E' H' ρ C a w Q h _ _ _ _ _ _ _=>(uL h).elim
 |.refuse _=>fun E H x E' H' ρ C a w Q h _ _ _ _ _ _ _=>(uL h).elim
end
end Go.Ev
