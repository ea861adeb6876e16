/- Part 10 of rules for walks through the code of a program, and of such walks; what each part proves is said by its theorems. -/
import Derived.Test.YtmpoloiempjdpaaGreatR9
set_option linter.unusedVariables false
set_option linter.unusedSimpArgs false
noncomputable section
set_option maxRecDepth 100000
set_option maxHeartbeats 4000000
namespace Go.Ev
structure Fact(call:dO)(o:bk)(E:Env)(H:ax)(b:Bool)(v:aj)(fp:FP)(H1:ax):Prop where
 kX:eE H H1
 touch:∀f,((H.next≤f∧f<H1.next)∨H1.t.get f≠H.t.get f)→o.q.isSome=true∧(f∈fp.ws∨(fp.lo≤f∧f<fp.hi∧H.next≤f∧f<H1.next))
 wants:mQ E o.g b
 off:b=false→v= .undef∧H1=H
 on:b=true→∃Hm Hn,o.op.ev call E Hm= .ok v Hn∧Hm.aR≤Hm.next∧Hm.next=H.next∧Hm.t=H.t∧Hn.next=H1.next∧Hn.t=H1.t∧(∀f,Wr Hn f→Wr H1 f)∧(o.q.isSome=true→fp.rd=o.op.reads E)
section
variable{P:Program}{call:dO}
theorem qB.fact{o:bk}{E:Env}{H:ax}{bd:List FP}{b:Bool}{v:aj}{fp:FP}{H1:ax}(Y:jn P call)(Z:o.q=none→mK o.op=true)(U:H.aR≤H.next)(G:WF H)(h:qB call o E H bd b v fp H1):
  Fact call o E H b v fp H1:=by
 cases h with
 |skip I L=>exact⟨eE.refl _,fun f z=>absurd z (by rintro(z|z);omega;exact z rfl),I,fun _=>⟨rfl,rfl⟩,fun h=>by cases h⟩
 |plain I L M=>
  have e:=pure_same (Z L) v H1 M;subst e;exact⟨eE.refl _,fun f z=>absurd z (by rintro(z|z);omega;exact z rfl),I,fun h=>(by cases h),fun _=>⟨H1,H1,M,U,rfl,rfl,rfl,rfl,fun _ h=>h,fun h=>by rw[L] at h;cases h⟩⟩
 |marked I L M ha=>
  rename_i q A;have t:=TM.ins (H:=H.mark) (bf _) (fun f a=>Y.kX f a _ (bf _)) E o.op v A M;refine⟨t.CS U,fun f z=>⟨by rw[L];rfl,?_⟩,I,fun h=>(by cases h),fun _=>⟨H.mark,A,M,bf _,rfl,rfl,rfl,rfl,fun f z=>?_,fun _=>rfl⟩⟩
  ·have z:((H.next≤f∧f<A.next)∨A.t.get f≠H.t.get f):=z;show f∈A.ws∨(H.next≤f∧f<A.next∧H.next≤f∧f<A.next)
   by_cases O:f<H.next
   ·rcases z with z|z
    ·omega
    exact .inl (AG fun k=>z (t.same f O k))
   by_cases h2:f<A.next
   ·exact .inr ⟨al,h2,al,h2⟩
   rcases z with z|z
   ·omega
   have e1:H.t.get f=none:=G f al;have e2:A.t.get f=none:=t.wf G f al;exact absurd (e2.trans e1.symm) z
  rcases z with z|z
  ·by_cases O:f<H.aR
   ·exact .inl ((Fh _ _ _ _).2 (.inr ⟨z,O⟩))
   exact .inr (by show H.aR≤f;omega)
  have:H.next≤f:=by rw[t.aR] at z;exact z
  exact .inr (by show H.aR≤f;omega)
end
structure xQ(P:Program)(nt:Nat)(ops:Array Oper)(l:List bk):Prop where
 len:l.length=ops.size
 opof:∀(i:Nat)(o:Oper)(io:bk),ops[i]?=some o→l[i]?=some io→Ed P nt ops o io
 back:∀(j:Nat)(o:Oper)(e:Edge),ops[j]?=some o→e∈o.after→Region.binds .any e=true→e.on<j
 tmps:∀(i j:Nat)(x y:bk),i<j→l[i]?=some x→l[j]?=some y→jY ops i j∨Sd x y
 pure:∀(i:Nat)(x:bk),l[i]?=some x→x.q=none→mK x.op=true
section
variable{P:Program}{call:dO}{nt:Nat}{ops:Array Oper}{l:List bk}{E E':Env}{H H':ax}{Es:Nat→Env}{Hs:Nat→ax}{Rs:Nat→List FP}{Wn:Nat→Bool}{Vs:Nat→aj}{Fp:Nat→FP}
theorem Trace.wf(A:jn P call)(G:xQ P nt ops l)(T:Trace call l E H [] E' H' Es Hs Rs Wn Vs Fp)(I:H.aR≤H.next)(z:WF H):∀i,i≤l.length→(Hs i).aR≤(Hs i).next∧WF (Hs i)
 |0,_=>by rw[T.h0];exact⟨I,z⟩
 |i+1,hi=>by
  obtain⟨L,h2⟩:=Trace.wf A G T I z i al;obtain⟨o,ho⟩:∃o,l[i]?=some o:=⟨_,dm al⟩;have t:=((T.step i o ho).1.fact A (G.pure i o ho) L h2).kX;exact⟨by rw[t.aR];exact eO L t.next,t.wf h2⟩
theorem Trace.fact(A:jn P call)(G:xQ P nt ops l)(T:Trace call l E H [] E' H' Es Hs Rs Wn Vs Fp)(I:H.aR≤H.next)(z:WF H){i:Nat}{o:bk}(ho:l[i]?=some o):
  Fact call o (Es i) (Hs i) (Wn i) (Vs i) (Fp i) (Hs (i+1)):=by
 have hi:i<l.length:=(List.getElem?_eq_some_iff.1 ho).1;obtain⟨L,h2⟩:=T.wf A G I z i al;exact(T.step i o ho).1.fact A (G.pure i o ho) L h2
theorem Trace.kX(A:jn P call)(G:xQ P nt ops l)(T:Trace call l E H [] E' H' Es Hs Rs Wn Vs Fp)(I:H.aR≤H.next)(z:WF H){i:Nat}:∀k,i≤k→k≤l.length→eE (Hs i) (Hs k)
 |0,h,_=>by have:i=0:=al;subst this;exact eE.refl _
 |k+1,h,M=>by
  rcases Mh h with L|rfl
  ·obtain⟨o,ho⟩:∃o,l[k]?=some o:=⟨_,dm al⟩;exact(Trace.kX A G T I z k al al).trans (T.fact A G I z ho).kX
  exact eE.refl _
theorem Trace.env(T:Trace call l E H [] E' H' Es Hs Rs Wn Vs Fp):∀n,n≤l.length→Es n=rE l E Vs (fun _=>true) n
 |0,_=>T.e0
 |n+1,z=>by
  obtain⟨o,ho⟩:∃o,l[n]?=some o:=⟨_,dm al⟩;rw[(T.step n o ho).2.1,FW,Trace.env T n al,bg rfl];simp[pt,ho]
structure Inv(P:Program)(nt:Nat)(l:List bk)(E:Env)(H H':ax)(Hs:Nat→ax)(Vs:Nat→aj)(ρ0:Ho)(C0:Nat→Option cV)(w0:World)(S:Nat→Bool)(a:Act)(w:World)(ρ:Ho):Prop where
 ar:AR P ρ nt (rE l E Vs S l.length) a
 r:R ρ (rC C0 Hs S l.length) w
 ext:Ext (Wr H') H.next H'.next ρ0 ρ w0 w
 gy:∀f g h,ρ f g=some h→(∃g0 h0,ρ0 f g0=some h0)∨∃k,k<l.length∧S k=true∧(Hs k).next≤f∧f<(Hs (k+1)).next
theorem AR.congr{ρ:Ho}{a:Act}{E1 z:Env}(h:AR P ρ nt E1 a)(A:∀t,z.get t=E1.get t):AR P ρ nt z a:=
 ⟨h.size,h.defers,fun t v k=>h.tmp t v (by rw[←A];exact k),h.qU⟩
theorem step_any(hc:jn P call)(hr:xQ P nt ops l)(T:Trace call l E H [] E' H' Es Hs Rs Wn Vs Fp)
  (M:∀(i j:Nat)(x y:bk),i<j→l[i]?=some x→l[j]?=some y→x.q.isSome=true→y.q.isSome=true→jY ops i j∨CB (Fp j) (Fp i))
  (hm:H.aR≤H.next) (n5:WF H) {ρ0:Ho} {C0:Nat→Option cV} {w0:World} (XI:gS ρ0 C0 H) (EU:fC ρ0 H.next H'.next)
  {S:Nat→Bool} (hS:Lw ops S) {j:Nat} (hj:j<l.length) (O:S j=false) (hjr:Ug ops S j) {a:Act} {w:World} {ρ:Ho} (hI:Inv P nt l E H H' Hs Vs ρ0 C0 w0 S a w ρ)
  {Q:Exit→Act→World→Prop} {K:Act→World→Prop} (hK:∀a' w' ρ',Inv P nt l E H H' Hs Vs ρ0 C0 w0 (ins S j) a' w' ρ'→K a' w'):wpOp P ops Q j K a w:=by
 obtain⟨io,A⟩:∃io,l[j]?=some io:=⟨_,dm hj⟩;obtain⟨o,ho⟩:∃o,ops[j]?=some o:=⟨_,Be (by rw[←hr.len];exact hj)⟩;have EV:=hr.opof j o io ho A;have fj:=T.fact hc hr hm n5 A;have I:∀i k,i≤k→k≤l.length→(Hs i).next≤(Hs k).next:=fun i k h1 h2=>(T.kX hc hr hm n5 k h1 h2).next
 have h0:Hs 0=H:=T.h0;have hN:Hs l.length=H':=T.hN;have Oc:∀k,S k=true→¬jY ops j k:=fun k hk hb=>by rw[hb.closed hS hk] at O;cases O
 have ajl:∀i,S i=false→¬jY ops i j:=fun i hi hb=>by rw[hb.ready hS hjr] at hi;cases hi
 have get:∀{k},k<l.length→∃y,l[k]?=some y:=fun hk=>⟨_,dm hk⟩
 have G:∀{k y},l[k]?=some y→pt l k=y.dst:=fun Y=>by simp[pt,Y]
 have XJ:∀t,t∈u7 io→(rE l E Vs S l.length).get t=(Es j).get t:=by
  intro t ht;rw[T.env j al,KU (j:=j) t l.length al fun k h1 h2 L=>?_]
  ·refine Lx t j fun i hi L=>?_
   obtain⟨x,hx⟩:=get (k:=i) al;have L:S i=false:=by simpa using L
   rw[G hx];exact((hr.tmps i j x io hi hx A).resolve_left (ajl i L)).xy t ht
  obtain⟨y,Y⟩:=get h2;have fP:j≠k:=fun e=>by rw[←e,O] at L;cases L
  rw[G Y];exact((hr.tmps j k io y al A Y).resolve_left (Oc k L)).yx t ht
 have ajm:∀k t,j<k→S k=true→pt l j=some t→pt l k≠some t:=by
  intro k t hk L hd sL
  by_cases O8:k<l.length
  ·obtain⟨y,Y⟩:=get O8;rw[G Y] at sL;rw[G A] at hd;exact((hr.tmps j k io y hk A Y).resolve_left (Oc k L)).dd t sL hd
  simp[pt,yp (Nat.le_of_not_lt O8)] at sL
 have z:∀{k f y},l[k]?=some y→Touch Hs k f→y.q.isSome=true∧(f∈(Fp k).ws∨((Fp k).lo≤f∧f<(Fp k).hi∧(Hs k).next≤f∧f<(Hs (k+1)).next)):=
  fun Y ht=>(T.fact hc hr hm n5 Y).touch _ ht
 have Od:∀i,i≤l.length→WF (Hs i):=fun i hi=>(T.wf hc hr hm n5 i hi).2
 have ad7:∀k f,j<k→k<l.length→S k=true→Touch Hs j f→¬Touch Hs k f:=by
  intro k f hk O8 L tj tk;obtain⟨y,Y⟩:=get O8;obtain⟨qj,ej⟩:=z A tj;obtain⟨qk,ek⟩:=z Y tk;have fa:=(M j k io y hk A Y qj qk).resolve_left (Oc k L);have n1:=I (j+1) k hk al;have n2:=I j (j+1) al al;rcases ek with ek|⟨e1,e2,e3,e4⟩
  ·rcases ej with ej|⟨e1,e2,e3,e4⟩
   ·exact fa.ww f ek ej
   exact fa.out f ek ⟨e1,e2⟩
  rcases tj with tj|tj
  ·omega
  refine tj ((Od (j+1) al f al).trans (Od j al f al).symm)
 have IH:∀{i f},i<l.length→S i=false→(Hs i).next≤f→f<(Hs (i+1)).next→∀g,ρ f g=none:=by
  intro i f hi L h1 h2 g
  cases hx:ρ f g with
  |none=>rfl
  |some x=>
   rcases hI.gy f g x hx with⟨g0,x0,e⟩|⟨k,hk,XK,e1,e2⟩
   ·have n1:=I 0 i al al;have n2:=I (i+1) l.length al al;rw[h0] at n1;rw[hN] at n2;rw[EU f g0 al al] at e;cases e
   rcases Vr i k with lJ|rfl|O4
   ·have:=I (i+1) k al al;omega
   ·rw[L] at XK;cases XK
   have:=I (k+1) i al al;omega
 have hfree:fC ρ (Hs j).next (Hs (j+1)).next:=fun f g h1 h2=>IH hj O h1 h2 g
 have hreads:Wn j=true→∀f ob,(∀ls,io.op.reads (Es j)=some ls→f∈ls)→(∃g h,ρ f g=some h)→(Hs j).t.get f=some ob→rC C0 Hs S l.length f=some ob:=by
  intro hon f ob EW⟨g,x,hx⟩EX;obtain⟨_,_,_,_,_,_,_,_,_,hrd2⟩:=fj.on hon;have U:io.q.isSome=true:=by
   cases hq:io.q with
   |some q=>rfl
   |none=>have:=EW [] (pure_reads (hr.pure j io A hq));cases this
  have hrdj:(Fp j).rd=io.op.reads (Es j):=hrd2 U;have ajn:∀m,(Fp j).rd=some m→f∈m:=fun m hm=>EW m (hrdj▸hm)
  have fj2:f<(Hs j).next:=AG fun k=>by rw[Od j al f al] at EX;cases EX
  rw[FZ (j:=j) f l.length al fun k h1 h2 L tk=>?_]
  ·refine QF f (fun o' ri=>?_) j (fun i hi L ti=>?_) ob EX
   ·rw[h0] at ri;refine XI f o' ?_ ri;rcases hI.gy f g x hx with e|⟨k,hk,XK,e1,e2⟩
    ·exact e
    have n1:=I 0 k al al;rw[h0] at n1;rw[n5 f al] at ri;cases ri
   obtain⟨y,Y⟩:=get (k:=i) al;obtain⟨qi,ei⟩:=z Y ti;rcases ei with ei|⟨_,_,e3,e4⟩
   ·obtain⟨m,re,sJ⟩:=((M i j y io hi Y A qi U).resolve_left (ajl i L)).ba f ei;exact sJ (ajn m re)
   rw[IH al L e3 e4 g] at hx;cases hx
  obtain⟨y,Y⟩:=get h2;have fP:j≠k:=fun e=>by rw[←e,O] at L;cases L
  obtain⟨qk,ek⟩:=z Y tk;rcases ek with ek|⟨_,_,e3,e4⟩
  ·obtain⟨m,re,sJ⟩:=((M j k io y al A Y U qk).resolve_left (Oc k L)).ab f ek;exact sJ (ajn m re)
  have:=I j k al al;omega
 have Z:∀k,S k=true→ins S j k=true:=fun k hk=>by simp[ins,hk]
 unfold wpOp;simp only[ho];have hw:=looks_wants (E':=rE l E Vs S l.length) (fun t ht=>(XJ t ht).symm) fj.wants;rw[Qi EV hw hI.ar.tmp]
 cases hb:Wn j with
 |false=>
  rw[aZ (by simp)];obtain⟨e1,e2⟩:=fj.off hb;refine hK _ _ ρ ⟨?_,?_,hI.ext,fun f g x hx=>(hI.gy f g x hx).imp_right fun⟨k,h1,h2,h3⟩=>⟨k,h1,Z k h2,h3⟩⟩
  ·refine AR.congr (E1:=iU (rE l E Vs S l.length) io.dst .undef) (by rw[EV.dst];exact hI.ar.Oa EV.lt (by simp only[VR])) fun t=>?_
   rw[ad4 O hj ajm t,G A,e1]
  rw[show rC C0 Hs (ins S j) l.length=rC C0 Hs S l.length from funext fun f=>by rw[ad6 O hj ad7 f,e2,rH]];exact hI.r
 |true=>
  rw[bg rfl];left;obtain⟨Hm,Hn,he,k1,k2,k3,k4,k5,k6,k7⟩:=fj.on hb;rcases EV.op with zc|VN
  case inr=>rw[VN] at he;exact(abK he).elim
  have hop2:io.op.ev call (rE l E Vs S l.length) Hm= .ok (Vs j) Hn:=by
   rw[bq.ev_congr io.op (Z6 (E':=Es j) XJ)];exact he
  have XG:=Z2 (o:=o) zc hI.ar hI.r (by rw[k2,k4];exact hfree) (fun f ob EW hx EX=>by
   rw[k3] at EX;refine hreads hb f ob (fun ls O9=>EW ls ?_) hx EX
   rw[bq.reads_congr io.op (Z6 (E':=Es j) XJ)];exact O9) k1 (fun x hx=>by rw[k3];exact Od j al x (by rw[←k2];exact hx)) hc hop2
  refine Zq XG fun cv w' hp=>?_
  obtain⟨ρ',hv,VP,XH⟩:=hp;have hupd:eg (rC C0 Hs S l.length) Hm Hn=eg (rC C0 Hs S l.length) (Hs j) (Hs (j+1)):=by
   funext f;unfold eg;rw[k2,k3,k4,k5]
  refine hK _ _ ρ' ⟨?_,?_,hI.ext.transW (Ext.wide (VP.mono fun f hf=>?_) ?_ ?_),fun f g x hx=>?_⟩
  ·refine AR.congr (E1:=iU (rE l E Vs S l.length) io.dst (Vs j)) (by rw[EV.dst];exact(hI.ar.mono VP.le).Oa EV.lt hv) fun t=>?_
   rw[ad4 O hj ajm t,G A]
  ·rw[show rC C0 Hs (ins S j) l.length=eg (rC C0 Hs S l.length) Hm Hn from funext fun f=>by rw[ad6 O hj ad7 f,hupd]];exact XH
  ·have t:=T.kX hc hr hm n5 (i:=j+1) l.length al al;rw[hN] at t;exact Ra t f (k6 f hf)
  ·rw[k2,←h0];exact I 0 j al al
  ·rw[k4,←hN];exact I (j+1) l.length al al
  rcases VP.gy f g x hx with⟨g0,x0,e⟩|e
  ·exact(hI.gy f g0 x0 e).imp_right fun⟨k,h1,h2,h3⟩=>⟨k,h1,Z k h2,h3⟩
  rw[k2,k4] at e;exact .inr ⟨j,hj,by simp[ins],e⟩
end
theorem Zi{p q:Nat→Bool}:∀(l:List Nat){j:Nat},j∈l→p j=true→q j=false→(∀i,q i=true→p i=true)→(l.filter q).length+1≤(l.filter p).length
 |[],_,A,_,_,_=>by cases A
 |x::r,j,A,L,M,h=>by
  have le:(r.filter q).length≤(r.filter p).length:=by
   clear A
   induction r with
   |nil=>simp
   |cons y s I=>
    cases z:q y
    ·rw[AH (by simp[z])]
     cases G:p y
     ·rw[AH (by simp[G])];exact I
     rw[vk G];simp;omega
    rw[vk z,vk (h y z)];simp;exact I
  rcases List.mem_cons.1 A with rfl|A
  ·rw[AH (by simp[M]),vk L];simp;exact le
  have I:=Zi r A L M h
  cases z:q x
  ·rw[AH (by simp[z])]
   cases G:p x
   ·rw[AH (by simp[G])];exact I
   rw[vk G];simp;omega
  rw[vk z,vk (h x z)];simp;omega
def jm(fF:Array Bool):Nat→Bool:=fun i=>fF.getD i false
def O'(fF:Array Bool)(n:Nat):Nat:=((List.range n).filter fun i=>!jm fF i).length
section
variable{P:Program}{call:dO}{nt:Nat}{ops:Array Oper}{l:List bk}{E E':Env}{H H':ax}{Es:Nat→Env}{Hs:Nat→ax}{Rs:Nat→List FP}{Wn:Nat→Bool}{Vs:Nat→aj}{Fp:Nat→FP}
theorem listedS_set{fF:Array Bool}{j:Nat}(z:j<fF.size):jm (fF.setIfInBounds j true)=ins (jm fF) j:=by
 funext i
 unfold jm ins
 by_cases h:i=j
 ·subst h;simp[z]
 rw[getD_set_ne false (Ne.symm h)];simp[h]
theorem none_ready(A:xQ P nt ops l){fF:Array Bool}(L:fF.size=l.length)(h:Region.ready .any ops fF=[]):∀i,i<l.length→jm fF i=true:=by
 intro i
 induction i using Nat.strongRecOn with
 |_ i M=>
  intro hi
  cases z:jm fF i with
  |true=>rfl
  |false=>
   obtain⟨o,ho⟩:∃o,ops[i]?=some o:=⟨_,Be (by rw[←A.len];exact hi)⟩;have:i∈Region.ready .any ops fF:=by
    rw[mem_ready];refine⟨?_,o,ho,fun e G I=>M e.on (A.back i o e ho G I) (Nat.lt_trans (A.back i o e ho G I) hi)⟩;unfold jm at z;simp only[yl] at z⊢;rw[Be (by rw[L];exact hi)] at z⊢;simpa using z
   rw[h] at this;cases this
theorem any_ok(hc:jn P call)(Z:xQ P nt ops l)(T:Trace call l E H [] E' H' Es Hs Rs Wn Vs Fp)
  (G:∀(i j:Nat)(x y:bk),i<j→l[i]?=some x→l[j]?=some y→x.q.isSome=true→y.q.isSome=true→jY ops i j∨CB (Fp j) (Fp i))
  (hm:H.aR≤H.next) (n5:WF H) {ρ0:Ho} {C0:Nat→Option cV} {w0:World} (XI:gS ρ0 C0 H) (EU:fC ρ0 H.next H'.next) {Q:Exit→Act→World→Prop}
  (I:∀S a w ρ,(∀i,i<l.length→S i=true)→Inv P nt l E H H' Hs Vs ρ0 C0 w0 S a w ρ→Q .normal a w):
  ∀(fuel:Nat)(fF:Array Bool)(a:Act)(w:World)(ρ:Ho),fF.size=l.length→Lw ops (jm fF)→Inv P nt l E H H' Hs Vs ρ0 C0 w0 (jm fF) a w ρ→O' fF l.length≤fuel→
   wpAny P .any ops Q fuel fF a w:=by
 intro fuel
 induction fuel with
 |zero=>
  intro fF a w ρ M hC hI hu;have all:∀i,i<l.length→jm fF i=true:=by
   intro i hi
   cases hl:jm fF i with
   |true=>rfl
   |false=>
    have:i∈(List.range l.length).filter fun i=>!jm fF i:=List.mem_filter.2 ⟨List.mem_range.2 hi,by simp[hl]⟩
    rw[sb (Nat.le_zero.1 hu)] at this;cases this
  refine⟨?_,I _ a w ρ all hI⟩
  cases L:Region.ready .any ops fF with
  |nil=>rfl
  |cons j r=>
   have hj:j∈Region.ready .any ops fF:=by rw[L];exact jw ..
   obtain⟨h0,o,ho,_⟩:=mem_ready.1 hj;have z:j<l.length:=by rw[Z.len];exact(Array.getElem?_eq_some_iff.1 ho).1
   have:=all j z;unfold jm at this;simp only[yl] at h0 this;rw[Be (by rw[M];exact z)] at h0 this;simp at h0 this;rw[h0] at this;cases this
 |succ fuel ih=>
  intro fF a w ρ M hC hI hu;refine⟨fun h=>I _ a w ρ (none_ready Z M h) hI,fun j hj=>?_⟩;obtain⟨h0,o,ho,L⟩:=mem_ready.1 hj;have z:j<l.length:=by rw[Z.len];exact(Array.getElem?_eq_some_iff.1 ho).1
  have O:jm fF j=false:=by
   unfold jm;simp only[yl] at h0⊢;rw[Be (by rw[M];exact z)] at h0⊢;simpa using h0
  have U:Ug ops (jm fF) j:=fun o' e A he hb=>by
   rw[ho] at A;cases A;exact L e he hb
  have Bj:=listedS_set (fF:=fF) (j:=j) (by rw[M];exact z);refine step_any hc Z T G hm n5 XI EU hC z O U hI fun a' w' ρ' hI'=>?_
  refine ih _ a' w' ρ' (by simp[M]) ?_ (by rw[Bj];exact hI') ?_
  ·rw[Bj];intro k o' e A he hb hk;unfold ins at hk⊢
   by_cases Y:k=j
   ·subst Y;simp[U o' e A he hb]
   simp[Y] at hk;simp[hC k o' e A he hb hk]
  have:=Zi (p:=fun i=>!jm fF i) (q:=fun i=>!jm (fF.setIfInBounds j true) i) (List.range l.length) (List.mem_range.2 z) (by simp[O]) (by rw[Bj];simp[ins]) (by
   intro i hi;rw[Bj] at hi;simp[ins] at hi;simp[hi])
  have h2:O' (fF.setIfInBounds j true) l.length+1≤O' fF l.length:=this;omega
theorem Inv.fin(hc:jn P call)(hr:xQ P nt ops l)(T:Trace call l E H [] E' H' Es Hs Rs Wn Vs Fp)(hm:H.aR≤H.next)(L:WF H){ρ0 ρ:Ho}{C0:Nat→Option cV}{w0 w:World}(U:gS ρ0 C0 H)(EU:fC ρ0 H.next H'.next)
  {S:Nat→Bool} {a:Act} (G:∀i,i<l.length→S i=true) (hI:Inv P nt l E H H' Hs Vs ρ0 C0 w0 S a w ρ):AR P ρ nt E' a∧R ρ (eg C0 H H') w:=by
 have h0:Hs 0=H:=T.h0;have hN:Hs l.length=H':=T.hN;have z:∀i k,i≤k→k≤l.length→(Hs i).next≤(Hs k).next:=fun i k h1 h2=>(T.kX hc hr hm L k h1 h2).next
 refine⟨AR.congr hI.ar fun t=>?_,hI.r.weaken fun f o M hd=>?_⟩
 ·rw[←T.eN,T.env l.length (bf _)];exact Lx t _ fun i hi Z=>absurd (G i hi).symm Z
 obtain⟨g,x,hx⟩:=hd;have I:=hI.gy f g x hx;have known:∀O,H'.t.get f=some O→rC C0 Hs S l.length f=some O:=by
  rw[←hN];refine QF f (fun O A=>?_) _ (fun i hi Z=>by rw[G i hi] at Z;cases Z);rw[h0] at A;rcases I with e|⟨k,hk,_,e1,e2⟩
  ·exact U f O e A
  have n1:=z 0 k al al;rw[h0] at n1;rw[L f al] at A;cases A
 unfold eg at M
 split at M
 ·exact known o M
 rename_i hn
 split at M
 ·rename_i he;have hd0:∃g0 x0,ρ0 f g0=some x0:=by
   rcases I with e|⟨k,hk,_,e1,e2⟩
   ·exact e
   have n1:=z 0 k al al;have n2:=z (k+1) l.length al al;rw[h0] at n1;rw[hN] at n2;omega
  cases hg:H.t.get f with
  |some O=>
   have:=U f O hd0 hg;rw[M] at this;cases this;exact known o (he.trans hg)
  |none=>
   have nn:∀i,i≤l.length→(Hs i).t.get f=none:=by
    intro i hi
    cases wE:(Hs i).t.get f with
    |none=>rfl
    |some o2=>
     have:=(T.kX hc hr hm L (i:=i) l.length hi (bf _)).gJ f (by rw[wE];simp);rw[hN,he,hg] at this;exact absurd rfl this
   rw[FZ (j:=0) f l.length (hZ _) fun k _ hk _ Y=>?_]
   ·exact M
   rcases Y with Y|Y
   ·have n1:=z 0 k al al;have n2:=z (k+1) l.length al al;rw[h0] at n1;rw[hN] at n2;omega
   rw[nn k al,nn (k+1) al] at Y;exact Y rfl
 exact known o M
theorem abL{ms:List Nat}{z:List bk}(G:l=pr ms 0 [] z)(T:Trace call l E H [] E' H' Es Hs Rs Wn Vs Fp):∀n,n≤l.length→Rs n=(seenAt z n).map Fp
 |0,_=>T.r0
 |n+1,M=>by
  obtain⟨o,ho⟩:∃o,l[n]?=some o:=⟨_,dm al⟩;rw[(T.step n o ho).2.2,abL G T n al];obtain⟨A,h0,_,_,_,I⟩:=Fy (ms:=ms) (L:=z) z 0 (fun n=>by simp) n o (by rw[←ho,G];rfl);rw[fh] at h0 I;unfold Fx;simp only[seenAt,h0];rw[I]
  cases mK A.op<;>rfl
theorem pairs_ok{ms:List Nat}{G:List bk}(Y:l=pr ms 0 [] G)(Z:∀j i,(ms.getD j 0).testBit i=true→jY ops i j)(T:Trace call l E H [] E' H' Es Hs Rs Wn Vs Fp)
  (i j:Nat) (x y:bk) (XL:i<j) (hx:l[i]?=some x) (hy:l[j]?=some y) (qx:x.q.isSome=true) (I:y.q.isSome=true):jY ops i j∨CB (Fp j) (Fp i):=by
 have JG:j<l.length:=(List.getElem?_eq_some_iff.1 hy).1;obtain⟨x0,M,_,_,_,A⟩:=Fy (ms:=ms) (L:=G) G 0 (fun n=>by simp) i x (by rw[←hx,Y];rfl);obtain⟨y0,XM,_,_,_,z⟩:=Fy (ms:=ms) (L:=G) G 0 (fun n=>by simp) j y (by rw[←hy,Y];rfl);rw[fh] at M XM A z;have px:mK x0.op=false:=by
  cases h:mK x0.op
  ·rfl
  rw[h] at A;rw[A] at qx;cases qx
 have py:mK y0.op=false:=by
  cases h:mK y0.op
  ·rfl
  rw[h] at z;rw[z] at I;cases I
 rw[py] at z
 cases hb:(ms.getD j 0).testBit i
 case true=>exact .inl (Z _ _ hb)
 right;obtain⟨n,hn⟩:=Vv (Zz M px j XL);have hp:=Y4 hb (seenAt G j) 0 n hn;rw[fh] at hp;have hr:=abL Y T j al;generalize hWj:Wn j=wj at*;generalize hVj:Vs j=vj at*;have st:=(T.step j y hy).1;have key:∀{b:Bool}{v:aj}{fp:FP}{H1:ax},qB call y (Es j) (Hs j) (Rs j) b v fp H1→CB fp (Fp i):=by
  intro b v fp H1 st
  cases st with
  |skip hw O=>
   rw[O I];exact⟨fun _ h=>(by cases h),fun _ _=>⟨[],rfl,by simp⟩,fun _ h=>(by cases h),fun _ h=>(by cases h)⟩
  |plain hw O _=>rw[O] at I;cases I
  |marked hw O he ha=>
   rename_i q H2;rw[O] at z;simp at z;subst z;obtain⟨b,U,uk⟩:=Zg ha n hp;rw[hr,yq,hn] at U
   cases U
   exact uk
 exact key st
theorem regionQ_sound(Y:jn P call)(L:xQ P nt ops l){ms:List Nat}{l0:List bk}(hl:l=pr ms 0 [] l0)(Z:∀j i,(ms.getD j 0).testBit i=true→jY ops i j)(M:P.follows .mixedOrders=true)
  {ρ:Ho} {C:Nat→Option cV} {w:World} {a:Act} {id:Nat} {K:Act→World→Prop} {Q:Exit→Act→World→Prop} (h:iM call l E H []= .ok E' H') (hA:AR P ρ nt E a) (O:R ρ C w) (hK:gS ρ C H) (hF:fC ρ H.next H'.next) (hm:H.aR≤H.next) (G:WF H)
  (I:sj P nt E' H H' C ρ w K) (hQ:∀a w,K a w→Q .normal a w):(Code.region id ops true).wp P Q a w:=by
 obtain⟨Es,Hs,Rs,Wn,Vs,Fp,T⟩:=aaN l E H [] E' H' h;have hnn:H.next≤H'.next:=by
  have:=(T.kX Y L hm G (i:=0) l.length (hZ _) (bf _)).next;rw[T.h0,T.hN] at this;exact this
 refine wp_region_any M (any_ok Y L T (pairs_ok hl Z T) hm G (ρ0:=ρ) (C0:=C) (w0:={w with drawn:=w.drawn+1}) hK hF (fun S a' w' ρ' U hI=>?_) ops.size _ a _ ρ (by simp[L.len]) ?_ ⟨?_,?_,?_,fun f g h e=>.inl ⟨g,h,e⟩⟩ ?_)
 ·obtain⟨k1,k2⟩:=hI.fin Y L T hm G hK hF U;have z:=hI.ext;exact hQ _ _ (I a' w' ρ' k1 ⟨z.le,z.gy,z.bE,z.frame,z.size,z.nn,z.os,z.tape,z.output⟩ k2 (Kn hK z.gy))
 ·intro j o e ho z hb hj;exact absurd hj (by unfold jm;by_cases A:j<ops.size<;>simp[yl,T0,A])
 ·refine AR.congr hA fun t=>?_
  rw[KU (j:=0) t l.length (hZ _) fun k _ _ hk=>?_]
  ·rfl
  exact absurd hk (by unfold jm;by_cases A:k<ops.size<;>simp[yl,T0,A])
 ·have e:rC C Hs (jm (Array.replicate ops.size false)) l.length=C:=funext fun f=>by
   rw[FZ (j:=0) f l.length (hZ _) fun k _ _ hk=>?_]
   ·rfl
   exact absurd hk (by unfold jm;by_cases A:k<ops.size<;>simp[yl,T0,A])
  rw[e];exact⟨fun f o ho g x hx=>(O.obj f o ho g x hx).gJ (Ho.le_refl _) rfl,O.oQ,O.gY,O.uniq,O.bP⟩
 ·exact(Ext.refl _ H.next ρ _).wide (bf _) hnn
 unfold O';refine eO (agv _ _) ?_;simp[L.len]
end
end Go.Ev
