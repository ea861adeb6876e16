/- Part 16 of rules for walks through the code of a program, and of such walks; what each part proves is said by its theorems. -/
import Derived.Test.YtdgcofocbhbjcaaGreatS15
set_option linter.unusedVariables false
set_option linter.unusedSimpArgs false
noncomputable section
set_option maxRecDepth 100000
set_option maxHeartbeats 4000000
namespace Go.Ev
open Go
abbrev dO:=List (Nat×BS)
def oJ(fs:dO)(f:Nat):Prop:=∃s,(f,s)∈fs
def XF(X0:Nat→Prop)(fs:dO)(f:Nat):Prop:=X0 f∨oJ fs f
def BS.K6:BS→Prop
 |.one _ _ row=>lB row
 |.arr _ _ _ _ _=>True
 |.acc _ _ _ _=>True
 |.ct _ _=>False
theorem df.Zf{H:aC}{X:Nat→Prop}{β β':Nat→Nat}{f:Nat}:∀{s:BS},s.K6→df H X β f s→df H X β' f s
 |.one _ _ _,p,⟨l,lo,cs,z,A,F,G⟩=>⟨l,lo,cs,z,A,F,bt.nb p G⟩
 |.arr _ _ _ _ _,_,h=>h
 |.acc _ _ _ _,_,h=>h
structure fN(H0:Nat→Nat)(X0 P:Nat→Prop)(Hs:aC)(VE:bO)(B:bq)(fs:dO)(E:Env)(H:aC)(β:Nat→Nat):Prop where
 bb:H.bb=Hs.bb
 next:Hs.next≤H.next
 mn:Hs.bb≤Hs.next
 ws:∀f,f∈H.ws→f∈Hs.ws∨(f<Hs.bb∧P f)
 jm:∀f,f<Hs.next→¬P f→H.t.get f=Hs.t.get f
 rel:Rel H0 (XF X0 fs) VE B E H β
 out:∀f,oJ fs f→¬X0 f
 nodup:(fs.map (·.1)).Nodup
 own:∀f s,(f,s)∈fs→s.K6∧s.born∧df H (XB (XF X0 fs) B β) (fun _=>0) f s
 new:∀f,(oJ fs f∨∃b s,aZ B b=some s∧s.born∧β b=f)→P f∨Hs.next≤f
def VD(T:bC)(c:IC)(VE:bO)(B:bq)(fs:dO)(Q:Ex→bO→bq→dO→Prop):Prop:=
 ∀H0 X0 P Hs E H β,fN H0 X0 P Hs VE B fs E H β→jB T c E H fun x E' H'=>∃bY B' cX β',fN H0 X0 P Hs bY B' cX E' H' β'∧Q x bY B' cX
def qT(T:bC)(ops:List bK)(VE:bO)(B:bq)(fs:dO)(Q:bO→bq→dO→Prop):Prop:=
 ∀H0 X0 P Hs E H β,fN H0 X0 P Hs VE B fs E H β→mZ T ops E H fun E' H'=>∃bY B' cX β',fN H0 X0 P Hs bY B' cX E' H' β'∧Q bY B' cX
def lP(VE:bO)(B:bq)(fs:dO)(R:bO→bq→dO→Prop):Prop:=
 ∀H0 X0 P Hs E H β,fN H0 X0 P Hs VE B fs E H β→∃bY B' cX β',fN H0 X0 P Hs bY B' cX E H β'∧R bY B' cX
section
variable{T:bC}{H0:Nat→Nat}{X0 P:Nat→Prop}{Hs:aC}{VE:bO}{B:bq}{fs:dO}{E:Env}{H:aC}{β:Nat→Nat}
theorem fN.wy(p:fN H0 X0 P Hs VE B fs E H β){W:Nat→Prop}{bY:bO}{B':bq}{E':Env}{H':aC}{β':Nat→Nat}(A:gF B β H W B' β' H')(hr:Rel H0 (XF X0 fs) bY B' E' H' β'):fN H0 X0 P Hs bY B' fs E' H' β':=by
 have M:∀f,f<Hs.next→¬P f→∀b s,aZ B b=some s→s.born→β b≠f:=fun f z L b s G h2 F=>(p.new f (.inr ⟨b,s,G,h2,F⟩)).elim L fun k=>by omega
 have hmm:=p.bb;have hmn:=p.mn;have hnx:=p.next
 refine⟨A.bb.trans p.bb,fY p.next A.next,p.mn,fun f z=>?_,fun f z L=>?_,hr,p.out,p.nodup,fun f s z=>?_,fun f z=>?_⟩
 ·rcases A.ws f z with h|⟨G,b,s,_,h2,F,h4⟩
  ·exact p.ws f h
  rcases p.new f (.inr ⟨b,s,h2,F,h4⟩) with k|k
  ·exact .inr ⟨ax,k⟩
  omega
 ·rw[A.jm f ax (M f z L),p.jm f z L]
 ·obtain⟨G,h2,F⟩:=p.own f s z
  have hx:XF X0 fs f:=.inr ⟨s,z⟩
  have O:=p.rel.x0 f hx
  have hb:∀b t,aZ B b=some t→t.born→β b≠f:=fun b t I J K=>(p.rel.new b t I J).1 (K▸hx)
  have hl:ff H (XB (XF X0 fs) B β) H' (XB (XF X0 fs) B' β'):=⟨A.next,fun g hg U=>⟨fun k=>by
   rcases k with k|⟨b,t,I,J,K⟩
   ·exact U (.inl k)
   rcases A.since b t I J with⟨u,Y,Z,m3⟩|m
   ·exact U (.inr ⟨b,u,Y,Z,by rw[←m3];exact K⟩)
   omega,A.jm g hg fun b t I J K=>U (.inr ⟨b,t,I,J,K⟩)⟩⟩
  exact⟨G,h2,F.lift hl (A.jm f O hb)⟩
 rcases z with z|⟨b,s,G,h2,F⟩
 ·exact p.new f (.inl z)
 rcases A.since b s G h2 with⟨t,Y,Z,m3⟩|m
 ·exact p.new f (.inr ⟨b,t,Y,Z,by rw[←m3];exact F⟩)
 exact .inr ax
theorem fN.of(p:fN H0 X0 P Hs VE B fs E H β){bY:bO}{E':Env}(z:Rel H0 (XF X0 fs) bY B E' H β):fN H0 X0 P Hs bY B fs E' H β:={p with rel:=z}
theorem pf{c:IC}{Q:Ex→bO→bq→dO→Prop}(h:VC T c VE B fun x bY B'=>Q x bY B' fs):VD T c VE B fs Q:=fun H0 X0 P Hs E H β p=>by
 refine(h H0 (XF X0 fs) E H β p.rel).mono fun x E' H' z=>?_
 obtain⟨bY,B',β',A,F,G⟩:=z
 exact⟨bY,B',fs,β',p.wy A F,G⟩
theorem vod_vo{ops:List bK}{Q:bO→bq→dO→Prop}(h:VO T ops VE B fun bY B'=>Q bY B' fs):qT T ops VE B fs Q:=fun H0 X0 P Hs E H β p=>by
 refine(h H0 (XF X0 fs) E H β p.rel).mono fun E' H' z=>?_
 obtain⟨bY,B',β',A,F,G⟩:=z
 exact⟨bY,B',fs,β',p.wy A F,G⟩
theorem rq{c:IC}{Q:Ex→bO→bq→dO→Prop}(h:lP VE B fs fun bY B' cX=>VD T c bY B' cX Q):VD T c VE B fs Q:=fun H0 X0 P Hs E H β z=>by
 obtain⟨bY,B',cX,β',p,h'⟩:=h H0 X0 P Hs E H β z
 exact h' H0 X0 P Hs E H β' p
theorem AM{c:IC}{R Q:Ex→bO→bq→dO→Prop}(h:VD T c VE B fs R)(k:∀x VE B fs,R x VE B fs→lP VE B fs (Q x)):VD T c VE B fs Q:=fun H0 X0 P Hs E H β z=>by
 refine(h H0 X0 P Hs E H β z).mono fun x E' H' A=>?_
 obtain⟨bY,B',cX,β',p,F⟩:=A
 exact k x bY B' cX F H0 X0 P Hs E' H' β' p
theorem kO{R:bO→bq→dO→Prop}(h:R VE B fs):lP VE B fs R:=fun _ _ _ _ _ _ β p=>⟨VE,B,fs,β,p,h⟩
theorem re{R:bO→bq→dO→Prop}(bY:bO)(B':bq)(z:aT bY VE)(h2:aT B' B)(h:lP bY B' fs R):lP VE B fs R:=fun H0 X0 P Hs E H β p=>by
 refine h H0 X0 P Hs E H β (p.wy (W:=fun _=>False) ⟨aa,bM _,fun _ h=>.inl h,fun b s A F=>.inl ⟨s,h2.get A,F,aa⟩,fun _ _ _=>aa⟩ ?_)
 exact(p.rel.Bp fun _ _ k=>h2.get k).less fun _ _ k=>z.get k
theorem xP{a b:IC}{R:Ex→bO→bq→dO→Prop}(h:VD T a VE B fs fun x bY B' cX=>match x with|.normal=>VD T b bY B' cX R|x=>R x bY B' cX):VD T (.seq a b) VE B fs R:=fun H0 X0 P Hs E H β A=>by
 refine Vv ((h H0 X0 P Hs E H β A).mono fun x E' H' F=>?_)
 obtain⟨bY,B',cX,β',p,z⟩:=F
 cases x with
 |normal=>exact⟨fun _=>z H0 X0 P Hs E' H' β' p,fun e=>absurd rfl e⟩
 |exit id=>exact⟨fun e=>(by cases e),fun _=>⟨bY,B',cX,β',p,z⟩⟩
 |ret=>exact⟨fun e=>(by cases e),fun _=>⟨bY,B',cX,β',p,z⟩⟩
theorem Va{id:Nat}{c:IC}{R:Ex→bO→bq→dO→Prop}(h:VD T c VE B fs fun x=>R (GJ id x)):VD T (.block id c) VE B fs R:=fun H0 X0 P Hs E H β p=>Uj (h H0 X0 P Hs E H β p)
theorem LL{ops:List bK}{R:Ex→bO→bq→dO→Prop}(h:qT T ops VE B fs fun bY B' cX=>R .normal bY B' cX):VD T (.region false ops) VE B fs R:=fun H0 X0 P Hs E H β p=>TL (h H0 X0 P Hs E H β p)
theorem VX{c:IC}{R:Ex→bO→bq→dO→Prop}(I:Nat→bO→bq→dO→Prop)(F:∀k VE B fs,I k VE B fs→VD T c VE B fs fun x bY B' cX=>match x with|.normal=>∃j,j<k∧I j bY B' cX|x=>R x bY B' cX){k:Nat}(h0:I k VE B fs):VD T (.loop c) VE B fs R:=fun H0 X0 P Hs E H β A=>by
 refine UT (fun k E H=>∃VE B fs β,fN H0 X0 P Hs VE B fs E H β∧I k VE B fs) (fun k E H G=>?_) k E H ⟨VE,B,fs,β,A,h0⟩
 obtain⟨VE,B,fs,β,A,hi⟩:=G
 refine(F k VE B fs hi H0 X0 P Hs E H β A).mono fun x E' H' z=>?_
 obtain⟨bY,B',cX,β',p,z⟩:=z
 cases x with
 |normal=>obtain⟨j,J,h2⟩:=z;exact⟨fun _=>⟨j,J,bY,B',cX,β',p,h2⟩,fun e=>absurd rfl e⟩
 |exit id=>exact⟨fun e=>(by cases e),fun _=>⟨bY,B',cX,β',p,z⟩⟩
 |ret=>exact⟨fun e=>(by cases e),fun _=>⟨bY,B',cX,β',p,z⟩⟩
theorem vod_op{d:Key}{A:Option (List Nat)}{op:bF}{r:List bK}{W:List Nat}{Q:bO→bq→dO→Prop}(h:VI T op VE B W fun v B'=>qT T r ((d.n,v)::VE) B' fs Q):qT T (⟨some d,none,A,op⟩::r) VE B fs Q:=fun H0 X0 P Hs E H β z=>by
 refine LW ((h H0 (XF X0 fs) E H β z.rel).mono fun a H' F=>?_)
 obtain⟨v,B',β',G,p,I,J⟩:=F
 exact J H0 X0 P Hs _ H' β' (z.wy G (p.set I))
theorem PA{X0 p:Nat→Prop}{B B':bq}{β β':Nat→Nat}(h:∀f,XB X0 B β f↔XB p B' β' f):XB X0 B β=XB p B' β':=funext fun f=>propext (h f)
theorem LM{f g:Nat}{s:BS}:oJ (fs++[(g,s)]) f↔oJ fs f∨f=g:=by
 constructor
 ·rintro⟨t,h⟩
  rcases List.mem_append.1 h with h|h
  ·exact .inl ⟨t,h⟩
  rcases List.mem_singleton.1 h with e;cases e;exact .inr rfl
 rintro(⟨t,h⟩|rfl)
 ·exact⟨t,Qu _ h⟩
 exact⟨s,Kd _ (List.mem_singleton.2 aa)⟩
theorem C4{f g:Nat}{s:BS}:oJ ((g,s)::fs) f↔oJ fs f∨f=g:=by
 constructor
 ·rintro⟨t,h⟩
  rcases List.mem_cons.1 h with h|h
  ·cases h;exact .inr rfl
  exact .inl ⟨t,h⟩
 rintro(⟨t,h⟩|rfl)
 ·exact⟨t,qw _ h⟩
 exact⟨s,jU ..⟩
theorem fN.give(z:fN H0 X0 P Hs VE B fs E H β){b:Nat}{s t:BS}(L:aZ B b=some s)(O:s.born)(ht:t.born)(hd:t.K6)(Y:∀X,df H X β (β b) s→df H X β (β b) t):fN H0 X0 P Hs VE (dT B b) (fs++[(β b,t)]) E H β:=by
 have p:∀c u,aZ (dT B b) c=some u↔b≠c∧aZ B c=some u:=fun c u=>by
  rw[pW]
  by_cases e:b=c
  ·rw[bE e];exact⟨fun h=>by(cases h),fun h=>absurd e h.1⟩
  rw[bw e];exact⟨fun h=>⟨e,h⟩,fun h=>h.2⟩
 have A:∀f,XF X0 (fs++[(β b,t)]) f↔XF X0 fs f∨f=β b:=fun f=>by
  unfold XF;rw[LM,or_assoc]
 have Z:XB (XF X0 (fs++[(β b,t)])) (dT B b) β=XB (XF X0 fs) B β:=PA fun f=>by
  constructor
  ·rintro(k|⟨c,u,I,G,K⟩)
   ·rcases(A f).1 k with k|rfl
    ·exact .inl k
    exact .inr ⟨b,s,L,O,aa⟩
   exact .inr ⟨c,u,((p c u).1 I).2,G,K⟩
  rintro(k|⟨c,u,I,G,K⟩)
  ·exact .inl ((A f).2 (.inl k))
  by_cases e:b=c
  ·subst e;exact .inl ((A f).2 (.inr K.symm))
  exact .inr ⟨c,u,(p c u).2 ⟨e,I⟩,G,K⟩
 have J:=z.rel.new b s L O
 refine⟨z.bb,z.next,z.mn,z.ws,z.jm,⟨z.rel.kE,z.rel.bb,fun f F=>?_,fun c u M U=>?_,fun c e u v M he U hv=>z.rel.inj c e u v ((p c u).1 M).2 ((p e v).1 he).2 U hv,fun k v hk=>?_,fun c u M=>?_⟩,fun f F=>?_,?_,fun f u F=>?_,fun f F=>?_⟩
 ·rcases(A f).1 F with k|rfl
  ·exact z.rel.x0 f k
  exact J.2
 ·obtain⟨I,G⟩:=(p c u).1 M
  have:=z.rel.new c u G U
  refine⟨fun k=>?_,this.2⟩
  rcases(A _).1 k with k|k
  ·exact this.1 k
  exact I (z.rel.inj c b u s G L U O k).symm
 ·rw[Z];exact z.rel.env k v hk
 ·rw[Z];exact z.rel.box c u ((p c u).1 M).2
 ·rcases LM.1 F with k|rfl
  ·exact z.out f k
  exact fun k=>J.1 (.inl k)
 ·rw[Ft,List.map_singleton,List.nodup_append]
  refine⟨z.nodup,by simp,fun x hx y hy e=>?_⟩
  rw[Qv] at hy
  obtain⟨⟨g,u⟩,h1,rfl⟩:=List.mem_map.1 hx
  exact J.1 (.inr ⟨u,(show g=β b from e.trans hy)▸h1⟩)
 ·rw[Z]
  rcases List.mem_append.1 F with h|h
  ·exact z.own f u h
  rcases List.mem_singleton.1 h with e
  cases e
  exact⟨hd,ht,(Y _ (z.rel.box b s L)).Zf hd⟩
 rcases F with F|⟨c,u,I,G,K⟩
 ·rcases LM.1 F with k|rfl
  ·exact z.new f (.inl k)
  exact z.new _ (.inr ⟨b,s,L,O,aa⟩)
 exact z.new f (.inr ⟨c,u,((p c u).1 I).2,G,K⟩)
theorem fN.take{f:Nat}{s:BS}(z:fN H0 X0 P Hs VE B ((f,s)::fs) E H β)(b:Nat)(hE:mz b VE=true)(hB:lC b B=true):∃β',fN H0 X0 P Hs VE ((b,.ct f s)::B) fs E H β':=by
 let β':Nat→Nat:=fun c=>if c=b then f else β c
 have F:β' b=f:=bE rfl
 have p:∀c,c≠b→β' c=β c:=fun c A=>bw A
 have J:∀c t,aZ ((b,.ct f s)::B) c=some t→(c=b∧t= .ct f s)∨(c≠b∧aZ B c=some t∧t.no b=true):=fun c t A=>by
  rw[di] at A
  by_cases e:b=c
  ·rw[bE e] at A;cases A;exact .inl ⟨e.symm,rfl⟩
  rw[bw e] at A
  exact .inr ⟨fun k=>e k.symm,A,(HX hB A).2⟩
 obtain⟨hd,ho,hbx⟩:=z.own f s (jU ..)
 have G:∀g,XF X0 ((f,s)::fs) g↔XF X0 fs g∨g=f:=fun g=>by
  unfold XF;rw[C4,or_assoc]
 have hX:XB (XF X0 fs) ((b,.ct f s)::B) β'=XB (XF X0 ((f,s)::fs)) B β:=PA fun g=>by
  constructor
  ·rintro(k|⟨c,u,M,O,U⟩)
   ·exact .inl ((G g).2 (.inl k))
   rcases J c u M with⟨rfl,rfl⟩|⟨K,L,_⟩
   ·exact .inl ((G g).2 (.inr (by rw[←U,F])))
   exact .inr ⟨c,u,L,O,by rw[←U,p c K]⟩
  rintro(k|⟨c,u,M,O,U⟩)
  ·rcases(G g).1 k with k|rfl
   ·exact .inl k
   exact .inr ⟨b,.ct g s,by rw[di,bE rfl],ho,F⟩
  have Z:=(HX hB M).1
  exact .inr ⟨c,u,by rw[di,bw fun e=>Z e.symm];exact M,O,by rw[p c Z];exact U⟩
 have Sd:f<H.next:=z.rel.x0 f (.inr ⟨s,jU ..⟩)
 have hnd:f∉fs.map (·.1)∧(fs.map (·.1)).Nodup:=by
  have:=z.nodup
  rw[lg,List.nodup_cons] at this
  exact this
 have hnf:¬oJ fs f:=fun⟨u,h⟩=>hnd.1 (List.mem_map.2 ⟨(f,u),h,rfl⟩)
 refine⟨β',z.bb,z.next,z.mn,z.ws,z.jm,⟨fun c A=>?_,z.rel.bb,fun g J=>z.rel.x0 g ((G g).2 (.inl J)),fun c u A hu=>?_,fun c e u v A he hu hv I=>?_,fun k v hk=>?_,fun c u A=>?_⟩,fun g J=>z.out g (C4.2 (.inl J)),hnd.2,fun g u hgu=>?_,fun g Y=>?_⟩
 ·exact(p c fun e=>by rw[e,LY hB] at A;cases A).trans (z.rel.kE c A)
 ·rcases J c u A with⟨rfl,rfl⟩|⟨K,L,_⟩
  ·rw[F]
   exact⟨fun k=>k.elim (z.out f (C4.2 (.inr aa))) hnf,Sd⟩
  rw[p c K]
  have:=z.rel.new c u L hu
  exact⟨fun k=>this.1 ((G _).2 (.inl k)),this.2⟩
 ·rcases J c u A with⟨rfl,rfl⟩|⟨K,L,_⟩<;>rcases J e v he with⟨rfl,rfl⟩|⟨n1,n2,_⟩
  ·rfl
  ·rw[F,p e n1] at I
   exact absurd ((G _).2 (.inr I.symm)) (z.rel.new e v n2 hv).1
  ·rw[F,p c K] at I
   exact absurd ((G _).2 (.inr I)) (z.rel.new c u L hu).1
  rw[p c K,p e n1] at I
  exact z.rel.inj c e u v L n2 hu hv I
 ·rw[hX]
  obtain⟨a,M,O⟩:=z.rel.env k v hk
  exact⟨a,M,aK.no (HW hE hk) O⟩
 ·rw[hX]
  rcases J c u A with⟨rfl,rfl⟩|⟨K,L,m3⟩
  ·rw[F]
   exact⟨fun _=>aa,hbx.Zf hd⟩
  rw[p c K]
  exact df.QP m3 (z.rel.box c u L)
 ·rw[hX]
  exact z.own g u (qw _ hgu)
 rcases Y with Y|⟨c,u,M,O,U⟩
 ·exact z.new g (.inl (C4.2 (.inl Y)))
 rcases J c u M with⟨rfl,rfl⟩|⟨K,L,_⟩
 ·exact z.new g (.inl (C4.2 (.inr (by rw[←U,F]))))
 exact z.new g (.inr ⟨c,u,L,O,by rw[←U,p c K]⟩)
theorem fN.perm{cX:dO}(p:fN H0 X0 P Hs VE B fs E H β)(F:fs.Perm cX):fN H0 X0 P Hs VE B cX E H β:=by
 have G:∀f,oJ cX f↔oJ fs f:=fun f=>⟨fun⟨s,h⟩=>⟨s,F.mem_iff.2 h⟩,fun⟨s,h⟩=>⟨s,F.mem_iff.1 h⟩⟩
 have z:XF X0 cX=XF X0 fs:=funext fun f=>propext (by unfold XF;rw[G])
 refine⟨p.bb,p.next,p.mn,p.ws,p.jm,by rw[z];exact p.rel,fun f A=>p.out f ((G f).1 A),(F.map _).nodup_iff.1 p.nodup,fun f s A=>by rw[z];exact p.own f s (F.mem_iff.2 A),fun f A=>p.new f (A.imp (G f).1 id)⟩
theorem ent_perm{cX:dO}{R:bO→bq→dO→Prop}(p:fs.Perm cX)(h:lP VE B cX R):lP VE B fs R:=fun H0 X0 P Hs E H β z=>h H0 X0 P Hs E H β (z.perm p)
theorem xr{f:Nat}{s:BS}{R:bO→bq→dO→Prop}(b:Nat)(z:mz b VE=true)(A:lC b B=true)(h:lP VE ((b,.ct f s)::B) fs R):lP VE B ((f,s)::fs) R:=fun H0 X0 P Hs E H β F=>by
 obtain⟨β',p⟩:=F.take b z A
 exact h H0 X0 P Hs E H β' p
def BS.as:BS→BS→Prop
 |.arr e b n _ rows,t=>t= .arr e b n rows.length rows
 |.acc e b n rows,t=>t= .arr e b n rows.length rows
 |.one e b row,t=>t= .one e b row
 |.ct _ _,_=>False
theorem df.as{H:aC}{X:Nat→Prop}{β:Nat→Nat}{f:Nat}:∀{s t:BS},s.as t→s.born→df H X β f s→df H X β f t
 |.one _ _ _,_,rfl,_,h=>h
 |.arr _ _ _ _ _,_,rfl,_,⟨p,cs,z,h2,A,F⟩=>⟨p,cs,z,fY h2 A,bM _,F⟩
 |.acc _ _ _ _,_,rfl,ho,h=>by
  rcases h with h|⟨lo,cs,z,h2,A⟩
  ·exact absurd h ho
  exact⟨lo,cs,z,h2,bM _,A⟩
 |.ct _ _,_,h,_,_=>absurd h fun k=>k
theorem BS.as_born:∀{s t:BS},s.as t→t.born
 |.one _ _ _,_,rfl=>trivial
 |.arr _ _ _ _ _,_,rfl=>trivial
 |.acc _ _ _ _,_,rfl=>trivial
 |.ct _ _,_,h=>absurd h fun k=>k
theorem xu{f:Nat}{s t:BS}{R:bO→bq→dO→Prop}(b:Nat)(A:aZ B b=some (.ct f s))(z:s.born)(G:t.K6)(p:s.as t)(h:lP VE (dT B b) (fs++[(f,t)]) R):lP VE B fs R:=fun H0 X0 P Hs E H β F=>by
 have e:=F.rel.pinned A z
 have:=F.give (t:=t) A z (BS.as_born p) G fun X I=>df.as p z I.2
 rw[e] at this
 exact h H0 X0 P Hs E H β this
theorem VY{s:BS}{R:bO→bq→dO→Prop}(b:Nat)(p:aZ B b=some s)(h:∀f,lP VE ((b,.ct f s)::B) fs R):lP VE B fs R:=fun H0 X0 P Hs E H β z=>
 h (β b) H0 X0 P Hs E H β (z.wy (W:=fun _=>False) ⟨rfl,bM _,fun _ h=>.inl h,fun c t A F=>.inl (by obtain⟨u,G,I⟩:=n7 (s':=.ct (β b) s) p gY c t A F;exact⟨u,G,I,rfl⟩),fun _ _ _=>rfl⟩ (z.rel.pv p gY fun _ k=>⟨fun _=>rfl,k⟩))
theorem AF{R:bO→bq→dO→Prop}{k:Nat}{v v':VV}(z:aZ VE k=some v)(A:∀H X β a,(∀b f s,aZ B b=some (.ct f s)→s.born→β b=f)→aK H X β v a→aK H X β v' a)(h:lP ((k,v')::VE) B fs R):lP VE B fs R:=fun H0 X0 P Hs E H β p=>
 h H0 X0 P Hs E H β (p.of (p.rel.slot z fun a F=>A H _ β a (fun _ _ _ G h2=>p.rel.pinned G h2) F))
theorem ent_ghostB{R:bO→bq→dO→Prop}(b i g elem aL es:Nat){e z:Nat}{row:List VV}(A:aZ B b=some (.one e z row))(hi:row[i]?=some (.d .nil))(I:aZ B g=none)(h:lP VE ((g,.acc elem aL es [])::(b,.one e z (row.set i (.ac g 0 es)))::B) fs R):lP VE B fs R:=fun H0 X0 P Hs E H β F=>
 h H0 X0 P Hs E H β (F.wy (W:=fun _=>False) ⟨rfl,bM _,fun _ h=>.inl h,fun c s p ho=>by
  rw[di] at p
  by_cases G:g=c
  ·rw[bE G] at p;cases p;exact absurd rfl ho
  rw[bw G,di] at p
  by_cases k:b=c
  ·subst k;exact .inl ⟨_,A,trivial,rfl⟩
  rw[bw k] at p;exact .inl ⟨s,p,ho,rfl⟩,fun _ _ _=>rfl⟩ (F.rel.Xa A hi I))
theorem vod_opN{A:Option (List Nat)}{op:bF}{r:List bK}{W:List Nat}{Q:bO→bq→dO→Prop}(h:VI T op VE B W fun _ B'=>qT T r VE B' fs Q):qT T (⟨none,none,A,op⟩::r) VE B fs Q:=fun H0 X0 P Hs E H β z=>by
 refine Ui ((h H0 (XF X0 fs) E H β z.rel).mono fun a H' F=>?_)
 obtain⟨v,B',β',G,p,J,I⟩:=F
 exact I H0 X0 P Hs _ H' β' (z.wy G p)
theorem Zg(n:Nat){ops:List bK}{bY:bO}{B':bq}{r:List bK}{Q:bO→bq→dO→Prop}(h:Jr n ops VE B=some (bY,B',r))(k:qT T r bY B' fs Q):qT T ops VE B fs Q:=by
 induction n generalizing ops VE B with
 |zero=>cases h;exact k
 |succ n p=>
  cases ops with
  |nil=>cases h
  |cons o rest=>
   obtain⟨d,g,q,op⟩:=o
   cases g with
   |some _=>cases h
   |none=>
    obtain⟨x,z,h2⟩:=Option.bind_eq_some_iff.1 h
    obtain⟨v,A,W⟩:=x
    cases d with
    |none=>exact vod_opN (q7 z (p h2))
    |some d=>exact vod_op (q7 z (p h2))
theorem Mq{Q:bO→bq→dO→Prop}(h:Q VE B fs):qT T [] VE B fs Q:=vod_vo (bn h)
theorem fW.sameB{f:Nat}{args:List VV}{Bi p:bq}{Q:VV→bq→Prop}(h:fW T f args Bi Q)(e:∀b,aZ p b=aZ Bi b):fW T f args p Q:=fun H0 X H β l A z=>by
 have F:XB X p β=XB X Bi β:=funext fun f=>by simp only[XB,e]
 rw[F] at z
 refine(h H0 X H β l (A.Bp fun k s G=>by rw[e];exact G) z).mono fun a H' I=>?_
 obtain⟨r,B',β',J,k⟩:=I
 exact⟨r,B',β',J.more fun b s K h2=>⟨s,by rw[e];exact K,h2⟩,k⟩
def DQ(T:bC)(f:Nat)(args:List VV)(fs:dO)(Q:VV→dO→Prop):Prop:=
 ∀H0 X0 P Hs H β l,fN H0 X0 P Hs [] [] fs .emp H β→bt H (XB (XF X0 fs) [] β) β args l→su T f l H fun a H'=>∃r cX β',fN H0 X0 P Hs [] [] cX .emp H' β'∧r.nb∧aK H' (XB (XF X0 cX) [] β') β' r a∧Q r cX
def RetD(rs:List jW)(P:VV→dO→Prop):Ex→bO→bq→dO→Prop
 |.exit _,_,_,_=>False
 |_,VE,B,fs=>∃vs,rF VE B rs=some vs∧lB vs∧P (mm vs) fs
theorem fN.bare(p:fN H0 X0 P Hs VE B fs E H β):fN H0 X0 P Hs [] [] fs .emp H β:=
 p.wy (W:=fun _=>False) ⟨rfl,bM _,fun _ h=>.inl h,fun _ _ k=>(by cases k),fun _ _ _=>rfl⟩ {p.rel.Bp (B':=[]) (fun _ _ k=>by cases k) with env:=fun _ _ k=>by cases k}
theorem fN.Zh(z:fN H0 X0 P Hs VE B fs E H β){v:VV}{a:aw}(h:aK H (XB (XF X0 fs) B β) β v a):aK H (XB (XF X0 fs) [] β) β v a:=
 h.lift ⟨bM _,fun f _ p=>⟨fun k=>p (.inl (IA f k)),rfl⟩⟩
theorem LN{f:Nat}{fn:bT}{args:List VV}{Q:VV→dO→Prop}(M:T.ft.get f=some fn)(K:fn.ps.length=args.length)(h:VD T fn.body (Cg fn.ps args []) [] fs (RetD fn.res Q)):DQ T f args fs Q:=by
 intro H0 X0 P Hs H β l h0 p
 have O:=L1 (ks:=fn.ps) h0.rel p K
 refine W6 M (by rw[K,p.length]) ((h H0 X0 P Hs _ H β (h0.of O)).mono fun x E' H' U=>?_)
 obtain⟨bY,B',cX,β',F,G⟩:=U
 have key:(∃vs,rF bY B' fn.res=some vs∧lB vs∧Q (mm vs) cX)→∃v,results E' H' fn.res= .ok v H'∧∃r cX β',fN H0 X0 P Hs [] [] cX .emp H' β'∧r.nb∧aK H' (XB (XF X0 cX) [] β') β' r v∧Q r cX:=by
  rintro⟨vs,Y,I,J⟩
  obtain⟨Z,A,k5⟩:=LF F.rel Y
  have z:results E' H' fn.res=List.rec (motive:=fun _=>aF) (.ok (.tuple []) H') (fun v r _=>List.rec (motive:=fun _=>aF) (.ok v H') (fun _ _ _=>.ok (.tuple (v::r)) H') r) Z:=k5
  cases vs with
  |nil=>
   simp only[bt] at A
   subst A
   exact⟨_,z,mm [],cX,β',F.bare,Dr I,by simp only[mm,aK,bt];exact⟨[],rfl,rfl⟩,J⟩
  |cons v r=>
   cases r with
   |nil=>
    simp only[bt] at A
    obtain⟨a,s,rfl,L,rfl⟩:=A
    exact⟨_,z,_,cX,β',F.bare,Dr I,F.Zh L,J⟩
   |cons w r=>
    have k8:=A
    simp only[bt] at A
    obtain⟨a,s,rfl,L,a2,s2,rfl,_⟩:=A
    exact⟨_,z,_,cX,β',F.bare,Dr I,F.Zh (v:=mm (v::w::r)) (by simp only[mm,aK];exact⟨_,rfl,k8⟩),J⟩
 cases x with
 |exit id=>exact absurd G (fun h=>h)
 |normal=>exact⟨fun _ h=>(by cases h),key G⟩
 |ret=>exact⟨fun _ h=>(by cases h),key G⟩
theorem LO{d:Key}{qq:Option (List Nat)}{f:Nat}{l:List aM}{args:List VV}{r:List bK}{R:VV→dO→Prop}{Q:bO→bq→dO→Prop}(hl:pb VE l=some args)(hn:lB args)(h:DQ T f args fs R)(hq:∀v cX,v.nb→R v cX→qT T r ((d.n,v)::VE) B cX Q):qT T (⟨some d,none,qq,.call f l⟩::r) VE B fs Q:=fun H0 X0 P Hs E H β z=>by
 obtain⟨vs,h1,h2⟩:=Aw z.rel hl
 let Y:Nat→Prop:=fun f=>X0 f∨∃b s,aZ B b=some s∧s.born∧β b=f
 have L:∀cX β',XB (XF Y cX) [] β'=XB (XF X0 cX) B β:=fun cX β'=>PA fun f=>by
  constructor
  ·intro k
   rcases IA f k with(k|k)|k
   ·exact .inl (.inl k)
   ·exact .inr k
   exact .inl (.inr k)
  rintro((k|k)|k)
  ·exact .inl (.inl (.inl k))
  ·exact .inl (.inr k)
  exact .inl (.inl (.inr k))
 have I:∀b s,aZ B b=some s→s.born→¬oJ fs (β b):=fun b s G F k=>(z.rel.new b s G F).1 (.inr k)
 have Z:fN β Y (oJ fs) H [] [] fs .emp H β:=⟨rfl,bM _,z.rel.bb,fun _ h=>.inl h,fun _ _ _=>rfl,
  ⟨fun _ _=>rfl,z.rel.bb,fun f A=>by
   rcases A with(k|⟨b,s,G,F,rfl⟩)|k
   ·exact z.rel.x0 f (.inl k)
   ·exact(z.rel.new b s G F).2
   exact z.rel.x0 f (.inr k),fun _ _ k=>(by cases k),fun _ _ _ _ k=>(by cases k),fun _ _ k=>(by cases k),fun _ _ k=>(by cases k)⟩,
  fun f A k=>by
   rcases k with k|⟨b,s,G,F,rfl⟩
   ·exact z.out f A k
   ·exact I b s G F A,z.nodup,fun f s A=>by rw[L];exact z.own f s A,fun f A=>by
   rcases A with A|⟨_,_,k,_⟩
   ·exact .inl A
   cases k⟩
 refine LW (LV h1 ((h β Y (oJ fs) H H β vs Z (by rw[L];exact h2.nb hn)).mono fun a H' M=>?_))
 obtain⟨v,cX,β',p,J,O,k6⟩:=M
 rw[L] at O
 have O:=aK.nb (β':=β) J O
 have hmm:=z.bb;have hmn:=z.mn;have hnx:=z.next;have hnx2:=p.next
 have K:ff H (XB (XF X0 fs) B β) H' (XB (XF X0 cX) B β):=⟨p.next,fun f A U=>⟨fun k=>by
  rcases k with(k|k)|k
  ·exact U (.inl (.inl k))
  ·rcases p.new f (.inl k) with k|k
   ·exact U (.inl (.inr k))
   omega
  exact U (.inr k),p.jm f A fun k=>U (.inl (.inr k))⟩⟩
 have na:Rel H0 (XF X0 cX) VE B E H' β:=by
  refine⟨z.rel.kE,p.rel.bb,fun f A=>?_,fun b s G F=>⟨fun k=>?_,lH (z.rel.new b s G F).2 p.next⟩,z.rel.inj,fun k w hk=>?_,fun b s hb=>?_⟩
  ·rcases A with k|k
   ·exact p.rel.x0 f (.inl (.inl k))
   exact p.rel.x0 f (.inr k)
  ·rcases k with k|k
   ·exact(z.rel.new b s G F).1 (.inl k)
   exact p.out _ k (.inr ⟨b,s,G,F,aa⟩)
  ·obtain⟨a,m1,m2⟩:=z.rel.env k w hk
   exact⟨a,m1,m2.lift K⟩
  exact(z.rel.box b s hb).Bm K fun ho=>p.jm _ (z.rel.new b s hb ho).2 (I b s hb ho)
 refine hq v cX J k6 H0 X0 P Hs _ H' β ⟨p.bb.trans z.bb,fY z.next p.next,z.mn,fun f A=>?_,fun f A M=>?_,na.set O,fun f A k=>p.out f A (.inl k),p.nodup,fun f s A=>?_,fun f A=>?_⟩
 ·rcases p.ws f A with k|⟨G,F⟩
  ·exact z.ws f k
  rcases z.new f (.inl F) with k|k
  ·exact .inr ⟨ax,k⟩
  omega
 ·rw[p.jm f ax fun k=>(z.new f (.inl k)).elim M fun k=>by omega,z.jm f A M]
 ·have:=p.own f s A
  rw[L] at this
  exact this
 rcases A with A|A
 ·rcases p.new f (.inl A) with k|k
  ·exact z.new f (.inl k)
  exact .inr ax
 exact z.new f (.inr A)
theorem vc_of_vd{c:IC}{R:Ex→bO→bq→Prop}(h:VD T c VE [] [] fun x bY B' _=>R x bY B'):VC T c VE [] R:=fun H0 X0 E H β G=>by
 have J:XF X0 []=X0:=funext fun f=>propext ⟨fun k=>k.elim id fun⟨_,k⟩=>(by cases k),.inl⟩
 have K:fN H0 X0 (fun _=>False) H VE [] [] E H β:=⟨rfl,bM _,G.bb,fun _ h=>.inl h,fun _ _ _=>rfl,by rw[J];exact G,fun _⟨_,k⟩=>(by cases k),List.nodup_nil,fun _ _ k=>(by cases k),fun f z=>by
  rcases z with⟨_,k⟩|⟨_,_,k,_⟩<;>cases k⟩
 refine(h H0 X0 _ H E H β K).mono fun x E' H' L=>?_
 obtain⟨bY,B',cX,β',p,M⟩:=L
 refine⟨bY,B',β',⟨p.bb,p.next,fun f z=>(p.ws f z).imp id fun k=>absurd k.2 id,fun b s A F=>.inr ((p.new _ (.inr ⟨b,s,A,F,aa⟩)).elim (fun k=>absurd k id) id),fun f z _=>p.jm f z id⟩,?_,M⟩
 have I:ff H' (XB (XF X0 cX) B' β') H' (XB X0 B' β'):=⟨bM _,fun f _ O=>⟨fun k=>O (k.imp .inl id),rfl⟩⟩
 exact⟨p.rel.kE,p.rel.bb,fun f z=>p.rel.x0 f (.inl z),fun b s A F=>⟨fun k=>(p.rel.new b s A F).1 (.inl k),(p.rel.new b s A F).2⟩,p.rel.inj,fun k v U=>by
  obtain⟨a,Y,Z⟩:=p.rel.env k v U
  exact⟨a,Y,Z.lift I⟩,fun b s hb=>(p.rel.box b s hb).lift I aa⟩
theorem u7{ops:List bK}{Q:bO→bq→Prop}(k:Nat){v:VV}(v':VV)(z:aZ VE k=some v)(A:∀H X β a,(∀b f s,aZ B b=some (.ct f s)→s.born→β b=f)→aK H X β v a→aK H X β v' a)(h:VO T ops ((k,v')::VE) B Q):VO T ops VE B Q:=fun H0 X0 E H β p=>
 h H0 X0 E H β (p.slot z fun a F=>A H _ β a (fun _ _ _ G h2=>p.pinned G h2) F)
theorem bt.FW{H:aC}{X:Nat→Prop}{β:Nat→Nat}{x z:VV}(A:∀a,aK H X β x a→aK H X β z a):∀{l:List VV}{s:List aw}{i:Nat},l[i]?=some x→bt H X β l s→bt H X β (l.set i z) s
 |[],_,_,hi,_=>by simp at hi
 |v::r,_,0,hi,h=>by
  simp only[bt,List.set_cons_zero] at h⊢
  obtain⟨a,s,rfl,p,h2⟩:=h
  simp at hi;subst hi
  exact⟨a,s,aa,A a p,h2⟩
 |v::r,_,i+1,hi,h=>by
  simp only[bt,List.set_cons_succ] at h⊢
  obtain⟨a,s,rfl,p,h2⟩:=h
  exact⟨a,s,rfl,p,bt.FW A (by simpa using hi) h2⟩
theorem H6{H:aC}{X:Nat→Prop}{β:Nat→Nat}{x p:VV}{l:List VV}{i:Nat}{a:aw}(hi:l[i]?=some x)(z:∀a,aK H X β x a→aK H X β p a)(h:aK H X β (.agg l) a):aK H X β (.agg (l.set i p)) a:=by
 simp only[aK] at h⊢
 obtain⟨cs,e,h⟩:=h
 exact⟨cs,e,bt.FW z hi h⟩
section
variable{X:Nat→Prop}{b f n es o:Nat}{a:aw}
theorem raw_bs(e:β b=f)(h:aK H X β (.bs b n es) a):aK H X β (.d (.raw f n es)) a:=by
 simp only[aK,cq] at h⊢;rw[h,e]
theorem DR(e:β b=f)(h:aK H X β (.d (.raw f n es)) a):aK H X β (.bs b n es) a:=by
 simp only[aK,cq] at h⊢;rw[h,e]
theorem raw_ac(e:β b=f)(h0:0<n)(h:aK H X β (.ac b n es) a):aK H X β (.d (.raw f n es)) a:=by
 simp only[aK,cq] at h⊢
 rcases h with⟨h,_⟩|⟨_,h⟩
 ·omega
 rw[h,e]
theorem nil_ac(h:aK H X β (.ac b 0 es) a):aK H X β (.d .nil) a:=by
 simp only[aK,cq] at h⊢
 rcases h with⟨_,h⟩|⟨h,_⟩
 ·exact h
 omega
theorem Xw(e:β b=f)(h:aK H X β (.vp b o) a):aK H X β (.k (.ptr f 1 o)) a:=by
 simp only[aK] at h⊢;rw[h,e]
theorem IH(e:β b=f)(h:aK H X β (.k (.ptr f 1 o)) a):aK H X β (.vp b o) a:=by
 simp only[aK] at h⊢;rw[h,e]
end
theorem Hh{Q:VV→bq→Prop}{a:aM}{b o elem aL f:Nat}{row:List VV}{v:VV}(z:a.vv VE=some (.vp b o))(A:aZ B b=some (.ct f (.one elem aL row)))(F:row[o]?=some v)(G:Q v B):VI T (.load 1 false a) VE B [] Q:=fun _ _ _ _ _ p=>by
 obtain⟨_,I,h2⟩:=p.bU z
 simp only[aK] at h2
 subst h2
 obtain⟨l,J,K⟩:=(p.box b _ A).2.Ar
 obtain⟨y,L,M⟩:=K.get F
 exact Av I J (by rw[pn,fC]) L (dp p M G)
theorem TV{Q:VV→bq→Prop}{a:aM}{b g j o es elem aL lo f:Nat}{rows:List (List DC)}{row:List DC}{x:DC}(A:a.vv VE=some (.bp b g j o es))(F:aZ B b=some (.ct f (.arr elem aL es lo rows)))(G:lo≤g)(h2:g≤rows.length)(I:j<g)(J:rows[j]?=some row)(K:row[o]?=some x)(L:Q (.d x) B):VI T (.load 1 false a) VE B [] Q:=fun _ _ _ _ _ p=>by
 obtain⟨_,M,z⟩:=p.bU A
 simp only[aK] at z
 subst z
 obtain⟨l,O,U,Y⟩:=(p.box b _ F).2.cells G h2 I J
 obtain⟨y,Z,k7⟩:=Y.get K
 exact Av M O (by rw[U]) Z (dp p (v:=.d x) (by simp only[aK];exact k7) L)
variable{Q:VV→bq→Prop}
theorem vi_storePB{n:Nat}{a x:aM}{b j o es elem aL lo f:Nat}{rows:List (List DC)}{row p:List DC}{v:VV}{new:List VV}(ha:a.vv VE=some (.bp b rows.length j o es))(I:aZ B b=some (.ct f (.arr elem aL es lo rows)))(hx:x.vv VE=some v)(hv:v.cells=some new)(hd:gq new=some p)(J:p.length=n)(h0:0<n)(hk:o+n≤es)
  (Z:rows[j]?=some row) (hq:Q .undef ((b,.ct f (.arr elem aL es rows.length (rows.set j (kC row o p))))::B)):VI T (.store n a x) VE B [b] Q:=fun _ X0 _ H β z=>by
 obtain⟨_,h1,h2⟩:=z.bU ha
 simp only[aK] at h2
 subst h2
 obtain⟨y,h3,h4⟩:=z.bU hx
 obtain⟨t,h5,G⟩:=h4.cells hv
 have G:=G.data hd
 have L:=z.pinned I trivial
 obtain⟨Ab,cs,k1,k2,k3,k4⟩:=(z.box b _ I).2
 obtain⟨l,k5,k6,k7⟩:=k4 j row Z
 have A:=(List.getElem?_eq_some_iff.1 Z).1
 have ht:t.length=n:=by rw[G.length,J]
 have M:=k7.length
 have e:=fun K=>EB (e:=aF.err 5) (K:=K) (q:=j) (o:=o) (n:=n) (new:=t) k1 ax A k5 k6 ht h0 hk
 refine⟨0,.undef,_,fun lf m _ _=>by rw[HE h1 h3 h5,e],?_⟩
 refine xi (s':=.ct f (.arr elem aL es rows.length (rows.set j (kC row o p)))) z I trivial rfl (fun g hf=>?_) rfl rfl (fun X j1 O=>⟨fun _=>L,?_⟩) (fun X=>by simp only[aK]) hq
 ·show(H.t.set (β b) _).get g=_
  rw[GT.c7,bw hf]
 have hlen:(bif Nat.beq n es then t else dH l o t).length=es:=by
  cases U:Nat.beq n es with
  |true=>have:=cL U;show t.length=_;omega
  |false=>show(dH l o t).length=_;simp only[dH,fZ,jf,qf];omega
 refine⟨rows.length,cs.set j (bif Nat.beq n es then t else dH l o t),?_,bM _,by rw[kW];exact bM _,fun i F hi=>?_⟩
 ·show(H.t.set (β b) _).get (β b)=_
  rw[GT.c7,bE rfl,kW]
 rw[RT.c7]
 rw[Jg] at hi
 by_cases Y:i=j
 ·subst Y
  rw[bE rfl,bE A] at hi
  cases hi
  rw[bE rfl]
  refine⟨_,aa,hlen,?_⟩
  have h7:=O _ _ G
  have h8:=O _ _ k7
  have h9:=h8.dH o h7
  unfold kC
  rw[J,←M,k6]
  rw[J] at h9
  exact cD.bif h7 h9
 rw[bw (fun k=>Y k.symm)] at hi
 rw[bw Y]
 obtain⟨l',m1,m2,m3⟩:=k4 i F hi
 exact⟨l',m1,m2,O _ _ m3⟩
theorem fW.pinned{f:Nat}{args:List VV}{Bi:bq}{Q Y:VV→bq→Prop}{c g:Nat}{s:BS}(Z:jY c=true)(z:aZ Bi c=some (.ct g s))(hs:s.born)(h:fW T f args ((c,s)::Bi) Q)(hq:∀r B,Q r B→∃s',aZ B c=some s'∧Y r ((c,.ct g s')::B)):fW T f args Bi Y:=fun H0 X H β l A hv=>by
 have e:=A.pinned z hs
 have F:Rel H0 X [] ((c,s)::Bi) .emp H β:=A.pv z gY fun _ k=>k.2
 have hl:ff H (XB X Bi β) H (XB X ((c,s)::Bi) β):=⟨bM _,fun f _ G=>⟨fun k=>G (k.imp id fun⟨d,t,I,ho,h2⟩=>by obtain⟨u,J,K⟩:=n7 (s':=s) z gY d t I ho;exact⟨d,u,J,K,h2⟩),rfl⟩⟩
 refine(h H0 X H β l F (hv.lift hl)).mono fun a H' L=>?_
 obtain⟨r,B',β',hw,p,M,k6⟩:=L
 obtain⟨s',O,k8⟩:=hq r B' k6
 have e':β' c=g:=by rw[p.kE c Z,←A.kE c Z,e]
 have U:ff H' (XB X B' β') H' (XB X ((c,.ct g s')::B') β'):=⟨bM _,fun f _ G=>⟨fun k=>G (k.imp id fun⟨d,t,I,ho,h2⟩=>by obtain⟨u,J,K⟩:=n7 (s':=.ct g s') O gY d t I ho;exact⟨d,u,J,K,h2⟩),rfl⟩⟩
 exact⟨r,_,β',(hw.more (n7 (s':=s) z gY)).Jo (n7 (s':=.ct g s') O gY),p.pv (s':=.ct g s') O gY (fun _ k=>⟨fun _=>e',k⟩),M.lift U,k8⟩
end
end Go.Ev
namespace Go.Ev.Rp
open Go Go.Ev.Pp
theorem yj{T:bC}{VE:bO}{B:bq}{fs:dO}{a:List bK}{c:IC}{R:Ex→bO→bq→dO→Prop}(h:VO T a VE B fun bY B'=>VD T c bY B' fs R):VD T (.seq (.region false a) c) VE B fs R:=xP (pf (aS h))
theorem vd_sq{T:bC}{VE:bO}{B:bq}{fs:dO}{a:List bK}{c:IC}{R:Ex→bO→bq→dO→Prop}(h:VQ T a VE B [] fun bY B'=>VD T c bY B' fs R):VD T (.seq (.region true a) c) VE B fs R:=xP (pf (fB h))
theorem clVe{T:bC}(F:FT T){I:DC}{p:List (List DC)}(A:aR p I)(J:p.length≤1000000000)(G:aH ee p):Sound T 40 [.d I] fun r=>r= .d I:=by
 refine ch F.q40 aa (aj (af 1 aa (aA (aj (ak 1 aa ?_)))))
 rcases A with z|⟨K,z⟩
 ·subst z
  refine ai (AE aa aa ?_)
  refine bn (cH aa aa (aG (aj (ak 2 aa (ai (sR (rows:=[]) (ys:=p) aa aa aa (.sD (.inl aa) (el G aa)) aD ae ?_))))))
  exact af 1 aa (ma 2 5 aa aa (fun _=>⟨aa,aa⟩) (ay (aE aa aa aa)))
 subst z
 refine ai (C1 aa aa ?_)
 exact bn (cg aa aa (aj (af 1 aa (ay (aE aa aa aa)))))
theorem clVerN{T:bC}(F:FT T):Sound T 39 [dN] fun r=>r=dN:=by
 refine ch F.q39 aa (aj (af 1 aa (aA (aj (ak 1 aa (ai (C1 aa aa ?_)))))))
 exact bn (cg aa aa (aj (af 1 aa (ay (aE aa aa aa)))))
theorem clVerB{T:bC}(F:FT T){w:List (List DC)}(z:w.length≤100000)(p:aH gf w):DK T 39 [.d (.sl w)] fun r B=>r= .bs 5 w.length 6∧B=[(5,.arr 48 64 6 w.length w)]:=by
 refine lF F.q39 aa (aj (af 1 aa (aA (aj (ak 1 aa (ai (AE aa aa ?_)))))))
 refine bn (cH aa aa (aG (aj (ak 2 aa (ai (sR (rows:=[]) (ys:=w) aa aa aa (.sD (.inl aa) (el p aa)) aD ae ?_))))))
 exact af 1 aa (ay (⟨[_],[(5,.arr 48 64 6 w.length w)],aa,⟨aa,trivial⟩,aa,aa⟩))
def HI(r r':List DC)(l:dO):Prop:=∃z v v' k A f f' c F x p,r=[z,v,k,f,c,x]∧r'=[z,v',A,f',F,p]∧
 (∃w w',aR w v∧aR w' v'∧fL nG w w'∧aH eB w')∧(∃w,aR w k∧aR w A)∧(∃w,aR w f∧aR w f')∧(∃w w',aR w c∧aR w' F∧fL nD w w'∧aH ez w')∧
 ((x= .nil∧p= .nil∧l=[])∨∃w g,x= .sl w∧p= .raw g w.length 6∧l=[(g,.arr 48 64 6 w.length w)])
def gX:List (List DC)→List (List DC)→dO→Prop
 |[],[],fs=>fs=[]
 |r::R,r'::p,fs=>∃l cX,fs=l++cX∧HI r r' l∧gX R p cX
 |_,_,_=>False
theorem gX.snoc{r r':List DC}{l:dO}(h:HI r r' l):∀{R p:List (List DC)}{fs:dO},gX R p fs→gX (R++[r]) (p++[r']) (fs++l)
 |[],[],fs,k=>by
  simp only[gX] at k;subst k
  simp only[rR,gX]
  exact⟨l,[],by simp,h,rfl⟩
 |a::R,b::p,fs,k=>by
  simp only[gX,yF] at k⊢
  obtain⟨m,cX,rfl,z,A⟩:=k
  exact⟨m,cX++l,by simp,z,gX.snoc h A⟩
 |[],_::_,_,k=>by simp only[gX] at k
 |_::_,[],_,k=>by simp only[gX] at k
theorem gX.len:∀{R p:List (List DC)}{fs:dO},gX R p fs→R.length=p.length
 |[],[],_,_=>rfl
 |_::_,_::_,_,k=>by
  simp only[gX] at k
  obtain⟨_,_,_,_,k⟩:=k
  simp[gX.len k]
 |[],_::_,_,k=>by simp only[gX] at k
 |_::_,[],_,k=>by simp only[gX] at k
theorem take_succ{w:List (List DC)}{k:Int}{r:List DC}(h0:0≤k)(p:w[k.toNat]?=some r):w.take (k+1).toNat=w.take k.toNat++[r]:=by
 rw[show(k+1).toNat=k.toNat+1 by omega,qh,p];rfl
theorem putD_same{row:List DC}{o:Nat}{x:DC}(h:row[o]?=some x):kC row o [x]=row:=by
 have ho:=(List.getElem?_eq_some_iff.1 h)
 obtain⟨ho,rfl⟩:=ho
 unfold kC
 cases p:Nat.beq ([row[o]]:List DC).length row.length with
 |true=>
  have:=cL p
  simp only[List.length_singleton] at this
  show [row[o]]=row
  match row,this,ho with
  |[a],_,ho=>
   have:o=0:=by simpa using ho
   subst this;rfl
 |false=>
  show row.take o++(row[o]::row.drop (o+1))=row
  rw[←yI ho,Fo]
theorem cloneD{T:bC}(F:FT T){nv mv:Nat}{J K M L O U:DC}{p:List (List DC)}(cO:aR p M)(et:p.length≤16)(cK:aH (fJ nv mv) p){eU:List (List DC)}(cT:aR eU O)(fo:eU.length≤50)(dc:aH fy eU)(dm:(Ty.l 0 iR).ok U)(my:nv≤99)(qR:mv≤100000):
  DQ T 19 [.agg [.d J,.d K,.d M,.d L,.d O,.d U]] [] fun r fs=>∃Z Y w2 wV,r= .agg [.d J,.d K,.d Z,.d L,.d Y,dN]∧aR eU Y∧gX p w2 wV∧((w2=[]∧Z= .nil∧fs=wV)∨∃g,w2≠[]∧Z= .raw g w2.length 6∧fs=wV++[(g,.arr 43 136 6 w2.length w2)]):=by
 refine LN F.q19 aa (yj (af 2 aa (vd_sq (aP 8 aa (bP aa (aY aa (aV aa) (clH F cT ae dc) (fun r1 _ dh=>?_)))))))
 obtain⟨Y,CO,rfl,aba, -, -, -,rfl⟩:=dh
 refine cP 3 aa (xP (yj (ak 2 aa (ai (bu aa cO ?_)))))
 refine af 1 aa (rq (re [(0,.agg [.d J,.d K,.d M,.d L,.d O,.d U]),(1,.vp 1 0),(2,.vp 2 0),(3,.vp 3 0),(21,.d M),(22,.d (dJ (p.length:Int))),(23,.d i0)] [(1,.one 29 96 [.d J,.d K,.d M,.d L,.d O,.d U]),(2,.one 29 96 [.d i0,.d i0,dN,.d i0,dN,dN]),(3,.one 29 96 [.d J,.d K,dN,.d L,.d Y,dN])] ⟨aa,aa,aa,aa,aa,aa,aa,trivial⟩ ⟨aa,aa,aa,trivial⟩ (kO ?_)))
 have hloopI:True:=trivial
 refine rq (ent_ghostB 3 2 90 43 136 6 aa aa aa (kO ?_))
 refine AM (R:=fun x VE B fs=>x= .normal∧∃(i:Int)(I:List (List DC)),gX p I fs∧aT [(0,.agg [.d J,.d K,.d M,.d L,.d O,.d U]),(1,.vp 1 0),(2,.vp 2 0),(3,.vp 3 0),(21,.d M)] VE∧aT [(1,.one 29 96 [.d J,.d K,.d M,.d L,.d O,.d U]),(2,.one 29 96 [.d i0,.d i0,dN,.d i0,dN,dN]),(3,.one 29 96 [.d J,.d K,.ac 90 I.length 6,.d L,.d Y,dN]),(90,.acc 43 136 6 I)] B) (Va (VX (fun k VE B fs=>∃(G:Int)(I:List (List DC)),0≤G∧G≤(p.length:Int)∧gX (p.take G.toNat) I fs∧k=((p.length:Int) -G).toNat∧aT [(0,.agg [.d J,.d K,.d M,.d L,.d O,.d U]),(1,.vp 1 0),(2,.vp 2 0),(3,.vp 3 0),(21,.d M),(22,.d (dJ (p.length:Int))),(23,.d (dJ G))] VE∧aT [(1,.one 29 96 [.d J,.d K,.d M,.d L,.d O,.d U]),(2,.one 29 96 [.d i0,.d i0,dN,.d i0,dN,dN]),(3,.one 29 96 [.d J,.d K,.ac 90 I.length 6,.d L,.d Y,dN]),(90,.acc 43 136 6 I)] B) ?_ (k:=((p.length:Int) -0).toNat) ⟨0,[],ae,ae,aa,aa,⟨aa,aa,aa,aa,aa,aa,aa,trivial⟩,⟨aa,aa,aa,aa,trivial⟩⟩)) ?_
 ·rintro _ VE B fs⟨G,I,f0,f1,hO,rfl,hV,hB⟩
  refine AM (R:=fun x bY B' cX=>cX=fs∧((x= .exit 0∧¬G<(p.length:Int)∧aT [(0,.agg [.d J,.d K,.d M,.d L,.d O,.d U]),(1,.vp 1 0),(2,.vp 2 0),(3,.vp 3 0),(21,.d M)] bY∧aT [(1,.one 29 96 [.d J,.d K,.d M,.d L,.d O,.d U]),(2,.one 29 96 [.d i0,.d i0,dN,.d i0,dN,dN]),(3,.one 29 96 [.d J,.d K,.ac 90 I.length 6,.d L,.d Y,dN]),(90,.acc 43 136 6 I)] B')∨(x= .normal∧G<(p.length:Int)∧∃r r':List DC,p[G.toNat]?=some r∧aT [(0,.agg [.d J,.d K,.d M,.d L,.d O,.d U]),(1,.vp 1 0),(2,.vp 2 0),(3,.vp 3 0),(21,.d M),(22,.d (dJ (p.length:Int))),(23,.d (dJ (G+1)))] bY∧((HI r r' []∧aT [(1,.one 29 96 [.d J,.d K,.d M,.d L,.d O,.d U]),(2,.one 29 96 [.d i0,.d i0,dN,.d i0,dN,dN]),(3,.one 29 96 [.d J,.d K,.ac 90 (I++[r']).length 6,.d L,.d Y,dN]),(90,.acc 43 136 6 (I++[r']))] B')∨∃g w,HI r r' [(g,.arr 48 64 6 w.length w)]∧aT [(2005,.ct g (.arr 48 64 6 w.length w)),(1,.one 29 96 [.d J,.d K,.d M,.d L,.d O,.d U]),(2,.one 29 96 [.d i0,.d i0,dN,.d i0,dN,dN]),(3,.one 29 96 [.d J,.d K,.ac 90 (I++[r']).length 6,.d L,.d Y,dN]),(90,.acc 43 136 6 (I++[r']))] B')))) (pf ?_) ?_
  ·have hw3l:I.length≤16:=by have:=gX.len hO;rw[jf] at this;omega
   refine bz _ _ hV hB (aj (af 1 aa (aA (db aa (fun h2=>?_) (fun h2=>?_)))))
   ·have g2:G<(p.length:Int):=by simpa using h2
    refine aG (aA (bj (aj ?_)))
    obtain⟨r3,fG,gQ⟩:=bR G cK
    obtain⟨x0,x1,x2,x3,x4,x5,rfl,Sc,KW,hx2,hx3,hx4,GL⟩:=fe gQ
    refine ai (bo aa aa cO ae fG aa ?_)
    refine af 3 aa (cN ?_)
    obtain⟨wx1,QZ,hnx1,hrx1⟩:=Ty.au KW
    obtain⟨wx2,Q0,hnx2,hrx2⟩:=Ty.au hx2
    obtain⟨wx3,Q2,hnx3,hrx3⟩:=Ty.au hx3
    obtain⟨wx4,Q3,hnx4,hrx4⟩:=Ty.au hx4
    obtain⟨A,hdx5,hnx5,abb⟩:=Ty.au GL
    refine aP 2 aa (bP aa (aY aa (aV aa) (clSchema F Sc QZ ae hrx1 Q0 ae hrx2 Q2 ae hrx3 Q3 ae hrx4) (fun r4 _ eo=>?_)))
    obtain⟨y1,kH,Z,eJ,y3,wy3,y5,wy5,rfl,abc,hny1,abd,hmy1,hq1,abe,hny2,hry2,hmy2,hq2,abf,hny3,hry3,hmy3,hq3,abg,hny5,abh,hmy5,hq5⟩:=eo
    subst hq2;subst hq3
    refine aP 2 aa ?_
    rcases hdx5 with Sm|⟨ew5,Sm⟩
    ·subst Sm
     refine bP aa (C9 2000 aa aa aa aa (clVerB F ae abb) (fun r5 Sl dL=>?_))
     obtain⟨rfl,rfl⟩:=dL
     refine cP 3 aa (bz [(0,.agg [.d J,.d K,.d M,.d L,.d O,.d U]),(1,.vp 1 0),(2,.vp 2 0),(3,.vp 3 0),(6,.vp 6 0),(21,.d M),(22,.d (dJ (p.length:Int))),(23,.d (dJ G))] [(2005,.arr 48 64 6 A.length A),(6,.one 43 136 [.d x0,.d y1,.d Z,.d y3,.d y5,.bs 2005 A.length 6]),(1,.one 29 96 [.d J,.d K,.d M,.d L,.d O,.d U]),(2,.one 29 96 [.d i0,.d i0,dN,.d i0,dN,dN]),(3,.one 29 96 [.d J,.d K,.ac 90 I.length 6,.d L,.d Y,dN]),(90,.acc 43 136 6 I)] ⟨aa,aa,aa,aa,aa,aa,aa,aa,trivial⟩ ⟨aa,aa,aa,aa,aa,aa,trivial⟩ (aA (aj (ak 2 aa (ai (Mi aa ?_))))))
     refine af 1 aa (bj (cb (fun k VE B=>∃(wW:Int),0≤wW∧k=((A.length:Int) -wW).toNat∧aT [(0,.agg [.d J,.d K,.d M,.d L,.d O,.d U]),(1,.vp 1 0),(2,.vp 2 0),(3,.vp 3 0),(6,.vp 6 0),(21,.d M),(22,.d (dJ (p.length:Int))),(23,.d (dJ G)),(36,.d (dJ (A.length:Int))),(37,.d (dJ wW))] VE∧aT [(2005,.arr 48 64 6 A.length A),(6,.one 43 136 [.d x0,.d y1,.d Z,.d y3,.d y5,.bs 2005 A.length 6]),(1,.one 29 96 [.d J,.d K,.d M,.d L,.d O,.d U]),(2,.one 29 96 [.d i0,.d i0,dN,.d i0,dN,dN]),(3,.one 29 96 [.d J,.d K,.ac 90 I.length 6,.d L,.d Y,dN]),(90,.acc 43 136 6 I)] B) ?_ (k:=((A.length:Int) -0).toNat) ⟨0,ae,aa,⟨aa,aa,aa,aa,aa,aa,aa,aa,aa,aa,trivial⟩,⟨aa,aa,aa,aa,aa,aa,trivial⟩⟩))
     rintro _ VE B⟨wW,f37,rfl,hV,hB⟩
     refine bz _ _ hV hB (aj (af 1 aa (aA (db aa (fun h6=>?_) (fun h6=>?_)))))
     ·have g6:wW<(A.length:Int):=by simpa using h6
      refine aG (aA (bj (aj (af 2 aa (fB ?_)))))
      obtain⟨j7,lD,gu⟩:=cE (z:=wW) (n:=A.length) ae ae
      obtain⟨r7,eY⟩:∃r,A[j7]?=some r:=⟨_,dz gu⟩
      have gv:=nu abb eY
      obtain⟨z0,z1,z2,z3,z4,z5,rfl,hz0,uv,qP,hz3,hz4,hz5⟩:=fe gv
      obtain⟨wz1,hdz1,hnz1,hrz1⟩:=Ty.au uv
      refine aP 6 aa ?_
      refine aU (e9 rfl (by rw[←lD];rfl) gu ?_)
      refine aP 1 aa (bP aa (nq aa aa (bM _) (bM _) gu eY aa ?_))
      refine bP aa (aY aa (aV aa) (clVe F hdz1 ae hrz1) (fun r8 _ lW=>?_))
      subst lW
      refine aU (e9 rfl (by rw[←lD];rfl) gu ?_)
      refine aP 1 aa (oa aa (pU aa aa aa aa aa aa aD aD eY (fun w8 nh qS=>?_)))
      have nh:w8=A:=by
       rw[nh,putD_same (by rfl)]
       obtain⟨h8,e8⟩:=List.getElem?_eq_some_iff.1 eY
       rw[←e8,List.set_getElem_self]
      subst nh
      refine cU (aS (ai (br aa aa ae ae ?_)))
      refine af 1 aa ?_
      exact⟨_,(by omega:((w8.length:Int) -(wW+1)).toNat<_),wW+1,ae,rfl,⟨rfl,rfl,rfl,rfl,rfl,rfl,rfl,rfl,rfl,rfl,trivial⟩,⟨rfl,rfl,rfl,rfl,rfl,rfl,trivial⟩⟩
     refine bV (aS (ak 3 aa (Na 2005 aa (fun g=>?_))))
     refine u7 55 (.agg [.d x0,.d y1,.d Z,.d y3,.d y5,.d (.raw g A.length 6)]) aa (fun H X β a hp h=>H6 (i:=5) aa (fun _=>raw_bs (hp 2005 g (.arr 48 64 6 A.length A) aa trivial)) h) (ak 1 aa ?_)
     refine ai (cr (rows:=I) (ys:=[[x0,y1,Z,y3,y5,.raw g A.length 6]]) rfl rfl rfl (.bs (rows:=[[x0,y1,Z,y3,y5,.raw g A.length 6]]) rfl) aD ae (fun h=>by rw[h];rfl) (fun h=>by rw[h];rfl) ?_)
     refine af 2 aa (aS (ai (br aa aa ae ae ?_)))
     refine af 1 aa (⟨aa,.inr ⟨aa,g2,_,[x0,y1,Z,y3,y5,.raw g A.length 6],fG,⟨aa,aa,aa,aa,aa,aa,aa,trivial⟩,.inr ⟨g,A,⟨x0,x1,y1,x2,Z,x3,y3,x4,y5,_,_,aa,aa,⟨wx1,kH,QZ,abc,hq1,abd⟩,⟨_,Q0,abe⟩,⟨_,Q2,abf⟩,⟨wx4,wy5,Q3,abg,hq5,abh⟩,.inr ⟨A,g,aa,aa,aa⟩⟩,⟨aa,aa,aa,aa,aa,trivial⟩⟩⟩⟩)
    subst Sm
    refine bP aa (aY aa (aV aa) (clVerN F) (fun r5 _ dL=>?_))
    subst dL
    refine cP 3 aa (bz [(0,.agg [.d J,.d K,.d M,.d L,.d O,.d U]),(1,.vp 1 0),(2,.vp 2 0),(3,.vp 3 0),(6,.vp 6 0),(21,.d M),(22,.d (dJ (p.length:Int))),(23,.d (dJ G))] [(6,.one 43 136 [.d x0,.d y1,.d Z,.d y3,.d y5,dN]),(1,.one 29 96 [.d J,.d K,.d M,.d L,.d O,.d U]),(2,.one 29 96 [.d i0,.d i0,dN,.d i0,dN,dN]),(3,.one 29 96 [.d J,.d K,.ac 90 I.length 6,.d L,.d Y,dN]),(90,.acc 43 136 6 I)] ⟨aa,aa,aa,aa,aa,aa,aa,aa,trivial⟩ ⟨aa,aa,aa,aa,aa,trivial⟩ (aA (aj (ak 2 aa (ai (Dq aa ?_))))))
    refine af 1 aa (bj (cb (fun k VE B=>k=0∧aT [(0,.agg [.d J,.d K,.d M,.d L,.d O,.d U]),(1,.vp 1 0),(2,.vp 2 0),(3,.vp 3 0),(6,.vp 6 0),(21,.d M),(22,.d (dJ (p.length:Int))),(23,.d (dJ G)),(36,.d i0),(37,.d i0)] VE∧aT [(6,.one 43 136 [.d x0,.d y1,.d Z,.d y3,.d y5,dN]),(1,.one 29 96 [.d J,.d K,.d M,.d L,.d O,.d U]),(2,.one 29 96 [.d i0,.d i0,dN,.d i0,dN,dN]),(3,.one 29 96 [.d J,.d K,.ac 90 I.length 6,.d L,.d Y,dN]),(90,.acc 43 136 6 I)] B) ?_ (k:=0) ⟨aa,⟨aa,aa,aa,aa,aa,aa,aa,aa,aa,aa,trivial⟩,⟨aa,aa,aa,aa,aa,trivial⟩⟩))
    rintro _ VE B⟨rfl,hV,hB⟩
    refine bz _ _ hV hB (aj (af 1 aa (aA (db aa (fun h6=>?_) (fun h6=>?_)))))
    ·exact absurd h6 aD
    refine bV (aS (ak 3 aa (ak 1 aa ?_)))
    refine ai (cr (rows:=I) (ys:=[[x0,y1,Z,y3,y5,.nil]]) rfl rfl rfl (.bs (rows:=[[x0,y1,Z,y3,y5,.nil]]) rfl) aD ae (fun h=>by rw[h];rfl) (fun h=>by rw[h];rfl) ?_)
    refine af 2 aa (aS (ai (br aa aa ae ae ?_)))
    refine af 1 aa (⟨aa,.inr ⟨aa,g2,_,[x0,y1,Z,y3,y5,.nil],fG,⟨aa,aa,aa,aa,aa,aa,aa,trivial⟩,.inl ⟨⟨x0,x1,y1,x2,Z,x3,y3,x4,y5,_,_,aa,aa,⟨wx1,kH,QZ,abc,hq1,abd⟩,⟨_,Q0,abe⟩,⟨_,Q2,abf⟩,⟨wx4,wy5,Q3,abg,hq5,abh⟩,.inl ⟨aa,aa,aa⟩⟩,⟨aa,aa,aa,aa,trivial⟩⟩⟩⟩)
   have g2:¬G<(p.length:Int):=by simpa using h2
   exact bV (⟨aa,.inl ⟨aa,g2,⟨aa,aa,aa,aa,aa,trivial⟩,⟨aa,aa,aa,aa,trivial⟩⟩⟩)
  rintro x bY B' cX⟨rfl,⟨rfl,hx,kV,kB⟩|⟨rfl,hx,r,r',hg,kV,⟨hc,kB⟩|⟨g,w,hc,kB⟩⟩⟩
  ·refine kO ⟨aa,G,I,?_,kV,kB⟩
   rwa [rN ax] at hO
  ·refine kO ⟨_,?_,G+1,I++[r'],ax,ax,?_,aa,kV,kB⟩
   ·omega
   rw[take_succ f0 hg]
   have:=gX.snoc hc hO
   rwa [J9] at this
  refine re _ _ kV kB (xu (t:=.arr 48 64 6 w.length w) 2005 aa trivial trivial aa (kO ⟨_,?_,G+1,I++[r'],ax,ax,?_,aa,⟨aa,aa,aa,aa,aa,aa,aa,trivial⟩,⟨aa,aa,aa,aa,trivial⟩⟩))
  ·omega
  rw[take_succ f0 hg]
  exact gX.snoc hc hO
 rintro x VE B fs⟨rfl,i,I,hO,hV,hB⟩
 refine re _ _ hV hB (kO ?_)
 refine xP (yj (ak 2 aa ?_))
 obtain⟨w5,Sn,hn5,jo⟩:=Ty.au dm
 refine ai (bu aa Sn ?_)
 refine af 1 aa (pf (bj (cb (fun k VE B=>k=0∧aT [(0,.agg [.d J,.d K,.d M,.d L,.d O,.d U]),(1,.vp 1 0),(2,.vp 2 0),(3,.vp 3 0),(62,.d (dJ (w5.length:Int))),(63,.d i0)] VE∧aT [(1,.one 29 96 [.d J,.d K,.d M,.d L,.d O,.d U]),(2,.one 29 96 [.d i0,.d i0,dN,.d i0,dN,dN]),(3,.one 29 96 [.d J,.d K,.ac 90 I.length 6,.d L,.d Y,dN]),(90,.acc 43 136 6 I)] B) ?_ (k:=0) ⟨aa,⟨aa,aa,aa,aa,aa,aa,trivial⟩,⟨aa,aa,aa,aa,trivial⟩⟩)))
 rintro _ VE B⟨rfl,hV,hB⟩
 refine bz _ _ hV hB (aj (af 1 aa (aA (db aa (fun h6=>?_) (fun h6=>?_)))))
 ·exfalso
  have:(0:Int)<(w5.length:Int):=by simpa using h6
  omega
 refine bV (yj (ak 1 aa ?_))
 cases I with
 |nil=>
  refine u7 78 (.agg [.d J,.d K,dN,.d L,.d Y,dN]) aa (fun H X β a hp h=>H6 (i:=2) aa (fun _=>nil_ac) h) (af 1 aa (pf (ay ?_)))
  exact⟨_,aa,aV aa,.nil,Y,[],fs,aa,aba,hO,.inl ⟨aa,aa,aa⟩⟩
 |cons q I=>
  refine Na 90 aa (fun g=>?_)
  refine u7 78 (.agg [.d J,.d K,.d (.raw g (q::I).length 6),.d L,.d Y,dN]) rfl (fun H X β a hp h=>H6 (i:=2) rfl (fun _=>raw_ac (hp 90 g (.acc 43 136 6 (q::I)) rfl (fun e=>by cases e)) (Kc _)) h) ?_
  refine af 1 aa ?_
  refine rq (xu (t:=.arr 43 136 6 (q::I).length (q::I)) 90 rfl (fun e=>by cases e) trivial rfl (kO (pf (ay ?_))))
  exact⟨_,rfl,aV rfl,.raw g (q::I).length 6,Y,q::I,fs,rfl,aba,hO,.inr ⟨g,(fun e=>by cases e),rfl,rfl⟩⟩
end Go.Ev.Rp
namespace Go.Ev.Rp
open Go Go.Ev.Pp
theorem idxN{T:bC}(F:FT T){g:Nat}{p z a6 A G a9:DC}:fW T 73 [dN,.fn 43 [.vp 1003 0]] [(1004,.ct g (.one 29 96 [.d p,.d z,.d a6,.d A,.d G,.d a9])),(1003,.one 63 8 [.vp 1004 0])] fun r B=>r= .d (dJ (-1))∧B=[(1004,.ct g (.one 29 96 [.d p,.d z,.d a6,.d A,.d G,.d a9])),(1003,.one 63 8 [.vp 1004 0])]:=by
 refine lF F.q73 aa (aj (af 1 aa (aA (aj (ak 1 aa (ai (Dq aa ?_)))))))
 refine af 1 aa (bj (cb (fun k VE B=>k=0∧aT [(7,.d i0),(8,.d i0)] VE∧aT [(1004,.ct g (.one 29 96 [.d p,.d z,.d a6,.d A,.d G,.d a9])),(1003,.one 63 8 [.vp 1004 0])] B) ?_ (k:=0) ⟨aa,⟨aa,aa,trivial⟩,⟨aa,aa,trivial⟩⟩))
 rintro _ VE B⟨rfl,J,K⟩
 refine bz _ _ J K (aj (af 1 aa (aA (db aa (fun I=>?_) (fun I=>?_)))))
 ·exact absurd I aD
 exact bV (aj (af 1 aa (ay (⟨_,[(1004,.ct g (.one 29 96 [.d p,.d z,.d a6,.d A,.d G,.d a9])),(1003,.one 63 8 [.vp 1004 0])],aa,⟨aa,aa,trivial⟩,aa,aa⟩))))
theorem delN{T:bC}(F:FT T){g:Nat}{p z a6 A G a9:DC}:fW T 42 [dN,.fn 43 [.vp 1003 0]] [(1004,.ct g (.one 29 96 [.d p,.d z,.d a6,.d A,.d G,.d a9])),(1003,.one 63 8 [.vp 1004 0])] fun r B=>r=dN∧B=[(1004,.ct g (.one 29 96 [.d p,.d z,.d a6,.d A,.d G,.d a9])),(1003,.one 63 8 [.vp 1004 0])]:=by
 refine lF F.q42 aa (aj (af 1 aa (aj (ak 2 aa (ai (ns (dx:=[dN,.fn 43 [.vp 1003 0]]) (Bi:=[(1004,.ct g (.one 29 96 [.d p,.d z,.d a6,.d A,.d G,.d a9])),(1003,.one 63 8 [.vp 1004 0])]) [(1004,1004),(1003,1003)] 3000 aa aa aa aa aa aa aa ⟨aa,aa,⟨aa,aa,trivial⟩⟩ (idxN F) (fun J K I=>?_)))))))
 obtain⟨rfl,rfl⟩:=I
 exact af 1 aa (aA (aj (af 2 aa (cg aa aa (aj (af 2 aa (ay (⟨_,[(1004,.ct g (.one 29 96 [.d p,.d z,.d a6,.d A,.d G,.d a9])),(1003,.one 63 8 [.vp 1004 0])],aa,⟨aa,aa,trivial⟩,aa,aa⟩))))))))
theorem delP{T:bC}(F:FT T){g:Nat}{A G a6 I a9:DC}{p:List (List DC)}(J:aH gf p)(K:(p.length:Int)≤100000)(Y:tJ.ok A)(Z:tJ.ok G){bI:Int}(nX: -9223372036854775808≤bI)(nY:bI≤9223372036854775807){z:List (List DC)}(L:aR z I)(M:z.length≤20)(O:aH fy z):
  fW T 42 [.bs 1001 p.length 6,.fn 43 [.vp 1003 0]] [(1001,.arr 48 64 6 p.length p),(1004,.ct g (.one 29 96 [.d A,.d G,.d a6,.d (dJ bI),.d I,.d a9])),(1003,.one 63 8 [.vp 1004 0])] fun r B=>∃U,r= .d U∧aR (p.filter (mi bI z)) U∧B=[(1004,.ct g (.one 29 96 [.d A,.d G,.d a6,.d (dJ bI),.d I,.d a9])),(1004,.one 29 96 [.d A,.d G,.d a6,.d (dJ bI),.d I,.d a9]),(1003,.one 63 8 [.vp 1004 0])]:=by
 refine fW.pinned (c:=1004) (g:=g) (s:=.one 29 96 [.d A,.d G,.d a6,.d (dJ bI),.d I,.d a9]) aa aa trivial ((delF (a6:=a6) (a9:=a9) F J ae K Y Z jZ nX nY L M O jZ).sameB fun b=>?_) fun r B h=>?_
 ·simp only[di]
  by_cases h1:1001=b
  ·subst h1;simp
  by_cases h2:1004=b
  ·subst h2;simp
  simp[h1,h2]
 obtain⟨U,cQ,rfl,rfl,hd, -, -, -,rfl⟩:=h
 exact⟨_,aa,U,aa,hd,aa⟩
theorem UB{T:bC}{VE:bO}{B:bq}{Q:VV→bq→Prop}{n m:Nat}{a x:aM}{b j o es elem aL lo f:Nat}{rows:List (List DC)}{row p:List DC}{v:VV}{new:List VV}(z:rows.length=m)(A:a.vv VE=some (.bp b m j o es))(F:aZ B b=some (.ct f (.arr elem aL es lo rows)))(G:x.vv VE=some v)(I:v.cells=some new)(J:gq new=some p)(K:p.length=n)(h0:0<n)(L:o+n≤es)
  (M:rows[j]?=some row) (O:Q .undef ((b,.ct f (.arr elem aL es m (rows.set j (kC row o p))))::B)):VI T (.store n a x) VE B [b] Q:=by
 subst z
 exact vi_storePB A F G I J K h0 L M O
def ra(p:Int)(G:List (List DC))(r r':List DC):Prop:=∃z v v' k A f f' c F x y w,r=[z,v,k,f,c,x]∧r'=[z,v',A,f',F,y]∧
 (∃w w',aR w v∧aR w' v'∧fL nG w w'∧aH eB w')∧(∃w,aR w k∧aR w A)∧(∃w,aR w f∧aR w f')∧(∃w w',aR w c∧aR w' F∧fL nD w w'∧aH ez w')∧aR w x∧aR (w.filter (mi p G)) y
theorem pruneD{T:bC}(F:FT T){g A nv mv:Nat}{O U a5:DC}{G p:List (List DC)}{wV:dO}(hO:gX G p wV)(et:G.length≤16)(cK:aH (fJ nv mv) G)(cV:tJ.ok O)(da:tJ.ok U){K:Int}(nX: -9223372036854775808≤K)(nY:K≤9223372036854775807){Y:DC}{I:List (List DC)}(cT:aR I Y)(fo:I.length≤20)(dc:aH fy I)(qR:mv≤100000):
  DQ T 20 [.k (.ptr g 1 0)] (wV++[(A,.arr 43 136 6 p.length p)]++[(g,.one 29 96 [.d O,.d U,.d (.raw A p.length 6),.d (dJ K),.d Y,.d a5])]) fun r fs=>∃W,fL (ra K I) G W∧fs=[(g,.one 29 96 [.d O,.d U,.d (.raw A W.length 6),.d (dJ K),.d Y,.d a5]),(A,.arr 43 136 6 W.length W)]:=by
 refine LN F.q20 aa ?_
 have hlen:=hO.len
 refine rq (ent_perm (cX:=(g,.one 29 96 [.d O,.d U,.d (.raw A p.length 6),.d (dJ K),.d Y,.d a5])::(A,.arr 43 136 6 p.length p)::wV) ?_ (xr 2000 aa aa (xr 2002 aa aa (AF (k:=0) (v':=.vp 2000 0) aa (fun H X β a M h=>IH (M 2000 g (.one 29 96 [.d O,.d U,.d (.raw A p.length 6),.d (dJ K),.d Y,.d a5]) aa trivial) h) (kO ?_)))))
 ·refine(YB _ _).trans (.cons _ (YB _ _))
 refine yj (af 1 aa (yj (ak 3 aa (ai (Hh aa aa aa ?_)))))
 refine u7 7 (.bs 2002 p.length 6) aa (fun H X β a M h=>DR (M 2002 A (.arr 43 136 6 p.length p) aa trivial) h) (ai (Mi aa ?_))
 refine af 1 aa ?_
 refine AM (R:=fun x VE B fs=>x= .normal∧∃W:List (List DC),fs=[]∧W.length=p.length∧fL (ra K I) G W∧aT [(1,.one 63 8 [.vp 2000 0]),(2000,.ct g (.one 29 96 [.d O,.d U,.d (.raw A p.length 6),.d (dJ K),.d Y,.d a5])),(2002,.ct A (.arr 43 136 6 p.length W))] B) (Va (VX (fun kk VE B fs=>∃(v9:Int)(W:List (List DC)),0≤v9∧v9≤(p.length:Int)∧W.length=p.length∧gX (G.drop v9.toNat) (p.drop v9.toNat) fs∧(∀q:Nat,v9≤q→W[q]?=p[q]?)∧(∀(q:Nat)r r',(q:Int)<v9→G[q]?=some r→W[q]?=some r'→ra K I r r')∧kk=((p.length:Int) -v9).toNat∧aT [(1,.vp 1 0),(8,.d (dJ (p.length:Int))),(9,.d (dJ v9))] VE∧aT [(1,.one 63 8 [.vp 2000 0]),(2000,.ct g (.one 29 96 [.d O,.d U,.d (.raw A p.length 6),.d (dJ K),.d Y,.d a5])),(2002,.ct A (.arr 43 136 6 p.length W))] B) ?_ (k:=((p.length:Int) -0).toNat) ⟨0,p,ae,ae,rfl,hO,fun _ _=>rfl,(fun q _ _ h=>by omega),rfl,⟨rfl,rfl,rfl,trivial⟩,⟨rfl,rfl,rfl,trivial⟩⟩)) ?_
 ·rintro _ VE B fs⟨v9,W,f0,f1,hW,hO,hR,hD,rfl,hV,hB⟩
  by_cases ss:v9<(p.length:Int)
  ·obtain⟨j,hj,kj⟩:=cE (z:=v9) (n:=p.length) f0 ss
   subst hj
   simp only[BT] at hO
   rw[yI (l:=G) (i:=j) ax,yI (l:=p) (i:=j) kj] at hO
   simp only[gX] at hO
   obtain⟨l,cX,rfl,hc,hO'⟩:=hO
   obtain⟨nm,v,v',k,k',f,f',c,c',x,x',er,er',cv,ck,cf,cc,hx⟩:=hc
   have dj:G[j]?=some [nm,v,k,f,c,x]:=by rw[←er];exact dz _
   have K7:W[j]?=some [nm,v',k',f',c',x']:=by rw[hR j (o9 _),←er'];exact dz _
   have Zi:∀r',ra K I [nm,v,k,f,c,x] r'→(W.set j r').length=p.length∧(∀q:Nat,((j:Nat):Int)+1≤q→(W.set j r')[q]?=p[q]?)∧(∀(q:Nat)r K8,(q:Int)<((j:Nat):Int)+1→G[q]?=some r→(W.set j r')[q]?=some K8→ra K I r K8):=fun r' na=>by
    refine⟨by rw[kW];exact hW,fun q hq=>?_,fun q r K8 hq h1 h2=>?_⟩
    ·rw[OX ax];exact hR q ax
    by_cases e:q=j
    ·subst e
     rw[Jh ax] at h2
     rw[dj] at h1
     cases h1;cases h2;exact na
    rw[OX (fun k=>e k.symm)] at h2
    exact hD q r K8 ax h1 h2
   have QL:=nu cK dj
   have GL:(Ty.l mv gf).ok x:=by
    obtain⟨_,_,e_,_,Z⟩:=b0 QL;cases e_
    obtain⟨_,_,e_,_,Z⟩:=b0 Z;cases e_
    obtain⟨_,_,e_,_,Z⟩:=b0 Z;cases e_
    obtain⟨_,_,e_,_,Z⟩:=b0 Z;cases e_
    obtain⟨_,_,e_,_,Z⟩:=b0 Z;cases e_
    obtain⟨_,_,e_,h5,Z⟩:=b0 Z;cases e_
    exact h5
   obtain⟨J,Sn,hn5,jo⟩:=Ty.au GL
   rcases hx with⟨rfl,rfl,rfl⟩|⟨w,gi,rfl,rfl,rfl⟩
   ·refine AM (R:=fun xx bY B' L=>L=cX∧(xx= .normal∧∃r',ra K I [nm,v,k,f,c,.nil] r'∧aT [(1,.vp 1 0),(8,.d (dJ (p.length:Int))),(9,.d (dJ (((j:Nat):Int)+1)))] bY∧aT [(1,.one 63 8 [.vp 2000 0]),(2000,.ct g (.one 29 96 [.d O,.d U,.d (.raw A p.length 6),.d (dJ K),.d Y,.d a5])),(2002,.ct A (.arr 43 136 6 p.length (W.set j r')))] B')) (pf ?_) ?_
    ·show VC T _ VE B _
     refine bz _ _ hV hB (aj (af 1 aa (aA (cg aa (decide_eq_true ss) (aG (aA (bj (aj (af 2 aa ?_)))))))))
     refine aj (ak 3 aa (ai (Hh aa aa aa ?_)))
     refine u7 15 (.bs 2002 p.length 6) aa (fun H X β a M h=>DR (M 2002 A (.arr 43 136 6 p.length W) aa trivial) h) (ak 1 aa (ai (e9 aa aa kj ?_)))
     refine af 1 aa (aS (ak 4 aa (ai (TV (b:=2002) (rows:=W) aa aa (bM _) ax kj K7 aa ?_))))
     refine ak 1 aa (ai (ns (dx:=[dN,.fn 43 [.vp 1003 0]]) (Bi:=[(1004,.ct g (.one 29 96 [.d O,.d U,.d (.raw A p.length 6),.d (dJ K),.d Y,.d a5])),(1003,.one 63 8 [.vp 1004 0])]) [(1004,2000),(1003,1)] 3000 aa aa aa aa aa aa aa ⟨aa,aa,⟨aa,aa,trivial⟩⟩ (delN F) (fun r1 B1 dh=>?_)))
     obtain⟨rfl,rfl⟩:=dh
     refine ak 2 aa (jd (UB (b:=2002) (rows:=W) hW aa aa aa aa aa aa aD aD K7 ?_))
     refine bn (aS (ai (br aa aa ae ae ?_)))
     exact af 1 aa (⟨aa,aa,[nm,v',k',f',c',.nil],⟨nm,v,v',k,k',f,f',c,c',_,.nil,_,aa,aa,cv,ck,cf,cc,(.inr ⟨aa,aa⟩:aR [] .nil),.inr ⟨aa,aa⟩⟩,⟨aa,aa,aa,trivial⟩,⟨aa,aa,aa,trivial⟩⟩)
    rintro xx bY B' L⟨rfl,rfl,r',M,kV,kB⟩
    obtain⟨s1,s2,s3⟩:=Zi r' M
    exact kO ⟨_,(by omega:((p.length:Int) -(((j:Nat):Int)+1)).toNat<_),((j:Nat):Int)+1,W.set j r',ax,ax,s1,(by rw[show(((j:Nat):Int)+1).toNat=j+1 by omega];exact hO'),s2,s3,rfl,kV,kB⟩
   obtain rfl:J=w:=aR.uniq Sn (.inl rfl)
   refine rq (re _ _ hV hB (xr 2001 aa aa (kO ?_)))
   refine AM (R:=fun xx bY B' L=>L=cX∧(xx= .normal∧∃r',ra K I [nm,v,k,f,c,.sl J] r'∧aT [(1,.vp 1 0),(8,.d (dJ (p.length:Int))),(9,.d (dJ (((j:Nat):Int)+1)))] bY∧aT [(1,.one 63 8 [.vp 2000 0]),(2000,.ct g (.one 29 96 [.d O,.d U,.d (.raw A p.length 6),.d (dJ K),.d Y,.d a5])),(2002,.ct A (.arr 43 136 6 p.length (W.set j r')))] B')) (pf ?_) ?_
   ·refine aj (af 1 aa (aA (cg aa (decide_eq_true ss) (aG (aA (bj (aj (af 2 aa (aj ?_)))))))))
    refine ak 3 aa (ai (Hh aa aa aa ?_))
    refine u7 15 (.bs 2002 p.length 6) aa (fun H X β a M h=>DR (M 2002 A (.arr 43 136 6 p.length W) aa trivial) h) (ak 1 aa (ai (e9 aa aa kj ?_)))
    refine af 1 aa (aS (ak 4 aa (ai (TV (b:=2002) (rows:=W) aa aa (bM _) ax kj K7 aa ?_))))
    refine u7 22 (.bs 2001 J.length 6) aa (fun H X β a M h=>DR (M 2001 gi (.arr 48 64 6 J.length J) aa trivial) h) (ak 1 aa (HG 2001 aa (ai (ns (dx:=[.bs 1001 J.length 6,.fn 43 [.vp 1003 0]]) (Bi:=[(1001,.arr 48 64 6 J.length J),(1004,.ct g (.one 29 96 [.d O,.d U,.d (.raw A p.length 6),.d (dJ K),.d Y,.d a5])),(1003,.one 63 8 [.vp 1004 0])]) [(1001,2001),(1004,2000),(1003,1)] 3000 aa aa aa aa aa aa aa ⟨aa,aa,⟨aa,aa,⟨aa,aa,trivial⟩⟩⟩ (delP F jo ae cV da nX nY cT fo dc) (fun r1 B1 dh=>?_)))))
    obtain⟨y1,rfl,hy1,rfl⟩:=dh
    refine ak 2 aa (jd (UB (b:=2002) (rows:=W) hW aa aa aa aa aa aa aD aD K7 ?_))
    refine bn (aS (ai (br aa aa ae ae ?_)))
    exact af 1 aa (⟨aa,aa,[nm,v',k',f',c',y1],⟨nm,v,v',k,k',f,f',c,c',_,y1,_,aa,aa,cv,ck,cf,cc,(.inl aa:aR J (.sl J)),hy1⟩,⟨aa,aa,aa,trivial⟩,⟨aa,aa,aa,trivial⟩⟩)
   rintro xx bY B' L⟨rfl,rfl,r',M,kV,kB⟩
   obtain⟨s1,s2,s3⟩:=Zi r' M
   exact kO ⟨_,(by omega:((p.length:Int) -(((j:Nat):Int)+1)).toNat<_),((j:Nat):Int)+1,W.set j r',ax,ax,s1,(by rw[show(((j:Nat):Int)+1).toNat=j+1 by omega];exact hO'),s2,s3,rfl,kV,kB⟩
  refine pf (bz _ _ hV hB (aj (af 1 aa (aA (cH aa (decide_eq_false ss) (bV ?_))))))
  refine⟨rfl,W,?_,hW,⟨ax,fun q r r' h1 h2=>hD q r r' (by have:=(List.getElem?_eq_some_iff.1 h1).1;omega) h1 h2⟩,⟨rfl,rfl,rfl,trivial⟩⟩
  rw[Qt ax,Qt ax] at hO
  exact hO
 rintro xx VE B fs⟨rfl,W,rfl,hW,Z,hB⟩
 refine re [] _ trivial hB (xu (t:=.one 29 96 [.d O,.d U,.d (.raw A p.length 6),.d (dJ K),.d Y,.d a5]) 2000 aa trivial (aV aa) aa (xu (t:=.arr 43 136 6 W.length W) 2002 aa trivial trivial aa (kO ?_)))
 exact⟨[],rfl,trivial,W,Z,by rw[hW];rfl⟩
end Go.Ev.Rp
