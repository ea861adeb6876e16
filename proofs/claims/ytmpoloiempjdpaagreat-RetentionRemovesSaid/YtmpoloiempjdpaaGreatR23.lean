/- Part 23 of rules for walks through the code of a program, and of such walks; what each part proves is said by its theorems. -/
import Derived.Test.YtmpoloiempjdpaaGreatR22
set_option linter.unusedVariables false
set_option linter.unusedSimpArgs false
noncomputable section
set_option maxRecDepth 100000
set_option maxHeartbeats 4000000
namespace Go.Ev
open Go
abbrev de:=List (Nat×BS)
def pM(fs:de)(f:Nat):Prop:=∃s,(f,s)∈fs
def XF(X0:Nat→Prop)(fs:de)(f:Nat):Prop:=X0 f∨pM fs f
def BS.gB:BS→Prop
 |.one _ _ row=>lq row
 |.arr _ _ _ _ _=>True
 |.acc _ _ _ _=>True
 |.bP _ _=>False
theorem db.agO{H:ax}{X:Nat→Prop}{β β':Nat→Nat}{f:Nat}:∀{s:BS},s.gB→db H X β f s→db H X β' f s
 |.one _ _ _,z,⟨l,lo,cs,A,G,I,L⟩=>⟨l,lo,cs,A,G,I,bc.nb z L⟩
 |.arr _ _ _ _ _,_,h=>h
 |.acc _ _ _ _,_,h=>h
structure fU(H0:Nat→Nat)(X0 P:Nat→Prop)(Hs:ax)(VE:bb)(B:aK)(fs:de)(E:Env)(H:ax)(β:Nat→Nat):Prop where
 aR:H.aR=Hs.aR
 next:Hs.next≤H.next
 mn:Hs.aR≤Hs.next
 ws:∀f,f∈H.ws→f∈Hs.ws∨(f<Hs.aR∧P f)
 jE:∀f,f<Hs.next→¬P f→H.t.get f=Hs.t.get f
 rel:Rel H0 (XF X0 fs) VE B E H β
 out:∀f,pM fs f→¬X0 f
 nodup:(fs.map (·.1)).Nodup
 own:∀f s,(f,s)∈fs→s.gB∧s.born∧db H (XB (XF X0 fs) B β) (fun _=>0) f s
 new:∀f,(pM fs f∨∃b s,aF B b=some s∧s.born∧β b=f)→P f∨Hs.next≤f
def VD(T:aM)(c:IC)(VE:bb)(B:aK)(fs:de)(Q:Ex→bb→aK→de→Prop):Prop:=
 ∀H0 X0 P Hs E H β,fU H0 X0 P Hs VE B fs E H β→jU T c E H fun x E' H'=>∃bh B' cX β',fU H0 X0 P Hs bh B' cX E' H' β'∧Q x bh B' cX
def sN(T:aM)(ops:List bk)(VE:bb)(B:aK)(fs:de)(Q:bb→aK→de→Prop):Prop:=
 ∀H0 X0 P Hs E H β,fU H0 X0 P Hs VE B fs E H β→n6 T ops E H fun E' H'=>∃bh B' cX β',fU H0 X0 P Hs bh B' cX E' H' β'∧Q bh B' cX
def jR(VE:bb)(B:aK)(fs:de)(R:bb→aK→de→Prop):Prop:=
 ∀H0 X0 P Hs E H β,fU H0 X0 P Hs VE B fs E H β→∃bh B' cX β',fU H0 X0 P Hs bh B' cX E H β'∧R bh B' cX
section
variable{T:aM}{H0:Nat→Nat}{X0 P:Nat→Prop}{Hs:ax}{VE:bb}{B:aK}{fs:de}{E:Env}{H:ax}{β:Nat→Nat}
theorem fU.vS(z:fU H0 X0 P Hs VE B fs E H β){W:Nat→Prop}{bh:bb}{B':aK}{E':Env}{H':ax}{β':Nat→Nat}(G:gK B β H W B' β' H')(hr:Rel H0 (XF X0 fs) bh B' E' H' β'):fU H0 X0 P Hs bh B' fs E' H' β':=by
 have Z:∀f,f<Hs.next→¬P f→∀b s,aF B b=some s→s.born→β b≠f:=fun f A Y b s L h2 I=>(z.new f (.inr ⟨b,s,L,h2,I⟩)).elim Y fun k=>by omega
 have hmm:=z.aR;have hmn:=z.mn;have hnx:=z.next;refine⟨G.aR.trans z.aR,eO z.next G.next,z.mn,fun f A=>?_,fun f A Y=>?_,hr,z.out,z.nodup,fun f s A=>?_,fun f A=>?_⟩
 ·rcases G.ws f A with h|⟨L,b,s,_,h2,I,h4⟩
  ·exact z.ws f h
  rcases z.new f (.inr ⟨b,s,h2,I,h4⟩) with k|k
  ·exact .inr ⟨al,k⟩
  omega
 ·rw[G.jE f al (Z f A Y),z.jE f A Y]
 ·obtain⟨L,h2,I⟩:=z.own f s A;have hx:XF X0 fs f:=.inr ⟨s,A⟩;have JM:=z.rel.x0 f hx;have hb:∀b t,aF B b=some t→t.born→β b≠f:=fun b t M O U=>(z.rel.new b t M O).1 (U▸hx)
  have hl:eP H (XB (XF X0 fs) B β) H' (XB (XF X0 fs) B' β'):=⟨G.next,fun g hg hn=>⟨fun k=>by
   rcases k with k|⟨b,t,M,O,U⟩
   ·exact hn (.inl k)
   rcases G.since b t M O with⟨u,m1,m2,m3⟩|m
   ·exact hn (.inr ⟨b,u,m1,m2,by rw[←m3];exact U⟩)
   omega,G.jE g hg fun b t M O U=>hn (.inr ⟨b,t,M,O,U⟩)⟩⟩
  exact⟨L,h2,I.lift hl (G.jE f JM hb)⟩
 rcases A with A|⟨b,s,L,h2,I⟩
 ·exact z.new f (.inl A)
 rcases G.since b s L h2 with⟨t,m1,m2,m3⟩|m
 ·exact z.new f (.inr ⟨b,t,m1,m2,by rw[←m3];exact I⟩)
 exact .inr al
theorem fU.of(z:fU H0 X0 P Hs VE B fs E H β){bh:bb}{E':Env}(A:Rel H0 (XF X0 fs) bh B E' H β):fU H0 X0 P Hs bh B fs E' H β:={z with rel:=A}
theorem oF{c:IC}{Q:Ex→bb→aK→de→Prop}(h:VC T c VE B fun x bh B'=>Q x bh B' fs):VD T c VE B fs Q:=fun H0 X0 P Hs E H β z=>by
 refine(h H0 (XF X0 fs) E H β z.rel).mono fun x E' H' A=>?_
 obtain⟨bh,B',β',G,I,L⟩:=A;exact⟨bh,B',fs,β',z.vS G I,L⟩
theorem vod_vo{ops:List bk}{Q:bb→aK→de→Prop}(h:VO T ops VE B fun bh B'=>Q bh B' fs):sN T ops VE B fs Q:=fun H0 X0 P Hs E H β z=>by
 refine(h H0 (XF X0 fs) E H β z.rel).mono fun E' H' A=>?_
 obtain⟨bh,B',β',G,I,L⟩:=A;exact⟨bh,B',fs,β',z.vS G I,L⟩
theorem qu{c:IC}{Q:Ex→bb→aK→de→Prop}(h:jR VE B fs fun bh B' cX=>VD T c bh B' cX Q):VD T c VE B fs Q:=fun H0 X0 P Hs E H β A=>by
 obtain⟨bh,B',cX,β',z,h'⟩:=h H0 X0 P Hs E H β A;exact h' H0 X0 P Hs E H β' z
theorem xk{c:IC}{R Q:Ex→bb→aK→de→Prop}(h:VD T c VE B fs R)(k:∀x VE B fs,R x VE B fs→jR VE B fs (Q x)):VD T c VE B fs Q:=fun H0 X0 P Hs E H β A=>by
 refine(h H0 X0 P Hs E H β A).mono fun x E' H' G=>?_
 obtain⟨bh,B',cX,β',z,I⟩:=G;exact k x bh B' cX I H0 X0 P Hs E' H' β' z
theorem je{R:bb→aK→de→Prop}(h:R VE B fs):jR VE B fs R:=fun _ _ _ _ _ _ β z=>⟨VE,B,fs,β,z,h⟩
theorem nr{R:bb→aK→de→Prop}(bh:bb)(B':aK)(A:an bh VE)(h2:an B' B)(h:jR bh B' fs R):jR VE B fs R:=fun H0 X0 P Hs E H β z=>by
 refine h H0 X0 P Hs E H β (z.vS (W:=fun _=>False) ⟨aa,bf _,fun _ h=>.inl h,fun b s G I=>.inl ⟨s,h2.get G,I,aa⟩,fun _ _ _=>aa⟩ ?_);exact(z.rel.Ds fun _ _ k=>h2.get k).less fun _ _ k=>A.get k
theorem xr{a b:IC}{R:Ex→bb→aK→de→Prop}(h:VD T a VE B fs fun x bh B' cX=>match x with|.normal=>VD T b bh B' cX R|x=>R x bh B' cX):VD T (.seq a b) VE B fs R:=fun H0 X0 P Hs E H β G=>by
 refine abP ((h H0 X0 P Hs E H β G).mono fun x E' H' I=>?_);obtain⟨bh,B',cX,β',z,A⟩:=I
 cases x with
 |normal=>exact⟨fun _=>A H0 X0 P Hs E' H' β' z,fun e=>absurd rfl e⟩
 |exit id=>exact⟨fun e=>(by cases e),fun _=>⟨bh,B',cX,β',z,A⟩⟩
 |ret=>exact⟨fun e=>(by cases e),fun _=>⟨bh,B',cX,β',z,A⟩⟩
theorem QP{id:Nat}{c:IC}{R:Ex→bb→aK→de→Prop}(h:VD T c VE B fs fun x=>R (EY id x)):VD T (.block id c) VE B fs R:=fun H0 X0 P Hs E H β z=>aac (h H0 X0 P Hs E H β z)
theorem Qr{ops:List bk}{R:Ex→bb→aK→de→Prop}(h:sN T ops VE B fs fun bh B' cX=>R .normal bh B' cX):VD T (.region false ops) VE B fs R:=fun H0 X0 P Hs E H β z=>ZC (h H0 X0 P Hs E H β z)
theorem ab5{c:IC}{R:Ex→bb→aK→de→Prop}(I:Nat→bb→aK→de→Prop)(L:∀k VE B fs,I k VE B fs→VD T c VE B fs fun x bh B' cX=>match x with|.normal=>∃j,j<k∧I j bh B' cX|x=>R x bh B' cX){k:Nat}(h0:I k VE B fs):VD T (.loop c) VE B fs R:=fun H0 X0 P Hs E H β G=>by
 refine aaV (fun k E H=>∃VE B fs β,fU H0 X0 P Hs VE B fs E H β∧I k VE B fs) (fun k E H M=>?_) k E H ⟨VE,B,fs,β,G,h0⟩;obtain⟨VE,B,fs,β,G,hi⟩:=M;refine(L k VE B fs hi H0 X0 P Hs E H β G).mono fun x E' H' A=>?_
 obtain⟨bh,B',cX,β',z,A⟩:=A
 cases x with
 |normal=>obtain⟨j,O,h2⟩:=A;exact⟨fun _=>⟨j,O,bh,B',cX,β',z,h2⟩,fun e=>absurd rfl e⟩
 |exit id=>exact⟨fun e=>(by cases e),fun _=>⟨bh,B',cX,β',z,A⟩⟩
 |ret=>exact⟨fun e=>(by cases e),fun _=>⟨bh,B',cX,β',z,A⟩⟩
theorem vod_op{d:Key}{qq:Option (List Nat)}{op:bq}{r:List bk}{W:List Nat}{Q:bb→aK→de→Prop}(h:VI T op VE B W fun v B'=>sN T r ((d.n,v)::VE) B' fs Q):sN T (⟨some d,none,qq,op⟩::r) VE B fs Q:=fun H0 X0 P Hs E H β A=>by
 refine QI ((h H0 (XF X0 fs) E H β A.rel).mono fun a H' G=>?_);obtain⟨v,B',β',I,z,L,M⟩:=G;exact M H0 X0 P Hs _ H' β' (A.vS I (z.set L))
theorem Uv{X0 z:Nat→Prop}{B B':aK}{β β':Nat→Nat}(h:∀f,XB X0 B β f↔XB z B' β' f):XB X0 B β=XB z B' β':=funext fun f=>propext (h f)
theorem Qs{f g:Nat}{s:BS}:pM (fs++[(g,s)]) f↔pM fs f∨f=g:=by
 constructor
 ·rintro⟨t,h⟩;rcases List.mem_append.1 h with h|h
  ·exact .inl ⟨t,h⟩
  rcases List.mem_singleton.1 h with e;cases e;exact .inr rfl
 rintro(⟨t,h⟩|rfl)
 ·exact⟨t,Vz _ h⟩
 exact⟨s,Ns _ (List.mem_singleton.2 aa)⟩
theorem Ft{f g:Nat}{s:BS}:pM ((g,s)::fs) f↔pM fs f∨f=g:=by
 constructor
 ·rintro⟨t,h⟩;rcases List.mem_cons.1 h with h|h
  ·cases h;exact .inr rfl
  exact .inl ⟨t,h⟩
 rintro(⟨t,h⟩|rfl)
 ·exact⟨t,pG _ h⟩
 exact⟨s,jw ..⟩
theorem fU.give(A:fU H0 X0 P Hs VE B fs E H β){b:Nat}{s t:BS}(Y:aF B b=some s)(hs:s.born)(ht:t.born)(hd:t.gB)(ER:∀X,db H X β (β b) s→db H X β (β b) t):fU H0 X0 P Hs VE (cQ B b) (fs++[(β b,t)]) E H β:=by
 have z:∀c u,aF (cQ B b) c=some u↔b≠c∧aF B c=some u:=fun c u=>by
  rw[jb]
  by_cases e:b=c
  ·rw[bg e];exact⟨fun h=>by(cases h),fun h=>absurd e h.1⟩
  rw[aZ e];exact⟨fun h=>⟨e,h⟩,fun h=>h.2⟩
 have G:∀f,XF X0 (fs++[(β b,t)]) f↔XF X0 fs f∨f=β b:=fun f=>by
  unfold XF;rw[Qs,or_assoc]
 have hX:XB (XF X0 (fs++[(β b,t)])) (cQ B b) β=XB (XF X0 fs) B β:=Uv fun f=>by
  constructor
  ·rintro(k|⟨c,u,M,L,U⟩)
   ·rcases(G f).1 k with k|rfl
    ·exact .inl k
    exact .inr ⟨b,s,Y,hs,aa⟩
   exact .inr ⟨c,u,((z c u).1 M).2,L,U⟩
  rintro(k|⟨c,u,M,L,U⟩)
  ·exact .inl ((G f).2 (.inl k))
  by_cases e:b=c
  ·subst e;exact .inl ((G f).2 (.inr U.symm))
  exact .inr ⟨c,u,(z c u).2 ⟨e,M⟩,L,U⟩
 have O:=A.rel.new b s Y hs;refine⟨A.aR,A.next,A.mn,A.ws,A.jE,⟨A.rel.jD,A.rel.aR,fun f I=>?_,fun c u Z hu=>?_,fun c e u v Z he hu hv=>A.rel.inj c e u v ((z c u).1 Z).2 ((z e v).1 he).2 hu hv,fun k v hk=>?_,fun c u Z=>?_⟩,fun f I=>?_,?_,fun f u I=>?_,fun f I=>?_⟩
 ·rcases(G f).1 I with k|rfl
  ·exact A.rel.x0 f k
  exact O.2
 ·obtain⟨M,L⟩:=(z c u).1 Z;have:=A.rel.new c u L hu;refine⟨fun k=>?_,this.2⟩;rcases(G _).1 k with k|k
  ·exact this.1 k
  exact M (A.rel.inj c b u s L Y hu hs k).symm
 ·rw[hX];exact A.rel.env k v hk
 ·rw[hX];exact A.rel.box c u ((z c u).1 Z).2
 ·rcases Qs.1 I with k|rfl
  ·exact A.out f k
  exact fun k=>O.1 (.inl k)
 ·rw[oO,List.map_singleton,List.nodup_append];refine⟨A.nodup,by simp,fun x hx y hy e=>?_⟩;rw[VB] at hy;obtain⟨⟨g,u⟩,h1,rfl⟩:=List.mem_map.1 hx;exact O.1 (.inr ⟨u,(show g=β b from e.trans hy)▸h1⟩)
 ·rw[hX];rcases List.mem_append.1 I with h|h
  ·exact A.own f u h
  rcases List.mem_singleton.1 h with e
  cases e
  exact⟨hd,ht,(ER _ (A.rel.box b s Y)).agO hd⟩
 rcases I with I|⟨c,u,M,L,U⟩
 ·rcases Qs.1 I with k|rfl
  ·exact A.new f (.inl k)
  exact A.new _ (.inr ⟨b,s,Y,hs,aa⟩)
 exact A.new f (.inr ⟨c,u,((z c u).1 M).2,L,U⟩)
theorem fU.take{f:Nat}{s:BS}(A:fU H0 X0 P Hs VE B ((f,s)::fs) E H β)(b:Nat)(hE:mz b VE=true)(hB:jC b B=true):∃β',fU H0 X0 P Hs VE ((b,.bP f s)::B) fs E H β':=by
 let β':Nat→Nat:=fun c=>if c=b then f else β c
 have I:β' b=f:=bg rfl;have z:∀c,c≠b→β' c=β c:=fun c G=>aZ G
 have O:∀c t,aF ((b,.bP f s)::B) c=some t→(c=b∧t= .bP f s)∨(c≠b∧aF B c=some t∧t.no b=true):=fun c t G=>by
  rw[c7] at G
  by_cases e:b=c
  ·rw[bg e] at G;cases G;exact .inl ⟨e.symm,rfl⟩
  rw[aZ e] at G;exact .inr ⟨fun k=>e k.symm,G,(CC hB G).2⟩
 obtain⟨hd,ho,Pe⟩:=A.own f s (jw ..);have L:∀g,XF X0 ((f,s)::fs) g↔XF X0 fs g∨g=f:=fun g=>by
  unfold XF;rw[Ft,or_assoc]
 have hX:XB (XF X0 fs) ((b,.bP f s)::B) β'=XB (XF X0 ((f,s)::fs)) B β:=Uv fun g=>by
  constructor
  ·rintro(k|⟨c,u,Z,k2,k3⟩)
   ·exact .inl ((L g).2 (.inl k))
   rcases O c u Z with⟨rfl,rfl⟩|⟨U,Y,_⟩
   ·exact .inl ((L g).2 (.inr (by rw[←k3,I])))
   exact .inr ⟨c,u,Y,k2,by rw[←k3,z c U]⟩
  rintro(k|⟨c,u,Z,k2,k3⟩)
  ·rcases(L g).1 k with k|rfl
   ·exact .inl k
   exact .inr ⟨b,.bP g s,by rw[c7,bg rfl],ho,I⟩
  have Pb:=(CC hB Z).1;exact .inr ⟨c,u,by rw[c7,aZ fun e=>Pb e.symm];exact Z,k2,by rw[z c Pb];exact k3⟩
 have JM:f<H.next:=A.rel.x0 f (.inr ⟨s,jw ..⟩);have hnd:f∉fs.map (·.1)∧(fs.map (·.1)).Nodup:=by
  have:=A.nodup;rw[jv,List.nodup_cons] at this;exact this
 have hnf:¬pM fs f:=fun⟨u,h⟩=>hnd.1 (List.mem_map.2 ⟨(f,u),h,rfl⟩)
 refine⟨β',A.aR,A.next,A.mn,A.ws,A.jE,⟨fun c G=>?_,A.rel.aR,fun g O=>A.rel.x0 g ((L g).2 (.inl O)),fun c u G hu=>?_,fun c e u v G he hu hv M=>?_,fun k v hk=>?_,fun c u G=>?_⟩,fun g O=>A.out g (Ft.2 (.inl O)),hnd.2,fun g u hgu=>?_,fun g JE=>?_⟩
 ·exact(z c fun e=>by rw[e,QJ hB] at G;cases G).trans (A.rel.jD c G)
 ·rcases O c u G with⟨rfl,rfl⟩|⟨U,Y,_⟩
  ·rw[I];exact⟨fun k=>k.elim (A.out f (Ft.2 (.inr aa))) hnf,JM⟩
  rw[z c U];have:=A.rel.new c u Y hu;exact⟨fun k=>this.1 ((L _).2 (.inl k)),this.2⟩
 ·rcases O c u G with⟨rfl,rfl⟩|⟨U,Y,_⟩<;>rcases O e v he with⟨rfl,rfl⟩|⟨n1,n2,_⟩
  ·rfl
  ·rw[I,z e n1] at M;exact absurd ((L _).2 (.inr M.symm)) (A.rel.new e v n2 hv).1
  ·rw[I,z c U] at M;exact absurd ((L _).2 (.inr M)) (A.rel.new c u Y hu).1
  rw[z c U,z e n1] at M;exact A.rel.inj c e u v Y n2 hu hv M
 ·rw[hX];obtain⟨a,Z,k2⟩:=A.rel.env k v hk;exact⟨a,Z,aE.no (KX hE hk) k2⟩
 ·rw[hX];rcases O c u G with⟨rfl,rfl⟩|⟨U,Y,m3⟩
  ·rw[I];exact⟨fun _=>aa,Pe.agO hd⟩
  rw[z c U];exact db.VS m3 (A.rel.box c u Y)
 ·rw[hX];exact A.own g u (pG _ hgu)
 rcases JE with JE|⟨c,u,Z,k2,k3⟩
 ·exact A.new g (.inl (Ft.2 (.inl JE)))
 rcases O c u Z with⟨rfl,rfl⟩|⟨U,Y,_⟩
 ·exact A.new g (.inl (Ft.2 (.inr (by rw[←k3,I]))))
 exact A.new g (.inr ⟨c,u,Y,k2,by rw[←k3,z c U]⟩)
theorem fU.perm{cX:de}(z:fU H0 X0 P Hs VE B fs E H β)(I:fs.Perm cX):fU H0 X0 P Hs VE B cX E H β:=by
 have L:∀f,pM cX f↔pM fs f:=fun f=>⟨fun⟨s,h⟩=>⟨s,I.mem_iff.2 h⟩,fun⟨s,h⟩=>⟨s,I.mem_iff.1 h⟩⟩
 have A:XF X0 cX=XF X0 fs:=funext fun f=>propext (by unfold XF;rw[L])
 refine⟨z.aR,z.next,z.mn,z.ws,z.jE,by rw[A];exact z.rel,fun f G=>z.out f ((L f).1 G),(I.map _).nodup_iff.1 z.nodup,fun f s G=>by rw[A];exact z.own f s (I.mem_iff.2 G),fun f G=>z.new f (G.imp (L f).1 id)⟩
theorem ent_perm{cX:de}{R:bb→aK→de→Prop}(z:fs.Perm cX)(h:jR VE B cX R):jR VE B fs R:=fun H0 X0 P Hs E H β A=>h H0 X0 P Hs E H β (A.perm z)
theorem xf{f:Nat}{s:BS}{R:bb→aK→de→Prop}(b:Nat)(A:mz b VE=true)(G:jC b B=true)(h:jR VE ((b,.bP f s)::B) fs R):jR VE B ((f,s)::fs) R:=fun H0 X0 P Hs E H β I=>by
 obtain⟨β',z⟩:=I.take b A G;exact h H0 X0 P Hs E H β' z
def BS.as:BS→BS→Prop
 |.arr e b n _ rows,t=>t= .arr e b n rows.length rows
 |.acc e b n rows,t=>t= .arr e b n rows.length rows
 |.one e b row,t=>t= .one e b row
 |.bP _ _,_=>False
theorem db.as{H:ax}{X:Nat→Prop}{β:Nat→Nat}{f:Nat}:∀{s t:BS},s.as t→s.born→db H X β f s→db H X β f t
 |.one _ _ _,_,rfl,_,h=>h
 |.arr _ _ _ _ _,_,rfl,_,⟨z,cs,A,h2,G,I⟩=>⟨z,cs,A,eO h2 G,bf _,I⟩
 |.acc _ _ _ _,_,rfl,ho,h=>by
  rcases h with h|⟨lo,cs,A,h2,G⟩
  ·exact absurd h ho
  exact⟨lo,cs,A,h2,bf _,G⟩
 |.bP _ _,_,h,_,_=>absurd h fun k=>k
theorem BS.as_born:∀{s t:BS},s.as t→t.born
 |.one _ _ _,_,rfl=>trivial
 |.arr _ _ _ _ _,_,rfl=>trivial
 |.acc _ _ _ _,_,rfl=>trivial
 |.bP _ _,_,h=>absurd h fun k=>k
theorem xg{f:Nat}{s t:BS}{R:bb→aK→de→Prop}(b:Nat)(G:aF B b=some (.bP f s))(A:s.born)(L:t.gB)(z:s.as t)(h:jR VE (cQ B b) (fs++[(f,t)]) R):jR VE B fs R:=fun H0 X0 P Hs E H β I=>by
 have e:=I.rel.pinned G A;have:=I.give (t:=t) G A (BS.as_born z) L fun X M=>db.as z A M.2
 rw[e] at this;exact h H0 X0 P Hs E H β this
theorem ab6{s:BS}{R:bb→aK→de→Prop}(b:Nat)(z:aF B b=some s)(h:∀f,jR VE ((b,.bP f s)::B) fs R):jR VE B fs R:=fun H0 X0 P Hs E H β A=>
 h (β b) H0 X0 P Hs E H β (A.vS (W:=fun _=>False) ⟨rfl,bf _,fun _ h=>.inl h,fun c t G I=>.inl (by obtain⟨u,L,M⟩:=jH (s':=.bP (β b) s) z ga c t G I;exact⟨u,L,M,rfl⟩),fun _ _ _=>rfl⟩ (A.rel.nN z ga fun _ k=>⟨fun _=>rfl,k⟩))
theorem Cv{R:bb→aK→de→Prop}{k:Nat}{v v':VV}(A:aF VE k=some v)(G:∀H X β a,(∀b f s,aF B b=some (.bP f s)→s.born→β b=f)→aE H X β v a→aE H X β v' a)(h:jR ((k,v')::VE) B fs R):jR VE B fs R:=fun H0 X0 P Hs E H β z=>
 h H0 X0 P Hs E H β (z.of (z.rel.slot A fun a I=>G H _ β a (fun _ _ _ L h2=>z.rel.pinned L h2) I))
theorem ZL{R:bb→aK→de→Prop}(b i g elem aD es:Nat){e A:Nat}{row:List VV}(G:aF B b=some (.one e A row))(hi:row[i]?=some (.d .nil))(M:aF B g=none)(h:jR VE ((g,.acc elem aD es [])::(b,.one e A (row.set i (.ac g 0 es)))::B) fs R):jR VE B fs R:=fun H0 X0 P Hs E H β I=>
 h H0 X0 P Hs E H β (I.vS (W:=fun _=>False) ⟨rfl,bf _,fun _ h=>.inl h,fun c s z ho=>by
  rw[c7] at z
  by_cases L:g=c
  ·rw[bg L] at z;cases z;exact absurd rfl ho
  rw[aZ L,c7] at z
  by_cases k:b=c
  ·subst k;exact .inl ⟨_,G,trivial,rfl⟩
  rw[aZ k] at z;exact .inl ⟨s,z,ho,rfl⟩,fun _ _ _=>rfl⟩ (I.rel.aei G hi M))
theorem vod_opN{qq:Option (List Nat)}{op:bq}{r:List bk}{W:List Nat}{Q:bb→aK→de→Prop}(h:VI T op VE B W fun _ B'=>sN T r VE B' fs Q):sN T (⟨none,none,qq,op⟩::r) VE B fs Q:=fun H0 X0 P Hs E H β A=>by
 refine aab ((h H0 (XF X0 fs) E H β A.rel).mono fun a H' G=>?_);obtain⟨v,B',β',I,z,M,L⟩:=G;exact L H0 X0 P Hs _ H' β' (A.vS I z)
theorem agP(n:Nat){ops:List bk}{bh:bb}{B':aK}{r:List bk}{Q:bb→aK→de→Prop}(h:tD n ops VE B=some (bh,B',r))(k:sN T r bh B' fs Q):sN T ops VE B fs Q:=by
 induction n generalizing ops VE B with
 |zero=>cases h;exact k
 |succ n A=>
  cases ops with
  |nil=>cases h
  |cons o rest=>
   obtain⟨d,g,q,op⟩:=o
   cases g with
   |some _=>cases h
   |none=>
    cases d with
    |some d=>
     simp only[tD] at h
     split at h
     ·rename_i v B1 W z;exact vod_op (iI z (A h))
     cases h
    |none=>
     simp only[tD] at h
     split at h
     ·rename_i v B1 W z;exact vod_opN (iI z (A h))
     cases h
theorem Rj{Q:bb→aK→de→Prop}(h:Q VE B fs):sN T [] VE B fs Q:=vod_vo (qs h)
theorem bY.sameB{f:Nat}{args:List VV}{Bi z:aK}{Q:VV→aK→Prop}(h:bY T f args Bi Q)(e:∀b,aF z b=aF Bi b):bY T f args z Q:=fun H0 X H β l G A=>by
 have I:XB X z β=XB X Bi β:=funext fun f=>by simp only[XB,e]
 rw[I] at A;refine(h H0 X H β l (G.Ds fun k s L=>by rw[e];exact L) A).mono fun a H' M=>?_
 obtain⟨r,B',β',O,k⟩:=M;exact⟨r,B',β',O.more fun b s U h2=>⟨s,by rw[e];exact U,h2⟩,k⟩
def Gx(T:aM)(f:Nat)(args:List VV)(fs:de)(Q:VV→de→Prop):Prop:=
 ∀H0 X0 P Hs H β l,fU H0 X0 P Hs [] [] fs .emp H β→bc H (XB (XF X0 fs) [] β) β args l→uo T f l H fun a H'=>∃r cX β',fU H0 X0 P Hs [] [] cX .emp H' β'∧r.nb∧aE H' (XB (XF X0 cX) [] β') β' r a∧Q r cX
def RetD(rs:List jO)(P:VV→de→Prop):Ex→bb→aK→de→Prop
 |.exit _,_,_,_=>False
 |_,VE,B,fs=>∃vs,rU VE B rs=some vs∧lq vs∧P (md vs) fs
theorem fU.bare(z:fU H0 X0 P Hs VE B fs E H β):fU H0 X0 P Hs [] [] fs .emp H β:=
 z.vS (W:=fun _=>False) ⟨rfl,bf _,fun _ h=>.inl h,fun _ _ k=>(by cases k),fun _ _ _=>rfl⟩ {z.rel.Ds (B':=[]) (fun _ _ k=>by cases k) with env:=fun _ _ k=>by cases k}
theorem fU.agQ(A:fU H0 X0 P Hs VE B fs E H β){v:VV}{a:aj}(h:aE H (XB (XF X0 fs) B β) β v a):aE H (XB (XF X0 fs) [] β) β v a:=
 h.lift ⟨bf _,fun f _ z=>⟨fun k=>z (.inl (Gv f k)),rfl⟩⟩
theorem Qt{f:Nat}{fn:aO}{args:List VV}{Q:VV→de→Prop}(Z:T.ft.get f=some fn)(U:fn.ps.length=args.length)(h:VD T fn.body (Ef fn.ps args []) [] fs (RetD fn.res Q)):Gx T f args fs Q:=by
 intro H0 X0 P Hs H β l h0 z;have hr:=QL (ks:=fn.ps) h0.rel z U;refine aeb Z (by rw[U,z.length]) ((h H0 X0 P Hs _ H β (h0.of hr)).mono fun x E' H' hp=>?_);obtain⟨bh,B',cX,β',I,L⟩:=hp;have key:(∃vs,rU bh B' fn.res=some vs∧lq vs∧Q (md vs) cX)→∃v,results E' H' fn.res= .ok v H'∧∃r cX β',fU H0 X0 P Hs [] [] cX .emp H' β'∧r.nb∧aE H' (XB (XF X0 cX) [] β') β' r v∧Q r cX:=by
  rintro⟨vs,k1,M,O⟩;obtain⟨l',G,k5⟩:=Qm I.rel k1;have A:results E' H' fn.res=List.rec (motive:=fun _=>aC) (.ok (.tuple []) H') (fun v r _=>List.rec (motive:=fun _=>aC) (.ok v H') (fun _ _ _=>.ok (.tuple (v::r)) H') r) l':=k5
  cases vs with
  |nil=>
   simp only[bc] at G;subst G;exact⟨_,A,md [],cX,β',I.bare,F3 M,by simp only[md,aE,bc];exact⟨[],rfl,rfl⟩,O⟩
  |cons v r=>
   cases r with
   |nil=>
    simp only[bc] at G;obtain⟨a,s,rfl,Y,rfl⟩:=G;exact⟨_,A,_,cX,β',I.bare,F3 M,I.agQ Y,O⟩
   |cons w r=>
    have k8:=G;simp only[bc] at G;obtain⟨a,s,rfl,Y,a2,s2,rfl,_⟩:=G;exact⟨_,A,_,cX,β',I.bare,F3 M,I.agQ (v:=md (v::w::r)) (by simp only[md,aE];exact⟨_,rfl,k8⟩),O⟩
 cases x with
 |exit id=>exact absurd L (fun h=>h)
 |normal=>exact⟨fun _ h=>(by cases h),key L⟩
 |ret=>exact⟨fun _ h=>(by cases h),key L⟩
theorem Qu{d:Key}{qq:Option (List Nat)}{f:Nat}{l:List aG}{args:List VV}{r:List bk}{R:VV→de→Prop}{Q:bb→aK→de→Prop}(hl:qC VE l=some args)(hn:lq args)(h:Gx T f args fs R)(hq:∀v cX,v.nb→R v cX→sN T r ((d.n,v)::VE) B cX Q):sN T (⟨some d,none,qq,.call f l⟩::r) VE B fs Q:=fun H0 X0 P Hs E H β A=>by
 obtain⟨vs,h1,h2⟩:=Co A.rel hl
 let Xc:Nat→Prop:=fun f=>X0 f∨∃b s,aF B b=some s∧s.born∧β b=f
 have Y:∀cX β',XB (XF Xc cX) [] β'=XB (XF X0 cX) B β:=fun cX β'=>Uv fun f=>by
  constructor
  ·intro k;rcases Gv f k with(k|k)|k
   ·exact .inl (.inl k)
   ·exact .inr k
   exact .inl (.inr k)
  rintro((k|k)|k)
  ·exact .inl (.inl (.inl k))
  ·exact .inl (.inr k)
  exact .inl (.inl (.inr k))
 have M:∀b s,aF B b=some s→s.born→¬pM fs (β b):=fun b s L I k=>(A.rel.new b s L I).1 (.inr k)
 have stc:fU β Xc (pM fs) H [] [] fs .emp H β:=⟨rfl,bf _,A.rel.aR,fun _ h=>.inl h,fun _ _ _=>rfl,
  ⟨fun _ _=>rfl,A.rel.aR,fun f G=>by
   rcases G with(k|⟨b,s,L,I,rfl⟩)|k
   ·exact A.rel.x0 f (.inl k)
   ·exact(A.rel.new b s L I).2
   exact A.rel.x0 f (.inr k),fun _ _ k=>(by cases k),fun _ _ _ _ k=>(by cases k),fun _ _ k=>(by cases k),fun _ _ k=>(by cases k)⟩,
  fun f G k=>by
   rcases k with k|⟨b,s,L,I,rfl⟩
   ·exact A.out f G k
   ·exact M b s L I G,A.nodup,fun f s G=>by rw[Y];exact A.own f s G,fun f G=>by
   rcases G with G|⟨_,_,k,_⟩
   ·exact .inl G
   cases k⟩
 refine QI (QH h1 ((h β Xc (pM fs) H H β vs stc (by rw[Y];exact h2.nb hn)).mono fun a H' Z=>?_));obtain⟨v,cX,β',z,O,hv,k6⟩:=Z;rw[Y] at hv;have hv:=aE.nb (β':=β) O hv;have hmm:=A.aR;have hmn:=A.mn;have hnx:=A.next;have hnx2:=z.next
 have U:eP H (XB (XF X0 fs) B β) H' (XB (XF X0 cX) B β):=⟨z.next,fun f G hx=>⟨fun k=>by
  rcases k with(k|k)|k
  ·exact hx (.inl (.inl k))
  ·rcases z.new f (.inl k) with k|k
   ·exact hx (.inl (.inr k))
   omega
  exact hx (.inr k),z.jE f G fun k=>hx (.inl (.inr k))⟩⟩
 have n7:Rel H0 (XF X0 cX) VE B E H' β:=by
  refine⟨A.rel.jD,z.rel.aR,fun f G=>?_,fun b s L I=>⟨fun k=>?_,jh (A.rel.new b s L I).2 z.next⟩,A.rel.inj,fun k w hk=>?_,fun b s hb=>?_⟩
  ·rcases G with k|k
   ·exact z.rel.x0 f (.inl (.inl k))
   exact z.rel.x0 f (.inr k)
  ·rcases k with k|k
   ·exact(A.rel.new b s L I).1 (.inl k)
   exact z.out _ k (.inr ⟨b,s,L,I,aa⟩)
  ·obtain⟨a,m1,m2⟩:=A.rel.env k w hk;exact⟨a,m1,m2.lift U⟩
  exact(A.rel.box b s hb).Dq U fun ho=>z.jE _ (A.rel.new b s hb ho).2 (M b s hb ho)
 refine hq v cX O k6 H0 X0 P Hs _ H' β ⟨z.aR.trans A.aR,eO A.next z.next,A.mn,fun f G=>?_,fun f G Z=>?_,n7.set hv,fun f G k=>z.out f G (.inl k),z.nodup,fun f s G=>?_,fun f G=>?_⟩
 ·rcases z.ws f G with k|⟨L,I⟩
  ·exact A.ws f k
  rcases A.new f (.inl I) with k|k
  ·exact .inr ⟨al,k⟩
  omega
 ·rw[z.jE f al fun k=>(A.new f (.inl k)).elim Z fun k=>by omega,A.jE f G Z]
 ·have:=z.own f s G;rw[Y] at this;exact this
 rcases G with G|G
 ·rcases z.new f (.inl G) with k|k
  ·exact A.new f (.inl k)
  exact .inr al
 exact A.new f (.inr G)
theorem vc_of_vd{c:IC}{R:Ex→bb→aK→Prop}(h:VD T c VE [] [] fun x bh B' _=>R x bh B'):VC T c VE [] R:=fun H0 X0 E H β L=>by
 have O:XF X0 []=X0:=funext fun f=>propext ⟨fun k=>k.elim id fun⟨_,k⟩=>(by cases k),.inl⟩
 have U:fU H0 X0 (fun _=>False) H VE [] [] E H β:=⟨rfl,bf _,L.aR,fun _ h=>.inl h,fun _ _ _=>rfl,by rw[O];exact L,fun _⟨_,k⟩=>(by cases k),List.nodup_nil,fun _ _ k=>(by cases k),fun f A=>by
  rcases A with⟨_,k⟩|⟨_,_,k,_⟩<;>cases k⟩
 refine(h H0 X0 _ H E H β U).mono fun x E' H' Y=>?_
 obtain⟨bh,B',cX,β',z,Z⟩:=Y;refine⟨bh,B',β',⟨z.aR,z.next,fun f A=>(z.ws f A).imp id fun k=>absurd k.2 id,fun b s G I=>.inr ((z.new _ (.inr ⟨b,s,G,I,aa⟩)).elim (fun k=>absurd k id) id),fun f A _=>z.jE f A id⟩,?_,Z⟩;have M:eP H' (XB (XF X0 cX) B' β') H' (XB X0 B' β'):=⟨bf _,fun f _ hx=>⟨fun k=>hx (k.imp .inl id),rfl⟩⟩
 exact⟨z.rel.jD,z.rel.aR,fun f A=>z.rel.x0 f (.inl A),fun b s G I=>⟨fun k=>(z.rel.new b s G I).1 (.inl k),(z.rel.new b s G I).2⟩,z.rel.inj,fun k v hk=>by
  obtain⟨a,m1,m2⟩:=z.rel.env k v hk
  exact⟨a,m1,m2.lift M⟩,fun b s hb=>(z.rel.box b s hb).lift M aa⟩
theorem rO{ops:List bk}{Q:bb→aK→Prop}(k:Nat){v:VV}(v':VV)(A:aF VE k=some v)(G:∀H X β a,(∀b f s,aF B b=some (.bP f s)→s.born→β b=f)→aE H X β v a→aE H X β v' a)(h:VO T ops ((k,v')::VE) B Q):VO T ops VE B Q:=fun H0 X0 E H β z=>
 h H0 X0 E H β (z.slot A fun a I=>G H _ β a (fun _ _ _ L h2=>z.pinned L h2) I)
theorem bc.IL{H:ax}{X:Nat→Prop}{β:Nat→Nat}{x A:VV}(G:∀a,aE H X β x a→aE H X β A a):∀{l:List VV}{s:List aj}{i:Nat},l[i]?=some x→bc H X β l s→bc H X β (l.set i A) s
 |[],_,_,hi,_=>by simp at hi
 |v::r,_,0,hi,h=>by
  simp only[bc,agx] at h⊢;obtain⟨a,s,rfl,z,h2⟩:=h;simp at hi;subst hi;exact⟨a,s,aa,G a z,h2⟩
 |v::r,_,i+1,hi,h=>by
  simp only[bc,agy] at h⊢;obtain⟨a,s,rfl,z,h2⟩:=h;exact⟨a,s,rfl,z,bc.IL G (by simpa using hi) h2⟩
theorem K2{H:ax}{X:Nat→Prop}{β:Nat→Nat}{x z:VV}{l:List VV}{i:Nat}{a:aj}(hi:l[i]?=some x)(A:∀a,aE H X β x a→aE H X β z a)(h:aE H X β (.agg l) a):aE H X β (.agg (l.set i z)) a:=by
 simp only[aE] at h⊢;obtain⟨cs,e,h⟩:=h;exact⟨cs,e,bc.IL A hi h⟩
section
variable{X:Nat→Prop}{b f n es o:Nat}{a:aj}
theorem raw_bs(e:β b=f)(h:aE H X β (.bs b n es) a):aE H X β (.d (.raw f n es)) a:=by
 simp only[aE,bF] at h⊢;rw[h,e]
theorem Gy(e:β b=f)(h:aE H X β (.d (.raw f n es)) a):aE H X β (.bs b n es) a:=by
 simp only[aE,bF] at h⊢;rw[h,e]
theorem raw_ac(e:β b=f)(h0:0<n)(h:aE H X β (.ac b n es) a):aE H X β (.d (.raw f n es)) a:=by
 simp only[aE,bF] at h⊢;rcases h with⟨h,_⟩|⟨_,h⟩
 ·omega
 rw[h,e]
theorem Sk(h:aE H X β (.ac b 0 es) a):aE H X β (.d .nil) a:=by
 simp only[aE,bF] at h⊢;rcases h with⟨_,h⟩|⟨h,_⟩
 ·exact h
 omega
theorem ael(e:β b=f)(h:aE H X β (.vp b o) a):aE H X β (.k (.ptr f 1 o)) a:=by
 simp only[aE] at h⊢;rw[h,e]
theorem LD(e:β b=f)(h:aE H X β (.k (.ptr f 1 o)) a):aE H X β (.vp b o) a:=by
 simp only[aE] at h⊢;rw[h,e]
end
theorem Kl{Q:VV→aK→Prop}{a:aG}{b o elem aD f:Nat}{row:List VV}{v:VV}(A:a.vv VE=some (.vp b o))(G:aF B b=some (.bP f (.one elem aD row)))(I:row[o]?=some v)(L:Q v B):VI T (.load 1 false a) VE B [] Q:=fun _ _ _ _ _ z=>by
 obtain⟨_,M,h2⟩:=z.bI A;simp only[aE] at h2;subst h2;obtain⟨l,O,U⟩:=(z.box b _ G).2.Cj;obtain⟨y,Y,Z⟩:=U.get I;exact zE M O (by rw[qQ,fh]) Y (dA z Z L)
theorem ZM{Q:VV→aK→Prop}{a:aG}{b g j o es elem aD lo f:Nat}{rows:ai}{row:List DC}{x:DC}(G:a.vv VE=some (.bp b g j o es))(I:aF B b=some (.bP f (.arr elem aD es lo rows)))(L:lo≤g)(h2:g≤rows.length)(M:j<g)(O:rows[j]?=some row)(U:row[o]?=some x)(Y:Q (.d x) B):VI T (.load 1 false a) VE B [] Q:=fun _ _ _ _ _ z=>by
 obtain⟨_,Z,A⟩:=z.bI G;simp only[aE] at A;subst A;obtain⟨l,k3,k4,k5⟩:=(z.box b _ I).2.cells L h2 M O;obtain⟨y,k6,k7⟩:=k5.get U;exact zE Z k3 (by rw[k4]) k6 (dA z (v:=.d x) (by simp only[aE];exact k7) Y)
variable{Q:VV→aK→Prop}
theorem vi_storePB{n:Nat}{a x:aG}{b j o es elem aD lo f:Nat}{rows:ai}{row z:List DC}{v:VV}{new:List VV}(ha:a.vv VE=some (.bp b rows.length j o es))(M:aF B b=some (.bP f (.arr elem aD es lo rows)))(hx:x.vv VE=some v)(hv:v.cells=some new)(hd:gA new=some z)(O:z.length=n)(h0:0<n)(hk:o+n≤es)
  (hj:rows[j]?=some row) (hq:Q .undef ((b,.bP f (.arr elem aD es rows.length (rows.set j (jQ row o z))))::B)):VI T (.store n a x) VE B [b] Q:=fun _ X0 _ H β A=>by
 obtain⟨_,h1,h2⟩:=A.bI ha;simp only[aE] at h2;subst h2;obtain⟨y,h3,h4⟩:=A.bI hx;obtain⟨t,h5,L⟩:=h4.cells hv;have L:=L.data hd;have U:=A.pinned M trivial;obtain⟨sK,cs,k1,k2,k3,k4⟩:=(A.box b _ M).2;obtain⟨l,k5,k6,k7⟩:=k4 j row hj;have G:=(List.getElem?_eq_some_iff.1 hj).1;have ht:t.length=n:=by rw[L.length,O]
 have Y:=k7.length;have e:=fun K=>HE (e:=aC.err 5) (K:=K) (q:=j) (o:=o) (n:=n) (new:=t) k1 al G k5 k6 ht h0 hk
 refine⟨0,.undef,_,fun lf m _ _=>by rw[KH h1 h3 h5,e],?_⟩;refine zF (s':=.bP f (.arr elem aD es rows.length (rows.set j (jQ row o z)))) A M trivial rfl (fun g hf=>?_) rfl rfl (fun X j1 Z=>⟨fun _=>U,?_⟩) (fun X=>by simp only[aE]) hq
 ·show(H.t.set (β b) _).get g=_;rw[GT.da,aZ hf]
 have hlen:(bif Nat.beq n es then t else ed l o t).length=es:=by
  cases hbq:Nat.beq n es with
  |true=>have:=cU hbq;show t.length=_;omega
  |false=>show(ed l o t).length=_;simp only[ed,eT,ju,qz];omega
 refine⟨rows.length,cs.set j (bif Nat.beq n es then t else ed l o t),?_,bf _,by rw[lA];exact bf _,fun i I hi=>?_⟩
 ·show(H.t.set (β b) _).get (β b)=_;rw[GT.da,bg rfl,lA]
 rw[RT.da];rw[Mj] at hi
 by_cases ei:i=j
 ·subst ei;rw[bg rfl,bg G] at hi
  cases hi
  rw[bg rfl];refine⟨_,aa,hlen,?_⟩;have h7:=Z _ _ L;have h8:=Z _ _ k7;have h9:=h8.ed o h7;unfold jQ;rw[O,←Y,k6];rw[O] at h9;exact bX.bif h7 h9
 rw[aZ (fun k=>ei k.symm)] at hi;rw[aZ ei];obtain⟨l',m1,m2,m3⟩:=k4 i I hi;exact⟨l',m1,m2,Z _ _ m3⟩
theorem bY.pinned{f:Nat}{args:List VV}{Bi:aK}{Q Q':VV→aK→Prop}{c g:Nat}{s:BS}(hp:ke c=true)(A:aF Bi c=some (.bP g s))(hs:s.born)(h:bY T f args ((c,s)::Bi) Q)(hq:∀r B,Q r B→∃s',aF B c=some s'∧Q' r ((c,.bP g s')::B)):bY T f args Bi Q':=fun H0 X H β l G hv=>by
 have e:=G.pinned A hs;have I:Rel H0 X [] ((c,s)::Bi) .emp H β:=G.nN A ga fun _ k=>k.2
 have hl:eP H (XB X Bi β) H (XB X ((c,s)::Bi) β):=⟨bf _,fun f _ L=>⟨fun k=>L (k.imp id fun⟨d,t,M,ho,h2⟩=>by obtain⟨u,O,U⟩:=jH (s':=s) A ga d t M ho;exact⟨d,u,O,U,h2⟩),rfl⟩⟩;refine(h H0 X H β l I (hv.lift hl)).mono fun a H' Y=>?_
 obtain⟨r,B',β',hw,z,Z,k6⟩:=Y;obtain⟨s',k7,k8⟩:=hq r B' k6;have e':β' c=g:=by rw[z.jD c hp,←G.jD c hp,e]
 have hl':eP H' (XB X B' β') H' (XB X ((c,.bP g s')::B') β'):=⟨bf _,fun f _ L=>⟨fun k=>L (k.imp id fun⟨d,t,M,ho,h2⟩=>by obtain⟨u,O,U⟩:=jH (s':=.bP g s') k7 ga d t M ho;exact⟨d,u,O,U,h2⟩),rfl⟩⟩;exact⟨r,_,β',(hw.more (jH (s':=s) A ga)).Mt (jH (s':=.bP g s') k7 ga),z.nN (s':=.bP g s') k7 ga (fun _ k=>⟨fun _=>e',k⟩),Z.lift hl',k8⟩
end
end Go.Ev
