/- Part 15 of rules for walks through the code of a program, and of such walks; what each part proves is said by its theorems. -/
import Derived.Test.YtdaamclhcpjdpaaGreatDoorT14
set_option linter.unusedVariables false
set_option linter.unusedSimpArgs false
noncomputable section
set_option maxRecDepth 100000
set_option maxHeartbeats 4000000
namespace Go.Ev
section
variable{T:aO}{H0:Nat→Nat}{X0:Nat→Prop}{VE bH:bq}{B B':aU}{E:Env}{H H':ay}{β:Nat→Nat}{X:Nat→Prop}
variable{W:List Nat}{Q:VV→aU→Prop}
def qA(row:List DC)(o:Nat)(new:List DC):List DC:=bif Nat.beq new.length row.length then new else row.take o++(new++row.drop (o+new.length))
theorem bZ.append{z A:List DC}{G I:List ak}(h:bZ H X z G)(k:bZ H X A I):bZ H X (z++A) (G++I):=by
 have M:=aY.sI (β:=fun _=>0) h;have h2:=aY.sI (β:=fun _=>0) k;have L:=M.append h2;rw[←lK] at L;exact bZ.Gj L
theorem bZ.take{r:List DC}{l:List ak}(n:Nat)(h:bZ H X r l):bZ H X (r.take n) (l.take n):=by simpa using h.KT 0 n
theorem bZ.drop{r:List DC}{l:List ak}(n:Nat)(h:bZ H X r l):bZ H X (r.drop n) (l.drop n):=by
 have z:=aY.drop n (aY.sI (β:=fun _=>0) h);rw[←ME] at z;exact bZ.Gj z
theorem bZ.bif{t0:Bool}{a b:List DC}{s t:List ak}(h:bZ H X a s)(k:bZ H X b t):bZ H X (bif t0 then a else b) (bif t0 then s else t):=by
 cases t0
 ·exact k
 exact h
theorem bZ.eE{row z:List DC}{l t:List ak}(o:Nat)(h:bZ H X row l)(k:bZ H X z t):bZ H X (row.take o++(z++row.drop (o+z.length))) (eE l o t):=by
 unfold Ev.eE;rw[←k.length];exact(h.take o).append (k.append (h.drop (o+t.length)))
theorem FN{n:Nat}{a x:aI}{b j o es elem aE lo:Nat}{rows:aj}{row z:List DC}{v:VV}{new:List VV}(ha:a.vv VE=some (.bp b rows.length j o es))(hb:aN B b=some (.arr elem aE es lo rows))(hx:x.vv VE=some v)(hv:v.cells=some new)(hd:iu new=some z)(M:z.length=n)(h0:0<n)(hk:o+n≤es)
  (hj:rows[j]?=some row) (hq:Q .undef ((b,.arr elem aE es rows.length (rows.set j (qA row o z)))::B)):VI T (.store n a x) VE B [b] Q:=fun _ X0 _ H β I=>by
 obtain⟨_,h1,h2⟩:=I.bG ha;simp only[aG] at h2;subst h2;obtain⟨y,h3,h4⟩:=I.bG hx;obtain⟨t,h5,L⟩:=h4.cells hv;have L:=L.data hd;obtain⟨zH,cs,k1,k2,k3,k4⟩:=I.box b _ hb;obtain⟨l,k5,k6,k7⟩:=k4 j row hj;have A:=(List.getElem?_eq_some_iff.1 hj).1;have ht:t.length=n:=by rw[L.length,M]
 have O:=k7.length;have e:=fun K=>T6 (e:=aC.err 5) (K:=K) (q:=j) (o:=o) (n:=n) (new:=t) k1 aq A k5 k6 ht h0 hk
 refine⟨0,.undef,_,fun lf m _ _=>by rw[Qu h1 h3 h5,e],?_⟩;refine FM (s':=.arr elem aE es rows.length (rows.set j (qA row o z))) I hb trivial rfl (fun f hf=>?_) rfl rfl (fun X j1 U=>?_) (fun X=>by simp only[aG]) hq
 ·show(H.t.set (β b) _).get f=_;rw[GT.dn,aZ hf]
 have hlen:(bif Nat.beq n es then t else eE l o t).length=es:=by
  cases Y:Nat.beq n es with
  |true=>have:=cD Y;show t.length=_;omega
  |false=>show(eE l o t).length=_;simp only[eE,fv,m6,rA];omega
 refine⟨rows.length,cs.set j (bif Nat.beq n es then t else eE l o t),?_,bt _,by rw[mU];exact bt _,fun i G hi=>?_⟩
 ·show(H.t.set (β b) _).get (β b)=_;rw[GT.dn,bj rfl,mU]
 rw[RT.dn];rw[TL] at hi
 by_cases Z:i=j
 ·subst Z;rw[bj rfl,bj A] at hi
  cases hi
  rw[bj rfl];refine⟨_,rfl,hlen,?_⟩;have h7:=U _ _ L;have h8:=U _ _ k7;have h9:=h8.eE o h7;unfold qA;rw[M,←O,k6];rw[M] at h9;exact bZ.bif h7 h9
 rw[aZ (fun k=>Z k.symm)] at hi;rw[aZ Z];obtain⟨l',m1,m2,m3⟩:=k4 i G hi;exact⟨l',m1,m2,U _ _ m3⟩
def cF(T:aO)(f:Nat)(args:List VV)(Bi:aU)(Q:VV→aU→Prop):Prop:=
 ∀(H0:Nat→Nat)(X:Nat→Prop)(H:ay)(β:Nat→Nat)(l:List ak),Rel H0 X [] Bi .emp H β→aY H (XB X Bi β) β args l→
  zK T f l H fun a H'=>∃r B' β',gA Bi β H (fun _=>True) B' β' H'∧Rel H0 X [] B' .emp H' β'∧aG H' (XB X B' β') β' r a∧Q r B'
theorem cF.mono{f:Nat}{args:List VV}{Bi:aU}{Q z:VV→aU→Prop}(h:cF T f args Bi Q)(k:∀v B,Q v B→z v B):cF T f args Bi z:=fun H0 X H β l A h2=>
 (h H0 X H β l A h2).mono fun _ _⟨r,B',β',a,b,c,d⟩=>⟨r,B',β',a,b,c,k _ _ d⟩
def Sound(T:aO)(f:Nat)(args:List VV)(Q:VV→Prop):Prop:=cF T f args [] fun r _=>r.nb∧Q r
def GO(T:aO)(f:Nat)(args:List VV)(Q:VV→aU→Prop):Prop:=cF T f args [] Q
theorem Sound.mono{f:Nat}{args:List VV}{Q z:VV→Prop}(h:Sound T f args Q)(k:∀v,Q v→z v):Sound T f args z:=cF.mono h fun v _ A=>⟨A.1,k v A.2⟩
def s9(VE:bq):List aI→Option (List VV)
 |[]=>some []
 |x::r=>(x.vv VE).bind fun v=>(s9 VE r).map (v:: ·)
theorem KH(z:Rel H0 X0 VE B E H β):∀{l:List aI}{args:List VV},s9 VE l=some args→∃vs,jq E l=some vs∧aY H (XB X0 B β) β args vs
 |[],args,h=>by simp only[s9,eA] at h;subst h;exact⟨[],rfl,by simp only[aY]⟩
 |x::r,args,h=>by
  simp only[s9,DO,HF] at h;obtain⟨v,A,s,G,rfl⟩:=h;obtain⟨a,I,h2⟩:=z.bG A;obtain⟨vs,L,M⟩:=KH z G;exact⟨a::vs,aap I L,by simp only[aY];exact⟨a,vs,rfl,h2,M⟩⟩
theorem Rel.lt(z:Rel H0 X0 VE B E H β):∀f,XB X0 B β f→f<H.next:=fun f A=>by
 rcases A with h|⟨b,s,G,ho,rfl⟩
 ·exact z.x0 f h
 exact(z.new b s G ho).2
theorem Rel.start{H0:Nat→Nat}{X:Nat→Prop}{H:ay}{E:Env}(z:H.aQ≤H.next)(A:∀f,X f→f<H.next):Rel H0 X [] [] E H H0:=
 ⟨fun _ _=>rfl,z,A,fun _ _ h=>(by cases h),fun _ _ _ _ h=>(by cases h),fun _ _ h=>(by cases h),fun _ _ h=>(by cases h)⟩
theorem R2{X:Nat→Prop}{β:Nat→Nat}:∀f,XB X [] β f→X f:=fun f h=>by
 rcases h with h|⟨_,_,h,_⟩
 ·exact h
 cases h
theorem call_wpF{f:Nat}{vs:List ak}{args:List VV}{P:VV→Prop}(hn:mH args)(h:Sound T f args P)(Z:∀r,r.nb→P r→Q r B)(G:Rel H0 X0 VE B E H β)(h2:aY H (XB X0 B β) β args vs):zK T f vs H (DS H0 X0 VE B β E H W Q):=by
 have I:fc H (XB X0 B β) H (XB (XB X0 B β) [] β):=⟨bt _,fun f _ L=>⟨fun k=>L (R2 f k),rfl⟩⟩;refine(h β (XB X0 B β) H β vs (Rel.start G.aQ G.lt) (h2.lift I)).mono fun a H' hp=>?_
 obtain⟨r,B',β',z,M,hv,U,k8⟩:=hp;have Y:∀f,f<H.next→H'.t.get f=H.t.get f:=fun f A=>z.ns f A fun _ _ k=>by cases k
 have O:fc H' (XB (XB X0 B β) B' β') H' (XB X0 B β):=⟨bt _,fun f _ L=>⟨fun k=>L (.inl k),rfl⟩⟩;exact⟨r,B,β,⟨z.aQ,z.next,fun f A=>(z.ws f A).imp id (fun⟨_,_,_,_,k,_⟩=>by cases k),fun _ s k1 k2=>.inl ⟨s,k1,k2,rfl⟩,fun f A _=>Y f A⟩,G.grow z.next Y M.aQ,(hv.lift O).nb U,Z r U k8⟩
theorem Q2{f:Nat}{l:List aI}{args:List VV}{P:VV→Prop}(A:s9 VE l=some args)(G:mH args)(h:Sound T f args P)(I:∀r,r.nb→P r→Q r B):VI T (.call f l) VE B [] Q:=fun H0 X0 E H β z=>by
 obtain⟨vs,L,h2⟩:=KH z A;exact aao L (call_wpF G h I z h2)
def I4:List Key→List VV→bq→bq
 |k::ks,v::vs,VE=>I4 ks vs ((k.n,v)::VE)
 |_,_,VE=>VE
theorem aax:∀{ks:List Key}{args:List VV}{l:List ak}{VE:bq}{E:Env},Rel H0 X0 VE B E H β→aY H (XB X0 B β) β args l→ks.length=args.length→Rel H0 X0 (I4 ks args VE) B (N6 ks l E) H β
 |[],[],l,VE,E,h,k,_=>by simp only[aY] at k;subst k;exact h
 |x::ks,v::vs,l,VE,E,h,k,z=>by
  simp only[aY] at k;obtain⟨a,s,rfl,A,G⟩:=k;show Rel H0 X0 (I4 ks vs ((x.n,v)::VE)) B (N6 ks s (E.set x a)) H β;exact aax (h.set (d:=x) A) G (by simpa using z)
 |[],_::_,_,_,_,_,_,h=>by simp at h
 |_::_,[],_,_,_,_,_,h=>by simp at h
def VL(VE:bq)(B:aU):jT→Option VV
 |.tmp k=>aN VE k.n
 |.cell k n agg=>match aN VE k.n with
  |some (.vp b o)=>match aN B b with
   |some (.one _ _ row)=>bif Nat.ble 1 n&&Nat.ble (o+n) row.length then(bif agg then some (.agg ((row.drop o).take n)) else match(row.drop o).take n with|[v]=>some v|_=>none) else none
   |_=>none
  |_=>none
def vu(VE:bq)(B:aU):List jT→Option (List VV)
 |[]=>some []
 |r::rs=>(VL VE B r).bind fun v=>(vu VE B rs).map (v:: ·)
def rO:List VV→VV
 |[v]=>v
 |l=>.tuple l
theorem resV_rep(L:Rel H0 X0 VE B E H β){r:jT}{v:VV}(h:VL VE B r=some v):∃a,aG H (XB X0 B β) β v a∧∀{e:aC}{k:ak→aC},EB E H r e k=k a:=by
 cases r with
 |tmp t=>
  obtain⟨a,I,h2⟩:=L.env t v h;refine⟨a,h2,fun{e k}=>?_⟩;show ob (E.get t) e k=k a;rw[I,cS]
 |cell a n agg=>
  simp only[VL] at h
  split at h
  ·rename_i b o O
   split at h
   ·rename_i elem aE row U;obtain⟨pa,I,h2⟩:=L.env a _ O;simp only[aG] at h2;subst h2;obtain⟨l,Y,M⟩:=(L.box b _ U).FJ
    cases A:(Nat.ble 1 n&&Nat.ble (o+n) row.length) with
    |false=>rw[A] at h;cases h
    |true=>
     rw[A] at h;simp only[cU] at A;have e1:=aV A.1;have Z:=aV A.2;have G:∀{e:aC}{k:List ak→aC},rd H (β b) 1 o n e k=k ((l.drop o).take n):=fun{e k}=>by
      have:=MN (k:=o) (n:=n) (e:=e) (c:=k) Y (by rw[M.length];exact Z) aq;rwa [tA,fM] at this
     have z:=aY.take n (aY.drop o M)
     cases agg with
     |true=>
      have h:some (VV.agg ((row.drop o).take n))=some v:=h
      cases h
      refine⟨.agg ((l.drop o).take n),by simp only[aG];exact⟨_,rfl,z⟩,fun{e k}=>?_⟩;show ob (E.get a) e (fun v=>gw v e fun f g off=>rd H f g off n e fun l=>fN true l e k)=_;rw[I,cS];show rd H (β b) 1 o n e (fun l=>fN true l e k)=_;rw[G];rfl
     |false=>
      have h:(match(row.drop o).take n with|[v]=>some v|_=>none)=some v:=h
      split at h
      ·rename_i w hw
       cases h
       rw[hw] at z;simp only[aY] at z;obtain⟨x,s,hs,hx,rfl⟩:=z;refine⟨x,hx,fun{e k}=>?_⟩;show ob (E.get a) e (fun v=>gw v e fun f g off=>rd H f g off n e fun l=>fN false l e k)=_;rw[I,cS];show rd H (β b) 1 o n e (fun l=>fN false l e k)=_;rw[G,hs];rfl
      cases h
   cases h
  cases h
theorem ZP(z:Rel H0 X0 VE B E H β):∀{rs:List jT}{vs:List VV},vu VE B rs=some vs→∃l,aY H (XB X0 B β) β vs l∧∀{e:aC}{k:List ak→aC},xU E H rs e k=k l
 |[],vs,h=>by simp only[vu,eA] at h;subst h;exact⟨[],by simp only[aY],rfl⟩
 |r::rs,vs,h=>by
  simp only[vu,DO,HF] at h;obtain⟨v,A,s,G,rfl⟩:=h;obtain⟨a,I,h2⟩:=resV_rep z A;obtain⟨l,L,M⟩:=ZP z G;refine⟨a::l,by simp only[aY];exact⟨a,l,rfl,I,L⟩,fun{e k}=>?_⟩;show EB E H r e (fun v=>xU E H rs e fun vs=>k (v::vs))=_;rw[h2,M]
def aiF(rs:List jT)(P:VV→aU→Prop):Ex→bq→aU→Prop
 |.exit _,_,_=>False
 |_,VE,B=>∃vs z,vu VE B rs=some vs∧an z B∧P (rO vs) z
def aiG(rs:List jT)(P:VV→Prop):Ex→bq→aU→Prop
 |.exit _,_,_=>False
 |_,VE,B=>∃vs,vu VE B rs=some vs∧mH vs∧P (rO vs)
theorem pP{f:Nat}{fn:aR}{args:List VV}{Bi:aU}{P:VV→aU→Prop}(hf:T.ft.get f=some fn)(hl:fn.ps.length=args.length)(h:VC T fn.body (I4 fn.ps args []) Bi (aiF fn.res P)):cF T f args Bi P:=by
 intro H0 X H β l h0 z;have hr:=aax (ks:=fn.ps) h0 z hl;refine wpF_fn hf (by rw[hl,z.length]) ((h H0 X _ H _ hr).mono fun x E' H' hp=>?_);obtain⟨bH,B',β',hw,O,U⟩:=hp;have key:(∃vs A,vu bH B' fn.res=some vs∧an A B'∧P (rO vs) A)→∃v,results E' H' fn.res= .ok v H'∧∃r B' β',gA Bi β H (fun _=>True) B' β' H'∧Rel H0 X [] B' .emp H' β'∧aG H' (XB X B' β') β' r v∧P r B':=by
  rintro⟨vs,A,k1,Y,Z⟩;have hr2:=O.MP (B':=A) fun _ _ hk=>Y.get hk
  have I:Rel H0 X [] A .emp H' β':={hr2 with env:=fun _ _ k=>by cases k};have L:gA Bi β H (fun _=>True) A β' H':=hw.MO fun b s h1 h2=>⟨s,Y.get h1,h2⟩
  obtain⟨l',k4,k5⟩:=ZP O k1;have zJ:fc H' (XB X B' β') H' (XB X A β'):=⟨bt _,fun f _ hx=>⟨fun k=>hx (k.imp id fun⟨c,s,h1,h2⟩=>⟨c,s,Y.get h1,h2⟩),rfl⟩⟩;have M:aY H' (XB X A β') β' vs l':=aY.lift zJ k4;have G:results E' H' fn.res=List.rec (motive:=fun _=>aC) (.ok (.tuple []) H') (fun v r _=>List.rec (motive:=fun _=>aC) (.ok v H') (fun _ _ _=>.ok (.tuple (v::r)) H') r) l':=k5
  cases vs with
  |nil=>
   simp only[aY] at M;subst M;exact⟨_,G,rO [],A,β',L,I,by simp only[rO,aG,aY];exact⟨[],rfl,rfl⟩,Z⟩
  |cons v r=>
   cases r with
   |nil=>
    simp only[aY] at M;obtain⟨a,s,rfl,k7,rfl⟩:=M;exact⟨_,G,_,A,β',L,I,k7,Z⟩
   |cons w r=>
    have k8:=M;simp only[aY] at M;obtain⟨a,s,rfl,k7,a2,s2,rfl,_⟩:=M;exact⟨_,G,_,A,β',L,I,by simp only[rO,aG];exact⟨_,rfl,k8⟩,Z⟩
 cases x with
 |exit id=>exact absurd U (fun h=>h)
 |normal=>exact⟨fun _ h=>(by cases h),key U⟩
 |ret=>exact⟨fun _ h=>(by cases h),key U⟩
theorem abo{vs:List VV}(h:mH vs):(rO vs).nb:=by
 cases vs with
 |nil=>simp only[rO,VV.nb,mH]
 |cons v r=>
  cases r with
  |nil=>simp only[mH] at h;exact h.1
  |cons w r=>simpa only[rO,VV.nb] using h
theorem bg{f:Nat}{fn:aR}{args:List VV}{P:VV→Prop}(I:T.ft.get f=some fn)(L:fn.ps.length=args.length)(h:VC T fn.body (I4 fn.ps args []) [] (aiG fn.res P)):Sound T f args P:=
 pP I L (h.mono fun x VE B z=>by
  cases x with
  |exit id=>exact z
  |normal=>obtain⟨vs,A,h2,G⟩:=z;exact⟨vs,[],A,trivial,abo h2,G⟩
  |ret=>obtain⟨vs,A,h2,G⟩:=z;exact⟨vs,[],A,trivial,abo h2,G⟩)
end
def encSl{α:Type}(enc:α→List DC):Option (List α)→DC
 |none=>.nil
 |some l=>.sl (l.map enc)
def elS{α:Type}:Option (List α)→List α
 |none=>[]
 |some l=>l
section
variable{T:aO}{H0:Nat→Nat}{X0:Nat→Prop}{VE bH:bq}{B B':aU}{E:Env}{H H':ay}{β:Nat→Nat}{X:Nat→Prop}
variable{W:List Nat}{Q:VV→aU→Prop}{α:Type}{ec:α→List DC}{o:Option (List α)}
theorem YR.enc{es:Nat}(h:∀e,(ec e).length=es):YR B es (.d (encSl ec o)) ((elS o).map ec):=by
 cases o with
 |none=>exact .nil
 |some l=>
  refine .sl fun row z=>?_
  obtain⟨e,_,rfl⟩:=List.mem_map.1 z;exact h e
theorem bw{d g:Key}{want t:Bool}{qq:Option (List Nat)}{op:bm}{r:List bl}{Q:bq→aU→Prop}(z:aN VE g.n=some (.d (.b t)))(A:t=want)(h:VI T op VE B W fun v B'=>VO T r ((d.n,v)::VE) B' Q):VO T (⟨some d,some (g,want),qq,op⟩::r) VE B Q:=by
 subst A;exact vo_want z h
theorem cb{fl:List FL}{d g:Key}{want t:Bool}{op:bm}{r:List bl}{Q:bq→aU→Prop}(z:aN VE g.n=some (.d (.b t)))(A:t=want)(h:VI T op VE B W fun v B'=>VQ T r ((d.n,v)::VE) B' fl Q):VQ T (⟨some d,some (g,want),none,op⟩::r) VE B fl Q:=by
 subst A;exact vq_want z h
theorem eD{fl:List FL}{d g:Key}{want t:Bool}{l:List Nat}{op:bm}{r:List bl}{Q:bq→aU→Prop}(z:aN VE g.n=some (.d (.b t)))(A:t=want)(G:mg W l fl=true)(h:VI T op VE B W fun v B'=>VQ T r ((d.n,v)::VE) B' (tU W::fl) Q):VQ T (⟨some d,some (g,want),some l,op⟩::r) VE B fl Q:=by
 subst A;exact vq_wantM z G h
theorem FO{c x y:aI}{t:Bool}{v:VV}(z:c.vv VE=some (.d (.b t)))(A:t=true)(G:x.vv VE=some v)(I:Q v B):VI T (.pick c x y) VE B [] Q:=by
 subst A;exact aau z G I
theorem CR{c x y:aI}{t:Bool}{v:VV}(z:c.vv VE=some (.d (.b t)))(A:t=false)(G:y.vv VE=some v)(I:Q v B):VI T (.pick c x y) VE B [] Q:=by
 subst A;exact aav z G I
theorem eM{k:Key}{a b:IC}{t:Bool}{R:Ex→bq→aU→Prop}(z:aN VE k.n=some (.d (.b t)))(A:t=true)(h:VC T a VE B R):VC T (.cond (.t k) a b) VE B R:=by
 subst A;exact aas z h
theorem dc{k:Key}{a b:IC}{t:Bool}{R:Ex→bq→aU→Prop}(z:aN VE k.n=some (.d (.b t)))(A:t=false)(h:VC T b VE B R):VC T (.cond (.t k) a b) VE B R:=by
 subst A;exact aat z h
theorem strEq_eq(z A G I:Nat):s7 z A G I=decide (z=G∧A=I):=by
 unfold s7
 by_cases h:z=G
 ·subst h;rw[show Nat.beq z z=true from ij z]
  by_cases h2:A=I
  ·subst h2;simp
  have:Nat.beq A I=false:=by
   cases L:Nat.beq A I
   ·rfl
   exact absurd (cD L) h2
  simp[this,h2]
 have:Nat.beq z G=false:=by
  cases L:Nat.beq z G
  ·rfl
  exact absurd (cD L) h
 simp[this,h]
theorem vo_split{g:Key}{t:Bool}{ops:List bl}{Q:bq→aU→Prop}(_hg:aN VE g.n=some (.d (.b t)))(z:t=true→VO T ops VE B Q)(h2:t=false→VO T ops VE B Q):VO T ops VE B Q:=by
 cases t
 ·exact h2 rfl
 exact z rfl
theorem aY.setAt{β:Nat→Nat}{new uk:VV}(z:∀a,aG H X β uk a→aG H X β new a):∀{l:List VV}{s:List ak}{i:Nat},aY H X β l s→l[i]?=some uk→aY H X β (l.set i new) s
 |[],_,_,_,h=>by simp at h
 |v::r,s,i,h,hi=>by
  simp only[aY] at h;obtain⟨a,s,rfl,A,h2⟩:=h
  cases i with
  |zero=>
   simp at hi;subst hi;simp only[List.set_cons_zero,aY];exact⟨a,s,rfl,z a A,h2⟩
  |succ i=>
   simp only[List.set_cons_succ,aY];exact⟨a,s,rfl,A,aY.setAt z h2 (by simpa using hi)⟩
def J1(id:Nat):Ex→Ex
 |.exit j=>bif Nat.beq j id then .normal else .exit j
 |x=>x
theorem exV_eq(id:Nat)(x:Ex):O6 id x=J1 id x:=by
 cases x with
 |normal=>rfl
 |ret=>rfl
 |exit j=>
  show(if j=id then Ex.normal else .exit j)=bif Nat.beq j id then .normal else .exit j
  by_cases h:j=id
  ·rw[bj h,h,show Nat.beq id id=true from ij id];rfl
  rw[aZ h]
  cases z:Nat.beq j id
  ·rfl
  exact absurd (cD z) h
theorem Ak{id:Nat}{c:IC}{R:Ex→bq→aU→Prop}(h:VC T c VE B fun x=>R (J1 id x)):VC T (.block id c) VE B R:=
 vc_block (h.mono fun x _ _ k=>by rw[exV_eq];exact k)
theorem Gm{elem es aE lo:Nat}{x y:aI}{b:Nat}{rows ys:aj}{vy:VV}(U:x.vv VE=some (.bs b rows.length es))(hb:aN B b=some (.arr elem aE es lo rows))(hy:y.vv VE=some vy)(XA:YR B es vy ys)(h0:0<es)
  (Y:(rows++ys).length*aE≤70368744177664) (Z:Q (.bs b (rows++ys).length es) ((b,.arr elem aE es (rows++ys).length (rows++ys))::B)):VI T (.app elem es aE x y) VE B [b] Q:=fun _ X0 _ H β z=>by
 obtain⟨a,h1,h2⟩:=z.bG U;obtain⟨c,h3,h4⟩:=z.bG hy;obtain⟨ls,O3,he⟩:∃ls,kL H (XB X0 B β) es ls ys∧((c= .fL∧ys.length=0∧ls=[])∨∃f g off e,c= .slice f g off ys.length e∧Ev.elems H f g es ys.length off=some ls):=by
  rcases XA.elems z h0 h4 with⟨M,rfl⟩|⟨f,g,off,e,ls,M,k2,k3⟩
  ·exact⟨[],trivial,.inl ⟨M,rfl,rfl⟩⟩
  exact⟨ls,k3,.inr ⟨f,g,off,e,M,k2⟩⟩
 have O8:∀call,(bm.app elem es aE x y).ev call _ H=iJ elem es aE ys.length ls H a:=fun call=>LU h1 h3 he
 have Xc:=O3.length;simp only[aG] at h2;subst h2;obtain⟨zH,cs,M,k2,k4,k3⟩:=z.box b _ hb
 cases ys with
 |nil=>
  rw[NJ] at Z;refine eU (fun call=>(O8 call).trans rfl) ⟨.bs b rows.length es,(b,.arr elem aE es rows.length rows)::B,β,⟨rfl,bt _,fun _ h=>.inl h,fun c t A ht=>?_,fun _ _ _=>rfl⟩,?_,by simp only[aG],Z⟩
  ·rw[dr] at A
   by_cases e:b=c
   ·subst e;exact .inl ⟨_,hb,trivial,rfl⟩
   rw[aZ e] at A;exact .inl ⟨t,A,ht,rfl⟩
  have hd:∀c t,aN ((b,BS.arr elem aE es rows.length rows)::B) c=some t→∃t',aN B c=some t'∧t'.born∧(c=b∧t= .arr elem aE es rows.length rows)∨(c≠b∧aN B c=some t):=fun c t A=>by
   rw[dr] at A
   by_cases e:b=c
   ·rw[bj e] at A;cases A;subst e;exact⟨_,.inl ⟨hb,trivial,rfl,rfl⟩⟩
   rw[aZ e] at A;exact⟨t,.inr ⟨fun k=>e k.symm,A⟩⟩
  have hX:∀f,XB X0 ((b,BS.arr elem aE es rows.length rows)::B) β f→XB X0 B β f:=fun f U=>by
   rcases U with k|⟨c,t,j1,ho,I⟩
   ·exact .inl k
   obtain⟨t',⟨G,O,rfl,rfl⟩|⟨_,G⟩⟩:=hd c t j1
   ·exact .inr ⟨_,t',G,O,I⟩
   exact .inr ⟨c,t,G,ho,I⟩
  have hl:fc H (XB X0 B β) H (XB X0 ((b,BS.arr elem aE es rows.length rows)::B) β):=⟨bt _,fun f _ U=>⟨fun k=>U (hX f k),rfl⟩⟩;refine⟨z.kY,z.aQ,z.x0,fun c t A ho=>?_,fun c e t u A Xk ho hu L=>?_,fun k w hk=>?_,fun c t A=>?_⟩
  ·obtain⟨t',⟨G,O,rfl,rfl⟩|⟨_,G⟩⟩:=hd c t A
   ·exact z.new _ t' G O
   exact z.new c t G ho
  ·obtain⟨t',⟨G,O,rfl,rfl⟩|⟨_,G⟩⟩:=hd c t A<;>obtain⟨u',⟨n1,n2,rfl,rfl⟩|⟨_,n1⟩⟩:=hd e u Xk
   ·rfl
   ·exact z.inj _ _ _ _ G n1 O hu L
   ·exact z.inj _ _ _ _ G n1 ho n2 L
   exact z.inj _ _ _ _ G n1 ho hu L
  ·obtain⟨a,j1,I⟩:=z.env k w hk;exact⟨a,j1,I.lift hl⟩
  obtain⟨t',⟨G,O,rfl,rfl⟩|⟨_,G⟩⟩:=hd c t A
  ·exact⟨zH,cs,M,aq,bt _,fun q row Z=>by
    obtain⟨l,j3,j4,j5⟩:=k3 q row Z
    exact⟨l,j3,j4,j5.lift hl⟩⟩
  exact(z.box c t G).lift hl rfl
 |cons y0 yr=>
  have hA:iJ elem es aE (y0::yr).length ls H (.slice (β b) rows.length 0 rows.length es)=AJ elem es aE (y0::yr).length ls H (β b) rows.length 0 rows.length es:=rfl;generalize hys2:y0::yr=ys at*;rw[fv] at Y;refine⟨0,_,_,fun lf n _ _=>(O8 _).trans (hA.trans (ZO M aq Y)),?_⟩;refine FM (s':=.arr elem aE es (rows++ys).length (rows++ys)) z hb trivial rfl (fun f hf=>?_) rfl rfl (fun X _ I=>⟨zH,gb ls cs rows.length,?_,by rw[fv];omega,bt _,fun i row hi=>?_⟩) (fun X=>?_) Z
  ·show(H.t.set (β b) _).get f=_;rw[GT.dn,aZ hf]
  ·show(H.t.set (β b) _).get (β b)=_;rw[GT.dn,bj rfl,fv]
  ·rw[KG];have wH:=(List.getElem?_eq_some_iff.1 hi).1;rw[fv] at wH
   by_cases e:rows.length≤i
   ·rw[bj ⟨e,aq⟩];rw[vH e] at hi;obtain⟨l,j3,j4,j5⟩:=O3.get hi;exact⟨l,j3,j4,I _ _ j5⟩
   rw[aZ (fun k=>e k.1)];rw[tB aq] at hi;obtain⟨l,j3,j4,j5⟩:=k3 i row hi;exact⟨l,j3,j4,I _ _ j5⟩
  simp only[aG,fv]
theorem dZ{elem es aE:Nat}{x y:aI}{ys:aj}{vy:VV}(b:Nat)(J2:aN B b=none)(hE:vt b VE=true)(hB:s8 b B=true)(G:x.vv VE=some (.d .nil))(hy:y.vv VE=some vy)(XA:YR B es vy ys)(h0:0<es)
  (kO:ys.length*aE≤70368744177664) (hq:Q (.ac b ys.length es) ((b,.acc elem aE es ys)::B)):VI T (.app elem es aE x y) VE B [b] Q:=fun _ X0 _ H β A=>by
 obtain⟨a,I,h2⟩:=A.bG G;obtain⟨c,h3,h4⟩:=A.bG hy;obtain⟨ls,L,he⟩:∃ls,kL H (XB X0 B β) es ls ys∧((c= .fL∧ys.length=0∧ls=[])∨∃f g off e,c= .slice f g off ys.length e∧Ev.elems H f g es ys.length off=some ls):=by
  rcases XA.elems A h0 h4 with⟨k1,rfl⟩|⟨f,g,off,e,ls,k1,k2,k3⟩
  ·exact⟨[],trivial,.inl ⟨k1,rfl,rfl⟩⟩
  exact⟨ls,k3,.inr ⟨f,g,off,e,k1,k2⟩⟩
 have M:∀call,(bm.app elem es aE x y).ev call _ H=iJ elem es aE ys.length ls H a:=fun call=>LU I h3 he
 have Xc:=L.length;simp only[aG,bK] at h2;subst h2
 cases ys with
 |nil=>
  refine eU (fun call=>(M call).trans rfl) ⟨.ac b 0 es,(b,.acc elem aE es [])::B,β,gA.refl.MO (Zf (B:=B)),?_,by simp only[aG];exact .inl ⟨trivial,trivial⟩,hq⟩;have hd:∀c s,aN ((b,BS.acc elem aE es [])::B) c=some s→s.born→aN B c=some s:=fun c s z ho=>by
   rw[dr] at z
   by_cases e:b=c
   ·rw[bj e] at z;cases z;exact absurd rfl ho
   rw[aZ e] at z;exact z
  have hX:∀f,XB X0 ((b,BS.acc elem aE es [])::B) β f→XB X0 B β f:=fun f G=>G.imp id fun⟨c,s,I,ho,h2⟩=>⟨c,s,hd c s I ho,ho,h2⟩
  have hl:fc H (XB X0 B β) H (XB X0 ((b,BS.acc elem aE es [])::B) β):=⟨bt _,fun f _ G=>⟨fun k=>G (hX f k),rfl⟩⟩;refine⟨A.kY,A.aQ,A.x0,fun c s z ho=>A.new c s (hd c s z ho) ho,fun c e s t z he O ht=>A.inj c e s t (hd c s z O) (hd e t he ht) O ht,fun j w hj=>?_,fun c s z=>?_⟩
  ·obtain⟨a,I,h2⟩:=A.env j w hj;exact⟨a,I,h2.lift hl⟩
  rw[dr] at z
  by_cases e:b=c
  ·rw[bj e] at z;cases z;exact .inl rfl
  rw[aZ e] at z;exact(A.box c s z).lift hl rfl
 |cons y0 yr=>
  have hA:iJ elem es aE (y0::yr).length ls H .fL=AI elem es aE (y0::yr).length ls H:=rfl;generalize U:y0::yr=ys at*;have Y:0<ys.length:=by rw[←U];simp
  obtain⟨β',⟨Z,VK⟩,sh⟩:=A.afS (b:=b) (s:=.acc elem aE es ys) (H':=⟨H.next+1,H.aQ,H.ws,H.t.set H.next (.row elem es aE ys.length ys.length 0 (gb ls .emp 0))⟩) hE hB (fun s O _=>by rw[J2] at O;cases O) rfl
   (fun f hf=>by show(H.t.set H.next _).get f=_;rw[GT.dn,aZ aq]) rfl (fun X β' k=>.inr ⟨ys.length,gb ls .emp 0,by show(H.t.set H.next _).get H.next=_;rw[GT.dn,bj rfl],bt _,fun i row hi=>by
    obtain⟨l,j1,j2,j3⟩:=L.get hi;refine⟨l,?_,j2,k _ _ j3⟩;rw[KG,bj ⟨gX _,by have:=(List.getElem?_eq_some_iff.1 hi).1;omega⟩,IL]
    exact j1⟩)
  refine eU (fun call=>(M call).trans (hA.trans (ZN kO))) ⟨_,_,β',⟨rfl,BE _,fun _ h=>.inl h,fun c t z ht=>?_,fun f hf _=>by show(H.t.set H.next _).get f=_;rw[GT.dn,aZ aq]⟩,sh,?_,hq⟩
  ·rw[dr] at z
   by_cases e:b=c
   ·subst e;exact .inr (by rw[Z];exact bt _)
   rw[aZ e] at z;exact .inl ⟨t,z,ht,VK c fun k=>e k.symm⟩
  simp only[aG,Z];exact .inr ⟨Y,trivial⟩
end
end Go.Ev
