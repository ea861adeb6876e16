/- Part 15 of rules for walks through the code of a program, and of such walks; what each part proves is said by its theorems. -/
import Derived.Test.YtdaamclhcpjdpaaGreatDoorR14
set_option linter.unusedVariables false
set_option linter.unusedSimpArgs false
noncomputable section
set_option maxRecDepth 100000
set_option maxHeartbeats 4000000
namespace Go.Ev
section
variable{T:aN}{H0:Nat→Nat}{X0:Nat→Prop}{VE bF:bo}{B B':aT}{E:Env}{H H':aw}{β:Nat→Nat}{X:Nat→Prop}
variable{W:List Nat}{Q:VV→aT→Prop}
def qJ(row:List DC)(o:Nat)(new:List DC):List DC:=bif Nat.beq new.length row.length then new else row.take o++(new++row.drop (o+new.length))
theorem bU.append{z A:List DC}{G I:List al}(h:bU H X z G)(k:bU H X A I):bU H X (z++A) (G++I):=by
 have M:=bb.sZ (β:=fun _=>0) h;have h2:=bb.sZ (β:=fun _=>0) k;have L:=M.append h2;rw[←pb] at L;exact bU.F5 L
theorem bU.take{r:List DC}{l:List al}(n:Nat)(h:bU H X r l):bU H X (r.take n) (l.take n):=by simpa using h.KN 0 n
theorem bU.drop{r:List DC}{l:List al}(n:Nat)(h:bU H X r l):bU H X (r.drop n) (l.drop n):=by
 have z:=bb.drop n (bb.sZ (β:=fun _=>0) h);rw[←Ml] at z;exact bU.F5 z
theorem bU.bif{t0:Bool}{a b:List DC}{s t:List al}(h:bU H X a s)(k:bU H X b t):bU H X (bif t0 then a else b) (bif t0 then s else t):=by
 cases t0
 ·exact k
 exact h
theorem bU.eE{row z:List DC}{l t:List al}(o:Nat)(h:bU H X row l)(k:bU H X z t):bU H X (row.take o++(z++row.drop (o+z.length))) (eE l o t):=by
 unfold Ev.eE;rw[←k.length];exact(h.take o).append (k.append (h.drop (o+t.length)))
theorem Fx{n:Nat}{a x:aH}{b j o es elem aF lo:Nat}{rows:ak}{row z:List DC}{v:VV}{new:List VV}(ha:a.vv VE=some (.bp b rows.length j o es))(hb:aL B b=some (.arr elem aF es lo rows))(hx:x.vv VE=some v)(hv:v.cells=some new)(hd:im new=some z)(M:z.length=n)(h0:0<n)(hk:o+n≤es)
  (hj:rows[j]?=some row) (hq:Q .undef ((b,.arr elem aF es rows.length (rows.set j (qJ row o z)))::B)):VI T (.store n a x) VE B [b] Q:=fun _ X0 _ H β I=>by
 obtain⟨_,h1,h2⟩:=I.bD ha;simp only[aG] at h2;subst h2;obtain⟨y,h3,h4⟩:=I.bD hx;obtain⟨t,h5,L⟩:=h4.cells hv;have L:=L.data hd;obtain⟨yX,cs,k1,k2,k3,k4⟩:=I.box b _ hb;obtain⟨l,k5,k6,k7⟩:=k4 j row hj;have A:=(List.getElem?_eq_some_iff.1 hj).1;have ht:t.length=n:=by rw[L.length,M]
 have O:=k7.length;have e:=fun K=>Tz (e:=aC.err 5) (K:=K) (q:=j) (o:=o) (n:=n) (new:=t) k1 ah A k5 k6 ht h0 hk
 refine⟨0,.undef,_,fun lf m _ _=>by rw[Qe h1 h3 h5,e],?_⟩;refine Fw (s':=.arr elem aF es rows.length (rows.set j (qJ row o z))) I hb trivial rfl (fun f hf=>?_) rfl rfl (fun X j1 U=>?_) (fun X=>by simp only[aG]) hq
 ·show(H.t.set (β b) _).get f=_;rw[GT.di,aZ hf]
 have hlen:(bif Nat.beq n es then t else eE l o t).length=es:=by
  cases Y:Nat.beq n es with
  |true=>have:=cq Y;show t.length=_;omega
  |false=>show(eE l o t).length=_;simp only[eE,fA,lF,rG];omega
 refine⟨rows.length,cs.set j (bif Nat.beq n es then t else eE l o t),?_,bq _,by rw[kN];exact bq _,fun i G hi=>?_⟩
 ·show(H.t.set (β b) _).get (β b)=_;rw[GT.di,bh rfl,kN]
 rw[RT.di];rw[Th] at hi
 by_cases Z:i=j
 ·subst Z;rw[bh rfl,bh A] at hi
  cases hi
  rw[bh rfl];refine⟨_,rfl,hlen,?_⟩;have h7:=U _ _ L;have h8:=U _ _ k7;have h9:=h8.eE o h7;unfold qJ;rw[M,←O,k6];rw[M] at h9;exact bU.bif h7 h9
 rw[aZ (fun k=>Z k.symm)] at hi;rw[aZ Z];obtain⟨l',m1,m2,m3⟩:=k4 i G hi;exact⟨l',m1,m2,U _ _ m3⟩
def cm(T:aN)(f:Nat)(args:List VV)(Bi:aT)(Q:VV→aT→Prop):Prop:=
 ∀(H0:Nat→Nat)(X:Nat→Prop)(H:aw)(β:Nat→Nat)(l:List al),Rel H0 X [] Bi .emp H β→bb H (XB X Bi β) β args l→
  wv T f l H fun a H'=>∃r B' β',gw Bi β H (fun _=>True) B' β' H'∧Rel H0 X [] B' .emp H' β'∧aG H' (XB X B' β') β' r a∧Q r B'
theorem cm.mono{f:Nat}{args:List VV}{Bi:aT}{Q z:VV→aT→Prop}(h:cm T f args Bi Q)(k:∀v B,Q v B→z v B):cm T f args Bi z:=fun H0 X H β l A h2=>
 (h H0 X H β l A h2).mono fun _ _⟨r,B',β',a,b,c,d⟩=>⟨r,B',β',a,b,c,k _ _ d⟩
def Sound(T:aN)(f:Nat)(args:List VV)(Q:VV→Prop):Prop:=cm T f args [] fun r _=>r.nb∧Q r
def GB(T:aN)(f:Nat)(args:List VV)(Q:VV→aT→Prop):Prop:=cm T f args [] Q
theorem Sound.mono{f:Nat}{args:List VV}{Q z:VV→Prop}(h:Sound T f args Q)(k:∀v,Q v→z v):Sound T f args z:=cm.mono h fun v _ A=>⟨A.1,k v A.2⟩
def qn(VE:bo):List aH→Option (List VV)
 |[]=>some []
 |x::r=>(x.vv VE).bind fun v=>(qn VE r).map (v:: ·)
theorem Co(z:Rel H0 X0 VE B E H β):∀{l:List aH}{args:List VV},qn VE l=some args→∃vs,ik E l=some vs∧bb H (XB X0 B β) β args vs
 |[],args,h=>by simp only[qn,eB] at h;subst h;exact⟨[],rfl,by simp only[bb]⟩
 |x::r,args,h=>by
  simp only[qn,Dk,Hv] at h;obtain⟨v,A,s,G,rfl⟩:=h;obtain⟨a,I,h2⟩:=z.bD A;obtain⟨vs,L,M⟩:=Co z G;exact⟨a::vs,Z2 I L,by simp only[bb];exact⟨a,vs,rfl,h2,M⟩⟩
theorem Rel.lt(z:Rel H0 X0 VE B E H β):∀f,XB X0 B β f→f<H.next:=fun f A=>by
 rcases A with h|⟨b,s,G,ho,rfl⟩
 ·exact z.x0 f h
 exact(z.new b s G ho).2
theorem Rel.start{H0:Nat→Nat}{X:Nat→Prop}{H:aw}{E:Env}(z:H.aQ≤H.next)(A:∀f,X f→f<H.next):Rel H0 X [] [] E H H0:=
 ⟨fun _ _=>rfl,z,A,fun _ _ h=>(by cases h),fun _ _ _ _ h=>(by cases h),fun _ _ h=>(by cases h),fun _ _ h=>(by cases h)⟩
theorem RJ{X:Nat→Prop}{β:Nat→Nat}:∀f,XB X [] β f→X f:=fun f h=>by
 rcases h with h|⟨_,_,h,_⟩
 ·exact h
 cases h
theorem aaa{f:Nat}{vs:List al}{args:List VV}{P:VV→Prop}(hn:lT args)(h:Sound T f args P)(Z:∀r,r.nb→P r→Q r B)(G:Rel H0 X0 VE B E H β)(h2:bb H (XB X0 B β) β args vs):wv T f vs H (Dq H0 X0 VE B β E H W Q):=by
 have I:e9 H (XB X0 B β) H (XB (XB X0 B β) [] β):=⟨bq _,fun f _ L=>⟨fun k=>L (RJ f k),rfl⟩⟩;refine(h β (XB X0 B β) H β vs (Rel.start G.aQ G.lt) (h2.lift I)).mono fun a H' hp=>?_
 obtain⟨r,B',β',z,M,hv,U,k8⟩:=hp;have Y:∀f,f<H.next→H'.t.get f=H.t.get f:=fun f A=>z.nx f A fun _ _ k=>by cases k
 have O:e9 H' (XB (XB X0 B β) B' β') H' (XB X0 B β):=⟨bq _,fun f _ L=>⟨fun k=>L (.inl k),rfl⟩⟩;exact⟨r,B,β,⟨z.aQ,z.next,fun f A=>(z.ws f A).imp id (fun⟨_,_,_,_,k,_⟩=>by cases k),fun _ s k1 k2=>.inl ⟨s,k1,k2,rfl⟩,fun f A _=>Y f A⟩,G.grow z.next Y M.aQ,(hv.lift O).nb U,Z r U k8⟩
theorem QL{f:Nat}{l:List aH}{args:List VV}{P:VV→Prop}(A:qn VE l=some args)(G:lT args)(h:Sound T f args P)(I:∀r,r.nb→P r→Q r B):VI T (.call f l) VE B [] Q:=fun H0 X0 E H β z=>by
 obtain⟨vs,L,h2⟩:=Co z A;exact Z1 L (aaa G h I z h2)
def IV:List Key→List VV→bo→bo
 |k::ks,v::vs,VE=>IV ks vs ((k.n,v)::VE)
 |_,_,VE=>VE
theorem aab:∀{ks:List Key}{args:List VV}{l:List al}{VE:bo}{E:Env},Rel H0 X0 VE B E H β→bb H (XB X0 B β) β args l→ks.length=args.length→Rel H0 X0 (IV ks args VE) B (NW ks l E) H β
 |[],[],l,VE,E,h,k,_=>by simp only[bb] at k;subst k;exact h
 |x::ks,v::vs,l,VE,E,h,k,z=>by
  simp only[bb] at k;obtain⟨a,s,rfl,A,G⟩:=k;show Rel H0 X0 (IV ks vs ((x.n,v)::VE)) B (NW ks s (E.set x a)) H β;exact aab (h.set (d:=x) A) G (by simpa using z)
 |[],_::_,_,_,_,_,_,h=>by simp at h
 |_::_,[],_,_,_,_,_,h=>by simp at h
def U'(VE:bo)(B:aT):jI→Option VV
 |.tmp k=>aL VE k.n
 |.cell k n agg=>match aL VE k.n with
  |some (.vp b o)=>match aL B b with
   |some (.one _ _ row)=>bif Nat.ble 1 n&&Nat.ble (o+n) row.length then(bif agg then some (.agg ((row.drop o).take n)) else match(row.drop o).take n with|[v]=>some v|_=>none) else none
   |_=>none
  |_=>none
def vk(VE:bo)(B:aT):List jI→Option (List VV)
 |[]=>some []
 |r::rs=>(U' VE B r).bind fun v=>(vk VE B rs).map (v:: ·)
def rY:List VV→VV
 |[v]=>v
 |l=>.tuple l
theorem resV_rep(L:Rel H0 X0 VE B E H β){r:jI}{v:VV}(h:U' VE B r=some v):∃a,aG H (XB X0 B β) β v a∧∀{e:aC}{k:al→aC},Eh E H r e k=k a:=by
 cases r with
 |tmp t=>
  obtain⟨a,I,h2⟩:=L.env t v h;refine⟨a,h2,fun{e k}=>?_⟩;show ob (E.get t) e k=k a;rw[I,cI]
 |cell a n agg=>
  simp only[U'] at h
  split at h
  ·rename_i b o O
   split at h
   ·rename_i elem aF row U;obtain⟨pa,I,h2⟩:=L.env a _ O;simp only[aG] at h2;subst h2;obtain⟨l,Y,M⟩:=(L.box b _ U).Fu
    cases A:(Nat.ble 1 n&&Nat.ble (o+n) row.length) with
    |false=>rw[A] at h;cases h
    |true=>
     rw[A] at h;simp only[cS] at A;have e1:=aS A.1;have Z:=aS A.2;have G:∀{e:aC}{k:List al→aC},rd H (β b) 1 o n e k=k ((l.drop o).take n):=fun{e k}=>by
      have:=My (k:=o) (n:=n) (e:=e) (c:=k) Y (by rw[M.length];exact Z) ah;rwa [tG,fG] at this
     have z:=bb.take n (bb.drop o M)
     cases agg with
     |true=>
      have h:some (VV.agg ((row.drop o).take n))=some v:=h
      cases h
      refine⟨.agg ((l.drop o).take n),by simp only[aG];exact⟨_,rfl,z⟩,fun{e k}=>?_⟩;show ob (E.get a) e (fun v=>gq v e fun f g off=>rd H f g off n e fun l=>fH true l e k)=_;rw[I,cI];show rd H (β b) 1 o n e (fun l=>fH true l e k)=_;rw[G];rfl
     |false=>
      have h:(match(row.drop o).take n with|[v]=>some v|_=>none)=some v:=h
      split at h
      ·rename_i w hw
       cases h
       rw[hw] at z;simp only[bb] at z;obtain⟨x,s,hs,hx,rfl⟩:=z;refine⟨x,hx,fun{e k}=>?_⟩;show ob (E.get a) e (fun v=>gq v e fun f g off=>rd H f g off n e fun l=>fH false l e k)=_;rw[I,cI];show rd H (β b) 1 o n e (fun l=>fH false l e k)=_;rw[G,hs];rfl
      cases h
   cases h
  cases h
theorem Zo(z:Rel H0 X0 VE B E H β):∀{rs:List jI}{vs:List VV},vk VE B rs=some vs→∃l,bb H (XB X0 B β) β vs l∧∀{e:aC}{k:List al→aC},xG E H rs e k=k l
 |[],vs,h=>by simp only[vk,eB] at h;subst h;exact⟨[],by simp only[bb],rfl⟩
 |r::rs,vs,h=>by
  simp only[vk,Dk,Hv] at h;obtain⟨v,A,s,G,rfl⟩:=h;obtain⟨a,I,h2⟩:=resV_rep z A;obtain⟨l,L,M⟩:=Zo z G;refine⟨a::l,by simp only[bb];exact⟨a,l,rfl,I,L⟩,fun{e k}=>?_⟩;show Eh E H r e (fun v=>xG E H rs e fun vs=>k (v::vs))=_;rw[h2,M]
def aim(rs:List jI)(P:VV→aT→Prop):Ex→bo→aT→Prop
 |.exit _,_,_=>False
 |_,VE,B=>∃vs z,vk VE B rs=some vs∧an z B∧P (rY vs) z
def ain(rs:List jI)(P:VV→Prop):Ex→bo→aT→Prop
 |.exit _,_,_=>False
 |_,VE,B=>∃vs,vk VE B rs=some vs∧lT vs∧P (rY vs)
theorem kM{f:Nat}{fn:aV}{args:List VV}{Bi:aT}{P:VV→aT→Prop}(hf:T.ft.get f=some fn)(hl:fn.ps.length=args.length)(h:VC T fn.body (IV fn.ps args []) Bi (aim fn.res P)):cm T f args Bi P:=by
 intro H0 X H β l h0 z;have hr:=aab (ks:=fn.ps) h0 z hl;refine wpF_fn hf (by rw[hl,z.length]) ((h H0 X _ H _ hr).mono fun x E' H' hp=>?_);obtain⟨bF,B',β',hw,O,U⟩:=hp;have key:(∃vs A,vk bF B' fn.res=some vs∧an A B'∧P (rY vs) A)→∃v,results E' H' fn.res= .ok v H'∧∃r B' β',gw Bi β H (fun _=>True) B' β' H'∧Rel H0 X [] B' .emp H' β'∧aG H' (XB X B' β') β' r v∧P r B':=by
  rintro⟨vs,A,k1,Y,Z⟩;have hr2:=O.MA (B':=A) fun _ _ hk=>Y.get hk
  have I:Rel H0 X [] A .emp H' β':={hr2 with env:=fun _ _ k=>by cases k};have L:gw Bi β H (fun _=>True) A β' H':=hw.Mz fun b s h1 h2=>⟨s,Y.get h1,h2⟩
  obtain⟨l',k4,k5⟩:=Zo O k1;have wt:e9 H' (XB X B' β') H' (XB X A β'):=⟨bq _,fun f _ hx=>⟨fun k=>hx (k.imp id fun⟨c,s,h1,h2⟩=>⟨c,s,Y.get h1,h2⟩),rfl⟩⟩;have M:bb H' (XB X A β') β' vs l':=bb.lift wt k4;have G:results E' H' fn.res=List.rec (motive:=fun _=>aC) (.ok (.tuple []) H') (fun v r _=>List.rec (motive:=fun _=>aC) (.ok v H') (fun _ _ _=>.ok (.tuple (v::r)) H') r) l':=k5
  cases vs with
  |nil=>
   simp only[bb] at M;subst M;exact⟨_,G,rY [],A,β',L,I,by simp only[rY,aG,bb];exact⟨[],rfl,rfl⟩,Z⟩
  |cons v r=>
   cases r with
   |nil=>
    simp only[bb] at M;obtain⟨a,s,rfl,k7,rfl⟩:=M;exact⟨_,G,_,A,β',L,I,k7,Z⟩
   |cons w r=>
    have k8:=M;simp only[bb] at M;obtain⟨a,s,rfl,k7,a2,s2,rfl,_⟩:=M;exact⟨_,G,_,A,β',L,I,by simp only[rY,aG];exact⟨_,rfl,k8⟩,Z⟩
 cases x with
 |exit id=>exact absurd U (fun h=>h)
 |normal=>exact⟨fun _ h=>(by cases h),key U⟩
 |ret=>exact⟨fun _ h=>(by cases h),key U⟩
theorem aa3{vs:List VV}(h:lT vs):(rY vs).nb:=by
 cases vs with
 |nil=>simp only[rY,VV.nb,lT]
 |cons v r=>
  cases r with
  |nil=>simp only[lT] at h;exact h.1
  |cons w r=>simpa only[rY,VV.nb] using h
theorem bj{f:Nat}{fn:aV}{args:List VV}{P:VV→Prop}(I:T.ft.get f=some fn)(L:fn.ps.length=args.length)(h:VC T fn.body (IV fn.ps args []) [] (ain fn.res P)):Sound T f args P:=
 kM I L (h.mono fun x VE B z=>by
  cases x with
  |exit id=>exact z
  |normal=>obtain⟨vs,A,h2,G⟩:=z;exact⟨vs,[],A,trivial,aa3 h2,G⟩
  |ret=>obtain⟨vs,A,h2,G⟩:=z;exact⟨vs,[],A,trivial,aa3 h2,G⟩)
end
def encSl{α:Type}(enc:α→List DC):Option (List α)→DC
 |none=>.nil
 |some l=>.sl (l.map enc)
def elS{α:Type}:Option (List α)→List α
 |none=>[]
 |some l=>l
section
variable{T:aN}{H0:Nat→Nat}{X0:Nat→Prop}{VE bF:bo}{B B':aT}{E:Env}{H H':aw}{β:Nat→Nat}{X:Nat→Prop}
variable{W:List Nat}{Q:VV→aT→Prop}{α:Type}{ec:α→List DC}{o:Option (List α)}
theorem YR.enc{es:Nat}(h:∀e,(ec e).length=es):YR B es (.d (encSl ec o)) ((elS o).map ec):=by
 cases o with
 |none=>exact .nil
 |some l=>
  refine .sl fun row z=>?_
  obtain⟨e,_,rfl⟩:=List.mem_map.1 z;exact h e
theorem bJ{d g:Key}{want t:Bool}{qq:Option (List Nat)}{op:bn}{r:List bl}{Q:bo→aT→Prop}(z:aL VE g.n=some (.d (.b t)))(A:t=want)(h:VI T op VE B W fun v B'=>VO T r ((d.n,v)::VE) B' Q):VO T (⟨some d,some (g,want),qq,op⟩::r) VE B Q:=by
 subst A;exact vo_want z h
theorem ca{fl:List FL}{d g:Key}{want t:Bool}{op:bn}{r:List bl}{Q:bo→aT→Prop}(z:aL VE g.n=some (.d (.b t)))(A:t=want)(h:VI T op VE B W fun v B'=>VQ T r ((d.n,v)::VE) B' fl Q):VQ T (⟨some d,some (g,want),none,op⟩::r) VE B fl Q:=by
 subst A;exact vq_want z h
theorem eL{fl:List FL}{d g:Key}{want t:Bool}{l:List Nat}{op:bn}{r:List bl}{Q:bo→aT→Prop}(z:aL VE g.n=some (.d (.b t)))(A:t=want)(G:l8 W l fl=true)(h:VI T op VE B W fun v B'=>VQ T r ((d.n,v)::VE) B' (tZ W::fl) Q):VQ T (⟨some d,some (g,want),some l,op⟩::r) VE B fl Q:=by
 subst A;exact vq_wantM z G h
theorem Zp{c x y:aH}{t:Bool}{v:VV}(z:c.vv VE=some (.d (.b t)))(A:t=true)(G:x.vv VE=some v)(I:Q v B):VI T (.pick c x y) VE B [] Q:=by
 subst A;exact Z7 z G I
theorem PU{c x y:aH}{t:Bool}{v:VV}(z:c.vv VE=some (.d (.b t)))(A:t=false)(G:y.vv VE=some v)(I:Q v B):VI T (.pick c x y) VE B [] Q:=by
 subst A;exact Z8 z G I
theorem eG{k:Key}{a b:IC}{t:Bool}{R:Ex→bo→aT→Prop}(z:aL VE k.n=some (.d (.b t)))(A:t=true)(h:VC T a VE B R):VC T (.cond (.t k) a b) VE B R:=by
 subst A;exact Z5 z h
theorem eo{k:Key}{a b:IC}{t:Bool}{R:Ex→bo→aT→Prop}(z:aL VE k.n=some (.d (.b t)))(A:t=false)(h:VC T b VE B R):VC T (.cond (.t k) a b) VE B R:=by
 subst A;exact Z6 z h
theorem strEq_eq(z A G I:Nat):tn z A G I=decide (z=G∧A=I):=by
 unfold tn
 by_cases h:z=G
 ·subst h;rw[show Nat.beq z z=true from ia z]
  by_cases h2:A=I
  ·subst h2;simp
  have:Nat.beq A I=false:=by
   cases L:Nat.beq A I
   ·rfl
   exact absurd (cq L) h2
  simp[this,h2]
 have:Nat.beq z G=false:=by
  cases L:Nat.beq z G
  ·rfl
  exact absurd (cq L) h
 simp[this,h]
theorem vo_split{g:Key}{t:Bool}{ops:List bl}{Q:bo→aT→Prop}(_hg:aL VE g.n=some (.d (.b t)))(z:t=true→VO T ops VE B Q)(h2:t=false→VO T ops VE B Q):VO T ops VE B Q:=by
 cases t
 ·exact h2 rfl
 exact z rfl
theorem bb.setAt{β:Nat→Nat}{new uo:VV}(z:∀a,aG H X β uo a→aG H X β new a):∀{l:List VV}{s:List al}{i:Nat},bb H X β l s→l[i]?=some uo→bb H X β (l.set i new) s
 |[],_,_,_,h=>by simp at h
 |v::r,s,i,h,hi=>by
  simp only[bb] at h;obtain⟨a,s,rfl,A,h2⟩:=h
  cases i with
  |zero=>
   simp at hi;subst hi;simp only[List.set_cons_zero,bb];exact⟨a,s,rfl,z a A,h2⟩
  |succ i=>
   simp only[List.set_cons_succ,bb];exact⟨a,s,rfl,A,bb.setAt z h2 (by simpa using hi)⟩
def JZ(id:Nat):Ex→Ex
 |.exit j=>bif Nat.beq j id then .normal else .exit j
 |x=>x
theorem exV_eq(id:Nat)(x:Ex):OT id x=JZ id x:=by
 cases x with
 |normal=>rfl
 |ret=>rfl
 |exit j=>
  show(if j=id then Ex.normal else .exit j)=bif Nat.beq j id then .normal else .exit j
  by_cases h:j=id
  ·rw[bh h,h,show Nat.beq id id=true from ia id];rfl
  rw[aZ h]
  cases z:Nat.beq j id
  ·rfl
  exact absurd (cq z) h
theorem zA{id:Nat}{c:IC}{R:Ex→bo→aT→Prop}(h:VC T c VE B fun x=>R (JZ id x)):VC T (.block id c) VE B R:=
 vc_block (h.mono fun x _ _ k=>by rw[exV_eq];exact k)
theorem QM{elem es aF lo:Nat}{x y:aH}{b:Nat}{rows ys:ak}{vy:VV}(U:x.vv VE=some (.bs b rows.length es))(hb:aL B b=some (.arr elem aF es lo rows))(hy:y.vv VE=some vy)(Xa:YR B es vy ys)(h0:0<es)
  (Y:(rows++ys).length*aF≤70368744177664) (Z:Q (.bs b (rows++ys).length es) ((b,.arr elem aF es (rows++ys).length (rows++ys))::B)):VI T (.app elem es aF x y) VE B [b] Q:=fun _ X0 _ H β z=>by
 obtain⟨a,h1,h2⟩:=z.bD U;obtain⟨c,h3,h4⟩:=z.bD hy;obtain⟨ls,OQ,he⟩:∃ls,kB H (XB X0 B β) es ls ys∧((c= .fE∧ys.length=0∧ls=[])∨∃f g off e,c= .slice f g off ys.length e∧Ev.elems H f g es ys.length off=some ls):=by
  rcases Xa.elems z h0 h4 with⟨M,rfl⟩|⟨f,g,off,e,ls,M,k2,k3⟩
  ·exact⟨[],trivial,.inl ⟨M,rfl,rfl⟩⟩
  exact⟨ls,k3,.inr ⟨f,g,off,e,M,k2⟩⟩
 have OU:∀call,(bn.app elem es aF x y).ev call _ H=iI elem es aF ys.length ls H a:=fun call=>LN h1 h3 he
 have WJ:=OQ.length;simp only[aG] at h2;subst h2;obtain⟨yX,cs,M,k2,k4,k3⟩:=z.box b _ hb
 cases ys with
 |nil=>
  rw[Ny] at Z;refine eO (fun call=>(OU call).trans rfl) ⟨.bs b rows.length es,(b,.arr elem aF es rows.length rows)::B,β,⟨rfl,bq _,fun _ h=>.inl h,fun c t A ht=>?_,fun _ _ _=>rfl⟩,?_,by simp only[aG],Z⟩
  ·rw[dn] at A
   by_cases e:b=c
   ·subst e;exact .inl ⟨_,hb,trivial,rfl⟩
   rw[aZ e] at A;exact .inl ⟨t,A,ht,rfl⟩
  have hd:∀c t,aL ((b,BS.arr elem aF es rows.length rows)::B) c=some t→∃t',aL B c=some t'∧t'.born∧(c=b∧t= .arr elem aF es rows.length rows)∨(c≠b∧aL B c=some t):=fun c t A=>by
   rw[dn] at A
   by_cases e:b=c
   ·rw[bh e] at A;cases A;subst e;exact⟨_,.inl ⟨hb,trivial,rfl,rfl⟩⟩
   rw[aZ e] at A;exact⟨t,.inr ⟨fun k=>e k.symm,A⟩⟩
  have hX:∀f,XB X0 ((b,BS.arr elem aF es rows.length rows)::B) β f→XB X0 B β f:=fun f U=>by
   rcases U with k|⟨c,t,j1,ho,I⟩
   ·exact .inl k
   obtain⟨t',⟨G,O,rfl,rfl⟩|⟨_,G⟩⟩:=hd c t j1
   ·exact .inr ⟨_,t',G,O,I⟩
   exact .inr ⟨c,t,G,ho,I⟩
  have hl:e9 H (XB X0 B β) H (XB X0 ((b,BS.arr elem aF es rows.length rows)::B) β):=⟨bq _,fun f _ U=>⟨fun k=>U (hX f k),rfl⟩⟩;refine⟨z.kY,z.aQ,z.x0,fun c t A ho=>?_,fun c e t u A WS ho hu L=>?_,fun k w hk=>?_,fun c t A=>?_⟩
  ·obtain⟨t',⟨G,O,rfl,rfl⟩|⟨_,G⟩⟩:=hd c t A
   ·exact z.new _ t' G O
   exact z.new c t G ho
  ·obtain⟨t',⟨G,O,rfl,rfl⟩|⟨_,G⟩⟩:=hd c t A<;>obtain⟨u',⟨n1,n2,rfl,rfl⟩|⟨_,n1⟩⟩:=hd e u WS
   ·rfl
   ·exact z.inj _ _ _ _ G n1 O hu L
   ·exact z.inj _ _ _ _ G n1 ho n2 L
   exact z.inj _ _ _ _ G n1 ho hu L
  ·obtain⟨a,j1,I⟩:=z.env k w hk;exact⟨a,j1,I.lift hl⟩
  obtain⟨t',⟨G,O,rfl,rfl⟩|⟨_,G⟩⟩:=hd c t A
  ·exact⟨yX,cs,M,ah,bq _,fun q row Z=>by
    obtain⟨l,j3,j4,j5⟩:=k3 q row Z
    exact⟨l,j3,j4,j5.lift hl⟩⟩
  exact(z.box c t G).lift hl rfl
 |cons y0 yr=>
  have hA:iI elem es aF (y0::yr).length ls H (.slice (β b) rows.length 0 rows.length es)=Aa elem es aF (y0::yr).length ls H (β b) rows.length 0 rows.length es:=rfl;generalize hys2:y0::yr=ys at*;rw[fA] at Y;refine⟨0,_,_,fun lf n _ _=>(OU _).trans (hA.trans (Zn M ah Y)),?_⟩;refine Fw (s':=.arr elem aF es (rows++ys).length (rows++ys)) z hb trivial rfl (fun f hf=>?_) rfl rfl (fun X _ I=>⟨yX,fU ls cs rows.length,?_,by rw[fA];omega,bq _,fun i row hi=>?_⟩) (fun X=>?_) Z
  ·show(H.t.set (β b) _).get f=_;rw[GT.di,aZ hf]
  ·show(H.t.set (β b) _).get (β b)=_;rw[GT.di,bh rfl,fA]
  ·rw[KA];have wk:=(List.getElem?_eq_some_iff.1 hi).1;rw[fA] at wk
   by_cases e:rows.length≤i
   ·rw[bh ⟨e,ah⟩];rw[A7 e] at hi;obtain⟨l,j3,j4,j5⟩:=OQ.get hi;exact⟨l,j3,j4,I _ _ j5⟩
   rw[aZ (fun k=>e k.1)];rw[vz ah] at hi;obtain⟨l,j3,j4,j5⟩:=k3 i row hi;exact⟨l,j3,j4,I _ _ j5⟩
  simp only[aG,fA]
theorem dQ{elem es aF:Nat}{x y:aH}{ys:ak}{vy:VV}(b:Nat)(J0:aL B b=none)(hE:vi b VE=true)(hB:tp b B=true)(G:x.vv VE=some (.d .nil))(hy:y.vv VE=some vy)(Xa:YR B es vy ys)(h0:0<es)
  (kG:ys.length*aF≤70368744177664) (hq:Q (.ac b ys.length es) ((b,.acc elem aF es ys)::B)):VI T (.app elem es aF x y) VE B [b] Q:=fun _ X0 _ H β A=>by
 obtain⟨a,I,h2⟩:=A.bD G;obtain⟨c,h3,h4⟩:=A.bD hy;obtain⟨ls,L,he⟩:∃ls,kB H (XB X0 B β) es ls ys∧((c= .fE∧ys.length=0∧ls=[])∨∃f g off e,c= .slice f g off ys.length e∧Ev.elems H f g es ys.length off=some ls):=by
  rcases Xa.elems A h0 h4 with⟨k1,rfl⟩|⟨f,g,off,e,ls,k1,k2,k3⟩
  ·exact⟨[],trivial,.inl ⟨k1,rfl,rfl⟩⟩
  exact⟨ls,k3,.inr ⟨f,g,off,e,k1,k2⟩⟩
 have M:∀call,(bn.app elem es aF x y).ev call _ H=iI elem es aF ys.length ls H a:=fun call=>LN I h3 he
 have WJ:=L.length;simp only[aG,bH] at h2;subst h2
 cases ys with
 |nil=>
  refine eO (fun call=>(M call).trans rfl) ⟨.ac b 0 es,(b,.acc elem aF es [])::B,β,gw.refl.Mz (YP (B:=B)),?_,by simp only[aG];exact .inl ⟨trivial,trivial⟩,hq⟩;have hd:∀c s,aL ((b,BS.acc elem aF es [])::B) c=some s→s.born→aL B c=some s:=fun c s z ho=>by
   rw[dn] at z
   by_cases e:b=c
   ·rw[bh e] at z;cases z;exact absurd rfl ho
   rw[aZ e] at z;exact z
  have hX:∀f,XB X0 ((b,BS.acc elem aF es [])::B) β f→XB X0 B β f:=fun f G=>G.imp id fun⟨c,s,I,ho,h2⟩=>⟨c,s,hd c s I ho,ho,h2⟩
  have hl:e9 H (XB X0 B β) H (XB X0 ((b,BS.acc elem aF es [])::B) β):=⟨bq _,fun f _ G=>⟨fun k=>G (hX f k),rfl⟩⟩;refine⟨A.kY,A.aQ,A.x0,fun c s z ho=>A.new c s (hd c s z ho) ho,fun c e s t z he O ht=>A.inj c e s t (hd c s z O) (hd e t he ht) O ht,fun j w hj=>?_,fun c s z=>?_⟩
  ·obtain⟨a,I,h2⟩:=A.env j w hj;exact⟨a,I,h2.lift hl⟩
  rw[dn] at z
  by_cases e:b=c
  ·rw[bh e] at z;cases z;exact .inl rfl
  rw[aZ e] at z;exact(A.box c s z).lift hl rfl
 |cons y0 yr=>
  have hA:iI elem es aF (y0::yr).length ls H .fE=zZ elem es aF (y0::yr).length ls H:=rfl;generalize U:y0::yr=ys at*;have Y:0<ys.length:=by rw[←U];simp
  obtain⟨β',⟨Z,U9⟩,sF⟩:=A.afA (b:=b) (s:=.acc elem aF es ys) (H':=⟨H.next+1,H.aQ,H.ws,H.t.set H.next (.row elem es aF ys.length ys.length 0 (fU ls .emp 0))⟩) hE hB (fun s O _=>by rw[J0] at O;cases O) rfl
   (fun f hf=>by show(H.t.set H.next _).get f=_;rw[GT.di,aZ ah]) rfl (fun X β' k=>.inr ⟨ys.length,fU ls .emp 0,by show(H.t.set H.next _).get H.next=_;rw[GT.di,bh rfl],bq _,fun i row hi=>by
    obtain⟨l,j1,j2,j3⟩:=L.get hi;refine⟨l,?_,j2,k _ _ j3⟩;rw[KA,bh ⟨gT _,by have:=(List.getElem?_eq_some_iff.1 hi).1;omega⟩,ID]
    exact j1⟩)
  refine eO (fun call=>(M call).trans (hA.trans (Zm kG))) ⟨_,_,β',⟨rfl,A5 _,fun _ h=>.inl h,fun c t z ht=>?_,fun f hf _=>by show(H.t.set H.next _).get f=_;rw[GT.di,aZ ah]⟩,sF,?_,hq⟩
  ·rw[dn] at z
   by_cases e:b=c
   ·subst e;exact .inr (by rw[Z];exact bq _)
   rw[aZ e] at z;exact .inl ⟨t,z,ht,U9 c fun k=>e k.symm⟩
  simp only[aG,Z];exact .inr ⟨Y,trivial⟩
end
end Go.Ev
