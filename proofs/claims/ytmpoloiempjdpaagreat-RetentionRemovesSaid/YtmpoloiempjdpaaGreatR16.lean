/- Part 16 of rules for walks through the code of a program, and of such walks; what each part proves is said by its theorems. -/
import Derived.Test.YtmpoloiempjdpaaGreatR15
set_option linter.unusedVariables false
set_option linter.unusedSimpArgs false
noncomputable section
set_option maxRecDepth 100000
set_option maxHeartbeats 4000000
namespace Go.Ev
section
variable{T:aM}{H0:Nat→Nat}{X0:Nat→Prop}{VE bh:bb}{B B':aK}{E:Env}{H H':ax}{β:Nat→Nat}{X:Nat→Prop}
variable{W:List Nat}{Q:VV→aK→Prop}
theorem abV{x:aG}{b n es:Nat}(I:x.vv VE=some (.ac b n es))(A:Q (.d (.i .i64 n)) B):VI T (.len x) VE B [] Q:=fun _ _ _ _ _ z=>by
 obtain⟨_,G,h2⟩:=z.bI I;simp only[aE] at h2;rcases h2 with⟨rfl,rfl⟩|⟨_,rfl⟩
 ·exact Zm G (dA z (v:=.d (.i .i64 (0:Nat))) (by simp only[aE,bF];rfl) A)
 exact KW G (dA z (v:=.d (.i .i64 n)) (by simp only[aE,bF]) A)
theorem dk{x i:aG}{es b n j:Nat}{k:IntKind}(G:x.vv VE=some (.ac b n es))(hi:i.vv VE=some (.d (.i k (j:Int))))(I:j<n)(L:Q (.bp b n j 0 es) B):VI T (.j0 es x i) VE B [] Q:=fun _ _ _ _ _ z=>by
 obtain⟨_,M,h2⟩:=z.bI G;obtain⟨_,O,A⟩:=z.bI hi;simp only[aE] at h2 A;simp only[bF] at A;subst A;rcases h2 with⟨rfl,_⟩|⟨_,rfl⟩
 ·omega
 exact Qj M O I (dA z (v:=.bp b n j 0 es) (by simp only[aE];rw[fh,tR]) L)
theorem db.CV{f elem aD es:Nat}{rows:ai}(h:db H X β f (.acc elem aD es rows)){q:Nat}{row:List DC}(z:rows[q]?=some row):∃l,lP H f rows.length q l∧l.length=es∧bX H X row l:=by
 have I:=(List.getElem?_eq_some_iff.1 z).1;rcases h with rfl|⟨A,cs,L,M,O⟩
 ·simp at z
 obtain⟨l,U,G,Y⟩:=O q row z;exact⟨l,⟨elem,aD,rows.length,A,0,cs,by rw[G];exact L,M,bf _,I,U⟩,G,Y⟩
theorem fb{a:aG}{b j o es elem aD:Nat}{rows:ai}{row:List DC}{x:DC}(G:a.vv VE=some (.bp b rows.length j o es))(I:aF B b=some (.acc elem aD es rows))(L:rows[j]?=some row)(M:row[o]?=some x)(O:Q (.d x) B):VI T (.load 1 false a) VE B [] Q:=fun _ _ _ _ _ z=>by
 obtain⟨_,U,A⟩:=z.bI G;simp only[aE] at A;subst A;obtain⟨l,Y,Z,k5⟩:=(z.box b _ I).CV L;obtain⟨y,k6,k7⟩:=k5.get M;exact zE U Y (by rw[Z]) k6 (dA z (v:=.d x) (by simp only[aE];exact k7) O)
theorem vi_loadAA{a:aG}{b j o n es elem aD:Nat}{rows:ai}{row:List DC}(I:a.vv VE=some (.bp b rows.length j o es))(L:aF B b=some (.acc elem aD es rows))(M:rows[j]?=some row)(h0:0<n)(O:o+n≤row.length)(U:Q (.agg (((row.drop o).take n).map .d)) B):VI T (.load n true a) VE B [] Q:=fun _ _ _ _ _ z=>by
 obtain⟨_,Y,A⟩:=z.bI I;simp only[aE] at A;subst A;obtain⟨l,Z,k4,G⟩:=(z.box b _ L).CV M;exact Kp Y Z (by rw[k4]) (by rw[G.length];exact O) h0 (dA z (v:=.agg (((row.drop o).take n).map .d)) (by simp only[aE];exact⟨_,rfl,bc.s9 (G.KG o n)⟩) U)
def DC.cF(rows:ai):DC:=match rows with|[]=>.nil|x::r=>.sl (x::r)
theorem DC.ofAcc_ne{rows:ai}(h:rows≠[]):DC.cF rows= .sl rows:=by
 cases rows with
 |nil=>exact absurd rfl h
 |cons x r=>rfl
mutual
def VV.pL(b:Nat)(x:DC):VV→VV
 |.agg l=>.agg (Mu b x l)
 |.ac c n es=>bif Nat.beq c b then .d x else .ac c n es
 |v=>v
def Mu(b:Nat)(x:DC):List VV→List VV
 |[]=>[]
 |v::r=>v.pL b x::Mu b x r
end
mutual
def VV.wI(b n es:Nat):VV→Prop
 |.agg l=>Oi b n es l
 |.ac c m e=>c=b→m=n∧e=es
 |.bs c _ _=>c≠b
 |_=>True
def Oi(b n es:Nat):List VV→Prop
 |[]=>True
 |v::r=>v.wI b n es∧Oi b n es r
end
theorem Rel.pL(L:Rel H0 X0 VE B E H β){b elem aD es:Nat}{rows:ai}(O:aF B b=some (.acc elem aD es rows)){k:Nat}{v:VV}(hv:aF VE k=some v)(ho:v.wI b rows.length es):
  Rel H0 X0 ((k,v.pL b (.cF rows))::VE) (cQ B b) E H β:=by
 have U:=L.drop b;have G:∀c s,aF (cQ B b) c=some s→b≠c∧aF B c=some s:=fun c s z=>by
  rw[jb] at z
  by_cases e:b=c
  ·rw[bg e] at z;cases z
  rw[aZ e] at z;exact⟨e,z⟩
 have Y:rows≠[]→¬XB X0 (cQ B b) β (β b):=by
  rintro A(h|⟨c,s,z,Z,h2⟩)
  ·exact(L.new b _ O A).1 h
  exact(G c s z).1 (L.inj c b s _ (G c s z).2 O Z A h2).symm
 have hl:eP H (XB X0 B β) H (XB X0 (cQ B b) β):=⟨bf _,fun f _ Y=>⟨fun k=>Y (k.imp id fun⟨c,s,z,h2⟩=>⟨c,s,(G c s z).2,h2⟩),rfl⟩⟩;have M:rows≠[]→bF H (XB X0 (cQ B b) β) (.sl rows) (.slice (β b) rows.length 0 rows.length es):=fun A=>by
  simp only[bF];refine⟨β b,rows.length,0,es,rfl,.inr ⟨Y A,(L.new b _ O A).2,0,by simp,dz.nx fun i row hi=>?_⟩⟩;obtain⟨l,z,h2,h3⟩:=(L.box b _ O).CV hi;exact⟨l,by rw[fh];exact z,h2,h3.lift hl⟩
 have main:(∀v:VV,v.wI b rows.length es→∀a,aE H (XB X0 (cQ B b) β) β v a→aE H (XB X0 (cQ B b) β) β (v.pL b (.cF rows)) a):=by
  intro v;refine VV.rec (motive_1:=fun v=>v.wI b rows.length es→∀a,aE H (XB X0 (cQ B b) β) β v a→aE H (XB X0 (cQ B b) β) β (v.pL b (.cF rows)) a)
   (motive_2:=fun l=>Oi b rows.length es l→∀s,bc H (XB X0 (cQ B b) β) β l s→bc H (XB X0 (cQ B b) β) β (Mu b (.cF rows) l) s) ?_ ?_ ?_ ?_ ?_ ?_ ?_ ?_ ?_ ?_ ?_ ?_ ?_ ?_ v
  ·intro x _ a h;exact h
  ·intro l ih ho a h;simp only[aE,VV.pL,VV.wI] at h ho⊢;obtain⟨cs,e,h⟩:=h;exact⟨cs,e,ih ho cs h⟩
  ·intro l _ _ a h;exact h
  ·intro c o _ a h;exact h
  ·intro c g q o e _ a h;exact h
  ·intro row o _ a h;exact h
  ·intro c n e ho a h;exact h
  ·intro c n e ho a h;simp only[VV.pL,VV.wI] at h ho⊢
   by_cases I:c=b
   ·obtain⟨rfl,rfl⟩:=ho I;subst I;rw[show Nat.beq c c=true from gG c];simp only[aE] at h;show aE H _ β (.d (.cF rows)) _;simp only[aE];rcases h with⟨z,rfl⟩|⟨z,rfl⟩
    ·rw[List.length_eq_zero_iff.1 z];simp only[DC.cF,bF]
    have A:rows≠[]:=fun e=>by rw[e] at z;simp at z
    rw[DC.ofAcc_ne A];exact M A
   have:Nat.beq c b=false:=by
    cases hq:Nat.beq c b
    ·rfl
    exact absurd (cU hq) I
   rw[this];exact h
  ·intro f c _ _ a h;exact h
  ·intro x _ a h;exact h
  ·intro _ a h;exact h
  ·intro _ a h;exact h
  ·intro _ s h;exact h
  intro v r ih1 XS ho s h;simp only[bc,Mu,Oi] at h ho⊢;obtain⟨a,s,e,z,h2⟩:=h;exact⟨a,s,e,ih1 ho.1 a z,XS ho.2 s h2⟩
 refine{U with env:=fun c w I=>?_};rw[c7] at I
 by_cases e:k=c.n
 ·rw[bg e] at I
  cases I
  obtain⟨a,z,h2⟩:=U.env c v (e▸hv);exact⟨a,z,main v ho a h2⟩
 rw[aZ e] at I;exact U.env c w I
theorem eH{ops:List bk}{Q:bb→aK→Prop}(k b:Nat){v:VV}{elem aD es:Nat}{rows:ai}(z:aF VE k=some v)(A:aF B b=some (.acc elem aD es rows))(ho:v.wI b rows.length es)(h:VO T ops ((k,v.pL b (.cF rows))::VE) (cQ B b) Q):VO T ops VE B Q:=
 fun H0 X0 E H β G=>(h H0 X0 E H β (G.pL A z ho)).mono fun _ _ I=>I.more uN
theorem cA{c:IC}{R:Ex→bb→aK→Prop}(k b:Nat){v:VV}{elem aD es:Nat}{rows:ai}(z:aF VE k=some v)(A:aF B b=some (.acc elem aD es rows))(ho:v.wI b rows.length es)(h:VC T c ((k,v.pL b (.cF rows))::VE) (cQ B b) R):VC T c VE B R:=
 fun H0 X0 E H β G=>(h H0 X0 E H β (G.pL A z ho)).mono fun _ _ _ I=>I.more uN
theorem bc.data{row:List DC}{l:List VV}{s:List aj}(h:gA l=some row)(k:bc H X β l s):bX H X row s:=bX.F2 (β:=β) (abT h▸k)
theorem vi_mksl{elem es aD:Nat}{zero:List aj}{z:List VV}{G:List DC}{x y:aG}{n:Nat}(b:Nat)(hE:mz b VE=true)(hB:jC b B=true)(hz:pf zero=some z)(I:gA z=some G)(L:zero.length=es)(hx:x.vv VE=some (.d (.i .i64 (n:Int))))(hy:y.vv VE=some (.d (.i .i64 (n:Int))))
  (h1:n*aD≤70368744177664) (h2:n≤4611686018427387904) (hq:Q (.bs b n es) ((b,.arr elem aD es n (List.replicate n G))::B)):VI T (.vI elem es aD zero x y) VE B [] Q:=fun _ _ E H _ M=>by
 obtain⟨_,k1,Y⟩:=M.bI hx;obtain⟨_,k3,Z⟩:=M.bI hy;simp only[aE,bF] at Y Z;subst Y;subst Z;have O:∀call,(bq.vI elem es aD zero x y).ev call E H= .ok (.slice H.next n 0 n es) ⟨H.next+1,H.aR,H.ws,H.t.set H.next (.row elem es aD n n 0 (oD zero n))⟩:=fun call=>by
  show bt x E (.err 22) (fun a=>fA a (.err 22) fun _ a=>iN a (.err 22) fun l=>bt y E (.err 22) fun b=>fA b (.err 22) fun _ b=>iN b (.err 22) fun c=>
   aI (Nat.ble l c) (aI (Nat.ble (Nat.mul c aD) 70368744177664) (aI (Nat.ble c 4611686018427387904)
    (Bh zero l fun cs=>H.alloc (.row elem es aD l l 0 cs) fun f H=>.ok (.slice f l 0 l es) H) (.err 22)) (.err 22)) (.err 22))=_
  rw[cY,k1,cI]
  show bt y E (.err 22) (fun b=>fA b (.err 22) fun _ b=>iN b (.err 22) fun c=>
   aI (Nat.ble n c) (aI (Nat.ble (Nat.mul c aD) 70368744177664) (aI (Nat.ble c 4611686018427387904)
    (Bh zero n fun cs=>H.alloc (.row elem es aD n n 0 cs) fun f H=>.ok (.slice f n 0 n es) H) (.err 22)) (.err 22)) (.err 22))=_
  rw[cY,k3,cI]
  show aI (Nat.ble n n) (aI (Nat.ble (Nat.mul n aD) 70368744177664) (aI (Nat.ble n 4611686018427387904)
    (Bh zero n fun cs=>H.alloc (.row elem es aD n n 0 cs) fun f H=>aC.ok (.slice f n 0 n es) H) (.err 22)) (.err 22)) (.err 22)=_
  rw[gn (bf n),dX,show Nat.ble (Nat.mul n aD) 70368744177664=true from gn h1,dX,gn h2,dX,KN,alloc_eq]
 refine eX O (Kq (b:=b) (s:=.arr elem aD es n (List.replicate n G)) M hE hB rfl (fun f hf=>by show(H.t.set H.next _).get f=_;rw[GT.da,aZ al]) rfl rfl (fun X β' _ _=>?_) (fun X β' k=>by simp only[aE];rw[k]) hq);refine⟨n,oD zero n,by show(H.t.set H.next _).get H.next=_;rw[GT.da,bg rfl,rS],bf _,by rw[rS];exact bf _,fun q row A=>?_⟩;rw[T3] at A
 split at A
 ·rename_i U
  cases A
  exact⟨zero,by rw[Km,bg U],L,(Ci (β:=β') hz).data I⟩
 cases A
def zG(VE:bb)(es z:Nat):List (Nat×aG)→ai→Option (ai)
 |[],rows=>some rows
 |p::r,rows=>(p.2.vv VE).bind fun v=>v.cells.bind fun new=>(gA new).bind fun row=>bif Nat.beq row.length es&&Nat.ble (Nat.succ p.1) z then zG VE es z r (rows.set p.1 row) else none
theorem YY(O:Rel H0 X0 VE B E H β){es A:Nat}:∀{ps:List (Nat×aG)}{rows out:ai}{t:RT},(rows.length=A∧∀q row,rows[q]?=some row→∃l,t.get q=some l∧l.length=es∧bX H (XB X0 B β) row l)→zG VE es A ps rows=some out→
  ∃t',rK E es A ps t=some t'∧out.length=A∧∀q row,out[q]?=some row→∃l,t'.get q=some l∧l.length=es∧bX H (XB X0 B β) row l
 |[],rows,out,t,h,z=>by simp only[zG,eC] at z;subst z;exact⟨t,rfl,h⟩
 |p::r,rows,out,t,h,z=>by
  simp only[zG,Dj] at z;obtain⟨v,Y,new,Z,row,L,z⟩:=z;obtain⟨a,h1,h2⟩:=O.bI Y;obtain⟨s,h3,h4⟩:=h2.cells Z;have U:=h4.data L;have hl:s.length=row.length:=U.length
  cases G:(Nat.beq row.length es&&Nat.ble (Nat.succ p.1) A) with
  |false=>rw[G] at z;cases z
  |true=>
   rw[G] at z;simp only[cN] at G;have e1:=cU G.1;have e2:=aX G.2;have z:zG VE es A r (rows.set p.1 row)=some out:=z
   obtain⟨t',k1,k2⟩:=YY O (t:=t.set p.1 s) ⟨by rw[lA];exact h.1,fun q M I=>by
    rw[RT.da];rw[Mj] at I
    by_cases e:q=p.1
    ·subst e;rw[bg rfl] at I⊢;rw[bg (by rw[h.1];exact e2)] at I
     cases I
     exact⟨s,rfl,al,U⟩
    rw[aZ (fun k=>e k.symm)] at I;rw[aZ e]
    exact h.2 q M I⟩ z
   refine⟨t',?_,k2⟩;show ob (p.2.ev E) none (fun v=>ob (iL v) none fun new=>aI (Nat.beq (gI new) es) (aI (Nat.ble (Nat.succ p.1) A) (rK E es A r (t.set p.1 new)) none) none)=some t';rw[h1,cI,h3,cI,pe,hl,G.1,dX,G.2,dX,k1]
theorem ZI{elem es aD G:Nat}{zero:List aj}{z:List VV}{U:List DC}{ps:List (Nat×aG)}{rows:ai}(b:Nat)(Z:mz b VE=true)(hB:jC b B=true)(hz:pf zero=some z)(I:gA z=some U)(L:zero.length=es)(hb:zG VE es G ps (List.replicate G U)=some rows)
  (hq:Q (.bs b G es) ((b,.arr elem aD es G rows)::B)):VI T (.tb elem es aD G zero ps) VE B [] Q:=fun _ _ E H β Y=>by
 obtain⟨t,h1,h2,h3⟩:=YY Y (t:=oD zero G) ⟨rS,fun q row A=>by
  rw[T3] at A
  split at A
  ·rename_i M
   cases A
   exact⟨zero,by rw[Km,bg M],L,(Ci (β:=β) hz).data I⟩
  cases A⟩ hb
 have O:∀call,(bq.tb elem es aD G zero ps).ev call E H= .ok (.slice H.next G 0 G es) ⟨H.next+1,H.aR,H.ws,H.t.set H.next (.row elem es aD G G 0 t)⟩:=fun call=>by
  show ob (rK E es G ps (oD zero G)) (.err 24) (fun t=>H.alloc (.row elem es aD G G 0 t) fun f H=>.ok (.slice f G 0 G es) H)=_;rw[h1,cI,alloc_eq]
 refine eX O (Kq (b:=b) (s:=.arr elem aD es G rows) Y Z hB rfl (fun f hf=>by show(H.t.set H.next _).get f=_;rw[GT.da,aZ al]) rfl rfl (fun X β' _ k2=>?_) (fun X β' k=>by simp only[aE];rw[k]) hq);refine⟨G,t,by show(H.t.set H.next _).get H.next=_;rw[GT.da,bg rfl,h2],bf _,al,fun q row A=>?_⟩;obtain⟨l,j1,j2,j3⟩:=h3 q row A;exact⟨l,j1,j2,k2 _ _ j3⟩
end
section
variable{T:aM}{H0:Nat→Nat}{X0:Nat→Prop}{VE bh:bb}{B B':aK}{E:Env}{H H':ax}{β:Nat→Nat}{X:Nat→Prop}
variable{W:List Nat}{Q:VV→aK→Prop}
def jQ(row:List DC)(o:Nat)(new:List DC):List DC:=bif Nat.beq new.length row.length then new else row.take o++(new++row.drop (o+new.length))
theorem bX.append{z A:List DC}{G I:List aj}(h:bX H X z G)(k:bX H X A I):bX H X (z++A) (G++I):=by
 have M:=bc.s9 (β:=fun _=>0) h;have h2:=bc.s9 (β:=fun _=>0) k;have L:=M.append h2;rw[←oO] at L;exact bX.F2 L
theorem bX.take{r:List DC}{l:List aj}(n:Nat)(h:bX H X r l):bX H X (r.take n) (l.take n):=by simpa using h.KG 0 n
theorem bX.drop{r:List DC}{l:List aj}(n:Nat)(h:bX H X r l):bX H X (r.drop n) (l.drop n):=by
 have z:=bc.drop n (bc.s9 (β:=fun _=>0) h);rw[←Mi] at z;exact bX.F2 z
theorem bX.bif{t0:Bool}{a b:List DC}{s t:List aj}(h:bX H X a s)(k:bX H X b t):bX H X (bif t0 then a else b) (bif t0 then s else t):=by
 cases t0
 ·exact k
 exact h
theorem bX.ed{row z:List DC}{l t:List aj}(o:Nat)(h:bX H X row l)(k:bX H X z t):bX H X (row.take o++(z++row.drop (o+z.length))) (ed l o t):=by
 unfold Ev.ed;rw[←k.length];exact(h.take o).append (k.append (h.drop (o+t.length)))
theorem Fo{n:Nat}{a x:aG}{b j o es elem aD lo:Nat}{rows:ai}{row z:List DC}{v:VV}{new:List VV}(ha:a.vv VE=some (.bp b rows.length j o es))(hb:aF B b=some (.arr elem aD es lo rows))(hx:x.vv VE=some v)(hv:v.cells=some new)(hd:gA new=some z)(M:z.length=n)(h0:0<n)(hk:o+n≤es)
  (hj:rows[j]?=some row) (hq:Q .undef ((b,.arr elem aD es rows.length (rows.set j (jQ row o z)))::B)):VI T (.store n a x) VE B [b] Q:=fun _ X0 _ H β I=>by
 obtain⟨_,h1,h2⟩:=I.bI ha;simp only[aE] at h2;subst h2;obtain⟨y,h3,h4⟩:=I.bI hx;obtain⟨t,h5,L⟩:=h4.cells hv;have L:=L.data hd;obtain⟨sK,cs,k1,k2,k3,k4⟩:=I.box b _ hb;obtain⟨l,k5,k6,k7⟩:=k4 j row hj;have A:=(List.getElem?_eq_some_iff.1 hj).1;have ht:t.length=n:=by rw[L.length,M]
 have O:=k7.length;have e:=fun K=>HE (e:=aC.err 5) (K:=K) (q:=j) (o:=o) (n:=n) (new:=t) k1 al A k5 k6 ht h0 hk
 refine⟨0,.undef,_,fun lf m _ _=>by rw[KH h1 h3 h5,e],?_⟩;refine zF (s':=.arr elem aD es rows.length (rows.set j (jQ row o z))) I hb trivial rfl (fun f hf=>?_) rfl rfl (fun X j1 U=>?_) (fun X=>by simp only[aE]) hq
 ·show(H.t.set (β b) _).get f=_;rw[GT.da,aZ hf]
 have hlen:(bif Nat.beq n es then t else ed l o t).length=es:=by
  cases Y:Nat.beq n es with
  |true=>have:=cU Y;show t.length=_;omega
  |false=>show(ed l o t).length=_;simp only[ed,eT,ju,qz];omega
 refine⟨rows.length,cs.set j (bif Nat.beq n es then t else ed l o t),?_,bf _,by rw[lA];exact bf _,fun i G hi=>?_⟩
 ·show(H.t.set (β b) _).get (β b)=_;rw[GT.da,bg rfl,lA]
 rw[RT.da];rw[Mj] at hi
 by_cases Z:i=j
 ·subst Z;rw[bg rfl,bg A] at hi
  cases hi
  rw[bg rfl];refine⟨_,rfl,hlen,?_⟩;have h7:=U _ _ L;have h8:=U _ _ k7;have h9:=h8.ed o h7;unfold jQ;rw[M,←O,k6];rw[M] at h9;exact bX.bif h7 h9
 rw[aZ (fun k=>Z k.symm)] at hi;rw[aZ Z];obtain⟨l',m1,m2,m3⟩:=k4 i G hi;exact⟨l',m1,m2,U _ _ m3⟩
def bY(T:aM)(f:Nat)(args:List VV)(Bi:aK)(Q:VV→aK→Prop):Prop:=
 ∀(H0:Nat→Nat)(X:Nat→Prop)(H:ax)(β:Nat→Nat)(l:List aj),Rel H0 X [] Bi .emp H β→bc H (XB X Bi β) β args l→
  uo T f l H fun a H'=>∃r B' β',gK Bi β H (fun _=>True) B' β' H'∧Rel H0 X [] B' .emp H' β'∧aE H' (XB X B' β') β' r a∧Q r B'
theorem bY.mono{f:Nat}{args:List VV}{Bi:aK}{Q z:VV→aK→Prop}(h:bY T f args Bi Q)(k:∀v B,Q v B→z v B):bY T f args Bi z:=fun H0 X H β l A h2=>
 (h H0 X H β l A h2).mono fun _ _⟨r,B',β',a,b,c,d⟩=>⟨r,B',β',a,b,c,k _ _ d⟩
def Sound(T:aM)(f:Nat)(args:List VV)(Q:VV→Prop):Prop:=bY T f args [] fun r _=>r.nb∧Q r
def Ag(T:aM)(f:Nat)(args:List VV)(Q:VV→aK→Prop):Prop:=bY T f args [] Q
theorem Sound.mono{f:Nat}{args:List VV}{Q z:VV→Prop}(h:Sound T f args Q)(k:∀v,Q v→z v):Sound T f args z:=bY.mono h fun v _ A=>⟨A.1,k v A.2⟩
def qC(VE:bb):List aG→Option (List VV)
 |[]=>some []
 |x::r=>(x.vv VE).bind fun v=>(qC VE r).map (v:: ·)
theorem Co(z:Rel H0 X0 VE B E H β):∀{l:List aG}{args:List VV},qC VE l=some args→∃vs,iB E l=some vs∧bc H (XB X0 B β) β args vs
 |[],args,h=>by simp only[qC,eC] at h;subst h;exact⟨[],rfl,by simp only[bc]⟩
 |x::r,args,h=>by
  simp only[qC,Dj,Hh] at h;obtain⟨v,A,s,G,rfl⟩:=h;obtain⟨a,I,h2⟩:=z.bI A;obtain⟨vs,L,M⟩:=Co z G;exact⟨a::vs,aaU I L,by simp only[bc];exact⟨a,vs,rfl,h2,M⟩⟩
theorem Rel.lt(z:Rel H0 X0 VE B E H β):∀f,XB X0 B β f→f<H.next:=fun f A=>by
 rcases A with h|⟨b,s,G,ho,rfl⟩
 ·exact z.x0 f h
 exact(z.new b s G ho).2
theorem Rel.start{H0:Nat→Nat}{X:Nat→Prop}{H:ax}{E:Env}(z:H.aR≤H.next)(A:∀f,X f→f<H.next):Rel H0 X [] [] E H H0:=
 ⟨fun _ _=>rfl,z,A,fun _ _ h=>(by cases h),fun _ _ _ _ h=>(by cases h),fun _ _ h=>(by cases h),fun _ _ h=>(by cases h)⟩
theorem Gv{X:Nat→Prop}{β:Nat→Nat}:∀f,XB X [] β f→X f:=fun f h=>by
 rcases h with h|⟨_,_,h,_⟩
 ·exact h
 cases h
theorem call_wpF{f:Nat}{vs:List aj}{args:List VV}{P:VV→Prop}(hn:lq args)(h:Sound T f args P)(Z:∀r,r.nb→P r→Q r B)(G:Rel H0 X0 VE B E H β)(h2:bc H (XB X0 B β) β args vs):uo T f vs H (Dr H0 X0 VE B β E H W Q):=by
 have I:eP H (XB X0 B β) H (XB (XB X0 B β) [] β):=⟨bf _,fun f _ L=>⟨fun k=>L (Gv f k),rfl⟩⟩;refine(h β (XB X0 B β) H β vs (Rel.start G.aR G.lt) (h2.lift I)).mono fun a H' hp=>?_
 obtain⟨r,B',β',z,M,hv,U,k8⟩:=hp;have Y:∀f,f<H.next→H'.t.get f=H.t.get f:=fun f A=>z.jE f A fun _ _ k=>by cases k
 have O:eP H' (XB (XB X0 B β) B' β') H' (XB X0 B β):=⟨bf _,fun f _ L=>⟨fun k=>L (.inl k),rfl⟩⟩;exact⟨r,B,β,⟨z.aR,z.next,fun f A=>(z.ws f A).imp id (fun⟨_,_,_,_,k,_⟩=>by cases k),fun _ s k1 k2=>.inl ⟨s,k1,k2,rfl⟩,fun f A _=>Y f A⟩,G.grow z.next Y M.aR,(hv.lift O).nb U,Z r U k8⟩
theorem Rf{f:Nat}{l:List aG}{args:List VV}{P:VV→Prop}(A:qC VE l=some args)(G:lq args)(h:Sound T f args P)(I:∀r,r.nb→P r→Q r B):VI T (.call f l) VE B [] Q:=fun H0 X0 E H β z=>by
 obtain⟨vs,L,h2⟩:=Co z A;exact QH L (call_wpF G h I z h2)
def Ef:List Key→List VV→bb→bb
 |k::ks,v::vs,VE=>Ef ks vs ((k.n,v)::VE)
 |_,_,VE=>VE
theorem QL:∀{ks:List Key}{args:List VV}{l:List aj}{VE:bb}{E:Env},Rel H0 X0 VE B E H β→bc H (XB X0 B β) β args l→ks.length=args.length→Rel H0 X0 (Ef ks args VE) B (Oe ks l E) H β
 |[],[],l,VE,E,h,k,_=>by simp only[bc] at k;subst k;exact h
 |x::ks,v::vs,l,VE,E,h,k,z=>by
  simp only[bc] at k;obtain⟨a,s,rfl,A,G⟩:=k;show Rel H0 X0 (Ef ks vs ((x.n,v)::VE)) B (Oe ks s (E.set x a)) H β;exact QL (h.set (d:=x) A) G (by simpa using z)
 |[],_::_,_,_,_,_,_,h=>by simp at h
 |_::_,[],_,_,_,_,_,h=>by simp at h
def VX(VE:bb)(B:aK):jO→Option VV
 |.tmp k=>aF VE k.n
 |.cell k n agg=>match aF VE k.n with
  |some (.vp b o)=>match aF B b with
   |some (.one _ _ row)=>bif Nat.ble 1 n&&Nat.ble (o+n) row.length then(bif agg then some (.agg ((row.drop o).take n)) else match(row.drop o).take n with|[v]=>some v|_=>none) else none
   |_=>none
  |_=>none
def rU(VE:bb)(B:aK):List jO→Option (List VV)
 |[]=>some []
 |r::rs=>(VX VE B r).bind fun v=>(rU VE B rs).map (v:: ·)
def md:List VV→VV
 |[v]=>v
 |l=>.tuple l
theorem resV_rep(L:Rel H0 X0 VE B E H β){r:jO}{v:VV}(h:VX VE B r=some v):∃a,aE H (XB X0 B β) β v a∧∀{e:aC}{k:aj→aC},Eb E H r e k=k a:=by
 cases r with
 |tmp t=>
  obtain⟨a,I,h2⟩:=L.env t v h;refine⟨a,h2,fun{e k}=>?_⟩;show ob (E.get t) e k=k a;rw[I,cI]
 |cell a n agg=>
  simp only[VX] at h
  split at h
  ·rename_i b o O
   split at h
   ·rename_i elem aD row U;obtain⟨pa,I,h2⟩:=L.env a _ O;simp only[aE] at h2;subst h2;obtain⟨l,Y,M⟩:=(L.box b _ U).Cj
    cases A:(Nat.ble 1 n&&Nat.ble (o+n) row.length) with
    |false=>rw[A] at h;cases h
    |true=>
     rw[A] at h;simp only[cN] at A;have e1:=aX A.1;have Z:=aX A.2;have G:∀{e:aC}{k:List aj→aC},rd H (β b) 1 o n e k=k ((l.drop o).take n):=fun{e k}=>by
      have:=Ms (k:=o) (n:=n) (e:=e) (c:=k) Y (by rw[M.length];exact Z) al;rwa [qQ,fh] at this
     have z:=bc.take n (bc.drop o M)
     cases agg with
     |true=>
      have h:some (VV.agg ((row.drop o).take n))=some v:=h
      cases h
      refine⟨.agg ((l.drop o).take n),by simp only[aE];exact⟨_,rfl,z⟩,fun{e k}=>?_⟩;show ob (E.get a) e (fun v=>jf v e fun f g off=>rd H f g off n e fun l=>fO true l e k)=_;rw[I,cI];show rd H (β b) 1 o n e (fun l=>fO true l e k)=_;rw[G];rfl
     |false=>
      have h:(match(row.drop o).take n with|[v]=>some v|_=>none)=some v:=h
      split at h
      ·rename_i w hw
       cases h
       rw[hw] at z;simp only[bc] at z;obtain⟨x,s,hs,hx,rfl⟩:=z;refine⟨x,hx,fun{e k}=>?_⟩;show ob (E.get a) e (fun v=>jf v e fun f g off=>rd H f g off n e fun l=>fO false l e k)=_;rw[I,cI];show rd H (β b) 1 o n e (fun l=>fO false l e k)=_;rw[G,hs];rfl
      cases h
   cases h
  cases h
theorem Qm(z:Rel H0 X0 VE B E H β):∀{rs:List jO}{vs:List VV},rU VE B rs=some vs→∃l,bc H (XB X0 B β) β vs l∧∀{e:aC}{k:List aj→aC},xN E H rs e k=k l
 |[],vs,h=>by simp only[rU,eC] at h;subst h;exact⟨[],by simp only[bc],rfl⟩
 |r::rs,vs,h=>by
  simp only[rU,Dj,Hh] at h;obtain⟨v,A,s,G,rfl⟩:=h;obtain⟨a,I,h2⟩:=resV_rep z A;obtain⟨l,L,M⟩:=Qm z G;refine⟨a::l,by simp only[bc];exact⟨a,l,rfl,I,L⟩,fun{e k}=>?_⟩;show Eb E H r e (fun v=>xN E H rs e fun vs=>k (v::vs))=_;rw[h2,M]
def ajp(rs:List jO)(P:VV→aK→Prop):Ex→bb→aK→Prop
 |.exit _,_,_=>False
 |_,VE,B=>∃vs z,rU VE B rs=some vs∧an z B∧P (md vs) z
def ajq(rs:List jO)(P:VV→Prop):Ex→bb→aK→Prop
 |.exit _,_,_=>False
 |_,VE,B=>∃vs,rU VE B rs=some vs∧lq vs∧P (md vs)
theorem ij{f:Nat}{fn:aO}{args:List VV}{Bi:aK}{P:VV→aK→Prop}(hf:T.ft.get f=some fn)(hl:fn.ps.length=args.length)(h:VC T fn.body (Ef fn.ps args []) Bi (ajp fn.res P)):bY T f args Bi P:=by
 intro H0 X H β l h0 z;have hr:=QL (ks:=fn.ps) h0 z hl;refine aeb hf (by rw[hl,z.length]) ((h H0 X _ H _ hr).mono fun x E' H' hp=>?_);obtain⟨bh,B',β',hw,O,U⟩:=hp;have key:(∃vs A,rU bh B' fn.res=some vs∧an A B'∧P (md vs) A)→∃v,results E' H' fn.res= .ok v H'∧∃r B' β',gK Bi β H (fun _=>True) B' β' H'∧Rel H0 X [] B' .emp H' β'∧aE H' (XB X B' β') β' r v∧P r B':=by
  rintro⟨vs,A,k1,Y,Z⟩;have hr2:=O.Ds (B':=A) fun _ _ hk=>Y.get hk
  have I:Rel H0 X [] A .emp H' β':={hr2 with env:=fun _ _ k=>by cases k};have L:gK Bi β H (fun _=>True) A β' H':=hw.Mt fun b s h1 h2=>⟨s,Y.get h1,h2⟩
  obtain⟨l',k4,k5⟩:=Qm O k1;have ES:eP H' (XB X B' β') H' (XB X A β'):=⟨bf _,fun f _ hx=>⟨fun k=>hx (k.imp id fun⟨c,s,h1,h2⟩=>⟨c,s,Y.get h1,h2⟩),rfl⟩⟩;have M:bc H' (XB X A β') β' vs l':=bc.lift ES k4;have G:results E' H' fn.res=List.rec (motive:=fun _=>aC) (.ok (.tuple []) H') (fun v r _=>List.rec (motive:=fun _=>aC) (.ok v H') (fun _ _ _=>.ok (.tuple (v::r)) H') r) l':=k5
  cases vs with
  |nil=>
   simp only[bc] at M;subst M;exact⟨_,G,md [],A,β',L,I,by simp only[md,aE,bc];exact⟨[],rfl,rfl⟩,Z⟩
  |cons v r=>
   cases r with
   |nil=>
    simp only[bc] at M;obtain⟨a,s,rfl,k7,rfl⟩:=M;exact⟨_,G,_,A,β',L,I,k7,Z⟩
   |cons w r=>
    have k8:=M;simp only[bc] at M;obtain⟨a,s,rfl,k7,a2,s2,rfl,_⟩:=M;exact⟨_,G,_,A,β',L,I,by simp only[md,aE];exact⟨_,rfl,k8⟩,Z⟩
 cases x with
 |exit id=>exact absurd U (fun h=>h)
 |normal=>exact⟨fun _ h=>(by cases h),key U⟩
 |ret=>exact⟨fun _ h=>(by cases h),key U⟩
theorem F3{vs:List VV}(h:lq vs):(md vs).nb:=by
 cases vs with
 |nil=>simp only[md,VV.nb,lq]
 |cons v r=>
  cases r with
  |nil=>simp only[lq] at h;exact h.1
  |cons w r=>simpa only[md,VV.nb] using h
theorem bm{f:Nat}{fn:aO}{args:List VV}{P:VV→Prop}(I:T.ft.get f=some fn)(L:fn.ps.length=args.length)(h:VC T fn.body (Ef fn.ps args []) [] (ajq fn.res P)):Sound T f args P:=
 ij I L (h.mono fun x VE B z=>by
  cases x with
  |exit id=>exact z
  |normal=>obtain⟨vs,A,h2,G⟩:=z;exact⟨vs,[],A,trivial,F3 h2,G⟩
  |ret=>obtain⟨vs,A,h2,G⟩:=z;exact⟨vs,[],A,trivial,F3 h2,G⟩)
end
def encSl{α:Type}(enc:α→List DC):Option (List α)→DC
 |none=>.nil
 |some l=>.sl (l.map enc)
def elS{α:Type}:Option (List α)→List α
 |none=>[]
 |some l=>l
section
variable{T:aM}{H0:Nat→Nat}{X0:Nat→Prop}{VE bh:bb}{B B':aK}{E:Env}{H H':ax}{β:Nat→Nat}{X:Nat→Prop}
variable{W:List Nat}{Q:VV→aK→Prop}{α:Type}{ec:α→List DC}{o:Option (List α)}
theorem YR.enc{es:Nat}(h:∀e,(ec e).length=es):YR B es (.d (encSl ec o)) ((elS o).map ec):=by
 cases o with
 |none=>exact .nil
 |some l=>
  refine .sl fun row z=>?_
  obtain⟨e,_,rfl⟩:=List.mem_map.1 z;exact h e
theorem bM{d g:Key}{want t:Bool}{qq:Option (List Nat)}{op:bq}{r:List bk}{Q:bb→aK→Prop}(z:aF VE g.n=some (.d (.b t)))(A:t=want)(h:VI T op VE B W fun v B'=>VO T r ((d.n,v)::VE) B' Q):VO T (⟨some d,some (g,want),qq,op⟩::r) VE B Q:=by
 subst A;exact vo_want z h
theorem cl{fl:List FL}{d g:Key}{want t:Bool}{op:bq}{r:List bk}{Q:bb→aK→Prop}(z:aF VE g.n=some (.d (.b t)))(A:t=want)(h:VI T op VE B W fun v B'=>VQ T r ((d.n,v)::VE) B' fl Q):VQ T (⟨some d,some (g,want),none,op⟩::r) VE B fl Q:=by
 subst A;exact vq_want z h
theorem fL{fl:List FL}{d g:Key}{want t:Bool}{l:List Nat}{op:bq}{r:List bk}{Q:bb→aK→Prop}(z:aF VE g.n=some (.d (.b t)))(A:t=want)(G:mL W l fl=true)(h:VI T op VE B W fun v B'=>VQ T r ((d.n,v)::VE) B' (tZ W::fl) Q):VQ T (⟨some d,some (g,want),some l,op⟩::r) VE B fl Q:=by
 subst A;exact vq_wantM z G h
theorem Cp{c x y:aG}{t:Bool}{v:VV}(z:c.vv VE=some (.d (.b t)))(A:t=true)(G:x.vv VE=some v)(I:Q v B):VI T (.pick c x y) VE B [] Q:=by
 subst A;exact aa0 z G I
theorem zH{c x y:aG}{t:Bool}{v:VV}(z:c.vv VE=some (.d (.b t)))(A:t=false)(G:y.vv VE=some v)(I:Q v B):VI T (.pick c x y) VE B [] Q:=by
 subst A;exact aa1 z G I
theorem eu{k:Key}{a b:IC}{t:Bool}{R:Ex→bb→aK→Prop}(z:aF VE k.n=some (.d (.b t)))(A:t=true)(h:VC T a VE B R):VC T (.cond (.t k) a b) VE B R:=by
 subst A;exact aaY z h
theorem dq{k:Key}{a b:IC}{t:Bool}{R:Ex→bb→aK→Prop}(z:aF VE k.n=some (.d (.b t)))(A:t=false)(h:VC T b VE B R):VC T (.cond (.t k) a b) VE B R:=by
 subst A;exact aaZ z h
theorem vo_split{g:Key}{t:Bool}{ops:List bk}{Q:bb→aK→Prop}(_hg:aF VE g.n=some (.d (.b t)))(z:t=true→VO T ops VE B Q)(h2:t=false→VO T ops VE B Q):VO T ops VE B Q:=by
 cases t
 ·exact h2 rfl
 exact z rfl
theorem bc.setAt{β:Nat→Nat}{new um:VV}(z:∀a,aE H X β um a→aE H X β new a):∀{l:List VV}{s:List aj}{i:Nat},bc H X β l s→l[i]?=some um→bc H X β (l.set i new) s
 |[],_,_,_,h=>by simp at h
 |v::r,s,i,h,hi=>by
  simp only[bc] at h;obtain⟨a,s,rfl,A,h2⟩:=h
  cases i with
  |zero=>
   simp at hi;subst hi;simp only[agx,bc];exact⟨a,s,rfl,z a A,h2⟩
  |succ i=>
   simp only[agy,bc];exact⟨a,s,rfl,A,bc.setAt z h2 (by simpa using hi)⟩
def B2(id:Nat):Ex→Ex
 |.exit j=>bif Nat.beq j id then .normal else .exit j
 |x=>x
theorem aef(id:Nat)(x:Ex):EY id x=B2 id x:=by
 cases x with
 |normal=>rfl
 |ret=>rfl
 |exit j=>
  show(if j=id then Ex.normal else .exit j)=bif Nat.beq j id then .normal else .exit j
  by_cases h:j=id
  ·rw[bg h,h,show Nat.beq id id=true from gG id];rfl
  rw[aZ h]
  cases z:Nat.beq j id
  ·rfl
  exact absurd (cU z) h
theorem kz{id:Nat}{c:IC}{R:Ex→bb→aK→Prop}(h:VC T c VE B fun x=>R (B2 id x)):VC T (.block id c) VE B R:=
 vc_block (h.mono fun x _ _ k=>by rw[aef];exact k)
theorem rL{elem es aD lo:Nat}{x y:aG}{b:Nat}{rows ys:ai}{vy:VV}(U:x.vv VE=some (.bs b rows.length es))(hb:aF B b=some (.arr elem aD es lo rows))(hy:y.vv VE=some vy)(XT:YR B es vy ys)(h0:0<es)
  (Y:(rows++ys).length*aD≤70368744177664) (Z:Q (.bs b (rows++ys).length es) ((b,.arr elem aD es (rows++ys).length (rows++ys))::B)):VI T (.app elem es aD x y) VE B [b] Q:=fun _ X0 _ H β z=>by
 obtain⟨a,h1,h2⟩:=z.bI U;obtain⟨c,h3,h4⟩:=z.bI hy;obtain⟨ls,O9,he⟩:∃ls,kY H (XB X0 B β) es ls ys∧((c= .fR∧ys.length=0∧ls=[])∨∃f g off e,c= .slice f g off ys.length e∧Ev.elems H f g es ys.length off=some ls):=by
  rcases XT.elems z h0 h4 with⟨M,rfl⟩|⟨f,g,off,e,ls,M,k2,k3⟩
  ·exact⟨[],trivial,.inl ⟨M,rfl,rfl⟩⟩
  exact⟨ls,k3,.inr ⟨f,g,off,e,M,k2⟩⟩
 have Pc:∀call,(bq.app elem es aD x y).ev call _ H=iT elem es aD ys.length ls H a:=fun call=>LC h1 h3 he
 have Xv:=O9.length;simp only[aE] at h2;subst h2;obtain⟨sK,cs,M,k2,k4,k3⟩:=z.box b _ hb
 cases ys with
 |nil=>
  rw[Np] at Z;refine eX (fun call=>(Pc call).trans rfl) ⟨.bs b rows.length es,(b,.arr elem aD es rows.length rows)::B,β,⟨rfl,bf _,fun _ h=>.inl h,fun c t A ht=>?_,fun _ _ _=>rfl⟩,?_,by simp only[aE],Z⟩
  ·rw[c7] at A
   by_cases e:b=c
   ·subst e;exact .inl ⟨_,hb,trivial,rfl⟩
   rw[aZ e] at A;exact .inl ⟨t,A,ht,rfl⟩
  have hd:∀c t,aF ((b,BS.arr elem aD es rows.length rows)::B) c=some t→∃t',aF B c=some t'∧t'.born∧(c=b∧t= .arr elem aD es rows.length rows)∨(c≠b∧aF B c=some t):=fun c t A=>by
   rw[c7] at A
   by_cases e:b=c
   ·rw[bg e] at A;cases A;subst e;exact⟨_,.inl ⟨hb,trivial,rfl,rfl⟩⟩
   rw[aZ e] at A;exact⟨t,.inr ⟨fun k=>e k.symm,A⟩⟩
  have hX:∀f,XB X0 ((b,BS.arr elem aD es rows.length rows)::B) β f→XB X0 B β f:=fun f U=>by
   rcases U with k|⟨c,t,j1,ho,I⟩
   ·exact .inl k
   obtain⟨t',⟨G,O,rfl,rfl⟩|⟨_,G⟩⟩:=hd c t j1
   ·exact .inr ⟨_,t',G,O,I⟩
   exact .inr ⟨c,t,G,ho,I⟩
  have hl:eP H (XB X0 B β) H (XB X0 ((b,BS.arr elem aD es rows.length rows)::B) β):=⟨bf _,fun f _ U=>⟨fun k=>U (hX f k),rfl⟩⟩;refine⟨z.jD,z.aR,z.x0,fun c t A ho=>?_,fun c e t u A hce ho hu L=>?_,fun k w hk=>?_,fun c t A=>?_⟩
  ·obtain⟨t',⟨G,O,rfl,rfl⟩|⟨_,G⟩⟩:=hd c t A
   ·exact z.new _ t' G O
   exact z.new c t G ho
  ·obtain⟨t',⟨G,O,rfl,rfl⟩|⟨_,G⟩⟩:=hd c t A<;>obtain⟨u',⟨n1,n2,rfl,rfl⟩|⟨_,n1⟩⟩:=hd e u hce
   ·rfl
   ·exact z.inj _ _ _ _ G n1 O hu L
   ·exact z.inj _ _ _ _ G n1 ho n2 L
   exact z.inj _ _ _ _ G n1 ho hu L
  ·obtain⟨a,j1,I⟩:=z.env k w hk;exact⟨a,j1,I.lift hl⟩
  obtain⟨t',⟨G,O,rfl,rfl⟩|⟨_,G⟩⟩:=hd c t A
  ·exact⟨sK,cs,M,al,bf _,fun q row Z=>by
    obtain⟨l,j3,j4,j5⟩:=k3 q row Z
    exact⟨l,j3,j4,j5.lift hl⟩⟩
  exact(z.box c t G).lift hl rfl
 |cons y0 yr=>
  have hA:iT elem es aD (y0::yr).length ls H (.slice (β b) rows.length 0 rows.length es)=Ae elem es aD (y0::yr).length ls H (β b) rows.length 0 rows.length es:=rfl;generalize hys2:y0::yr=ys at*;rw[eT] at Y;refine⟨0,_,_,fun lf n _ _=>(Pc _).trans (hA.trans (aai M al Y)),?_⟩;refine zF (s':=.arr elem aD es (rows++ys).length (rows++ys)) z hb trivial rfl (fun f hf=>?_) rfl rfl (fun X _ I=>⟨sK,gE ls cs rows.length,?_,by rw[eT];omega,bf _,fun i row hi=>?_⟩) (fun X=>?_) Z
  ·show(H.t.set (β b) _).get f=_;rw[GT.da,aZ hf]
  ·show(H.t.set (β b) _).get (β b)=_;rw[GT.da,bg rfl,eT]
  ·rw[Kr];have wH:=(List.getElem?_eq_some_iff.1 hi).1;rw[eT] at wH
   by_cases e:rows.length≤i
   ·rw[bg ⟨e,al⟩];rw[qR e] at hi;obtain⟨l,j3,j4,j5⟩:=O9.get hi;exact⟨l,j3,j4,I _ _ j5⟩
   rw[aZ (fun k=>e k.1)];rw[sg al] at hi;obtain⟨l,j3,j4,j5⟩:=k3 i row hi;exact⟨l,j3,j4,I _ _ j5⟩
  simp only[aE,eT]
theorem eb{elem es aD:Nat}{x y:aG}{ys:ai}{vy:VV}(b:Nat)(JQ:aF B b=none)(hE:vo b VE=true)(hB:tC b B=true)(G:x.vv VE=some (.d .nil))(hy:y.vv VE=some vy)(XT:YR B es vy ys)(h0:0<es)
  (nY:ys.length*aD≤70368744177664) (hq:Q (.ac b ys.length es) ((b,.acc elem aD es ys)::B)):VI T (.app elem es aD x y) VE B [b] Q:=fun _ X0 _ H β A=>by
 obtain⟨a,I,h2⟩:=A.bI G;obtain⟨c,h3,h4⟩:=A.bI hy;obtain⟨ls,L,he⟩:∃ls,kY H (XB X0 B β) es ls ys∧((c= .fR∧ys.length=0∧ls=[])∨∃f g off e,c= .slice f g off ys.length e∧Ev.elems H f g es ys.length off=some ls):=by
  rcases XT.elems A h0 h4 with⟨k1,rfl⟩|⟨f,g,off,e,ls,k1,k2,k3⟩
  ·exact⟨[],trivial,.inl ⟨k1,rfl,rfl⟩⟩
  exact⟨ls,k3,.inr ⟨f,g,off,e,k1,k2⟩⟩
 have M:∀call,(bq.app elem es aD x y).ev call _ H=iT elem es aD ys.length ls H a:=fun call=>LC I h3 he
 have Xv:=L.length;simp only[aE,bF] at h2;subst h2
 cases ys with
 |nil=>
  refine eX (fun call=>(M call).trans rfl) ⟨.ac b 0 es,(b,.acc elem aD es [])::B,β,gK.refl.Mt (ZH (B:=B)),?_,by simp only[aE];exact .inl ⟨trivial,trivial⟩,hq⟩;have hd:∀c s,aF ((b,BS.acc elem aD es [])::B) c=some s→s.born→aF B c=some s:=fun c s z ho=>by
   rw[c7] at z
   by_cases e:b=c
   ·rw[bg e] at z;cases z;exact absurd rfl ho
   rw[aZ e] at z;exact z
  have hX:∀f,XB X0 ((b,BS.acc elem aD es [])::B) β f→XB X0 B β f:=fun f G=>G.imp id fun⟨c,s,I,ho,h2⟩=>⟨c,s,hd c s I ho,ho,h2⟩
  have hl:eP H (XB X0 B β) H (XB X0 ((b,BS.acc elem aD es [])::B) β):=⟨bf _,fun f _ G=>⟨fun k=>G (hX f k),rfl⟩⟩;refine⟨A.jD,A.aR,A.x0,fun c s z ho=>A.new c s (hd c s z ho) ho,fun c e s t z he O ht=>A.inj c e s t (hd c s z O) (hd e t he ht) O ht,fun j w hj=>?_,fun c s z=>?_⟩
  ·obtain⟨a,I,h2⟩:=A.env j w hj;exact⟨a,I,h2.lift hl⟩
  rw[c7] at z
  by_cases e:b=c
  ·rw[bg e] at z;cases z;exact .inl rfl
  rw[aZ e] at z;exact(A.box c s z).lift hl rfl
 |cons y0 yr=>
  have hA:iT elem es aD (y0::yr).length ls H .fR=Ad elem es aD (y0::yr).length ls H:=rfl;generalize U:y0::yr=ys at*;have Y:0<ys.length:=by rw[←U];simp
  obtain⟨β',⟨Z,VW⟩,n7⟩:=A.agI (b:=b) (s:=.acc elem aD es ys) (H':=⟨H.next+1,H.aR,H.ws,H.t.set H.next (.row elem es aD ys.length ys.length 0 (gE ls .emp 0))⟩) hE hB (fun s O _=>by rw[JQ] at O;cases O) rfl
   (fun f hf=>by show(H.t.set H.next _).get f=_;rw[GT.da,aZ al]) rfl (fun X β' k=>.inr ⟨ys.length,gE ls .emp 0,by show(H.t.set H.next _).get H.next=_;rw[GT.da,bg rfl],bf _,fun i row hi=>by
    obtain⟨l,j1,j2,j3⟩:=L.get hi;refine⟨l,?_,j2,k _ _ j3⟩;rw[Kr,bg ⟨hZ _,by have:=(List.getElem?_eq_some_iff.1 hi).1;omega⟩,Ir]
    exact j1⟩)
  refine eX (fun call=>(M call).trans (hA.trans (aah nY))) ⟨_,_,β',⟨rfl,Ba _,fun _ h=>.inl h,fun c t z ht=>?_,fun f hf _=>by show(H.t.set H.next _).get f=_;rw[GT.da,aZ al]⟩,n7,?_,hq⟩
  ·rw[c7] at z
   by_cases e:b=c
   ·subst e;exact .inr (by rw[Z];exact bf _)
   rw[aZ e] at z;exact .inl ⟨t,z,ht,VW c fun k=>e k.symm⟩
  simp only[aE,Z];exact .inr ⟨Y,trivial⟩
end
end Go.Ev
