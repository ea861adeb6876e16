/- Part 10 of rules for walks through the code of a program, and of such walks; what each part proves is said by its theorems. -/
import Derived.Test.YtdgcofocbhbjcaaGreatS9
set_option linter.unusedVariables false
set_option linter.unusedSimpArgs false
noncomputable section
set_option maxRecDepth 100000
set_option maxHeartbeats 4000000
namespace Go.Ev
section
variable{T:bC}{H0:Nat→Nat}{X0:Nat→Prop}{VE bY:bO}{B B':bq}{E:Env}{H H':aC}{β:Nat→Nat}{X:Nat→Prop}
variable{W:List Nat}{Q:VV→bq→Prop}
theorem Vz{x:aM}{b n es:Nat}(F:x.vv VE=some (.ac b n es))(z:Q (.d (.i .i64 n)) B):VI T (.len x) VE B [] Q:=fun _ _ _ _ _ p=>by
 obtain⟨_,A,h2⟩:=p.bU F
 simp only[aK] at h2
 rcases h2 with⟨rfl,rfl⟩|⟨_,rfl⟩
 ·exact Tx A (dp p (v:=.d (.i .i64 (0:Nat))) (by simp only[aK,cq];rfl) z)
 exact Mf A (dp p (v:=.d (.i .i64 n)) (by simp only[aK,cq]) z)
theorem gk{x i:aM}{es b n j:Nat}{k:IntKind}(A:x.vv VE=some (.ac b n es))(hi:i.vv VE=some (.d (.i k (j:Int))))(F:j<n)(G:Q (.bp b n j 0 es) B):VI T (.fP es x i) VE B [] Q:=fun _ _ _ _ _ p=>by
 obtain⟨_,I,h2⟩:=p.bU A
 obtain⟨_,J,z⟩:=p.bU hi
 simp only[aK] at h2 z
 simp only[cq] at z
 subst z
 rcases h2 with⟨rfl,_⟩|⟨_,rfl⟩
 ·omega
 exact LC I J F (dp p (v:=.bp b n j 0 es) (by simp only[aK];rw[fC,rP]) G)
theorem df.M9{f elem aL es:Nat}{rows:List (List DC)}(h:df H X β f (.acc elem aL es rows)){q:Nat}{row:List DC}(p:rows[q]?=some row):∃l,lG H f rows.length q l∧l.length=es∧cD H X row l:=by
 have F:=(List.getElem?_eq_some_iff.1 p).1
 rcases h with rfl|⟨z,cs,G,I,J⟩
 ·simp at p
 obtain⟨l,K,A,L⟩:=J q row p
 exact⟨l,⟨elem,aL,rows.length,z,0,cs,by rw[A];exact G,I,bM _,F,K⟩,A,L⟩
theorem n6{a:aM}{b j o es elem aL:Nat}{rows:List (List DC)}{row:List DC}{x:DC}(A:a.vv VE=some (.bp b rows.length j o es))(F:aZ B b=some (.acc elem aL es rows))(G:rows[j]?=some row)(I:row[o]?=some x)(J:Q (.d x) B):VI T (.load 1 false a) VE B [] Q:=fun _ _ _ _ _ p=>by
 obtain⟨_,K,z⟩:=p.bU A
 simp only[aK] at z
 subst z
 obtain⟨l,L,M,O⟩:=(p.box b _ F).M9 G
 obtain⟨y,U,Y⟩:=O.get I
 exact Av K L (by rw[M]) U (dp p (v:=.d x) (by simp only[aK];exact Y) J)
theorem vi_loadAA{a:aM}{b j o n es elem aL:Nat}{rows:List (List DC)}{row:List DC}(F:a.vv VE=some (.bp b rows.length j o es))(G:aZ B b=some (.acc elem aL es rows))(I:rows[j]?=some row)(h0:0<n)(J:o+n≤row.length)(K:Q (.agg (((row.drop o).take n).map .d)) B):VI T (.load n true a) VE B [] Q:=fun _ _ _ _ _ p=>by
 obtain⟨_,L,z⟩:=p.bU F
 simp only[aK] at z
 subst z
 obtain⟨l,M,O,A⟩:=(p.box b _ G).M9 I
 exact Hr L M (by rw[O]) (by rw[A.length];exact J) h0 (dp p (v:=.agg (((row.drop o).take n).map .d)) (by simp only[aK];exact⟨_,rfl,bt.rb (A.HD o n)⟩) K)
def DC.cS(rows:List (List DC)):DC:=match rows with|[]=>.nil|x::r=>.sl (x::r)
theorem DC.ofAcc_ne{rows:List (List DC)}(h:rows≠[]):DC.cS rows= .sl rows:=by
 cases rows with
 |nil=>exact absurd rfl h
 |cons x r=>rfl
mutual
def VV.oC(b:Nat)(x:DC):VV→VV
 |.agg l=>.agg (Jp b x l)
 |.ac c n es=>bif Nat.beq c b then .d x else .ac c n es
 |v=>v
def Jp(b:Nat)(x:DC):List VV→List VV
 |[]=>[]
 |v::r=>v.oC b x::Jp b x r
end
mutual
def VV.uu(b n es:Nat):VV→Prop
 |.agg l=>Kq b n es l
 |.ac c m e=>c=b→m=n∧e=es
 |.bs c _ _=>c≠b
 |_=>True
def Kq(b n es:Nat):List VV→Prop
 |[]=>True
 |v::r=>v.uu b n es∧Kq b n es r
end
theorem Rel.oC(G:Rel H0 X0 VE B E H β){b elem aL es:Nat}{rows:List (List DC)}(J:aZ B b=some (.acc elem aL es rows)){k:Nat}{v:VV}(Y:aZ VE k=some v)(ho:v.uu b rows.length es):
  Rel H0 X0 ((k,v.oC b (.cS rows))::VE) (dT B b) E H β:=by
 have K:=G.drop b
 have A:∀c s,aZ (dT B b) c=some s→b≠c∧aZ B c=some s:=fun c s p=>by
  rw[pW] at p
  by_cases e:b=c
  ·rw[bE e] at p;cases p
  rw[bw e] at p;exact⟨e,p⟩
 have L:rows≠[]→¬XB X0 (dT B b) β (β b):=by
  rintro z(h|⟨c,s,p,M,h2⟩)
  ·exact(G.new b _ J z).1 h
  exact(A c s p).1 (G.inj c b s _ (A c s p).2 J M z h2).symm
 have Z:ff H (XB X0 B β) H (XB X0 (dT B b) β):=⟨bM _,fun f _ L=>⟨fun k=>L (k.imp id fun⟨c,s,p,h2⟩=>⟨c,s,(A c s p).2,h2⟩),rfl⟩⟩
 have I:rows≠[]→cq H (XB X0 (dT B b) β) (.sl rows) (.slice (β b) rows.length 0 rows.length es):=fun z=>by
  simp only[cq]
  refine⟨β b,rows.length,0,es,rfl,.inr ⟨L z,(G.new b _ J z).2,0,by simp,dQ.qb fun i row hi=>?_⟩⟩
  obtain⟨l,p,h2,h3⟩:=(G.box b _ J).M9 hi
  exact⟨l,by rw[fC];exact p,h2,h3.lift Z⟩
 have main:(∀v:VV,v.uu b rows.length es→∀a,aK H (XB X0 (dT B b) β) β v a→aK H (XB X0 (dT B b) β) β (v.oC b (.cS rows)) a):=by
  intro v
  refine VV.rec (motive_1:=fun v=>v.uu b rows.length es→∀a,aK H (XB X0 (dT B b) β) β v a→aK H (XB X0 (dT B b) β) β (v.oC b (.cS rows)) a)
   (motive_2:=fun l=>Kq b rows.length es l→∀s,bt H (XB X0 (dT B b) β) β l s→bt H (XB X0 (dT B b) β) β (Jp b (.cS rows) l) s) ?_ ?_ ?_ ?_ ?_ ?_ ?_ ?_ ?_ ?_ ?_ ?_ ?_ ?_ v
  ·intro x _ a h;exact h
  ·intro l ih ho a h
   simp only[aK,VV.oC,VV.uu] at h ho⊢
   obtain⟨cs,e,h⟩:=h
   exact⟨cs,e,ih ho cs h⟩
  ·intro l _ _ a h;exact h
  ·intro c o _ a h;exact h
  ·intro c g q o e _ a h;exact h
  ·intro row o _ a h;exact h
  ·intro c n e ho a h;exact h
  ·intro c n e ho a h
   simp only[VV.oC,VV.uu] at h ho⊢
   by_cases F:c=b
   ·obtain⟨rfl,rfl⟩:=ho F
    subst F
    rw[show Nat.beq c c=true from ga c]
    simp only[aK] at h
    show aK H _ β (.d (.cS rows)) _
    simp only[aK]
    rcases h with⟨p,rfl⟩|⟨p,rfl⟩
    ·rw[List.length_eq_zero_iff.1 p]
     simp only[DC.cS,cq]
    have z:rows≠[]:=fun e=>by rw[e] at p;simp at p
    rw[DC.ofAcc_ne z]
    exact I z
   have:Nat.beq c b=false:=by
    cases hq:Nat.beq c b
    ·rfl
    exact absurd (cL hq) F
   rw[this];exact h
  ·intro f c _ _ a h;exact h
  ·intro x _ a h;exact h
  ·intro _ a h;exact h
  ·intro _ a h;exact h
  ·intro _ s h;exact h
  intro v r O U ho s h
  simp only[bt,Jp,Kq] at h ho⊢
  obtain⟨a,s,e,p,h2⟩:=h
  exact⟨a,s,e,O ho.1 a p,U ho.2 s h2⟩
 refine{K with env:=fun c w F=>?_}
 rw[di] at F
 by_cases e:k=c.n
 ·rw[bE e] at F
  cases F
  obtain⟨a,p,h2⟩:=K.env c v (e▸Y)
  exact⟨a,p,main v ho a h2⟩
 rw[bw e] at F
 exact K.env c w F
theorem fO{ops:List bK}{Q:bO→bq→Prop}(k b:Nat){v:VV}{elem aL es:Nat}{rows:List (List DC)}(p:aZ VE k=some v)(z:aZ B b=some (.acc elem aL es rows))(ho:v.uu b rows.length es)(h:VO T ops ((k,v.oC b (.cS rows))::VE) (dT B b) Q):VO T ops VE B Q:=
 fun H0 X0 E H β A=>(h H0 X0 E H β (A.oC z p ho)).mono fun _ _ F=>F.more uV
theorem fm{c:IC}{R:Ex→bO→bq→Prop}(k b:Nat){v:VV}{elem aL es:Nat}{rows:List (List DC)}(p:aZ VE k=some v)(z:aZ B b=some (.acc elem aL es rows))(ho:v.uu b rows.length es)(h:VC T c ((k,v.oC b (.cS rows))::VE) (dT B b) R):VC T c VE B R:=
 fun H0 X0 E H β A=>(h H0 X0 E H β (A.oC z p ho)).mono fun _ _ _ F=>F.more uV
theorem bt.data{row:List DC}{l:List VV}{s:List aw}(h:gq l=some row)(k:bt H X β l s):cD H X row s:=cD.Dp (β:=β) (Vx h▸k)
theorem vi_mksl{elem es aL:Nat}{zero:List aw}{z:List VV}{A:List DC}{x y:aM}{n:Nat}(b:Nat)(O:mz b VE=true)(U:lC b B=true)(Y:od zero=some z)(F:gq z=some A)(G:zero.length=es)(Z:x.vv VE=some (.d (.i .i64 (n:Int))))(hy:y.vv VE=some (.d (.i .i64 (n:Int))))
  (h1:n*aL≤70368744177664) (h2:n≤4611686018427387904) (hq:Q (.bs b n es) ((b,.arr elem aL es n (List.replicate n A))::B)):VI T (.tE elem es aL zero x y) VE B [] Q:=fun _ _ E H _ I=>by
 obtain⟨_,k1,L⟩:=I.bU Z
 obtain⟨_,k3,M⟩:=I.bU hy
 simp only[aK,cq] at L M
 subst L;subst M
 have J:∀call,(bF.tE elem es aL zero x y).ev call E H= .ok (.slice H.next n 0 n es) ⟨H.next+1,H.bb,H.ws,H.t.set H.next (.row elem es aL n n 0 (nE zero n))⟩:=fun call=>by
  show bD x E (.err 22) (fun a=>ew a (.err 22) fun _ a=>fQ a (.err 22) fun l=>bD y E (.err 22) fun b=>ew b (.err 22) fun _ b=>fQ b (.err 22) fun c=>
   aI (Nat.ble l c) (aI (Nat.ble (Nat.mul c aL) 70368744177664) (aI (Nat.ble c 4611686018427387904)
    (zf zero l fun cs=>H.alloc (.row elem es aL l l 0 cs) fun f H=>.ok (.slice f l 0 l es) H) (.err 22)) (.err 22)) (.err 22))=_
  rw[cM,k1,cJ]
  show bD y E (.err 22) (fun b=>ew b (.err 22) fun _ b=>fQ b (.err 22) fun c=>
   aI (Nat.ble n c) (aI (Nat.ble (Nat.mul c aL) 70368744177664) (aI (Nat.ble c 4611686018427387904)
    (zf zero n fun cs=>H.alloc (.row elem es aL n n 0 cs) fun f H=>.ok (.slice f n 0 n es) H) (.err 22)) (.err 22)) (.err 22))=_
  rw[cM,k3,cJ]
  show aI (Nat.ble n n) (aI (Nat.ble (Nat.mul n aL) 70368744177664) (aI (Nat.ble n 4611686018427387904)
    (zf zero n fun cs=>H.alloc (.row elem es aL n n 0 cs) fun f H=>aF.ok (.slice f n 0 n es) H) (.err 22)) (.err 22)) (.err 22)=_
  rw[gD (bM n),dw,show Nat.ble (Nat.mul n aL) 70368744177664=true from gD h1,dw,gD h2,dw,HL,alloc_eq]
 refine eu J (Ht (b:=b) (s:=.arr elem aL es n (List.replicate n A)) I O U rfl (fun f hf=>by show(H.t.set H.next _).get f=_;rw[GT.c7,bw ax]) rfl rfl (fun X β' _ _=>?_) (fun X β' k=>by simp only[aK];rw[k]) hq)
 refine⟨n,nE zero n,by show(H.t.set H.next _).get H.next=_;rw[GT.c7,bE rfl,qg],bM _,by rw[qg];exact bM _,fun q row p=>?_⟩
 rw[OT] at p
 split at p
 ·rename_i K
  cases p
  exact⟨zero,by rw[Hl,bE K],G,(Aq (β:=β') Y).data F⟩
 cases p
def xj(VE:bO)(es z:Nat):List (Nat×aM)→List (List DC)→Option (List (List DC))
 |[],rows=>some rows
 |p::r,rows=>(p.2.vv VE).bind fun v=>v.cells.bind fun new=>(gq new).bind fun row=>bif Nat.beq row.length es&&Nat.ble (Nat.succ p.1) z then xj VE es z r (rows.set p.1 row) else none
theorem S9(K:Rel H0 X0 VE B E H β){es A:Nat}:∀{ps:List (Nat×aM)}{rows out:List (List DC)}{t:RT},(rows.length=A∧∀q row,rows[q]?=some row→∃l,t.get q=some l∧l.length=es∧cD H (XB X0 B β) row l)→xj VE es A ps rows=some out→
  ∃t',pY E es A ps t=some t'∧out.length=A∧∀q row,out[q]?=some row→∃l,t'.get q=some l∧l.length=es∧cD H (XB X0 B β) row l
 |[],rows,out,t,h,z=>by simp only[xj,eW] at z;subst z;exact⟨t,rfl,h⟩
 |p::r,rows,out,t,h,z=>by
  simp only[xj,Ec] at z
  obtain⟨v,M,new,O,row,I,z⟩:=z
  obtain⟨a,U,h2⟩:=K.bU M
  obtain⟨s,Y,Z⟩:=h2.cells O
  have L:=Z.data I
  have hl:s.length=row.length:=L.length
  cases F:(Nat.beq row.length es&&Nat.ble (Nat.succ p.1) A) with
  |false=>rw[F] at z;cases z
  |true=>
   rw[F] at z
   simp only[ep] at F
   have e1:=cL F.1
   have e2:=aX F.2
   have z:xj VE es A r (rows.set p.1 row)=some out:=z
   obtain⟨t',k1,k2⟩:=S9 K (t:=t.set p.1 s) ⟨by rw[kW];exact h.1,fun q J G=>by
    rw[RT.c7]
    rw[Jg] at G
    by_cases e:q=p.1
    ·subst e
     rw[bE rfl] at G⊢
     rw[bE (by rw[h.1];exact e2)] at G
     cases G
     exact⟨s,rfl,ax,L⟩
    rw[bw (fun k=>e k.symm)] at G
    rw[bw e]
    exact h.2 q J G⟩ z
   refine⟨t',?_,k2⟩
   show ob (p.2.ev E) none (fun v=>ob (iB v) none fun new=>aI (Nat.beq (gb new) es) (aI (Nat.ble (Nat.succ p.1) A) (pY E es A r (t.set p.1 new)) none) none)=some t'
   rw[U,cJ,Y,cJ,ny,hl,F.1,dw,F.2,dw,k1]
theorem vi_buildSl{elem es aL A:Nat}{zero:List aw}{z:List VV}{K:List DC}{ps:List (Nat×aM)}{rows:List (List DC)}(b:Nat)(M:mz b VE=true)(O:lC b B=true)(U:od zero=some z)(F:gq z=some K)(G:zero.length=es)(Y:xj VE es A ps (List.replicate A K)=some rows)
  (Z:Q (.bs b A es) ((b,.arr elem aL es A rows)::B)):VI T (.rf elem es aL A zero ps) VE B [] Q:=fun _ _ E H β L=>by
 obtain⟨t,h1,h2,h3⟩:=S9 L (t:=nE zero A) ⟨qg,fun q row p=>by
  rw[OT] at p
  split at p
  ·rename_i I
   cases p
   exact⟨zero,by rw[Hl,bE I],G,(Aq (β:=β) U).data F⟩
  cases p⟩ Y
 have J:∀call,(bF.rf elem es aL A zero ps).ev call E H= .ok (.slice H.next A 0 A es) ⟨H.next+1,H.bb,H.ws,H.t.set H.next (.row elem es aL A A 0 t)⟩:=fun call=>by
  show ob (pY E es A ps (nE zero A)) (.err 24) (fun t=>H.alloc (.row elem es aL A A 0 t) fun f H=>.ok (.slice f A 0 A es) H)=_
  rw[h1,cJ,alloc_eq]
 refine eu J (Ht (b:=b) (s:=.arr elem aL es A rows) L M O rfl (fun f hf=>by show(H.t.set H.next _).get f=_;rw[GT.c7,bw ax]) rfl rfl (fun X β' _ k2=>?_) (fun X β' k=>by simp only[aK];rw[k]) Z)
 refine⟨A,t,by show(H.t.set H.next _).get H.next=_;rw[GT.c7,bE rfl,h2],bM _,ax,fun q row p=>?_⟩
 obtain⟨l,j1,j2,j3⟩:=h3 q row p
 exact⟨l,j1,j2,k2 _ _ j3⟩
end
section
variable{T:bC}{H0:Nat→Nat}{X0:Nat→Prop}{VE bY:bO}{B B':bq}{E:Env}{H H':aC}{β:Nat→Nat}{X:Nat→Prop}
variable{W:List Nat}{Q:VV→bq→Prop}
def kC(row:List DC)(o:Nat)(new:List DC):List DC:=bif Nat.beq new.length row.length then new else row.take o++(new++row.drop (o+new.length))
theorem cD.append{p z:List DC}{A F:List aw}(h:cD H X p A)(k:cD H X z F):cD H X (p++z) (A++F):=by
 have I:=bt.rb (β:=fun _=>0) h
 have h2:=bt.rb (β:=fun _=>0) k
 have G:=I.append h2
 rw[←Ft] at G
 exact cD.Dp G
theorem cD.take{r:List DC}{l:List aw}(n:Nat)(h:cD H X r l):cD H X (r.take n) (l.take n):=by simpa using h.HD 0 n
theorem cD.drop{r:List DC}{l:List aw}(n:Nat)(h:cD H X r l):cD H X (r.drop n) (l.drop n):=by
 have p:=bt.drop n (bt.rb (β:=fun _=>0) h)
 rw[←List.map_drop] at p
 exact cD.Dp p
theorem cD.bif{t0:Bool}{a b:List DC}{s t:List aw}(h:cD H X a s)(k:cD H X b t):cD H X (bif t0 then a else b) (bif t0 then s else t):=by
 cases t0
 ·exact k
 exact h
theorem cD.dH{row p:List DC}{l t:List aw}(o:Nat)(h:cD H X row l)(k:cD H X p t):cD H X (row.take o++(p++row.drop (o+p.length))) (dH l o t):=by
 unfold Ev.dH
 rw[←k.length]
 exact(h.take o).append (k.append (h.drop (o+t.length)))
theorem C3{n:Nat}{a x:aM}{b j o es elem aL lo:Nat}{rows:List (List DC)}{row p:List DC}{v:VV}{new:List VV}(ha:a.vv VE=some (.bp b rows.length j o es))(U:aZ B b=some (.arr elem aL es lo rows))(hx:x.vv VE=some v)(hv:v.cells=some new)(hd:gq new=some p)(I:p.length=n)(h0:0<n)(hk:o+n≤es)
  (Y:rows[j]?=some row) (hq:Q .undef ((b,.arr elem aL es rows.length (rows.set j (kC row o p)))::B)):VI T (.store n a x) VE B [b] Q:=fun _ X0 _ H β F=>by
 obtain⟨_,h1,h2⟩:=F.bU ha
 simp only[aK] at h2
 subst h2
 obtain⟨y,h3,h4⟩:=F.bU hx
 obtain⟨t,h5,G⟩:=h4.cells hv
 have G:=G.data hd
 obtain⟨Ab,cs,k1,k2,k3,Z⟩:=F.box b _ U
 obtain⟨l,k5,k6,k7⟩:=Z j row Y
 have z:=(List.getElem?_eq_some_iff.1 Y).1
 have ht:t.length=n:=by rw[G.length,I]
 have J:=k7.length
 have e:=fun K=>EB (e:=aF.err 5) (K:=K) (q:=j) (o:=o) (n:=n) (new:=t) k1 ax z k5 k6 ht h0 hk
 refine⟨0,.undef,_,fun lf m _ _=>by rw[HE h1 h3 h5,e],?_⟩
 refine xi (s':=.arr elem aL es rows.length (rows.set j (kC row o p))) F U trivial rfl (fun f hf=>?_) rfl rfl (fun X j1 L=>?_) (fun X=>by simp only[aK]) hq
 ·show(H.t.set (β b) _).get f=_
  rw[GT.c7,bw hf]
 have hlen:(bif Nat.beq n es then t else dH l o t).length=es:=by
  cases M:Nat.beq n es with
  |true=>have:=cL M;show t.length=_;omega
  |false=>show(dH l o t).length=_;simp only[dH,fZ,jf,qf];omega
 refine⟨rows.length,cs.set j (bif Nat.beq n es then t else dH l o t),?_,bM _,by rw[kW];exact bM _,fun i A hi=>?_⟩
 ·show(H.t.set (β b) _).get (β b)=_
  rw[GT.c7,bE rfl,kW]
 rw[RT.c7]
 rw[Jg] at hi
 by_cases O:i=j
 ·subst O
  rw[bE rfl,bE z] at hi
  cases hi
  rw[bE rfl]
  refine⟨_,rfl,hlen,?_⟩
  have h7:=L _ _ G
  have h8:=L _ _ k7
  have h9:=h8.dH o h7
  unfold kC
  rw[I,←J,k6]
  rw[I] at h9
  exact cD.bif h7 h9
 rw[bw (fun k=>O k.symm)] at hi
 rw[bw O]
 obtain⟨l',m1,m2,m3⟩:=Z i A hi
 exact⟨l',m1,m2,L _ _ m3⟩
def fW(T:bC)(f:Nat)(args:List VV)(Bi:bq)(Q:VV→bq→Prop):Prop:=
 ∀(H0:Nat→Nat)(X:Nat→Prop)(H:aC)(β:Nat→Nat)(l:List aw),Rel H0 X [] Bi .emp H β→bt H (XB X Bi β) β args l→
  su T f l H fun a H'=>∃r B' β',gF Bi β H (fun _=>True) B' β' H'∧Rel H0 X [] B' .emp H' β'∧aK H' (XB X B' β') β' r a∧Q r B'
theorem fW.mono{f:Nat}{args:List VV}{Bi:bq}{Q p:VV→bq→Prop}(h:fW T f args Bi Q)(k:∀v B,Q v B→p v B):fW T f args Bi p:=fun H0 X H β l z h2=>
 (h H0 X H β l z h2).mono fun _ _⟨r,B',β',a,b,c,d⟩=>⟨r,B',β',a,b,c,k _ _ d⟩
def Sound(T:bC)(f:Nat)(args:List VV)(Q:VV→Prop):Prop:=fW T f args [] fun r _=>r.nb∧Q r
def DK(T:bC)(f:Nat)(args:List VV)(Q:VV→bq→Prop):Prop:=fW T f args [] Q
theorem Sound.mono{f:Nat}{args:List VV}{Q p:VV→Prop}(h:Sound T f args Q)(k:∀v,Q v→p v):Sound T f args p:=fW.mono h fun v _ z=>⟨z.1,k v z.2⟩
def pb(VE:bO):List aM→Option (List VV)
 |[]=>some []
 |x::r=>(x.vv VE).bind fun v=>(pb VE r).map (v:: ·)
theorem Aw(p:Rel H0 X0 VE B E H β):∀{l:List aM}{args:List VV},pb VE l=some args→∃vs,im E l=some vs∧bt H (XB X0 B β) β args vs
 |[],args,h=>by simp only[pb,eW] at h;subst h;exact⟨[],rfl,by simp only[bt]⟩
 |x::r,args,h=>by
  simp only[pb,Ec,Jf] at h
  obtain⟨v,z,s,A,rfl⟩:=h
  obtain⟨a,F,h2⟩:=p.bU z
  obtain⟨vs,G,I⟩:=Aw p A
  exact⟨a::vs,US F G,by simp only[bt];exact⟨a,vs,rfl,h2,I⟩⟩
theorem Rel.lt(p:Rel H0 X0 VE B E H β):∀f,XB X0 B β f→f<H.next:=fun f z=>by
 rcases z with h|⟨b,s,A,ho,rfl⟩
 ·exact p.x0 f h
 exact(p.new b s A ho).2
theorem Rel.start{H0:Nat→Nat}{X:Nat→Prop}{H:aC}{E:Env}(p:H.bb≤H.next)(z:∀f,X f→f<H.next):Rel H0 X [] [] E H H0:=
 ⟨fun _ _=>rfl,p,z,fun _ _ h=>(by cases h),fun _ _ _ _ h=>(by cases h),fun _ _ h=>(by cases h),fun _ _ h=>(by cases h)⟩
theorem IA{X:Nat→Prop}{β:Nat→Nat}:∀f,XB X [] β f→X f:=fun f h=>by
 rcases h with h|⟨_,_,h,_⟩
 ·exact h
 cases h
theorem call_wpF{f:Nat}{vs:List aw}{args:List VV}{P:VV→Prop}(hn:lB args)(h:Sound T f args P)(M:∀r,r.nb→P r→Q r B)(A:Rel H0 X0 VE B E H β)(h2:bt H (XB X0 B β) β args vs):su T f vs H (Bo H0 X0 VE B β E H W Q):=by
 have F:ff H (XB X0 B β) H (XB (XB X0 B β) [] β):=⟨bM _,fun f _ G=>⟨fun k=>G (IA f k),rfl⟩⟩
 refine(h β (XB X0 B β) H β vs (Rel.start A.bb A.lt) (h2.lift F)).mono fun a H' O=>?_
 obtain⟨r,B',β',p,I,U,K,Y⟩:=O
 have L:∀f,f<H.next→H'.t.get f=H.t.get f:=fun f z=>p.jm f z fun _ _ k=>by cases k
 have J:ff H' (XB (XB X0 B β) B' β') H' (XB X0 B β):=⟨bM _,fun f _ G=>⟨fun k=>G (.inl k),rfl⟩⟩
 exact⟨r,B,β,⟨p.bb,p.next,fun f z=>(p.ws f z).imp id (fun⟨_,_,_,_,k,_⟩=>by cases k),fun _ s Z k2=>.inl ⟨s,Z,k2,rfl⟩,fun f z _=>L f z⟩,A.grow p.next L I.bb,(U.lift J).nb K,M r K Y⟩
theorem aY{f:Nat}{l:List aM}{args:List VV}{P:VV→Prop}(z:pb VE l=some args)(A:lB args)(h:Sound T f args P)(F:∀r,r.nb→P r→Q r B):VI T (.call f l) VE B [] Q:=fun H0 X0 E H β p=>by
 obtain⟨vs,G,h2⟩:=Aw p z
 exact LV G (call_wpF A h F p h2)
def Cg:List Key→List VV→bO→bO
 |k::ks,v::vs,VE=>Cg ks vs ((k.n,v)::VE)
 |_,_,VE=>VE
theorem L1:∀{ks:List Key}{args:List VV}{l:List aw}{VE:bO}{E:Env},Rel H0 X0 VE B E H β→bt H (XB X0 B β) β args l→ks.length=args.length→Rel H0 X0 (Cg ks args VE) B (Km ks l E) H β
 |[],[],l,VE,E,h,k,_=>by simp only[bt] at k;subst k;exact h
 |x::ks,v::vs,l,VE,E,h,k,p=>by
  simp only[bt] at k
  obtain⟨a,s,rfl,z,A⟩:=k
  show Rel H0 X0 (Cg ks vs ((x.n,v)::VE)) B (Km ks s (E.set x a)) H β
  exact L1 (h.set (d:=x) z) A (by simpa using p)
 |[],_::_,_,_,_,_,_,h=>by simp at h
 |_::_,[],_,_,_,_,_,h=>by simp at h
def QR(VE:bO)(B:bq):jW→Option VV
 |.tmp k=>aZ VE k.n
 |.cell k n agg=>match aZ VE k.n with
  |some (.vp b o)=>match aZ B b with
   |some (.one _ _ row)=>bif Nat.ble 1 n&&Nat.ble (o+n) row.length then(bif agg then some (.agg ((row.drop o).take n)) else match(row.drop o).take n with|[v]=>some v|_=>none) else none
   |_=>none
  |_=>none
def rF(VE:bO)(B:bq):List jW→Option (List VV)
 |[]=>some []
 |r::rs=>(QR VE B r).bind fun v=>(rF VE B rs).map (v:: ·)
def mm:List VV→VV
 |[v]=>v
 |l=>.tuple l
theorem resV_rep(G:Rel H0 X0 VE B E H β){r:jW}{v:VV}(h:QR VE B r=some v):∃a,aK H (XB X0 B β) β v a∧∀{e:aF}{k:aw→aF},Ca E H r e k=k a:=by
 cases r with
 |tmp t=>
  obtain⟨a,F,h2⟩:=G.env t v h
  refine⟨a,h2,fun{e k}=>?_⟩
  show ob (E.get t) e k=k a
  rw[F,cJ]
 |cell a n agg=>
  simp only[QR] at h
  split at h
  ·rename_i b o J
   split at h
   ·rename_i elem aL row K
    obtain⟨Z,F,h2⟩:=G.env a _ J
    simp only[aK] at h2
    subst h2
    obtain⟨l,L,I⟩:=(G.box b _ K).Ar
    cases z:(Nat.ble 1 n&&Nat.ble (o+n) row.length) with
    |false=>rw[z] at h;cases h
    |true=>
     rw[z] at h
     simp only[ep] at z
     have e1:=aX z.1
     have M:=aX z.2
     have A:∀{e:aF}{k:List aw→aF},rd H (β b) 1 o n e k=k ((l.drop o).take n):=fun{e k}=>by
      have:=Jn (k:=o) (n:=n) (e:=e) (c:=k) L (by rw[I.length];exact M) ax
      rwa [pn,fC] at this
     have p:=bt.take n (bt.drop o I)
     cases agg with
     |true=>
      have h:some (VV.agg ((row.drop o).take n))=some v:=h
      cases h
      refine⟨.agg ((l.drop o).take n),by simp only[aK];exact⟨_,rfl,p⟩,fun{e k}=>?_⟩
      show ob (E.get a) e (fun v=>gA v e fun f g off=>rd H f g off n e fun l=>fD true l e k)=_
      rw[F,cJ]
      show rd H (β b) 1 o n e (fun l=>fD true l e k)=_
      rw[A];rfl
     |false=>
      have h:(match(row.drop o).take n with|[v]=>some v|_=>none)=some v:=h
      split at h
      ·rename_i w O
       cases h
       rw[O] at p
       simp only[bt] at p
       obtain⟨x,s,U,Y,rfl⟩:=p
       refine⟨x,Y,fun{e k}=>?_⟩
       show ob (E.get a) e (fun v=>gA v e fun f g off=>rd H f g off n e fun l=>fD false l e k)=_
       rw[F,cJ]
       show rd H (β b) 1 o n e (fun l=>fD false l e k)=_
       rw[A,U];rfl
      cases h
   cases h
  cases h
theorem LF(p:Rel H0 X0 VE B E H β):∀{rs:List jW}{vs:List VV},rF VE B rs=some vs→∃l,bt H (XB X0 B β) β vs l∧∀{e:aF}{k:List aw→aF},vw E H rs e k=k l
 |[],vs,h=>by simp only[rF,eW] at h;subst h;exact⟨[],by simp only[bt],rfl⟩
 |r::rs,vs,h=>by
  simp only[rF,Ec,Jf] at h
  obtain⟨v,z,s,A,rfl⟩:=h
  obtain⟨a,F,h2⟩:=resV_rep p z
  obtain⟨l,G,I⟩:=LF p A
  refine⟨a::l,by simp only[bt];exact⟨a,l,rfl,F,G⟩,fun{e k}=>?_⟩
  show Ca E H r e (fun v=>vw E H rs e fun vs=>k (v::vs))=_
  rw[h2,I]
def RetB(rs:List jW)(P:VV→bq→Prop):Ex→bO→bq→Prop
 |.exit _,_,_=>False
 |_,VE,B=>∃vs p,rF VE B rs=some vs∧aT p B∧P (mm vs) p
def aaR(rs:List jW)(P:VV→Prop):Ex→bO→bq→Prop
 |.exit _,_,_=>False
 |_,VE,B=>∃vs,rF VE B rs=some vs∧lB vs∧P (mm vs)
theorem lF{f:Nat}{fn:bT}{args:List VV}{Bi:bq}{P:VV→bq→Prop}(hf:T.ft.get f=some fn)(Z:fn.ps.length=args.length)(h:VC T fn.body (Cg fn.ps args []) Bi (RetB fn.res P)):fW T f args Bi P:=by
 intro H0 X H β l h0 p
 have hr:=L1 (ks:=fn.ps) h0 p Z
 refine W6 hf (by rw[Z,p.length]) ((h H0 X _ H _ hr).mono fun x E' H' hp=>?_)
 obtain⟨bY,B',β',hw,J,K⟩:=hp
 have key:(∃vs z,rF bY B' fn.res=some vs∧aT z B'∧P (mm vs) z)→∃v,results E' H' fn.res= .ok v H'∧∃r B' β',gF Bi β H (fun _=>True) B' β' H'∧Rel H0 X [] B' .emp H' β'∧aK H' (XB X B' β') β' r v∧P r B':=by
  rintro⟨vs,z,k1,L,M⟩
  have O:=J.Bp (B':=z) fun _ _ hk=>L.get hk
  have F:Rel H0 X [] z .emp H' β':={O with env:=fun _ _ k=>by cases k}
  have G:gF Bi β H (fun _=>True) z β' H':=hw.Jo fun b s U h2=>⟨s,L.get U,h2⟩
  obtain⟨l',k4,k5⟩:=LF J k1
  have Y:ff H' (XB X B' β') H' (XB X z β'):=⟨bM _,fun f _ hx=>⟨fun k=>hx (k.imp id fun⟨c,s,U,h2⟩=>⟨c,s,L.get U,h2⟩),rfl⟩⟩
  have I:bt H' (XB X z β') β' vs l':=bt.lift Y k4
  have A:results E' H' fn.res=List.rec (motive:=fun _=>aF) (.ok (.tuple []) H') (fun v r _=>List.rec (motive:=fun _=>aF) (.ok v H') (fun _ _ _=>.ok (.tuple (v::r)) H') r) l':=k5
  cases vs with
  |nil=>
   simp only[bt] at I
   subst I
   exact⟨_,A,mm [],z,β',G,F,by simp only[mm,aK,bt];exact⟨[],rfl,rfl⟩,M⟩
  |cons v r=>
   cases r with
   |nil=>
    simp only[bt] at I
    obtain⟨a,s,rfl,k7,rfl⟩:=I
    exact⟨_,A,_,z,β',G,F,k7,M⟩
   |cons w r=>
    have k8:=I
    simp only[bt] at I
    obtain⟨a,s,rfl,k7,a2,s2,rfl,_⟩:=I
    exact⟨_,A,_,z,β',G,F,by simp only[mm,aK];exact⟨_,rfl,k8⟩,M⟩
 cases x with
 |exit id=>exact absurd K (fun h=>h)
 |normal=>exact⟨fun _ h=>(by cases h),key K⟩
 |ret=>exact⟨fun _ h=>(by cases h),key K⟩
theorem Dr{vs:List VV}(h:lB vs):(mm vs).nb:=by
 cases vs with
 |nil=>simp only[mm,VV.nb,lB]
 |cons v r=>
  cases r with
  |nil=>simp only[lB] at h;exact h.1
  |cons w r=>simpa only[mm,VV.nb] using h
theorem ch{f:Nat}{fn:bT}{args:List VV}{P:VV→Prop}(F:T.ft.get f=some fn)(G:fn.ps.length=args.length)(h:VC T fn.body (Cg fn.ps args []) [] (aaR fn.res P)):Sound T f args P:=
 lF F G (h.mono fun x VE B p=>by
  cases x with
  |exit id=>exact p
  |normal=>obtain⟨vs,z,h2,A⟩:=p;exact⟨vs,[],z,trivial,Dr h2,A⟩
  |ret=>obtain⟨vs,z,h2,A⟩:=p;exact⟨vs,[],z,trivial,Dr h2,A⟩)
end
def encSl{α:Type}(enc:α→List DC):Option (List α)→DC
 |none=>.nil
 |some l=>.sl (l.map enc)
def elS{α:Type}:Option (List α)→List α
 |none=>[]
 |some l=>l
section
variable{T:bC}{H0:Nat→Nat}{X0:Nat→Prop}{VE bY:bO}{B B':bq}{E:Env}{H H':aC}{β:Nat→Nat}{X:Nat→Prop}
variable{W:List Nat}{Q:VV→bq→Prop}{α:Type}{ec:α→List DC}{o:Option (List α)}
theorem YR.enc{es:Nat}(h:∀e,(ec e).length=es):YR B es (.d (encSl ec o)) ((elS o).map ec):=by
 cases o with
 |none=>exact .nil
 |some l=>
  refine .sl fun row p=>?_
  obtain⟨e,_,rfl⟩:=List.mem_map.1 p
  exact h e
theorem aq{d g:Key}{want t:Bool}{p:Option (List Nat)}{op:bF}{r:List bK}{Q:bO→bq→Prop}(z:aZ VE g.n=some (.d (.b t)))(A:t=want)(h:VI T op VE B W fun v B'=>VO T r ((d.n,v)::VE) B' Q):VO T (⟨some d,some (g,want),p,op⟩::r) VE B Q:=by
 subst A;exact vo_want z h
theorem bg{fl:List FL}{d g:Key}{want t:Bool}{op:bF}{r:List bK}{Q:bO→bq→Prop}(p:aZ VE g.n=some (.d (.b t)))(z:t=want)(h:VI T op VE B W fun v B'=>VQ T r ((d.n,v)::VE) B' fl Q):VQ T (⟨some d,some (g,want),none,op⟩::r) VE B fl Q:=by
 subst z;exact vq_want p h
theorem cw{fl:List FL}{d g:Key}{want t:Bool}{l:List Nat}{op:bF}{r:List bK}{Q:bO→bq→Prop}(p:aZ VE g.n=some (.d (.b t)))(z:t=want)(A:o4 W l fl=true)(h:VI T op VE B W fun v B'=>VQ T r ((d.n,v)::VE) B' (tL W::fl) Q):VQ T (⟨some d,some (g,want),some l,op⟩::r) VE B fl Q:=by
 subst z;exact AD p A h
theorem aW{c x y:aM}{t:Bool}{v:VV}(p:c.vv VE=some (.d (.b t)))(z:t=true)(A:x.vv VE=some v)(F:Q v B):VI T (.pick c x y) VE B [] Q:=by
 subst z;exact L0 p A F
theorem bd{c x y:aM}{t:Bool}{v:VV}(p:c.vv VE=some (.d (.b t)))(z:t=false)(A:y.vv VE=some v)(F:Q v B):VI T (.pick c x y) VE B [] Q:=by
 subst z;exact UX p A F
theorem cg{k:Key}{a b:IC}{t:Bool}{R:Ex→bO→bq→Prop}(p:aZ VE k.n=some (.d (.b t)))(z:t=true)(h:VC T a VE B R):VC T (.cond (.t k) a b) VE B R:=by
 subst z;exact vc_condT p h
theorem cH{k:Key}{a b:IC}{t:Bool}{R:Ex→bO→bq→Prop}(p:aZ VE k.n=some (.d (.b t)))(z:t=false)(h:VC T b VE B R):VC T (.cond (.t k) a b) VE B R:=by
 subst z;exact vc_condF p h
theorem strEq_eq(p z A F:Nat):rB p z A F=decide (p=A∧z=F):=by
 unfold rB
 by_cases h:p=A
 ·subst h
  rw[show Nat.beq p p=true from ga p]
  by_cases h2:z=F
  ·subst h2
   simp
  have:Nat.beq z F=false:=by
   cases G:Nat.beq z F
   ·rfl
   exact absurd (cL G) h2
  simp[this,h2]
 have:Nat.beq p A=false:=by
  cases G:Nat.beq p A
  ·rfl
  exact absurd (cL G) h
 simp[this,h]
theorem e6{g:Key}{t:Bool}{ops:List bK}{Q:bO→bq→Prop}(_hg:aZ VE g.n=some (.d (.b t)))(p:t=true→VO T ops VE B Q)(h2:t=false→VO T ops VE B Q):VO T ops VE B Q:=by
 cases t
 ·exact h2 rfl
 exact p rfl
theorem C7{g:Key}{t:Bool}{ops:List bK}{fl:List FL}{Q:bO→bq→Prop}(_hg:aZ VE g.n=some (.d (.b t)))(p:t=true→VQ T ops VE B fl Q)(h2:t=false→VQ T ops VE B fl Q):VQ T ops VE B fl Q:=by
 cases t
 ·exact h2 rfl
 exact p rfl
theorem bt.setAt{β:Nat→Nat}{new ur:VV}(p:∀a,aK H X β ur a→aK H X β new a):∀{l:List VV}{s:List aw}{i:Nat},bt H X β l s→l[i]?=some ur→bt H X β (l.set i new) s
 |[],_,_,_,h=>by simp at h
 |v::r,s,i,h,hi=>by
  simp only[bt] at h
  obtain⟨a,s,rfl,z,h2⟩:=h
  cases i with
  |zero=>
   simp at hi
   subst hi
   simp only[List.set_cons_zero,bt]
   exact⟨a,s,rfl,p a z,h2⟩
  |succ i=>
   simp only[List.set_cons_succ,bt]
   exact⟨a,s,rfl,z,bt.setAt p h2 (by simpa using hi)⟩
def exV(id:Nat):Ex→Ex
 |.exit j=>bif Nat.beq j id then .normal else .exit j
 |x=>x
theorem exV_eq(id:Nat)(x:Ex):GJ id x=exV id x:=by
 cases x with
 |normal=>rfl
 |ret=>rfl
 |exit j=>
  show(if j=id then Ex.normal else .exit j)=bif Nat.beq j id then .normal else .exit j
  by_cases h:j=id
  ·rw[bE h,h,show Nat.beq id id=true from ga id];rfl
  rw[bw h]
  cases p:Nat.beq j id
  ·rfl
  exact absurd (cL p) h
theorem bj{id:Nat}{c:IC}{R:Ex→bO→bq→Prop}(h:VC T c VE B fun x=>R (exV id x)):VC T (.block id c) VE B R:=
 vc_block (h.mono fun x _ _ k=>by rw[exV_eq];exact k)
theorem sR{elem es aL lo:Nat}{x y:aM}{b:Nat}{rows ys:List (List DC)}{vy:VV}(K:x.vv VE=some (.bs b rows.length es))(hb:aZ B b=some (.arr elem aL es lo rows))(hy:y.vv VE=some vy)(Sf:YR B es vy ys)(h0:0<es)
  (L:(rows++ys).length*aL≤70368744177664) (M:Q (.bs b (rows++ys).length es) ((b,.arr elem aL es (rows++ys).length (rows++ys))::B)):VI T (.app elem es aL x y) VE B [b] Q:=fun _ X0 _ H β p=>by
 obtain⟨a,h1,h2⟩:=p.bU K
 obtain⟨c,h3,h4⟩:=p.bU hy
 obtain⟨ls,O,he⟩:∃ls,kA H (XB X0 B β) es ls ys∧((c= .gh∧ys.length=0∧ls=[])∨∃f g off e,c= .slice f g off ys.length e∧Ev.elems H f g es ys.length off=some ls):=by
  rcases Sf.elems p h0 h4 with⟨I,rfl⟩|⟨f,g,off,e,ls,I,k2,k3⟩
  ·exact⟨[],trivial,.inl ⟨I,rfl,rfl⟩⟩
  exact⟨ls,k3,.inr ⟨f,g,off,e,I,k2⟩⟩
 have U:∀call,(bF.app elem es aL x y).ev call _ H=iC elem es aL ys.length ls H a:=fun call=>Iz h1 h3 he
 have R2:=O.length
 simp only[aK] at h2
 subst h2
 obtain⟨Y,cs,I,k2,k4,k3⟩:=p.box b _ hb
 cases ys with
 |nil=>
  rw[J9] at M
  refine eu (fun call=>(U call).trans rfl) ⟨.bs b rows.length es,(b,.arr elem aL es rows.length rows)::B,β,⟨rfl,bM _,fun _ h=>.inl h,fun c t z ht=>?_,fun _ _ _=>rfl⟩,?_,by simp only[aK],M⟩
  ·rw[di] at z
   by_cases e:b=c
   ·subst e;exact .inl ⟨_,hb,trivial,rfl⟩
   rw[bw e] at z;exact .inl ⟨t,z,ht,rfl⟩
  have Z:∀c t,aZ ((b,BS.arr elem aL es rows.length rows)::B) c=some t→∃t',aZ B c=some t'∧t'.born∧(c=b∧t= .arr elem aL es rows.length rows)∨(c≠b∧aZ B c=some t):=fun c t z=>by
   rw[di] at z
   by_cases e:b=c
   ·rw[bE e] at z;cases z;subst e;exact⟨_,.inl ⟨hb,trivial,rfl,rfl⟩⟩
   rw[bw e] at z;exact⟨t,.inr ⟨fun k=>e k.symm,z⟩⟩
  have hX:∀f,XB X0 ((b,BS.arr elem aL es rows.length rows)::B) β f→XB X0 B β f:=fun f K=>by
   rcases K with k|⟨c,t,j1,ho,F⟩
   ·exact .inl k
   obtain⟨t',⟨A,J,rfl,rfl⟩|⟨_,A⟩⟩:=Z c t j1
   ·exact .inr ⟨_,t',A,J,F⟩
   exact .inr ⟨c,t,A,ho,F⟩
  have hl:ff H (XB X0 B β) H (XB X0 ((b,BS.arr elem aL es rows.length rows)::B) β):=⟨bM _,fun f _ K=>⟨fun k=>K (hX f k),rfl⟩⟩
  refine⟨p.kE,p.bb,p.x0,fun c t z ho=>?_,fun c e t u z R3 ho hu G=>?_,fun k w hk=>?_,fun c t z=>?_⟩
  ·obtain⟨t',⟨A,J,rfl,rfl⟩|⟨_,A⟩⟩:=Z c t z
   ·exact p.new _ t' A J
   exact p.new c t A ho
  ·obtain⟨t',⟨A,J,rfl,rfl⟩|⟨_,A⟩⟩:=Z c t z<;>obtain⟨u',⟨n1,n2,rfl,rfl⟩|⟨_,n1⟩⟩:=Z e u R3
   ·rfl
   ·exact p.inj _ _ _ _ A n1 J hu G
   ·exact p.inj _ _ _ _ A n1 ho n2 G
   exact p.inj _ _ _ _ A n1 ho hu G
  ·obtain⟨a,j1,F⟩:=p.env k w hk
   exact⟨a,j1,F.lift hl⟩
  obtain⟨t',⟨A,J,rfl,rfl⟩|⟨_,A⟩⟩:=Z c t z
  ·exact⟨Y,cs,I,ax,bM _,fun q row M=>by
    obtain⟨l,j3,j4,j5⟩:=k3 q row M
    exact⟨l,j3,j4,j5.lift hl⟩⟩
  exact(p.box c t A).lift hl rfl
 |cons y0 yr=>
  have hA:iC elem es aL (y0::yr).length ls H (.slice (β b) rows.length 0 rows.length es)=AS elem es aL (y0::yr).length ls H (β b) rows.length 0 rows.length es:=rfl
  generalize hys2:y0::yr=ys at*
  rw[fZ] at L
  refine⟨0,_,_,fun lf n _ _=>(U _).trans (hA.trans (Uq I ax L)),?_⟩
  refine xi (s':=.arr elem aL es (rows++ys).length (rows++ys)) p hb trivial rfl (fun f hf=>?_) rfl rfl (fun X _ F=>⟨Y,ia ls cs rows.length,?_,by rw[fZ];omega,bM _,fun i row hi=>?_⟩) (fun X=>?_) M
  ·show(H.t.set (β b) _).get f=_
   rw[GT.c7,bw hf]
  ·show(H.t.set (β b) _).get (β b)=_
   rw[GT.c7,bE rfl,fZ]
  ·rw[Hu]
   have um:=(List.getElem?_eq_some_iff.1 hi).1
   rw[fZ] at um
   by_cases e:rows.length≤i
   ·rw[bE ⟨e,ax⟩]
    rw[rQ e] at hi
    obtain⟨l,j3,j4,j5⟩:=O.get hi
    exact⟨l,j3,j4,F _ _ j5⟩
   rw[bw (fun k=>e k.1)]
   rw[tn ax] at hi
   obtain⟨l,j3,j4,j5⟩:=k3 i row hi
   exact⟨l,j3,j4,F _ _ j5⟩
  simp only[aK,fZ]
theorem iK{elem es aL:Nat}{x y:aM}{ys:List (List DC)}{vy:VV}(b:Nat)(Z:aZ B b=none)(hE:tb b VE=true)(hB:rD b B=true)(A:x.vv VE=some (.d .nil))(hy:y.vv VE=some vy)(Sf:YR B es vy ys)(h0:0<es)
  (nT:ys.length*aL≤70368744177664) (hq:Q (.ac b ys.length es) ((b,.acc elem aL es ys)::B)):VI T (.app elem es aL x y) VE B [b] Q:=fun _ X0 _ H β z=>by
 obtain⟨a,F,h2⟩:=z.bU A
 obtain⟨c,h3,h4⟩:=z.bU hy
 obtain⟨ls,G,he⟩:∃ls,kA H (XB X0 B β) es ls ys∧((c= .gh∧ys.length=0∧ls=[])∨∃f g off e,c= .slice f g off ys.length e∧Ev.elems H f g es ys.length off=some ls):=by
  rcases Sf.elems z h0 h4 with⟨k1,rfl⟩|⟨f,g,off,e,ls,k1,k2,k3⟩
  ·exact⟨[],trivial,.inl ⟨k1,rfl,rfl⟩⟩
  exact⟨ls,k3,.inr ⟨f,g,off,e,k1,k2⟩⟩
 have I:∀call,(bF.app elem es aL x y).ev call _ H=iC elem es aL ys.length ls H a:=fun call=>Iz F h3 he
 have R2:=G.length
 simp only[aK,cq] at h2
 subst h2
 cases ys with
 |nil=>
  refine eu (fun call=>(I call).trans rfl) ⟨.ac b 0 es,(b,.acc elem aL es [])::B,β,gF.refl.Jo (TS (B:=B)),?_,by simp only[aK];exact .inl ⟨trivial,trivial⟩,hq⟩
  have U:∀c s,aZ ((b,BS.acc elem aL es [])::B) c=some s→s.born→aZ B c=some s:=fun c s p ho=>by
   rw[di] at p
   by_cases e:b=c
   ·rw[bE e] at p;cases p;exact absurd rfl ho
   rw[bw e] at p;exact p
  have hX:∀f,XB X0 ((b,BS.acc elem aL es [])::B) β f→XB X0 B β f:=fun f A=>A.imp id fun⟨c,s,F,ho,h2⟩=>⟨c,s,U c s F ho,ho,h2⟩
  have hl:ff H (XB X0 B β) H (XB X0 ((b,BS.acc elem aL es [])::B) β):=⟨bM _,fun f _ A=>⟨fun k=>A (hX f k),rfl⟩⟩
  refine⟨z.kE,z.bb,z.x0,fun c s p ho=>z.new c s (U c s p ho) ho,fun c e s t p he J Y=>z.inj c e s t (U c s p J) (U e t he Y) J Y,fun j w hj=>?_,fun c s p=>?_⟩
  ·obtain⟨a,F,h2⟩:=z.env j w hj
   exact⟨a,F,h2.lift hl⟩
  rw[di] at p
  by_cases e:b=c
  ·rw[bE e] at p;cases p;exact .inl rfl
  rw[bw e] at p;exact(z.box c s p).lift hl rfl
 |cons y0 yr=>
  have hA:iC elem es aL (y0::yr).length ls H .gh=xH elem es aL (y0::yr).length ls H:=rfl
  generalize K:y0::yr=ys at*
  have L:0<ys.length:=by rw[←K];simp
  obtain⟨β',⟨M,O⟩,na⟩:=z.Y3 (b:=b) (s:=.acc elem aL es ys) (H':=⟨H.next+1,H.bb,H.ws,H.t.set H.next (.row elem es aL ys.length ys.length 0 (ia ls .emp 0))⟩) hE hB (fun s J _=>by rw[Z] at J;cases J) rfl
   (fun f hf=>by show(H.t.set H.next _).get f=_;rw[GT.c7,bw ax]) rfl (fun X β' k=>.inr ⟨ys.length,ia ls .emp 0,by show(H.t.set H.next _).get H.next=_;rw[GT.c7,bE rfl],bM _,fun i row hi=>by
    obtain⟨l,j1,j2,j3⟩:=G.get hi
    refine⟨l,?_,j2,k _ _ j3⟩
    rw[Hu,bE ⟨mR _,by have:=(List.getElem?_eq_some_iff.1 hi).1;omega⟩,BU]
    exact j1⟩)
  refine eu (fun call=>(I call).trans (hA.trans (Up nT))) ⟨_,_,β',⟨rfl,yH _,fun _ h=>.inl h,fun c t p Y=>?_,fun f hf _=>by show(H.t.set H.next _).get f=_;rw[GT.c7,bw ax]⟩,na,?_,hq⟩
  ·rw[di] at p
   by_cases e:b=c
   ·subst e;exact .inr (by rw[M];exact bM _)
   rw[bw e] at p
   exact .inl ⟨t,p,Y,O c fun k=>e k.symm⟩
  simp only[aK,M]
  exact .inr ⟨L,trivial⟩
end
def cC(σ:List (Nat×Nat))(N c:Nat):Nat:=match aZ σ c with
 |some k=>k
 |none=>c+N
mutual
def VV.cC(σ:List (Nat×Nat))(N:Nat):VV→VV
 |.d x=>.d x
 |.agg l=>.agg (mT σ N l)
 |.tuple l=>.tuple (mT σ N l)
 |.vp b o=>.vp (Ev.cC σ N b) o
 |.bp b g q o es=>.bp (Ev.cC σ N b) g q o es
 |.rp row o=>.rp row o
 |.bs b n es=>.bs (Ev.cC σ N b) n es
 |.ac b n es=>.ac (Ev.cC σ N b) n es
 |.fn f dM=>.fn f (mT σ N dM)
 |.k a=>.k a
 |.iU=>.iU
 |.undef=>.undef
def mT(σ:List (Nat×Nat))(N:Nat):List VV→List VV
 |[]=>[]
 |v::r=>v.cC σ N::mT σ N r
end
mutual
def VV.lt(N:Nat):VV→Bool
 |.d _=>true
 |.agg l=>Ac N l
 |.tuple l=>Ac N l
 |.vp b _=>Nat.blt b N
 |.bp b _ _ _ _=>Nat.blt b N
 |.rp _ _=>true
 |.bs b _ _=>Nat.blt b N
 |.ac b _ _=>Nat.blt b N
 |.fn _ dM=>Ac N dM
 |.k _=>true
 |.iU=>true
 |.undef=>true
def Ac(N:Nat):List VV→Bool
 |[]=>true
 |v::r=>v.lt N&&Ac N r
end
def BS.cC(σ:List (Nat×Nat))(N:Nat):BS→BS
 |.one e b row=>.one e b (mT σ N row)
 |.arr e b es lo rows=>.arr e b es lo rows
 |.acc e b es rows=>.acc e b es rows
 |.ct g s=>.ct g (s.cC σ N)
def BS.lt(N:Nat):BS→Bool
 |.one _ _ row=>Ac N row
 |.ct _ s=>s.lt N
 |_=>true
def mU(σ:List (Nat×Nat))(N:Nat):bq→bq
 |[]=>[]
 |(b,s)::r=>(cC σ N b,s.cC σ N)::mU σ N r
def Ad(N:Nat):bO→Bool
 |[]=>true
 |(_,v)::r=>v.lt N&&Ad N r
def Ae(N:Nat):bq→Bool
 |[]=>true
 |(b,s)::r=>Nat.blt b N&&s.lt N&&Ae N r
def jC:List (Nat×Nat)→List (Nat×Nat)
 |[]=>[]
 |(a,b)::r=>(b,a)::jC r
def pK(N:Nat):List (Nat×Nat)→Bool
 |[]=>true
 |(c,k)::r=>(aZ r c).isNone&&(aZ (jC r) k).isNone&&(jY c||!jY k)&&Nat.blt k N&&pK N r
def FU(σ:List (Nat×Nat))(N:Nat):bq→bq→Prop
 |[],_=>True
 |(c,s)::r,B=>(aZ σ c).isSome=true∧aZ B (cC σ N c)=some (s.cC σ N)∧FU σ N r B
def Jq:List (Nat×Nat)→bq→Bool
 |[],_=>true
 |(c,_)::r,Bi=>(aZ Bi c).isSome&&Jq r Bi
def ik(σ:List (Nat×Nat)):bq→bq
 |[]=>[]
 |(b,s)::r=>bif(aZ (jC σ) b).isSome then ik σ r else(b,s)::ik σ r
def clean(VE:bO)(p:bq):List (Nat×Nat)→Bool
 |[]=>true
 |(c,k)::r=>(jY c||(tb k VE&&FV k p))&&clean VE p r
where FV (k:Nat):bq→Bool
 |[]=>true
 |(_,s)::r=>s.zero k&&FV k r
section
variable{T:bC}{H0:Nat→Nat}{X0:Nat→Prop}{VE bY:bO}{B B':bq}{E:Env}{H H':aC}{β β':Nat→Nat}{X:Nat→Prop}{σ:List (Nat×Nat)}{N:Nat}
theorem AX{a b:Nat}(h:Nat.blt a b=true):a<b:=aX h
mutual
theorem aK.pX:∀{v:VV}{a:aw},aK H X β (v.cC σ N) a→aK H X (fun c=>β (Ev.cC σ N c)) v a
 |.d x,_,h=>by simp only[aK,VV.cC] at h⊢;exact h
 |.agg l,_,h=>by
  simp only[aK,VV.cC] at h⊢
  obtain⟨cs,e,h⟩:=h
  exact⟨cs,e,bt.pX h⟩
 |.tuple l,_,h=>by
  simp only[aK,VV.cC] at h⊢
  obtain⟨cs,e,h⟩:=h
  exact⟨cs,e,bt.pX h⟩
 |.vp c off,_,h=>by simp only[aK,VV.cC] at h⊢;exact h
 |.bp c g q off es,_,h=>by simp only[aK,VV.cC] at h⊢;exact h
 |.rp row off,_,h=>by simp only[aK,VV.cC] at h⊢;exact h
 |.bs c m es,_,h=>by simp only[aK,VV.cC] at h⊢;exact h
 |.ac c m es,_,h=>by simp only[aK,VV.cC] at h⊢;exact h
 |.fn f dM,_,h=>by
  simp only[aK,VV.cC] at h⊢
  obtain⟨cs,e,h⟩:=h
  exact⟨cs,e,bt.pX h⟩
 |.k x,_,h=>by simp only[aK,VV.cC] at h⊢;exact h
 |.iU,_,h=>by simp only[aK,VV.cC] at h⊢;exact h
 |.undef,_,_=>by simp only[aK]
theorem bt.pX:∀{l:List VV}{s:List aw},bt H X β (mT σ N l) s→bt H X (fun c=>β (Ev.cC σ N c)) l s
 |[],_,h=>by simp only[bt,mT] at h⊢;exact h
 |v::r,_,h=>by
  simp only[bt,mT] at h⊢
  obtain⟨a,s,e,p,h2⟩:=h
  exact⟨a,s,e,aK.pX p,bt.pX h2⟩
end
mutual
theorem aK.cC(p:∀c,β' (Ev.cC σ N c)=β c):∀{v:VV}{a:aw},aK H X β v a→aK H X β' (v.cC σ N) a
 |.d x,_,h=>by simp only[aK,VV.cC] at h⊢;exact h
 |.agg l,_,h=>by
  simp only[aK,VV.cC] at h⊢
  obtain⟨cs,e,h⟩:=h
  exact⟨cs,e,bt.cC p h⟩
 |.tuple l,_,h=>by
  simp only[aK,VV.cC] at h⊢
  obtain⟨cs,e,h⟩:=h
  exact⟨cs,e,bt.cC p h⟩
 |.vp c off,_,h=>by simp only[aK,VV.cC] at h⊢;rw[p];exact h
 |.bp c g q off es,_,h=>by simp only[aK,VV.cC] at h⊢;rw[p];exact h
 |.rp row off,_,h=>by simp only[aK,VV.cC] at h⊢;exact h
 |.bs c m es,_,h=>by simp only[aK,VV.cC] at h⊢;rw[p];exact h
 |.ac c m es,_,h=>by simp only[aK,VV.cC] at h⊢;rw[p];exact h
 |.fn f dM,_,h=>by
  simp only[aK,VV.cC] at h⊢
  obtain⟨cs,e,h⟩:=h
  exact⟨cs,e,bt.cC p h⟩
 |.k x,_,h=>by simp only[aK,VV.cC] at h⊢;exact h
 |.iU,_,h=>by simp only[aK,VV.cC] at h⊢;exact h
 |.undef,_,_=>by simp only[aK,VV.cC]
theorem bt.cC(p:∀c,β' (Ev.cC σ N c)=β c):∀{l:List VV}{s:List aw},bt H X β l s→bt H X β' (mT σ N l) s
 |[],_,h=>by simp only[bt,mT] at h⊢;exact h
 |v::r,_,h=>by
  simp only[bt,mT] at h⊢
  obtain⟨a,s,e,z,h2⟩:=h
  exact⟨a,s,e,aK.cC p z,bt.cC p h2⟩
end
mutual
theorem aK.at{A:List Nat}(p:∀b,b<N→(∀k,k∈A→b≠k)→β' b=β b):∀{v:VV}{a:aw},v.lt N=true→(∀k,k∈A→v.zero k=true)→aK H X β v a→aK H X β' v a
 |.d x,_,_,_,h=>by simp only[aK] at h⊢;exact h
 |.agg l,_,n,m,h=>by
  simp only[aK,VV.lt,VV.zero] at h n m⊢
  obtain⟨cs,e,h⟩:=h
  exact⟨cs,e,bt.at p n m h⟩
 |.tuple l,_,n,m,h=>by
  simp only[aK,VV.lt,VV.zero] at h n m⊢
  obtain⟨cs,e,h⟩:=h
  exact⟨cs,e,bt.at p n m h⟩
 |.vp c off,_,n,m,h=>by simp only[aK,VV.lt,VV.zero] at h n m⊢;rw[p c (AX n) fun k z=>og (m k z)];exact h
 |.bp c g q off es,_,n,m,h=>by simp only[aK,VV.lt,VV.zero] at h n m⊢;rw[p c (AX n) fun k z=>og (m k z)];exact h
 |.rp row off,_,_,_,h=>by simp only[aK] at h⊢;exact h
 |.bs c j es,_,n,m,h=>by simp only[aK,VV.lt,VV.zero] at h n m⊢;rw[p c (AX n) fun k z=>og (m k z)];exact h
 |.ac c j es,_,n,m,h=>by
  simp only[aK,VV.lt,VV.zero,tq] at h n m⊢
  by_cases F:j=0
  ·rcases h with h|h
   ·exact .inl h
   omega
  rw[p c (AX n) fun k z=>(m k z).elim (fun e=>og e) fun e=>absurd (cL e) F];exact h
 |.fn f dM,_,n,m,h=>by
  simp only[aK,VV.lt,VV.zero] at h n m⊢
  obtain⟨cs,e,h⟩:=h
  exact⟨cs,e,bt.at p n m h⟩
 |.k x,_,_,_,h=>by simp only[aK] at h⊢;exact h
 |.iU,_,_,_,h=>by simp only[aK] at h⊢;exact h
 |.undef,_,_,_,_=>by simp only[aK]
theorem bt.at{z:List Nat}(A:∀b,b<N→(∀k,k∈z→b≠k)→β' b=β b):∀{l:List VV}{s:List aw},Ac N l=true→(∀k,k∈z→ta k l=true)→bt H X β l s→bt H X β' l s
 |[],_,_,_,h=>by simp only[bt] at h⊢;exact h
 |v::r,_,n,m,h=>by
  simp only[bt,Ac,ta,ep] at h n m⊢
  obtain⟨a,s,e,F,h2⟩:=h
  exact⟨a,s,e,aK.at A n.1 (fun k p=>(m k p).1) F,bt.at A n.2 (fun k p=>(m k p).2) h2⟩
end
theorem VA:∀{VE:bO},Ad N VE=true→∀{k:Nat}{v:VV},aZ VE k=some v→v.lt N=true
 |[],_,_,_,h=>by cases h
 |(i,w)::r,p,k,v,h=>by
  simp only[Ad,ep] at p
  rw[di] at h
  by_cases e:i=k
  ·rw[bE e] at h;cases h;exact p.1
  rw[bw e] at h;exact VA p.2 h
theorem HZ:∀{B:bq},Ae N B=true→∀{c:Nat}{s:BS},aZ B c=some s→c<N∧s.lt N=true
 |[],_,_,_,h=>by cases h
 |(i,w)::r,p,c,s,h=>by
  simp only[Ae,ep] at p
  rw[di] at h
  by_cases e:i=c
  ·rw[bE e] at h;cases h;exact⟨e▸AX p.1.1,p.1.2⟩
  rw[bw e] at h;exact HZ p.2 h
theorem Tz{α:Type}(k:Nat):∀(l m:List (Nat×α)),aZ (l++m) k=match aZ l k with|some v=>some v|none=>aZ m k
 |[],m=>rfl
 |(i,v)::r,m=>by
  rw[yF,di,di]
  by_cases e:i=k
  ·rw[bE e,bE e]
  rw[bw e,bw e];exact Tz k r m
theorem xw:∀{σ:List (Nat×Nat)},pK N σ=true→∀{c k:Nat},aZ σ c=some k↔aZ (jC σ) k=some c
 |[],_,c,k=>by simp[jC,aZ]
 |(a,b)::r,h,c,k=>by
  simp only[pK,ep] at h
  obtain⟨⟨⟨⟨F,h2⟩,_⟩,_⟩,G⟩:=h
  have z:= @xw r G c k
  show aZ ((a,b)::r) c=some k↔aZ ((b,a)::jC r) k=some c
  rw[di,di]
  by_cases e:a=c
  ·subst e
   rw[bE rfl]
   have A:aZ r a=none:=by simpa using F
   constructor
   ·intro h;cases h;rw[bE rfl]
   intro h
   by_cases p:b=k
   ·subst p;rfl
   rw[bw p] at h
   rw[←z,A] at h;cases h
  rw[bw e]
  have A:aZ (jC r) b=none:=by simpa using h2
  constructor
  ·intro h
   by_cases p:b=k
   ·subst p
    rw[z,A] at h;cases h
   rw[bw p];exact z.1 h
  intro h
  by_cases p:b=k
  ·subst p
   rw[bE rfl] at h;cases h;exact absurd rfl e
  rw[bw p] at h;exact z.2 h
theorem Ds:∀{σ:List (Nat×Nat)},pK N σ=true→∀{c k:Nat},aZ σ c=some k→(jY c=true∨jY k=false)∧k<N
 |(a,b)::r,h,c,k,p=>by
  simp only[pK,ep,tq,qK] at h
  obtain⟨⟨⟨⟨_,_⟩,z⟩,A⟩,F⟩:=h
  rw[di] at p
  by_cases e:a=c
  ·subst e;rw[bE rfl] at p;cases p;exact⟨z,AX A⟩
  rw[bw e] at p;exact Ds F p
theorem VB(h:pK N σ=true){c d:Nat}(e:cC σ N c=cC σ N d):c=d:=by
 unfold cC at e
 cases z:aZ σ c with
 |some k=>
  have F:=(Ds h z).2
  rw[z] at e
  cases p:aZ σ d with
  |some j=>
   rw[p] at e
   have e:k=j:=e
   subst e
   have A:=(xw h).1 z
   have h2:=(xw h).1 p
   rw[A] at h2;cases h2;rfl
  |none=>rw[p] at e;have e:k=d+N:=e;omega
 |none=>
  rw[z] at e
  cases p:aZ σ d with
  |some j=>
   have G:=(Ds h p).2
   rw[p] at e;have e:c+N=j:=e;omega
  |none=>rw[p] at e;have e:c+N=d+N:=e;omega
theorem BS.jL:∀{s:BS},(s.cC σ N).born↔s.born
 |.one _ _ _=>gY
 |.arr _ _ _ _ _=>gY
 |.acc _ _ _ _=>gY
 |.ct _ s=>BS.jL (s:=s)
theorem Ur(h:pK N σ=true){c:Nat}:∀{B:bq},aZ (mU σ N B) (cC σ N c)=(aZ B c).map (BS.cC σ N)
 |[]=>rfl
 |(b,s)::r=>by
  show aZ ((cC σ N b,s.cC σ N)::mU σ N r) _=_
  rw[di,di,Ur h (B:=r)]
  by_cases e:b=c
  ·rw[bE e,bE (by rw[e])];rfl
  rw[bw e,bw fun k=>e (VB h k)]
theorem S3{b:Nat}{t:BS}:∀{B:bq},aZ (mU σ N B) b=some t→∃c,cC σ N c=b
 |(c,s)::r,h=>by
  have h:aZ ((cC σ N c,s.cC σ N)::mU σ N r) b=some t:=h
  rw[di] at h
  by_cases e:cC σ N c=b
  ·exact⟨c,e⟩
  rw[bw e] at h;exact S3 h
theorem Us{b:Nat}:∀{B:bq},aZ (ik σ B) b=if(aZ (jC σ) b).isSome then none else aZ B b
 |[]=>by show none=_;split<;>rfl
 |(c,s)::r=>by
  have p:= @Us b r
  show aZ (bif(aZ (jC σ) c).isSome then ik σ r else(c,s)::ik σ r) b=_
  cases z:(aZ (jC σ) c).isSome
  ·show aZ ((c,s)::ik σ r) b=_
   rw[di,di]
   by_cases e:c=b
   ·subst e;rw[bE rfl,bE rfl,z];rfl
   rw[bw e,bw e];exact p
  show aZ (ik σ r) b=_
  rw[p,di]
  by_cases e:c=b
  ·subst e;rw[z];rfl
  rw[bw e]
theorem UZ:∀{Bi:bq},FU σ N Bi B→∀{c:Nat}{s:BS},aZ Bi c=some s→(∃k,aZ σ c=some k)∧aZ B (cC σ N c)=some (s.cC σ N)
 |[],_,_,_,h=>by cases h
 |(a,t)::r,p,c,s,h=>by
  obtain⟨z,h2,A⟩:=p
  rw[di] at h
  by_cases e:a=c
  ·subst e;rw[bE rfl] at h;cases h;exact⟨Option.isSome_iff_exists.1 z,h2⟩
  rw[bw e] at h;exact UZ A h
theorem U0{k:Nat}:∀{B:bq},clean.FV k B=true→∀{c:Nat}{s:BS},aZ B c=some s→s.zero k=true
 |(i,w)::r,p,c,s,h=>by
  simp only[clean.FV,ep] at p
  rw[di] at h
  by_cases e:i=c
  ·rw[bE e] at h;cases h;exact p.1
  rw[bw e] at h;exact U0 p.2 h
theorem LG{z:bq}:∀{σ:List (Nat×Nat)},clean VE z σ=true→∀{c k:Nat},aZ σ c=some k→jY c=true∨(tb k VE=true∧clean.FV k z=true)
 |(a,b)::r,h,c,k,p=>by
  simp only[clean,ep,tq] at h
  rw[di] at p
  by_cases e:a=c
  ·subst e;rw[bE rfl] at p;cases p;exact h.1
  rw[bw e] at p;exact LG h.2 p
theorem df.pX{f:Nat}:∀{s:BS},df H X β f (s.cC σ N)→df H X (fun c=>β (Ev.cC σ N c)) f s
 |.one _ _ _,⟨l,lo,cs,p,h2,z,A⟩=>⟨l,lo,cs,p,h2,z,bt.pX A⟩
 |.arr _ _ _ _ _,h=>h
 |.acc _ _ _ _,h=>h
 |.ct _ s,h=>⟨fun F=>h.1 (BS.jL.2 F),df.pX (s:=s) h.2⟩
theorem df.cC{f:Nat}(z:∀c,β' (Ev.cC σ N c)=β c):∀{s:BS},df H X β f s→df H X β' f (s.cC σ N)
 |.one _ _ _,⟨l,lo,cs,A,h2,F,G⟩=>⟨l,lo,cs,A,h2,F,bt.cC z G⟩
 |.arr _ _ _ _ _,h=>h
 |.acc _ _ _ _,h=>h
 |.ct _ s,h=>⟨fun p=>h.1 (BS.jL.1 p),df.cC z (s:=s) h.2⟩
theorem df.at{f:Nat}{A:List Nat}(F:∀b,b<N→(∀k,k∈A→b≠k)→β' b=β b):∀{s:BS},s.lt N=true→(∀k,k∈A→s.zero k=true)→df H X β f s→df H X β' f s
 |.one _ _ _,p,z,⟨l,lo,cs,G,h2,I,J⟩=>⟨l,lo,cs,G,h2,I,bt.at F p z J⟩
 |.arr _ _ _ _ _,_,_,h=>h
 |.acc _ _ _ _,_,_,h=>h
 |.ct _ s,p,z,h=>⟨h.1,df.at F (s:=s) p z h.2⟩
def tM:List (Nat×Nat)→List Nat
 |[]=>[]
 |(c,k)::r=>bif jY c then tM r else k::tM r
theorem C8:∀{σ:List (Nat×Nat)},pK N σ=true→∀{k:Nat},k∈tM σ→∃c,aZ σ c=some k∧jY c=false
 |(a,b)::r,h,k,p=>by
  have h0:=h
  simp only[pK,ep] at h
  obtain⟨⟨⟨⟨G,_⟩,_⟩,_⟩,I⟩:=h
  have up:∀{c j},aZ r c=some j→aZ ((a,b)::r) c=some j:=fun{c j}J=>by
   rw[di]
   by_cases e:a=c
   ·subst e;rw[J] at G;simp at G
   rw[bw e];exact J
  unfold tM at p
  cases z:jY a
  ·rw[z] at p
   rcases List.mem_cons.1 p with rfl|p
   ·exact⟨a,by rw[di,bE rfl],z⟩
   obtain⟨c,A,F⟩:=C8 I p;exact⟨c,up A,F⟩
  rw[z] at p
  obtain⟨c,A,F⟩:=C8 I p;exact⟨c,up A,F⟩
theorem U1:∀{σ:List (Nat×Nat)}{c k:Nat},aZ σ c=some k→jY c=false→k∈tM σ
 |(a,b)::r,c,k,h,p=>by
  rw[di] at h
  unfold tM
  by_cases e:a=c
  ·subst e;rw[bE rfl] at h;cases h;rw[p];exact jU ..
  rw[bw e] at h
  have:=U1 h p
  cases jY a
  ·exact qw _ this
  exact this
theorem Ut{f:Nat}{vs:List aw}{dx:List VV}{Bi:bq}{P:VV→bq→Prop}{Q:VV→bq→Prop}(σ:List (Nat×Nat))(N:Nat)(hN:Nat.ble 1050 N=true)(G:pK N σ=true)(hE:Ad N VE=true)(hB:Ae N B=true)(sr:Jq σ Bi=true)
  (CH:clean VE (ik σ B) σ=true) (hBi:FU σ N Bi B) (h:fW T f dx Bi P) (hq:∀r Bn,P r Bn→Q (r.cC σ N) (mU σ N Bn++ik σ B)) (hr:Rel H0 X0 VE B E H β) (h2:bt H (XB X0 B β) β (mT σ N dx) vs):su T f vs H (Bo H0 X0 VE B β E H (σ.map (·.2)) Q):=by
 have hN:1050≤N:=aX hN
 let Y:Nat→Nat:=fun c=>β (cC σ N c)
 let X:Nat→Prop:=fun f=>X0 f∨∃b s,aZ (ik σ B) b=some s∧s.born∧β b=f
 have p:∀{b s},aZ (ik σ B) b=some s→aZ (jC σ) b=none∧aZ B b=some s:=fun{b s}h=>by
  rw[Us] at h
  cases F:aZ (jC σ) b with
  |none=>rw[F] at h;exact⟨rfl,h⟩
  |some _=>rw[F] at h;cases h
 have z:∀{c s},aZ Bi c=some s→(∃k,aZ σ c=some k)∧aZ B (cC σ N c)=some (s.cC σ N):=fun h=>UZ hBi h
 have hX1:∀f,XB X Bi Y f→XB X0 B β f:=fun f hf=>by
  rcases hf with(hf|⟨b,s,I,J,U⟩)|⟨c,s,I,J,U⟩
  ·exact .inl hf
  ·exact .inr ⟨b,s,(p I).2,J,U⟩
  exact .inr ⟨_,_,(z I).2,BS.jL.2 J,U⟩
 have Y4:ff H (XB X0 B β) H (XB X Bi Y):=⟨bM _,fun f _ F=>⟨fun k=>F (hX1 f k),rfl⟩⟩
 have FQ:∀{c s b t},aZ Bi c=some s→s.born→aZ (ik σ B) b=some t→t.born→Y c≠β b:=fun{c s b t}I J U k4 e=>by
  obtain⟨⟨k,Z⟩,k5⟩:=z I
  have:=hr.inj _ _ _ _ k5 (p U).2 (BS.jL.2 J) k4 e
  have e2:cC σ N c=k:=by unfold cC;rw[Z]
  rw[e2] at this
  subst this
  have:=(p U).1
  rw[(xw G).1 Z] at this;cases this
 have hrc:Rel Y X [] Bi .emp H Y:=by
  refine⟨fun _ _=>rfl,hr.bb,fun f hf=>hr.lt f (hX1 f (.inl hf)),fun c s I J=>⟨fun F=>?_,(hr.new _ _ (z I).2 (BS.jL.2 J)).2⟩,fun c d s t I J U k4 e=>VB G (hr.inj _ _ _ _ (z I).2 (z J).2 (BS.jL.2 U) (BS.jL.2 k4) e),(fun _ _ k=>by cases k),fun c s I=>?_⟩
  ·rcases F with F|⟨b,t,U,k4,k5⟩
   ·exact(hr.new _ _ (z I).2 (BS.jL.2 J)).1 F
   exact FQ I J U k4 k5.symm
  exact df.pX ((hr.box _ _ (z I).2).lift Y4 rfl)
 refine(h Y X H Y vs hrc (bt.pX (h2.lift Y4))).mono fun a H' hp=>?_
 obtain⟨r,B',β',hw,na,hv,k6⟩:=hp
 let βn:Nat→Nat:=fun b=>match aZ (jC σ) b with
  |some c=>β' c
  |none=>if N≤b then β' (b-N) else β b
 have A:∀c,βn (cC σ N c)=β' c:=fun c=>by
  show(match aZ (jC σ) (cC σ N c) with|some c=>β' c|none=>if N≤cC σ N c then β' (cC σ N c-N) else β (cC σ N c))=_
  unfold cC
  cases hc:aZ σ c with
  |some k=>show(match aZ (jC σ) k with|some c=>β' c|none=>_)=_;rw[(xw G).1 hc]
  |none=>
   show(match aZ (jC σ) (c+N) with|some c=>β' c|none=>if N≤c+N then β' (c+N-N) else β (c+N))=_
   cases hs:aZ (jC σ) (c+N) with
   |some d=>have:=(Ds G ((xw G).2 hs)).2;omega
   |none=>rw[bE ax,Nat.add_sub_cancel]
 have Sg:∀b,b<N→(∀k,k∈tM σ→b≠k)→βn b=β b:=fun b L hm=>by
  show(match aZ (jC σ) b with|some c=>β' c|none=>if N≤b then β' (b-N) else β b)=_
  cases hs:aZ (jC σ) b with
  |none=>rw[bw ax]
  |some c=>
   have hc:=(xw G).2 hs
   have hp:jY c=true:=by
    cases hp:jY c
    ·exact absurd rfl (hm b (U1 hc hp))
    rfl
   show β' c=β b
   rw[na.kE c hp]
   show β (cC σ N c)=β b
   unfold cC;rw[hc]
 have K:∀{b t},aZ (mU σ N B'++ik σ B) b=some t→(∃c t',cC σ N c=b∧aZ B' c=some t'∧t=t'.cC σ N)∨(aZ (ik σ B) b=some t∧b<N∧aZ (jC σ) b=none):=fun{b t}hc=>by
  rw[Tz] at hc
  cases F:aZ (mU σ N B') b with
  |some u=>
   rw[F] at hc;cases hc
   obtain⟨c,rfl⟩:=S3 F
   rw[Ur G] at F
   obtain⟨t',I,J⟩:=Option.map_eq_some_iff.1 F
   exact .inl ⟨c,t',rfl,I,J.symm⟩
  |none=>
   rw[F] at hc
   exact .inr ⟨hc,(HZ hB (p hc).2).1,(p hc).1⟩
 have M:∀{b t},aZ (ik σ B) b=some t→βn b=β b:=fun{b t}L=>by
  have ss:=(HZ hB (p L).2).1
  show(match aZ (jC σ) b with|some c=>β' c|none=>if N≤b then β' (b-N) else β b)=_
  rw[(p L).1,bw ax]
 have hXn:∀f,XB X0 (mU σ N B'++ik σ B) βn f→XB X B' β' f:=fun f F=>by
  rcases F with k|⟨b,t,j1,ho,j2⟩
  ·exact .inl (.inl k)
  rcases K j1 with⟨c,t',rfl,n2,rfl⟩|⟨n1,_,_⟩
  ·exact .inr ⟨c,t',n2,BS.jL.1 ho,by rw[←A];exact j2⟩
  exact .inl (.inr ⟨b,t,n1,ho,by rw[←M n1];exact j2⟩)
 have CC:ff H' (XB X B' β') H' (XB X0 (mU σ N B'++ik σ B) βn):=⟨bM _,fun f _ F=>⟨fun k=>F (hXn f k),rfl⟩⟩
 have aaS:∀f,f<H.next→(∀b s,aZ B b=some s→s.born→β b≠f)→H'.t.get f=H.t.get f:=fun f hf L=>hw.jm f hf fun c s I J=>L _ _ (z I).2 (BS.jL.2 J)
 have sq:ff H (XB X0 B β) H' (XB X0 (mU σ N B'++ik σ B) βn):=⟨hw.next,fun f hf F=>⟨fun k=>by
  rcases hXn f k with(k|⟨b,t,j1,j2,j3⟩)|⟨c,s,j1,ho,j2⟩
  ·exact F (.inl k)
  ·exact F (.inr ⟨b,t,(p j1).2,j2,j3⟩)
  rcases hw.since c s j1 ho with⟨u,n1,n2,n3⟩|n
  ·exact F (.inr ⟨_,_,(z n1).2,BS.jL.2 n2,by rw[←j2,n3]⟩)
  omega,aaS f hf fun b s I J U=>F (.inr ⟨b,s,I,J,U⟩)⟩⟩
 have hnoE:∀{k v},aZ VE k=some v→∀j,j∈tM σ→v.zero j=true:=fun{k v}Z j hj=>by
  obtain⟨c,h3,h4⟩:=C8 G hj
  rcases LG CH h3 with h5|⟨h5,_⟩
  ·rw[h4] at h5;cases h5
  exact LD h5 Z
 have hnoB:∀{b s},aZ (ik σ B) b=some s→∀j,j∈tM σ→s.zero j=true:=fun{b s}Z j hj=>by
  obtain⟨c,h3,h4⟩:=C8 G hj
  rcases LG CH h3 with h5|⟨_,h5⟩
  ·rw[h4] at h5;cases h5
  exact U0 h5 Z
 refine⟨r.cC σ N,mU σ N B'++ik σ B,βn,⟨hw.bb,hw.next,fun f hf=>?_,fun b t L ho=>?_,aaS⟩,⟨fun b L=>?_,na.bb,fun f hf=>lH (hr.x0 f hf) hw.next,fun b t L ho=>?_,fun b e t u L he ho hu O=>?_,fun k v Z=>?_,fun b t L=>?_⟩,aK.cC A (hv.lift CC),hq r B' k6⟩
 ·rcases hw.ws f hf with h|⟨m,c,s,_,I,J,U⟩
  ·exact .inl h
  obtain⟨⟨k,Z⟩,k4⟩:=z I
  refine .inr ⟨m,cC σ N c,_,?_,k4,BS.jL.2 J,U⟩
  have e2:cC σ N c=k:=by unfold cC;rw[Z]
  rw[e2]
  have:∀{σ:List (Nat×Nat)}{c k:Nat},aZ σ c=some k→k∈σ.map (·.2):=by
   intro σ
   induction σ with
   |nil=>intro c k h;cases h
   |cons x r ih=>
    obtain⟨a,b⟩:=x
    intro c k h
    rw[di] at h
    by_cases e:a=c
    ·rw[bE e] at h;cases h;exact jU ..
    rw[bw e] at h;exact qw _ (ih h)
  exact this Z
 ·rcases K L with⟨c,t',rfl,n2,rfl⟩|⟨n1,_,_⟩
  ·rw[A]
   rcases hw.since c t' n2 (BS.jL.1 ho) with⟨u,j1,j2,j3⟩|j
   ·exact .inl ⟨_,(z j1).2,BS.jL.2 j2,j3⟩
   exact .inr j
  exact .inl ⟨t,(p n1).2,ho,M n1⟩
 ·rw[Sg b (by simp only[jY,ep] at L;have:=aX L.2;omega) fun k Z e=>?_]
  ·exact hr.kE b L
  subst e
  obtain⟨c,h3,h4⟩:=C8 G Z
  rcases(Ds G h3).1 with h5|h5
  ·rw[h4] at h5;cases h5
  rw[L] at h5;cases h5
 ·rcases K L with⟨c,t',rfl,n2,rfl⟩|⟨n1,_,_⟩
  ·rw[A]
   have:=na.new c t' n2 (BS.jL.1 ho)
   exact⟨fun F=>this.1 (.inl F),this.2⟩
  rw[M n1]
  have:=hr.new b t (p n1).2 ho
  exact⟨this.1,lH this.2 hw.next⟩
 ·rcases K L with⟨c,t',rfl,n2,rfl⟩|⟨n1,_,_⟩<;>rcases K he with⟨d,u',rfl,p2,rfl⟩|⟨p1,_,_⟩
  ·rw[A,A] at O
   rw[na.inj c d t' u' n2 p2 (BS.jL.1 ho) (BS.jL.1 hu) O]
  ·rw[A,M p1] at O
   exact absurd (show X (β' c) from .inr ⟨_,_,p1,hu,O.symm⟩) (na.new c t' n2 (BS.jL.1 ho)).1
  ·rw[A,M n1] at O
   exact absurd (show X (β' d) from .inr ⟨_,_,n1,ho,O⟩) (na.new d u' p2 (BS.jL.1 hu)).1
  rw[M n1,M p1] at O
  exact hr.inj b e t u (p n1).2 (p p1).2 ho hu O
 ·obtain⟨a,j1,j2⟩:=hr.env k v Z
  exact⟨a,j1,aK.at Sg (VA hE Z) (hnoE Z) (j2.lift sq)⟩
 rcases K L with⟨c,t',rfl,n2,rfl⟩|⟨n1,_,_⟩
 ·rw[A]
  exact df.cC A ((na.box c t' n2).lift CC rfl)
 rw[M n1]
 refine df.at Sg (HZ hB (p n1).2).2 (hnoB n1) ((hr.box b t (p n1).2).Bm sq fun ho=>hw.jm _ (hr.new b t (p n1).2 ho).2 fun c s I J U=>?_)
 exact FQ I J n1 ho U
theorem ns{f:Nat}{l:List aM}{dx:List VV}{Bi:bq}{P:VV→bq→Prop}{Q:VV→bq→Prop}(σ:List (Nat×Nat))(N:Nat)(hN:Nat.ble 1050 N=true)(p:pK N σ=true)(J:Ad N VE=true)(K:Ae N B=true)(z:Jq σ Bi=true)
  (A:clean VE (ik σ B) σ=true) (L:pb VE l=some (mT σ N dx)) (F:FU σ N Bi B) (h:fW T f dx Bi P) (M:∀r G,P r G→Q (r.cC σ N) (mU σ N G++ik σ B)):VI T (.call f l) VE B (σ.map (·.2)) Q:=fun H0 X0 E H β I=>by
 obtain⟨vs,O,h2⟩:=Aw I L
 exact LV O (Ut σ N hN p J K z A F h M I h2)
theorem wpI_callv{x:aM}{l:List aM}{f:Nat}{vs cs:List aw}{R:aw→aC→Prop}(p:x.ev E=some (.func f [] cs))(z:im E l=some vs)(h:su T f (vs++cs) H R):gp T (.rA x l) E H R:=by
 obtain⟨N,v,H',a,b⟩:=h
 refine⟨N,v,H',fun lf n A h2=>?_,b⟩
 show bD x E (.err 43) (fun v=>vd v (.err 43) fun f fs dM=>ob (im E l) (.err 43) fun vs=>T.call lf n f (fs++(vs++dM)) H)=_
 rw[cM,p,cJ]
 show ob (im E l) (.err 43) (fun vs=>T.call lf n f ([]++(vs++cs)) H)=_
 rw[z,cJ]
 exact a lf n A h2
theorem LH{x:aM}{f:Nat}{dM:List VV}{l:List aM}{as dx:List VV}{Bi:bq}{P:VV→bq→Prop}{Q:VV→bq→Prop}(σ:List (Nat×Nat))(N:Nat)(K:x.vv VE=some (.fn f dM))(hN:Nat.ble 1050 N=true)(z:pK N σ=true)(L:Ad N VE=true)(M:Ae N B=true)(A:Jq σ Bi=true)
  (F:clean VE (ik σ B) σ=true) (O:pb VE l=some as) (U:as++dM=mT σ N dx) (G:FU σ N Bi B) (h:fW T f dx Bi P) (Y:∀r J,P r J→Q (r.cC σ N) (mU σ N J++ik σ B)):VI T (.rA x l) VE B (σ.map (·.2)) Q:=fun H0 X0 E H β I=>by
 obtain⟨vs,Z,h2⟩:=Aw I O
 obtain⟨a,h3,p⟩:=I.bU K
 simp only[aK] at p
 obtain⟨cs,rfl,p⟩:=p
 exact wpI_callv h3 Z (Ut σ N hN z L M A F G h Y I (by rw[←U];exact h2.append p))
theorem C9{f:Nat}{l:List aM}{args:List VV}{P:VV→bq→Prop}{Q:VV→bq→Prop}(N:Nat)(hN:Nat.ble 1050 N=true)(z:Ad N VE=true)(A:Ae N B=true)(F:pb VE l=some (mT [] N args))(h:DK T f args P)(G:∀r p,P r p→Q (r.cC [] N) (mU [] N p++ik [] B)):VI T (.call f l) VE B [] Q:=
 ns (Bi:=[]) [] N hN rfl z A rfl rfl F trivial h G
end
end Go.Ev
