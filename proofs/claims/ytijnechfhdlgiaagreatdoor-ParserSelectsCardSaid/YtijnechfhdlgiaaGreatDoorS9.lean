/- Part 9 of rules for walks through the code of a program, and of such walks; what each part proves is said by its theorems. -/
import Derived.Test.YtijnechfhdlgiaaGreatDoorS8
set_option linter.unusedVariables false
set_option linter.unusedSimpArgs false
namespace Go.Ev
section
variable{T:bd}{H0:Nat→Nat}{X0:Nat→Prop}{VE ep:b0}{B B':bo}{E:Env}{H H':az}{β:Nat→Nat}{X:Nat→Prop}
variable{W:List Nat}{Q:VV→bo→Prop}
theorem cY.LV:∀{row:List DC}{l:List an}(o n:Nat),cY H X row l→cY H X ((row.drop o).take n) ((l.drop o).take n):=by
 intro row l o n h
 have z:=bm.tR (β:=fun _=>0) h
 have h2:=bm.take n (bm.drop o z)
 rw[←HQ,←List.map_take] at h2
 exact cY.zQ h2
theorem mb{a:aF}{row:List DC}{o:Nat}{x:DC}(A:a.vv VE=some (.rp row o))(G:row[o]?=some x)(I:Q (.d x) B):VI T (.load 1 false a) VE B [] Q:=fun _ _ _ _ _ z=>by
 obtain⟨_,J,h2⟩:=z.b8 A
 simp only[aM] at h2
 obtain⟨f,g,Z,l,rfl,K,O,_⟩:=h2
 obtain⟨y,U,Y⟩:=O.get G
 exact GJ J K rfl U (eS z (v:=.d x) (by simp only[aM];exact Y) I)
theorem mc{a:aF}{row:List DC}{o n:Nat}(G:a.vv VE=some (.rp row o))(h0:0<n)(I:o+n≤row.length)(J:Q (.agg (((row.drop o).take n).map .d)) B):VI T (.load n true a) VE B [] Q:=fun _ _ _ _ _ z=>by
 obtain⟨_,K,h2⟩:=z.b8 G
 simp only[aM] at h2
 obtain⟨f,g,U,l,rfl,O,A,_⟩:=h2
 exact K0 K O rfl (by rw[A.length];exact I) h0 (eS z (v:=.agg (((row.drop o).take n).map .d)) (by simp only[aM];exact⟨_,rfl,bm.tR (A.LV o n)⟩) J)
theorem gU.zs{f elem aP:Nat}{row:List VV}(h:gU H X β f (.one elem aP row)):∃l,mB H f 1 0 l∧bm H X β row l:=by
 obtain⟨l,lo,cs,z,h2,A,G⟩:=h
 exact⟨l,⟨elem,aP,1,lo,0,cs,z,h2,bV _,Nat.zero_lt_one,A⟩,G⟩
theorem df{a:aF}{b o elem aP:Nat}{row:List VV}{v:VV}(A:a.vv VE=some (.vp b o))(G:aY B b=some (.one elem aP row))(I:row[o]?=some v)(J:Q v B):VI T (.load 1 false a) VE B [] Q:=fun _ _ _ _ _ z=>by
 obtain⟨_,K,h2⟩:=z.b8 A
 simp only[aM] at h2
 subst h2
 obtain⟨l,O,U⟩:=(z.box b _ G).zs
 obtain⟨y,Y,Z⟩:=U.get I
 exact GJ K O (by rw[rJ,jx]) Y (eS z Z J)
theorem pG{a:aF}{b o n elem aP:Nat}{row:List VV}(G:a.vv VE=some (.vp b o))(I:aY B b=some (.one elem aP row))(h0:0<n)(J:o+n≤row.length)(K:Q (.agg ((row.drop o).take n)) B):VI T (.load n true a) VE B [] Q:=fun _ _ _ _ _ z=>by
 obtain⟨_,O,h2⟩:=z.b8 G
 simp only[aM] at h2
 subst h2
 obtain⟨l,U,A⟩:=(z.box b _ I).zs
 exact K0 O U (by rw[rJ,jx]) (by rw[A.length];exact J) h0 (eS z (v:=.agg ((row.drop o).take n)) (by simp only[aM];exact⟨_,rfl,bm.take n (bm.drop o A)⟩) K)
theorem zu{a:aF}{b g j o es elem aP lo:Nat}{rows:List (List DC)}{row:List DC}{x:DC}(G:a.vv VE=some (.bp b g j o es))(I:aY B b=some (.arr elem aP es lo rows))(J:lo≤g)(h2:g≤rows.length)(K:j<g)(O:rows[j]?=some row)(U:row[o]?=some x)(Y:Q (.d x) B):VI T (.load 1 false a) VE B [] Q:=fun _ _ _ _ _ z=>by
 obtain⟨_,Z,A⟩:=z.b8 G
 simp only[aM] at A
 subst A
 obtain⟨l,k3,k4,k5⟩:=(z.box b _ I).cells J h2 K O
 obtain⟨y,k6,k7⟩:=k5.get U
 exact GJ Z k3 (by rw[k4]) k6 (eS z (v:=.d x) (by simp only[aM];exact k7) Y)
theorem GK{v:VV}{a:an}{b:Nat}{s:BS}(O:Rel H0 X0 VE B E H β)(U:oi b VE=true)(Y:oj b B=true)(Z:H'.next=H.next+1)(I:∀f,f<H.next→H'.t.get f=H.t.get f)(J:H'.bc=H.bc)(hw:H'.ws=H.ws)
  (z:∀X β',(∀v a,v.no b=true→aM H (XB X0 B β) β v a→aM H' X β' v a)→(∀row l,cY H (XB X0 B β) row l→cY H' X row l)→gU H' X β' H.next s)
  (hv:∀X β',β' b=H.next→aM H' X β' v a) (hq:Q v ((b,s)::B)):yl H0 X0 VE B β E H W Q a H':=by
 obtain⟨β',⟨K,h3⟩,h2,_⟩:=O.VY U Y Z I J z
 refine⟨v,_,β',⟨J,by omega,fun f A=>.inl (hw▸A),fun c t G ht=>?_,fun f A _=>I f A⟩,h2,hv _ _ K,hq⟩
 rw[eu] at G
 by_cases e:b=c
 ·subst e;exact .inr (by rw[K];exact bV _)
 rw[aj e] at G
 exact .inl ⟨t,G,ht,h3 c fun k=>e k.symm⟩
theorem SN{b:Nat}{v:VV}{l:List VV}(h:v.no b=true)(z:v.cells=some l):pw b l=true:=by
 cases v
 case k x=>
  cases x<;>simp only[VV.cells,gP,reduceCtorEq] at z
  all_goals subst z
  all_goals rfl
 all_goals simp only[VV.cells,gP,reduceCtorEq] at z
 all_goals subst z
 all_goals simp_all [pw,VV.no]
theorem LW{b:Nat}{H1 G:az}{I J:Nat→Prop}{z A:Nat→Nat}(h:∀v a,v.no b=true→aM H1 I z v a→aM G J A v a):∀{l:List VV}{s:List an},pw b l=true→bm H1 I z l s→bm G J A l s
 |[],_,_,k=>by simp only[bm] at k⊢;exact k
 |v::r,_,n,k=>by
  simp only[bm,pw,fc] at k n⊢
  obtain⟨a,s,e,K,h2⟩:=k
  exact⟨a,s,e,h v a n.1 K,LW h n.2 h2⟩
theorem Gz{H1 G:az}{I J:Nat→Prop}{z A:Nat→Nat}(h:∀v a,aM H1 I z v a→aM G J A v a):∀{l:List VV}{s:List an},bm H1 I z l s→bm G J A l s
 |[],_,k=>by simp only[bm] at k⊢;exact k
 |v::r,_,k=>by
  simp only[bm] at k⊢
  obtain⟨a,s,e,K,h2⟩:=k
  exact⟨a,s,e,h v a K,Gz h h2⟩
theorem V0{x:aF}{v:VV}{b:Nat}(A:oi b VE=true)(z:x.vv VE=some v):v.no b=true:=by
 cases x with
 |t k=>exact CL A z
 |c a=>exact SM z b
theorem V1{elem es aP:Nat}{x:aF}{v:VV}{cells:List VV}(b:Nat)(z:oi b VE=true)(K:oj b B=true)(A:x.vv VE=some v)(G:v.cells=some cells)(O:cells.length=es)(U:Q (.vp b 0) ((b,.one elem aP cells)::B)):VI T (.box elem es aP x) VE B [] Q:=fun _ _ _ H _ I=>by
 obtain⟨a,Y,h2⟩:=I.b8 A
 obtain⟨s,Z,J⟩:=h2.cells G
 refine UC Y Z (by rw[J.length,O]) (GK (b:=b) (s:=.one elem aP cells) I z K rfl (fun f hf=>(K1 elem aP s).same f hf) rfl rfl (fun X β' k1 _=>?_) (fun X β' k=>by simp only[aM];rw[k]) U)
 obtain⟨e',b',lo,cs,j1,j2,j3⟩:=UB (H:=H) elem aP s
 refine⟨s,1,.one s,?_,bV _,rfl,LW k1 (SN (V0 z A) G) J⟩
 show(H.t.set H.next _).get H.next=_
 rw[GT.eY,aw rfl]
def ra:List an→Option (List VV)
 |[]=>some []
 |a::r=>(sB a).bind fun v=>(ra r).map (v:: ·)
theorem B7:∀{l:List an}{cells:List VV},ra l=some cells→bm H X β cells l
 |[],cells,h=>by simp only[ra,gP] at h;subst h;simp only[bm]
 |a::r,cells,h=>by
  simp only[ra,At,Dx] at h
  obtain⟨v,z,s,A,rfl⟩:=h
  simp only[bm]
  exact⟨a,r,rfl,Gy z,B7 A⟩
theorem UI{elem es aP:Nat}{l:List an}{cells:List VV}(b:Nat)(z:oi b VE=true)(A:oj b B=true)(G:ra l=some cells)(I:l.length=es)(J:Q (.vp b 0) ((b,.one elem aP cells)::B)):VI T (.cm elem es aP l) VE B [] Q:=fun _ _ _ H _ K=>by
 refine Tw I (GK (b:=b) (s:=.one elem aP cells) K z A rfl (fun f O=>(K1 elem aP l).same f O) rfl rfl (fun X β' _ _=>?_) (fun X β' k=>by simp only[aM];rw[k]) J)
 refine⟨l,1,.one l,?_,bV _,rfl,B7 G⟩
 show(H.t.set H.next _).get H.next=_
 rw[GT.eY,aw rfl]
def CO(l:List VV)(r:Nat)(new:List VV):List VV:=l.take r++(new++l.drop (r+new.length))
theorem bm.g7{l new:List VV}{s t:List an}(r:Nat)(h:bm H X β l s)(k:bm H X β new t):bm H X β (CO l r new) (g7 s r t):=by
 unfold CO Ev.g7
 rw[←k.length]
 exact(h.take r).append (k.append (h.drop _))
def xM(VE:b0):List (Nat×Nat×aF)→List VV→Option (List VV)
 |[],cells=>some cells
 |p::r,cells=>(p.2.2.vv VE).bind fun v=>v.cells.bind fun new=>bif Nat.beq new.length p.2.1 then xM VE r (CO cells p.1 new) else none
theorem Kx(A:Rel H0 X0 VE B E H β):∀{ps:List (Nat×Nat×aF)}{cells:List VV}{s:List an}{out:List VV},bm H (XB X0 B β) β cells s→xM VE ps cells=some out→∃t,pR E ps s=some t∧bm H (XB X0 B β) β out t
 |[],cells,s,out,h,z=>by simp only[xM,gP] at z;subst z;exact⟨s,rfl,h⟩
 |p::r,cells,s,out,h,z=>by
  simp only[xM,At] at z
  obtain⟨v,I,new,J,z⟩:=z
  obtain⟨a,K,h2⟩:=A.b8 I
  obtain⟨t,O,G⟩:=h2.cells J
  cases he:Nat.beq new.length p.2.1 with
  |false=>rw[he] at z;cases z
  |true=>
   rw[he] at z
   obtain⟨u,U,Y⟩:=Kx A (h.g7 p.1 G) z
   refine⟨u,?_,Y⟩
   show ob (p.2.2.ev E) none (fun v=>ob (jW v) none fun new=>aG (Nat.beq (jn new) p.2.1) (pR E r (Ev.g7 s p.1 new)) none)=some u
   rw[K,di,O,di,oO,G.length,he,f6,U]
theorem TD{zero:List an}{ps:List (Nat×Nat×aF)}{z out:List VV}(G:ra zero=some z)(I:xM VE ps z=some out)(J:Q (.agg out) B):VI T (.build zero ps) VE B [] Q:=fun _ _ _ _ _ A=>by
 obtain⟨t,K,h2⟩:=Kx A (B7 G) I
 exact SI K (eS A (v:=.agg out) (by simp only[aM];exact⟨t,rfl,h2⟩) J)
def Fy(row:List VV)(o:Nat)(new:List VV):List VV:=bif Nat.beq new.length row.length then new else CO row o new
theorem bm.bif{t0:Bool}{a b:List VV}{s t:List an}(h:bm H X β a s)(k:bm H X β b t):bm H X β (bif t0 then a else b) (bif t0 then s else t):=by
 cases t0
 ·exact k
 exact h
theorem WZ{f q o n m elem es aP lo:Nat}{l new:List an}{cs:RT}{e:aE}{K:az→aE}(z:H.t.get f=some (.row elem es aP m lo 0 cs))(h2:lo≤m)(G:q<m)(I:cs.get q=some l)(O:l.length=es)(J:new.length=n)(h0:0<n)(hk:o+n≤es):
  wr H f m (q*es+o) n new e K=K ⟨H.next,H.bc,wrote f H.bc H.ws,H.t.set f (.row elem es aP m m 0 (cs.set q (bif Nat.beq n es then new else g7 l o new)))⟩:=by
 cases H with
 |mk next bc ws t=>
  have z:t.get f=some (.row elem es aP m lo 0 cs):=z
  have e1:(q*es+o)/es=q:=by
   by_cases ho:o=es
   ·omega
   rw[mY,Nat.mul_add_div (by omega),NJ (by omega)];rfl
  have e2:(q*es+o) % es=o:=by
   by_cases ho:o=es
   ·omega
   rw[mY,Nat.mul_add_mod,AU (by omega)]
  show iY (t.get f) e (fun elem ff aP A lo fl cs=>
    aG (Nat.beq fl 0) (aG (Nat.beq m A) (aG (Nat.ble lo m) (aG (Nat.ble (Nat.add (Nat.mod (q*es+o) ff) n) ff) (aG (Nat.ble (Nat.succ (Nat.div (q*es+o) ff)) m) (aG (Nat.beq (jn new) n)
     (ob (cs.get (Nat.div (q*es+o) ff)) e fun l=>cs.gA (Nat.div (q*es+o) ff) (aG (Nat.beq n ff) new (g7 l (Nat.mod (q*es+o) ff) new)) fun cs=>t.gA f (.row elem ff aP A A 0 cs) fun t=>K ⟨next,bc,wrote f bc ws,t⟩) e) e) e) e) e) e)=_
  rw[z]
  show aG (Nat.beq 0 0) (aG (Nat.beq m m) (aG (Nat.ble lo m) (aG (Nat.ble (Nat.add (Nat.mod (q*es+o) es) n) es) (aG (Nat.ble (Nat.succ (Nat.div (q*es+o) es)) m) (aG (Nat.beq (jn new) n)
     (ob (cs.get (Nat.div (q*es+o) es)) e fun l=>cs.gA (Nat.div (q*es+o) es) (aG (Nat.beq n es) new (g7 l (Nat.mod (q*es+o) es) new)) fun cs=>t.gA f (.row elem es aP m m 0 cs) fun t=>K ⟨next,bc,wrote f bc ws,t⟩) e) e) e) e) e) e=_
  rw[show Nat.mod (q*es+o) es=o from e2,show Nat.div (q*es+o) es=q from e1,show Nat.beq 0 0=true from rfl,f6,show Nat.beq m m=true from iR m,f6,jN h2,f6,
   show Nat.ble (Nat.add o n) es=true from jN hk,f6,show Nat.ble (Nat.succ q) m=true from jN G,f6,oO,J,show Nat.beq n n=true from iR n,f6,I,di,RT.ki,GT.ki]
  cases Nat.beq n es<;>rfl
theorem TE{call:eI}{n f g o:Nat}{a x:aF}{v:an}{new:List an}(z:a.ev E=some (.ptr f g o))(A:x.ev E=some v)(G:jW v=some new):
  (bG.store n a x).ev call E H=wr H f g o n new (.err 5) fun H=>.ok .undef H:=by
 show bB a E (.err 5) (fun p=>iE p (.err 5) fun f g off=>bB x E (.err 5) fun v=>ob (jW v) (.err 5) fun l=>wr H f g off n l (.err 5) fun H=>.ok .undef H)=_
 rw[dj,z,di]
 show bB x E (.err 5) (fun v=>ob (jW v) (.err 5) fun l=>wr H f g o n l (.err 5) fun H=>.ok .undef H)=_
 rw[dj,A,di,G,di]
theorem Cj{v:VV}{a:an}{b:Nat}{s s':BS}(K:Rel H0 X0 VE B E H β)(U:aY B b=some s)(A:s.born)(hn:H'.next=H.next)(hs:∀f,f≠β b→H'.t.get f=H.t.get f)(hm:H'.bc=H.bc)(hw:H'.ws=wrote (β b) H.bc H.ws)
  (IS:∀X,(∀v a,aM H (XB X0 B β) β v a→aM H' X β v a)→(∀row l,cY H (XB X0 B β) row l→cY H' X row l)→gU H' X β (β b) s')
  (hv:∀X,aM H' X β v a) (hq:Q v ((b,s')::B)):yl H0 X0 VE B β E H [b] Q a H':=by
 have wD:=K.new b s U A
 have z:∀c t,aY ((b,s')::B) c=some t→(c=b∧t=s')∨(c≠b∧aY B c=some t):=fun c t G=>by
  rw[eu] at G
  by_cases e:b=c
  ·rw[aw e] at G;cases G;exact .inl ⟨e.symm,rfl⟩
  rw[aj e] at G;exact .inr ⟨fun k=>e k.symm,G⟩
 have hX:∀f,XB X0 ((b,s')::B) β f→XB X0 B β f:=fun f hx=>by
  rcases hx with k|⟨c,t,Y,ho,h2⟩
  ·exact .inl k
  rcases z c t Y with⟨rfl,_⟩|⟨_,O⟩
  ·exact .inr ⟨_,s,U,A,h2⟩
  exact .inr ⟨c,t,O,ho,h2⟩
 have hl:iH H (XB X0 B β) H' (XB X0 ((b,s')::B) β):=⟨by omega,fun f I hx=>⟨fun k=>hx (hX f k),hs f fun e=>hx (.inr ⟨b,s,U,A,e.symm⟩)⟩⟩
 refine⟨v,(b,s')::B,β,⟨hm,by omega,fun f I=>?_,fun c t G ht=>?_,fun f I y6=>hs f fun e=>y6 b s U A e.symm⟩,⟨K.om,by rw[hm,hn];exact K.bc,(fun f I=>by rw[hn];exact K.x0 f I),fun c t G J=>?_,fun c e t u G he J Qk Z=>?_,fun k w hk=>?_,fun c t G=>?_⟩,hv _,hq⟩
 ·rw[hw] at I
  unfold wrote at I
  cases Y:Nat.ble H.bc (β b) with
  |true=>rw[Y] at I;exact .inl I
  |false=>
   rw[Y] at I
   cases h2:qa (β b) H.ws with
   |true=>rw[h2] at I;exact .inl I
   |false=>
    rw[h2] at I
    rcases List.mem_cons.1 I with rfl|h
    ·refine .inr ⟨?_,b,s,kG ..,U,A,rfl⟩
     by_cases hl:H.bc≤β b
     ·rw[jN hl] at Y;cases Y
     omega
    exact .inl h
 ·rcases z c t G with⟨rfl,_⟩|⟨_,O⟩
  ·exact .inl ⟨s,U,A,rfl⟩
  exact .inl ⟨t,O,ht,rfl⟩
 ·rw[hn]
  rcases z c t G with⟨rfl,_⟩|⟨_,O⟩
  ·exact wD
  exact K.new c t O J
 ·rcases z c t G with⟨rfl,_⟩|⟨_,O⟩<;>rcases z e u he with⟨rfl,_⟩|⟨_,h4⟩
  ·rfl
  ·exact K.inj _ _ _ _ U h4 A Qk Z
  ·exact K.inj _ _ _ _ O U J A Z
  exact K.inj _ _ _ _ O h4 J Qk Z
 ·obtain⟨a,Y,h2⟩:=K.env k w hk
  exact⟨a,Y,h2.lift hl⟩
 rcases z c t G with⟨rfl,rfl⟩|⟨hcb,O⟩
 ·exact IS _ (fun v a k=>k.lift hl) (fun row l k=>k.lift hl)
 exact gU.wm hl (fun J=>hs _ fun e=>hcb (K.inj c b t s O U J A e)) (K.box c t O)
theorem K3{n:Nat}{a x:aF}{b o elem aP:Nat}{row new:List VV}{v:VV}(ha:a.vv VE=some (.vp b o))(I:aY B b=some (.one elem aP row))(hx:x.vv VE=some v)(hv:v.cells=some new)(J:new.length=n)(h0:0<n)(hk:o+n≤row.length)(hq:Q .undef ((b,.one elem aP (Fy row o new))::B)):VI T (.store n a x) VE B [b] Q:=fun _ X0 _ H β z=>by
 obtain⟨_,h1,h2⟩:=z.b8 ha
 simp only[aM] at h2
 subst h2
 obtain⟨y,h3,h4⟩:=z.b8 hx
 obtain⟨t,h5,O⟩:=h4.cells hv
 obtain⟨l,lo,cs,k1,k2,k3,U⟩:=z.box b _ I
 have ht:t.length=n:=by rw[O.length,J]
 have A:=U.length
 have e:=fun K=>WZ (e:=aE.err 5) (K:=K) (q:=0) (o:=o) (n:=n) (new:=t) k1 k2 Nat.zero_lt_one k3 rfl ht h0 (by omega)
 simp only[rJ,jx] at e
 refine⟨0,.undef,_,fun lf m _ _=>by rw[TE h1 h3 h5,e],?_⟩
 refine Cj z I trivial rfl (fun f hf=>?_) rfl rfl (fun X Y j2=>?_) (fun X=>by simp only[aM]) hq
 ·show(H.t.set (β b) _).get f=_
  rw[GT.eY,aj hf]
 have hlen:(bif Nat.beq n l.length then t else g7 l o t).length=l.length:=by
  cases G:Nat.beq n l.length with
  |true=>have:=eb G;show t.length=_;omega
  |false=>show(g7 l o t).length=_;simp only[g7,bC,jw,gy];omega
 refine⟨bif Nat.beq n l.length then t else g7 l o t,1,cs.set 0 (bif Nat.beq n l.length then t else g7 l o t),?_,bV _,by rw[RT.eY,aw rfl],?_⟩
 ·show(H.t.set (β b) _).get (β b)=_
  rw[GT.eY,aw rfl,hlen]
 have Z:=Gz Y O
 have h8:=Gz Y U
 unfold Fy
 rw[J,←A]
 exact bm.bif Z (h8.g7 o Z)
end
mutual
def VV.zero(b:Nat):VV→Bool
 |.d _=>true
 |.agg l=>wo b l
 |.tuple l=>wo b l
 |.vp c _=>!Nat.beq c b
 |.bp c _ _ _ _=>!Nat.beq c b
 |.rp _ _=>true
 |.bs c _ _=>!Nat.beq c b
 |.ac c n _=>!Nat.beq c b||Nat.beq n 0
 |.fn _ eJ=>wo b eJ
 |.k _=>true
 |.jB=>true
 |.undef=>true
def wo(b:Nat):List VV→Bool
 |[]=>true
 |v::r=>v.zero b&&wo b r
end
def BS.zero(b:Nat):BS→Bool
 |.one _ _ row=>wo b row
 |_=>true
def uM(b:Nat):b0→Bool
 |[]=>true
 |(_,v)::r=>v.zero b&&uM b r
def qD(b:Nat):bo→Bool
 |[]=>!lX b
 |(_,s)::r=>s.zero b&&qD b r
theorem Ky{b:Nat}:∀{B:bo},qD b B=true→lX b=false
 |[],h=>by simpa[qD] using h
 |(_,_)::r,h=>by
  simp only[qD,fc] at h
  exact Ky h.2
section
variable{T:bd}{H0:Nat→Nat}{X0:Nat→Prop}{VE ep:b0}{B B':bo}{E:Env}{H H':az}{β:Nat→Nat}{X:Nat→Prop}
variable{W:List Nat}{Q:VV→bo→Prop}
mutual
theorem aM.zero{b f:Nat}:∀{v:VV}{a:an},v.zero b=true→aM H X β v a→aM H X (fun c=>if c=b then f else β c) v a
 |.d x,_,_,h=>by simp only[aM] at h⊢;exact h
 |.agg l,_,n,h=>by
  simp only[aM,VV.zero] at h n⊢
  obtain⟨cs,e,h⟩:=h
  exact⟨cs,e,bm.zero n h⟩
 |.tuple l,_,n,h=>by
  simp only[aM,VV.zero] at h n⊢
  obtain⟨cs,e,h⟩:=h
  exact⟨cs,e,bm.zero n h⟩
 |.vp c off,_,n,h=>by simp only[aM,VV.zero] at h n⊢;rw[aj (o0 n)];exact h
 |.bp c g q off es,_,n,h=>by simp only[aM,VV.zero] at h n⊢;rw[aj (o0 n)];exact h
 |.rp row off,_,_,h=>by simp only[aM] at h⊢;exact h
 |.bs c m es,_,n,h=>by simp only[aM,VV.zero] at h n⊢;rw[aj (o0 n)];exact h
 |.ac c m es,_,n,h=>by
  simp only[aM,VV.zero,uX] at h n⊢
  rcases n with n|n
  ·rw[aj (o0 n)];exact h
  have:=eb n
  exact h.imp id fun k=>by omega
 |.fn f eJ,_,n,h=>by
  simp only[aM,VV.zero] at h n⊢
  obtain⟨cs,e,h⟩:=h
  exact⟨cs,e,bm.zero n h⟩
 |.k x,_,_,h=>by simp only[aM] at h⊢;exact h
 |.jB,_,_,h=>by simp only[aM] at h⊢;exact h
 |.undef,_,_,_=>by simp only[aM]
theorem bm.zero{b f:Nat}:∀{l:List VV}{s:List an},wo b l=true→bm H X β l s→bm H X (fun c=>if c=b then f else β c) l s
 |[],_,_,h=>by simp only[bm] at h⊢;exact h
 |v::r,_,n,h=>by
  simp only[bm,wo,fc] at h n⊢
  obtain⟨a,s,e,z,h2⟩:=h
  exact⟨a,s,e,aM.zero n.1 z,bm.zero n.2 h2⟩
end
theorem K4{b:Nat}:∀{VE:b0},uM b VE=true→∀{k:Nat}{v:VV},aY VE k=some v→v.zero b=true
 |[],_,_,_,h=>by cases h
 |(i,w)::r,z,k,v,h=>by
  simp only[uM,fc] at z
  rw[eu] at h
  by_cases e:i=k
  ·rw[aw e] at h;cases h;exact z.1
  rw[aj e] at h;exact K4 z.2 h
theorem K5{b:Nat}:∀{B:bo},qD b B=true→∀{c:Nat}{s:BS},aY B c=some s→s.zero b=true
 |[],_,_,_,h=>by cases h
 |(i,w)::r,z,c,s,h=>by
  simp only[qD,fc] at z
  rw[eu] at h
  by_cases e:i=c
  ·rw[aw e] at h;cases h;exact z.1
  rw[aj e] at h;exact K5 z.2 h
theorem Rel.ghost(h:Rel H0 X0 VE B E H β){b k:Nat}(elem aP es:Nat)(hk:aY VE k=some (.d .nil))(Z:aY B b=none):Rel H0 X0 ((k,.ac b 0 es)::VE) ((b,.acc elem aP es [])::B) E H β:=by
 have I:∀c s,aY ((b,BS.acc elem aP es [])::B) c=some s→s.born→aY B c=some s:=fun c s z ho=>by
  rw[eu] at z
  by_cases e:b=c
  ·rw[aw e] at z;cases z;exact absurd rfl ho
  rw[aj e] at z;exact z
 have Y:∀f,XB X0 ((b,BS.acc elem aP es [])::B) β f→XB X0 B β f:=fun f J=>J.imp id fun⟨c,s,A,ho,h2⟩=>⟨c,s,I c s A ho,ho,h2⟩
 have K:iH H (XB X0 B β) H (XB X0 ((b,BS.acc elem aP es [])::B) β):=⟨bV _,fun f _ J=>⟨fun k=>J (Y f k),rfl⟩⟩
 refine⟨h.om,h.bc,h.x0,fun c s z ho=>h.new c s (I c s z ho) ho,fun c e s t z he O U=>h.inj c e s t (I c s z O) (I e t he U) O U,fun j w G=>?_,fun c s z=>?_⟩
 ·rw[eu] at G
  by_cases e:k=j.n
  ·rw[aw e] at G
   cases G
   obtain⟨a,A,h2⟩:=h.env j _ (e▸hk)
   simp only[aM,cN] at h2
   exact⟨a,A,by simp only[aM];exact .inl ⟨trivial,h2⟩⟩
  rw[aj e] at G
  obtain⟨a,A,h2⟩:=h.env j w G
  exact⟨a,A,h2.lift K⟩
 rw[eu] at z
 by_cases e:b=c
 ·rw[aw e] at z;cases z;exact .inl rfl
 rw[aj e] at z;exact(h.box c s z).lift K rfl
theorem Cc{b elem aP es:Nat}:∀c s,aY ((b,BS.acc elem aP es [])::B) c=some s→s.born→∃t,aY B c=some t∧t.born:=fun c s z ho=>by
 rw[eu] at z
 by_cases e:b=c
 ·rw[aw e] at z;cases z;exact absurd rfl ho
 rw[aj e] at z;exact⟨s,z,ho⟩
theorem TG{ops:List bt}{Q:b0→bo→Prop}(k b elem aP es:Nat)(hk:aY VE k=some (.d .nil))(z:aY B b=none)(h:VO T ops ((k,.ac b 0 es)::VE) ((b,.acc elem aP es [])::B) Q):VO T ops VE B Q:=
 fun H0 X0 E H β A=>(h H0 X0 E H β (A.ghost elem aP es hk z)).mono fun _ _ hp=>hp.more Cc
theorem G1{c:IC}{R:Ex→b0→bo→Prop}(k b elem aP es:Nat)(hk:aY VE k=some (.d .nil))(z:aY B b=none)(h:VC T c ((k,.ac b 0 es)::VE) ((b,.acc elem aP es [])::B) R):VC T c VE B R:=
 fun H0 X0 E H β A=>(h H0 X0 E H β (A.ghost elem aP es hk z)).mono fun _ _ _ hp=>hp.more Cc
def j'(H:az)(X:Nat→Prop)(es:Nat):List (List an)→List (List DC)→Prop
 |[],[]=>True
 |l::ls,r::rs=>(l.length=es∧cY H X r l)∧j' H X es ls rs
 |_,_=>False
theorem j'.length{es:Nat}:∀{ls:List (List an)}{rs:List (List DC)},j' H X es ls rs→ls.length=rs.length
 |[],[],_=>rfl
 |l::ls,r::rs,h=>by simp only[j'] at h;simp[j'.length h.2]
 |[],_::_,h=>by simp[j'] at h
 |_::_,[],h=>by simp[j'] at h
theorem j'.get{es:Nat}:∀{ls:List (List an)}{rs:List (List DC)},j' H X es ls rs→∀{i:Nat}{r:List DC},rs[i]?=some r→∃l,ls[i]?=some l∧l.length=es∧cY H X r l
 |[],[],_,i,r,h=>by simp at h
 |l::ls,r::rs,z,i,x,h=>by
  simp only[j'] at z
  cases i with
  |zero=>simp at h;subst h;exact⟨l,rfl,z.1⟩
  |succ i=>simpa using j'.get z.2 (i:=i) (r:=x) (by simpa using h)
 |[],_::_,h,_,_,_=>by simp[j'] at h
 |_::_,[],h,_,_,_=>by simp[j'] at h
theorem fv.elems{f g es:Nat}(h0:0<es):∀{rows:List (List DC)}{q:Nat},fv H X f g es q rows→∃ls,elems H f g es rows.length (q*es)=some ls∧j' H X es ls rows
 |[],_,_=>⟨[],rfl,trivial⟩
 |row::r,q,h=>by
  simp only[fv] at h
  obtain⟨⟨l,z,h2,A⟩,G⟩:=h
  obtain⟨ls,I,J⟩:=fv.elems h0 G
  refine⟨l::ls,?_,by simp only[j'];exact⟨⟨h2,A⟩,J⟩⟩
  show rd H f g (q*es) es none (fun l=>ob (Ev.elems H f g es r.length (Nat.add (q*es) es)) none fun r=>some (l::r))=_
  have:=EO (k:=0) (n:=es) (e:=(none:Option (List (List an)))) (c:=fun l=>ob (Ev.elems H f g es r.length (Nat.add (q*es) es)) none fun r=>some (l::r)) z (by omega) h0
  rw[wx,h2] at this
  rw[this,List.drop_zero,pf (by omega)]
  rw[show Nat.add (q*es) es=(q+1)*es by rw[ny,sN];rfl,I]
  rfl
inductive YR(B:bo)(es:Nat):VV→List (List DC)→Prop
 |nil:YR B es (.d .nil) []
 |sl {rows:List (List DC)} (h:∀row,row∈rows→row.length=es):YR B es (.d (.sl rows)) rows
 |bs {b elem aP lo ff:Nat} {rows:List (List DC)} (h:aY B b=some (.arr elem aP es lo rows)):YR B es (.bs b rows.length ff) rows
 |ac {b elem aP ff:Nat} {rows:List (List DC)} (h:aY B b=some (.acc elem aP es rows)):YR B es (.ac b rows.length ff) rows
theorem YR.elems(K:Rel H0 X0 VE B E H β){es:Nat}{v:VV}{rows:List (List DC)}(U:YR B es v rows)(h0:0<es){a:an}(A:aM H (XB X0 B β) β v a):
  (a= .cg∧rows=[])∨∃f g off e ls,a= .slice f g off rows.length e∧Ev.elems H f g es rows.length off=some ls∧j' H (XB X0 B β) es ls rows:=by
 cases U with
 |nil=>simp only[aM,cN] at A;exact .inl ⟨A,rfl⟩
 |sl h=>
  simp only[aM,cN] at A
  obtain⟨f,g,off,ff,rfl,A⟩:=A
  refine .inr ⟨f,g,off,ff,?_⟩
  rcases A with rfl|⟨_,_,q,ho,G⟩
  ·exact⟨[],rfl,rfl,trivial⟩
  cases rows with
  |nil=>exact⟨[],rfl,rfl,trivial⟩
  |cons row r=>
   have he:ff=es:=by
    simp only[fv] at G
    obtain⟨⟨l,_,h2,I⟩,_⟩:=G
    rw[←h2,I.length,h row (kG ..)]
   subst he
   obtain⟨ls,z,h2⟩:=G.elems h0
   exact⟨ls,rfl,by rw[ho];exact z,h2⟩
 | @bs b elem aP lo ff rows h=>
  simp only[aM] at A
  subst A
  have hk:=K.box b _ h
  refine .inr ⟨β b,rows.length,0,ff,?_⟩
  have:fv H (XB X0 B β) (β b) rows.length es 0 rows:=fv.rf fun i row hi=>by
   have J:lo≤rows.length:=by obtain⟨_,_,_,_,h,_⟩:=hk;exact h
   obtain⟨l,z,h2,I⟩:=hk.cells (g:=rows.length) J (bV _) (List.getElem?_eq_some_iff.1 hi).1 hi
   exact⟨l,by rw[jx];exact z,h2,I⟩
  obtain⟨ls,z,h2⟩:=this.elems h0
  rw[rJ] at z
  exact⟨ls,rfl,z,h2⟩
 | @ac b elem aP ff rows h=>
  simp only[aM] at A
  rcases A with⟨z,rfl⟩|⟨_,rfl⟩
  ·exact .inl ⟨rfl,List.length_eq_zero_iff.1 z⟩
  refine .inr ⟨β b,rows.length,0,ff,?_⟩
  have hk:=K.box b _ h
  have:fv H (XB X0 B β) (β b) rows.length es 0 rows:=fv.rf fun i row hi=>by
   rcases hk with rfl|⟨lo,cs,Y,Z,k3⟩
   ·simp at hi
   obtain⟨l,j1,O,j3⟩:=k3 i row hi
   exact⟨l,⟨elem,aP,rows.length,lo,0,cs,by rw[O];exact Y,Z,bV _,by rw[jx];exact(List.getElem?_eq_some_iff.1 hi).1,by rw[jx];exact j1⟩,O,j3⟩
  obtain⟨ls,z,h2⟩:=this.elems h0
  rw[rJ] at z
  exact⟨ls,rfl,z,h2⟩
theorem Dm{call:eI}{elem es aP:Nat}{x y:aF}{a b:an}{n:Nat}{ls:List (List an)}(z:x.ev E=some a)(A:y.ev E=some b)
  (h:(b= .cg∧n=0∧ls=[])∨∃f g off e,b= .slice f g off n e∧Ev.elems H f g es n off=some ls):(bG.app elem es aP x y).ev call E H=jO elem es aP n ls H a:=by
 show bB x E (.err 26) (fun a=>bB y E (.err 26) fun b=>gL b (.err 26) (jO elem es aP 0 [] H a) fun f g off n _=>
  ob (Ev.elems H f g es n off) (.err 26) fun l=>jO elem es aP n l H a)=_
 rw[dj,z,di]
 show bB y E (.err 26) (fun b=>gL b (.err 26) (jO elem es aP 0 [] H a) fun f g off n _=>
  ob (Ev.elems H f g es n off) (.err 26) fun l=>jO elem es aP n l H a)=_
 rw[dj,A,di]
 rcases h with⟨rfl,rfl,rfl⟩|⟨f,g,off,e,rfl,h⟩
 ·rfl
 show ob (Ev.elems H f g es n off) (.err 26) (fun l=>jO elem es aP n l H a)=_
 rw[h,di]
theorem Ck{ls:List (List an)}{cs:RT}{m q:Nat}:(jG ls cs m).get q=if m≤q∧q<m+ls.length then ls[q-m]?else cs.get q:=tE ls cs m q
theorem Rel.OS(h:Rel H0 X0 VE B E H β){b:Nat}(hE:uM b VE=true)(hB:qD b B=true)(hb:∀s,aY B b=some s→¬s.born)(hn:H'.next=H.next+1)(hs:∀f,f<H.next→H'.t.get f=H.t.get f)(hm:H'.bc=H.bc){s:BS}
  (Z:∀X β',(∀row l,cY H (XB X0 B β) row l→cY H' X row l)→gU H' X β' H.next s):
  ∃β',(β' b=H.next∧∀c,c≠b→β' c=β c)∧Rel H0 X0 VE ((b,s)::B) E H' β':=by
 let β':Nat→Nat:=fun c=>if c=b then H.next else β c
 have I:β' b=H.next:=aw rfl
 have z:∀c,c≠b→β' c=β c:=fun c A=>aj A
 have hg:∀c t,aY ((b,s)::B) c=some t→(c=b∧t=s)∨(c≠b∧aY B c=some t∧t.zero b=true):=fun c t A=>by
  rw[eu] at A
  by_cases e:b=c
  ·rw[aw e] at A;cases A;exact .inl ⟨e.symm,rfl⟩
  rw[aj e] at A
  exact .inr ⟨fun k=>e k.symm,A,K5 hB A⟩
 have hl:iH H (XB X0 B β) H' (XB X0 ((b,s)::B) β'):=⟨by omega,fun f hf hx=>⟨fun k=>by
  rcases k with k|⟨c,t,h1,ho,h2⟩
  ·exact hx (.inl k)
  rcases hg c t h1 with⟨rfl,rfl⟩|⟨A,O,_⟩
  ·rw[I] at h2;omega
  exact hx (.inr ⟨c,t,O,ho,by rw[←h2,z c A]⟩),hs f hf⟩⟩
 have A:∀row l,cY H (XB X0 B β) row l→cY H' (XB X0 ((b,s)::B) β') row l:=fun row l hr=>hr.lift hl
 refine⟨β',⟨I,z⟩,⟨(fun c A=>(z c fun e=>by rw[e,Ky hB] at A;cases A).trans (h.om c A)),by have:=h.bc;omega,(fun f hf=>by have:=h.x0 f hf;omega),fun c t K U=>?_,fun c e t u K Js U BE Y=>?_,fun k v hk=>?_,fun c t K=>?_⟩⟩
 ·rcases hg c t K with⟨rfl,rfl⟩|⟨J,O,_⟩
  ·rw[I];exact⟨(fun hx=>by have:=h.x0 _ hx;omega),by omega⟩
  rw[z c J];have:=h.new c t O U;exact⟨this.1,by omega⟩
 ·rcases hg c t K with⟨rfl,rfl⟩|⟨J,O,_⟩<;>rcases hg e u Js with⟨rfl,rfl⟩|⟨BF,h4,_⟩
  ·rfl
  ·rw[I,z e BF] at Y;have:=h.new e u h4 BE;omega
  ·rw[I,z c J] at Y;have:=h.new c t O U;omega
  rw[z c J,z e BF] at Y;exact h.inj c e t u O h4 U BE Y
 ·obtain⟨a,h1,h2⟩:=h.env k v hk
  exact⟨a,h1,(aM.zero (K4 hE hk) h2).lift hl⟩
 rcases hg c t K with⟨rfl,rfl⟩|⟨J,O,hno⟩
 ·rw[I];exact Z _ _ A
 rw[z c J]
 have ho:=h.box c t O
 have G:t.born→H'.t.get (β c)=H.t.get (β c):=fun ho=>hs _ (h.new c t O ho).2
 cases t with
 |one elem aP row=>
  obtain⟨l,lo,cs,k1,k2,k3,k4⟩:=ho
  exact⟨l,lo,cs,(G trivial).trans k1,k2,k3,(bm.zero hno k4).lift hl⟩
 |arr elem aP es lo rows=>exact gU.wm (X:=XB X0 B β) (β:=β') hl G ho
 |acc elem aP es rows=>exact gU.wm (X:=XB X0 B β) (β:=β') hl G ho
theorem K6{elem es aP n:Nat}{ls:List (List an)}(h:n*aP≤70368744177664):vV elem es aP n ls H= .ok (.slice H.next n 0 n es) ⟨H.next+1,H.bc,H.ws,H.t.set H.next (.row elem es aP n n 0 (jG ls .emp 0))⟩:=by
 unfold vV
 rw[show Nat.ble (Nat.mul n aP) 70368744177664=true from jN h,f6,vE,alloc_eq]
theorem K7{elem es aP n f m lo:Nat}{ls:List (List an)}{cs:RT}(J:H.t.get f=some (.row elem es aP m lo 0 cs))(K:lo≤m)(h:(m+n)*aP≤70368744177664):
  xH elem es aP n ls H f m 0 m es= .ok (.slice f (m+n) 0 (m+n) es) ⟨H.next,H.bc,wrote f H.bc H.ws,H.t.set f (.row elem es aP (m+n) lo 0 (jG ls cs m))⟩:=by
 cases H with
 |mk next bc ws t=>
  have J:t.get f=some (.row elem es aP m lo 0 cs):=J
  show iY (t.get f) (.err 33) (fun z A mJ I lo fl cs=>
   aG (Nat.beq 0 0) (aG (Nat.beq m I) (aG (Nat.ble lo m) (aG (Nat.beq m I) (aG (Nat.beq es es) (aG (Nat.beq A es) (aG (Nat.beq fl 1) (aE.err 32)
   (aG (Nat.ble (Nat.mul (Nat.add I n) aP) 70368744177664) (aG (Nat.beq elem z)
    (dk (Nat.add I n) fun G=>sG ls cs I fun cs=>t.gA f (.row z A mJ G lo fl cs) fun t=>
     .ok (.slice f G 0 G es) ⟨next,bc,wrote f bc ws,t⟩) (.err 32)) (.err 32))) (.err 32)) (.err 32)) (.err 32)) (.err 32)) (.err 32)) (.err 32))=_
  rw[J]
  show aG (Nat.beq 0 0) (aG (Nat.beq m m) (aG (Nat.ble lo m) (aG (Nat.beq m m) (aG (Nat.beq es es) (aG (Nat.beq es es) (aG (Nat.beq 0 1) (aE.err 32)
   (aG (Nat.ble (Nat.mul (Nat.add m n) aP) 70368744177664) (aG (Nat.beq elem elem)
    (dk (Nat.add m n) fun G=>sG ls cs m fun cs=>t.gA f (.row elem es aP G lo 0 cs) fun t=>
     .ok (.slice f G 0 G es) ⟨next,bc,wrote f bc ws,t⟩) (.err 32)) (.err 32))) (.err 32)) (.err 32)) (.err 32)) (.err 32)) (.err 32)) (.err 32)=_
  rw[show Nat.beq 0 0=true from rfl,f6,show Nat.beq m m=true from iR m,f6,jN K,f6,f6,show Nat.beq es es=true from iR es,f6,f6,
   show aG (Nat.beq 0 1) (aE.err 32) _=_ from rfl,show Nat.ble (Nat.mul (Nat.add m n) aP) 70368744177664=true from jN h,f6,show Nat.beq elem elem=true from iR elem,f6,ij,vE,GT.ki]
  rfl
theorem Mw{op:bG}{elem es aP:Nat}{x:aF}{b:Nat}{rows ys:List (List DC)}(hx:x.vv VE=some (.ac b rows.length es))(hb:aY B b=some (.acc elem aP es rows))
  (vk:∀{H0:Nat→Nat}{X0:Nat→Prop}{E:Env}{H:az}{β:Nat→Nat},Rel H0 X0 VE B E H β→∃ls,j' H (XB X0 B β) es ls ys∧∀call a,x.ev E=some a→op.ev call E H=jO elem es aP ys.length ls H a)
  (G:(rows++ys).length*aP≤70368744177664) (hE:rows=[]→uM b VE=true) (hB:rows=[]→qD b B=true)
  (O:Q (.ac b (rows++ys).length es) ((b,.acc elem aP es (rows++ys))::B)):VI T op VE B [b] Q:=fun _ X0 _ H β K=>by
 obtain⟨a,h1,h2⟩:=K.b8 hx
 obtain⟨ls,J,z⟩:=vk K
 have z:=fun call=>z call a h1
 have js:=J.length
 cases ys with
 |nil=>
  rw[yA] at O
  have U:jO elem es aP 0 ls H a= .ok a H:=by
   simp only[aM] at h2
   rcases h2 with⟨_,rfl⟩|⟨_,rfl⟩<;>rfl
  have I:∀k s,aY ((b,BS.acc elem aP es rows)::B) k=some s→aY B k=some s:=fun k s hk=>by
   rw[eu] at hk
   by_cases e:b=k
   ·rw[aw e] at hk;cases hk;exact e▸hb
   rw[aj e] at hk;exact hk
  refine gf (fun call=>(z call).trans U) ⟨_,_,β,iM.refl.Ik fun k s hk ho=>⟨s,I k s hk,ho⟩,K.AL (B':=(b,.acc elem aP es rows)::B) I,?_,O⟩
  simp only[aM] at h2⊢
  exact h2
 |cons y0 yr=>
  have hA:jO elem es aP (y0::yr).length ls H a=gL a (.err 34) (vV elem es aP (y0::yr).length ls H) (xH elem es aP (y0::yr).length ls H):=rfl
  generalize Y:y0::yr=ys at*
  have Z:0<ys.length:=by rw[←Y];simp
  cases rows with
  |nil=>
   have U:a= .cg:=by
    simp only[aM,dx] at h2
    rcases h2 with⟨_,h⟩|⟨h,_⟩
    ·exact h
    omega
   subst U
   rw[E8] at O G
   obtain⟨β',⟨hβ,IT⟩,qS⟩:=K.OS (b:=b) (s:=.acc elem aP es ys) (H':=⟨H.next+1,H.bc,H.ws,H.t.set H.next (.row elem es aP ys.length ys.length 0 (jG ls .emp 0))⟩) (hE rfl) (hB rfl) (fun s hs ho=>by rw[hb] at hs;cases hs;exact ho rfl) rfl
    (fun f hf=>by show(H.t.set H.next _).get f=_;rw[GT.eY,aj (by omega)]) rfl (fun X β' k=>.inr ⟨ys.length,jG ls .emp 0,by show(H.t.set H.next _).get H.next=_;rw[GT.eY,aw rfl],bV _,fun i row hi=>by
     obtain⟨l,j1,j2,j3⟩:=J.get hi
     refine⟨l,?_,j2,k _ _ j3⟩
     rw[Ck,aw ⟨da _,by have:=(List.getElem?_eq_some_iff.1 hi).1;omega⟩,Fc]
     exact j1⟩)
   refine gf (fun call=>(z call).trans (hA.trans (K6 G))) ⟨_,_,β',⟨rfl,sM _,fun _ h=>.inl h,fun c t hc ht=>?_,fun f hf _=>by show(H.t.set H.next _).get f=_;rw[GT.eY,aj (by omega)]⟩,qS,?_,O⟩
   ·rw[eu] at hc
    by_cases e:b=c
    ·subst e;exact .inr (by rw[hβ];exact bV _)
    rw[aj e] at hc
    exact .inl ⟨t,hc,ht,IT c fun k=>e k.symm⟩
   simp only[aM,hβ]
   exact .inr ⟨Z,trivial⟩
  |cons r0 rr=>
   generalize A:r0::rr=rows at*
   have lK:rows≠[]:=by rw[←A];simp
   have hrpos:0<rows.length:=by rw[←A];simp
   have U:a= .slice (β b) rows.length 0 rows.length es:=by
    simp only[aM] at h2
    rcases h2 with⟨h,_⟩|⟨_,h⟩
    ·omega
    exact h
   subst U
   rcases K.box b _ hb with h|⟨lo,cs,k1,k2,k3⟩
   ·exact absurd h lK
   rw[bC] at G
   refine⟨0,_,_,fun lf n _ _=>(z _).trans (hA.trans (K7 k1 k2 G)),?_⟩
   refine Cj (s':=.acc elem aP es (rows++ys)) K hb lK rfl (fun f hf=>?_) rfl rfl (fun X _ j2=>.inr ⟨lo,jG ls cs rows.length,?_,by rw[bC];omega,fun i row hi=>?_⟩) (fun X=>?_) O
   ·show(H.t.set (β b) _).get f=_
    rw[GT.eY,aj hf]
   ·show(H.t.set (β b) _).get (β b)=_
    rw[GT.eY,aw rfl,bC]
   ·rw[Ck]
    have vi:=(List.getElem?_eq_some_iff.1 hi).1
    rw[bC] at vi
    by_cases e:rows.length≤i
    ·rw[aw ⟨e,by omega⟩]
     rw[wv e] at hi
     obtain⟨l,j3,j4,j5⟩:=J.get hi
     exact⟨l,j3,j4,j2 _ _ j5⟩
    rw[aj (fun k=>e k.1)]
    rw[qI (by omega)] at hi
    obtain⟨l,j3,j4,j5⟩:=k3 i row hi
    exact⟨l,j3,j4,j2 _ _ j5⟩
   simp only[aM]
   exact .inr ⟨by rw[bC];omega,by rw[bC]⟩
theorem dZ{elem es aP:Nat}{x y:aF}{b:Nat}{rows ys:List (List DC)}{J:VV}(U:x.vv VE=some (.ac b rows.length es))(Y:aY B b=some (.acc elem aP es rows))(Z:y.vv VE=some J)(z:YR B es J ys)(h0:0<es)
  (A:(rows++ys).length*aP≤70368744177664) (hE:rows=[]→uM b VE=true) (hB:rows=[]→qD b B=true)
  (hq:Q (.ac b (rows++ys).length es) ((b,.acc elem aP es (rows++ys))::B)):VI T (.app elem es aP x y) VE B [b] Q:=Mw U Y (fun K=>by
 obtain⟨c,O,h4⟩:=K.b8 Z
 rcases z.elems K h0 h4 with⟨G,rfl⟩|⟨f,g,off,e,ls,G,k2,k3⟩
 ·exact⟨[],trivial,fun call a I=>Dm I O (.inl ⟨G,rfl,rfl⟩)⟩
 exact⟨ls,k3,fun call a I=>Dm I O (.inr ⟨f,g,off,e,G,k2⟩)⟩) A hE hB hq
end
section
variable{T:bd}{H0:Nat→Nat}{X0:Nat→Prop}{VE ep:b0}{B B':bo}{E:Env}{H H':az}{β:Nat→Nat}{X:Nat→Prop}
variable{W:List Nat}{Q:VV→bo→Prop}
theorem xv{x:aF}{b n es:Nat}(I:x.vv VE=some (.ac b n es))(A:Q (.d (.i .i64 n)) B):VI T (.len x) VE B [] Q:=fun _ _ _ _ _ z=>by
 obtain⟨_,G,h2⟩:=z.b8 I
 simp only[aM] at h2
 rcases h2 with⟨rfl,rfl⟩|⟨_,rfl⟩
 ·exact Ki G (eS z (v:=.d (.i .i64 (0:Nat))) (by simp only[aM,cN];rfl) A)
 exact Hg G (eS z (v:=.d (.i .i64 n)) (by simp only[aM,cN]) A)
theorem gU.V2{f elem aP es:Nat}{rows:List (List DC)}(h:gU H X β f (.acc elem aP es rows)){q:Nat}{row:List DC}(z:rows[q]?=some row):∃l,mB H f rows.length q l∧l.length=es∧cY H X row l:=by
 have I:=(List.getElem?_eq_some_iff.1 z).1
 rcases h with rfl|⟨A,cs,J,K,O⟩
 ·simp at z
 obtain⟨l,U,G,Y⟩:=O q row z
 exact⟨l,⟨elem,aP,rows.length,A,0,cs,by rw[G];exact J,K,bV _,I,U⟩,G,Y⟩
def DC.e9(rows:List (List DC)):DC:=match rows with|[]=>.nil|x::r=>.sl (x::r)
theorem DC.q7{rows:List (List DC)}(h:rows≠[]):DC.e9 rows= .sl rows:=by
 cases rows with
 |nil=>exact absurd rfl h
 |cons x r=>rfl
mutual
def VV.sX(b:Nat)(x:DC):VV→VV
 |.agg l=>.agg (EP b x l)
 |.ac c n es=>bif Nat.beq c b then .d x else .ac c n es
 |v=>v
def EP(b:Nat)(x:DC):List VV→List VV
 |[]=>[]
 |v::r=>v.sX b x::EP b x r
end
mutual
def VV.wQ(b n es:Nat):VV→Prop
 |.agg l=>Fz b n es l
 |.ac c m e=>c=b→m=n∧e=es
 |.bs c _ _=>c≠b
 |_=>True
def Fz(b n es:Nat):List VV→Prop
 |[]=>True
 |v::r=>v.wQ b n es∧Fz b n es r
end
theorem Rel.sX(J:Rel H0 X0 VE B E H β){b elem aP es:Nat}{rows:List (List DC)}(O:aY B b=some (.acc elem aP es rows)){k:Nat}{v:VV}(hv:aY VE k=some v)(ho:v.wQ b rows.length es):
  Rel H0 X0 ((k,v.sX b (.e9 rows))::VE) (ia B b) E H β:=by
 have U:=J.drop b
 have G:∀c s,aY (ia B b) c=some s→b≠c∧aY B c=some s:=fun c s z=>by
  rw[vJ] at z
  by_cases e:b=c
  ·rw[aw e] at z;cases z
  rw[aj e] at z;exact⟨e,z⟩
 have Y:rows≠[]→¬XB X0 (ia B b) β (β b):=by
  rintro A(h|⟨c,s,z,Z,h2⟩)
  ·exact(J.new b _ O A).1 h
  exact(G c s z).1 (J.inj c b s _ (G c s z).2 O Z A h2).symm
 have hl:iH H (XB X0 B β) H (XB X0 (ia B b) β):=⟨bV _,fun f _ Y=>⟨fun k=>Y (k.imp id fun⟨c,s,z,h2⟩=>⟨c,s,(G c s z).2,h2⟩),rfl⟩⟩
 have K:rows≠[]→cN H (XB X0 (ia B b) β) (.sl rows) (.slice (β b) rows.length 0 rows.length es):=fun A=>by
  simp only[cN]
  refine⟨β b,rows.length,0,es,rfl,.inr ⟨Y A,(J.new b _ O A).2,0,by simp,fv.rf fun i row hi=>?_⟩⟩
  obtain⟨l,z,h2,h3⟩:=(J.box b _ O).V2 hi
  exact⟨l,by rw[jx];exact z,h2,h3.lift hl⟩
 have main:(∀v:VV,v.wQ b rows.length es→∀a,aM H (XB X0 (ia B b) β) β v a→aM H (XB X0 (ia B b) β) β (v.sX b (.e9 rows)) a):=by
  intro v
  refine VV.rec (motive_1:=fun v=>v.wQ b rows.length es→∀a,aM H (XB X0 (ia B b) β) β v a→aM H (XB X0 (ia B b) β) β (v.sX b (.e9 rows)) a)
   (motive_2:=fun l=>Fz b rows.length es l→∀s,bm H (XB X0 (ia B b) β) β l s→bm H (XB X0 (ia B b) β) β (EP b (.e9 rows) l) s) ?_ ?_ ?_ ?_ ?_ ?_ ?_ ?_ ?_ ?_ ?_ ?_ ?_ ?_ v
  ·intro x _ a h;exact h
  ·intro l ih ho a h
   simp only[aM,VV.sX,VV.wQ] at h ho⊢
   obtain⟨cs,e,h⟩:=h
   exact⟨cs,e,ih ho cs h⟩
  ·intro l _ _ a h;exact h
  ·intro c o _ a h;exact h
  ·intro c g q o e _ a h;exact h
  ·intro row o _ a h;exact h
  ·intro c n e ho a h;exact h
  ·intro c n e ho a h
   simp only[VV.sX,VV.wQ] at h ho⊢
   by_cases I:c=b
   ·obtain⟨rfl,rfl⟩:=ho I
    subst I
    rw[show Nat.beq c c=true from iR c]
    simp only[aM] at h
    show aM H _ β (.d (.e9 rows)) _
    simp only[aM]
    rcases h with⟨z,rfl⟩|⟨z,rfl⟩
    ·rw[List.length_eq_zero_iff.1 z]
     simp only[DC.e9,cN]
    have A:rows≠[]:=fun e=>by rw[e] at z;simp at z
    rw[DC.q7 A]
    exact K A
   have:Nat.beq c b=false:=by
    cases hq:Nat.beq c b
    ·rfl
    exact absurd (eb hq) I
   rw[this];exact h
  ·intro f c _ _ a h;exact h
  ·intro x _ a h;exact h
  ·intro _ a h;exact h
  ·intro _ a h;exact h
  ·intro _ s h;exact h
  intro v r ih1 Jt ho s h
  simp only[bm,EP,Fz] at h ho⊢
  obtain⟨a,s,e,z,h2⟩:=h
  exact⟨a,s,e,ih1 ho.1 a z,Jt ho.2 s h2⟩
 refine{U with env:=fun c w I=>?_}
 rw[eu] at I
 by_cases e:k=c.n
 ·rw[aw e] at I
  cases I
  obtain⟨a,z,h2⟩:=U.env c v (e▸hv)
  exact⟨a,z,main v ho a h2⟩
 rw[aj e] at I
 exact U.env c w I
theorem fo{ops:List bt}{Q:b0→bo→Prop}(k b:Nat){v:VV}{elem aP es:Nat}{rows:List (List DC)}(z:aY VE k=some v)(A:aY B b=some (.acc elem aP es rows))(ho:v.wQ b rows.length es)(h:VO T ops ((k,v.sX b (.e9 rows))::VE) (ia B b) Q):VO T ops VE B Q:=
 fun H0 X0 E H β G=>(h H0 X0 E H β (G.sX A z ho)).mono fun _ _ hp=>hp.more LO
theorem bm.data{row:List DC}{l:List VV}{s:List an}(h:l6 l=some row)(k:bm H X β l s):cY H X row s:=cY.zQ (β:=β) (Mu h▸k)
def vz(VE:b0)(es z:Nat):List (Nat×aF)→List (List DC)→Option (List (List DC))
 |[],rows=>some rows
 |p::r,rows=>(p.2.vv VE).bind fun v=>v.cells.bind fun new=>(l6 new).bind fun row=>bif Nat.beq row.length es&&Nat.ble (Nat.succ p.1) z then vz VE es z r (rows.set p.1 row) else none
theorem JU(K:Rel H0 X0 VE B E H β){es A:Nat}:∀{ps:List (Nat×aF)}{rows out:List (List DC)}{t:RT},(rows.length=A∧∀q row,rows[q]?=some row→∃l,t.get q=some l∧l.length=es∧cY H (XB X0 B β) row l)→vz VE es A ps rows=some out→
  ∃t',qs E es A ps t=some t'∧out.length=A∧∀q row,out[q]?=some row→∃l,t'.get q=some l∧l.length=es∧cY H (XB X0 B β) row l
 |[],rows,out,t,h,z=>by simp only[vz,gP] at z;subst z;exact⟨t,rfl,h⟩
 |p::r,rows,out,t,h,z=>by
  simp only[vz,At] at z
  obtain⟨v,U,new,Y,row,I,z⟩:=z
  obtain⟨a,Z,h2⟩:=K.b8 U
  obtain⟨s,h3,h4⟩:=h2.cells Y
  have O:=h4.data I
  have hl:s.length=row.length:=O.length
  cases he:(Nat.beq row.length es&&Nat.ble (Nat.succ p.1) A) with
  |false=>rw[he] at z;cases z
  |true=>
   rw[he] at z
   simp only[fc] at he
   have e1:=eb he.1
   have e2:=bO he.2
   have z:vz VE es A r (rows.set p.1 row)=some out:=z
   obtain⟨t',k1,k2⟩:=JU K (t:=t.set p.1 s) ⟨by rw[WC];exact h.1,fun q J G=>by
    rw[RT.eY]
    rw[List.getElem?_set] at G
    by_cases e:q=p.1
    ·subst e
     rw[aw rfl] at G⊢
     rw[aw (by rw[h.1];exact e2)] at G
     cases G
     exact⟨s,rfl,by omega,O⟩
    rw[aj (fun k=>e k.symm)] at G
    rw[aj e]
    exact h.2 q J G⟩ z
   refine⟨t',?_,k2⟩
   show ob (p.2.ev E) none (fun v=>ob (jW v) none fun new=>aG (Nat.beq (jn new) es) (aG (Nat.ble (Nat.succ p.1) A) (qs E es A r (t.set p.1 new)) none) none)=some t'
   rw[Z,di,h3,di,oO,hl,he.1,f6,he.2,f6,k1]
theorem R7{elem es aP G:Nat}{zero:List an}{z:List VV}{U:List DC}{ps:List (Nat×aF)}{rows:List (List DC)}(b:Nat)(Z:oi b VE=true)(hB:oj b B=true)(hz:ra zero=some z)(I:l6 z=some U)(J:zero.length=es)(hb:vz VE es G ps (List.replicate G U)=some rows)
  (hq:Q (.bs b G es) ((b,.arr elem aP es G rows)::B)):VI T (.cK elem es aP G zero ps) VE B [] Q:=fun _ _ E H β Y=>by
 obtain⟨t,h1,h2,h3⟩:=JU Y (t:=p0 zero G) ⟨WA,fun q row A=>by
  rw[WB] at A
  split at A
  ·rename_i K
   cases A
   exact⟨zero,by rw[GG,aw K],J,(B7 (β:=β) hz).data I⟩
  cases A⟩ hb
 have O:∀call,(bG.cK elem es aP G zero ps).ev call E H= .ok (.slice H.next G 0 G es) ⟨H.next+1,H.bc,H.ws,H.t.set H.next (.row elem es aP G G 0 t)⟩:=fun call=>by
  show ob (qs E es G ps (p0 zero G)) (.err 24) (fun t=>H.alloc (.row elem es aP G G 0 t) fun f H=>.ok (.slice f G 0 G es) H)=_
  rw[h1,di,alloc_eq]
 refine gf O (GK (b:=b) (s:=.arr elem aP es G rows) Y Z hB rfl (fun f hf=>by show(H.t.set H.next _).get f=_;rw[GT.eY,aj (by omega)]) rfl rfl (fun X β' _ k2=>?_) (fun X β' k=>by simp only[aM];rw[k]) hq)
 refine⟨G,t,by show(H.t.set H.next _).get H.next=_;rw[GT.eY,aw rfl,h2],bV _,by omega,fun q row A=>?_⟩
 obtain⟨l,j1,j2,j3⟩:=h3 q row A
 exact⟨l,j1,j2,k2 _ _ j3⟩
end
section
variable{T:bd}{H0:Nat→Nat}{X0:Nat→Prop}{VE ep:b0}{B B':bo}{E:Env}{H H':az}{β:Nat→Nat}{X:Nat→Prop}
variable{W:List Nat}{Q:VV→bo→Prop}
theorem cY.append{z A:List DC}{G I:List an}(h:cY H X z G)(k:cY H X A I):cY H X (z++A) (G++I):=by
 have K:=bm.tR (β:=fun _=>0) h
 have h2:=bm.tR (β:=fun _=>0) k
 have J:=K.append h2
 rw[←dr] at J
 exact cY.zQ J
theorem cY.take{r:List DC}{l:List an}(n:Nat)(h:cY H X r l):cY H X (r.take n) (l.take n):=by simpa using h.LV 0 n
theorem cY.drop{r:List DC}{l:List an}(n:Nat)(h:cY H X r l):cY H X (r.drop n) (l.drop n):=by
 have z:=bm.drop n (bm.tR (β:=fun _=>0) h)
 rw[←HQ] at z
 exact cY.zQ z
theorem cY.bif{t0:Bool}{a b:List DC}{s t:List an}(h:cY H X a s)(k:cY H X b t):cY H X (bif t0 then a else b) (bif t0 then s else t):=by
 cases t0
 ·exact k
 exact h
theorem cY.g7{row z:List DC}{l t:List an}(o:Nat)(h:cY H X row l)(k:cY H X z t):cY H X (row.take o++(z++row.drop (o+z.length))) (g7 l o t):=by
 unfold Ev.g7
 rw[←k.length]
 exact(h.take o).append (k.append (h.drop (o+t.length)))
def bY(T:bd)(f:Nat)(args:List VV)(Bi:bo)(Q:VV→bo→Prop):Prop:=
 ∀(H0:Nat→Nat)(X:Nat→Prop)(H:az)(β:Nat→Nat)(l:List an),Rel H0 X [] Bi .emp H β→bm H (XB X Bi β) β args l→
  ts T f l H fun a H'=>∃r B' β',iM Bi β H (fun _=>True) B' β' H'∧Rel H0 X [] B' .emp H' β'∧aM H' (XB X B' β') β' r a∧Q r B'
theorem bY.mono{f:Nat}{args:List VV}{Bi:bo}{Q z:VV→bo→Prop}(h:bY T f args Bi Q)(k:∀v B,Q v B→z v B):bY T f args Bi z:=fun H0 X H β l A h2=>
 (h H0 X H β l A h2).mono fun _ _⟨r,B',β',a,b,c,d⟩=>⟨r,B',β',a,b,c,k _ _ d⟩
def Sound(T:bd)(f:Nat)(args:List VV)(Q:VV→Prop):Prop:=bY T f args [] fun r _=>r.nb∧Q r
theorem Sound.mono{f:Nat}{args:List VV}{Q z:VV→Prop}(h:Sound T f args Q)(k:∀v,Q v→z v):Sound T f args z:=bY.mono h fun v _ hp=>⟨hp.1,k v hp.2⟩
def i6(VE:b0):List aF→Option (List VV)
 |[]=>some []
 |x::r=>(x.vv VE).bind fun v=>(i6 VE r).map (v:: ·)
theorem vA(z:Rel H0 X0 VE B E H β):∀{l:List aF}{args:List VV},i6 VE l=some args→∃vs,jS E l=some vs∧bm H (XB X0 B β) β args vs
 |[],args,h=>by simp only[i6,gP] at h;subst h;exact⟨[],rfl,by simp only[bm]⟩
 |x::r,args,h=>by
  simp only[i6,At,Dx] at h
  obtain⟨v,A,s,G,rfl⟩:=h
  obtain⟨a,I,h2⟩:=z.b8 A
  obtain⟨vs,J,K⟩:=vA z G
  exact⟨a::vs,LK I J,by simp only[bm];exact⟨a,vs,rfl,h2,K⟩⟩
theorem Rel.lt(z:Rel H0 X0 VE B E H β):∀f,XB X0 B β f→f<H.next:=fun f A=>by
 rcases A with h|⟨b,s,G,ho,rfl⟩
 ·exact z.x0 f h
 exact(z.new b s G ho).2
theorem Rel.start{H0:Nat→Nat}{X:Nat→Prop}{H:az}{E:Env}(z:H.bc≤H.next)(A:∀f,X f→f<H.next):Rel H0 X [] [] E H H0:=
 ⟨fun _ _=>rfl,z,A,fun _ _ h=>(by cases h),fun _ _ _ _ h=>(by cases h),fun _ _ h=>(by cases h),fun _ _ h=>(by cases h)⟩
theorem Nu{X:Nat→Prop}{β:Nat→Nat}:∀f,XB X [] β f→X f:=fun f h=>by
 rcases h with h|⟨_,_,h,_⟩
 ·exact h
 cases h
theorem LX{f:Nat}{vs:List an}{args:List VV}{P:VV→Prop}(hn:mu args)(h:Sound T f args P)(Z:∀r,r.nb→P r→Q r B)(G:Rel H0 X0 VE B E H β)(h2:bm H (XB X0 B β) β args vs):ts T f vs H (yl H0 X0 VE B β E H W Q):=by
 have I:iH H (XB X0 B β) H (XB (XB X0 B β) [] β):=⟨bV _,fun f _ J=>⟨fun k=>J (Nu f k),rfl⟩⟩
 refine(h β (XB X0 B β) H β vs (Rel.start G.bc G.lt) (h2.lift I)).mono fun a H' hp=>?_
 obtain⟨r,B',β',z,K,hv,U,k8⟩:=hp
 have Y:∀f,f<H.next→H'.t.get f=H.t.get f:=fun f A=>z.rU f A fun _ _ k=>by cases k
 have O:iH H' (XB (XB X0 B β) B' β') H' (XB X0 B β):=⟨bV _,fun f _ J=>⟨fun k=>J (.inl k),rfl⟩⟩
 exact⟨r,B,β,⟨z.bc,z.next,fun f A=>(z.ws f A).imp id (fun⟨_,_,_,_,k,_⟩=>by cases k),fun _ s k1 k2=>.inl ⟨s,k1,k2,rfl⟩,fun f A _=>Y f A⟩,G.grow z.next Y K.bc,(hv.lift O).nb U,Z r U k8⟩
theorem mO{f:Nat}{l:List aF}{args:List VV}{P:VV→Prop}(A:i6 VE l=some args)(G:mu args)(h:Sound T f args P)(I:∀r,r.nb→P r→Q r B):VI T (.call f l) VE B [] Q:=fun H0 X0 E H β z=>by
 obtain⟨vs,J,h2⟩:=vA z A
 exact GZ J (LX G h I z h2)
def Bd:List Key→List VV→b0→b0
 |k::ks,v::vs,VE=>Bd ks vs ((k.n,v)::VE)
 |_,_,VE=>VE
theorem LY:∀{ks:List Key}{args:List VV}{l:List an}{VE:b0}{E:Env},Rel H0 X0 VE B E H β→bm H (XB X0 B β) β args l→ks.length=args.length→Rel H0 X0 (Bd ks args VE) B (Fu ks l E) H β
 |[],[],l,VE,E,h,k,_=>by simp only[bm] at k;subst k;exact h
 |x::ks,v::vs,l,VE,E,h,k,z=>by
  simp only[bm] at k
  obtain⟨a,s,rfl,A,G⟩:=k
  show Rel H0 X0 (Bd ks vs ((x.n,v)::VE)) B (Fu ks s (E.set x a)) H β
  exact LY (h.set (d:=x) A) G (by simpa using z)
 |[],_::_,_,_,_,_,_,h=>by simp at h
 |_::_,[],_,_,_,_,_,h=>by simp at h
def IU(VE:b0)(B:bo):lW→Option VV
 |.tmp k=>aY VE k.n
 |.cell k n agg=>match aY VE k.n with
  |some (.vp b o)=>match aY B b with
   |some (.one _ _ row)=>bif Nat.ble 1 n&&Nat.ble (o+n) row.length then(bif agg then some (.agg ((row.drop o).take n)) else match(row.drop o).take n with|[v]=>some v|_=>none) else none
   |_=>none
  |_=>none
def uN(VE:b0)(B:bo):List lW→Option (List VV)
 |[]=>some []
 |r::rs=>(IU VE B r).bind fun v=>(uN VE B rs).map (v:: ·)
def gB:List VV→VV
 |[v]=>v
 |l=>.tuple l
theorem TH(J:Rel H0 X0 VE B E H β){r:lW}{v:VV}(h:IU VE B r=some v):∃a,aM H (XB X0 B β) β v a∧∀{e:aE}{k:an→aE},yG E H r e k=k a:=by
 cases r with
 |tmp t=>
  obtain⟨a,I,h2⟩:=J.env t v h
  refine⟨a,h2,fun{e k}=>?_⟩
  show ob (E.get t) e k=k a
  rw[I,di]
 |cell a n agg=>
  simp only[IU] at h
  split at h
  ·rename_i b o O
   split at h
   ·rename_i elem aP row U
    obtain⟨pa,I,h2⟩:=J.env a _ O
    simp only[aM] at h2
    subst h2
    obtain⟨l,Y,K⟩:=(J.box b _ U).zs
    cases A:(Nat.ble 1 n&&Nat.ble (o+n) row.length) with
    |false=>rw[A] at h;cases h
    |true=>
     rw[A] at h
     simp only[fc] at A
     have e1:=bO A.1
     have e2:=bO A.2
     have G:∀{e:aE}{k:List an→aE},rd H (β b) 1 o n e k=k ((l.drop o).take n):=fun{e k}=>by
      have:=EO (k:=o) (n:=n) (e:=e) (c:=k) Y (by rw[K.length];exact e2) (by omega)
      rwa [rJ,jx] at this
     have z:=bm.take n (bm.drop o K)
     cases agg with
     |true=>
      have h:some (VV.agg ((row.drop o).take n))=some v:=h
      cases h
      refine⟨.agg ((l.drop o).take n),by simp only[aM];exact⟨_,rfl,z⟩,fun{e k}=>?_⟩
      show ob (E.get a) e (fun v=>iE v e fun f g off=>rd H f g off n e fun l=>iL true l e k)=_
      rw[I,di]
      show rd H (β b) 1 o n e (fun l=>iL true l e k)=_
      rw[G];rfl
     |false=>
      have h:(match(row.drop o).take n with|[v]=>some v|_=>none)=some v:=h
      split at h
      ·rename_i w Z
       cases h
       rw[Z] at z
       simp only[bm] at z
       obtain⟨x,s,hs,hx,rfl⟩:=z
       refine⟨x,hx,fun{e k}=>?_⟩
       show ob (E.get a) e (fun v=>iE v e fun f g off=>rd H f g off n e fun l=>iL false l e k)=_
       rw[I,di]
       show rd H (β b) 1 o n e (fun l=>iL false l e k)=_
       rw[G,hs];rfl
      cases h
   cases h
  cases h
theorem K8(z:Rel H0 X0 VE B E H β):∀{rs:List lW}{vs:List VV},uN VE B rs=some vs→∃l,bm H (XB X0 B β) β vs l∧∀{e:aE}{k:List an→aE},uH E H rs e k=k l
 |[],vs,h=>by simp only[uN,gP] at h;subst h;exact⟨[],by simp only[bm],rfl⟩
 |r::rs,vs,h=>by
  simp only[uN,At,Dx] at h
  obtain⟨v,A,s,G,rfl⟩:=h
  obtain⟨a,I,h2⟩:=TH z A
  obtain⟨l,J,K⟩:=K8 z G
  refine⟨a::l,by simp only[bm];exact⟨a,l,rfl,I,J⟩,fun{e k}=>?_⟩
  show yG E H r e (fun v=>uH E H rs e fun vs=>k (v::vs))=_
  rw[h2,K]
def kr(rs:List lW)(P:VV→bo→Prop):Ex→b0→bo→Prop
 |.exit _,_,_=>False
 |_,VE,B=>∃vs Bn,uN VE B rs=some vs∧br Bn B∧P (gB vs) Bn
def PA(rs:List lW)(P:VV→Prop):Ex→b0→bo→Prop
 |.exit _,_,_=>False
 |_,VE,B=>∃vs,uN VE B rs=some vs∧mu vs∧P (gB vs)
theorem cw{f:Nat}{fn:bH}{args:List VV}{Bi:bo}{P:VV→bo→Prop}(hf:T.ft.get f=some fn)(hl:fn.ps.length=args.length)(h:VC T fn.body (Bd fn.ps args []) Bi (kr fn.res P)):bY T f args Bi P:=by
 intro H0 X H β l h0 z
 have hr:=LY (ks:=fn.ps) h0 z hl
 refine VW hf (by rw[hl,z.length]) ((h H0 X _ H _ hr).mono fun x E' H' hp=>?_)
 obtain⟨ep,B',β',hw,K,O⟩:=hp
 have key:(∃vs Bn,uN ep B' fn.res=some vs∧br Bn B'∧P (gB vs) Bn)→∃v,results E' H' fn.res= .ok v H'∧∃r B' β',iM Bi β H (fun _=>True) B' β' H'∧Rel H0 X [] B' .emp H' β'∧aM H' (XB X B' β') β' r v∧P r B':=by
  rintro⟨vs,Bn,k1,U,Y⟩
  have Z:=K.AL (B':=Bn) fun _ _ hk=>U.get hk
  have G:Rel H0 X [] Bn .emp H' β':={Z with env:=fun _ _ k=>by cases k}
  have I:iM Bi β H (fun _=>True) Bn β' H':=hw.Ik fun b s h1 h2=>⟨s,U.get h1,h2⟩
  obtain⟨l',k4,k5⟩:=K8 K k1
  have ke:iH H' (XB X B' β') H' (XB X Bn β'):=⟨bV _,fun f _ hx=>⟨fun k=>hx (k.imp id fun⟨c,s,h1,h2⟩=>⟨c,s,U.get h1,h2⟩),rfl⟩⟩
  have J:bm H' (XB X Bn β') β' vs l':=bm.lift ke k4
  have A:results E' H' fn.res=List.rec (motive:=fun _=>aE) (.ok (.tuple []) H') (fun v r _=>List.rec (motive:=fun _=>aE) (.ok v H') (fun _ _ _=>.ok (.tuple (v::r)) H') r) l':=k5
  cases vs with
  |nil=>
   simp only[bm] at J
   subst J
   exact⟨_,A,gB [],Bn,β',I,G,by simp only[gB,aM,bm];exact⟨[],rfl,rfl⟩,Y⟩
  |cons v r=>
   cases r with
   |nil=>
    simp only[bm] at J
    obtain⟨a,s,rfl,k7,rfl⟩:=J
    exact⟨_,A,_,Bn,β',I,G,k7,Y⟩
   |cons w r=>
    have k8:=J
    simp only[bm] at J
    obtain⟨a,s,rfl,k7,a2,s2,rfl,_⟩:=J
    exact⟨_,A,_,Bn,β',I,G,by simp only[gB,aM];exact⟨_,rfl,k8⟩,Y⟩
 cases x with
 |exit id=>exact absurd O (fun h=>h)
 |normal=>exact⟨fun _ h=>(by cases h),key O⟩
 |ret=>exact⟨fun _ h=>(by cases h),key O⟩
theorem Mx{vs:List VV}(h:mu vs):(gB vs).nb:=by
 cases vs with
 |nil=>simp only[gB,VV.nb,mu]
 |cons v r=>
  cases r with
  |nil=>simp only[mu] at h;exact h.1
  |cons w r=>simpa only[gB,VV.nb] using h
theorem eh{f:Nat}{fn:bH}{args:List VV}{P:VV→Prop}(G:T.ft.get f=some fn)(I:fn.ps.length=args.length)(h:VC T fn.body (Bd fn.ps args []) [] (PA fn.res P)):Sound T f args P:=
 cw G I (h.mono fun x VE B hp=>by
  cases x with
  |exit id=>exact hp
  |normal=>obtain⟨vs,z,h2,A⟩:=hp;exact⟨vs,[],z,trivial,Mx h2,A⟩
  |ret=>obtain⟨vs,z,h2,A⟩:=hp;exact⟨vs,[],z,trivial,Mx h2,A⟩)
end
end Go.Ev
