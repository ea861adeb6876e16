/- Part 9 of rules for walks through the code of a program, and of such walks; what each part proves is said by its theorems. -/
import Derived.Test.YtijnechfhdlgiaaGreatDoorS8
set_option linter.unusedVariables false
set_option linter.unusedSimpArgs false
noncomputable section
set_option maxRecDepth 100000
set_option maxHeartbeats 4000000
namespace Go.Ev
section
variable{T:bd}{H0:Nat→Nat}{X0:Nat→Prop}{VE eB:cj}{B B':bw}{E:Env}{H H':aE}{β:Nat→Nat}{X:Nat→Prop}
variable{W:List Nat}{Q:VV→bw→Prop}
theorem dn.MJ:∀{row:List DC}{l:List ax}(o n:Nat),dn H X row l→dn H X ((row.drop o).take n) ((l.drop o).take n):=by
 intro row l o n h
 have z:=bu.uR (β:=fun _=>0) h
 have h2:=bu.take n (bu.drop o z)
 rw[←IG,←List.map_take] at h2
 exact dn.Bp h2
theorem km{a:aI}{row:List DC}{o:Nat}{x:DC}(A:a.vv VE=some (.rp row o))(G:row[o]?=some x)(I:Q (.d x) B):VI T (.load 1 false a) VE B [] Q:=fun _ _ _ _ _ z=>by
 obtain⟨_,J,h2⟩:=z.ch A
 simp only[aP] at h2
 obtain⟨f,g,Z,l,rfl,K,O,_⟩:=h2
 obtain⟨y,U,Y⟩:=O.get G
 exact Hp J K rfl U (fi z (v:=.d x) (by simp only[aP];exact Y) I)
theorem mR{a:aI}{row:List DC}{o n:Nat}(G:a.vv VE=some (.rp row o))(h0:0<n)(I:o+n≤row.length)(J:Q (.agg (((row.drop o).take n).map .d)) B):VI T (.load n true a) VE B [] Q:=fun _ _ _ _ _ z=>by
 obtain⟨_,K,h2⟩:=z.ch G
 simp only[aP] at h2
 obtain⟨f,g,U,l,rfl,O,A,_⟩:=h2
 exact LU K O rfl (by rw[A.length];exact I) h0 (fi z (v:=.agg (((row.drop o).take n).map .d)) (by simp only[aP];exact⟨_,rfl,bu.uR (A.MJ o n)⟩) J)
theorem iq.A0{f elem aV:Nat}{row:List VV}(h:iq H X β f (.one elem aV row)):∃l,mT H f 1 0 l∧bu H X β row l:=by
 obtain⟨l,lo,cs,z,h2,A,G⟩:=h
 exact⟨l,⟨elem,aV,1,lo,0,cs,z,h2,bR _,Nat.zero_lt_one,A⟩,G⟩
theorem df{a:aI}{b o elem aV:Nat}{row:List VV}{v:VV}(A:a.vv VE=some (.vp b o))(G:bf B b=some (.one elem aV row))(I:row[o]?=some v)(J:Q v B):VI T (.load 1 false a) VE B [] Q:=fun _ _ _ _ _ z=>by
 obtain⟨_,K,h2⟩:=z.ch A
 simp only[aP] at h2
 subst h2
 obtain⟨l,O,U⟩:=(z.box b _ G).A0
 obtain⟨y,Y,Z⟩:=U.get I
 exact Hp K O (by rw[sC,jR]) Y (fi z Z J)
theorem oi{a:aI}{b o n elem aV:Nat}{row:List VV}(G:a.vv VE=some (.vp b o))(I:bf B b=some (.one elem aV row))(h0:0<n)(J:o+n≤row.length)(K:Q (.agg ((row.drop o).take n)) B):VI T (.load n true a) VE B [] Q:=fun _ _ _ _ _ z=>by
 obtain⟨_,O,h2⟩:=z.ch G
 simp only[aP] at h2
 subst h2
 obtain⟨l,U,A⟩:=(z.box b _ I).A0
 exact LU O U (by rw[sC,jR]) (by rw[A.length];exact J) h0 (fi z (v:=.agg ((row.drop o).take n)) (by simp only[aP];exact⟨_,rfl,bu.take n (bu.drop o A)⟩) K)
theorem nh{a:aI}{b g j o es elem aV lo:Nat}{rows:List (List DC)}{row:List DC}{x:DC}(G:a.vv VE=some (.bp b g j o es))(I:bf B b=some (.arr elem aV es lo rows))(J:lo≤g)(h2:g≤rows.length)(K:j<g)(O:rows[j]?=some row)(U:row[o]?=some x)(Y:Q (.d x) B):VI T (.load 1 false a) VE B [] Q:=fun _ _ _ _ _ z=>by
 obtain⟨_,Z,A⟩:=z.ch G
 simp only[aP] at A
 subst A
 obtain⟨l,k3,k4,k5⟩:=(z.box b _ I).cells J h2 K O
 obtain⟨y,k6,k7⟩:=k5.get U
 exact Hp Z k3 (by rw[k4]) k6 (fi z (v:=.d x) (by simp only[aP];exact k7) Y)
theorem DO{v:VV}{a:ax}{b:Nat}{s:BS}(O:Rel H0 X0 VE B E H β)(U:oe b VE=true)(Y:og b B=true)(Z:H'.next=H.next+1)(I:∀f,f<H.next→H'.t.get f=H.t.get f)(J:H'.bj=H.bj)(hw:H'.ws=H.ws)
  (z:∀X β',(∀v a,v.no b=true→aP H (XB X0 B β) β v a→aP H' X β' v a)→(∀row l,dn H (XB X0 B β) row l→dn H' X row l)→iq H' X β' H.next s)
  (hv:∀X β',β' b=H.next→aP H' X β' v a) (hq:Q v ((b,s)::B)):zQ H0 X0 VE B β E H W Q a H':=by
 obtain⟨β',⟨K,h3⟩,h2,_⟩:=O.Xf U Y Z I J z
 refine⟨v,_,β',⟨J,ah,fun f A=>.inl (hw▸A),fun c t G ht=>?_,fun f A _=>I f A⟩,h2,hv _ _ K,hq⟩
 rw[eM] at G
 by_cases e:b=c
 ·subst e;exact .inr (by rw[K];exact bR _)
 rw[al e] at G
 exact .inl ⟨t,G,ht,h3 c fun k=>e k.symm⟩
theorem T8{b:Nat}{v:VV}{l:List VV}(h:v.no b=true)(z:v.cells=some l):pZ b l=true:=by
 cases v
 case k x=>
  cases x<;>simp only[VV.cells,ia,reduceCtorEq] at z
  all_goals subst z
  all_goals rfl
 all_goals simp only[VV.cells,ia,reduceCtorEq] at z
 all_goals subst z
 all_goals simp_all [pZ,VV.no]
theorem MK{b:Nat}{H1 G:aE}{I J:Nat→Prop}{z A:Nat→Nat}(h:∀v a,v.no b=true→aP H1 I z v a→aP G J A v a):∀{l:List VV}{s:List ax},pZ b l=true→bu H1 I z l s→bu G J A l s
 |[],_,_,k=>by simp only[bu] at k⊢;exact k
 |v::r,_,n,k=>by
  simp only[bu,pZ,fE] at k n⊢
  obtain⟨a,s,e,K,h2⟩:=k
  exact⟨a,s,e,h v a n.1 K,MK h n.2 h2⟩
theorem He{H1 G:aE}{I J:Nat→Prop}{z A:Nat→Nat}(h:∀v a,aP H1 I z v a→aP G J A v a):∀{l:List VV}{s:List ax},bu H1 I z l s→bu G J A l s
 |[],_,k=>by simp only[bu] at k⊢;exact k
 |v::r,_,k=>by
  simp only[bu] at k⊢
  obtain⟨a,s,e,K,h2⟩:=k
  exact⟨a,s,e,h v a K,He h h2⟩
theorem Xh{x:aI}{v:VV}{b:Nat}(A:oe b VE=true)(z:x.vv VE=some v):v.no b=true:=by
 cases x with
 |t k=>exact Eh A z
 |c a=>exact T7 z b
theorem Xi{elem es aV:Nat}{x:aI}{v:VV}{cells:List VV}(b:Nat)(z:oe b VE=true)(K:og b B=true)(A:x.vv VE=some v)(G:v.cells=some cells)(O:cells.length=es)(U:Q (.vp b 0) ((b,.one elem aV cells)::B)):VI T (.box elem es aV x) VE B [] Q:=fun _ _ _ H _ I=>by
 obtain⟨a,Y,h2⟩:=I.ch A
 obtain⟨s,Z,J⟩:=h2.cells G
 refine VY Y Z (by rw[J.length,O]) (DO (b:=b) (s:=.one elem aV cells) I z K rfl (fun f hf=>(LV elem aV s).same f hf) rfl rfl (fun X β' k1 _=>?_) (fun X β' k=>by simp only[aP];rw[k]) U)
 obtain⟨e',b',lo,cs,j1,j2,j3⟩:=VX (H:=H) elem aV s
 refine⟨s,1,.one s,?_,bR _,rfl,MK k1 (T8 (Xh z A) G) J⟩
 show(H.t.set H.next _).get H.next=_
 rw[GT.eY,az rfl]
def re:List ax→Option (List VV)
 |[]=>some []
 |a::r=>(tA a).bind fun v=>(re r).map (v:: ·)
theorem AS:∀{l:List ax}{cells:List VV},re l=some cells→bu H X β cells l
 |[],cells,h=>by simp only[re,ia] at h;subst h;simp only[bu]
 |a::r,cells,h=>by
  simp only[re,BW,E4] at h
  obtain⟨v,z,s,A,rfl⟩:=h
  simp only[bu]
  exact⟨a,r,rfl,Hd z,AS A⟩
theorem V4{elem es aV:Nat}{l:List ax}{cells:List VV}(b:Nat)(z:oe b VE=true)(A:og b B=true)(G:re l=some cells)(I:l.length=es)(J:Q (.vp b 0) ((b,.one elem aV cells)::B)):VI T (.cw elem es aV l) VE B [] Q:=fun _ _ _ H _ K=>by
 refine UP I (DO (b:=b) (s:=.one elem aV cells) K z A rfl (fun f O=>(LV elem aV l).same f O) rfl rfl (fun X β' _ _=>?_) (fun X β' k=>by simp only[aP];rw[k]) J)
 refine⟨l,1,.one l,?_,bR _,rfl,AS G⟩
 show(H.t.set H.next _).get H.next=_
 rw[GT.eY,az rfl]
def Ej(l:List VV)(r:Nat)(new:List VV):List VV:=l.take r++(new++l.drop (r+new.length))
theorem bu.gR{l new:List VV}{s t:List ax}(r:Nat)(h:bu H X β l s)(k:bu H X β new t):bu H X β (Ej l r new) (gR s r t):=by
 unfold Ej Ev.gR
 rw[←k.length]
 exact(h.take r).append (k.append (h.drop _))
def yI(VE:cj):List (Nat×Nat×aI)→List VV→Option (List VV)
 |[],cells=>some cells
 |p::r,cells=>(p.2.2.vv VE).bind fun v=>v.cells.bind fun new=>bif Nat.beq new.length p.2.1 then yI VE r (Ej cells p.1 new) else none
theorem Ln(A:Rel H0 X0 VE B E H β):∀{ps:List (Nat×Nat×aI)}{cells:List VV}{s:List ax}{out:List VV},bu H (XB X0 B β) β cells s→yI VE ps cells=some out→∃t,qs E ps s=some t∧bu H (XB X0 B β) β out t
 |[],cells,s,out,h,z=>by simp only[yI,ia] at z;subst z;exact⟨s,rfl,h⟩
 |p::r,cells,s,out,h,z=>by
  simp only[yI,BW] at z
  obtain⟨v,I,new,J,z⟩:=z
  obtain⟨a,K,h2⟩:=A.ch I
  obtain⟨t,O,G⟩:=h2.cells J
  cases he:Nat.beq new.length p.2.1 with
  |false=>rw[he] at z;cases z
  |true=>
   rw[he] at z
   obtain⟨u,U,Y⟩:=Ln A (h.gR p.1 G) z
   refine⟨u,?_,Y⟩
   show ob (p.2.2.ev E) none (fun v=>ob (kq v) none fun new=>aJ (Nat.beq (jI new) p.2.1) (qs E r (Ev.gR s p.1 new)) none)=some u
   rw[K,dk,O,dk,pA,G.length,he,gi,U]
theorem UW{zero:List ax}{ps:List (Nat×Nat×aI)}{z out:List VV}(G:re zero=some z)(I:yI VE ps z=some out)(J:Q (.agg out) B):VI T (.build zero ps) VE B [] Q:=fun _ _ _ _ _ A=>by
 obtain⟨t,K,h2⟩:=Ln A (AS G) I
 exact T2 K (fi A (v:=.agg out) (by simp only[aP];exact⟨t,rfl,h2⟩) J)
def Gf(row:List VV)(o:Nat)(new:List VV):List VV:=bif Nat.beq new.length row.length then new else Ej row o new
theorem bu.bif{t0:Bool}{a b:List VV}{s t:List ax}(h:bu H X β a s)(k:bu H X β b t):bu H X β (bif t0 then a else b) (bif t0 then s else t):=by
 cases t0
 ·exact k
 exact h
theorem PL{f q o n m elem es aV lo:Nat}{l new:List ax}{cs:RT}{e:aH}{K:aE→aH}(z:H.t.get f=some (.row elem es aV m lo 0 cs))(h2:lo≤m)(G:q<m)(I:cs.get q=some l)(O:l.length=es)(J:new.length=n)(h0:0<n)(hk:o+n≤es):
  wr H f m (q*es+o) n new e K=K ⟨H.next,H.bj,wrote f H.bj H.ws,H.t.set f (.row elem es aV m m 0 (cs.set q (bif Nat.beq n es then new else gR l o new)))⟩:=by
 cases H with
 |mk next bj ws t=>
  have z:t.get f=some (.row elem es aV m lo 0 cs):=z
  have e1:(q*es+o)/es=q:=by
   by_cases ho:o=es
   ·omega
   rw[ny,Nat.mul_add_div ah,OC ah];rfl
  have e2:(q*es+o) % es=o:=by
   by_cases ho:o=es
   ·omega
   rw[ny,Nat.mul_add_mod,Cp ah]
  show jt (t.get f) e (fun elem fA aV A lo fl cs=>
    aJ (Nat.beq fl 0) (aJ (Nat.beq m A) (aJ (Nat.ble lo m) (aJ (Nat.ble (Nat.add (Nat.mod (q*es+o) fA) n) fA) (aJ (Nat.ble (Nat.succ (Nat.div (q*es+o) fA)) m) (aJ (Nat.beq (jI new) n)
     (ob (cs.get (Nat.div (q*es+o) fA)) e fun l=>cs.gV (Nat.div (q*es+o) fA) (aJ (Nat.beq n fA) new (gR l (Nat.mod (q*es+o) fA) new)) fun cs=>t.gV f (.row elem fA aV A A 0 cs) fun t=>K ⟨next,bj,wrote f bj ws,t⟩) e) e) e) e) e) e)=_
  rw[z]
  show aJ (Nat.beq 0 0) (aJ (Nat.beq m m) (aJ (Nat.ble lo m) (aJ (Nat.ble (Nat.add (Nat.mod (q*es+o) es) n) es) (aJ (Nat.ble (Nat.succ (Nat.div (q*es+o) es)) m) (aJ (Nat.beq (jI new) n)
     (ob (cs.get (Nat.div (q*es+o) es)) e fun l=>cs.gV (Nat.div (q*es+o) es) (aJ (Nat.beq n es) new (gR l (Nat.mod (q*es+o) es) new)) fun cs=>t.gV f (.row elem es aV m m 0 cs) fun t=>K ⟨next,bj,wrote f bj ws,t⟩) e) e) e) e) e) e=_
  rw[show Nat.mod (q*es+o) es=o from e2,show Nat.div (q*es+o) es=q from e1,show Nat.beq 0 0=true from rfl,gi,show Nat.beq m m=true from jl m,gi,jy h2,gi,
   show Nat.ble (Nat.add o n) es=true from jy hk,gi,show Nat.ble (Nat.succ q) m=true from jy G,gi,pA,J,show Nat.beq n n=true from jl n,gi,I,dk,RT.kG,GT.kG]
  cases Nat.beq n es<;>rfl
theorem ML{call:fc}{n f g o:Nat}{a x:aI}{v:ax}{new:List ax}(z:a.ev E=some (.ptr f g o))(A:x.ev E=some v)(G:kq v=some new):
  (bP.store n a x).ev call E H=wr H f g o n new (.err 5) fun H=>.ok .undef H:=by
 show bI a E (.err 5) (fun p=>iW p (.err 5) fun f g off=>bI x E (.err 5) fun v=>ob (kq v) (.err 5) fun l=>wr H f g off n l (.err 5) fun H=>.ok .undef H)=_
 rw[dw,z,dk]
 show bI x E (.err 5) (fun v=>ob (kq v) (.err 5) fun l=>wr H f g o n l (.err 5) fun H=>.ok .undef H)=_
 rw[dw,A,dk,G,dk]
theorem A2{v:VV}{a:ax}{b:Nat}{s s':BS}(K:Rel H0 X0 VE B E H β)(U:bf B b=some s)(A:s.born)(hn:H'.next=H.next)(hs:∀f,f≠β b→H'.t.get f=H.t.get f)(hm:H'.bj=H.bj)(hw:H'.ws=wrote (β b) H.bj H.ws)
  (Jw:∀X,(∀v a,aP H (XB X0 B β) β v a→aP H' X β v a)→(∀row l,dn H (XB X0 B β) row l→dn H' X row l)→iq H' X β (β b) s')
  (hv:∀X,aP H' X β v a) (hq:Q v ((b,s')::B)):zQ H0 X0 VE B β E H [b] Q a H':=by
 have xw:=K.new b s U A
 have z:∀c t,bf ((b,s')::B) c=some t→(c=b∧t=s')∨(c≠b∧bf B c=some t):=fun c t G=>by
  rw[eM] at G
  by_cases e:b=c
  ·rw[az e] at G;cases G;exact .inl ⟨e.symm,rfl⟩
  rw[al e] at G;exact .inr ⟨fun k=>e k.symm,G⟩
 have hX:∀f,XB X0 ((b,s')::B) β f→XB X0 B β f:=fun f hx=>by
  rcases hx with k|⟨c,t,Y,ho,h2⟩
  ·exact .inl k
  rcases z c t Y with⟨rfl,_⟩|⟨_,O⟩
  ·exact .inr ⟨_,s,U,A,h2⟩
  exact .inr ⟨c,t,O,ho,h2⟩
 have hl:i6 H (XB X0 B β) H' (XB X0 ((b,s')::B) β):=⟨ah,fun f I hx=>⟨fun k=>hx (hX f k),hs f fun e=>hx (.inr ⟨b,s,U,A,e.symm⟩)⟩⟩
 refine⟨v,(b,s')::B,β,⟨hm,ah,fun f I=>?_,fun c t G ht=>?_,fun f I AB=>hs f fun e=>AB b s U A e.symm⟩,⟨K.o9,by rw[hm,hn];exact K.bj,(fun f I=>by rw[hn];exact K.x0 f I),fun c t G J=>?_,fun c e t u G he J Rk Z=>?_,fun k w hk=>?_,fun c t G=>?_⟩,hv _,hq⟩
 ·rw[hw] at I
  unfold wrote at I
  cases Y:Nat.ble H.bj (β b) with
  |true=>rw[Y] at I;exact .inl I
  |false=>
   rw[Y] at I
   cases h2:qP (β b) H.ws with
   |true=>rw[h2] at I;exact .inl I
   |false=>
    rw[h2] at I
    rcases List.mem_cons.1 I with rfl|h
    ·refine .inr ⟨?_,b,s,lh ..,U,A,rfl⟩
     by_cases hl:H.bj≤β b
     ·rw[jy hl] at Y;cases Y
     omega
    exact .inl h
 ·rcases z c t G with⟨rfl,_⟩|⟨_,O⟩
  ·exact .inl ⟨s,U,A,rfl⟩
  exact .inl ⟨t,O,ht,rfl⟩
 ·rw[hn]
  rcases z c t G with⟨rfl,_⟩|⟨_,O⟩
  ·exact xw
  exact K.new c t O J
 ·rcases z c t G with⟨rfl,_⟩|⟨_,O⟩<;>rcases z e u he with⟨rfl,_⟩|⟨_,h4⟩
  ·rfl
  ·exact K.inj _ _ _ _ U h4 A Rk Z
  ·exact K.inj _ _ _ _ O U J A Z
  exact K.inj _ _ _ _ O h4 J Rk Z
 ·obtain⟨a,Y,h2⟩:=K.env k w hk
  exact⟨a,Y,h2.lift hl⟩
 rcases z c t G with⟨rfl,rfl⟩|⟨hcb,O⟩
 ·exact Jw _ (fun v a k=>k.lift hl) (fun row l k=>k.lift hl)
 exact iq.xh hl (fun J=>hs _ fun e=>hcb (K.inj c b t s O U J A e)) (K.box c t O)
theorem LX{n:Nat}{a x:aI}{b o elem aV:Nat}{row new:List VV}{v:VV}(ha:a.vv VE=some (.vp b o))(I:bf B b=some (.one elem aV row))(hx:x.vv VE=some v)(hv:v.cells=some new)(J:new.length=n)(h0:0<n)(hk:o+n≤row.length)(hq:Q .undef ((b,.one elem aV (Gf row o new))::B)):VI T (.store n a x) VE B [b] Q:=fun _ X0 _ H β z=>by
 obtain⟨_,h1,h2⟩:=z.ch ha
 simp only[aP] at h2
 subst h2
 obtain⟨y,h3,h4⟩:=z.ch hx
 obtain⟨t,h5,O⟩:=h4.cells hv
 obtain⟨l,lo,cs,k1,k2,k3,U⟩:=z.box b _ I
 have ht:t.length=n:=by rw[O.length,J]
 have A:=U.length
 have e:=fun K=>PL (e:=aH.err 5) (K:=K) (q:=0) (o:=o) (n:=n) (new:=t) k1 k2 Nat.zero_lt_one k3 rfl ht h0 ah
 simp only[sC,jR] at e
 refine⟨0,.undef,_,fun lf m _ _=>by rw[ML h1 h3 h5,e],?_⟩
 refine A2 z I trivial rfl (fun f hf=>?_) rfl rfl (fun X Y j2=>?_) (fun X=>by simp only[aP]) hq
 ·show(H.t.set (β b) _).get f=_
  rw[GT.eY,al hf]
 have hlen:(bif Nat.beq n l.length then t else gR l o t).length=l.length:=by
  cases G:Nat.beq n l.length with
  |true=>have:=eH G;show t.length=_;omega
  |false=>show(gR l o t).length=_;simp only[gR,bE,jH,gN];omega
 refine⟨bif Nat.beq n l.length then t else gR l o t,1,cs.set 0 (bif Nat.beq n l.length then t else gR l o t),?_,bR _,by rw[RT.eY,az rfl],?_⟩
 ·show(H.t.set (β b) _).get (β b)=_
  rw[GT.eY,az rfl,hlen]
 have Z:=He Y O
 have h8:=He Y U
 unfold Gf
 rw[J,←A]
 exact bu.bif Z (h8.gR o Z)
end
mutual
def VV.zero(b:Nat):VV→Bool
 |.d _=>true
 |.agg l=>xi b l
 |.tuple l=>xi b l
 |.vp c _=>!Nat.beq c b
 |.bp c _ _ _ _=>!Nat.beq c b
 |.rp _ _=>true
 |.bs c _ _=>!Nat.beq c b
 |.ac c n _=>!Nat.beq c b||Nat.beq n 0
 |.fn _ ff=>xi b ff
 |.k _=>true
 |.jV=>true
 |.undef=>true
def xi(b:Nat):List VV→Bool
 |[]=>true
 |v::r=>v.zero b&&xi b r
end
def BS.zero(b:Nat):BS→Bool
 |.one _ _ row=>xi b row
 |_=>true
def vH(b:Nat):cj→Bool
 |[]=>true
 |(_,v)::r=>v.zero b&&vH b r
def rm(b:Nat):bw→Bool
 |[]=>!mm b
 |(_,s)::r=>s.zero b&&rm b r
theorem Lo{b:Nat}:∀{B:bw},rm b B=true→mm b=false
 |[],h=>by simpa[rm] using h
 |(_,_)::r,h=>by
  simp only[rm,fE] at h
  exact Lo h.2
section
variable{T:bd}{H0:Nat→Nat}{X0:Nat→Prop}{VE eB:cj}{B B':bw}{E:Env}{H H':aE}{β:Nat→Nat}{X:Nat→Prop}
variable{W:List Nat}{Q:VV→bw→Prop}
mutual
theorem aP.zero{b f:Nat}:∀{v:VV}{a:ax},v.zero b=true→aP H X β v a→aP H X (fun c=>if c=b then f else β c) v a
 |.d x,_,_,h=>by simp only[aP] at h⊢;exact h
 |.agg l,_,n,h=>by
  simp only[aP,VV.zero] at h n⊢
  obtain⟨cs,e,h⟩:=h
  exact⟨cs,e,bu.zero n h⟩
 |.tuple l,_,n,h=>by
  simp only[aP,VV.zero] at h n⊢
  obtain⟨cs,e,h⟩:=h
  exact⟨cs,e,bu.zero n h⟩
 |.vp c off,_,n,h=>by simp only[aP,VV.zero] at h n⊢;rw[al (pH n)];exact h
 |.bp c g q off es,_,n,h=>by simp only[aP,VV.zero] at h n⊢;rw[al (pH n)];exact h
 |.rp row off,_,_,h=>by simp only[aP] at h⊢;exact h
 |.bs c m es,_,n,h=>by simp only[aP,VV.zero] at h n⊢;rw[al (pH n)];exact h
 |.ac c m es,_,n,h=>by
  simp only[aP,VV.zero,vS] at h n⊢
  rcases n with n|n
  ·rw[al (pH n)];exact h
  have:=eH n
  exact h.imp id fun k=>by omega
 |.fn f ff,_,n,h=>by
  simp only[aP,VV.zero] at h n⊢
  obtain⟨cs,e,h⟩:=h
  exact⟨cs,e,bu.zero n h⟩
 |.k x,_,_,h=>by simp only[aP] at h⊢;exact h
 |.jV,_,_,h=>by simp only[aP] at h⊢;exact h
 |.undef,_,_,_=>by simp only[aP]
theorem bu.zero{b f:Nat}:∀{l:List VV}{s:List ax},xi b l=true→bu H X β l s→bu H X (fun c=>if c=b then f else β c) l s
 |[],_,_,h=>by simp only[bu] at h⊢;exact h
 |v::r,_,n,h=>by
  simp only[bu,xi,fE] at h n⊢
  obtain⟨a,s,e,z,h2⟩:=h
  exact⟨a,s,e,aP.zero n.1 z,bu.zero n.2 h2⟩
end
theorem LY{b:Nat}:∀{VE:cj},vH b VE=true→∀{k:Nat}{v:VV},bf VE k=some v→v.zero b=true
 |[],_,_,_,h=>by cases h
 |(i,w)::r,z,k,v,h=>by
  simp only[vH,fE] at z
  rw[eM] at h
  by_cases e:i=k
  ·rw[az e] at h;cases h;exact z.1
  rw[al e] at h;exact LY z.2 h
theorem LZ{b:Nat}:∀{B:bw},rm b B=true→∀{c:Nat}{s:BS},bf B c=some s→s.zero b=true
 |[],_,_,_,h=>by cases h
 |(i,w)::r,z,c,s,h=>by
  simp only[rm,fE] at z
  rw[eM] at h
  by_cases e:i=c
  ·rw[az e] at h;cases h;exact z.1
  rw[al e] at h;exact LZ z.2 h
theorem Rel.ghost(h:Rel H0 X0 VE B E H β){b k:Nat}(elem aV es:Nat)(hk:bf VE k=some (.d .nil))(Z:bf B b=none):Rel H0 X0 ((k,.ac b 0 es)::VE) ((b,.acc elem aV es [])::B) E H β:=by
 have I:∀c s,bf ((b,BS.acc elem aV es [])::B) c=some s→s.born→bf B c=some s:=fun c s z ho=>by
  rw[eM] at z
  by_cases e:b=c
  ·rw[az e] at z;cases z;exact absurd rfl ho
  rw[al e] at z;exact z
 have Y:∀f,XB X0 ((b,BS.acc elem aV es [])::B) β f→XB X0 B β f:=fun f J=>J.imp id fun⟨c,s,A,ho,h2⟩=>⟨c,s,I c s A ho,ho,h2⟩
 have K:i6 H (XB X0 B β) H (XB X0 ((b,BS.acc elem aV es [])::B) β):=⟨bR _,fun f _ J=>⟨fun k=>J (Y f k),rfl⟩⟩
 refine⟨h.o9,h.bj,h.x0,fun c s z ho=>h.new c s (I c s z ho) ho,fun c e s t z he O U=>h.inj c e s t (I c s z O) (I e t he U) O U,fun j w G=>?_,fun c s z=>?_⟩
 ·rw[eM] at G
  by_cases e:k=j.n
  ·rw[az e] at G
   cases G
   obtain⟨a,A,h2⟩:=h.env j _ (e▸hk)
   simp only[aP,cY] at h2
   exact⟨a,A,by simp only[aP];exact .inl ⟨trivial,h2⟩⟩
  rw[al e] at G
  obtain⟨a,A,h2⟩:=h.env j w G
  exact⟨a,A,h2.lift K⟩
 rw[eM] at z
 by_cases e:b=c
 ·rw[az e] at z;cases z;exact .inl rfl
 rw[al e] at z;exact(h.box c s z).lift K rfl
theorem DG{b elem aV es:Nat}:∀c s,bf ((b,BS.acc elem aV es [])::B) c=some s→s.born→∃t,bf B c=some t∧t.born:=fun c s z ho=>by
 rw[eM] at z
 by_cases e:b=c
 ·rw[az e] at z;cases z;exact absurd rfl ho
 rw[al e] at z;exact⟨s,z,ho⟩
theorem UX{ops:List bA}{Q:cj→bw→Prop}(k b elem aV es:Nat)(hk:bf VE k=some (.d .nil))(z:bf B b=none)(h:VO T ops ((k,.ac b 0 es)::VE) ((b,.acc elem aV es [])::B) Q):VO T ops VE B Q:=
 fun H0 X0 E H β A=>(h H0 X0 E H β (A.ghost elem aV es hk z)).mono fun _ _ hp=>hp.more DG
theorem HG{c:IC}{R:Ex→cj→bw→Prop}(k b elem aV es:Nat)(hk:bf VE k=some (.d .nil))(z:bf B b=none)(h:VC T c ((k,.ac b 0 es)::VE) ((b,.acc elem aV es [])::B) R):VC T c VE B R:=
 fun H0 X0 E H β A=>(h H0 X0 E H β (A.ghost elem aV es hk z)).mono fun _ _ _ hp=>hp.more DG
def kz(H:aE)(X:Nat→Prop)(es:Nat):List (List ax)→List (List DC)→Prop
 |[],[]=>True
 |l::ls,r::rs=>(l.length=es∧dn H X r l)∧kz H X es ls rs
 |_,_=>False
theorem kz.length{es:Nat}:∀{ls:List (List ax)}{rs:List (List DC)},kz H X es ls rs→ls.length=rs.length
 |[],[],_=>rfl
 |l::ls,r::rs,h=>by simp only[kz] at h;simp[kz.length h.2]
 |[],_::_,h=>by simp[kz] at h
 |_::_,[],h=>by simp[kz] at h
theorem kz.get{es:Nat}:∀{ls:List (List ax)}{rs:List (List DC)},kz H X es ls rs→∀{i:Nat}{r:List DC},rs[i]?=some r→∃l,ls[i]?=some l∧l.length=es∧dn H X r l
 |[],[],_,i,r,h=>by simp at h
 |l::ls,r::rs,z,i,x,h=>by
  simp only[kz] at z
  cases i with
  |zero=>simp at h;subst h;exact⟨l,rfl,z.1⟩
  |succ i=>simpa using kz.get z.2 (i:=i) (r:=x) (by simpa using h)
 |[],_::_,h,_,_,_=>by simp[kz] at h
 |_::_,[],h,_,_,_=>by simp[kz] at h
theorem fT.elems{f g es:Nat}(h0:0<es):∀{rows:List (List DC)}{q:Nat},fT H X f g es q rows→∃ls,elems H f g es rows.length (q*es)=some ls∧kz H X es ls rows
 |[],_,_=>⟨[],rfl,trivial⟩
 |row::r,q,h=>by
  simp only[fT] at h
  obtain⟨⟨l,z,h2,A⟩,G⟩:=h
  obtain⟨ls,I,J⟩:=fT.elems h0 G
  refine⟨l::ls,?_,by simp only[kz];exact⟨⟨h2,A⟩,J⟩⟩
  show rd H f g (q*es) es none (fun l=>ob (Ev.elems H f g es r.length (Nat.add (q*es) es)) none fun r=>some (l::r))=_
  have:=Fz (k:=0) (n:=es) (e:=(none:Option (List (List ax)))) (c:=fun l=>ob (Ev.elems H f g es r.length (Nat.add (q*es) es)) none fun r=>some (l::r)) z ah h0
  rw[xn,h2] at this
  rw[this,List.drop_zero,pR ah]
  rw[show Nat.add (q*es) es=(q+1)*es by rw[nX,tT];rfl,I]
  rfl
inductive YR(B:bw)(es:Nat):VV→List (List DC)→Prop
 |nil:YR B es (.d .nil) []
 |sl {rows:List (List DC)} (h:∀row,row∈rows→row.length=es):YR B es (.d (.sl rows)) rows
 |bs {b elem aV lo fA:Nat} {rows:List (List DC)} (h:bf B b=some (.arr elem aV es lo rows)):YR B es (.bs b rows.length fA) rows
 |ac {b elem aV fA:Nat} {rows:List (List DC)} (h:bf B b=some (.acc elem aV es rows)):YR B es (.ac b rows.length fA) rows
theorem YR.elems(K:Rel H0 X0 VE B E H β){es:Nat}{v:VV}{rows:List (List DC)}(U:YR B es v rows)(h0:0<es){a:ax}(A:aP H (XB X0 B β) β v a):
  (a= .cB∧rows=[])∨∃f g off e ls,a= .slice f g off rows.length e∧Ev.elems H f g es rows.length off=some ls∧kz H (XB X0 B β) es ls rows:=by
 cases U with
 |nil=>simp only[aP,cY] at A;exact .inl ⟨A,rfl⟩
 |sl h=>
  simp only[aP,cY] at A
  obtain⟨f,g,off,fA,rfl,A⟩:=A
  refine .inr ⟨f,g,off,fA,?_⟩
  rcases A with rfl|⟨_,_,q,ho,G⟩
  ·exact⟨[],rfl,rfl,trivial⟩
  cases rows with
  |nil=>exact⟨[],rfl,rfl,trivial⟩
  |cons row r=>
   have he:fA=es:=by
    simp only[fT] at G
    obtain⟨⟨l,_,h2,I⟩,_⟩:=G
    rw[←h2,I.length,h row (lh ..)]
   subst he
   obtain⟨ls,z,h2⟩:=G.elems h0
   exact⟨ls,rfl,by rw[ho];exact z,h2⟩
 | @bs b elem aV lo fA rows h=>
  simp only[aP] at A
  subst A
  have hk:=K.box b _ h
  refine .inr ⟨β b,rows.length,0,fA,?_⟩
  have:fT H (XB X0 B β) (β b) rows.length es 0 rows:=fT.rZ fun i row hi=>by
   have J:lo≤rows.length:=by obtain⟨_,_,_,_,h,_⟩:=hk;exact h
   obtain⟨l,z,h2,I⟩:=hk.cells (g:=rows.length) J (bR _) (List.getElem?_eq_some_iff.1 hi).1 hi
   exact⟨l,by rw[jR];exact z,h2,I⟩
  obtain⟨ls,z,h2⟩:=this.elems h0
  rw[sC] at z
  exact⟨ls,rfl,z,h2⟩
 | @ac b elem aV fA rows h=>
  simp only[aP] at A
  rcases A with⟨z,rfl⟩|⟨_,rfl⟩
  ·exact .inl ⟨rfl,List.length_eq_zero_iff.1 z⟩
  refine .inr ⟨β b,rows.length,0,fA,?_⟩
  have hk:=K.box b _ h
  have:fT H (XB X0 B β) (β b) rows.length es 0 rows:=fT.rZ fun i row hi=>by
   rcases hk with rfl|⟨lo,cs,Y,Z,k3⟩
   ·simp at hi
   obtain⟨l,j1,O,j3⟩:=k3 i row hi
   exact⟨l,⟨elem,aV,rows.length,lo,0,cs,by rw[O];exact Y,Z,bR _,by rw[jR];exact(List.getElem?_eq_some_iff.1 hi).1,by rw[jR];exact j1⟩,O,j3⟩
  obtain⟨ls,z,h2⟩:=this.elems h0
  rw[sC] at z
  exact⟨ls,rfl,z,h2⟩
theorem ER{call:fc}{elem es aV:Nat}{x y:aI}{a b:ax}{n:Nat}{ls:List (List ax)}(z:x.ev E=some a)(A:y.ev E=some b)
  (h:(b= .cB∧n=0∧ls=[])∨∃f g off e,b= .slice f g off n e∧Ev.elems H f g es n off=some ls):(bP.app elem es aV x y).ev call E H=ka elem es aV n ls H a:=by
 show bI x E (.err 26) (fun a=>bI y E (.err 26) fun b=>hO b (.err 26) (ka elem es aV 0 [] H a) fun f g off n _=>
  ob (Ev.elems H f g es n off) (.err 26) fun l=>ka elem es aV n l H a)=_
 rw[dw,z,dk]
 show bI y E (.err 26) (fun b=>hO b (.err 26) (ka elem es aV 0 [] H a) fun f g off n _=>
  ob (Ev.elems H f g es n off) (.err 26) fun l=>ka elem es aV n l H a)=_
 rw[dw,A,dk]
 rcases h with⟨rfl,rfl,rfl⟩|⟨f,g,off,e,rfl,h⟩
 ·rfl
 show ob (Ev.elems H f g es n off) (.err 26) (fun l=>ka elem es aV n l H a)=_
 rw[h,dk]
theorem DP{ls:List (List ax)}{cs:RT}{m q:Nat}:(jZ ls cs m).get q=if m≤q∧q<m+ls.length then ls[q-m]?else cs.get q:=uH ls cs m q
theorem Rel.PM(h:Rel H0 X0 VE B E H β){b:Nat}(hE:vH b VE=true)(hB:rm b B=true)(hb:∀s,bf B b=some s→¬s.born)(hn:H'.next=H.next+1)(hs:∀f,f<H.next→H'.t.get f=H.t.get f)(hm:H'.bj=H.bj){s:BS}
  (Z:∀X β',(∀row l,dn H (XB X0 B β) row l→dn H' X row l)→iq H' X β' H.next s):
  ∃β',(β' b=H.next∧∀c,c≠b→β' c=β c)∧Rel H0 X0 VE ((b,s)::B) E H' β':=by
 let β':Nat→Nat:=fun c=>if c=b then H.next else β c
 have I:β' b=H.next:=az rfl
 have z:∀c,c≠b→β' c=β c:=fun c A=>al A
 have hg:∀c t,bf ((b,s)::B) c=some t→(c=b∧t=s)∨(c≠b∧bf B c=some t∧t.zero b=true):=fun c t A=>by
  rw[eM] at A
  by_cases e:b=c
  ·rw[az e] at A;cases A;exact .inl ⟨e.symm,rfl⟩
  rw[al e] at A
  exact .inr ⟨fun k=>e k.symm,A,LZ hB A⟩
 have hl:i6 H (XB X0 B β) H' (XB X0 ((b,s)::B) β'):=⟨ah,fun f hf hx=>⟨fun k=>by
  rcases k with k|⟨c,t,h1,ho,h2⟩
  ·exact hx (.inl k)
  rcases hg c t h1 with⟨rfl,rfl⟩|⟨A,O,_⟩
  ·rw[I] at h2;omega
  exact hx (.inr ⟨c,t,O,ho,by rw[←h2,z c A]⟩),hs f hf⟩⟩
 have A:∀row l,dn H (XB X0 B β) row l→dn H' (XB X0 ((b,s)::B) β') row l:=fun row l hr=>hr.lift hl
 refine⟨β',⟨I,z⟩,⟨(fun c A=>(z c fun e=>by rw[e,Lo hB] at A;cases A).trans (h.o9 c A)),by have:=h.bj;omega,(fun f hf=>by have:=h.x0 f hf;omega),fun c t K U=>?_,fun c e t u K J8 U Da Y=>?_,fun k v hk=>?_,fun c t K=>?_⟩⟩
 ·rcases hg c t K with⟨rfl,rfl⟩|⟨J,O,_⟩
  ·rw[I];exact⟨(fun hx=>by have:=h.x0 _ hx;omega),ah⟩
  rw[z c J];have:=h.new c t O U;exact⟨this.1,ah⟩
 ·rcases hg c t K with⟨rfl,rfl⟩|⟨J,O,_⟩<;>rcases hg e u J8 with⟨rfl,rfl⟩|⟨Db,h4,_⟩
  ·rfl
  ·rw[I,z e Db] at Y;have:=h.new e u h4 Da;omega
  ·rw[I,z c J] at Y;have:=h.new c t O U;omega
  rw[z c J,z e Db] at Y;exact h.inj c e t u O h4 U Da Y
 ·obtain⟨a,h1,h2⟩:=h.env k v hk
  exact⟨a,h1,(aP.zero (LY hE hk) h2).lift hl⟩
 rcases hg c t K with⟨rfl,rfl⟩|⟨J,O,hno⟩
 ·rw[I];exact Z _ _ A
 rw[z c J]
 have ho:=h.box c t O
 have G:t.born→H'.t.get (β c)=H.t.get (β c):=fun ho=>hs _ (h.new c t O ho).2
 cases t with
 |one elem aV row=>
  obtain⟨l,lo,cs,k1,k2,k3,k4⟩:=ho
  exact⟨l,lo,cs,(G trivial).trans k1,k2,k3,(bu.zero hno k4).lift hl⟩
 |arr elem aV es lo rows=>exact iq.xh (X:=XB X0 B β) (β:=β') hl G ho
 |acc elem aV es rows=>exact iq.xh (X:=XB X0 B β) (β:=β') hl G ho
theorem L0{elem es aV n:Nat}{ls:List (List ax)}(h:n*aV≤70368744177664):w3 elem es aV n ls H= .ok (.slice H.next n 0 n es) ⟨H.next+1,H.bj,H.ws,H.t.set H.next (.row elem es aV n n 0 (jZ ls .emp 0))⟩:=by
 unfold w3
 rw[show Nat.ble (Nat.mul n aV) 70368744177664=true from jy h,gi,wG,alloc_eq]
theorem L1{elem es aV n f m lo:Nat}{ls:List (List ax)}{cs:RT}(J:H.t.get f=some (.row elem es aV m lo 0 cs))(K:lo≤m)(h:(m+n)*aV≤70368744177664):
  yD elem es aV n ls H f m 0 m es= .ok (.slice f (m+n) 0 (m+n) es) ⟨H.next,H.bj,wrote f H.bj H.ws,H.t.set f (.row elem es aV (m+n) lo 0 (jZ ls cs m))⟩:=by
 cases H with
 |mk next bj ws t=>
  have J:t.get f=some (.row elem es aV m lo 0 cs):=J
  show jt (t.get f) (.err 33) (fun z A na I lo fl cs=>
   aJ (Nat.beq 0 0) (aJ (Nat.beq m I) (aJ (Nat.ble lo m) (aJ (Nat.beq m I) (aJ (Nat.beq es es) (aJ (Nat.beq A es) (aJ (Nat.beq fl 1) (aH.err 32)
   (aJ (Nat.ble (Nat.mul (Nat.add I n) aV) 70368744177664) (aJ (Nat.beq elem z)
    (dz (Nat.add I n) fun G=>tJ ls cs I fun cs=>t.gV f (.row z A na G lo fl cs) fun t=>
     .ok (.slice f G 0 G es) ⟨next,bj,wrote f bj ws,t⟩) (.err 32)) (.err 32))) (.err 32)) (.err 32)) (.err 32)) (.err 32)) (.err 32)) (.err 32))=_
  rw[J]
  show aJ (Nat.beq 0 0) (aJ (Nat.beq m m) (aJ (Nat.ble lo m) (aJ (Nat.beq m m) (aJ (Nat.beq es es) (aJ (Nat.beq es es) (aJ (Nat.beq 0 1) (aH.err 32)
   (aJ (Nat.ble (Nat.mul (Nat.add m n) aV) 70368744177664) (aJ (Nat.beq elem elem)
    (dz (Nat.add m n) fun G=>tJ ls cs m fun cs=>t.gV f (.row elem es aV G lo 0 cs) fun t=>
     .ok (.slice f G 0 G es) ⟨next,bj,wrote f bj ws,t⟩) (.err 32)) (.err 32))) (.err 32)) (.err 32)) (.err 32)) (.err 32)) (.err 32)) (.err 32)=_
  rw[show Nat.beq 0 0=true from rfl,gi,show Nat.beq m m=true from jl m,gi,jy K,gi,gi,show Nat.beq es es=true from jl es,gi,gi,
   show aJ (Nat.beq 0 1) (aH.err 32) _=_ from rfl,show Nat.ble (Nat.mul (Nat.add m n) aV) 70368744177664=true from jy h,gi,show Nat.beq elem elem=true from jl elem,gi,iG,wG,GT.kG]
  rfl
theorem Nn{op:bP}{elem es aV:Nat}{x:aI}{b:Nat}{rows ys:List (List DC)}(hx:x.vv VE=some (.ac b rows.length es))(hb:bf B b=some (.acc elem aV es rows))
  (wi:∀{H0:Nat→Nat}{X0:Nat→Prop}{E:Env}{H:aE}{β:Nat→Nat},Rel H0 X0 VE B E H β→∃ls,kz H (XB X0 B β) es ls ys∧∀call a,x.ev E=some a→op.ev call E H=ka elem es aV ys.length ls H a)
  (G:(rows++ys).length*aV≤70368744177664) (hE:rows=[]→vH b VE=true) (hB:rows=[]→rm b B=true)
  (O:Q (.ac b (rows++ys).length es) ((b,.acc elem aV es (rows++ys))::B)):VI T op VE B [b] Q:=fun _ X0 _ H β K=>by
 obtain⟨a,h1,h2⟩:=K.ch hx
 obtain⟨ls,J,z⟩:=wi K
 have z:=fun call=>z call a h1
 have jM:=J.length
 cases ys with
 |nil=>
  rw[z8] at O
  have U:ka elem es aV 0 ls H a= .ok a H:=by
   simp only[aP] at h2
   rcases h2 with⟨_,rfl⟩|⟨_,rfl⟩<;>rfl
  have I:∀k s,bf ((b,BS.acc elem aV es rows)::B) k=some s→bf B k=some s:=fun k s hk=>by
   rw[eM] at hk
   by_cases e:b=k
   ·rw[az e] at hk;cases hk;exact e▸hb
   rw[al e] at hk;exact hk
  refine gq (fun call=>(z call).trans U) ⟨_,_,β,jg.refl.I3 fun k s hk ho=>⟨s,I k s hk,ho⟩,K.Cg (B':=(b,.acc elem aV es rows)::B) I,?_,O⟩
  simp only[aP] at h2⊢
  exact h2
 |cons y0 yr=>
  have hA:ka elem es aV (y0::yr).length ls H a=hO a (.err 34) (w3 elem es aV (y0::yr).length ls H) (yD elem es aV (y0::yr).length ls H):=rfl
  generalize Y:y0::yr=ys at*
  have Z:0<ys.length:=by rw[←Y];simp
  cases rows with
  |nil=>
   have U:a= .cB:=by
    simp only[aP,dL] at h2
    rcases h2 with⟨_,h⟩|⟨h,_⟩
    ·exact h
    omega
   subst U
   rw[Cv] at O G
   obtain⟨β',⟨hβ,Jx⟩,rK⟩:=K.PM (b:=b) (s:=.acc elem aV es ys) (H':=⟨H.next+1,H.bj,H.ws,H.t.set H.next (.row elem es aV ys.length ys.length 0 (jZ ls .emp 0))⟩) (hE rfl) (hB rfl) (fun s hs ho=>by rw[hb] at hs;cases hs;exact ho rfl) rfl
    (fun f hf=>by show(H.t.set H.next _).get f=_;rw[GT.eY,al ah]) rfl (fun X β' k=>.inr ⟨ys.length,jZ ls .emp 0,by show(H.t.set H.next _).get H.next=_;rw[GT.eY,az rfl],bR _,fun i row hi=>by
     obtain⟨l,j1,j2,j3⟩:=J.get hi
     refine⟨l,?_,j2,k _ _ j3⟩
     rw[DP,az ⟨dp _,by have:=(List.getElem?_eq_some_iff.1 hi).1;omega⟩,F1]
     exact j1⟩)
   refine gq (fun call=>(z call).trans (hA.trans (L0 G))) ⟨_,_,β',⟨rfl,tS _,fun _ h=>.inl h,fun c t hc ht=>?_,fun f hf _=>by show(H.t.set H.next _).get f=_;rw[GT.eY,al ah]⟩,rK,?_,O⟩
   ·rw[eM] at hc
    by_cases e:b=c
    ·subst e;exact .inr (by rw[hβ];exact bR _)
    rw[al e] at hc
    exact .inl ⟨t,hc,ht,Jx c fun k=>e k.symm⟩
   simp only[aP,hβ]
   exact .inr ⟨Z,trivial⟩
  |cons r0 rr=>
   generalize A:r0::rr=rows at*
   have l8:rows≠[]:=by rw[←A];simp
   have hrpos:0<rows.length:=by rw[←A];simp
   have U:a= .slice (β b) rows.length 0 rows.length es:=by
    simp only[aP] at h2
    rcases h2 with⟨h,_⟩|⟨_,h⟩
    ·omega
    exact h
   subst U
   rcases K.box b _ hb with h|⟨lo,cs,k1,k2,k3⟩
   ·exact absurd h l8
   rw[bE] at G
   refine⟨0,_,_,fun lf n _ _=>(z _).trans (hA.trans (L1 k1 k2 G)),?_⟩
   refine A2 (s':=.acc elem aV es (rows++ys)) K hb l8 rfl (fun f hf=>?_) rfl rfl (fun X _ j2=>.inr ⟨lo,jZ ls cs rows.length,?_,by rw[bE];omega,fun i row hi=>?_⟩) (fun X=>?_) O
   ·show(H.t.set (β b) _).get f=_
    rw[GT.eY,al hf]
   ·show(H.t.set (β b) _).get (β b)=_
    rw[GT.eY,az rfl,bE]
   ·rw[DP]
    have wg:=(List.getElem?_eq_some_iff.1 hi).1
    rw[bE] at wg
    by_cases e:rows.length≤i
    ·rw[az ⟨e,ah⟩]
     rw[xm e] at hi
     obtain⟨l,j3,j4,j5⟩:=J.get hi
     exact⟨l,j3,j4,j2 _ _ j5⟩
    rw[al (fun k=>e k.1)]
    rw[rz ah] at hi
    obtain⟨l,j3,j4,j5⟩:=k3 i row hi
    exact⟨l,j3,j4,j2 _ _ j5⟩
   simp only[aP]
   exact .inr ⟨by rw[bE];omega,by rw[bE]⟩
theorem eD{elem es aV:Nat}{x y:aI}{b:Nat}{rows ys:List (List DC)}{J:VV}(U:x.vv VE=some (.ac b rows.length es))(Y:bf B b=some (.acc elem aV es rows))(Z:y.vv VE=some J)(z:YR B es J ys)(h0:0<es)
  (A:(rows++ys).length*aV≤70368744177664) (hE:rows=[]→vH b VE=true) (hB:rows=[]→rm b B=true)
  (hq:Q (.ac b (rows++ys).length es) ((b,.acc elem aV es (rows++ys))::B)):VI T (.app elem es aV x y) VE B [b] Q:=Nn U Y (fun K=>by
 obtain⟨c,O,h4⟩:=K.ch Z
 rcases z.elems K h0 h4 with⟨G,rfl⟩|⟨f,g,off,e,ls,G,k2,k3⟩
 ·exact⟨[],trivial,fun call a I=>ER I O (.inl ⟨G,rfl,rfl⟩)⟩
 exact⟨ls,k3,fun call a I=>ER I O (.inr ⟨f,g,off,e,G,k2⟩)⟩) A hE hB hq
end
section
variable{T:bd}{H0:Nat→Nat}{X0:Nat→Prop}{VE eB:cj}{B B':bw}{E:Env}{H H':aE}{β:Nat→Nat}{X:Nat→Prop}
variable{W:List Nat}{Q:VV→bw→Prop}
theorem yp{x:aI}{b n es:Nat}(I:x.vv VE=some (.ac b n es))(A:Q (.d (.i .i64 n)) B):VI T (.len x) VE B [] Q:=fun _ _ _ _ _ z=>by
 obtain⟨_,G,h2⟩:=z.ch I
 simp only[aP] at h2
 rcases h2 with⟨rfl,rfl⟩|⟨_,rfl⟩
 ·exact K7 G (fi z (v:=.d (.i .i64 (0:Nat))) (by simp only[aP,cY];rfl) A)
 exact HX G (fi z (v:=.d (.i .i64 n)) (by simp only[aP,cY]) A)
theorem iq.Xj{f elem aV es:Nat}{rows:List (List DC)}(h:iq H X β f (.acc elem aV es rows)){q:Nat}{row:List DC}(z:rows[q]?=some row):∃l,mT H f rows.length q l∧l.length=es∧dn H X row l:=by
 have I:=(List.getElem?_eq_some_iff.1 z).1
 rcases h with rfl|⟨A,cs,J,K,O⟩
 ·simp at z
 obtain⟨l,U,G,Y⟩:=O q row z
 exact⟨l,⟨elem,aV,rows.length,A,0,cs,by rw[G];exact J,K,bR _,I,U⟩,G,Y⟩
def DC.fC(rows:List (List DC)):DC:=match rows with|[]=>.nil|x::r=>.sl (x::r)
theorem DC.rT{rows:List (List DC)}(h:rows≠[]):DC.fC rows= .sl rows:=by
 cases rows with
 |nil=>exact absurd rfl h
 |cons x r=>rfl
mutual
def VV.ud(b:Nat)(x:DC):VV→VV
 |.agg l=>.agg (FA b x l)
 |.ac c n es=>bif Nat.beq c b then .d x else .ac c n es
 |v=>v
def FA(b:Nat)(x:DC):List VV→List VV
 |[]=>[]
 |v::r=>v.ud b x::FA b x r
end
mutual
def VV.xJ(b n es:Nat):VV→Prop
 |.agg l=>Gg b n es l
 |.ac c m e=>c=b→m=n∧e=es
 |.bs c _ _=>c≠b
 |_=>True
def Gg(b n es:Nat):List VV→Prop
 |[]=>True
 |v::r=>v.xJ b n es∧Gg b n es r
end
theorem Rel.ud(J:Rel H0 X0 VE B E H β){b elem aV es:Nat}{rows:List (List DC)}(O:bf B b=some (.acc elem aV es rows)){k:Nat}{v:VV}(hv:bf VE k=some v)(ho:v.xJ b rows.length es):
  Rel H0 X0 ((k,v.ud b (.fC rows))::VE) (iK B b) E H β:=by
 have U:=J.drop b
 have G:∀c s,bf (iK B b) c=some s→b≠c∧bf B c=some s:=fun c s z=>by
  rw[wL] at z
  by_cases e:b=c
  ·rw[az e] at z;cases z
  rw[al e] at z;exact⟨e,z⟩
 have Y:rows≠[]→¬XB X0 (iK B b) β (β b):=by
  rintro A(h|⟨c,s,z,Z,h2⟩)
  ·exact(J.new b _ O A).1 h
  exact(G c s z).1 (J.inj c b s _ (G c s z).2 O Z A h2).symm
 have hl:i6 H (XB X0 B β) H (XB X0 (iK B b) β):=⟨bR _,fun f _ Y=>⟨fun k=>Y (k.imp id fun⟨c,s,z,h2⟩=>⟨c,s,(G c s z).2,h2⟩),rfl⟩⟩
 have K:rows≠[]→cY H (XB X0 (iK B b) β) (.sl rows) (.slice (β b) rows.length 0 rows.length es):=fun A=>by
  simp only[cY]
  refine⟨β b,rows.length,0,es,rfl,.inr ⟨Y A,(J.new b _ O A).2,0,by simp,fT.rZ fun i row hi=>?_⟩⟩
  obtain⟨l,z,h2,h3⟩:=(J.box b _ O).Xj hi
  exact⟨l,by rw[jR];exact z,h2,h3.lift hl⟩
 have main:(∀v:VV,v.xJ b rows.length es→∀a,aP H (XB X0 (iK B b) β) β v a→aP H (XB X0 (iK B b) β) β (v.ud b (.fC rows)) a):=by
  intro v
  refine VV.rec (motive_1:=fun v=>v.xJ b rows.length es→∀a,aP H (XB X0 (iK B b) β) β v a→aP H (XB X0 (iK B b) β) β (v.ud b (.fC rows)) a)
   (motive_2:=fun l=>Gg b rows.length es l→∀s,bu H (XB X0 (iK B b) β) β l s→bu H (XB X0 (iK B b) β) β (FA b (.fC rows) l) s) ?_ ?_ ?_ ?_ ?_ ?_ ?_ ?_ ?_ ?_ ?_ ?_ ?_ ?_ v
  ·intro x _ a h;exact h
  ·intro l ih ho a h
   simp only[aP,VV.ud,VV.xJ] at h ho⊢
   obtain⟨cs,e,h⟩:=h
   exact⟨cs,e,ih ho cs h⟩
  ·intro l _ _ a h;exact h
  ·intro c o _ a h;exact h
  ·intro c g q o e _ a h;exact h
  ·intro row o _ a h;exact h
  ·intro c n e ho a h;exact h
  ·intro c n e ho a h
   simp only[VV.ud,VV.xJ] at h ho⊢
   by_cases I:c=b
   ·obtain⟨rfl,rfl⟩:=ho I
    subst I
    rw[show Nat.beq c c=true from jl c]
    simp only[aP] at h
    show aP H _ β (.d (.fC rows)) _
    simp only[aP]
    rcases h with⟨z,rfl⟩|⟨z,rfl⟩
    ·rw[List.length_eq_zero_iff.1 z]
     simp only[DC.fC,cY]
    have A:rows≠[]:=fun e=>by rw[e] at z;simp at z
    rw[DC.rT A]
    exact K A
   have:Nat.beq c b=false:=by
    cases hq:Nat.beq c b
    ·rfl
    exact absurd (eH hq) I
   rw[this];exact h
  ·intro f c _ _ a h;exact h
  ·intro x _ a h;exact h
  ·intro _ a h;exact h
  ·intro _ a h;exact h
  ·intro _ s h;exact h
  intro v r ih1 J9 ho s h
  simp only[bu,FA,Gg] at h ho⊢
  obtain⟨a,s,e,z,h2⟩:=h
  exact⟨a,s,e,ih1 ho.1 a z,J9 ho.2 s h2⟩
 refine{U with env:=fun c w I=>?_}
 rw[eM] at I
 by_cases e:k=c.n
 ·rw[az e] at I
  cases I
  obtain⟨a,z,h2⟩:=U.env c v (e▸hv)
  exact⟨a,z,main v ho a h2⟩
 rw[al e] at I
 exact U.env c w I
theorem fN{ops:List bA}{Q:cj→bw→Prop}(k b:Nat){v:VV}{elem aV es:Nat}{rows:List (List DC)}(z:bf VE k=some v)(A:bf B b=some (.acc elem aV es rows))(ho:v.xJ b rows.length es)(h:VO T ops ((k,v.ud b (.fC rows))::VE) (iK B b) Q):VO T ops VE B Q:=
 fun H0 X0 E H β G=>(h H0 X0 E H β (G.ud A z ho)).mono fun _ _ hp=>hp.more MD
theorem bu.data{row:List DC}{l:List VV}{s:List ax}(h:lO l=some row)(k:bu H X β l s):dn H X row s:=dn.Bp (β:=β) (Nl h▸k)
theorem V5{elem es aV:Nat}{zero:List ax}{z:List VV}{G:List DC}{x y:aI}{n:Nat}(b:Nat)(hE:oe b VE=true)(hB:og b B=true)(hz:re zero=some z)(I:lO z=some G)(J:zero.length=es)(hx:x.vv VE=some (.d (.i .i64 (n:Int))))(hy:y.vv VE=some (.d (.i .i64 (n:Int))))
  (h1:n*aV≤70368744177664) (h2:n≤4611686018427387904) (hq:Q (.bs b n es) ((b,.arr elem aV es n (List.replicate n G))::B)):VI T (.tZ elem es aV zero x y) VE B [] Q:=fun _ _ E H _ K=>by
 obtain⟨_,k1,Y⟩:=K.ch hx
 obtain⟨_,k3,Z⟩:=K.ch hy
 simp only[aP,cY] at Y Z
 subst Y;subst Z
 have O:∀call,(bP.tZ elem es aV zero x y).ev call E H= .ok (.slice H.next n 0 n es) ⟨H.next+1,H.bj,H.ws,H.t.set H.next (.row elem es aV n n 0 (oA zero n))⟩:=fun call=>by
  show bI x E (.err 22) (fun a=>gU a (.err 22) fun _ a=>jc a (.err 22) fun l=>bI y E (.err 22) fun b=>gU b (.err 22) fun _ b=>jc b (.err 22) fun c=>
   aJ (Nat.ble l c) (aJ (Nat.ble (Nat.mul c aV) 70368744177664) (aJ (Nat.ble c 4611686018427387904)
    (xu zero l fun cs=>H.alloc (.row elem es aV l l 0 cs) fun f H=>.ok (.slice f l 0 l es) H) (.err 22)) (.err 22)) (.err 22))=_
  rw[dw,k1,dk]
  show bI y E (.err 22) (fun b=>gU b (.err 22) fun _ b=>jc b (.err 22) fun c=>
   aJ (Nat.ble n c) (aJ (Nat.ble (Nat.mul c aV) 70368744177664) (aJ (Nat.ble c 4611686018427387904)
    (xu zero n fun cs=>H.alloc (.row elem es aV n n 0 cs) fun f H=>.ok (.slice f n 0 n es) H) (.err 22)) (.err 22)) (.err 22))=_
  rw[dw,k3,dk]
  show aJ (Nat.ble n n) (aJ (Nat.ble (Nat.mul n aV) 70368744177664) (aJ (Nat.ble n 4611686018427387904)
    (xu zero n fun cs=>H.alloc (.row elem es aV n n 0 cs) fun f H=>aH.ok (.slice f n 0 n es) H) (.err 22)) (.err 22)) (.err 22)=_
  rw[jy (bR n),gi,show Nat.ble (Nat.mul n aV) 70368744177664=true from jy h1,gi,jy h2,gi,D',alloc_eq]
 refine gq O (DO (b:=b) (s:=.arr elem aV es n (List.replicate n G)) K hE hB rfl (fun f hf=>by show(H.t.set H.next _).get f=_;rw[GT.eY,al ah]) rfl rfl (fun X β' _ _=>?_) (fun X β' k=>by simp only[aP];rw[k]) hq)
 refine⟨n,oA zero n,by show(H.t.set H.next _).get H.next=_;rw[GT.eY,az rfl,E5],bR _,by rw[E5];exact bR _,fun q row A=>?_⟩
 rw[OD] at A
 split at A
 ·rename_i U
  cases A
  exact⟨zero,by rw[DL,az U],J,(AS (β:=β') hz).data I⟩
 cases A
def wB(VE:cj)(es z:Nat):List (Nat×aI)→List (List DC)→Option (List (List DC))
 |[],rows=>some rows
 |p::r,rows=>(p.2.vv VE).bind fun v=>v.cells.bind fun new=>(lO new).bind fun row=>bif Nat.beq row.length es&&Nat.ble (Nat.succ p.1) z then wB VE es z r (rows.set p.1 row) else none
theorem KJ(K:Rel H0 X0 VE B E H β){es A:Nat}:∀{ps:List (Nat×aI)}{rows out:List (List DC)}{t:RT},(rows.length=A∧∀q row,rows[q]?=some row→∃l,t.get q=some l∧l.length=es∧dn H (XB X0 B β) row l)→wB VE es A ps rows=some out→
  ∃t',rb E es A ps t=some t'∧out.length=A∧∀q row,out[q]?=some row→∃l,t'.get q=some l∧l.length=es∧dn H (XB X0 B β) row l
 |[],rows,out,t,h,z=>by simp only[wB,ia] at z;subst z;exact⟨t,rfl,h⟩
 |p::r,rows,out,t,h,z=>by
  simp only[wB,BW] at z
  obtain⟨v,U,new,Y,row,I,z⟩:=z
  obtain⟨a,Z,h2⟩:=K.ch U
  obtain⟨s,h3,h4⟩:=h2.cells Y
  have O:=h4.data I
  have hl:s.length=row.length:=O.length
  cases he:(Nat.beq row.length es&&Nat.ble (Nat.succ p.1) A) with
  |false=>rw[he] at z;cases z
  |true=>
   rw[he] at z
   simp only[fE] at he
   have e1:=eH he.1
   have e2:=b0 he.2
   have z:wB VE es A r (rows.set p.1 row)=some out:=z
   obtain⟨t',k1,k2⟩:=KJ K (t:=t.set p.1 s) ⟨by rw[E6];exact h.1,fun q J G=>by
    rw[RT.eY]
    rw[List.getElem?_set] at G
    by_cases e:q=p.1
    ·subst e
     rw[az rfl] at G⊢
     rw[az (by rw[h.1];exact e2)] at G
     cases G
     exact⟨s,rfl,ah,O⟩
    rw[al (fun k=>e k.symm)] at G
    rw[al e]
    exact h.2 q J G⟩ z
   refine⟨t',?_,k2⟩
   show ob (p.2.ev E) none (fun v=>ob (kq v) none fun new=>aJ (Nat.beq (jI new) es) (aJ (Nat.ble (Nat.succ p.1) A) (rb E es A r (t.set p.1 new)) none) none)=some t'
   rw[Z,dk,h3,dk,pA,hl,he.1,gi,he.2,gi,k1]
theorem Tn{elem es aV G:Nat}{zero:List ax}{z:List VV}{U:List DC}{ps:List (Nat×aI)}{rows:List (List DC)}(b:Nat)(Z:oe b VE=true)(hB:og b B=true)(hz:re zero=some z)(I:lO z=some U)(J:zero.length=es)(hb:wB VE es G ps (List.replicate G U)=some rows)
  (hq:Q (.bs b G es) ((b,.arr elem aV es G rows)::B)):VI T (.cG elem es aV G zero ps) VE B [] Q:=fun _ _ E H β Y=>by
 obtain⟨t,h1,h2,h3⟩:=KJ Y (t:=oA zero G) ⟨E5,fun q row A=>by
  rw[OD] at A
  split at A
  ·rename_i K
   cases A
   exact⟨zero,by rw[DL,az K],J,(AS (β:=β) hz).data I⟩
  cases A⟩ hb
 have O:∀call,(bP.cG elem es aV G zero ps).ev call E H= .ok (.slice H.next G 0 G es) ⟨H.next+1,H.bj,H.ws,H.t.set H.next (.row elem es aV G G 0 t)⟩:=fun call=>by
  show ob (rb E es G ps (oA zero G)) (.err 24) (fun t=>H.alloc (.row elem es aV G G 0 t) fun f H=>.ok (.slice f G 0 G es) H)=_
  rw[h1,dk,alloc_eq]
 refine gq O (DO (b:=b) (s:=.arr elem aV es G rows) Y Z hB rfl (fun f hf=>by show(H.t.set H.next _).get f=_;rw[GT.eY,al ah]) rfl rfl (fun X β' _ k2=>?_) (fun X β' k=>by simp only[aP];rw[k]) hq)
 refine⟨G,t,by show(H.t.set H.next _).get H.next=_;rw[GT.eY,az rfl,h2],bR _,ah,fun q row A=>?_⟩
 obtain⟨l,j1,j2,j3⟩:=h3 q row A
 exact⟨l,j1,j2,k2 _ _ j3⟩
end
section
variable{T:bd}{H0:Nat→Nat}{X0:Nat→Prop}{VE eB:cj}{B B':bw}{E:Env}{H H':aE}{β:Nat→Nat}{X:Nat→Prop}
variable{W:List Nat}{Q:VV→bw→Prop}
def Gh(row:List DC)(o:Nat)(new:List DC):List DC:=bif Nat.beq new.length row.length then new else row.take o++(new++row.drop (o+new.length))
theorem dn.append{z A:List DC}{l1 G:List ax}(h:dn H X z l1)(k:dn H X A G):dn H X (z++A) (l1++G):=by
 have J:=bu.uR (β:=fun _=>0) h
 have h2:=bu.uR (β:=fun _=>0) k
 have I:=J.append h2
 rw[←dx] at I
 exact dn.Bp I
theorem dn.take{r:List DC}{l:List ax}(n:Nat)(h:dn H X r l):dn H X (r.take n) (l.take n):=by simpa using h.MJ 0 n
theorem dn.drop{r:List DC}{l:List ax}(n:Nat)(h:dn H X r l):dn H X (r.drop n) (l.drop n):=by
 have z:=bu.drop n (bu.uR (β:=fun _=>0) h)
 rw[←IG] at z
 exact dn.Bp z
theorem dn.bif{t0:Bool}{a b:List DC}{s t:List ax}(h:dn H X a s)(k:dn H X b t):dn H X (bif t0 then a else b) (bif t0 then s else t):=by
 cases t0
 ·exact k
 exact h
theorem dn.gR{row z:List DC}{l t:List ax}(o:Nat)(h:dn H X row l)(k:dn H X z t):dn H X (row.take o++(z++row.drop (o+z.length))) (gR l o t):=by
 unfold Ev.gR
 rw[←k.length]
 exact(h.take o).append (k.append (h.drop (o+t.length)))
theorem T9{n:Nat}{a x:aI}{b j o es elem aV lo:Nat}{rows:List (List DC)}{row z:List DC}{v:VV}{new:List VV}(ha:a.vv VE=some (.bp b rows.length j o es))(hb:bf B b=some (.arr elem aV es lo rows))(hx:x.vv VE=some v)(hv:v.cells=some new)(hd:lO new=some z)(O:z.length=n)(h0:0<n)(hk:o+n≤es)
  (hj:rows[j]?=some row) (hq:Q .undef ((b,.arr elem aV es rows.length (rows.set j (Gh row o z)))::B)):VI T (.store n a x) VE B [b] Q:=fun _ X0 _ H β I=>by
 obtain⟨_,h1,h2⟩:=I.ch ha
 simp only[aP] at h2
 subst h2
 obtain⟨y,h3,h4⟩:=I.ch hx
 obtain⟨t,h5,J⟩:=h4.cells hv
 have J:=J.data hd
 obtain⟨AE,cs,k1,k2,k3,k4⟩:=I.box b _ hb
 obtain⟨l,k5,k6,k7⟩:=k4 j row hj
 have A:=(List.getElem?_eq_some_iff.1 hj).1
 have ht:t.length=n:=by rw[J.length,O]
 have U:=k7.length
 have e:=fun K=>PL (e:=aH.err 5) (K:=K) (q:=j) (o:=o) (n:=n) (new:=t) k1 ah A k5 k6 ht h0 hk
 refine⟨0,.undef,_,fun lf m _ _=>by rw[ML h1 h3 h5,e],?_⟩
 refine A2 (s':=.arr elem aV es rows.length (rows.set j (Gh row o z))) I hb trivial rfl (fun f hf=>?_) rfl rfl (fun X j1 Y=>?_) (fun X=>by simp only[aP]) hq
 ·show(H.t.set (β b) _).get f=_
  rw[GT.eY,al hf]
 have hlen:(bif Nat.beq n es then t else gR l o t).length=es:=by
  cases Z:Nat.beq n es with
  |true=>have:=eH Z;show t.length=_;omega
  |false=>show(gR l o t).length=_;simp only[gR,bE,jH,gN];omega
 refine⟨rows.length,cs.set j (bif Nat.beq n es then t else gR l o t),?_,bR _,by rw[E6];exact bR _,fun i G hi=>?_⟩
 ·show(H.t.set (β b) _).get (β b)=_
  rw[GT.eY,az rfl,E6]
 rw[RT.eY]
 rw[List.getElem?_set] at hi
 by_cases ei:i=j
 ·subst ei
  rw[az rfl,az A] at hi
  cases hi
  rw[az rfl]
  refine⟨_,rfl,hlen,?_⟩
  have h7:=Y _ _ J
  have h8:=Y _ _ k7
  have h9:=h8.gR o h7
  unfold Gh
  rw[O,←U,k6]
  rw[O] at h9
  exact dn.bif h7 h9
 rw[al (fun k=>ei k.symm)] at hi
 rw[al ei]
 obtain⟨l',m1,m2,m3⟩:=k4 i G hi
 exact⟨l',m1,m2,Y _ _ m3⟩
def cg(T:bd)(f:Nat)(args:List VV)(Bi:bw)(Q:VV→bw→Prop):Prop:=
 ∀(H0:Nat→Nat)(X:Nat→Prop)(H:aE)(β:Nat→Nat)(l:List ax),Rel H0 X [] Bi .emp H β→bu H (XB X Bi β) β args l→
  uz T f l H fun a H'=>∃r B' β',jg Bi β H (fun _=>True) B' β' H'∧Rel H0 X [] B' .emp H' β'∧aP H' (XB X B' β') β' r a∧Q r B'
theorem cg.mono{f:Nat}{args:List VV}{Bi:bw}{Q z:VV→bw→Prop}(h:cg T f args Bi Q)(k:∀v B,Q v B→z v B):cg T f args Bi z:=fun H0 X H β l A h2=>
 (h H0 X H β l A h2).mono fun _ _⟨r,B',β',a,b,c,d⟩=>⟨r,B',β',a,b,c,k _ _ d⟩
def Sound(T:bd)(f:Nat)(args:List VV)(Q:VV→Prop):Prop:=cg T f args [] fun r _=>r.nb∧Q r
theorem Sound.mono{f:Nat}{args:List VV}{Q z:VV→Prop}(h:Sound T f args Q)(k:∀v,Q v→z v):Sound T f args z:=cg.mono h fun v _ hp=>⟨hp.1,k v hp.2⟩
def jv(VE:cj):List aI→Option (List VV)
 |[]=>some []
 |x::r=>(x.vv VE).bind fun v=>(jv VE r).map (v:: ·)
theorem wC(z:Rel H0 X0 VE B E H β):∀{l:List aI}{args:List VV},jv VE l=some args→∃vs,ki E l=some vs∧bu H (XB X0 B β) β args vs
 |[],args,h=>by simp only[jv,ia] at h;subst h;exact⟨[],rfl,by simp only[bu]⟩
 |x::r,args,h=>by
  simp only[jv,BW,E4] at h
  obtain⟨v,A,s,G,rfl⟩:=h
  obtain⟨a,I,h2⟩:=z.ch A
  obtain⟨vs,J,K⟩:=wC z G
  exact⟨a::vs,Mz I J,by simp only[bu];exact⟨a,vs,rfl,h2,K⟩⟩
theorem Rel.lt(z:Rel H0 X0 VE B E H β):∀f,XB X0 B β f→f<H.next:=fun f A=>by
 rcases A with h|⟨b,s,G,ho,rfl⟩
 ·exact z.x0 f h
 exact(z.new b s G ho).2
theorem Rel.start{H0:Nat→Nat}{X:Nat→Prop}{H:aE}{E:Env}(z:H.bj≤H.next)(A:∀f,X f→f<H.next):Rel H0 X [] [] E H H0:=
 ⟨fun _ _=>rfl,z,A,fun _ _ h=>(by cases h),fun _ _ _ _ h=>(by cases h),fun _ _ h=>(by cases h),fun _ _ h=>(by cases h)⟩
theorem Ol{X:Nat→Prop}{β:Nat→Nat}:∀f,XB X [] β f→X f:=fun f h=>by
 rcases h with h|⟨_,_,h,_⟩
 ·exact h
 cases h
theorem MM{f:Nat}{vs:List ax}{args:List VV}{P:VV→Prop}(hn:mL args)(h:Sound T f args P)(Z:∀r,r.nb→P r→Q r B)(G:Rel H0 X0 VE B E H β)(h2:bu H (XB X0 B β) β args vs):uz T f vs H (zQ H0 X0 VE B β E H W Q):=by
 have I:i6 H (XB X0 B β) H (XB (XB X0 B β) [] β):=⟨bR _,fun f _ J=>⟨fun k=>J (Ol f k),rfl⟩⟩
 refine(h β (XB X0 B β) H β vs (Rel.start G.bj G.lt) (h2.lift I)).mono fun a H' hp=>?_
 obtain⟨r,B',β',z,K,hv,U,k8⟩:=hp
 have Y:∀f,f<H.next→H'.t.get f=H.t.get f:=fun f A=>z.sP f A fun _ _ k=>by cases k
 have O:i6 H' (XB (XB X0 B β) B' β') H' (XB X0 B β):=⟨bR _,fun f _ J=>⟨fun k=>J (.inl k),rfl⟩⟩
 exact⟨r,B,β,⟨z.bj,z.next,fun f A=>(z.ws f A).imp id (fun⟨_,_,_,_,k,_⟩=>by cases k),fun _ s k1 k2=>.inl ⟨s,k1,k2,rfl⟩,fun f A _=>Y f A⟩,G.grow z.next Y K.bj,(hv.lift O).nb U,Z r U k8⟩
theorem fG{f:Nat}{l:List aI}{args:List VV}{P:VV→Prop}(A:jv VE l=some args)(G:mL args)(h:Sound T f args P)(I:∀r,r.nb→P r→Q r B):VI T (.call f l) VE B [] Q:=fun H0 X0 E H β z=>by
 obtain⟨vs,J,h2⟩:=wC z A
 exact HE J (MM G h I z h2)
def CK:List Key→List VV→cj→cj
 |k::ks,v::vs,VE=>CK ks vs ((k.n,v)::VE)
 |_,_,VE=>VE
theorem MN:∀{ks:List Key}{args:List VV}{l:List ax}{VE:cj}{E:Env},Rel H0 X0 VE B E H β→bu H (XB X0 B β) β args l→ks.length=args.length→Rel H0 X0 (CK ks args VE) B (Gb ks l E) H β
 |[],[],l,VE,E,h,k,_=>by simp only[bu] at k;subst k;exact h
 |x::ks,v::vs,l,VE,E,h,k,z=>by
  simp only[bu] at k
  obtain⟨a,s,rfl,A,G⟩:=k
  show Rel H0 X0 (CK ks vs ((x.n,v)::VE)) B (Gb ks s (E.set x a)) H β
  exact MN (h.set (d:=x) A) G (by simpa using z)
 |[],_::_,_,_,_,_,_,h=>by simp at h
 |_::_,[],_,_,_,_,_,h=>by simp at h
def Jy(VE:cj)(B:bw):ml→Option VV
 |.tmp k=>bf VE k.n
 |.cell k n agg=>match bf VE k.n with
  |some (.vp b o)=>match bf B b with
   |some (.one _ _ row)=>bif Nat.ble 1 n&&Nat.ble (o+n) row.length then(bif agg then some (.agg ((row.drop o).take n)) else match(row.drop o).take n with|[v]=>some v|_=>none) else none
   |_=>none
  |_=>none
def vI(VE:cj)(B:bw):List ml→Option (List VV)
 |[]=>some []
 |r::rs=>(Jy VE B r).bind fun v=>(vI VE B rs).map (v:: ·)
def gX:List VV→VV
 |[v]=>v
 |l=>.tuple l
theorem UY(J:Rel H0 X0 VE B E H β){r:ml}{v:VV}(h:Jy VE B r=some v):∃a,aP H (XB X0 B β) β v a∧∀{e:aH}{k:ax→aH},Ae E H r e k=k a:=by
 cases r with
 |tmp t=>
  obtain⟨a,I,h2⟩:=J.env t v h
  refine⟨a,h2,fun{e k}=>?_⟩
  show ob (E.get t) e k=k a
  rw[I,dk]
 |cell a n agg=>
  simp only[Jy] at h
  split at h
  ·rename_i b o O
   split at h
   ·rename_i elem aV row U
    obtain⟨pa,I,h2⟩:=J.env a _ O
    simp only[aP] at h2
    subst h2
    obtain⟨l,Y,K⟩:=(J.box b _ U).A0
    cases A:(Nat.ble 1 n&&Nat.ble (o+n) row.length) with
    |false=>rw[A] at h;cases h
    |true=>
     rw[A] at h
     simp only[fE] at A
     have e1:=b0 A.1
     have e2:=b0 A.2
     have G:∀{e:aH}{k:List ax→aH},rd H (β b) 1 o n e k=k ((l.drop o).take n):=fun{e k}=>by
      have:=Fz (k:=o) (n:=n) (e:=e) (c:=k) Y (by rw[K.length];exact e2) ah
      rwa [sC,jR] at this
     have z:=bu.take n (bu.drop o K)
     cases agg with
     |true=>
      have h:some (VV.agg ((row.drop o).take n))=some v:=h
      cases h
      refine⟨.agg ((l.drop o).take n),by simp only[aP];exact⟨_,rfl,z⟩,fun{e k}=>?_⟩
      show ob (E.get a) e (fun v=>iW v e fun f g off=>rd H f g off n e fun l=>jf true l e k)=_
      rw[I,dk]
      show rd H (β b) 1 o n e (fun l=>jf true l e k)=_
      rw[G];rfl
     |false=>
      have h:(match(row.drop o).take n with|[v]=>some v|_=>none)=some v:=h
      split at h
      ·rename_i w Z
       cases h
       rw[Z] at z
       simp only[bu] at z
       obtain⟨x,s,hs,hx,rfl⟩:=z
       refine⟨x,hx,fun{e k}=>?_⟩
       show ob (E.get a) e (fun v=>iW v e fun f g off=>rd H f g off n e fun l=>jf false l e k)=_
       rw[I,dk]
       show rd H (β b) 1 o n e (fun l=>jf false l e k)=_
       rw[G,hs];rfl
      cases h
   cases h
  cases h
theorem L2(z:Rel H0 X0 VE B E H β):∀{rs:List ml}{vs:List VV},vI VE B rs=some vs→∃l,bu H (XB X0 B β) β vs l∧∀{e:aH}{k:List ax→aH},vC E H rs e k=k l
 |[],vs,h=>by simp only[vI,ia] at h;subst h;exact⟨[],by simp only[bu],rfl⟩
 |r::rs,vs,h=>by
  simp only[vI,BW,E4] at h
  obtain⟨v,A,s,G,rfl⟩:=h
  obtain⟨a,I,h2⟩:=UY z A
  obtain⟨l,J,K⟩:=L2 z G
  refine⟨a::l,by simp only[bu];exact⟨a,l,rfl,I,J⟩,fun{e k}=>?_⟩
  show Ae E H r e (fun v=>vC E H rs e fun vs=>k (v::vs))=_
  rw[h2,K]
def kQ(rs:List ml)(P:VV→bw→Prop):Ex→cj→bw→Prop
 |.exit _,_,_=>False
 |_,VE,B=>∃vs Bn,vI VE B rs=some vs∧bn Bn B∧P (gX vs) Bn
def Qv(rs:List ml)(P:VV→Prop):Ex→cj→bw→Prop
 |.exit _,_,_=>False
 |_,VE,B=>∃vs,vI VE B rs=some vs∧mL vs∧P (gX vs)
theorem cL{f:Nat}{fn:bH}{args:List VV}{Bi:bw}{P:VV→bw→Prop}(hf:T.ft.get f=some fn)(hl:fn.ps.length=args.length)(h:VC T fn.body (CK fn.ps args []) Bi (kQ fn.res P)):cg T f args Bi P:=by
 intro H0 X H β l h0 z
 have hr:=MN (ks:=fn.ps) h0 z hl
 refine Xd hf (by rw[hl,z.length]) ((h H0 X _ H _ hr).mono fun x E' H' hp=>?_)
 obtain⟨eB,B',β',hw,K,O⟩:=hp
 have key:(∃vs Bn,vI eB B' fn.res=some vs∧bn Bn B'∧P (gX vs) Bn)→∃v,results E' H' fn.res= .ok v H'∧∃r B' β',jg Bi β H (fun _=>True) B' β' H'∧Rel H0 X [] B' .emp H' β'∧aP H' (XB X B' β') β' r v∧P r B':=by
  rintro⟨vs,Bn,k1,U,Y⟩
  have Z:=K.Cg (B':=Bn) fun _ _ hk=>U.get hk
  have G:Rel H0 X [] Bn .emp H' β':={Z with env:=fun _ _ k=>by cases k}
  have I:jg Bi β H (fun _=>True) Bn β' H':=hw.I3 fun b s h1 h2=>⟨s,U.get h1,h2⟩
  obtain⟨l',k4,k5⟩:=L2 K k1
  have kC:i6 H' (XB X B' β') H' (XB X Bn β'):=⟨bR _,fun f _ hx=>⟨fun k=>hx (k.imp id fun⟨c,s,h1,h2⟩=>⟨c,s,U.get h1,h2⟩),rfl⟩⟩
  have J:bu H' (XB X Bn β') β' vs l':=bu.lift kC k4
  have A:results E' H' fn.res=List.rec (motive:=fun _=>aH) (.ok (.tuple []) H') (fun v r _=>List.rec (motive:=fun _=>aH) (.ok v H') (fun _ _ _=>.ok (.tuple (v::r)) H') r) l':=k5
  cases vs with
  |nil=>
   simp only[bu] at J
   subst J
   exact⟨_,A,gX [],Bn,β',I,G,by simp only[gX,aP,bu];exact⟨[],rfl,rfl⟩,Y⟩
  |cons v r=>
   cases r with
   |nil=>
    simp only[bu] at J
    obtain⟨a,s,rfl,k7,rfl⟩:=J
    exact⟨_,A,_,Bn,β',I,G,k7,Y⟩
   |cons w r=>
    have k8:=J
    simp only[bu] at J
    obtain⟨a,s,rfl,k7,a2,s2,rfl,_⟩:=J
    exact⟨_,A,_,Bn,β',I,G,by simp only[gX,aP];exact⟨_,rfl,k8⟩,Y⟩
 cases x with
 |exit id=>exact absurd O (fun h=>h)
 |normal=>exact⟨fun _ h=>(by cases h),key O⟩
 |ret=>exact⟨fun _ h=>(by cases h),key O⟩
theorem No{vs:List VV}(h:mL vs):(gX vs).nb:=by
 cases vs with
 |nil=>simp only[gX,VV.nb,mL]
 |cons v r=>
  cases r with
  |nil=>simp only[mL] at h;exact h.1
  |cons w r=>simpa only[gX,VV.nb] using h
theorem dG{f:Nat}{fn:bH}{args:List VV}{P:VV→Prop}(G:T.ft.get f=some fn)(I:fn.ps.length=args.length)(h:VC T fn.body (CK fn.ps args []) [] (Qv fn.res P)):Sound T f args P:=
 cL G I (h.mono fun x VE B hp=>by
  cases x with
  |exit id=>exact hp
  |normal=>obtain⟨vs,z,h2,A⟩:=hp;exact⟨vs,[],z,trivial,No h2,A⟩
  |ret=>obtain⟨vs,z,h2,A⟩:=hp;exact⟨vs,[],z,trivial,No h2,A⟩)
end
end Go.Ev
