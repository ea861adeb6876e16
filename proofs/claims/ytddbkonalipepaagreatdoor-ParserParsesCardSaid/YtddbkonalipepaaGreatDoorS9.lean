/- Part 9 of rules for walks through the code of a program, and of such walks; what each part proves is said by its theorems. -/
import Derived.Test.YtddbkonalipepaaGreatDoorS8
set_option linter.unusedVariables false
set_option linter.unusedSimpArgs false
namespace Go.Ev
section
variable{T:bf}{H0:Nat→Nat}{X0:Nat→Prop}{VE eb:b0}{B B':br}{E:Env}{H H':az}{β:Nat→Nat}{X:Nat→Prop}
variable{W:List Nat}{Q:VV→br→Prop}
theorem cU.K2:∀{row:List DC}{l:List an}(o n:Nat),cU H X row l→cU H X ((row.drop o).take n) ((l.drop o).take n):=by
 intro row l o n h
 have z:=bk.vw (β:=fun _=>0) h
 have h2:=bk.take n (bk.drop o z)
 rw[←List.map_drop,←List.map_take] at h2
 exact cU.zt h2
theorem mA{a:aF}{row:List DC}{o:Nat}{x:DC}(A:a.vv VE=some (.rp row o))(G:row[o]?=some x)(I:Q (.d x) B):VI T (.load 1 false a) VE B [] Q:=fun _ _ _ _ _ z=>by
 obtain⟨_,J,h2⟩:=z.b9 A
 simp only[aN] at h2
 obtain⟨f,g,Z,l,rfl,K,O,_⟩:=h2
 obtain⟨y,U,Y⟩:=O.get G
 exact Kd J K rfl U (eW z (v:=.d x) (by simp only[aN];exact Y) I)
theorem mc{a:aF}{row:List DC}{o n:Nat}(G:a.vv VE=some (.rp row o))(h0:0<n)(I:o+n≤row.length)(J:Q (.agg (((row.drop o).take n).map .d)) B):VI T (.load n true a) VE B [] Q:=fun _ _ _ _ _ z=>by
 obtain⟨_,K,h2⟩:=z.b9 G
 simp only[aN] at h2
 obtain⟨f,g,U,l,rfl,O,A,_⟩:=h2
 exact Ke K O rfl (by rw[A.length];exact I) h0 (eW z (v:=.agg (((row.drop o).take n).map .d)) (by simp only[aN];exact⟨_,rfl,bk.vw (A.K2 o n)⟩) J)
theorem gV.y7{f elem aQ:Nat}{row:List VV}(h:gV H X β f (.one elem aQ row)):∃l,mf H f 1 0 l∧bk H X β row l:=by
 obtain⟨l,lo,cs,z,h2,A,G⟩:=h
 exact⟨l,⟨elem,aQ,1,lo,0,cs,z,h2,bY _,Nat.zero_lt_one,A⟩,G⟩
theorem cW{a:aF}{b o elem aQ:Nat}{row:List VV}{v:VV}(A:a.vv VE=some (.vp b o))(G:aY B b=some (.one elem aQ row))(I:row[o]?=some v)(J:Q v B):VI T (.load 1 false a) VE B [] Q:=fun _ _ _ _ _ z=>by
 obtain⟨_,K,h2⟩:=z.b9 A
 simp only[aN] at h2
 subst h2
 obtain⟨l,O,U⟩:=(z.box b _ G).y7
 obtain⟨y,Y,Z⟩:=U.get I
 exact Kd K O (by rw[re,jS]) Y (eW z Z J)
theorem qb{a:aF}{b o n elem aQ:Nat}{row:List VV}(G:a.vv VE=some (.vp b o))(I:aY B b=some (.one elem aQ row))(h0:0<n)(J:o+n≤row.length)(K:Q (.agg ((row.drop o).take n)) B):VI T (.load n true a) VE B [] Q:=fun _ _ _ _ _ z=>by
 obtain⟨_,O,h2⟩:=z.b9 G
 simp only[aN] at h2
 subst h2
 obtain⟨l,U,A⟩:=(z.box b _ I).y7
 exact Ke O U (by rw[re,jS]) (by rw[A.length];exact J) h0 (eW z (v:=.agg ((row.drop o).take n)) (by simp only[aN];exact⟨_,rfl,bk.take n (bk.drop o A)⟩) K)
theorem FV{v:VV}{a:an}{b:Nat}{s:BS}(O:Rel H0 X0 VE B E H β)(U:n4 b VE=true)(Y:n5 b B=true)(Z:H'.next=H.next+1)(I:∀f,f<H.next→H'.t.get f=H.t.get f)(J:H'.bc=H.bc)(hw:H'.ws=H.ws)
  (z:∀X β',(∀v a,v.no b=true→aN H (XB X0 B β) β v a→aN H' X β' v a)→(∀row l,cU H (XB X0 B β) row l→cU H' X row l)→gV H' X β' H.next s)
  (hv:∀X β',β' b=H.next→aN H' X β' v a) (hq:Q v ((b,s)::B)):xT H0 X0 VE B β E H W Q a H':=by
 obtain⟨β',⟨K,h3⟩,h2,_⟩:=O.UX U Y Z I J z
 refine⟨v,_,β',⟨J,by omega,fun f A=>.inl (hw▸A),fun c t G ht=>?_,fun f A _=>I f A⟩,h2,hv _ _ K,hq⟩
 rw[ef] at G
 by_cases e:b=c
 ·subst e;exact .inr (by rw[K];exact bY _)
 rw[aj e] at G
 exact .inl ⟨t,G,ht,h3 c fun k=>e k.symm⟩
theorem RR{b:Nat}{v:VV}{l:List VV}(h:v.no b=true)(z:v.cells=some l):o8 b l=true:=by
 cases v
 case k x=>
  cases x<;>simp only[VV.cells,gO,reduceCtorEq] at z
  all_goals subst z
  all_goals rfl
 all_goals simp only[VV.cells,gO,reduceCtorEq] at z
 all_goals subst z
 all_goals simp_all [o8,VV.no]
theorem K3{b:Nat}{H1 G:az}{I J:Nat→Prop}{z A:Nat→Nat}(h:∀v a,v.no b=true→aN H1 I z v a→aN G J A v a):∀{l:List VV}{s:List an},o8 b l=true→bk H1 I z l s→bk G J A l s
 |[],_,_,k=>by simp only[bk] at k⊢;exact k
 |v::r,_,n,k=>by
  simp only[bk,o8,fv] at k n⊢
  obtain⟨a,s,e,K,h2⟩:=k
  exact⟨a,s,e,h v a n.1 K,K3 h n.2 h2⟩
theorem FJ{H1 G:az}{I J:Nat→Prop}{z A:Nat→Nat}(h:∀v a,aN H1 I z v a→aN G J A v a):∀{l:List VV}{s:List an},bk H1 I z l s→bk G J A l s
 |[],_,k=>by simp only[bk] at k⊢;exact k
 |v::r,_,k=>by
  simp only[bk] at k⊢
  obtain⟨a,s,e,K,h2⟩:=k
  exact⟨a,s,e,h v a K,FJ h h2⟩
theorem UZ{x:aF}{v:VV}{b:Nat}(A:n4 b VE=true)(z:x.vv VE=some v):v.no b=true:=by
 cases x with
 |t k=>exact Ci A z
 |c a=>exact RQ z b
theorem U0{elem es aQ:Nat}{x:aF}{v:VV}{cells:List VV}(b:Nat)(z:n4 b VE=true)(K:n5 b B=true)(A:x.vv VE=some v)(G:v.cells=some cells)(O:cells.length=es)(U:Q (.vp b 0) ((b,.one elem aQ cells)::B)):VI T (.box elem es aQ x) VE B [] Q:=fun _ _ _ H _ I=>by
 obtain⟨a,Y,h2⟩:=I.b9 A
 obtain⟨s,Z,J⟩:=h2.cells G
 refine TC Y Z (by rw[J.length,O]) (FV (b:=b) (s:=.one elem aQ cells) I z K rfl (fun f hf=>(Kf elem aQ s).same f hf) rfl rfl (fun X β' k1 _=>?_) (fun X β' k=>by simp only[aN];rw[k]) U)
 obtain⟨e',b',lo,cs,j1,j2,j3⟩:=TB (H:=H) elem aQ s
 refine⟨s,1,.one s,?_,bY _,rfl,K3 k1 (RR (UZ z A) G) J⟩
 show(H.t.set H.next _).get H.next=_
 rw[GT.eO,aq rfl]
def qQ:List an→Option (List VV)
 |[]=>some []
 |a::r=>(r7 a).bind fun v=>(qQ r).map (v:: ·)
theorem BD:∀{l:List an}{cells:List VV},qQ l=some cells→bk H X β cells l
 |[],cells,h=>by simp only[qQ,gO] at h;subst h;simp only[bk]
 |a::r,cells,h=>by
  simp only[qQ,z6,CS] at h
  obtain⟨v,z,s,A,rfl⟩:=h
  simp only[bk]
  exact⟨a,r,rfl,FI z,BD A⟩
theorem TK{elem es aQ:Nat}{l:List an}{cells:List VV}(b:Nat)(z:n4 b VE=true)(A:n5 b B=true)(G:qQ l=some cells)(I:l.length=es)(J:Q (.vp b 0) ((b,.one elem aQ cells)::B)):VI T (.ca elem es aQ l) VE B [] Q:=fun _ _ _ H _ K=>by
 refine Sz I (FV (b:=b) (s:=.one elem aQ cells) K z A rfl (fun f O=>(Kf elem aQ l).same f O) rfl rfl (fun X β' _ _=>?_) (fun X β' k=>by simp only[aN];rw[k]) J)
 refine⟨l,1,.one l,?_,bY _,rfl,BD G⟩
 show(H.t.set H.next _).get H.next=_
 rw[GT.eO,aq rfl]
def Ck(l:List VV)(r:Nat)(new:List VV):List VV:=l.take r++(new++l.drop (r+new.length))
theorem bk.gY{l new:List VV}{s t:List an}(r:Nat)(h:bk H X β l s)(k:bk H X β new t):bk H X β (Ck l r new) (gY s r t):=by
 unfold Ck Ev.gY
 rw[←k.length]
 exact(h.take r).append (k.append (h.drop _))
def xp(VE:b0):List (Nat×Nat×aF)→List VV→Option (List VV)
 |[],cells=>some cells
 |p::r,cells=>(p.2.2.vv VE).bind fun v=>v.cells.bind fun new=>bif Nat.beq new.length p.2.1 then xp VE r (Ck cells p.1 new) else none
theorem JO(A:Rel H0 X0 VE B E H β):∀{ps:List (Nat×Nat×aF)}{cells:List VV}{s:List an}{out:List VV},bk H (XB X0 B β) β cells s→xp VE ps cells=some out→∃t,pD E ps s=some t∧bk H (XB X0 B β) β out t
 |[],cells,s,out,h,z=>by simp only[xp,gO] at z;subst z;exact⟨s,rfl,h⟩
 |p::r,cells,s,out,h,z=>by
  simp only[xp,z6] at z
  obtain⟨v,I,new,J,z⟩:=z
  obtain⟨a,K,h2⟩:=A.b9 I
  obtain⟨t,O,G⟩:=h2.cells J
  cases he:Nat.beq new.length p.2.1 with
  |false=>rw[he] at z;cases z
  |true=>
   rw[he] at z
   obtain⟨u,U,Y⟩:=JO A (h.gY p.1 G) z
   refine⟨u,?_,Y⟩
   show ob (p.2.2.ev E) none (fun v=>ob (jK v) none fun new=>aH (Nat.beq (jg new) p.2.1) (pD E r (Ev.gY s p.1 new)) none)=some u
   rw[K,df,O,df,oq,G.length,he,fV,U]
theorem SG{zero:List an}{ps:List (Nat×Nat×aF)}{z out:List VV}(G:qQ zero=some z)(I:xp VE ps z=some out)(J:Q (.agg out) B):VI T (.build zero ps) VE B [] Q:=fun _ _ _ _ _ A=>by
 obtain⟨t,K,h2⟩:=JO A (BD G) I
 exact RM K (eW A (v:=.agg out) (by simp only[aN];exact⟨t,rfl,h2⟩) J)
def EH(row:List VV)(o:Nat)(new:List VV):List VV:=bif Nat.beq new.length row.length then new else Ck row o new
theorem bk.bif{t0:Bool}{a b:List VV}{s t:List an}(h:bk H X β a s)(k:bk H X β b t):bk H X β (bif t0 then a else b) (bif t0 then s else t):=by
 cases t0
 ·exact k
 exact h
theorem V0{f q o n m elem es aQ lo:Nat}{l new:List an}{cs:RT}{e:aD}{K:az→aD}(z:H.t.get f=some (.row elem es aQ m lo 0 cs))(h2:lo≤m)(G:q<m)(I:cs.get q=some l)(O:l.length=es)(J:new.length=n)(h0:0<n)(hk:o+n≤es):
  wr H f m (q*es+o) n new e K=K ⟨H.next,H.bc,wrote f H.bc H.ws,H.t.set f (.row elem es aQ m m 0 (cs.set q (bif Nat.beq n es then new else gY l o new)))⟩:=by
 cases H with
 |mk next bc ws t=>
  have z:t.get f=some (.row elem es aQ m lo 0 cs):=z
  have e1:(q*es+o)/es=q:=by
   by_cases ho:o=es
   ·omega
   rw[mI,Nat.mul_add_div (by omega),MP (by omega)];rfl
  have e2:(q*es+o) % es=o:=by
   by_cases ho:o=es
   ·omega
   rw[mI,Nat.mul_add_mod,Aw (by omega)]
  show iU (t.get f) e (fun elem gR aQ A lo fl cs=>
    aH (Nat.beq fl 0) (aH (Nat.beq m A) (aH (Nat.ble lo m) (aH (Nat.ble (Nat.add (Nat.mod (q*es+o) gR) n) gR) (aH (Nat.ble (Nat.succ (Nat.div (q*es+o) gR)) m) (aH (Nat.beq (jg new) n)
     (ob (cs.get (Nat.div (q*es+o) gR)) e fun l=>cs.gr (Nat.div (q*es+o) gR) (aH (Nat.beq n gR) new (gY l (Nat.mod (q*es+o) gR) new)) fun cs=>t.gr f (.row elem gR aQ A A 0 cs) fun t=>K ⟨next,bc,wrote f bc ws,t⟩) e) e) e) e) e) e)=_
  rw[z]
  show aH (Nat.beq 0 0) (aH (Nat.beq m m) (aH (Nat.ble lo m) (aH (Nat.ble (Nat.add (Nat.mod (q*es+o) es) n) es) (aH (Nat.ble (Nat.succ (Nat.div (q*es+o) es)) m) (aH (Nat.beq (jg new) n)
     (ob (cs.get (Nat.div (q*es+o) es)) e fun l=>cs.gr (Nat.div (q*es+o) es) (aH (Nat.beq n es) new (gY l (Nat.mod (q*es+o) es) new)) fun cs=>t.gr f (.row elem es aQ m m 0 cs) fun t=>K ⟨next,bc,wrote f bc ws,t⟩) e) e) e) e) e) e=_
  rw[show Nat.mod (q*es+o) es=o from e2,show Nat.div (q*es+o) es=q from e1,show Nat.beq 0 0=true from rfl,fV,show Nat.beq m m=true from iZ m,fV,jA h2,fV,
   show Nat.ble (Nat.add o n) es=true from jA hk,fV,show Nat.ble (Nat.succ q) m=true from jA G,fV,oq,J,show Nat.beq n n=true from iZ n,fV,I,df,RT.j6,GT.j6]
  cases Nat.beq n es<;>rfl
theorem SH{call:eC}{n f g o:Nat}{a x:aF}{v:an}{new:List an}(z:a.ev E=some (.ptr f g o))(A:x.ev E=some v)(G:jK v=some new):
  (bE.store n a x).ev call E H=wr H f g o n new (.err 5) fun H=>.ok .undef H:=by
 show bA a E (.err 5) (fun p=>iv p (.err 5) fun f g off=>bA x E (.err 5) fun v=>ob (jK v) (.err 5) fun l=>wr H f g off n l (.err 5) fun H=>.ok .undef H)=_
 rw[dm,z,df]
 show bA x E (.err 5) (fun v=>ob (jK v) (.err 5) fun l=>wr H f g o n l (.err 5) fun H=>.ok .undef H)=_
 rw[dm,A,df,G,df]
theorem BP{v:VV}{a:an}{b:Nat}{s s':BS}(K:Rel H0 X0 VE B E H β)(U:aY B b=some s)(A:s.born)(hn:H'.next=H.next)(hs:∀f,f≠β b→H'.t.get f=H.t.get f)(hm:H'.bc=H.bc)(hw:H'.ws=wrote (β b) H.bc H.ws)
  (HU:∀X,(∀v a,aN H (XB X0 B β) β v a→aN H' X β v a)→(∀row l,cU H (XB X0 B β) row l→cU H' X row l)→gV H' X β (β b) s')
  (hv:∀X,aN H' X β v a) (hq:Q v ((b,s')::B)):xT H0 X0 VE B β E H [b] Q a H':=by
 have wg:=K.new b s U A
 have z:∀c t,aY ((b,s')::B) c=some t→(c=b∧t=s')∨(c≠b∧aY B c=some t):=fun c t G=>by
  rw[ef] at G
  by_cases e:b=c
  ·rw[aq e] at G;cases G;exact .inl ⟨e.symm,rfl⟩
  rw[aj e] at G;exact .inr ⟨fun k=>e k.symm,G⟩
 have hX:∀f,XB X0 ((b,s')::B) β f→XB X0 B β f:=fun f hx=>by
  rcases hx with k|⟨c,t,Y,ho,h2⟩
  ·exact .inl k
  rcases z c t Y with⟨rfl,_⟩|⟨_,O⟩
  ·exact .inr ⟨_,s,U,A,h2⟩
  exact .inr ⟨c,t,O,ho,h2⟩
 have hl:iB H (XB X0 B β) H' (XB X0 ((b,s')::B) β):=⟨by omega,fun f I hx=>⟨fun k=>hx (hX f k),hs f fun e=>hx (.inr ⟨b,s,U,A,e.symm⟩)⟩⟩
 refine⟨v,(b,s')::B,β,⟨hm,by omega,fun f I=>?_,fun c t G ht=>?_,fun f I yI=>hs f fun e=>yI b s U A e.symm⟩,⟨K.n6,by rw[hm,hn];exact K.bc,(fun f I=>by rw[hn];exact K.x0 f I),fun c t G J=>?_,fun c e t u G he J Pl Z=>?_,fun k w hk=>?_,fun c t G=>?_⟩,hv _,hq⟩
 ·rw[hw] at I
  unfold wrote at I
  cases Y:Nat.ble H.bc (β b) with
  |true=>rw[Y] at I;exact .inl I
  |false=>
   rw[Y] at I
   cases h2:pV (β b) H.ws with
   |true=>rw[h2] at I;exact .inl I
   |false=>
    rw[h2] at I
    rcases List.mem_cons.1 I with rfl|h
    ·refine .inr ⟨?_,b,s,lF ..,U,A,rfl⟩
     by_cases hl:H.bc≤β b
     ·rw[jA hl] at Y;cases Y
     omega
    exact .inl h
 ·rcases z c t G with⟨rfl,_⟩|⟨_,O⟩
  ·exact .inl ⟨s,U,A,rfl⟩
  exact .inl ⟨t,O,ht,rfl⟩
 ·rw[hn]
  rcases z c t G with⟨rfl,_⟩|⟨_,O⟩
  ·exact wg
  exact K.new c t O J
 ·rcases z c t G with⟨rfl,_⟩|⟨_,O⟩<;>rcases z e u he with⟨rfl,_⟩|⟨_,h4⟩
  ·rfl
  ·exact K.inj _ _ _ _ U h4 A Pl Z
  ·exact K.inj _ _ _ _ O U J A Z
  exact K.inj _ _ _ _ O h4 J Pl Z
 ·obtain⟨a,Y,h2⟩:=K.env k w hk
  exact⟨a,Y,h2.lift hl⟩
 rcases z c t G with⟨rfl,rfl⟩|⟨hcb,O⟩
 ·exact HU _ (fun v a k=>k.lift hl) (fun row l k=>k.lift hl)
 exact gV.vV hl (fun J=>hs _ fun e=>hcb (K.inj c b t s O U J A e)) (K.box c t O)
theorem Kh{n:Nat}{a x:aF}{b o elem aQ:Nat}{row new:List VV}{v:VV}(ha:a.vv VE=some (.vp b o))(I:aY B b=some (.one elem aQ row))(hx:x.vv VE=some v)(hv:v.cells=some new)(J:new.length=n)(h0:0<n)(hk:o+n≤row.length)(hq:Q .undef ((b,.one elem aQ (EH row o new))::B)):VI T (.store n a x) VE B [b] Q:=fun _ X0 _ H β z=>by
 obtain⟨_,h1,h2⟩:=z.b9 ha
 simp only[aN] at h2
 subst h2
 obtain⟨y,h3,h4⟩:=z.b9 hx
 obtain⟨t,h5,O⟩:=h4.cells hv
 obtain⟨l,lo,cs,k1,k2,k3,U⟩:=z.box b _ I
 have ht:t.length=n:=by rw[O.length,J]
 have A:=U.length
 have e:=fun K=>V0 (e:=aD.err 5) (K:=K) (q:=0) (o:=o) (n:=n) (new:=t) k1 k2 Nat.zero_lt_one k3 rfl ht h0 (by omega)
 simp only[re,jS] at e
 refine⟨0,.undef,_,fun lf m _ _=>by rw[SH h1 h3 h5,e],?_⟩
 refine BP z I trivial rfl (fun f hf=>?_) rfl rfl (fun X Y j2=>?_) (fun X=>by simp only[aN]) hq
 ·show(H.t.set (β b) _).get f=_
  rw[GT.eO,aj hf]
 have hlen:(bif Nat.beq n l.length then t else gY l o t).length=l.length:=by
  cases G:Nat.beq n l.length with
  |true=>have:=d8 G;show t.length=_;omega
  |false=>show(gY l o t).length=_;simp only[gY,bJ,ng,iL];omega
 refine⟨bif Nat.beq n l.length then t else gY l o t,1,cs.set 0 (bif Nat.beq n l.length then t else gY l o t),?_,bY _,by rw[RT.eO,aq rfl],?_⟩
 ·show(H.t.set (β b) _).get (β b)=_
  rw[GT.eO,aq rfl,hlen]
 have Z:=FJ Y O
 have h8:=FJ Y U
 unfold EH
 rw[J,←A]
 exact bk.bif Z (h8.gY o Z)
end
mutual
def VV.zero(b:Nat):VV→Bool
 |.d _=>true
 |.agg l=>vW b l
 |.tuple l=>vW b l
 |.vp c _=>!Nat.beq c b
 |.bp c _ _ _ _=>!Nat.beq c b
 |.rp _ _=>true
 |.bs c _ _=>!Nat.beq c b
 |.ac c n _=>!Nat.beq c b||Nat.beq n 0
 |.fn _ eD=>vW b eD
 |.k _=>true
 |.jq=>true
 |.undef=>true
def vW(b:Nat):List VV→Bool
 |[]=>true
 |v::r=>v.zero b&&vW b r
end
def BS.zero(b:Nat):BS→Bool
 |.one _ _ row=>vW b row
 |_=>true
def xU(b:Nat):b0→Bool
 |[]=>true
 |(_,v)::r=>v.zero b&&xU b r
def sd(b:Nat):br→Bool
 |[]=>!lH b
 |(_,s)::r=>s.zero b&&sd b r
theorem JP{b:Nat}:∀{B:br},sd b B=true→lH b=false
 |[],h=>by simpa[sd] using h
 |(_,_)::r,h=>by
  simp only[sd,fv] at h
  exact JP h.2
section
variable{T:bf}{H0:Nat→Nat}{X0:Nat→Prop}{VE eb:b0}{B B':br}{E:Env}{H H':az}{β:Nat→Nat}{X:Nat→Prop}
variable{W:List Nat}{Q:VV→br→Prop}
mutual
theorem aN.zero{b f:Nat}:∀{v:VV}{a:an},v.zero b=true→aN H X β v a→aN H X (fun c=>if c=b then f else β c) v a
 |.d x,_,_,h=>by simp only[aN] at h⊢;exact h
 |.agg l,_,n,h=>by
  simp only[aN,VV.zero] at h n⊢
  obtain⟨cs,e,h⟩:=h
  exact⟨cs,e,bk.zero n h⟩
 |.tuple l,_,n,h=>by
  simp only[aN,VV.zero] at h n⊢
  obtain⟨cs,e,h⟩:=h
  exact⟨cs,e,bk.zero n h⟩
 |.vp c off,_,n,h=>by simp only[aN,VV.zero] at h n⊢;rw[aj (oy n)];exact h
 |.bp c g q off es,_,n,h=>by simp only[aN,VV.zero] at h n⊢;rw[aj (oy n)];exact h
 |.rp row off,_,_,h=>by simp only[aN] at h⊢;exact h
 |.bs c m es,_,n,h=>by simp only[aN,VV.zero] at h n⊢;rw[aj (oy n)];exact h
 |.ac c m es,_,n,h=>by
  simp only[aN,VV.zero,uI] at h n⊢
  rcases n with n|n
  ·rw[aj (oy n)];exact h
  have:=d8 n
  exact h.imp id fun k=>by omega
 |.fn f eD,_,n,h=>by
  simp only[aN,VV.zero] at h n⊢
  obtain⟨cs,e,h⟩:=h
  exact⟨cs,e,bk.zero n h⟩
 |.k x,_,_,h=>by simp only[aN] at h⊢;exact h
 |.jq,_,_,h=>by simp only[aN] at h⊢;exact h
 |.undef,_,_,_=>by simp only[aN]
theorem bk.zero{b f:Nat}:∀{l:List VV}{s:List an},vW b l=true→bk H X β l s→bk H X (fun c=>if c=b then f else β c) l s
 |[],_,_,h=>by simp only[bk] at h⊢;exact h
 |v::r,_,n,h=>by
  simp only[bk,vW,fv] at h n⊢
  obtain⟨a,s,e,z,h2⟩:=h
  exact⟨a,s,e,aN.zero n.1 z,bk.zero n.2 h2⟩
end
theorem Ki{b:Nat}:∀{VE:b0},xU b VE=true→∀{k:Nat}{v:VV},aY VE k=some v→v.zero b=true
 |[],_,_,_,h=>by cases h
 |(i,w)::r,z,k,v,h=>by
  simp only[xU,fv] at z
  rw[ef] at h
  by_cases e:i=k
  ·rw[aq e] at h;cases h;exact z.1
  rw[aj e] at h;exact Ki z.2 h
theorem Kj{b:Nat}:∀{B:br},sd b B=true→∀{c:Nat}{s:BS},aY B c=some s→s.zero b=true
 |[],_,_,_,h=>by cases h
 |(i,w)::r,z,c,s,h=>by
  simp only[sd,fv] at z
  rw[ef] at h
  by_cases e:i=c
  ·rw[aq e] at h;cases h;exact z.1
  rw[aj e] at h;exact Kj z.2 h
theorem Rel.ghost(h:Rel H0 X0 VE B E H β){b k:Nat}(elem aQ es:Nat)(hk:aY VE k=some (.d .nil))(Z:aY B b=none):Rel H0 X0 ((k,.ac b 0 es)::VE) ((b,.acc elem aQ es [])::B) E H β:=by
 have I:∀c s,aY ((b,BS.acc elem aQ es [])::B) c=some s→s.born→aY B c=some s:=fun c s z ho=>by
  rw[ef] at z
  by_cases e:b=c
  ·rw[aq e] at z;cases z;exact absurd rfl ho
  rw[aj e] at z;exact z
 have Y:∀f,XB X0 ((b,BS.acc elem aQ es [])::B) β f→XB X0 B β f:=fun f J=>J.imp id fun⟨c,s,A,ho,h2⟩=>⟨c,s,I c s A ho,ho,h2⟩
 have K:iB H (XB X0 B β) H (XB X0 ((b,BS.acc elem aQ es [])::B) β):=⟨bY _,fun f _ J=>⟨fun k=>J (Y f k),rfl⟩⟩
 refine⟨h.n6,h.bc,h.x0,fun c s z ho=>h.new c s (I c s z ho) ho,fun c e s t z he O U=>h.inj c e s t (I c s z O) (I e t he U) O U,fun j w G=>?_,fun c s z=>?_⟩
 ·rw[ef] at G
  by_cases e:k=j.n
  ·rw[aq e] at G
   cases G
   obtain⟨a,A,h2⟩:=h.env j _ (e▸hk)
   simp only[aN,cM] at h2
   exact⟨a,A,by simp only[aN];exact .inl ⟨trivial,h2⟩⟩
  rw[aj e] at G
  obtain⟨a,A,h2⟩:=h.env j w G
  exact⟨a,A,h2.lift K⟩
 rw[ef] at z
 by_cases e:b=c
 ·rw[aq e] at z;cases z;exact .inl rfl
 rw[aj e] at z;exact(h.box c s z).lift K rfl
theorem BI{b elem aQ es:Nat}:∀c s,aY ((b,BS.acc elem aQ es [])::B) c=some s→s.born→∃t,aY B c=some t∧t.born:=fun c s z ho=>by
 rw[ef] at z
 by_cases e:b=c
 ·rw[aq e] at z;cases z;exact absurd rfl ho
 rw[aj e] at z;exact⟨s,z,ho⟩
theorem SI{ops:List bo}{Q:b0→br→Prop}(k b elem aQ es:Nat)(hk:aY VE k=some (.d .nil))(z:aY B b=none)(h:VO T ops ((k,.ac b 0 es)::VE) ((b,.acc elem aQ es [])::B) Q):VO T ops VE B Q:=
 fun H0 X0 E H β A=>(h H0 X0 E H β (A.ghost elem aQ es hk z)).mono fun _ _ hp=>hp.more BI
theorem K4{c:IC}{R:Ex→b0→br→Prop}(k b elem aQ es:Nat)(hk:aY VE k=some (.d .nil))(z:aY B b=none)(h:VC T c ((k,.ac b 0 es)::VE) ((b,.acc elem aQ es [])::B) R):VC T c VE B R:=
 fun H0 X0 E H β A=>(h H0 X0 E H β (A.ghost elem aQ es hk z)).mono fun _ _ _ hp=>hp.more BI
def ki(H:az)(X:Nat→Prop)(es:Nat):List (List an)→List (List DC)→Prop
 |[],[]=>True
 |l::ls,r::rs=>(l.length=es∧cU H X r l)∧ki H X es ls rs
 |_,_=>False
theorem ki.length{es:Nat}:∀{ls:List (List an)}{rs:List (List DC)},ki H X es ls rs→ls.length=rs.length
 |[],[],_=>rfl
 |l::ls,r::rs,h=>by simp only[ki] at h;simp[ki.length h.2]
 |[],_::_,h=>by simp[ki] at h
 |_::_,[],h=>by simp[ki] at h
theorem ki.get{es:Nat}:∀{ls:List (List an)}{rs:List (List DC)},ki H X es ls rs→∀{i:Nat}{r:List DC},rs[i]?=some r→∃l,ls[i]?=some l∧l.length=es∧cU H X r l
 |[],[],_,i,r,h=>by simp at h
 |l::ls,r::rs,z,i,x,h=>by
  simp only[ki] at z
  cases i with
  |zero=>simp at h;subst h;exact⟨l,rfl,z.1⟩
  |succ i=>simpa using ki.get z.2 (i:=i) (r:=x) (by simpa using h)
 |[],_::_,h,_,_,_=>by simp[ki] at h
 |_::_,[],h,_,_,_=>by simp[ki] at h
theorem gL.elems{f g es:Nat}(h0:0<es):∀{rows:List (List DC)}{q:Nat},gL H X f g es q rows→∃ls,elems H f g es rows.length (q*es)=some ls∧ki H X es ls rows
 |[],_,_=>⟨[],rfl,trivial⟩
 |row::r,q,h=>by
  simp only[gL] at h
  obtain⟨⟨l,z,h2,A⟩,G⟩:=h
  obtain⟨ls,I,J⟩:=gL.elems h0 G
  refine⟨l::ls,?_,by simp only[ki];exact⟨⟨h2,A⟩,J⟩⟩
  show rd H f g (q*es) es none (fun l=>ob (Ev.elems H f g es r.length (Nat.add (q*es) es)) none fun r=>some (l::r))=_
  have:=D7 (k:=0) (n:=es) (e:=(none:Option (List (List an)))) (c:=fun l=>ob (Ev.elems H f g es r.length (Nat.add (q*es) es)) none fun r=>some (l::r)) z (by omega) h0
  rw[ye,h2] at this
  rw[this,List.drop_zero,qq (by omega)]
  rw[show Nat.add (q*es) es=(q+1)*es by rw[nM,sj];rfl,I]
  rfl
inductive YR(B:br)(es:Nat):VV→List (List DC)→Prop
 |nil:YR B es (.d .nil) []
 |sl {rows:List (List DC)} (h:∀row,row∈rows→row.length=es):YR B es (.d (.sl rows)) rows
 |bs {b elem aQ lo gR:Nat} {rows:List (List DC)} (h:aY B b=some (.arr elem aQ es lo rows)):YR B es (.bs b rows.length gR) rows
 |ac {b elem aQ gR:Nat} {rows:List (List DC)} (h:aY B b=some (.acc elem aQ es rows)):YR B es (.ac b rows.length gR) rows
theorem YR.elems(K:Rel H0 X0 VE B E H β){es:Nat}{v:VV}{rows:List (List DC)}(U:YR B es v rows)(h0:0<es){a:an}(A:aN H (XB X0 B β) β v a):
  (a= .cb∧rows=[])∨∃f g off e ls,a= .slice f g off rows.length e∧Ev.elems H f g es rows.length off=some ls∧ki H (XB X0 B β) es ls rows:=by
 cases U with
 |nil=>simp only[aN,cM] at A;exact .inl ⟨A,rfl⟩
 |sl h=>
  simp only[aN,cM] at A
  obtain⟨f,g,off,gR,rfl,A⟩:=A
  refine .inr ⟨f,g,off,gR,?_⟩
  rcases A with rfl|⟨_,_,q,ho,G⟩
  ·exact⟨[],rfl,rfl,trivial⟩
  cases rows with
  |nil=>exact⟨[],rfl,rfl,trivial⟩
  |cons row r=>
   have he:gR=es:=by
    simp only[gL] at G
    obtain⟨⟨l,_,h2,I⟩,_⟩:=G
    rw[←h2,I.length,h row (lF ..)]
   subst he
   obtain⟨ls,z,h2⟩:=G.elems h0
   exact⟨ls,rfl,by rw[ho];exact z,h2⟩
 | @bs b elem aQ lo gR rows h=>
  simp only[aN] at A
  subst A
  have hk:=K.box b _ h
  refine .inr ⟨β b,rows.length,0,gR,?_⟩
  have:gL H (XB X0 B β) (β b) rows.length es 0 rows:=gL.qT fun i row hi=>by
   have J:lo≤rows.length:=by obtain⟨_,_,_,_,h,_⟩:=hk;exact h
   obtain⟨l,z,h2,I⟩:=hk.cells (g:=rows.length) J (bY _) (List.getElem?_eq_some_iff.1 hi).1 hi
   exact⟨l,by rw[jS];exact z,h2,I⟩
  obtain⟨ls,z,h2⟩:=this.elems h0
  rw[re] at z
  exact⟨ls,rfl,z,h2⟩
 | @ac b elem aQ gR rows h=>
  simp only[aN] at A
  rcases A with⟨z,rfl⟩|⟨_,rfl⟩
  ·exact .inl ⟨rfl,List.length_eq_zero_iff.1 z⟩
  refine .inr ⟨β b,rows.length,0,gR,?_⟩
  have hk:=K.box b _ h
  have:gL H (XB X0 B β) (β b) rows.length es 0 rows:=gL.qT fun i row hi=>by
   rcases hk with rfl|⟨lo,cs,Y,Z,k3⟩
   ·simp at hi
   obtain⟨l,j1,O,j3⟩:=k3 i row hi
   exact⟨l,⟨elem,aQ,rows.length,lo,0,cs,by rw[O];exact Y,Z,bY _,by rw[jS];exact(List.getElem?_eq_some_iff.1 hi).1,by rw[jS];exact j1⟩,O,j3⟩
  obtain⟨ls,z,h2⟩:=this.elems h0
  rw[re] at z
  exact⟨ls,rfl,z,h2⟩
theorem GN{call:eC}{elem es aQ:Nat}{x y:aF}{a b:an}{n:Nat}{ls:List (List an)}(z:x.ev E=some a)(A:y.ev E=some b)
  (h:(b= .cb∧n=0∧ls=[])∨∃f g off e,b= .slice f g off n e∧Ev.elems H f g es n off=some ls):(bE.app elem es aQ x y).ev call E H=jU elem es aQ n ls H a:=by
 show bA x E (.err 26) (fun a=>bA y E (.err 26) fun b=>gU b (.err 26) (jU elem es aQ 0 [] H a) fun f g off n _=>
  ob (Ev.elems H f g es n off) (.err 26) fun l=>jU elem es aQ n l H a)=_
 rw[dm,z,df]
 show bA y E (.err 26) (fun b=>gU b (.err 26) (jU elem es aQ 0 [] H a) fun f g off n _=>
  ob (Ev.elems H f g es n off) (.err 26) fun l=>jU elem es aQ n l H a)=_
 rw[dm,A,df]
 rcases h with⟨rfl,rfl,rfl⟩|⟨f,g,off,e,rfl,h⟩
 ·rfl
 show ob (Ev.elems H f g es n off) (.err 26) (fun l=>jU elem es aQ n l H a)=_
 rw[h,df]
theorem BQ{ls:List (List an)}{cs:RT}{m q:Nat}:(ju ls cs m).get q=if m≤q∧q<m+ls.length then ls[q-m]?else cs.get q:=s8 ls cs m q
theorem Rel.NV(h:Rel H0 X0 VE B E H β){b:Nat}(hE:xU b VE=true)(hB:sd b B=true)(hb:∀s,aY B b=some s→¬s.born)(hn:H'.next=H.next+1)(hs:∀f,f<H.next→H'.t.get f=H.t.get f)(hm:H'.bc=H.bc){s:BS}
  (Z:∀X β',(∀row l,cU H (XB X0 B β) row l→cU H' X row l)→gV H' X β' H.next s):
  ∃β',(β' b=H.next∧∀c,c≠b→β' c=β c)∧Rel H0 X0 VE ((b,s)::B) E H' β':=by
 let β':Nat→Nat:=fun c=>if c=b then H.next else β c
 have I:β' b=H.next:=aq rfl
 have z:∀c,c≠b→β' c=β c:=fun c A=>aj A
 have hg:∀c t,aY ((b,s)::B) c=some t→(c=b∧t=s)∨(c≠b∧aY B c=some t∧t.zero b=true):=fun c t A=>by
  rw[ef] at A
  by_cases e:b=c
  ·rw[aq e] at A;cases A;exact .inl ⟨e.symm,rfl⟩
  rw[aj e] at A
  exact .inr ⟨fun k=>e k.symm,A,Kj hB A⟩
 have hl:iB H (XB X0 B β) H' (XB X0 ((b,s)::B) β'):=⟨by omega,fun f hf hx=>⟨fun k=>by
  rcases k with k|⟨c,t,h1,ho,h2⟩
  ·exact hx (.inl k)
  rcases hg c t h1 with⟨rfl,rfl⟩|⟨A,O,_⟩
  ·rw[I] at h2;omega
  exact hx (.inr ⟨c,t,O,ho,by rw[←h2,z c A]⟩),hs f hf⟩⟩
 have A:∀row l,cU H (XB X0 B β) row l→cU H' (XB X0 ((b,s)::B) β') row l:=fun row l hr=>hr.lift hl
 refine⟨β',⟨I,z⟩,⟨(fun c A=>(z c fun e=>by rw[e,JP hB] at A;cases A).trans (h.n6 c A)),by have:=h.bc;omega,(fun f hf=>by have:=h.x0 f hf;omega),fun c t K U=>?_,fun c e t u K Iz U Bf Y=>?_,fun k v hk=>?_,fun c t K=>?_⟩⟩
 ·rcases hg c t K with⟨rfl,rfl⟩|⟨J,O,_⟩
  ·rw[I];exact⟨(fun hx=>by have:=h.x0 _ hx;omega),by omega⟩
  rw[z c J];have:=h.new c t O U;exact⟨this.1,by omega⟩
 ·rcases hg c t K with⟨rfl,rfl⟩|⟨J,O,_⟩<;>rcases hg e u Iz with⟨rfl,rfl⟩|⟨Bg,h4,_⟩
  ·rfl
  ·rw[I,z e Bg] at Y;have:=h.new e u h4 Bf;omega
  ·rw[I,z c J] at Y;have:=h.new c t O U;omega
  rw[z c J,z e Bg] at Y;exact h.inj c e t u O h4 U Bf Y
 ·obtain⟨a,h1,h2⟩:=h.env k v hk
  exact⟨a,h1,(aN.zero (Ki hE hk) h2).lift hl⟩
 rcases hg c t K with⟨rfl,rfl⟩|⟨J,O,hno⟩
 ·rw[I];exact Z _ _ A
 rw[z c J]
 have ho:=h.box c t O
 have G:t.born→H'.t.get (β c)=H.t.get (β c):=fun ho=>hs _ (h.new c t O ho).2
 cases t with
 |one elem aQ row=>
  obtain⟨l,lo,cs,k1,k2,k3,k4⟩:=ho
  exact⟨l,lo,cs,(G trivial).trans k1,k2,k3,(bk.zero hno k4).lift hl⟩
 |arr elem aQ es lo rows=>exact gV.vV (X:=XB X0 B β) (β:=β') hl G ho
 |acc elem aQ es rows=>exact gV.vV (X:=XB X0 B β) (β:=β') hl G ho
theorem Kk{elem es aQ n:Nat}{ls:List (List an)}(h:n*aQ≤70368744177664):vI elem es aQ n ls H= .ok (.slice H.next n 0 n es) ⟨H.next+1,H.bc,H.ws,H.t.set H.next (.row elem es aQ n n 0 (ju ls .emp 0))⟩:=by
 unfold vI
 rw[show Nat.ble (Nat.mul n aQ) 70368744177664=true from jA h,fV,vm,alloc_eq]
theorem Kl{elem es aQ n f m lo:Nat}{ls:List (List an)}{cs:RT}(J:H.t.get f=some (.row elem es aQ m lo 0 cs))(K:lo≤m)(h:(m+n)*aQ≤70368744177664):
  xk elem es aQ n ls H f m 0 m es= .ok (.slice f (m+n) 0 (m+n) es) ⟨H.next,H.bc,wrote f H.bc H.ws,H.t.set f (.row elem es aQ (m+n) lo 0 (ju ls cs m))⟩:=by
 cases H with
 |mk next bc ws t=>
  have J:t.get f=some (.row elem es aQ m lo 0 cs):=J
  show iU (t.get f) (.err 33) (fun z A mr I lo fl cs=>
   aH (Nat.beq 0 0) (aH (Nat.beq m I) (aH (Nat.ble lo m) (aH (Nat.beq m I) (aH (Nat.beq es es) (aH (Nat.beq A es) (aH (Nat.beq fl 1) (aD.err 32)
   (aH (Nat.ble (Nat.mul (Nat.add I n) aQ) 70368744177664) (aH (Nat.beq elem z)
    (dp (Nat.add I n) fun G=>sb ls cs I fun cs=>t.gr f (.row z A mr G lo fl cs) fun t=>
     .ok (.slice f G 0 G es) ⟨next,bc,wrote f bc ws,t⟩) (.err 32)) (.err 32))) (.err 32)) (.err 32)) (.err 32)) (.err 32)) (.err 32)) (.err 32))=_
  rw[J]
  show aH (Nat.beq 0 0) (aH (Nat.beq m m) (aH (Nat.ble lo m) (aH (Nat.beq m m) (aH (Nat.beq es es) (aH (Nat.beq es es) (aH (Nat.beq 0 1) (aD.err 32)
   (aH (Nat.ble (Nat.mul (Nat.add m n) aQ) 70368744177664) (aH (Nat.beq elem elem)
    (dp (Nat.add m n) fun G=>sb ls cs m fun cs=>t.gr f (.row elem es aQ G lo 0 cs) fun t=>
     .ok (.slice f G 0 G es) ⟨next,bc,wrote f bc ws,t⟩) (.err 32)) (.err 32))) (.err 32)) (.err 32)) (.err 32)) (.err 32)) (.err 32)) (.err 32)=_
  rw[show Nat.beq 0 0=true from rfl,fV,show Nat.beq m m=true from iZ m,fV,jA K,fV,fV,show Nat.beq es es=true from iZ es,fV,fV,
   show aH (Nat.beq 0 1) (aD.err 32) _=_ from rfl,show Nat.ble (Nat.mul (Nat.add m n) aQ) 70368744177664=true from jA h,fV,show Nat.beq elem elem=true from iZ elem,fV,iq,vm,GT.j6]
  rfl
theorem eu{elem es aQ:Nat}{x y:aF}{b:Nat}{rows ys:List (List DC)}{vy:VV}(hx:x.vv VE=some (.ac b rows.length es))(hb:aY B b=some (.acc elem aQ es rows))(hy:y.vv VE=some vy)(Bh:YR B es vy ys)(h0:0<es)
  (A:(rows++ys).length*aQ≤70368744177664) (hE:rows=[]→xU b VE=true) (hB:rows=[]→sd b B=true)
  (O:Q (.ac b (rows++ys).length es) ((b,.acc elem aQ es (rows++ys))::B)):VI T (.app elem es aQ x y) VE B [b] Q:=fun _ X0 _ H β I=>by
 obtain⟨a,h1,h2⟩:=I.b9 hx
 obtain⟨c,h3,h4⟩:=I.b9 hy
 obtain⟨ls,J,he⟩:∃ls,ki H (XB X0 B β) es ls ys∧((c= .cb∧ys.length=0∧ls=[])∨∃f g off e,c= .slice f g off ys.length e∧Ev.elems H f g es ys.length off=some ls):=by
  rcases Bh.elems I h0 h4 with⟨U,rfl⟩|⟨f,g,off,e,ls,U,k2,k3⟩
  ·exact⟨[],trivial,.inl ⟨U,rfl,rfl⟩⟩
  exact⟨ls,k3,.inr ⟨f,g,off,e,U,k2⟩⟩
 have K:∀call,(bE.app elem es aQ x y).ev call _ H=jU elem es aQ ys.length ls H a:=fun call=>GN h1 h3 he
 have jk:=J.length
 cases ys with
 |nil=>
  rw[yd] at O
  have Y:jU elem es aQ 0 ls H a= .ok a H:=by
   simp only[aN] at h2
   rcases h2 with⟨_,rfl⟩|⟨_,rfl⟩<;>rfl
  have G:∀k s,aY ((b,BS.acc elem aQ es rows)::B) k=some s→aY B k=some s:=fun k s hk=>by
   rw[ef] at hk
   by_cases e:b=k
   ·rw[aq e] at hk;cases hk;exact e▸hb
   rw[aj e] at hk;exact hk
  refine fZ (fun call=>(K call).trans Y) ⟨_,_,β,iH.refl.Hj fun k s hk ho=>⟨s,G k s hk,ho⟩,I.Ao (B':=(b,.acc elem aQ es rows)::B) G,?_,O⟩
  simp only[aN] at h2⊢
  exact h2
 |cons y0 yr=>
  have hA:jU elem es aQ (y0::yr).length ls H a=gU a (.err 34) (vI elem es aQ (y0::yr).length ls H) (xk elem es aQ (y0::yr).length ls H):=rfl
  generalize Z:y0::yr=ys at*
  have ym:0<ys.length:=by rw[←Z];simp
  cases rows with
  |nil=>
   have Y:a= .cb:=by
    simp only[aN,dJ] at h2
    rcases h2 with⟨_,h⟩|⟨h,_⟩
    ·exact h
    omega
   subst Y
   rw[Ek] at O A
   obtain⟨β',⟨hβ,HV⟩,qB⟩:=I.NV (b:=b) (s:=.acc elem aQ es ys) (H':=⟨H.next+1,H.bc,H.ws,H.t.set H.next (.row elem es aQ ys.length ys.length 0 (ju ls .emp 0))⟩) (hE rfl) (hB rfl) (fun s hs ho=>by rw[hb] at hs;cases hs;exact ho rfl) rfl
    (fun f hf=>by show(H.t.set H.next _).get f=_;rw[GT.eO,aj (by omega)]) rfl (fun X β' k=>.inr ⟨ys.length,ju ls .emp 0,by show(H.t.set H.next _).get H.next=_;rw[GT.eO,aq rfl],bY _,fun i row hi=>by
     obtain⟨l,j1,j2,j3⟩:=J.get hi
     refine⟨l,?_,j2,k _ _ j3⟩
     rw[BQ,aq ⟨dh _,by have:=(List.getElem?_eq_some_iff.1 hi).1;omega⟩,Eo]
     exact j1⟩)
   refine fZ (fun call=>(K call).trans (hA.trans (Kk A))) ⟨_,_,β',⟨rfl,si _,fun _ h=>.inl h,fun c t hc ht=>?_,fun f hf _=>by show(H.t.set H.next _).get f=_;rw[GT.eO,aj (by omega)]⟩,qB,?_,O⟩
   ·rw[ef] at hc
    by_cases e:b=c
    ·subst e;exact .inr (by rw[hβ];exact bY _)
    rw[aj e] at hc
    exact .inl ⟨t,hc,ht,HV c fun k=>e k.symm⟩
   simp only[aN,hβ]
   exact .inr ⟨ym,trivial⟩
  |cons r0 rr=>
   generalize z:r0::rr=rows at*
   have lk:rows≠[]:=by rw[←z];simp
   have hrpos:0<rows.length:=by rw[←z];simp
   have Y:a= .slice (β b) rows.length 0 rows.length es:=by
    simp only[aN] at h2
    rcases h2 with⟨h,_⟩|⟨_,h⟩
    ·omega
    exact h
   subst Y
   rcases I.box b _ hb with h|⟨lo,cs,U,k2,k3⟩
   ·exact absurd h lk
   rw[bJ] at A
   refine⟨0,_,_,fun lf n _ _=>(K _).trans (hA.trans (Kl U k2 A)),?_⟩
   refine BP (s':=.acc elem aQ es (rows++ys)) I hb lk rfl (fun f hf=>?_) rfl rfl (fun X _ j2=>.inr ⟨lo,ju ls cs rows.length,?_,by rw[bJ];omega,fun i row hi=>?_⟩) (fun X=>?_) O
   ·show(H.t.set (β b) _).get f=_
    rw[GT.eO,aj hf]
   ·show(H.t.set (β b) _).get (β b)=_
    rw[GT.eO,aq rfl,bJ]
   ·rw[BQ]
    have uW:=(List.getElem?_eq_some_iff.1 hi).1
    rw[bJ] at uW
    by_cases e:rows.length≤i
    ·rw[aq ⟨e,by omega⟩]
     rw[v7 e] at hi
     obtain⟨l,j3,j4,j5⟩:=J.get hi
     exact⟨l,j3,j4,j2 _ _ j5⟩
    rw[aj (fun k=>e k.1)]
    rw[qs (by omega)] at hi
    obtain⟨l,j3,j4,j5⟩:=k3 i row hi
    exact⟨l,j3,j4,j2 _ _ j5⟩
   simp only[aN]
   exact .inr ⟨by rw[bJ];omega,by rw[bJ]⟩
end
section
variable{T:bf}{H0:Nat→Nat}{X0:Nat→Prop}{VE eb:b0}{B B':br}{E:Env}{H H':az}{β:Nat→Nat}{X:Nat→Prop}
variable{W:List Nat}{Q:VV→br→Prop}
theorem zw{x:aF}{b n es:Nat}(I:x.vv VE=some (.ac b n es))(A:Q (.d (.i .i64 n)) B):VI T (.len x) VE B [] Q:=fun _ _ _ _ _ z=>by
 obtain⟨_,G,h2⟩:=z.b9 I
 simp only[aN] at h2
 rcases h2 with⟨rfl,rfl⟩|⟨_,rfl⟩
 ·exact Jx G (eW z (v:=.d (.i .i64 (0:Nat))) (by simp only[aN,cM];rfl) A)
 exact Gq G (eW z (v:=.d (.i .i64 n)) (by simp only[aN,cM]) A)
theorem gV.U1{f elem aQ es:Nat}{rows:List (List DC)}(h:gV H X β f (.acc elem aQ es rows)){q:Nat}{row:List DC}(z:rows[q]?=some row):∃l,mf H f rows.length q l∧l.length=es∧cU H X row l:=by
 have I:=(List.getElem?_eq_some_iff.1 z).1
 rcases h with rfl|⟨A,cs,J,K,O⟩
 ·simp at z
 obtain⟨l,U,G,Y⟩:=O q row z
 exact⟨l,⟨elem,aQ,rows.length,A,0,cs,by rw[G];exact J,K,bY _,I,U⟩,G,Y⟩
def DC.e8(rows:List (List DC)):DC:=match rows with|[]=>.nil|x::r=>.sl (x::r)
theorem DC.qN{rows:List (List DC)}(h:rows≠[]):DC.e8 rows= .sl rows:=by
 cases rows with
 |nil=>exact absurd rfl h
 |cons x r=>rfl
mutual
def VV.sw(b:Nat)(x:DC):VV→VV
 |.agg l=>.agg (D8 b x l)
 |.ac c n es=>bif Nat.beq c b then .d x else .ac c n es
 |v=>v
def D8(b:Nat)(x:DC):List VV→List VV
 |[]=>[]
 |v::r=>v.sw b x::D8 b x r
end
mutual
def VV.wB(b n es:Nat):VV→Prop
 |.agg l=>EI b n es l
 |.ac c m e=>c=b→m=n∧e=es
 |.bs c _ _=>c≠b
 |_=>True
def EI(b n es:Nat):List VV→Prop
 |[]=>True
 |v::r=>v.wB b n es∧EI b n es r
end
theorem Rel.sw(J:Rel H0 X0 VE B E H β){b elem aQ es:Nat}{rows:List (List DC)}(O:aY B b=some (.acc elem aQ es rows)){k:Nat}{v:VV}(hv:aY VE k=some v)(ho:v.wB b rows.length es):
  Rel H0 X0 ((k,v.sw b (.e8 rows))::VE) (hJ B b) E H β:=by
 have U:=J.drop b
 have G:∀c s,aY (hJ B b) c=some s→b≠c∧aY B c=some s:=fun c s z=>by
  rw[vu] at z
  by_cases e:b=c
  ·rw[aq e] at z;cases z
  rw[aj e] at z;exact⟨e,z⟩
 have Y:rows≠[]→¬XB X0 (hJ B b) β (β b):=by
  rintro A(h|⟨c,s,z,Z,h2⟩)
  ·exact(J.new b _ O A).1 h
  exact(G c s z).1 (J.inj c b s _ (G c s z).2 O Z A h2).symm
 have hl:iB H (XB X0 B β) H (XB X0 (hJ B b) β):=⟨bY _,fun f _ Y=>⟨fun k=>Y (k.imp id fun⟨c,s,z,h2⟩=>⟨c,s,(G c s z).2,h2⟩),rfl⟩⟩
 have K:rows≠[]→cM H (XB X0 (hJ B b) β) (.sl rows) (.slice (β b) rows.length 0 rows.length es):=fun A=>by
  simp only[cM]
  refine⟨β b,rows.length,0,es,rfl,.inr ⟨Y A,(J.new b _ O A).2,0,by simp,gL.qT fun i row hi=>?_⟩⟩
  obtain⟨l,z,h2,h3⟩:=(J.box b _ O).U1 hi
  exact⟨l,by rw[jS];exact z,h2,h3.lift hl⟩
 have main:(∀v:VV,v.wB b rows.length es→∀a,aN H (XB X0 (hJ B b) β) β v a→aN H (XB X0 (hJ B b) β) β (v.sw b (.e8 rows)) a):=by
  intro v
  refine VV.rec (motive_1:=fun v=>v.wB b rows.length es→∀a,aN H (XB X0 (hJ B b) β) β v a→aN H (XB X0 (hJ B b) β) β (v.sw b (.e8 rows)) a)
   (motive_2:=fun l=>EI b rows.length es l→∀s,bk H (XB X0 (hJ B b) β) β l s→bk H (XB X0 (hJ B b) β) β (D8 b (.e8 rows) l) s) ?_ ?_ ?_ ?_ ?_ ?_ ?_ ?_ ?_ ?_ ?_ ?_ ?_ ?_ v
  ·intro x _ a h;exact h
  ·intro l ih ho a h
   simp only[aN,VV.sw,VV.wB] at h ho⊢
   obtain⟨cs,e,h⟩:=h
   exact⟨cs,e,ih ho cs h⟩
  ·intro l _ _ a h;exact h
  ·intro c o _ a h;exact h
  ·intro c g q o e _ a h;exact h
  ·intro row o _ a h;exact h
  ·intro c n e ho a h;exact h
  ·intro c n e ho a h
   simp only[VV.sw,VV.wB] at h ho⊢
   by_cases I:c=b
   ·obtain⟨rfl,rfl⟩:=ho I
    subst I
    rw[show Nat.beq c c=true from iZ c]
    simp only[aN] at h
    show aN H _ β (.d (.e8 rows)) _
    simp only[aN]
    rcases h with⟨z,rfl⟩|⟨z,rfl⟩
    ·rw[List.length_eq_zero_iff.1 z]
     simp only[DC.e8,cM]
    have A:rows≠[]:=fun e=>by rw[e] at z;simp at z
    rw[DC.qN A]
    exact K A
   have:Nat.beq c b=false:=by
    cases hq:Nat.beq c b
    ·rfl
    exact absurd (d8 hq) I
   rw[this];exact h
  ·intro f c _ _ a h;exact h
  ·intro x _ a h;exact h
  ·intro _ a h;exact h
  ·intro _ a h;exact h
  ·intro _ s h;exact h
  intro v r ih1 IA ho s h
  simp only[bk,D8,EI] at h ho⊢
  obtain⟨a,s,e,z,h2⟩:=h
  exact⟨a,s,e,ih1 ho.1 a z,IA ho.2 s h2⟩
 refine{U with env:=fun c w I=>?_}
 rw[ef] at I
 by_cases e:k=c.n
 ·rw[aq e] at I
  cases I
  obtain⟨a,z,h2⟩:=U.env c v (e▸hv)
  exact⟨a,z,main v ho a h2⟩
 rw[aj e] at I
 exact U.env c w I
theorem fu{ops:List bo}{Q:b0→br→Prop}(k b:Nat){v:VV}{elem aQ es:Nat}{rows:List (List DC)}(z:aY VE k=some v)(A:aY B b=some (.acc elem aQ es rows))(ho:v.wB b rows.length es)(h:VO T ops ((k,v.sw b (.e8 rows))::VE) (hJ B b) Q):VO T ops VE B Q:=
 fun H0 X0 E H β G=>(h H0 X0 E H β (G.sw A z ho)).mono fun _ _ hp=>hp.more KW
theorem bk.data{row:List DC}{l:List VV}{s:List an}(h:lM l=some row)(k:bk H X β l s):cU H X row s:=cU.zt (β:=β) (LG h▸k)
def vf(VE:b0)(es z:Nat):List (Nat×aF)→List (List DC)→Option (List (List DC))
 |[],rows=>some rows
 |p::r,rows=>(p.2.vv VE).bind fun v=>v.cells.bind fun new=>(lM new).bind fun row=>bif Nat.beq row.length es&&Nat.ble (Nat.succ p.1) z then vf VE es z r (rows.set p.1 row) else none
theorem I8(K:Rel H0 X0 VE B E H β){es A:Nat}:∀{ps:List (Nat×aF)}{rows out:List (List DC)}{t:RT},(rows.length=A∧∀q row,rows[q]?=some row→∃l,t.get q=some l∧l.length=es∧cU H (XB X0 B β) row l)→vf VE es A ps rows=some out→
  ∃t',qd E es A ps t=some t'∧out.length=A∧∀q row,out[q]?=some row→∃l,t'.get q=some l∧l.length=es∧cU H (XB X0 B β) row l
 |[],rows,out,t,h,z=>by simp only[vf,gO] at z;subst z;exact⟨t,rfl,h⟩
 |p::r,rows,out,t,h,z=>by
  simp only[vf,z6] at z
  obtain⟨v,U,new,Y,row,I,z⟩:=z
  obtain⟨a,Z,h2⟩:=K.b9 U
  obtain⟨s,h3,h4⟩:=h2.cells Y
  have O:=h4.data I
  have hl:s.length=row.length:=O.length
  cases he:(Nat.beq row.length es&&Nat.ble (Nat.succ p.1) A) with
  |false=>rw[he] at z;cases z
  |true=>
   rw[he] at z
   simp only[fv] at he
   have e1:=d8 he.1
   have e2:=bS he.2
   have z:vf VE es A r (rows.set p.1 row)=some out:=z
   obtain⟨t',k1,k2⟩:=I8 K (t:=t.set p.1 s) ⟨by rw[Vz];exact h.1,fun q J G=>by
    rw[RT.eO]
    rw[List.getElem?_set] at G
    by_cases e:q=p.1
    ·subst e
     rw[aq rfl] at G⊢
     rw[aq (by rw[h.1];exact e2)] at G
     cases G
     exact⟨s,rfl,by omega,O⟩
    rw[aj (fun k=>e k.symm)] at G
    rw[aj e]
    exact h.2 q J G⟩ z
   refine⟨t',?_,k2⟩
   show ob (p.2.ev E) none (fun v=>ob (jK v) none fun new=>aH (Nat.beq (jg new) es) (aH (Nat.ble (Nat.succ p.1) A) (qd E es A r (t.set p.1 new)) none) none)=some t'
   rw[Z,df,h3,df,oq,hl,he.1,fV,he.2,fV,k1]
theorem Q9{elem es aQ G:Nat}{zero:List an}{z:List VV}{U:List DC}{ps:List (Nat×aF)}{rows:List (List DC)}(b:Nat)(Z:n4 b VE=true)(hB:n5 b B=true)(hz:qQ zero=some z)(I:lM z=some U)(J:zero.length=es)(hb:vf VE es G ps (List.replicate G U)=some rows)
  (hq:Q (.bs b G es) ((b,.arr elem aQ es G rows)::B)):VI T (.cY elem es aQ G zero ps) VE B [] Q:=fun _ _ E H β Y=>by
 obtain⟨t,h1,h2,h3⟩:=I8 Y (t:=pM zero G) ⟨Vx,fun q row A=>by
  rw[Vy] at A
  split at A
  ·rename_i K
   cases A
   exact⟨zero,by rw[FQ,aq K],J,(BD (β:=β) hz).data I⟩
  cases A⟩ hb
 have O:∀call,(bE.cY elem es aQ G zero ps).ev call E H= .ok (.slice H.next G 0 G es) ⟨H.next+1,H.bc,H.ws,H.t.set H.next (.row elem es aQ G G 0 t)⟩:=fun call=>by
  show ob (qd E es G ps (pM zero G)) (.err 24) (fun t=>H.alloc (.row elem es aQ G G 0 t) fun f H=>.ok (.slice f G 0 G es) H)=_
  rw[h1,df,alloc_eq]
 refine fZ O (FV (b:=b) (s:=.arr elem aQ es G rows) Y Z hB rfl (fun f hf=>by show(H.t.set H.next _).get f=_;rw[GT.eO,aj (by omega)]) rfl rfl (fun X β' _ k2=>?_) (fun X β' k=>by simp only[aN];rw[k]) hq)
 refine⟨G,t,by show(H.t.set H.next _).get H.next=_;rw[GT.eO,aq rfl,h2],bY _,by omega,fun q row A=>?_⟩
 obtain⟨l,j1,j2,j3⟩:=h3 q row A
 exact⟨l,j1,j2,k2 _ _ j3⟩
end
section
variable{T:bf}{H0:Nat→Nat}{X0:Nat→Prop}{VE eb:b0}{B B':br}{E:Env}{H H':az}{β:Nat→Nat}{X:Nat→Prop}
variable{W:List Nat}{Q:VV→br→Prop}
theorem cU.append{z A:List DC}{G I:List an}(h:cU H X z G)(k:cU H X A I):cU H X (z++A) (G++I):=by
 have K:=bk.vw (β:=fun _=>0) h
 have h2:=bk.vw (β:=fun _=>0) k
 have J:=K.append h2
 rw[←dX] at J
 exact cU.zt J
theorem cU.take{r:List DC}{l:List an}(n:Nat)(h:cU H X r l):cU H X (r.take n) (l.take n):=by simpa using h.K2 0 n
theorem cU.drop{r:List DC}{l:List an}(n:Nat)(h:cU H X r l):cU H X (r.drop n) (l.drop n):=by
 have z:=bk.drop n (bk.vw (β:=fun _=>0) h)
 rw[←List.map_drop] at z
 exact cU.zt z
theorem cU.bif{t0:Bool}{a b:List DC}{s t:List an}(h:cU H X a s)(k:cU H X b t):cU H X (bif t0 then a else b) (bif t0 then s else t):=by
 cases t0
 ·exact k
 exact h
theorem cU.gY{row z:List DC}{l t:List an}(o:Nat)(h:cU H X row l)(k:cU H X z t):cU H X (row.take o++(z++row.drop (o+z.length))) (gY l o t):=by
 unfold Ev.gY
 rw[←k.length]
 exact(h.take o).append (k.append (h.drop (o+t.length)))
def bV(T:bf)(f:Nat)(args:List VV)(Bi:br)(Q:VV→br→Prop):Prop:=
 ∀(H0:Nat→Nat)(X:Nat→Prop)(H:az)(β:Nat→Nat)(l:List an),Rel H0 X [] Bi .emp H β→bk H (XB X Bi β) β args l→
  sQ T f l H fun a H'=>∃r B' β',iH Bi β H (fun _=>True) B' β' H'∧Rel H0 X [] B' .emp H' β'∧aN H' (XB X B' β') β' r a∧Q r B'
theorem bV.mono{f:Nat}{args:List VV}{Bi:br}{Q z:VV→br→Prop}(h:bV T f args Bi Q)(k:∀v B,Q v B→z v B):bV T f args Bi z:=fun H0 X H β l A h2=>
 (h H0 X H β l A h2).mono fun _ _⟨r,B',β',a,b,c,d⟩=>⟨r,B',β',a,b,c,k _ _ d⟩
def Sound(T:bf)(f:Nat)(args:List VV)(Q:VV→Prop):Prop:=bV T f args [] fun r _=>r.nb∧Q r
theorem Sound.mono{f:Nat}{args:List VV}{Q z:VV→Prop}(h:Sound T f args Q)(k:∀v,Q v→z v):Sound T f args z:=bV.mono h fun v _ hp=>⟨hp.1,k v hp.2⟩
def iW(VE:b0):List aF→Option (List VV)
 |[]=>some []
 |x::r=>(x.vv VE).bind fun v=>(iW VE r).map (v:: ·)
theorem vg(z:Rel H0 X0 VE B E H β):∀{l:List aF}{args:List VV},iW VE l=some args→∃vs,jF E l=some vs∧bk H (XB X0 B β) β args vs
 |[],args,h=>by simp only[iW,gO] at h;subst h;exact⟨[],rfl,by simp only[bk]⟩
 |x::r,args,h=>by
  simp only[iW,z6,CS] at h
  obtain⟨v,A,s,G,rfl⟩:=h
  obtain⟨a,I,h2⟩:=z.b9 A
  obtain⟨vs,J,K⟩:=vg z G
  exact⟨a::vs,KS I J,by simp only[bk];exact⟨a,vs,rfl,h2,K⟩⟩
theorem Rel.lt(z:Rel H0 X0 VE B E H β):∀f,XB X0 B β f→f<H.next:=fun f A=>by
 rcases A with h|⟨b,s,G,ho,rfl⟩
 ·exact z.x0 f h
 exact(z.new b s G ho).2
theorem Rel.start{H0:Nat→Nat}{X:Nat→Prop}{H:az}{E:Env}(z:H.bc≤H.next)(A:∀f,X f→f<H.next):Rel H0 X [] [] E H H0:=
 ⟨fun _ _=>rfl,z,A,fun _ _ h=>(by cases h),fun _ _ _ _ h=>(by cases h),fun _ _ h=>(by cases h),fun _ _ h=>(by cases h)⟩
theorem MC{X:Nat→Prop}{β:Nat→Nat}:∀f,XB X [] β f→X f:=fun f h=>by
 rcases h with h|⟨_,_,h,_⟩
 ·exact h
 cases h
theorem K5{f:Nat}{vs:List an}{args:List VV}{P:VV→Prop}(hn:l8 args)(h:Sound T f args P)(Z:∀r,r.nb→P r→Q r B)(G:Rel H0 X0 VE B E H β)(h2:bk H (XB X0 B β) β args vs):sQ T f vs H (xT H0 X0 VE B β E H W Q):=by
 have I:iB H (XB X0 B β) H (XB (XB X0 B β) [] β):=⟨bY _,fun f _ J=>⟨fun k=>J (MC f k),rfl⟩⟩
 refine(h β (XB X0 B β) H β vs (Rel.start G.bc G.lt) (h2.lift I)).mono fun a H' hp=>?_
 obtain⟨r,B',β',z,K,hv,U,k8⟩:=hp
 have Y:∀f,f<H.next→H'.t.get f=H.t.get f:=fun f A=>z.sS f A fun _ _ k=>by cases k
 have O:iB H' (XB (XB X0 B β) B' β') H' (XB X0 B β):=⟨bY _,fun f _ J=>⟨fun k=>J (.inl k),rfl⟩⟩
 exact⟨r,B,β,⟨z.bc,z.next,fun f A=>(z.ws f A).imp id (fun⟨_,_,_,_,k,_⟩=>by cases k),fun _ s k1 k2=>.inl ⟨s,k1,k2,rfl⟩,fun f A _=>Y f A⟩,G.grow z.next Y K.bc,(hv.lift O).nb U,Z r U k8⟩
theorem qe{f:Nat}{l:List aF}{args:List VV}{P:VV→Prop}(A:iW VE l=some args)(G:l8 args)(h:Sound T f args P)(I:∀r,r.nb→P r→Q r B):VI T (.call f l) VE B [] Q:=fun H0 X0 E H β z=>by
 obtain⟨vs,J,h2⟩:=vg z A
 exact F9 J (K5 G h I z h2)
def AS:List Key→List VV→b0→b0
 |k::ks,v::vs,VE=>AS ks vs ((k.n,v)::VE)
 |_,_,VE=>VE
theorem K6:∀{ks:List Key}{args:List VV}{l:List an}{VE:b0}{E:Env},Rel H0 X0 VE B E H β→bk H (XB X0 B β) β args l→ks.length=args.length→Rel H0 X0 (AS ks args VE) B (EC ks l E) H β
 |[],[],l,VE,E,h,k,_=>by simp only[bk] at k;subst k;exact h
 |x::ks,v::vs,l,VE,E,h,k,z=>by
  simp only[bk] at k
  obtain⟨a,s,rfl,A,G⟩:=k
  show Rel H0 X0 (AS ks vs ((x.n,v)::VE)) B (EC ks s (E.set x a)) H β
  exact K6 (h.set (d:=x) A) G (by simpa using z)
 |[],_::_,_,_,_,_,_,h=>by simp at h
 |_::_,[],_,_,_,_,_,h=>by simp at h
def HW(VE:b0)(B:br):lG→Option VV
 |.tmp k=>aY VE k.n
 |.cell k n agg=>match aY VE k.n with
  |some (.vp b o)=>match aY B b with
   |some (.one _ _ row)=>bif Nat.ble 1 n&&Nat.ble (o+n) row.length then(bif agg then some (.agg ((row.drop o).take n)) else match(row.drop o).take n with|[v]=>some v|_=>none) else none
   |_=>none
  |_=>none
def ux(VE:b0)(B:br):List lG→Option (List VV)
 |[]=>some []
 |r::rs=>(HW VE B r).bind fun v=>(ux VE B rs).map (v:: ·)
def gx:List VV→VV
 |[v]=>v
 |l=>.tuple l
theorem SJ(J:Rel H0 X0 VE B E H β){r:lG}{v:VV}(h:HW VE B r=some v):∃a,aN H (XB X0 B β) β v a∧∀{e:aD}{k:an→aD},yk E H r e k=k a:=by
 cases r with
 |tmp t=>
  obtain⟨a,I,h2⟩:=J.env t v h
  refine⟨a,h2,fun{e k}=>?_⟩
  show ob (E.get t) e k=k a
  rw[I,df]
 |cell a n agg=>
  simp only[HW] at h
  split at h
  ·rename_i b o O
   split at h
   ·rename_i elem aQ row U
    obtain⟨pa,I,h2⟩:=J.env a _ O
    simp only[aN] at h2
    subst h2
    obtain⟨l,Y,K⟩:=(J.box b _ U).y7
    cases A:(Nat.ble 1 n&&Nat.ble (o+n) row.length) with
    |false=>rw[A] at h;cases h
    |true=>
     rw[A] at h
     simp only[fv] at A
     have e1:=bS A.1
     have e2:=bS A.2
     have G:∀{e:aD}{k:List an→aD},rd H (β b) 1 o n e k=k ((l.drop o).take n):=fun{e k}=>by
      have:=D7 (k:=o) (n:=n) (e:=e) (c:=k) Y (by rw[K.length];exact e2) (by omega)
      rwa [re,jS] at this
     have z:=bk.take n (bk.drop o K)
     cases agg with
     |true=>
      have h:some (VV.agg ((row.drop o).take n))=some v:=h
      cases h
      refine⟨.agg ((l.drop o).take n),by simp only[aN];exact⟨_,rfl,z⟩,fun{e k}=>?_⟩
      show ob (E.get a) e (fun v=>iv v e fun f g off=>rd H f g off n e fun l=>iG true l e k)=_
      rw[I,df]
      show rd H (β b) 1 o n e (fun l=>iG true l e k)=_
      rw[G];rfl
     |false=>
      have h:(match(row.drop o).take n with|[v]=>some v|_=>none)=some v:=h
      split at h
      ·rename_i w Z
       cases h
       rw[Z] at z
       simp only[bk] at z
       obtain⟨x,s,hs,hx,rfl⟩:=z
       refine⟨x,hx,fun{e k}=>?_⟩
       show ob (E.get a) e (fun v=>iv v e fun f g off=>rd H f g off n e fun l=>iG false l e k)=_
       rw[I,df]
       show rd H (β b) 1 o n e (fun l=>iG false l e k)=_
       rw[G,hs];rfl
      cases h
   cases h
  cases h
theorem Km(z:Rel H0 X0 VE B E H β):∀{rs:List lG}{vs:List VV},ux VE B rs=some vs→∃l,bk H (XB X0 B β) β vs l∧∀{e:aD}{k:List an→aD},uq E H rs e k=k l
 |[],vs,h=>by simp only[ux,gO] at h;subst h;exact⟨[],by simp only[bk],rfl⟩
 |r::rs,vs,h=>by
  simp only[ux,z6,CS] at h
  obtain⟨v,A,s,G,rfl⟩:=h
  obtain⟨a,I,h2⟩:=SJ z A
  obtain⟨l,J,K⟩:=Km z G
  refine⟨a::l,by simp only[bk];exact⟨a,l,rfl,I,J⟩,fun{e k}=>?_⟩
  show yk E H r e (fun v=>uq E H rs e fun vs=>k (v::vs))=_
  rw[h2,K]
def kj(rs:List lG)(P:VV→br→Prop):Ex→b0→br→Prop
 |.exit _,_,_=>False
 |_,VE,B=>∃vs Bn,ux VE B rs=some vs∧bu Bn B∧P (gx vs) Bn
def OG(rs:List lG)(P:VV→Prop):Ex→b0→br→Prop
 |.exit _,_,_=>False
 |_,VE,B=>∃vs,ux VE B rs=some vs∧l8 vs∧P (gx vs)
theorem cl{f:Nat}{fn:bD}{args:List VV}{Bi:br}{P:VV→br→Prop}(hf:T.ft.get f=some fn)(hl:fn.ps.length=args.length)(h:VC T fn.body (AS fn.ps args []) Bi (kj fn.res P)):bV T f args Bi P:=by
 intro H0 X H β l h0 z
 have hr:=K6 (ks:=fn.ps) h0 z hl
 refine UU hf (by rw[hl,z.length]) ((h H0 X _ H _ hr).mono fun x E' H' hp=>?_)
 obtain⟨eb,B',β',hw,K,O⟩:=hp
 have key:(∃vs Bn,ux eb B' fn.res=some vs∧bu Bn B'∧P (gx vs) Bn)→∃v,results E' H' fn.res= .ok v H'∧∃r B' β',iH Bi β H (fun _=>True) B' β' H'∧Rel H0 X [] B' .emp H' β'∧aN H' (XB X B' β') β' r v∧P r B':=by
  rintro⟨vs,Bn,k1,U,Y⟩
  have Z:=K.Ao (B':=Bn) fun _ _ hk=>U.get hk
  have G:Rel H0 X [] Bn .emp H' β':={Z with env:=fun _ _ k=>by cases k}
  have I:iH Bi β H (fun _=>True) Bn β' H':=hw.Hj fun b s h1 h2=>⟨s,U.get h1,h2⟩
  obtain⟨l',k4,k5⟩:=Km K k1
  have jY:iB H' (XB X B' β') H' (XB X Bn β'):=⟨bY _,fun f _ hx=>⟨fun k=>hx (k.imp id fun⟨c,s,h1,h2⟩=>⟨c,s,U.get h1,h2⟩),rfl⟩⟩
  have J:bk H' (XB X Bn β') β' vs l':=bk.lift jY k4
  have A:results E' H' fn.res=List.rec (motive:=fun _=>aD) (.ok (.tuple []) H') (fun v r _=>List.rec (motive:=fun _=>aD) (.ok v H') (fun _ _ _=>.ok (.tuple (v::r)) H') r) l':=k5
  cases vs with
  |nil=>
   simp only[bk] at J
   subst J
   exact⟨_,A,gx [],Bn,β',I,G,by simp only[gx,aN,bk];exact⟨[],rfl,rfl⟩,Y⟩
  |cons v r=>
   cases r with
   |nil=>
    simp only[bk] at J
    obtain⟨a,s,rfl,k7,rfl⟩:=J
    exact⟨_,A,_,Bn,β',I,G,k7,Y⟩
   |cons w r=>
    have k8:=J
    simp only[bk] at J
    obtain⟨a,s,rfl,k7,a2,s2,rfl,_⟩:=J
    exact⟨_,A,_,Bn,β',I,G,by simp only[gx,aN];exact⟨_,rfl,k8⟩,Y⟩
 cases x with
 |exit id=>exact absurd O (fun h=>h)
 |normal=>exact⟨fun _ h=>(by cases h),key O⟩
 |ret=>exact⟨fun _ h=>(by cases h),key O⟩
theorem LJ{vs:List VV}(h:l8 vs):(gx vs).nb:=by
 cases vs with
 |nil=>simp only[gx,VV.nb,l8]
 |cons v r=>
  cases r with
  |nil=>simp only[l8] at h;exact h.1
  |cons w r=>simpa only[gx,VV.nb] using h
theorem eo{f:Nat}{fn:bD}{args:List VV}{P:VV→Prop}(G:T.ft.get f=some fn)(I:fn.ps.length=args.length)(h:VC T fn.body (AS fn.ps args []) [] (OG fn.res P)):Sound T f args P:=
 cl G I (h.mono fun x VE B hp=>by
  cases x with
  |exit id=>exact hp
  |normal=>obtain⟨vs,z,h2,A⟩:=hp;exact⟨vs,[],z,trivial,LJ h2,A⟩
  |ret=>obtain⟨vs,z,h2,A⟩:=hp;exact⟨vs,[],z,trivial,LJ h2,A⟩)
end
end Go.Ev
