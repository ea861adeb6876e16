/- Part 9 of rules for walks through the code of a program, and of such walks; what each part proves is said by its theorems. -/
import Derived.Test.YtijnechfhdlgiaaGreatDoorS8
set_option linter.unusedVariables false
set_option linter.unusedSimpArgs false
namespace Go.Ev
section
variable{T:bf}{H0:Nat→Nat}{X0:Nat→Prop}{VE eh:b0}{B B':br}{E:Env}{H H':aB}{β:Nat→Nat}{X:Nat→Prop}
variable{W:List Nat}{Q:VV→br→Prop}
theorem cW.La:∀{row:List DC}{l:List an}(o n:Nat),cW H X row l→cW H X ((row.drop o).take n) ((l.drop o).take n):=by
 intro row l o n h
 have z:=bm.tC (β:=fun _=>0) h
 have h2:=bm.take n (bm.drop o z)
 rw[←List.map_drop,←List.map_take] at h2
 exact cW.zu h2
theorem lT{a:aG}{row:List DC}{o:Nat}{x:DC}(A:a.vv VE=some (.rp row o))(G:row[o]?=some x)(I:Q (.d x) B):VI T (.load 1 false a) VE B [] Q:=fun _ _ _ _ _ z=>by
 obtain⟨_,J,h2⟩:=z.b9 A
 simp only[aN] at h2
 obtain⟨f,g,Z,l,rfl,K,O,_⟩:=h2
 obtain⟨y,U,Y⟩:=O.get G
 exact Kl J K rfl U (e7 z (v:=.d x) (by simp only[aN];exact Y) I)
theorem mj{a:aG}{row:List DC}{o n:Nat}(G:a.vv VE=some (.rp row o))(h0:0<n)(I:o+n≤row.length)(J:Q (.agg (((row.drop o).take n).map .d)) B):VI T (.load n true a) VE B [] Q:=fun _ _ _ _ _ z=>by
 obtain⟨_,K,h2⟩:=z.b9 G
 simp only[aN] at h2
 obtain⟨f,g,U,l,rfl,O,A,_⟩:=h2
 exact Km K O rfl (by rw[A.length];exact I) h0 (e7 z (v:=.agg (((row.drop o).take n).map .d)) (by simp only[aN];exact⟨_,rfl,bm.tC (A.La o n)⟩) J)
theorem gQ.y8{f elem aT:Nat}{row:List VV}(h:gQ H X β f (.one elem aT row)):∃l,mm H f 1 0 l∧bm H X β row l:=by
 obtain⟨l,lo,cs,z,h2,A,G⟩:=h
 exact⟨l,⟨elem,aT,1,lo,0,cs,z,h2,bY _,Nat.zero_lt_one,A⟩,G⟩
theorem c8{a:aG}{b o elem aT:Nat}{row:List VV}{v:VV}(A:a.vv VE=some (.vp b o))(G:aZ B b=some (.one elem aT row))(I:row[o]?=some v)(J:Q v B):VI T (.load 1 false a) VE B [] Q:=fun _ _ _ _ _ z=>by
 obtain⟨_,K,h2⟩:=z.b9 A
 simp only[aN] at h2
 subst h2
 obtain⟨l,O,U⟩:=(z.box b _ G).y8
 obtain⟨y,Y,Z⟩:=U.get I
 exact Kl K O (by rw[rq,jA]) Y (e7 z Z J)
theorem qe{a:aG}{b o n elem aT:Nat}{row:List VV}(G:a.vv VE=some (.vp b o))(I:aZ B b=some (.one elem aT row))(h0:0<n)(J:o+n≤row.length)(K:Q (.agg ((row.drop o).take n)) B):VI T (.load n true a) VE B [] Q:=fun _ _ _ _ _ z=>by
 obtain⟨_,O,h2⟩:=z.b9 G
 simp only[aN] at h2
 subst h2
 obtain⟨l,U,A⟩:=(z.box b _ I).y8
 exact Km O U (by rw[rq,jA]) (by rw[A.length];exact J) h0 (e7 z (v:=.agg ((row.drop o).take n)) (by simp only[aN];exact⟨_,rfl,bm.take n (bm.drop o A)⟩) K)
theorem F2{v:VV}{a:an}{b:Nat}{s:BS}(O:Rel H0 X0 VE B E H β)(U:n6 b VE=true)(Y:n7 b B=true)(Z:H'.next=H.next+1)(I:∀f,f<H.next→H'.t.get f=H.t.get f)(J:H'.bc=H.bc)(hw:H'.ws=H.ws)
  (z:∀X β',(∀v a,v.no b=true→aN H (XB X0 B β) β v a→aN H' X β' v a)→(∀row l,cW H (XB X0 B β) row l→cW H' X row l)→gQ H' X β' H.next s)
  (hv:∀X β',β' b=H.next→aN H' X β' v a) (hq:Q v ((b,s)::B)):xV H0 X0 VE B β E H W Q a H':=by
 obtain⟨β',⟨K,h3⟩,h2,_⟩:=O.Vc U Y Z I J z
 refine⟨v,_,β',⟨J,by omega,fun f A=>.inl (hw▸A),fun c t G ht=>?_,fun f A _=>I f A⟩,h2,hv _ _ K,hq⟩
 rw[en] at G
 by_cases e:b=c
 ·subst e;exact .inr (by rw[K];exact bY _)
 rw[aj e] at G
 exact .inl ⟨t,G,ht,h3 c fun k=>e k.symm⟩
theorem R6{b:Nat}{v:VV}{l:List VV}(h:v.no b=true)(z:v.cells=some l):pc b l=true:=by
 cases v
 case k x=>
  cases x<;>simp only[VV.cells,gJ,reduceCtorEq] at z
  all_goals subst z
  all_goals rfl
 all_goals simp only[VV.cells,gJ,reduceCtorEq] at z
 all_goals subst z
 all_goals simp_all [pc,VV.no]
theorem Lb{b:Nat}{H1 G:aB}{I J:Nat→Prop}{z A:Nat→Nat}(h:∀v a,v.no b=true→aN H1 I z v a→aN G J A v a):∀{l:List VV}{s:List an},pc b l=true→bm H1 I z l s→bm G J A l s
 |[],_,_,k=>by simp only[bm] at k⊢;exact k
 |v::r,_,n,k=>by
  simp only[bm,pc,eZ] at k n⊢
  obtain⟨a,s,e,K,h2⟩:=k
  exact⟨a,s,e,h v a n.1 K,Lb h n.2 h2⟩
theorem FR{H1 G:aB}{I J:Nat→Prop}{z A:Nat→Nat}(h:∀v a,aN H1 I z v a→aN G J A v a):∀{l:List VV}{s:List an},bm H1 I z l s→bm G J A l s
 |[],_,k=>by simp only[bm] at k⊢;exact k
 |v::r,_,k=>by
  simp only[bm] at k⊢
  obtain⟨a,s,e,K,h2⟩:=k
  exact⟨a,s,e,h v a K,FR h h2⟩
theorem Ve{x:aG}{v:VV}{b:Nat}(A:n6 b VE=true)(z:x.vv VE=some v):v.no b=true:=by
 cases x with
 |t k=>exact Ci A z
 |c a=>exact R5 z b
theorem Vf{elem es aT:Nat}{x:aG}{v:VV}{cells:List VV}(b:Nat)(z:n6 b VE=true)(K:n7 b B=true)(A:x.vv VE=some v)(G:v.cells=some cells)(O:cells.length=es)(U:Q (.vp b 0) ((b,.one elem aT cells)::B)):VI T (.box elem es aT x) VE B [] Q:=fun _ _ _ H _ I=>by
 obtain⟨a,Y,h2⟩:=I.b9 A
 obtain⟨s,Z,J⟩:=h2.cells G
 refine TU Y Z (by rw[J.length,O]) (F2 (b:=b) (s:=.one elem aT cells) I z K rfl (fun f hf=>(Kn elem aT s).same f hf) rfl rfl (fun X β' k1 _=>?_) (fun X β' k=>by simp only[aN];rw[k]) U)
 obtain⟨e',b',lo,cs,j1,j2,j3⟩:=TS (H:=H) elem aT s
 refine⟨s,1,.one s,?_,bY _,rfl,Lb k1 (R6 (Ve z A) G) J⟩
 show(H.t.set H.next _).get H.next=_
 rw[GT.eU,aw rfl]
def qR:List an→Option (List VV)
 |[]=>some []
 |a::r=>(sg a).bind fun v=>(qR r).map (v:: ·)
theorem BD:∀{l:List an}{cells:List VV},qR l=some cells→bm H X β cells l
 |[],cells,h=>by simp only[qR,gJ] at h;subst h;simp only[bm]
 |a::r,cells,h=>by
  simp only[qR,z7,CU] at h
  obtain⟨v,z,s,A,rfl⟩:=h
  simp only[bm]
  exact⟨a,r,rfl,FQ z,BD A⟩
theorem T0{elem es aT:Nat}{l:List an}{cells:List VV}(b:Nat)(z:n6 b VE=true)(A:n7 b B=true)(G:qR l=some cells)(I:l.length=es)(J:Q (.vp b 0) ((b,.one elem aT cells)::B)):VI T (.cf elem es aT l) VE B [] Q:=fun _ _ _ H _ K=>by
 refine SN I (F2 (b:=b) (s:=.one elem aT cells) K z A rfl (fun f O=>(Kn elem aT l).same f O) rfl rfl (fun X β' _ _=>?_) (fun X β' k=>by simp only[aN];rw[k]) J)
 refine⟨l,1,.one l,?_,bY _,rfl,BD G⟩
 show(H.t.set H.next _).get H.next=_
 rw[GT.eU,aw rfl]
def Ck(l:List VV)(r:Nat)(new:List VV):List VV:=l.take r++(new++l.drop (r+new.length))
theorem bm.gV{l new:List VV}{s t:List an}(r:Nat)(h:bm H X β l s)(k:bm H X β new t):bm H X β (Ck l r new) (gV s r t):=by
 unfold Ck Ev.gV
 rw[←k.length]
 exact(h.take r).append (k.append (h.drop _))
def xu(VE:b0):List (Nat×Nat×aG)→List VV→Option (List VV)
 |[],cells=>some cells
 |p::r,cells=>(p.2.2.vv VE).bind fun v=>v.cells.bind fun new=>bif Nat.beq new.length p.2.1 then xu VE r (Ck cells p.1 new) else none
theorem JW(A:Rel H0 X0 VE B E H β):∀{ps:List (Nat×Nat×aG)}{cells:List VV}{s:List an}{out:List VV},bm H (XB X0 B β) β cells s→xu VE ps cells=some out→∃t,pI E ps s=some t∧bm H (XB X0 B β) β out t
 |[],cells,s,out,h,z=>by simp only[xu,gJ] at z;subst z;exact⟨s,rfl,h⟩
 |p::r,cells,s,out,h,z=>by
  simp only[xu,z7] at z
  obtain⟨v,I,new,J,z⟩:=z
  obtain⟨a,K,h2⟩:=A.b9 I
  obtain⟨t,O,G⟩:=h2.cells J
  cases he:Nat.beq new.length p.2.1 with
  |false=>rw[he] at z;cases z
  |true=>
   rw[he] at z
   obtain⟨u,U,Y⟩:=JW A (h.gV p.1 G) z
   refine⟨u,?_,Y⟩
   show ob (p.2.2.ev E) none (fun v=>ob (jK v) none fun new=>aH (Nat.beq (jf new) p.2.1) (pI E r (Ev.gV s p.1 new)) none)=some u
   rw[K,dh,O,dh,ou,G.length,he,f9,U]
theorem SV{zero:List an}{ps:List (Nat×Nat×aG)}{z out:List VV}(G:qR zero=some z)(I:xu VE ps z=some out)(J:Q (.agg out) B):VI T (.build zero ps) VE B [] Q:=fun _ _ _ _ _ A=>by
 obtain⟨t,K,h2⟩:=JW A (BD G) I
 exact R1 K (e7 A (v:=.agg out) (by simp only[aN];exact⟨t,rfl,h2⟩) J)
def EK(row:List VV)(o:Nat)(new:List VV):List VV:=bif Nat.beq new.length row.length then new else Ck row o new
theorem bm.bif{t0:Bool}{a b:List VV}{s t:List an}(h:bm H X β a s)(k:bm H X β b t):bm H X β (bif t0 then a else b) (bif t0 then s else t):=by
 cases t0
 ·exact k
 exact h
theorem Wh{f q o n m elem es aT lo:Nat}{l new:List an}{cs:RT}{e:aE}{K:aB→aE}(z:H.t.get f=some (.row elem es aT m lo 0 cs))(h2:lo≤m)(G:q<m)(I:cs.get q=some l)(O:l.length=es)(J:new.length=n)(h0:0<n)(hk:o+n≤es):
  wr H f m (q*es+o) n new e K=K ⟨H.next,H.bc,wrote f H.bc H.ws,H.t.set f (.row elem es aT m m 0 (cs.set q (bif Nat.beq n es then new else gV l o new)))⟩:=by
 cases H with
 |mk next bc ws t=>
  have z:t.get f=some (.row elem es aT m lo 0 cs):=z
  have e1:(q*es+o)/es=q:=by
   by_cases ho:o=es
   ·omega
   rw[mL,Nat.mul_add_div (by omega),M1 (by omega)];rfl
  have e2:(q*es+o) % es=o:=by
   by_cases ho:o=es
   ·omega
   rw[mL,Nat.mul_add_mod,Ax (by omega)]
  show iS (t.get f) e (fun elem gM aT A lo fl cs=>
    aH (Nat.beq fl 0) (aH (Nat.beq m A) (aH (Nat.ble lo m) (aH (Nat.ble (Nat.add (Nat.mod (q*es+o) gM) n) gM) (aH (Nat.ble (Nat.succ (Nat.div (q*es+o) gM)) m) (aH (Nat.beq (jf new) n)
     (ob (cs.get (Nat.div (q*es+o) gM)) e fun l=>cs.gq (Nat.div (q*es+o) gM) (aH (Nat.beq n gM) new (gV l (Nat.mod (q*es+o) gM) new)) fun cs=>t.gq f (.row elem gM aT A A 0 cs) fun t=>K ⟨next,bc,wrote f bc ws,t⟩) e) e) e) e) e) e)=_
  rw[z]
  show aH (Nat.beq 0 0) (aH (Nat.beq m m) (aH (Nat.ble lo m) (aH (Nat.ble (Nat.add (Nat.mod (q*es+o) es) n) es) (aH (Nat.ble (Nat.succ (Nat.div (q*es+o) es)) m) (aH (Nat.beq (jf new) n)
     (ob (cs.get (Nat.div (q*es+o) es)) e fun l=>cs.gq (Nat.div (q*es+o) es) (aH (Nat.beq n es) new (gV l (Nat.mod (q*es+o) es) new)) fun cs=>t.gq f (.row elem es aT m m 0 cs) fun t=>K ⟨next,bc,wrote f bc ws,t⟩) e) e) e) e) e) e=_
  rw[show Nat.mod (q*es+o) es=o from e2,show Nat.div (q*es+o) es=q from e1,show Nat.beq 0 0=true from rfl,f9,show Nat.beq m m=true from iX m,f9,jz h2,f9,
   show Nat.ble (Nat.add o n) es=true from jz hk,f9,show Nat.ble (Nat.succ q) m=true from jz G,f9,ou,J,show Nat.beq n n=true from iX n,f9,I,dh,RT.j8,GT.j8]
  cases Nat.beq n es<;>rfl
theorem SW{call:eF}{n f g o:Nat}{a x:aG}{v:an}{new:List an}(z:a.ev E=some (.ptr f g o))(A:x.ev E=some v)(G:jK v=some new):
  (bE.store n a x).ev call E H=wr H f g o n new (.err 5) fun H=>.ok .undef H:=by
 show bB a E (.err 5) (fun p=>iu p (.err 5) fun f g off=>bB x E (.err 5) fun v=>ob (jK v) (.err 5) fun l=>wr H f g off n l (.err 5) fun H=>.ok .undef H)=_
 rw[dp,z,dh]
 show bB x E (.err 5) (fun v=>ob (jK v) (.err 5) fun l=>wr H f g o n l (.err 5) fun H=>.ok .undef H)=_
 rw[dp,A,dh,G,dh]
theorem BP{v:VV}{a:an}{b:Nat}{s s':BS}(K:Rel H0 X0 VE B E H β)(U:aZ B b=some s)(A:s.born)(hn:H'.next=H.next)(hs:∀f,f≠β b→H'.t.get f=H.t.get f)(hm:H'.bc=H.bc)(hw:H'.ws=wrote (β b) H.bc H.ws)
  (H6:∀X,(∀v a,aN H (XB X0 B β) β v a→aN H' X β v a)→(∀row l,cW H (XB X0 B β) row l→cW H' X row l)→gQ H' X β (β b) s')
  (hv:∀X,aN H' X β v a) (hq:Q v ((b,s')::B)):xV H0 X0 VE B β E H [b] Q a H':=by
 have wi:=K.new b s U A
 have z:∀c t,aZ ((b,s')::B) c=some t→(c=b∧t=s')∨(c≠b∧aZ B c=some t):=fun c t G=>by
  rw[en] at G
  by_cases e:b=c
  ·rw[aw e] at G;cases G;exact .inl ⟨e.symm,rfl⟩
  rw[aj e] at G;exact .inr ⟨fun k=>e k.symm,G⟩
 have hX:∀f,XB X0 ((b,s')::B) β f→XB X0 B β f:=fun f hx=>by
  rcases hx with k|⟨c,t,Y,ho,h2⟩
  ·exact .inl k
  rcases z c t Y with⟨rfl,_⟩|⟨_,O⟩
  ·exact .inr ⟨_,s,U,A,h2⟩
  exact .inr ⟨c,t,O,ho,h2⟩
 have hl:iC H (XB X0 B β) H' (XB X0 ((b,s')::B) β):=⟨by omega,fun f I hx=>⟨fun k=>hx (hX f k),hs f fun e=>hx (.inr ⟨b,s,U,A,e.symm⟩)⟩⟩
 refine⟨v,(b,s')::B,β,⟨hm,by omega,fun f I=>?_,fun c t G ht=>?_,fun f I yJ=>hs f fun e=>yJ b s U A e.symm⟩,⟨K.n8,by rw[hm,hn];exact K.bc,(fun f I=>by rw[hn];exact K.x0 f I),fun c t G J=>?_,fun c e t u G he J PE Z=>?_,fun k w hk=>?_,fun c t G=>?_⟩,hv _,hq⟩
 ·rw[hw] at I
  unfold wrote at I
  cases Y:Nat.ble H.bc (β b) with
  |true=>rw[Y] at I;exact .inl I
  |false=>
   rw[Y] at I
   cases h2:pY (β b) H.ws with
   |true=>rw[h2] at I;exact .inl I
   |false=>
    rw[h2] at I
    rcases List.mem_cons.1 I with rfl|h
    ·refine .inr ⟨?_,b,s,lh ..,U,A,rfl⟩
     by_cases hl:H.bc≤β b
     ·rw[jz hl] at Y;cases Y
     omega
    exact .inl h
 ·rcases z c t G with⟨rfl,_⟩|⟨_,O⟩
  ·exact .inl ⟨s,U,A,rfl⟩
  exact .inl ⟨t,O,ht,rfl⟩
 ·rw[hn]
  rcases z c t G with⟨rfl,_⟩|⟨_,O⟩
  ·exact wi
  exact K.new c t O J
 ·rcases z c t G with⟨rfl,_⟩|⟨_,O⟩<;>rcases z e u he with⟨rfl,_⟩|⟨_,h4⟩
  ·rfl
  ·exact K.inj _ _ _ _ U h4 A PE Z
  ·exact K.inj _ _ _ _ O U J A Z
  exact K.inj _ _ _ _ O h4 J PE Z
 ·obtain⟨a,Y,h2⟩:=K.env k w hk
  exact⟨a,Y,h2.lift hl⟩
 rcases z c t G with⟨rfl,rfl⟩|⟨hcb,O⟩
 ·exact H6 _ (fun v a k=>k.lift hl) (fun row l k=>k.lift hl)
 exact gQ.vW hl (fun J=>hs _ fun e=>hcb (K.inj c b t s O U J A e)) (K.box c t O)
theorem Kp{n:Nat}{a x:aG}{b o elem aT:Nat}{row new:List VV}{v:VV}(ha:a.vv VE=some (.vp b o))(I:aZ B b=some (.one elem aT row))(hx:x.vv VE=some v)(hv:v.cells=some new)(J:new.length=n)(h0:0<n)(hk:o+n≤row.length)(hq:Q .undef ((b,.one elem aT (EK row o new))::B)):VI T (.store n a x) VE B [b] Q:=fun _ X0 _ H β z=>by
 obtain⟨_,h1,h2⟩:=z.b9 ha
 simp only[aN] at h2
 subst h2
 obtain⟨y,h3,h4⟩:=z.b9 hx
 obtain⟨t,h5,O⟩:=h4.cells hv
 obtain⟨l,lo,cs,k1,k2,k3,U⟩:=z.box b _ I
 have ht:t.length=n:=by rw[O.length,J]
 have A:=U.length
 have e:=fun K=>Wh (e:=aE.err 5) (K:=K) (q:=0) (o:=o) (n:=n) (new:=t) k1 k2 Nat.zero_lt_one k3 rfl ht h0 (by omega)
 simp only[rq,jA] at e
 refine⟨0,.undef,_,fun lf m _ _=>by rw[SW h1 h3 h5,e],?_⟩
 refine BP z I trivial rfl (fun f hf=>?_) rfl rfl (fun X Y j2=>?_) (fun X=>by simp only[aN]) hq
 ·show(H.t.set (β b) _).get f=_
  rw[GT.eU,aj hf]
 have hlen:(bif Nat.beq n l.length then t else gV l o t).length=l.length:=by
  cases G:Nat.beq n l.length with
  |true=>have:=dZ G;show t.length=_;omega
  |false=>show(gV l o t).length=_;simp only[gV,bK,nf,iL];omega
 refine⟨bif Nat.beq n l.length then t else gV l o t,1,cs.set 0 (bif Nat.beq n l.length then t else gV l o t),?_,bY _,by rw[RT.eU,aw rfl],?_⟩
 ·show(H.t.set (β b) _).get (β b)=_
  rw[GT.eU,aw rfl,hlen]
 have Z:=FR Y O
 have h8:=FR Y U
 unfold EK
 rw[J,←A]
 exact bm.bif Z (h8.gV o Z)
end
mutual
def VV.zero(b:Nat):VV→Bool
 |.d _=>true
 |.agg l=>vX b l
 |.tuple l=>vX b l
 |.vp c _=>!Nat.beq c b
 |.bp c _ _ _ _=>!Nat.beq c b
 |.rp _ _=>true
 |.bs c _ _=>!Nat.beq c b
 |.ac c n _=>!Nat.beq c b||Nat.beq n 0
 |.fn _ eG=>vX b eG
 |.k _=>true
 |.jq=>true
 |.undef=>true
def vX(b:Nat):List VV→Bool
 |[]=>true
 |v::r=>v.zero b&&vX b r
end
def BS.zero(b:Nat):BS→Bool
 |.one _ _ row=>vX b row
 |_=>true
def xW(b:Nat):b0→Bool
 |[]=>true
 |(_,v)::r=>v.zero b&&xW b r
def sn(b:Nat):br→Bool
 |[]=>!lK b
 |(_,s)::r=>s.zero b&&sn b r
theorem JX{b:Nat}:∀{B:br},sn b B=true→lK b=false
 |[],h=>by simpa[sn] using h
 |(_,_)::r,h=>by
  simp only[sn,eZ] at h
  exact JX h.2
section
variable{T:bf}{H0:Nat→Nat}{X0:Nat→Prop}{VE eh:b0}{B B':br}{E:Env}{H H':aB}{β:Nat→Nat}{X:Nat→Prop}
variable{W:List Nat}{Q:VV→br→Prop}
mutual
theorem aN.zero{b f:Nat}:∀{v:VV}{a:an},v.zero b=true→aN H X β v a→aN H X (fun c=>if c=b then f else β c) v a
 |.d x,_,_,h=>by simp only[aN] at h⊢;exact h
 |.agg l,_,n,h=>by
  simp only[aN,VV.zero] at h n⊢
  obtain⟨cs,e,h⟩:=h
  exact⟨cs,e,bm.zero n h⟩
 |.tuple l,_,n,h=>by
  simp only[aN,VV.zero] at h n⊢
  obtain⟨cs,e,h⟩:=h
  exact⟨cs,e,bm.zero n h⟩
 |.vp c off,_,n,h=>by simp only[aN,VV.zero] at h n⊢;rw[aj (oD n)];exact h
 |.bp c g q off es,_,n,h=>by simp only[aN,VV.zero] at h n⊢;rw[aj (oD n)];exact h
 |.rp row off,_,_,h=>by simp only[aN] at h⊢;exact h
 |.bs c m es,_,n,h=>by simp only[aN,VV.zero] at h n⊢;rw[aj (oD n)];exact h
 |.ac c m es,_,n,h=>by
  simp only[aN,VV.zero,uL] at h n⊢
  rcases n with n|n
  ·rw[aj (oD n)];exact h
  have:=dZ n
  exact h.imp id fun k=>by omega
 |.fn f eG,_,n,h=>by
  simp only[aN,VV.zero] at h n⊢
  obtain⟨cs,e,h⟩:=h
  exact⟨cs,e,bm.zero n h⟩
 |.k x,_,_,h=>by simp only[aN] at h⊢;exact h
 |.jq,_,_,h=>by simp only[aN] at h⊢;exact h
 |.undef,_,_,_=>by simp only[aN]
theorem bm.zero{b f:Nat}:∀{l:List VV}{s:List an},vX b l=true→bm H X β l s→bm H X (fun c=>if c=b then f else β c) l s
 |[],_,_,h=>by simp only[bm] at h⊢;exact h
 |v::r,_,n,h=>by
  simp only[bm,vX,eZ] at h n⊢
  obtain⟨a,s,e,z,h2⟩:=h
  exact⟨a,s,e,aN.zero n.1 z,bm.zero n.2 h2⟩
end
theorem Kq{b:Nat}:∀{VE:b0},xW b VE=true→∀{k:Nat}{v:VV},aZ VE k=some v→v.zero b=true
 |[],_,_,_,h=>by cases h
 |(i,w)::r,z,k,v,h=>by
  simp only[xW,eZ] at z
  rw[en] at h
  by_cases e:i=k
  ·rw[aw e] at h;cases h;exact z.1
  rw[aj e] at h;exact Kq z.2 h
theorem Kr{b:Nat}:∀{B:br},sn b B=true→∀{c:Nat}{s:BS},aZ B c=some s→s.zero b=true
 |[],_,_,_,h=>by cases h
 |(i,w)::r,z,c,s,h=>by
  simp only[sn,eZ] at z
  rw[en] at h
  by_cases e:i=c
  ·rw[aw e] at h;cases h;exact z.1
  rw[aj e] at h;exact Kr z.2 h
theorem Rel.ghost(h:Rel H0 X0 VE B E H β){b k:Nat}(elem aT es:Nat)(hk:aZ VE k=some (.d .nil))(Z:aZ B b=none):Rel H0 X0 ((k,.ac b 0 es)::VE) ((b,.acc elem aT es [])::B) E H β:=by
 have I:∀c s,aZ ((b,BS.acc elem aT es [])::B) c=some s→s.born→aZ B c=some s:=fun c s z ho=>by
  rw[en] at z
  by_cases e:b=c
  ·rw[aw e] at z;cases z;exact absurd rfl ho
  rw[aj e] at z;exact z
 have Y:∀f,XB X0 ((b,BS.acc elem aT es [])::B) β f→XB X0 B β f:=fun f J=>J.imp id fun⟨c,s,A,ho,h2⟩=>⟨c,s,I c s A ho,ho,h2⟩
 have K:iC H (XB X0 B β) H (XB X0 ((b,BS.acc elem aT es [])::B) β):=⟨bY _,fun f _ J=>⟨fun k=>J (Y f k),rfl⟩⟩
 refine⟨h.n8,h.bc,h.x0,fun c s z ho=>h.new c s (I c s z ho) ho,fun c e s t z he O U=>h.inj c e s t (I c s z O) (I e t he U) O U,fun j w G=>?_,fun c s z=>?_⟩
 ·rw[en] at G
  by_cases e:k=j.n
  ·rw[aw e] at G
   cases G
   obtain⟨a,A,h2⟩:=h.env j _ (e▸hk)
   simp only[aN,cO] at h2
   exact⟨a,A,by simp only[aN];exact .inl ⟨trivial,h2⟩⟩
  rw[aj e] at G
  obtain⟨a,A,h2⟩:=h.env j w G
  exact⟨a,A,h2.lift K⟩
 rw[en] at z
 by_cases e:b=c
 ·rw[aw e] at z;cases z;exact .inl rfl
 rw[aj e] at z;exact(h.box c s z).lift K rfl
theorem BI{b elem aT es:Nat}:∀c s,aZ ((b,BS.acc elem aT es [])::B) c=some s→s.born→∃t,aZ B c=some t∧t.born:=fun c s z ho=>by
 rw[en] at z
 by_cases e:b=c
 ·rw[aw e] at z;cases z;exact absurd rfl ho
 rw[aj e] at z;exact⟨s,z,ho⟩
theorem SX{ops:List bt}{Q:b0→br→Prop}(k b elem aT es:Nat)(hk:aZ VE k=some (.d .nil))(z:aZ B b=none)(h:VO T ops ((k,.ac b 0 es)::VE) ((b,.acc elem aT es [])::B) Q):VO T ops VE B Q:=
 fun H0 X0 E H β A=>(h H0 X0 E H β (A.ghost elem aT es hk z)).mono fun _ _ hp=>hp.more BI
theorem Lc{c:IC}{R:Ex→b0→br→Prop}(k b elem aT es:Nat)(hk:aZ VE k=some (.d .nil))(z:aZ B b=none)(h:VC T c ((k,.ac b 0 es)::VE) ((b,.acc elem aT es [])::B) R):VC T c VE B R:=
 fun H0 X0 E H β A=>(h H0 X0 E H β (A.ghost elem aT es hk z)).mono fun _ _ _ hp=>hp.more BI
def kh(H:aB)(X:Nat→Prop)(es:Nat):List (List an)→List (List DC)→Prop
 |[],[]=>True
 |l::ls,r::rs=>(l.length=es∧cW H X r l)∧kh H X es ls rs
 |_,_=>False
theorem kh.length{es:Nat}:∀{ls:List (List an)}{rs:List (List DC)},kh H X es ls rs→ls.length=rs.length
 |[],[],_=>rfl
 |l::ls,r::rs,h=>by simp only[kh] at h;simp[kh.length h.2]
 |[],_::_,h=>by simp[kh] at h
 |_::_,[],h=>by simp[kh] at h
theorem kh.get{es:Nat}:∀{ls:List (List an)}{rs:List (List DC)},kh H X es ls rs→∀{i:Nat}{r:List DC},rs[i]?=some r→∃l,ls[i]?=some l∧l.length=es∧cW H X r l
 |[],[],_,i,r,h=>by simp at h
 |l::ls,r::rs,z,i,x,h=>by
  simp only[kh] at z
  cases i with
  |zero=>simp at h;subst h;exact⟨l,rfl,z.1⟩
  |succ i=>simpa using kh.get z.2 (i:=i) (r:=x) (by simpa using h)
 |[],_::_,h,_,_,_=>by simp[kh] at h
 |_::_,[],h,_,_,_=>by simp[kh] at h
theorem gG.elems{f g es:Nat}(h0:0<es):∀{rows:List (List DC)}{q:Nat},gG H X f g es q rows→∃ls,elems H f g es rows.length (q*es)=some ls∧kh H X es ls rows
 |[],_,_=>⟨[],rfl,trivial⟩
 |row::r,q,h=>by
  simp only[gG] at h
  obtain⟨⟨l,z,h2,A⟩,G⟩:=h
  obtain⟨ls,I,J⟩:=gG.elems h0 G
  refine⟨l::ls,?_,by simp only[kh];exact⟨⟨h2,A⟩,J⟩⟩
  show rd H f g (q*es) es none (fun l=>ob (Ev.elems H f g es r.length (Nat.add (q*es) es)) none fun r=>some (l::r))=_
  have:=D9 (k:=0) (n:=es) (e:=(none:Option (List (List an)))) (c:=fun l=>ob (Ev.elems H f g es r.length (Nat.add (q*es) es)) none fun r=>some (l::r)) z (by omega) h0
  rw[yg,h2] at this
  rw[this,List.drop_zero,qu (by omega)]
  rw[show Nat.add (q*es) es=(q+1)*es by rw[nN,sz];rfl,I]
  rfl
inductive YR(B:br)(es:Nat):VV→List (List DC)→Prop
 |nil:YR B es (.d .nil) []
 |sl {rows:List (List DC)} (h:∀row,row∈rows→row.length=es):YR B es (.d (.sl rows)) rows
 |bs {b elem aT lo gM:Nat} {rows:List (List DC)} (h:aZ B b=some (.arr elem aT es lo rows)):YR B es (.bs b rows.length gM) rows
 |ac {b elem aT gM:Nat} {rows:List (List DC)} (h:aZ B b=some (.acc elem aT es rows)):YR B es (.ac b rows.length gM) rows
theorem YR.elems(K:Rel H0 X0 VE B E H β){es:Nat}{v:VV}{rows:List (List DC)}(U:YR B es v rows)(h0:0<es){a:an}(A:aN H (XB X0 B β) β v a):
  (a= .cb∧rows=[])∨∃f g off e ls,a= .slice f g off rows.length e∧Ev.elems H f g es rows.length off=some ls∧kh H (XB X0 B β) es ls rows:=by
 cases U with
 |nil=>simp only[aN,cO] at A;exact .inl ⟨A,rfl⟩
 |sl h=>
  simp only[aN,cO] at A
  obtain⟨f,g,off,gM,rfl,A⟩:=A
  refine .inr ⟨f,g,off,gM,?_⟩
  rcases A with rfl|⟨_,_,q,ho,G⟩
  ·exact⟨[],rfl,rfl,trivial⟩
  cases rows with
  |nil=>exact⟨[],rfl,rfl,trivial⟩
  |cons row r=>
   have he:gM=es:=by
    simp only[gG] at G
    obtain⟨⟨l,_,h2,I⟩,_⟩:=G
    rw[←h2,I.length,h row (lh ..)]
   subst he
   obtain⟨ls,z,h2⟩:=G.elems h0
   exact⟨ls,rfl,by rw[ho];exact z,h2⟩
 | @bs b elem aT lo gM rows h=>
  simp only[aN] at A
  subst A
  have hk:=K.box b _ h
  refine .inr ⟨β b,rows.length,0,gM,?_⟩
  have:gG H (XB X0 B β) (β b) rows.length es 0 rows:=gG.qT fun i row hi=>by
   have J:lo≤rows.length:=by obtain⟨_,_,_,_,h,_⟩:=hk;exact h
   obtain⟨l,z,h2,I⟩:=hk.cells (g:=rows.length) J (bY _) (List.getElem?_eq_some_iff.1 hi).1 hi
   exact⟨l,by rw[jA];exact z,h2,I⟩
  obtain⟨ls,z,h2⟩:=this.elems h0
  rw[rq] at z
  exact⟨ls,rfl,z,h2⟩
 | @ac b elem aT gM rows h=>
  simp only[aN] at A
  rcases A with⟨z,rfl⟩|⟨_,rfl⟩
  ·exact .inl ⟨rfl,List.length_eq_zero_iff.1 z⟩
  refine .inr ⟨β b,rows.length,0,gM,?_⟩
  have hk:=K.box b _ h
  have:gG H (XB X0 B β) (β b) rows.length es 0 rows:=gG.qT fun i row hi=>by
   rcases hk with rfl|⟨lo,cs,Y,Z,k3⟩
   ·simp at hi
   obtain⟨l,j1,O,j3⟩:=k3 i row hi
   exact⟨l,⟨elem,aT,rows.length,lo,0,cs,by rw[O];exact Y,Z,bY _,by rw[jA];exact(List.getElem?_eq_some_iff.1 hi).1,by rw[jA];exact j1⟩,O,j3⟩
  obtain⟨ls,z,h2⟩:=this.elems h0
  rw[rq] at z
  exact⟨ls,rfl,z,h2⟩
theorem GW{call:eF}{elem es aT:Nat}{x y:aG}{a b:an}{n:Nat}{ls:List (List an)}(z:x.ev E=some a)(A:y.ev E=some b)
  (h:(b= .cb∧n=0∧ls=[])∨∃f g off e,b= .slice f g off n e∧Ev.elems H f g es n off=some ls):(bE.app elem es aT x y).ev call E H=jW elem es aT n ls H a:=by
 show bB x E (.err 26) (fun a=>bB y E (.err 26) fun b=>gP b (.err 26) (jW elem es aT 0 [] H a) fun f g off n _=>
  ob (Ev.elems H f g es n off) (.err 26) fun l=>jW elem es aT n l H a)=_
 rw[dp,z,dh]
 show bB y E (.err 26) (fun b=>gP b (.err 26) (jW elem es aT 0 [] H a) fun f g off n _=>
  ob (Ev.elems H f g es n off) (.err 26) fun l=>jW elem es aT n l H a)=_
 rw[dp,A,dh]
 rcases h with⟨rfl,rfl,rfl⟩|⟨f,g,off,e,rfl,h⟩
 ·rfl
 show ob (Ev.elems H f g es n off) (.err 26) (fun l=>jW elem es aT n l H a)=_
 rw[h,dh]
theorem BQ{ls:List (List an)}{cs:RT}{m q:Nat}:(jt ls cs m).get q=if m≤q∧q<m+ls.length then ls[q-m]?else cs.get q:=tp ls cs m q
theorem Rel.N9(h:Rel H0 X0 VE B E H β){b:Nat}(hE:xW b VE=true)(hB:sn b B=true)(hb:∀s,aZ B b=some s→¬s.born)(hn:H'.next=H.next+1)(hs:∀f,f<H.next→H'.t.get f=H.t.get f)(hm:H'.bc=H.bc){s:BS}
  (Z:∀X β',(∀row l,cW H (XB X0 B β) row l→cW H' X row l)→gQ H' X β' H.next s):
  ∃β',(β' b=H.next∧∀c,c≠b→β' c=β c)∧Rel H0 X0 VE ((b,s)::B) E H' β':=by
 let β':Nat→Nat:=fun c=>if c=b then H.next else β c
 have I:β' b=H.next:=aw rfl
 have z:∀c,c≠b→β' c=β c:=fun c A=>aj A
 have hg:∀c t,aZ ((b,s)::B) c=some t→(c=b∧t=s)∨(c≠b∧aZ B c=some t∧t.zero b=true):=fun c t A=>by
  rw[en] at A
  by_cases e:b=c
  ·rw[aw e] at A;cases A;exact .inl ⟨e.symm,rfl⟩
  rw[aj e] at A
  exact .inr ⟨fun k=>e k.symm,A,Kr hB A⟩
 have hl:iC H (XB X0 B β) H' (XB X0 ((b,s)::B) β'):=⟨by omega,fun f hf hx=>⟨fun k=>by
  rcases k with k|⟨c,t,h1,ho,h2⟩
  ·exact hx (.inl k)
  rcases hg c t h1 with⟨rfl,rfl⟩|⟨A,O,_⟩
  ·rw[I] at h2;omega
  exact hx (.inr ⟨c,t,O,ho,by rw[←h2,z c A]⟩),hs f hf⟩⟩
 have A:∀row l,cW H (XB X0 B β) row l→cW H' (XB X0 ((b,s)::B) β') row l:=fun row l hr=>hr.lift hl
 refine⟨β',⟨I,z⟩,⟨(fun c A=>(z c fun e=>by rw[e,JX hB] at A;cases A).trans (h.n8 c A)),by have:=h.bc;omega,(fun f hf=>by have:=h.x0 f hf;omega),fun c t K U=>?_,fun c e t u K IK U Bf Y=>?_,fun k v hk=>?_,fun c t K=>?_⟩⟩
 ·rcases hg c t K with⟨rfl,rfl⟩|⟨J,O,_⟩
  ·rw[I];exact⟨(fun hx=>by have:=h.x0 _ hx;omega),by omega⟩
  rw[z c J];have:=h.new c t O U;exact⟨this.1,by omega⟩
 ·rcases hg c t K with⟨rfl,rfl⟩|⟨J,O,_⟩<;>rcases hg e u IK with⟨rfl,rfl⟩|⟨Bg,h4,_⟩
  ·rfl
  ·rw[I,z e Bg] at Y;have:=h.new e u h4 Bf;omega
  ·rw[I,z c J] at Y;have:=h.new c t O U;omega
  rw[z c J,z e Bg] at Y;exact h.inj c e t u O h4 U Bf Y
 ·obtain⟨a,h1,h2⟩:=h.env k v hk
  exact⟨a,h1,(aN.zero (Kq hE hk) h2).lift hl⟩
 rcases hg c t K with⟨rfl,rfl⟩|⟨J,O,hno⟩
 ·rw[I];exact Z _ _ A
 rw[z c J]
 have ho:=h.box c t O
 have G:t.born→H'.t.get (β c)=H.t.get (β c):=fun ho=>hs _ (h.new c t O ho).2
 cases t with
 |one elem aT row=>
  obtain⟨l,lo,cs,k1,k2,k3,k4⟩:=ho
  exact⟨l,lo,cs,(G trivial).trans k1,k2,k3,(bm.zero hno k4).lift hl⟩
 |arr elem aT es lo rows=>exact gQ.vW (X:=XB X0 B β) (β:=β') hl G ho
 |acc elem aT es rows=>exact gQ.vW (X:=XB X0 B β) (β:=β') hl G ho
theorem Ks{elem es aT n:Nat}{ls:List (List an)}(h:n*aT≤70368744177664):vJ elem es aT n ls H= .ok (.slice H.next n 0 n es) ⟨H.next+1,H.bc,H.ws,H.t.set H.next (.row elem es aT n n 0 (jt ls .emp 0))⟩:=by
 unfold vJ
 rw[show Nat.ble (Nat.mul n aT) 70368744177664=true from jz h,f9,vo,alloc_eq]
theorem Kt{elem es aT n f m lo:Nat}{ls:List (List an)}{cs:RT}(J:H.t.get f=some (.row elem es aT m lo 0 cs))(K:lo≤m)(h:(m+n)*aT≤70368744177664):
  xn elem es aT n ls H f m 0 m es= .ok (.slice f (m+n) 0 (m+n) es) ⟨H.next,H.bc,wrote f H.bc H.ws,H.t.set f (.row elem es aT (m+n) lo 0 (jt ls cs m))⟩:=by
 cases H with
 |mk next bc ws t=>
  have J:t.get f=some (.row elem es aT m lo 0 cs):=J
  show iS (t.get f) (.err 33) (fun z A my I lo fl cs=>
   aH (Nat.beq 0 0) (aH (Nat.beq m I) (aH (Nat.ble lo m) (aH (Nat.beq m I) (aH (Nat.beq es es) (aH (Nat.beq A es) (aH (Nat.beq fl 1) (aE.err 32)
   (aH (Nat.ble (Nat.mul (Nat.add I n) aT) 70368744177664) (aH (Nat.beq elem z)
    (dr (Nat.add I n) fun G=>sj ls cs I fun cs=>t.gq f (.row z A my G lo fl cs) fun t=>
     .ok (.slice f G 0 G es) ⟨next,bc,wrote f bc ws,t⟩) (.err 32)) (.err 32))) (.err 32)) (.err 32)) (.err 32)) (.err 32)) (.err 32)) (.err 32))=_
  rw[J]
  show aH (Nat.beq 0 0) (aH (Nat.beq m m) (aH (Nat.ble lo m) (aH (Nat.beq m m) (aH (Nat.beq es es) (aH (Nat.beq es es) (aH (Nat.beq 0 1) (aE.err 32)
   (aH (Nat.ble (Nat.mul (Nat.add m n) aT) 70368744177664) (aH (Nat.beq elem elem)
    (dr (Nat.add m n) fun G=>sj ls cs m fun cs=>t.gq f (.row elem es aT G lo 0 cs) fun t=>
     .ok (.slice f G 0 G es) ⟨next,bc,wrote f bc ws,t⟩) (.err 32)) (.err 32))) (.err 32)) (.err 32)) (.err 32)) (.err 32)) (.err 32)) (.err 32)=_
  rw[show Nat.beq 0 0=true from rfl,f9,show Nat.beq m m=true from iX m,f9,jz K,f9,f9,show Nat.beq es es=true from iX es,f9,f9,
   show aH (Nat.beq 0 1) (aE.err 32) _=_ from rfl,show Nat.ble (Nat.mul (Nat.add m n) aT) 70368744177664=true from jz h,f9,show Nat.beq elem elem=true from iX elem,f9,im,vo,GT.j8]
  rfl
theorem ey{elem es aT:Nat}{x y:aG}{b:Nat}{rows ys:List (List DC)}{vy:VV}(hx:x.vv VE=some (.ac b rows.length es))(hb:aZ B b=some (.acc elem aT es rows))(hy:y.vv VE=some vy)(Bh:YR B es vy ys)(h0:0<es)
  (A:(rows++ys).length*aT≤70368744177664) (hE:rows=[]→xW b VE=true) (hB:rows=[]→sn b B=true)
  (O:Q (.ac b (rows++ys).length es) ((b,.acc elem aT es (rows++ys))::B)):VI T (.app elem es aT x y) VE B [b] Q:=fun _ X0 _ H β I=>by
 obtain⟨a,h1,h2⟩:=I.b9 hx
 obtain⟨c,h3,h4⟩:=I.b9 hy
 obtain⟨ls,J,he⟩:∃ls,kh H (XB X0 B β) es ls ys∧((c= .cb∧ys.length=0∧ls=[])∨∃f g off e,c= .slice f g off ys.length e∧Ev.elems H f g es ys.length off=some ls):=by
  rcases Bh.elems I h0 h4 with⟨U,rfl⟩|⟨f,g,off,e,ls,U,k2,k3⟩
  ·exact⟨[],trivial,.inl ⟨U,rfl,rfl⟩⟩
  exact⟨ls,k3,.inr ⟨f,g,off,e,U,k2⟩⟩
 have K:∀call,(bE.app elem es aT x y).ev call _ H=jW elem es aT ys.length ls H a:=fun call=>GW h1 h3 he
 have jj:=J.length
 cases ys with
 |nil=>
  rw[yf] at O
  have Y:jW elem es aT 0 ls H a= .ok a H:=by
   simp only[aN] at h2
   rcases h2 with⟨_,rfl⟩|⟨_,rfl⟩<;>rfl
  have G:∀k s,aZ ((b,BS.acc elem aT es rows)::B) k=some s→aZ B k=some s:=fun k s hk=>by
   rw[en] at hk
   by_cases e:b=k
   ·rw[aw e] at hk;cases hk;exact e▸hb
   rw[aj e] at hk;exact hk
  refine gf (fun call=>(K call).trans Y) ⟨_,_,β,iH.refl.Hx fun k s hk ho=>⟨s,G k s hk,ho⟩,I.Ap (B':=(b,.acc elem aT es rows)::B) G,?_,O⟩
  simp only[aN] at h2⊢
  exact h2
 |cons y0 yr=>
  have hA:jW elem es aT (y0::yr).length ls H a=gP a (.err 34) (vJ elem es aT (y0::yr).length ls H) (xn elem es aT (y0::yr).length ls H):=rfl
  generalize Z:y0::yr=ys at*
  have yo:0<ys.length:=by rw[←Z];simp
  cases rows with
  |nil=>
   have Y:a= .cb:=by
    simp only[aN,dO] at h2
    rcases h2 with⟨_,h⟩|⟨h,_⟩
    ·exact h
    omega
   subst Y
   rw[Em] at O A
   obtain⟨β',⟨hβ,H7⟩,qD⟩:=I.N9 (b:=b) (s:=.acc elem aT es ys) (H':=⟨H.next+1,H.bc,H.ws,H.t.set H.next (.row elem es aT ys.length ys.length 0 (jt ls .emp 0))⟩) (hE rfl) (hB rfl) (fun s hs ho=>by rw[hb] at hs;cases hs;exact ho rfl) rfl
    (fun f hf=>by show(H.t.set H.next _).get f=_;rw[GT.eU,aj (by omega)]) rfl (fun X β' k=>.inr ⟨ys.length,jt ls .emp 0,by show(H.t.set H.next _).get H.next=_;rw[GT.eU,aw rfl],bY _,fun i row hi=>by
     obtain⟨l,j1,j2,j3⟩:=J.get hi
     refine⟨l,?_,j2,k _ _ j3⟩
     rw[BQ,aw ⟨df _,by have:=(List.getElem?_eq_some_iff.1 hi).1;omega⟩,Er]
     exact j1⟩)
   refine gf (fun call=>(K call).trans (hA.trans (Ks A))) ⟨_,_,β',⟨rfl,sw _,fun _ h=>.inl h,fun c t hc ht=>?_,fun f hf _=>by show(H.t.set H.next _).get f=_;rw[GT.eU,aj (by omega)]⟩,qD,?_,O⟩
   ·rw[en] at hc
    by_cases e:b=c
    ·subst e;exact .inr (by rw[hβ];exact bY _)
    rw[aj e] at hc
    exact .inl ⟨t,hc,ht,H7 c fun k=>e k.symm⟩
   simp only[aN,hβ]
   exact .inr ⟨yo,trivial⟩
  |cons r0 rr=>
   generalize z:r0::rr=rows at*
   have lp:rows≠[]:=by rw[←z];simp
   have hrpos:0<rows.length:=by rw[←z];simp
   have Y:a= .slice (β b) rows.length 0 rows.length es:=by
    simp only[aN] at h2
    rcases h2 with⟨h,_⟩|⟨_,h⟩
    ·omega
    exact h
   subst Y
   rcases I.box b _ hb with h|⟨lo,cs,U,k2,k3⟩
   ·exact absurd h lp
   rw[bK] at A
   refine⟨0,_,_,fun lf n _ _=>(K _).trans (hA.trans (Kt U k2 A)),?_⟩
   refine BP (s':=.acc elem aT es (rows++ys)) I hb lp rfl (fun f hf=>?_) rfl rfl (fun X _ j2=>.inr ⟨lo,jt ls cs rows.length,?_,by rw[bK];omega,fun i row hi=>?_⟩) (fun X=>?_) O
   ·show(H.t.set (β b) _).get f=_
    rw[GT.eU,aj hf]
   ·show(H.t.set (β b) _).get (β b)=_
    rw[GT.eU,aw rfl,bK]
   ·rw[BQ]
    have uZ:=(List.getElem?_eq_some_iff.1 hi).1
    rw[bK] at uZ
    by_cases e:rows.length≤i
    ·rw[aw ⟨e,by omega⟩]
     rw[v8 e] at hi
     obtain⟨l,j3,j4,j5⟩:=J.get hi
     exact⟨l,j3,j4,j2 _ _ j5⟩
    rw[aj (fun k=>e k.1)]
    rw[qv (by omega)] at hi
    obtain⟨l,j3,j4,j5⟩:=k3 i row hi
    exact⟨l,j3,j4,j2 _ _ j5⟩
   simp only[aN]
   exact .inr ⟨by rw[bK];omega,by rw[bK]⟩
end
section
variable{T:bf}{H0:Nat→Nat}{X0:Nat→Prop}{VE eh:b0}{B B':br}{E:Env}{H H':aB}{β:Nat→Nat}{X:Nat→Prop}
variable{W:List Nat}{Q:VV→br→Prop}
theorem zx{x:aG}{b n es:Nat}(I:x.vv VE=some (.ac b n es))(A:Q (.d (.i .i64 n)) B):VI T (.len x) VE B [] Q:=fun _ _ _ _ _ z=>by
 obtain⟨_,G,h2⟩:=z.b9 I
 simp only[aN] at h2
 rcases h2 with⟨rfl,rfl⟩|⟨_,rfl⟩
 ·exact JH G (e7 z (v:=.d (.i .i64 (0:Nat))) (by simp only[aN,cO];rfl) A)
 exact Gx G (e7 z (v:=.d (.i .i64 n)) (by simp only[aN,cO]) A)
theorem gQ.Vg{f elem aT es:Nat}{rows:List (List DC)}(h:gQ H X β f (.acc elem aT es rows)){q:Nat}{row:List DC}(z:rows[q]?=some row):∃l,mm H f rows.length q l∧l.length=es∧cW H X row l:=by
 have I:=(List.getElem?_eq_some_iff.1 z).1
 rcases h with rfl|⟨A,cs,J,K,O⟩
 ·simp at z
 obtain⟨l,U,G,Y⟩:=O q row z
 exact⟨l,⟨elem,aT,rows.length,A,0,cs,by rw[G];exact J,K,bY _,I,U⟩,G,Y⟩
def DC.ff(rows:List (List DC)):DC:=match rows with|[]=>.nil|x::r=>.sl (x::r)
theorem DC.qO{rows:List (List DC)}(h:rows≠[]):DC.ff rows= .sl rows:=by
 cases rows with
 |nil=>exact absurd rfl h
 |cons x r=>rfl
mutual
def VV.sJ(b:Nat)(x:DC):VV→VV
 |.agg l=>.agg (D' b x l)
 |.ac c n es=>bif Nat.beq c b then .d x else .ac c n es
 |v=>v
def D'(b:Nat)(x:DC):List VV→List VV
 |[]=>[]
 |v::r=>v.sJ b x::D' b x r
end
mutual
def VV.wC(b n es:Nat):VV→Prop
 |.agg l=>EL b n es l
 |.ac c m e=>c=b→m=n∧e=es
 |.bs c _ _=>c≠b
 |_=>True
def EL(b n es:Nat):List VV→Prop
 |[]=>True
 |v::r=>v.wC b n es∧EL b n es r
end
theorem Rel.sJ(J:Rel H0 X0 VE B E H β){b elem aT es:Nat}{rows:List (List DC)}(O:aZ B b=some (.acc elem aT es rows)){k:Nat}{v:VV}(hv:aZ VE k=some v)(ho:v.wC b rows.length es):
  Rel H0 X0 ((k,v.sJ b (.ff rows))::VE) (hH B b) E H β:=by
 have U:=J.drop b
 have G:∀c s,aZ (hH B b) c=some s→b≠c∧aZ B c=some s:=fun c s z=>by
  rw[vx] at z
  by_cases e:b=c
  ·rw[aw e] at z;cases z
  rw[aj e] at z;exact⟨e,z⟩
 have Y:rows≠[]→¬XB X0 (hH B b) β (β b):=by
  rintro A(h|⟨c,s,z,Z,h2⟩)
  ·exact(J.new b _ O A).1 h
  exact(G c s z).1 (J.inj c b s _ (G c s z).2 O Z A h2).symm
 have hl:iC H (XB X0 B β) H (XB X0 (hH B b) β):=⟨bY _,fun f _ Y=>⟨fun k=>Y (k.imp id fun⟨c,s,z,h2⟩=>⟨c,s,(G c s z).2,h2⟩),rfl⟩⟩
 have K:rows≠[]→cO H (XB X0 (hH B b) β) (.sl rows) (.slice (β b) rows.length 0 rows.length es):=fun A=>by
  simp only[cO]
  refine⟨β b,rows.length,0,es,rfl,.inr ⟨Y A,(J.new b _ O A).2,0,by simp,gG.qT fun i row hi=>?_⟩⟩
  obtain⟨l,z,h2,h3⟩:=(J.box b _ O).Vg hi
  exact⟨l,by rw[jA];exact z,h2,h3.lift hl⟩
 have main:(∀v:VV,v.wC b rows.length es→∀a,aN H (XB X0 (hH B b) β) β v a→aN H (XB X0 (hH B b) β) β (v.sJ b (.ff rows)) a):=by
  intro v
  refine VV.rec (motive_1:=fun v=>v.wC b rows.length es→∀a,aN H (XB X0 (hH B b) β) β v a→aN H (XB X0 (hH B b) β) β (v.sJ b (.ff rows)) a)
   (motive_2:=fun l=>EL b rows.length es l→∀s,bm H (XB X0 (hH B b) β) β l s→bm H (XB X0 (hH B b) β) β (D' b (.ff rows) l) s) ?_ ?_ ?_ ?_ ?_ ?_ ?_ ?_ ?_ ?_ ?_ ?_ ?_ ?_ v
  ·intro x _ a h;exact h
  ·intro l ih ho a h
   simp only[aN,VV.sJ,VV.wC] at h ho⊢
   obtain⟨cs,e,h⟩:=h
   exact⟨cs,e,ih ho cs h⟩
  ·intro l _ _ a h;exact h
  ·intro c o _ a h;exact h
  ·intro c g q o e _ a h;exact h
  ·intro row o _ a h;exact h
  ·intro c n e ho a h;exact h
  ·intro c n e ho a h
   simp only[VV.sJ,VV.wC] at h ho⊢
   by_cases I:c=b
   ·obtain⟨rfl,rfl⟩:=ho I
    subst I
    rw[show Nat.beq c c=true from iX c]
    simp only[aN] at h
    show aN H _ β (.d (.ff rows)) _
    simp only[aN]
    rcases h with⟨z,rfl⟩|⟨z,rfl⟩
    ·rw[List.length_eq_zero_iff.1 z]
     simp only[DC.ff,cO]
    have A:rows≠[]:=fun e=>by rw[e] at z;simp at z
    rw[DC.qO A]
    exact K A
   have:Nat.beq c b=false:=by
    cases hq:Nat.beq c b
    ·rfl
    exact absurd (dZ hq) I
   rw[this];exact h
  ·intro f c _ _ a h;exact h
  ·intro x _ a h;exact h
  ·intro _ a h;exact h
  ·intro _ a h;exact h
  ·intro _ s h;exact h
  intro v r ih1 IL ho s h
  simp only[bm,D',EL] at h ho⊢
  obtain⟨a,s,e,z,h2⟩:=h
  exact⟨a,s,e,ih1 ho.1 a z,IL ho.2 s h2⟩
 refine{U with env:=fun c w I=>?_}
 rw[en] at I
 by_cases e:k=c.n
 ·rw[aw e] at I
  cases I
  obtain⟨a,z,h2⟩:=U.env c v (e▸hv)
  exact⟨a,z,main v ho a h2⟩
 rw[aj e] at I
 exact U.env c w I
theorem fx{ops:List bt}{Q:b0→br→Prop}(k b:Nat){v:VV}{elem aT es:Nat}{rows:List (List DC)}(z:aZ VE k=some v)(A:aZ B b=some (.acc elem aT es rows))(ho:v.wC b rows.length es)(h:VO T ops ((k,v.sJ b (.ff rows))::VE) (hH B b) Q):VO T ops VE B Q:=
 fun H0 X0 E H β G=>(h H0 X0 E H β (G.sJ A z ho)).mono fun _ _ hp=>hp.more K4
theorem bm.data{row:List DC}{l:List VV}{s:List an}(h:lP l=some row)(k:bm H X β l s):cW H X row s:=cW.zu (β:=β) (LP h▸k)
def vi(VE:b0)(es z:Nat):List (Nat×aG)→List (List DC)→Option (List (List DC))
 |[],rows=>some rows
 |p::r,rows=>(p.2.vv VE).bind fun v=>v.cells.bind fun new=>(lP new).bind fun row=>bif Nat.beq row.length es&&Nat.ble (Nat.succ p.1) z then vi VE es z r (rows.set p.1 row) else none
theorem Ji(K:Rel H0 X0 VE B E H β){es A:Nat}:∀{ps:List (Nat×aG)}{rows out:List (List DC)}{t:RT},(rows.length=A∧∀q row,rows[q]?=some row→∃l,t.get q=some l∧l.length=es∧cW H (XB X0 B β) row l)→vi VE es A ps rows=some out→
  ∃t',qh E es A ps t=some t'∧out.length=A∧∀q row,out[q]?=some row→∃l,t'.get q=some l∧l.length=es∧cW H (XB X0 B β) row l
 |[],rows,out,t,h,z=>by simp only[vi,gJ] at z;subst z;exact⟨t,rfl,h⟩
 |p::r,rows,out,t,h,z=>by
  simp only[vi,z7] at z
  obtain⟨v,U,new,Y,row,I,z⟩:=z
  obtain⟨a,Z,h2⟩:=K.b9 U
  obtain⟨s,h3,h4⟩:=h2.cells Y
  have O:=h4.data I
  have hl:s.length=row.length:=O.length
  cases he:(Nat.beq row.length es&&Nat.ble (Nat.succ p.1) A) with
  |false=>rw[he] at z;cases z
  |true=>
   rw[he] at z
   simp only[eZ] at he
   have e1:=dZ he.1
   have e2:=bW he.2
   have z:vi VE es A r (rows.set p.1 row)=some out:=z
   obtain⟨t',k1,k2⟩:=Ji K (t:=t.set p.1 s) ⟨by rw[VY];exact h.1,fun q J G=>by
    rw[RT.eU]
    rw[List.getElem?_set] at G
    by_cases e:q=p.1
    ·subst e
     rw[aw rfl] at G⊢
     rw[aw (by rw[h.1];exact e2)] at G
     cases G
     exact⟨s,rfl,by omega,O⟩
    rw[aj (fun k=>e k.symm)] at G
    rw[aj e]
    exact h.2 q J G⟩ z
   refine⟨t',?_,k2⟩
   show ob (p.2.ev E) none (fun v=>ob (jK v) none fun new=>aH (Nat.beq (jf new) es) (aH (Nat.ble (Nat.succ p.1) A) (qh E es A r (t.set p.1 new)) none) none)=some t'
   rw[Z,dh,h3,dh,ou,hl,he.1,f9,he.2,f9,k1]
theorem Rm{elem es aT G:Nat}{zero:List an}{z:List VV}{U:List DC}{ps:List (Nat×aG)}{rows:List (List DC)}(b:Nat)(Z:n6 b VE=true)(hB:n7 b B=true)(hz:qR zero=some z)(I:lP z=some U)(J:zero.length=es)(hb:vi VE es G ps (List.replicate G U)=some rows)
  (hq:Q (.bs b G es) ((b,.arr elem aT es G rows)::B)):VI T (.cH elem es aT G zero ps) VE B [] Q:=fun _ _ E H β Y=>by
 obtain⟨t,h1,h2,h3⟩:=Ji Y (t:=pP zero G) ⟨VW,fun q row A=>by
  rw[VX] at A
  split at A
  ·rename_i K
   cases A
   exact⟨zero,by rw[FZ,aw K],J,(BD (β:=β) hz).data I⟩
  cases A⟩ hb
 have O:∀call,(bE.cH elem es aT G zero ps).ev call E H= .ok (.slice H.next G 0 G es) ⟨H.next+1,H.bc,H.ws,H.t.set H.next (.row elem es aT G G 0 t)⟩:=fun call=>by
  show ob (qh E es G ps (pP zero G)) (.err 24) (fun t=>H.alloc (.row elem es aT G G 0 t) fun f H=>.ok (.slice f G 0 G es) H)=_
  rw[h1,dh,alloc_eq]
 refine gf O (F2 (b:=b) (s:=.arr elem aT es G rows) Y Z hB rfl (fun f hf=>by show(H.t.set H.next _).get f=_;rw[GT.eU,aj (by omega)]) rfl rfl (fun X β' _ k2=>?_) (fun X β' k=>by simp only[aN];rw[k]) hq)
 refine⟨G,t,by show(H.t.set H.next _).get H.next=_;rw[GT.eU,aw rfl,h2],bY _,by omega,fun q row A=>?_⟩
 obtain⟨l,j1,j2,j3⟩:=h3 q row A
 exact⟨l,j1,j2,k2 _ _ j3⟩
end
section
variable{T:bf}{H0:Nat→Nat}{X0:Nat→Prop}{VE eh:b0}{B B':br}{E:Env}{H H':aB}{β:Nat→Nat}{X:Nat→Prop}
variable{W:List Nat}{Q:VV→br→Prop}
theorem cW.append{z A:List DC}{G I:List an}(h:cW H X z G)(k:cW H X A I):cW H X (z++A) (G++I):=by
 have K:=bm.tC (β:=fun _=>0) h
 have h2:=bm.tC (β:=fun _=>0) k
 have J:=K.append h2
 rw[←dT] at J
 exact cW.zu J
theorem cW.take{r:List DC}{l:List an}(n:Nat)(h:cW H X r l):cW H X (r.take n) (l.take n):=by simpa using h.La 0 n
theorem cW.drop{r:List DC}{l:List an}(n:Nat)(h:cW H X r l):cW H X (r.drop n) (l.drop n):=by
 have z:=bm.drop n (bm.tC (β:=fun _=>0) h)
 rw[←List.map_drop] at z
 exact cW.zu z
theorem cW.bif{t0:Bool}{a b:List DC}{s t:List an}(h:cW H X a s)(k:cW H X b t):cW H X (bif t0 then a else b) (bif t0 then s else t):=by
 cases t0
 ·exact k
 exact h
theorem cW.gV{row z:List DC}{l t:List an}(o:Nat)(h:cW H X row l)(k:cW H X z t):cW H X (row.take o++(z++row.drop (o+z.length))) (gV l o t):=by
 unfold Ev.gV
 rw[←k.length]
 exact(h.take o).append (k.append (h.drop (o+t.length)))
def bX(T:bf)(f:Nat)(args:List VV)(Bi:br)(Q:VV→br→Prop):Prop:=
 ∀(H0:Nat→Nat)(X:Nat→Prop)(H:aB)(β:Nat→Nat)(l:List an),Rel H0 X [] Bi .emp H β→bm H (XB X Bi β) β args l→
  s9 T f l H fun a H'=>∃r B' β',iH Bi β H (fun _=>True) B' β' H'∧Rel H0 X [] B' .emp H' β'∧aN H' (XB X B' β') β' r a∧Q r B'
theorem bX.mono{f:Nat}{args:List VV}{Bi:br}{Q z:VV→br→Prop}(h:bX T f args Bi Q)(k:∀v B,Q v B→z v B):bX T f args Bi z:=fun H0 X H β l A h2=>
 (h H0 X H β l A h2).mono fun _ _⟨r,B',β',a,b,c,d⟩=>⟨r,B',β',a,b,c,k _ _ d⟩
def Sound(T:bf)(f:Nat)(args:List VV)(Q:VV→Prop):Prop:=bX T f args [] fun r _=>r.nb∧Q r
theorem Sound.mono{f:Nat}{args:List VV}{Q z:VV→Prop}(h:Sound T f args Q)(k:∀v,Q v→z v):Sound T f args z:=bX.mono h fun v _ hp=>⟨hp.1,k v hp.2⟩
def iU(VE:b0):List aG→Option (List VV)
 |[]=>some []
 |x::r=>(x.vv VE).bind fun v=>(iU VE r).map (v:: ·)
theorem vk(z:Rel H0 X0 VE B E H β):∀{l:List aG}{args:List VV},iU VE l=some args→∃vs,jF E l=some vs∧bm H (XB X0 B β) β args vs
 |[],args,h=>by simp only[iU,gJ] at h;subst h;exact⟨[],rfl,by simp only[bm]⟩
 |x::r,args,h=>by
  simp only[iU,z7,CU] at h
  obtain⟨v,A,s,G,rfl⟩:=h
  obtain⟨a,I,h2⟩:=z.b9 A
  obtain⟨vs,J,K⟩:=vk z G
  exact⟨a::vs,K0 I J,by simp only[bm];exact⟨a,vs,rfl,h2,K⟩⟩
theorem Rel.lt(z:Rel H0 X0 VE B E H β):∀f,XB X0 B β f→f<H.next:=fun f A=>by
 rcases A with h|⟨b,s,G,ho,rfl⟩
 ·exact z.x0 f h
 exact(z.new b s G ho).2
theorem Rel.start{H0:Nat→Nat}{X:Nat→Prop}{H:aB}{E:Env}(z:H.bc≤H.next)(A:∀f,X f→f<H.next):Rel H0 X [] [] E H H0:=
 ⟨fun _ _=>rfl,z,A,fun _ _ h=>(by cases h),fun _ _ _ _ h=>(by cases h),fun _ _ h=>(by cases h),fun _ _ h=>(by cases h)⟩
theorem MN{X:Nat→Prop}{β:Nat→Nat}:∀f,XB X [] β f→X f:=fun f h=>by
 rcases h with h|⟨_,_,h,_⟩
 ·exact h
 cases h
theorem Ld{f:Nat}{vs:List an}{args:List VV}{P:VV→Prop}(hn:mf args)(h:Sound T f args P)(Z:∀r,r.nb→P r→Q r B)(G:Rel H0 X0 VE B E H β)(h2:bm H (XB X0 B β) β args vs):s9 T f vs H (xV H0 X0 VE B β E H W Q):=by
 have I:iC H (XB X0 B β) H (XB (XB X0 B β) [] β):=⟨bY _,fun f _ J=>⟨fun k=>J (MN f k),rfl⟩⟩
 refine(h β (XB X0 B β) H β vs (Rel.start G.bc G.lt) (h2.lift I)).mono fun a H' hp=>?_
 obtain⟨r,B',β',z,K,hv,U,k8⟩:=hp
 have Y:∀f,f<H.next→H'.t.get f=H.t.get f:=fun f A=>z.ta f A fun _ _ k=>by cases k
 have O:iC H' (XB (XB X0 B β) B' β') H' (XB X0 B β):=⟨bY _,fun f _ J=>⟨fun k=>J (.inl k),rfl⟩⟩
 exact⟨r,B,β,⟨z.bc,z.next,fun f A=>(z.ws f A).imp id (fun⟨_,_,_,_,k,_⟩=>by cases k),fun _ s k1 k2=>.inl ⟨s,k1,k2,rfl⟩,fun f A _=>Y f A⟩,G.grow z.next Y K.bc,(hv.lift O).nb U,Z r U k8⟩
theorem pD{f:Nat}{l:List aG}{args:List VV}{P:VV→Prop}(A:iU VE l=some args)(G:mf args)(h:Sound T f args P)(I:∀r,r.nb→P r→Q r B):VI T (.call f l) VE B [] Q:=fun H0 X0 E H β z=>by
 obtain⟨vs,J,h2⟩:=vk z A
 exact Ge J (Ld G h I z h2)
def AS:List Key→List VV→b0→b0
 |k::ks,v::vs,VE=>AS ks vs ((k.n,v)::VE)
 |_,_,VE=>VE
theorem Le:∀{ks:List Key}{args:List VV}{l:List an}{VE:b0}{E:Env},Rel H0 X0 VE B E H β→bm H (XB X0 B β) β args l→ks.length=args.length→Rel H0 X0 (AS ks args VE) B (EF ks l E) H β
 |[],[],l,VE,E,h,k,_=>by simp only[bm] at k;subst k;exact h
 |x::ks,v::vs,l,VE,E,h,k,z=>by
  simp only[bm] at k
  obtain⟨a,s,rfl,A,G⟩:=k
  show Rel H0 X0 (AS ks vs ((x.n,v)::VE)) B (EF ks s (E.set x a)) H β
  exact Le (h.set (d:=x) A) G (by simpa using z)
 |[],_::_,_,_,_,_,_,h=>by simp at h
 |_::_,[],_,_,_,_,_,h=>by simp at h
def H8(VE:b0)(B:br):lJ→Option VV
 |.tmp k=>aZ VE k.n
 |.cell k n agg=>match aZ VE k.n with
  |some (.vp b o)=>match aZ B b with
   |some (.one _ _ row)=>bif Nat.ble 1 n&&Nat.ble (o+n) row.length then(bif agg then some (.agg ((row.drop o).take n)) else match(row.drop o).take n with|[v]=>some v|_=>none) else none
   |_=>none
  |_=>none
def uB(VE:b0)(B:br):List lJ→Option (List VV)
 |[]=>some []
 |r::rs=>(H8 VE B r).bind fun v=>(uB VE B rs).map (v:: ·)
def gr:List VV→VV
 |[v]=>v
 |l=>.tuple l
theorem SY(J:Rel H0 X0 VE B E H β){r:lJ}{v:VV}(h:H8 VE B r=some v):∃a,aN H (XB X0 B β) β v a∧∀{e:aE}{k:an→aE},ym E H r e k=k a:=by
 cases r with
 |tmp t=>
  obtain⟨a,I,h2⟩:=J.env t v h
  refine⟨a,h2,fun{e k}=>?_⟩
  show ob (E.get t) e k=k a
  rw[I,dh]
 |cell a n agg=>
  simp only[H8] at h
  split at h
  ·rename_i b o O
   split at h
   ·rename_i elem aT row U
    obtain⟨pa,I,h2⟩:=J.env a _ O
    simp only[aN] at h2
    subst h2
    obtain⟨l,Y,K⟩:=(J.box b _ U).y8
    cases A:(Nat.ble 1 n&&Nat.ble (o+n) row.length) with
    |false=>rw[A] at h;cases h
    |true=>
     rw[A] at h
     simp only[eZ] at A
     have e1:=bW A.1
     have e2:=bW A.2
     have G:∀{e:aE}{k:List an→aE},rd H (β b) 1 o n e k=k ((l.drop o).take n):=fun{e k}=>by
      have:=D9 (k:=o) (n:=n) (e:=e) (c:=k) Y (by rw[K.length];exact e2) (by omega)
      rwa [rq,jA] at this
     have z:=bm.take n (bm.drop o K)
     cases agg with
     |true=>
      have h:some (VV.agg ((row.drop o).take n))=some v:=h
      cases h
      refine⟨.agg ((l.drop o).take n),by simp only[aN];exact⟨_,rfl,z⟩,fun{e k}=>?_⟩
      show ob (E.get a) e (fun v=>iu v e fun f g off=>rd H f g off n e fun l=>iG true l e k)=_
      rw[I,dh]
      show rd H (β b) 1 o n e (fun l=>iG true l e k)=_
      rw[G];rfl
     |false=>
      have h:(match(row.drop o).take n with|[v]=>some v|_=>none)=some v:=h
      split at h
      ·rename_i w Z
       cases h
       rw[Z] at z
       simp only[bm] at z
       obtain⟨x,s,hs,hx,rfl⟩:=z
       refine⟨x,hx,fun{e k}=>?_⟩
       show ob (E.get a) e (fun v=>iu v e fun f g off=>rd H f g off n e fun l=>iG false l e k)=_
       rw[I,dh]
       show rd H (β b) 1 o n e (fun l=>iG false l e k)=_
       rw[G,hs];rfl
      cases h
   cases h
  cases h
theorem Ku(z:Rel H0 X0 VE B E H β):∀{rs:List lJ}{vs:List VV},uB VE B rs=some vs→∃l,bm H (XB X0 B β) β vs l∧∀{e:aE}{k:List an→aE},uw E H rs e k=k l
 |[],vs,h=>by simp only[uB,gJ] at h;subst h;exact⟨[],by simp only[bm],rfl⟩
 |r::rs,vs,h=>by
  simp only[uB,z7,CU] at h
  obtain⟨v,A,s,G,rfl⟩:=h
  obtain⟨a,I,h2⟩:=SY z A
  obtain⟨l,J,K⟩:=Ku z G
  refine⟨a::l,by simp only[bm];exact⟨a,l,rfl,I,J⟩,fun{e k}=>?_⟩
  show ym E H r e (fun v=>uw E H rs e fun vs=>k (v::vs))=_
  rw[h2,K]
def ki(rs:List lJ)(P:VV→br→Prop):Ex→b0→br→Prop
 |.exit _,_,_=>False
 |_,VE,B=>∃vs Bn,uB VE B rs=some vs∧bw Bn B∧P (gr vs) Bn
def OT(rs:List lJ)(P:VV→Prop):Ex→b0→br→Prop
 |.exit _,_,_=>False
 |_,VE,B=>∃vs,uB VE B rs=some vs∧mf vs∧P (gr vs)
theorem cr{f:Nat}{fn:bA}{args:List VV}{Bi:br}{P:VV→br→Prop}(hf:T.ft.get f=some fn)(hl:fn.ps.length=args.length)(h:VC T fn.body (AS fn.ps args []) Bi (ki fn.res P)):bX T f args Bi P:=by
 intro H0 X H β l h0 z
 have hr:=Le (ks:=fn.ps) h0 z hl
 refine Va hf (by rw[hl,z.length]) ((h H0 X _ H _ hr).mono fun x E' H' hp=>?_)
 obtain⟨eh,B',β',hw,K,O⟩:=hp
 have key:(∃vs Bn,uB eh B' fn.res=some vs∧bw Bn B'∧P (gr vs) Bn)→∃v,results E' H' fn.res= .ok v H'∧∃r B' β',iH Bi β H (fun _=>True) B' β' H'∧Rel H0 X [] B' .emp H' β'∧aN H' (XB X B' β') β' r v∧P r B':=by
  rintro⟨vs,Bn,k1,U,Y⟩
  have Z:=K.Ap (B':=Bn) fun _ _ hk=>U.get hk
  have G:Rel H0 X [] Bn .emp H' β':={Z with env:=fun _ _ k=>by cases k}
  have I:iH Bi β H (fun _=>True) Bn β' H':=hw.Hx fun b s h1 h2=>⟨s,U.get h1,h2⟩
  obtain⟨l',k4,k5⟩:=Ku K k1
  have j0:iC H' (XB X B' β') H' (XB X Bn β'):=⟨bY _,fun f _ hx=>⟨fun k=>hx (k.imp id fun⟨c,s,h1,h2⟩=>⟨c,s,U.get h1,h2⟩),rfl⟩⟩
  have J:bm H' (XB X Bn β') β' vs l':=bm.lift j0 k4
  have A:results E' H' fn.res=List.rec (motive:=fun _=>aE) (.ok (.tuple []) H') (fun v r _=>List.rec (motive:=fun _=>aE) (.ok v H') (fun _ _ _=>.ok (.tuple (v::r)) H') r) l':=k5
  cases vs with
  |nil=>
   simp only[bm] at J
   subst J
   exact⟨_,A,gr [],Bn,β',I,G,by simp only[gr,aN,bm];exact⟨[],rfl,rfl⟩,Y⟩
  |cons v r=>
   cases r with
   |nil=>
    simp only[bm] at J
    obtain⟨a,s,rfl,k7,rfl⟩:=J
    exact⟨_,A,_,Bn,β',I,G,k7,Y⟩
   |cons w r=>
    have k8:=J
    simp only[bm] at J
    obtain⟨a,s,rfl,k7,a2,s2,rfl,_⟩:=J
    exact⟨_,A,_,Bn,β',I,G,by simp only[gr,aN];exact⟨_,rfl,k8⟩,Y⟩
 cases x with
 |exit id=>exact absurd O (fun h=>h)
 |normal=>exact⟨fun _ h=>(by cases h),key O⟩
 |ret=>exact⟨fun _ h=>(by cases h),key O⟩
theorem LR{vs:List VV}(h:mf vs):(gr vs).nb:=by
 cases vs with
 |nil=>simp only[gr,VV.nb,mf]
 |cons v r=>
  cases r with
  |nil=>simp only[mf] at h;exact h.1
  |cons w r=>simpa only[gr,VV.nb] using h
theorem ep{f:Nat}{fn:bA}{args:List VV}{P:VV→Prop}(G:T.ft.get f=some fn)(I:fn.ps.length=args.length)(h:VC T fn.body (AS fn.ps args []) [] (OT fn.res P)):Sound T f args P:=
 cr G I (h.mono fun x VE B hp=>by
  cases x with
  |exit id=>exact hp
  |normal=>obtain⟨vs,z,h2,A⟩:=hp;exact⟨vs,[],z,trivial,LR h2,A⟩
  |ret=>obtain⟨vs,z,h2,A⟩:=hp;exact⟨vs,[],z,trivial,LR h2,A⟩)
end
end Go.Ev
