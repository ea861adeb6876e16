/- Part 15 of rules for walks through the code of a program, and of such walks; what each part proves is said by its theorems. -/
import Derived.Test.YtmpoloiempjdpaaGreatR14
set_option linter.unusedVariables false
set_option linter.unusedSimpArgs false
noncomputable section
set_option maxRecDepth 100000
set_option maxHeartbeats 4000000
namespace Go.Ev
section
variable{T:aM}{H0:Nat→Nat}{X0:Nat→Prop}{VE bh:bb}{B B':aK}{E:Env}{H H':ax}{β:Nat→Nat}{X:Nat→Prop}
variable{W:List Nat}{Q:VV→aK→Prop}
theorem bX.KG:∀{row:List DC}{l:List aj}(o n:Nat),bX H X row l→bX H X ((row.drop o).take n) ((l.drop o).take n):=by
 intro row l o n h;have z:=bc.s9 (β:=fun _=>0) h;have h2:=bc.take n (bc.drop o z);rw[←Mi,←T2] at h2;exact bX.F2 h2
theorem dy{a:aG}{row:List DC}{o:Nat}{x:DC}(A:a.vv VE=some (.rp row o))(G:row[o]?=some x)(I:Q (.d x) B):VI T (.load 1 false a) VE B [] Q:=fun _ _ _ _ _ z=>by
 obtain⟨_,L,h2⟩:=z.bI A;simp only[aE] at h2;obtain⟨f,g,Z,l,rfl,M,O,_⟩:=h2;obtain⟨y,U,Y⟩:=O.get G;exact zE L M rfl U (dA z (v:=.d x) (by simp only[aE];exact Y) I)
theorem iJ{a:aG}{row:List DC}{o n:Nat}(G:a.vv VE=some (.rp row o))(h0:0<n)(I:o+n≤row.length)(L:Q (.agg (((row.drop o).take n).map .d)) B):VI T (.load n true a) VE B [] Q:=fun _ _ _ _ _ z=>by
 obtain⟨_,M,h2⟩:=z.bI G;simp only[aE] at h2;obtain⟨f,g,U,l,rfl,O,A,_⟩:=h2;exact Kp M O rfl (by rw[A.length];exact I) h0 (dA z (v:=.agg (((row.drop o).take n).map .d)) (by simp only[aE];exact⟨_,rfl,bc.s9 (A.KG o n)⟩) L)
theorem db.Cj{f elem aD:Nat}{row:List VV}(h:db H X β f (.one elem aD row)):∃l,lP H f 1 0 l∧bc H X β row l:=by
 obtain⟨l,lo,cs,z,h2,A,G⟩:=h;exact⟨l,⟨elem,aD,1,lo,0,cs,z,h2,bf _,Nat.zero_lt_one,A⟩,G⟩
theorem oe{a:aG}{b o elem aD:Nat}{row:List VV}{v:VV}(A:a.vv VE=some (.vp b o))(G:aF B b=some (.one elem aD row))(I:row[o]?=some v)(L:Q v B):VI T (.load 1 false a) VE B [] Q:=fun _ _ _ _ _ z=>by
 obtain⟨_,M,h2⟩:=z.bI A;simp only[aE] at h2;subst h2;obtain⟨l,O,U⟩:=(z.box b _ G).Cj;obtain⟨y,Y,Z⟩:=U.get I;exact zE M O (by rw[qQ,fh]) Y (dA z Z L)
theorem vi_loadAV{a:aG}{b o n elem aD:Nat}{row:List VV}(G:a.vv VE=some (.vp b o))(I:aF B b=some (.one elem aD row))(h0:0<n)(L:o+n≤row.length)(M:Q (.agg ((row.drop o).take n)) B):VI T (.load n true a) VE B [] Q:=fun _ _ _ _ _ z=>by
 obtain⟨_,O,h2⟩:=z.bI G;simp only[aE] at h2;subst h2;obtain⟨l,U,A⟩:=(z.box b _ I).Cj;exact Kp O U (by rw[qQ,fh]) (by rw[A.length];exact L) h0 (dA z (v:=.agg ((row.drop o).take n)) (by simp only[aE];exact⟨_,rfl,bc.take n (bc.drop o A)⟩) M)
theorem jG{a:aG}{b g j o es elem aD lo:Nat}{rows:ai}{row:List DC}{x:DC}(G:a.vv VE=some (.bp b g j o es))(I:aF B b=some (.arr elem aD es lo rows))(L:lo≤g)(h2:g≤rows.length)(M:j<g)(O:rows[j]?=some row)(U:row[o]?=some x)(Y:Q (.d x) B):VI T (.load 1 false a) VE B [] Q:=fun _ _ _ _ _ z=>by
 obtain⟨_,Z,A⟩:=z.bI G;simp only[aE] at A;subst A;obtain⟨l,k3,k4,k5⟩:=(z.box b _ I).cells L h2 M O;obtain⟨y,k6,k7⟩:=k5.get U;exact zE Z k3 (by rw[k4]) k6 (dA z (v:=.d x) (by simp only[aE];exact k7) Y)
theorem Fm{a:aG}{b g j o n es elem aD lo:Nat}{rows:ai}{row:List DC}(I:a.vv VE=some (.bp b g j o es))(L:aF B b=some (.arr elem aD es lo rows))(M:lo≤g)(h2:g≤rows.length)(O:j<g)(U:rows[j]?=some row)(h0:0<n)(Y:o+n≤row.length)(Z:Q (.agg (((row.drop o).take n).map .d)) B):VI T (.load n true a) VE B [] Q:=fun _ _ _ _ _ z=>by
 obtain⟨_,k1,A⟩:=z.bI I;simp only[aE] at A;subst A;obtain⟨l,k3,k4,G⟩:=(z.box b _ L).cells M h2 O U;exact Kp k1 k3 (by rw[k4]) (by rw[G.length];exact Y) h0 (dA z (v:=.agg (((row.drop o).take n).map .d)) (by simp only[aE];exact⟨_,rfl,bc.s9 (G.KG o n)⟩) Z)
theorem Kq{v:VV}{a:aj}{b:Nat}{s:BS}(O:Rel H0 X0 VE B E H β)(U:mz b VE=true)(Y:jC b B=true)(Z:H'.next=H.next+1)(I:∀f,f<H.next→H'.t.get f=H.t.get f)(L:H'.aR=H.aR)(hw:H'.ws=H.ws)
  (z:∀X β',(∀v a,v.no b=true→aE H (XB X0 B β) β v a→aE H' X β' v a)→(∀row l,bX H (XB X0 B β) row l→bX H' X row l)→db H' X β' H.next s)
  (hv:∀X β',β' b=H.next→aE H' X β' v a) (hq:Q v ((b,s)::B)):Dr H0 X0 VE B β E H W Q a H':=by
 obtain⟨β',⟨M,h3⟩,h2,_⟩:=O.newBox U Y Z I L z;refine⟨v,_,β',⟨L,al,fun f A=>.inl (hw▸A),fun c t G ht=>?_,fun f A _=>I f A⟩,h2,hv _ _ M,hq⟩;rw[c7] at G
 by_cases e:b=c
 ·subst e;exact .inr (by rw[M];exact bf _)
 rw[aZ e] at G;exact .inl ⟨t,G,ht,h3 c fun k=>e k.symm⟩
theorem nos_cells{b:Nat}{v:VV}{l:List VV}(h:v.no b=true)(z:v.cells=some l):sM b l=true:=by
 cases v
 case k x=>
  cases x<;>simp only[VV.cells,eC,reduceCtorEq] at z
  all_goals subst z
  all_goals rfl
 all_goals simp only[VV.cells,eC,reduceCtorEq] at z
 all_goals subst z
 all_goals simp_all [sM,VV.no]
theorem aa2{b:Nat}{H1 G:ax}{I L:Nat→Prop}{z A:Nat→Nat}(h:∀v a,v.no b=true→aE H1 I z v a→aE G L A v a):∀{l:List VV}{s:List aj},sM b l=true→bc H1 I z l s→bc G L A l s
 |[],_,_,k=>by simp only[bc] at k⊢;exact k
 |v::r,_,n,k=>by
  simp only[bc,sM,cN] at k n⊢;obtain⟨a,s,e,M,h2⟩:=k;exact⟨a,s,e,h v a n.1 M,aa2 h n.2 h2⟩
theorem Qc{H1 G:ax}{I L:Nat→Prop}{z A:Nat→Nat}(h:∀v a,aE H1 I z v a→aE G L A v a):∀{l:List VV}{s:List aj},bc H1 I z l s→bc G L A l s
 |[],_,k=>by simp only[bc] at k⊢;exact k
 |v::r,_,k=>by
  simp only[bc] at k⊢;obtain⟨a,s,e,M,h2⟩:=k;exact⟨a,s,e,h v a M,Qc h h2⟩
theorem opd_no{x:aG}{v:VV}{b:Nat}(A:mz b VE=true)(z:x.vv VE=some v):v.no b=true:=by
 cases x with
 |t k=>exact KX A z
 |c a=>exact constV_no z b
theorem vi_box{elem es aD:Nat}{x:aG}{v:VV}{cells:List VV}(b:Nat)(z:mz b VE=true)(M:jC b B=true)(A:x.vv VE=some v)(G:v.cells=some cells)(O:cells.length=es)(U:Q (.vp b 0) ((b,.one elem aD cells)::B)):VI T (.box elem es aD x) VE B [] Q:=fun _ _ _ H _ I=>by
 obtain⟨a,Y,h2⟩:=I.bI A;obtain⟨s,Z,L⟩:=h2.cells G;refine wpI_box Y Z (by rw[L.length,O]) (Kq (b:=b) (s:=.one elem aD cells) I z M rfl (fun f hf=>(aae elem aD s).same f hf) rfl rfl (fun X β' k1 _=>?_) (fun X β' k=>by simp only[aE];rw[k]) U);obtain⟨e',b',lo,cs,j1,j2,j3⟩:=boxH_at (H:=H) elem aD s;refine⟨s,1,.one s,?_,bf _,rfl,aa2 k1 (nos_cells (opd_no z A) G) L⟩;show(H.t.set H.next _).get H.next=_;rw[GT.da,bg rfl]
def pf:List aj→Option (List VV)
 |[]=>some []
 |a::r=>(xp a).bind fun v=>(pf r).map (v:: ·)
theorem Ci:∀{l:List aj}{cells:List VV},pf l=some cells→bc H X β cells l
 |[],cells,h=>by simp only[pf,eC] at h;subst h;simp only[bc]
 |a::r,cells,h=>by
  simp only[pf,Dj,Hh] at h;obtain⟨v,z,s,A,rfl⟩:=h;simp only[bc];exact⟨a,r,rfl,ZE z,Ci A⟩
theorem vi_boxz{elem es aD:Nat}{l:List aj}{cells:List VV}(b:Nat)(z:mz b VE=true)(A:jC b B=true)(G:pf l=some cells)(I:l.length=es)(L:Q (.vp b 0) ((b,.one elem aD cells)::B)):VI T (.pI elem es aD l) VE B [] Q:=fun _ _ _ H _ M=>by
 refine wpI_boxz I (Kq (b:=b) (s:=.one elem aD cells) M z A rfl (fun f O=>(aae elem aD l).same f O) rfl rfl (fun X β' _ _=>?_) (fun X β' k=>by simp only[aE];rw[k]) L);refine⟨l,1,.one l,?_,bf _,rfl,Ci G⟩;show(H.t.set H.next _).get H.next=_;rw[GT.da,bg rfl]
def KY(l:List VV)(r:Nat)(new:List VV):List VV:=l.take r++(new++l.drop (r+new.length))
theorem bc.ed{l new:List VV}{s t:List aj}(r:Nat)(h:bc H X β l s)(k:bc H X β new t):bc H X β (KY l r new) (ed s r t):=by
 unfold KY Ev.ed;rw[←k.length];exact(h.take r).append (k.append (h.drop _))
def CU(VE:bb):List (Nat×Nat×aG)→List VV→Option (List VV)
 |[],cells=>some cells
 |p::r,cells=>(p.2.2.vv VE).bind fun v=>v.cells.bind fun new=>bif Nat.beq new.length p.2.1 then CU VE r (KY cells p.1 new) else none
theorem ZF(G:Rel H0 X0 VE B E H β):∀{ps:List (Nat×Nat×aG)}{cells:List VV}{s:List aj}{out:List VV},bc H (XB X0 B β) β cells s→CU VE ps cells=some out→∃t,qo E ps s=some t∧bc H (XB X0 B β) β out t
 |[],cells,s,out,h,z=>by simp only[CU,eC] at z;subst z;exact⟨s,rfl,h⟩
 |p::r,cells,s,out,h,z=>by
  simp only[CU,Dj] at z;obtain⟨v,L,new,M,z⟩:=z;obtain⟨a,O,h2⟩:=G.bI L;obtain⟨t,U,I⟩:=h2.cells M
  cases A:Nat.beq new.length p.2.1 with
  |false=>rw[A] at z;cases z
  |true=>
   rw[A] at z;obtain⟨u,Y,Z⟩:=ZF G (h.ed p.1 I) z;refine⟨u,?_,Z⟩;show ob (p.2.2.ev E) none (fun v=>ob (iL v) none fun new=>aI (Nat.beq (gI new) p.2.1) (qo E r (Ev.ed s p.1 new)) none)=some u;rw[O,cI,U,cI,pe,I.length,A,dX,Y]
theorem vi_build{zero:List aj}{ps:List (Nat×Nat×aG)}{z out:List VV}(G:pf zero=some z)(I:CU VE ps z=some out)(L:Q (.agg out) B):VI T (.build zero ps) VE B [] Q:=fun _ _ _ _ _ A=>by
 obtain⟨t,M,h2⟩:=ZF A (Ci G) I;exact wpI_build M (dA A (v:=.agg out) (by simp only[aE];exact⟨t,rfl,h2⟩) L)
def VU(row:List VV)(o:Nat)(new:List VV):List VV:=bif Nat.beq new.length row.length then new else KY row o new
theorem bc.bif{t0:Bool}{a b:List VV}{s t:List aj}(h:bc H X β a s)(k:bc H X β b t):bc H X β (bif t0 then a else b) (bif t0 then s else t):=by
 cases t0
 ·exact k
 exact h
theorem HE{f q o n m elem es aD lo:Nat}{l new:List aj}{cs:RT}{e:aC}{K:ax→aC}(z:H.t.get f=some (.row elem es aD m lo 0 cs))(h2:lo≤m)(G:q<m)(I:cs.get q=some l)(Y:l.length=es)(L:new.length=n)(h0:0<n)(M:o+n≤es):
  wr H f m (q*es+o) n new e K=K ⟨H.next,H.aR,wrote f H.aR H.ws,H.t.set f (.row elem es aD m m 0 (cs.set q (bif Nat.beq n es then new else ed l o new)))⟩:=by
 cases H with
 |mk next aR ws t=>
  have z:t.get f=some (.row elem es aD m lo 0 cs):=z;have O:(q*es+o)/es=q:=by
   by_cases ho:o=es
   ·omega
   rw[qM,Nat.mul_add_div al,agw al];rfl
  have U:(q*es+o) % es=o:=by
   by_cases ho:o=es
   ·omega
   rw[qM,Nat.mul_add_mod,D3 al]
  show kN (t.get f) e (fun elem cW aD A lo fl cs=>
    aI (Nat.beq fl 0) (aI (Nat.beq m A) (aI (Nat.ble lo m) (aI (Nat.ble (Nat.add (Nat.mod (q*es+o) cW) n) cW) (aI (Nat.ble (Nat.succ (Nat.div (q*es+o) cW)) m) (aI (Nat.beq (gI new) n)
     (ob (cs.get (Nat.div (q*es+o) cW)) e fun l=>cs.fB (Nat.div (q*es+o) cW) (aI (Nat.beq n cW) new (ed l (Nat.mod (q*es+o) cW) new)) fun cs=>t.fB f (.row elem cW aD A A 0 cs) fun t=>K ⟨next,aR,wrote f aR ws,t⟩) e) e) e) e) e) e)=_
  rw[z]
  show aI (Nat.beq 0 0) (aI (Nat.beq m m) (aI (Nat.ble lo m) (aI (Nat.ble (Nat.add (Nat.mod (q*es+o) es) n) es) (aI (Nat.ble (Nat.succ (Nat.div (q*es+o) es)) m) (aI (Nat.beq (gI new) n)
     (ob (cs.get (Nat.div (q*es+o) es)) e fun l=>cs.fB (Nat.div (q*es+o) es) (aI (Nat.beq n es) new (ed l (Nat.mod (q*es+o) es) new)) fun cs=>t.fB f (.row elem es aD m m 0 cs) fun t=>K ⟨next,aR,wrote f aR ws,t⟩) e) e) e) e) e) e=_
  rw[show Nat.mod (q*es+o) es=o from U,show Nat.div (q*es+o) es=q from O,show Nat.beq 0 0=true from rfl,dX,show Nat.beq m m=true from gG m,dX,gn h2,dX,
   show Nat.ble (Nat.add o n) es=true from gn M,dX,show Nat.ble (Nat.succ q) m=true from gn G,dX,pe,L,show Nat.beq n n=true from gG n,dX,I,cI,RT.jI,GT.jI]
  cases Nat.beq n es<;>rfl
theorem KH{call:dO}{n f g o:Nat}{a x:aG}{v:aj}{new:List aj}(z:a.ev E=some (.ptr f g o))(A:x.ev E=some v)(G:iL v=some new):
  (bq.store n a x).ev call E H=wr H f g o n new (.err 5) fun H=>.ok .undef H:=by
 show bt a E (.err 5) (fun p=>jf p (.err 5) fun f g off=>bt x E (.err 5) fun v=>ob (iL v) (.err 5) fun l=>wr H f g off n l (.err 5) fun H=>.ok .undef H)=_;rw[cY,z,cI];show bt x E (.err 5) (fun v=>ob (iL v) (.err 5) fun l=>wr H f g o n l (.err 5) fun H=>.ok .undef H)=_;rw[cY,A,cI,G,cI]
theorem zF{v:VV}{a:aj}{b:Nat}{s s':BS}(M:Rel H0 X0 VE B E H β)(U:aF B b=some s)(A:s.born)(hn:H'.next=H.next)(hs:∀f,f≠β b→H'.t.get f=H.t.get f)(hm:H'.aR=H.aR)(hw:H'.ws=wrote (β b) H.aR H.ws)
  (VT:∀X,(∀v a,aE H (XB X0 B β) β v a→aE H' X β v a)→(∀row l,bX H (XB X0 B β) row l→bX H' X row l)→db H' X β (β b) s')
  (hv:∀X,aE H' X β v a) (hq:Q v ((b,s')::B)):Dr H0 X0 VE B β E H [b] Q a H':=by
 have Bk:=M.new b s U A;have z:∀c t,aF ((b,s')::B) c=some t→(c=b∧t=s')∨(c≠b∧aF B c=some t):=fun c t G=>by
  rw[c7] at G
  by_cases e:b=c
  ·rw[bg e] at G;cases G;exact .inl ⟨e.symm,rfl⟩
  rw[aZ e] at G;exact .inr ⟨fun k=>e k.symm,G⟩
 have hX:∀f,XB X0 ((b,s')::B) β f→XB X0 B β f:=fun f hx=>by
  rcases hx with k|⟨c,t,Y,ho,h2⟩
  ·exact .inl k
  rcases z c t Y with⟨rfl,_⟩|⟨_,O⟩
  ·exact .inr ⟨_,s,U,A,h2⟩
  exact .inr ⟨c,t,O,ho,h2⟩
 have hl:eP H (XB X0 B β) H' (XB X0 ((b,s')::B) β):=⟨al,fun f I hx=>⟨fun k=>hx (hX f k),hs f fun e=>hx (.inr ⟨b,s,U,A,e.symm⟩)⟩⟩;refine⟨v,(b,s')::B,β,⟨hm,al,fun f I=>?_,fun c t G ht=>?_,fun f I uk=>hs f fun e=>uk b s U A e.symm⟩,⟨M.jD,by rw[hm,hn];exact M.aR,(fun f I=>by rw[hn];exact M.x0 f I),fun c t G L=>?_,fun c e t u G he L huo Z=>?_,fun k w hk=>?_,fun c t G=>?_⟩,hv _,hq⟩
 ·rw[hw] at I;unfold wrote at I
  cases Y:Nat.ble H.aR (β b) with
  |true=>rw[Y] at I;exact .inl I
  |false=>
   rw[Y] at I
   cases h2:pJ (β b) H.ws with
   |true=>rw[h2] at I;exact .inl I
   |false=>
    rw[h2] at I;rcases List.mem_cons.1 I with rfl|h
    ·refine .inr ⟨?_,b,s,jw ..,U,A,rfl⟩
     by_cases hl:H.aR≤β b
     ·rw[gn hl] at Y;cases Y
     omega
    exact .inl h
 ·rcases z c t G with⟨rfl,_⟩|⟨_,O⟩
  ·exact .inl ⟨s,U,A,rfl⟩
  exact .inl ⟨t,O,ht,rfl⟩
 ·rw[hn];rcases z c t G with⟨rfl,_⟩|⟨_,O⟩
  ·exact Bk
  exact M.new c t O L
 ·rcases z c t G with⟨rfl,_⟩|⟨_,O⟩<;>rcases z e u he with⟨rfl,_⟩|⟨_,h4⟩
  ·rfl
  ·exact M.inj _ _ _ _ U h4 A huo Z
  ·exact M.inj _ _ _ _ O U L A Z
  exact M.inj _ _ _ _ O h4 L huo Z
 ·obtain⟨a,Y,h2⟩:=M.env k w hk;exact⟨a,Y,h2.lift hl⟩
 rcases z c t G with⟨rfl,rfl⟩|⟨Pb,O⟩
 ·exact VT _ (fun v a k=>k.lift hl) (fun row l k=>k.lift hl)
 exact db.Dq hl (fun L=>hs _ fun e=>Pb (M.inj c b t s O U L A e)) (M.box c t O)
theorem vi_storeV{n:Nat}{a x:aG}{b o elem aD:Nat}{row new:List VV}{v:VV}(Z:a.vv VE=some (.vp b o))(I:aF B b=some (.one elem aD row))(hx:x.vv VE=some v)(hv:v.cells=some new)(L:new.length=n)(h0:0<n)(hk:o+n≤row.length)(hq:Q .undef ((b,.one elem aD (VU row o new))::B)):VI T (.store n a x) VE B [b] Q:=fun _ X0 _ H β z=>by
 obtain⟨_,h1,h2⟩:=z.bI Z;simp only[aE] at h2;subst h2;obtain⟨y,h3,h4⟩:=z.bI hx;obtain⟨t,h5,M⟩:=h4.cells hv;obtain⟨l,lo,cs,k1,k2,k3,O⟩:=z.box b _ I;have ht:t.length=n:=by rw[M.length,L]
 have A:=O.length;have e:=fun K=>HE (e:=aC.err 5) (K:=K) (q:=0) (o:=o) (n:=n) (new:=t) k1 k2 Nat.zero_lt_one k3 rfl ht h0 al
 simp only[qQ,fh] at e;refine⟨0,.undef,_,fun lf m _ _=>by rw[KH h1 h3 h5,e],?_⟩;refine zF z I trivial rfl (fun f hf=>?_) rfl rfl (fun X U j2=>?_) (fun X=>by simp only[aE]) hq
 ·show(H.t.set (β b) _).get f=_;rw[GT.da,aZ hf]
 have hlen:(bif Nat.beq n l.length then t else ed l o t).length=l.length:=by
  cases G:Nat.beq n l.length with
  |true=>have:=cU G;show t.length=_;omega
  |false=>show(ed l o t).length=_;simp only[ed,eT,ju,qz];omega
 refine⟨bif Nat.beq n l.length then t else ed l o t,1,cs.set 0 (bif Nat.beq n l.length then t else ed l o t),?_,bf _,by rw[RT.da,bg rfl],?_⟩
 ·show(H.t.set (β b) _).get (β b)=_;rw[GT.da,bg rfl,hlen]
 have Y:=Qc U M;have h8:=Qc U O;unfold VU;rw[L,←A];exact bc.bif Y (h8.ed o Y)
end
mutual
def VV.zero(b:Nat):VV→Bool
 |.d _=>true
 |.agg l=>vn b l
 |.tuple l=>vn b l
 |.vp c _=>!Nat.beq c b
 |.bp c _ _ _ _=>!Nat.beq c b
 |.rp _ _=>true
 |.bs c _ _=>!Nat.beq c b
 |.ac c n _=>!Nat.beq c b||Nat.beq n 0
 |.fn _ eo=>vn b eo
 |.k _=>true
 |.jB=>true
 |.undef=>true
def vn(b:Nat):List VV→Bool
 |[]=>true
 |v::r=>v.zero b&&vn b r
end
def BS.zero(b:Nat):BS→Bool
 |.one _ _ row=>vn b row
 |.bP _ s=>s.zero b
 |_=>true
def vo(b:Nat):bb→Bool
 |[]=>true
 |(_,v)::r=>v.zero b&&vo b r
def tC(b:Nat):aK→Bool
 |[]=>!ke b
 |(_,s)::r=>s.zero b&&tC b r
theorem ZG{b:Nat}:∀{B:aK},tC b B=true→ke b=false
 |[],h=>by simpa[tC] using h
 |(_,_)::r,h=>by
  simp only[tC,cN] at h;exact ZG h.2
section
variable{T:aM}{H0:Nat→Nat}{X0:Nat→Prop}{VE bh:bb}{B B':aK}{E:Env}{H H':ax}{β:Nat→Nat}{X:Nat→Prop}
variable{W:List Nat}{Q:VV→aK→Prop}
mutual
theorem aE.zero{b f:Nat}:∀{v:VV}{a:aj},v.zero b=true→aE H X β v a→aE H X (fun c=>if c=b then f else β c) v a
 |.d x,_,_,h=>by simp only[aE] at h⊢;exact h
 |.agg l,_,n,h=>by
  simp only[aE,VV.zero] at h n⊢;obtain⟨cs,e,h⟩:=h;exact⟨cs,e,bc.zero n h⟩
 |.tuple l,_,n,h=>by
  simp only[aE,VV.zero] at h n⊢;obtain⟨cs,e,h⟩:=h;exact⟨cs,e,bc.zero n h⟩
 |.vp c off,_,n,h=>by simp only[aE,VV.zero] at h n⊢;rw[aZ (pg n)];exact h
 |.bp c g q off es,_,n,h=>by simp only[aE,VV.zero] at h n⊢;rw[aZ (pg n)];exact h
 |.rp row off,_,_,h=>by simp only[aE] at h⊢;exact h
 |.bs c m es,_,n,h=>by simp only[aE,VV.zero] at h n⊢;rw[aZ (pg n)];exact h
 |.ac c m es,_,n,h=>by
  simp only[aE,VV.zero,oN] at h n⊢;rcases n with n|n
  ·rw[aZ (pg n)];exact h
  have:=cU n;exact h.imp id fun k=>by omega
 |.fn f eo,_,n,h=>by
  simp only[aE,VV.zero] at h n⊢;obtain⟨cs,e,h⟩:=h;exact⟨cs,e,bc.zero n h⟩
 |.k x,_,_,h=>by simp only[aE] at h⊢;exact h
 |.jB,_,_,h=>by simp only[aE] at h⊢;exact h
 |.undef,_,_,_=>by simp only[aE]
theorem bc.zero{b f:Nat}:∀{l:List VV}{s:List aj},vn b l=true→bc H X β l s→bc H X (fun c=>if c=b then f else β c) l s
 |[],_,_,h=>by simp only[bc] at h⊢;exact h
 |v::r,_,n,h=>by
  simp only[bc,vn,cN] at h n⊢;obtain⟨a,s,e,z,h2⟩:=h;exact⟨a,s,e,aE.zero n.1 z,bc.zero n.2 h2⟩
end
theorem db.aee{b g f:Nat}:∀{s:BS},s.zero b=true→db H X β f s→db H X (fun c=>if c=b then g else β c) f s
 |.one _ _ _,z,⟨l,lo,cs,A,G,I,L⟩=>⟨l,lo,cs,A,G,I,bc.zero z L⟩
 |.arr _ _ _ _ _,_,h=>h
 |.acc _ _ _ _,_,h=>h
 |.bP _ s,z,h=>⟨h.1,db.aee (s:=s) z h.2⟩
theorem Ql{b:Nat}:∀{VE:bb},vo b VE=true→∀{k:Nat}{v:VV},aF VE k=some v→v.zero b=true
 |[],_,_,_,h=>by cases h
 |(i,w)::r,z,k,v,h=>by
  simp only[vo,cN] at z;rw[c7] at h
  by_cases e:i=k
  ·rw[bg e] at h;cases h;exact z.1
  rw[aZ e] at h;exact Ql z.2 h
theorem aag{b:Nat}:∀{B:aK},tC b B=true→∀{c:Nat}{s:BS},aF B c=some s→s.zero b=true
 |[],_,_,_,h=>by cases h
 |(i,w)::r,z,c,s,h=>by
  simp only[tC,cN] at z;rw[c7] at h
  by_cases e:i=c
  ·rw[bg e] at h;cases h;exact z.1
  rw[aZ e] at h;exact aag z.2 h
theorem Rel.ghost(h:Rel H0 X0 VE B E H β){b k:Nat}(elem aD es:Nat)(Y:aF VE k=some (.d .nil))(hB:aF B b=none):Rel H0 X0 ((k,.ac b 0 es)::VE) ((b,.acc elem aD es [])::B) E H β:=by
 have I:∀c s,aF ((b,BS.acc elem aD es [])::B) c=some s→s.born→aF B c=some s:=fun c s z ho=>by
  rw[c7] at z
  by_cases e:b=c
  ·rw[bg e] at z;cases z;exact absurd rfl ho
  rw[aZ e] at z;exact z
 have Z:∀f,XB X0 ((b,BS.acc elem aD es [])::B) β f→XB X0 B β f:=fun f L=>L.imp id fun⟨c,s,A,ho,h2⟩=>⟨c,s,I c s A ho,ho,h2⟩
 have M:eP H (XB X0 B β) H (XB X0 ((b,BS.acc elem aD es [])::B) β):=⟨bf _,fun f _ L=>⟨fun k=>L (Z f k),rfl⟩⟩;refine⟨h.jD,h.aR,h.x0,fun c s z ho=>h.new c s (I c s z ho) ho,fun c e s t z he O U=>h.inj c e s t (I c s z O) (I e t he U) O U,fun j w G=>?_,fun c s z=>?_⟩
 ·rw[c7] at G
  by_cases e:k=j.n
  ·rw[bg e] at G
   cases G
   obtain⟨a,A,h2⟩:=h.env j _ (e▸Y);simp only[aE,bF] at h2;exact⟨a,A,by simp only[aE];exact .inl ⟨trivial,h2⟩⟩
  rw[aZ e] at G;obtain⟨a,A,h2⟩:=h.env j w G;exact⟨a,A,h2.lift M⟩
 rw[c7] at z
 by_cases e:b=c
 ·rw[bg e] at z;cases z;exact .inl rfl
 rw[aZ e] at z;exact(h.box c s z).lift M rfl
theorem ZH{b elem aD es:Nat}:∀c s,aF ((b,BS.acc elem aD es [])::B) c=some s→s.born→∃t,aF B c=some t∧t.born:=fun c s z ho=>by
 rw[c7] at z
 by_cases e:b=c
 ·rw[bg e] at z;cases z;exact absurd rfl ho
 rw[aZ e] at z;exact⟨s,z,ho⟩
theorem dP{c:IC}{R:Ex→bb→aK→Prop}(k b elem aD es:Nat)(z:aF VE k=some (.d .nil))(A:aF B b=none)(h:VC T c ((k,.ac b 0 es)::VE) ((b,.acc elem aD es [])::B) R):VC T c VE B R:=
 fun H0 X0 E H β G=>(h H0 X0 E H β (G.ghost elem aD es z A)).mono fun _ _ _ I=>I.more ZH
def kY(H:ax)(X:Nat→Prop)(es:Nat):List (List aj)→ai→Prop
 |[],[]=>True
 |l::ls,r::rs=>(l.length=es∧bX H X r l)∧kY H X es ls rs
 |_,_=>False
theorem kY.length{es:Nat}:∀{ls:List (List aj)}{rs:ai},kY H X es ls rs→ls.length=rs.length
 |[],[],_=>rfl
 |l::ls,r::rs,h=>by simp only[kY] at h;simp[kY.length h.2]
 |[],_::_,h=>by simp[kY] at h
 |_::_,[],h=>by simp[kY] at h
theorem kY.get{es:Nat}:∀{ls:List (List aj)}{rs:ai},kY H X es ls rs→∀{i:Nat}{r:List DC},rs[i]?=some r→∃l,ls[i]?=some l∧l.length=es∧bX H X r l
 |[],[],_,i,r,h=>by simp at h
 |l::ls,r::rs,z,i,x,h=>by
  simp only[kY] at z
  cases i with
  |zero=>simp at h;subst h;exact⟨l,rfl,z.1⟩
  |succ i=>simpa using kY.get z.2 (i:=i) (r:=x) (by simpa using h)
 |[],_::_,h,_,_,_=>by simp[kY] at h
 |_::_,[],h,_,_,_=>by simp[kY] at h
theorem dz.elems{f g es:Nat}(h0:0<es):∀{rows:ai}{q:Nat},dz H X f g es q rows→∃ls,elems H f g es rows.length (q*es)=some ls∧kY H X es ls rows
 |[],_,_=>⟨[],rfl,trivial⟩
 |row::r,q,h=>by
  simp only[dz] at h;obtain⟨⟨l,z,h2,A⟩,G⟩:=h;obtain⟨ls,I,L⟩:=dz.elems h0 G;refine⟨l::ls,?_,by simp only[kY];exact⟨⟨h2,A⟩,L⟩⟩;show rd H f g (q*es) es none (fun l=>ob (Ev.elems H f g es r.length (Nat.add (q*es) es)) none fun r=>some (l::r))=_;have:=Ms (k:=0) (n:=es) (e:=(none:Option (List (List aj)))) (c:=fun l=>ob (Ev.elems H f g es r.length (Nat.add (q*es) es)) none fun r=>some (l::r)) z al h0;rw[tR,h2] at this;rw[this,List.drop_zero,pF al];rw[show Nat.add (q*es) es=(q+1)*es by rw[kW,Bc];rfl,I];rfl
inductive YR(B:aK)(es:Nat):VV→ai→Prop
 |nil:YR B es (.d .nil) []
 |sl {rows:ai} (h:∀row,row∈rows→row.length=es):YR B es (.d (.sl rows)) rows
 |bs {b elem aD lo cW:Nat} {rows:ai} (h:aF B b=some (.arr elem aD es lo rows)):YR B es (.bs b rows.length cW) rows
 |ac {b elem aD cW:Nat} {rows:ai} (h:aF B b=some (.acc elem aD es rows)):YR B es (.ac b rows.length cW) rows
theorem YR.elems(O:Rel H0 X0 VE B E H β){es:Nat}{v:VV}{rows:ai}(Y:YR B es v rows)(h0:0<es){a:aj}(A:aE H (XB X0 B β) β v a):
  (a= .fR∧rows=[])∨∃f g off e ls,a= .slice f g off rows.length e∧Ev.elems H f g es rows.length off=some ls∧kY H (XB X0 B β) es ls rows:=by
 cases Y with
 |nil=>simp only[aE,bF] at A;exact .inl ⟨A,rfl⟩
 |sl h=>
  simp only[aE,bF] at A;obtain⟨f,g,off,cW,rfl,A⟩:=A;refine .inr ⟨f,g,off,cW,?_⟩;rcases A with rfl|⟨_,_,q,ho,G⟩
  ·exact⟨[],rfl,rfl,trivial⟩
  cases rows with
  |nil=>exact⟨[],rfl,rfl,trivial⟩
  |cons row r=>
   have Z:cW=es:=by
    simp only[dz] at G;obtain⟨⟨l,_,h2,L⟩,_⟩:=G;rw[←h2,L.length,h row (jw ..)]
   subst Z;obtain⟨ls,z,h2⟩:=G.elems h0;exact⟨ls,rfl,by rw[ho];exact z,h2⟩
 | @bs b elem aD lo cW rows h=>
  simp only[aE] at A;subst A;have I:=O.box b _ h;refine .inr ⟨β b,rows.length,0,cW,?_⟩;have:dz H (XB X0 B β) (β b) rows.length es 0 rows:=dz.nx fun i row hi=>by
   have M:lo≤rows.length:=by obtain⟨_,_,_,_,h,_⟩:=I;exact h
   obtain⟨l,z,h2,L⟩:=I.cells (g:=rows.length) M (bf _) (List.getElem?_eq_some_iff.1 hi).1 hi;exact⟨l,by rw[fh];exact z,h2,L⟩
  obtain⟨ls,z,h2⟩:=this.elems h0;rw[qQ] at z;exact⟨ls,rfl,z,h2⟩
 | @ac b elem aD cW rows h=>
  simp only[aE] at A;rcases A with⟨z,rfl⟩|⟨_,rfl⟩
  ·exact .inl ⟨rfl,List.length_eq_zero_iff.1 z⟩
  refine .inr ⟨β b,rows.length,0,cW,?_⟩;have I:=O.box b _ h;have:dz H (XB X0 B β) (β b) rows.length es 0 rows:=dz.nx fun i row hi=>by
   rcases I with rfl|⟨lo,cs,k1,k2,k3⟩
   ·simp at hi
   obtain⟨l,j1,U,j3⟩:=k3 i row hi;exact⟨l,⟨elem,aD,rows.length,lo,0,cs,by rw[U];exact k1,k2,bf _,by rw[fh];exact(List.getElem?_eq_some_iff.1 hi).1,by rw[fh];exact j1⟩,U,j3⟩
  obtain⟨ls,z,h2⟩:=this.elems h0;rw[qQ] at z;exact⟨ls,rfl,z,h2⟩
theorem LC{call:dO}{elem es aD:Nat}{x y:aG}{a b:aj}{n:Nat}{ls:List (List aj)}(z:x.ev E=some a)(A:y.ev E=some b)
  (h:(b= .fR∧n=0∧ls=[])∨∃f g off e,b= .slice f g off n e∧Ev.elems H f g es n off=some ls):(bq.app elem es aD x y).ev call E H=iT elem es aD n ls H a:=by
 show bt x E (.err 26) (fun a=>bt y E (.err 26) fun b=>fc b (.err 26) (iT elem es aD 0 [] H a) fun f g off n _=>
  ob (Ev.elems H f g es n off) (.err 26) fun l=>iT elem es aD n l H a)=_
 rw[cY,z,cI]
 show bt y E (.err 26) (fun b=>fc b (.err 26) (iT elem es aD 0 [] H a) fun f g off n _=>
  ob (Ev.elems H f g es n off) (.err 26) fun l=>iT elem es aD n l H a)=_
 rw[cY,A,cI];rcases h with⟨rfl,rfl,rfl⟩|⟨f,g,off,e,rfl,h⟩
 ·rfl
 show ob (Ev.elems H f g es n off) (.err 26) (fun l=>iT elem es aD n l H a)=_;rw[h,cI]
theorem Kr{ls:List (List aj)}{cs:RT}{m q:Nat}:(gE ls cs m).get q=if m≤q∧q<m+ls.length then ls[q-m]?else cs.get q:=uF ls cs m q
theorem Rel.agI(h:Rel H0 X0 VE B E H β){b:Nat}(hE:vo b VE=true)(hB:tC b B=true)(hb:∀s,aF B b=some s→¬s.born)(hn:H'.next=H.next+1)(hs:∀f,f<H.next→H'.t.get f=H.t.get f)(hm:H'.aR=H.aR){s:BS}
  (Z:∀X β',(∀row l,bX H (XB X0 B β) row l→bX H' X row l)→db H' X β' H.next s):
  ∃β',(β' b=H.next∧∀c,c≠b→β' c=β c)∧Rel H0 X0 VE ((b,s)::B) E H' β':=by
 let β':Nat→Nat:=fun c=>if c=b then H.next else β c
 have G:β' b=H.next:=bg rfl;have z:∀c,c≠b→β' c=β c:=fun c A=>aZ A
 have hg:∀c t,aF ((b,s)::B) c=some t→(c=b∧t=s)∨(c≠b∧aF B c=some t∧t.zero b=true):=fun c t A=>by
  rw[c7] at A
  by_cases e:b=c
  ·rw[bg e] at A;cases A;exact .inl ⟨e.symm,rfl⟩
  rw[aZ e] at A;exact .inr ⟨fun k=>e k.symm,A,aag hB A⟩
 have hl:eP H (XB X0 B β) H' (XB X0 ((b,s)::B) β'):=⟨al,fun f hf hx=>⟨fun k=>by
  rcases k with k|⟨c,t,h1,ho,h2⟩
  ·exact hx (.inl k)
  rcases hg c t h1 with⟨rfl,rfl⟩|⟨A,M,_⟩
  ·rw[G] at h2;omega
  exact hx (.inr ⟨c,t,M,ho,by rw[←h2,z c A]⟩),hs f hf⟩⟩
 have A:∀row l,bX H (XB X0 B β) row l→bX H' (XB X0 ((b,s)::B) β') row l:=fun row l hr=>hr.lift hl
 refine⟨β',⟨G,z⟩,⟨(fun c A=>(z c fun e=>by rw[e,ZG hB] at A;cases A).trans (h.jD c A)),by have:=h.aR;omega,(fun f hf=>by have:=h.x0 f hf;omega),fun c t L O=>?_,fun c e t u L XR O JO U=>?_,fun k v hk=>?_,fun c t L=>?_⟩⟩
 ·rcases hg c t L with⟨rfl,rfl⟩|⟨I,M,_⟩
  ·rw[G];exact⟨(fun hx=>by have:=h.x0 _ hx;omega),al⟩
  rw[z c I];have:=h.new c t M O;exact⟨this.1,al⟩
 ·rcases hg c t L with⟨rfl,rfl⟩|⟨I,M,_⟩<;>rcases hg e u XR with⟨rfl,rfl⟩|⟨JP,h4,_⟩
  ·rfl
  ·rw[G,z e JP] at U;have:=h.new e u h4 JO;omega
  ·rw[G,z c I] at U;have:=h.new c t M O;omega
  rw[z c I,z e JP] at U;exact h.inj c e t u M h4 O JO U
 ·obtain⟨a,h1,h2⟩:=h.env k v hk;exact⟨a,h1,(aE.zero (Ql hE hk) h2).lift hl⟩
 rcases hg c t L with⟨rfl,rfl⟩|⟨I,M,hno⟩
 ·rw[G];exact Z _ _ A
 rw[z c I];have ho:=h.box c t M;have Y:t.born→H'.t.get (β c)=H.t.get (β c):=fun ho=>hs _ (h.new c t M ho).2
 exact db.Dq (X:=XB X0 B β) hl Y (db.aee hno ho)
theorem aah{elem es aD n:Nat}{ls:List (List aj)}(h:n*aD≤70368744177664):Ad elem es aD n ls H= .ok (.slice H.next n 0 n es) ⟨H.next+1,H.aR,H.ws,H.t.set H.next (.row elem es aD n n 0 (gE ls .emp 0))⟩:=by
 unfold Ad;rw[show Nat.ble (Nat.mul n aD) 70368744177664=true from gn h,dX,Cr,alloc_eq]
theorem aai{elem es aD n f m lo:Nat}{ls:List (List aj)}{cs:RT}(L:H.t.get f=some (.row elem es aD m lo 0 cs))(M:lo≤m)(h:(m+n)*aD≤70368744177664):
  Ae elem es aD n ls H f m 0 m es= .ok (.slice f (m+n) 0 (m+n) es) ⟨H.next,H.aR,wrote f H.aR H.ws,H.t.set f (.row elem es aD (m+n) lo 0 (gE ls cs m))⟩:=by
 show aI (Nat.beq m m) (Q4 elem es aD n ls H f m 0 m es) (R9 es n ls H f m 0 m es)=_;rw[gG,dX]
 cases H with
 |mk next aR ws t=>
  have L:t.get f=some (.row elem es aD m lo 0 cs):=L
  show kN (t.get f) (.err 33) (fun z A mc I lo fl cs=>
   aI (Nat.beq 0 0) (aI (Nat.beq m I) (aI (Nat.ble lo m) (aI (Nat.beq m I) (aI (Nat.beq es es) (aI (Nat.beq A es) (aI (Nat.beq fl 1) (aC.err 32)
   (aI (Nat.ble (Nat.mul (Nat.add I n) aD) 70368744177664) (aI (Nat.beq elem z)
    (cm (Nat.add I n) fun G=>xL ls cs I fun cs=>t.fB f (.row z A mc G lo fl cs) fun t=>
     .ok (.slice f G 0 G es) ⟨next,aR,wrote f aR ws,t⟩) (.err 32)) (.err 32))) (.err 32)) (.err 32)) (.err 32)) (.err 32)) (.err 32)) (.err 32))=_
  rw[L]
  show aI (Nat.beq 0 0) (aI (Nat.beq m m) (aI (Nat.ble lo m) (aI (Nat.beq m m) (aI (Nat.beq es es) (aI (Nat.beq es es) (aI (Nat.beq 0 1) (aC.err 32)
   (aI (Nat.ble (Nat.mul (Nat.add m n) aD) 70368744177664) (aI (Nat.beq elem elem)
    (cm (Nat.add m n) fun G=>xL ls cs m fun cs=>t.fB f (.row elem es aD G lo 0 cs) fun t=>
     .ok (.slice f G 0 G es) ⟨next,aR,wrote f aR ws,t⟩) (.err 32)) (.err 32))) (.err 32)) (.err 32)) (.err 32)) (.err 32)) (.err 32)) (.err 32)=_
  rw[show Nat.beq 0 0=true from rfl,dX,show Nat.beq m m=true from gG m,dX,gn M,dX,dX,show Nat.beq es es=true from gG es,dX,dX,
   show aI (Nat.beq 0 1) (aC.err 32) _=_ from rfl,show Nat.ble (Nat.mul (Nat.add m n) aD) 70368744177664=true from gn h,dX,show Nat.beq elem elem=true from gG elem,dX,fy,Cr,GT.jI]
  rfl
theorem vi_appC{op:bq}{elem es aD:Nat}{x:aG}{b:Nat}{rows ys:ai}(hx:x.vv VE=some (.ac b rows.length es))(hb:aF B b=some (.acc elem aD es rows))
  (zc:∀{H0:Nat→Nat}{X0:Nat→Prop}{E:Env}{H:ax}{β:Nat→Nat},Rel H0 X0 VE B E H β→∃ls,kY H (XB X0 B β) es ls ys∧∀call a,x.ev E=some a→op.ev call E H=iT elem es aD ys.length ls H a)
  (G:(rows++ys).length*aD≤70368744177664) (hE:rows=[]→vo b VE=true) (hB:rows=[]→tC b B=true)
  (U:Q (.ac b (rows++ys).length es) ((b,.acc elem aD es (rows++ys))::B)):VI T op VE B [b] Q:=fun _ X0 _ H β O=>by
 obtain⟨a,h1,h2⟩:=O.bI hx;obtain⟨ls,L,z⟩:=zc O;have z:=fun call=>z call a h1
 have Xv:=L.length
 cases ys with
 |nil=>
  rw[Np] at U;have Y:iT elem es aD 0 ls H a= .ok a H:=by
   simp only[aE] at h2;rcases h2 with⟨_,rfl⟩|⟨_,rfl⟩<;>rfl
  have I:∀k s,aF ((b,BS.acc elem aD es rows)::B) k=some s→aF B k=some s:=fun k s M=>by
   rw[c7] at M
   by_cases e:b=k
   ·rw[bg e] at M;cases M;exact e▸hb
   rw[aZ e] at M;exact M
  refine eX (fun call=>(z call).trans Y) ⟨_,_,β,gK.refl.Mt fun k s M ho=>⟨s,I k s M,ho⟩,O.Ds (B':=(b,.acc elem aD es rows)::B) I,?_,U⟩;simp only[aE] at h2⊢;exact h2
 |cons y0 yr=>
  have hA:iT elem es aD (y0::yr).length ls H a=fc a (.err 34) (Ad elem es aD (y0::yr).length ls H) (Ae elem es aD (y0::yr).length ls H):=rfl;generalize Z:y0::yr=ys at*;have yz:0<ys.length:=by rw[←Z];simp
  cases rows with
  |nil=>
   have Y:a= .fR:=by
    simp only[aE,jK] at h2;rcases h2 with⟨_,h⟩|⟨h,_⟩
    ·exact h
    omega
   subst Y;rw[Bd] at U G;obtain⟨β',⟨hβ,VW⟩,n7⟩:=O.agI (b:=b) (s:=.acc elem aD es ys) (H':=⟨H.next+1,H.aR,H.ws,H.t.set H.next (.row elem es aD ys.length ys.length 0 (gE ls .emp 0))⟩) (hE rfl) (hB rfl) (fun s hs ho=>by rw[hb] at hs;cases hs;exact ho rfl) rfl
    (fun f hf=>by show(H.t.set H.next _).get f=_;rw[GT.da,aZ al]) rfl (fun X β' k=>.inr ⟨ys.length,gE ls .emp 0,by show(H.t.set H.next _).get H.next=_;rw[GT.da,bg rfl],bf _,fun i row hi=>by
     obtain⟨l,j1,j2,j3⟩:=L.get hi;refine⟨l,?_,j2,k _ _ j3⟩;rw[Kr,bg ⟨hZ _,by have:=(List.getElem?_eq_some_iff.1 hi).1;omega⟩,Ir]
     exact j1⟩)
   refine eX (fun call=>(z call).trans (hA.trans (aah G))) ⟨_,_,β',⟨rfl,Ba _,fun _ h=>.inl h,fun c t hc ht=>?_,fun f hf _=>by show(H.t.set H.next _).get f=_;rw[GT.da,aZ al]⟩,n7,?_,U⟩
   ·rw[c7] at hc
    by_cases e:b=c
    ·subst e;exact .inr (by rw[hβ];exact bf _)
    rw[aZ e] at hc;exact .inl ⟨t,hc,ht,VW c fun k=>e k.symm⟩
   simp only[aE,hβ];exact .inr ⟨yz,trivial⟩
  |cons r0 rr=>
   generalize A:r0::rr=rows at*;have fP:rows≠[]:=by rw[←A];simp
   have hrpos:0<rows.length:=by rw[←A];simp
   have Y:a= .slice (β b) rows.length 0 rows.length es:=by
    simp only[aE] at h2;rcases h2 with⟨h,_⟩|⟨_,h⟩
    ·omega
    exact h
   subst Y;rcases O.box b _ hb with h|⟨lo,cs,k1,k2,k3⟩
   ·exact absurd h fP
   rw[eT] at G;refine⟨0,_,_,fun lf n _ _=>(z _).trans (hA.trans (aai k1 k2 G)),?_⟩;refine zF (s':=.acc elem aD es (rows++ys)) O hb fP rfl (fun f hf=>?_) rfl rfl (fun X _ j2=>.inr ⟨lo,gE ls cs rows.length,?_,by rw[eT];omega,fun i row hi=>?_⟩) (fun X=>?_) U
   ·show(H.t.set (β b) _).get f=_;rw[GT.da,aZ hf]
   ·show(H.t.set (β b) _).get (β b)=_;rw[GT.da,bg rfl,eT]
   ·rw[Kr];have wH:=(List.getElem?_eq_some_iff.1 hi).1;rw[eT] at wH
    by_cases e:rows.length≤i
    ·rw[bg ⟨e,al⟩];rw[qR e] at hi;obtain⟨l,j3,j4,j5⟩:=L.get hi;exact⟨l,j3,j4,j2 _ _ j5⟩
    rw[aZ (fun k=>e k.1)];rw[sg al] at hi;obtain⟨l,j3,j4,j5⟩:=k3 i row hi;exact⟨l,j3,j4,j2 _ _ j5⟩
   simp only[aE];exact .inr ⟨by rw[eT];omega,by rw[eT]⟩
theorem aY{elem es aD:Nat}{x y:aG}{b:Nat}{rows ys:ai}{L:VV}(U:x.vv VE=some (.ac b rows.length es))(Y:aF B b=some (.acc elem aD es rows))(Z:y.vv VE=some L)(z:YR B es L ys)(h0:0<es)
  (A:(rows++ys).length*aD≤70368744177664) (hE:rows=[]→vo b VE=true) (hB:rows=[]→tC b B=true)
  (hq:Q (.ac b (rows++ys).length es) ((b,.acc elem aD es (rows++ys))::B)):VI T (.app elem es aD x y) VE B [b] Q:=vi_appC U Y (fun M=>by
 obtain⟨c,O,h4⟩:=M.bI Z;rcases z.elems M h0 h4 with⟨G,rfl⟩|⟨f,g,off,e,ls,G,k2,k3⟩
 ·exact⟨[],trivial,fun call a I=>LC I O (.inl ⟨G,rfl,rfl⟩)⟩
 exact⟨ls,k3,fun call a I=>LC I O (.inr ⟨f,g,off,e,G,k2⟩)⟩) A hE hB hq
end
end Go.Ev
