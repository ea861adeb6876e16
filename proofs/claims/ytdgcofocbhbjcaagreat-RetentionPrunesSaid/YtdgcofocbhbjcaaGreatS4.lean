/- Part 4 of rules for walks through the code of a program, and of such walks; what each part proves is said by its theorems. -/
import Derived.Test.YtdgcofocbhbjcaaGreatS3
import Derived.Laws.Tables
import Derived.Laws.MakeOwn
import Derived.Great.FillDense
import Derived.LaidEql
set_option linter.unusedVariables false
set_option linter.unusedSimpArgs false
noncomputable section
set_option maxRecDepth 100000
set_option maxHeartbeats 4000000
namespace Go.Ev
section
variable{P:Program}{ρ:Ho}{nt:Nat}{E:Env}{a:Act}{C:Nat→Option cZ}{w:World}{H H':aC}{v:aw}{o:Oper}
theorem xg{t:TypeId}{z:List aw}(p:zeroOf P t=some z):∃i A,P.info? t=some i∧i.zero=some A∧(∀ρ,cm ρ z A.cells.toList)∧z.all fb=true∧z.length=i.size∧0<i.size∧A.cells.size=i.size:=by
 unfold zeroOf at p
 split at p
 ·rename_i i hi
  split at p
  ·rename_i A G
   split at p
   ·rename_i L I
    split at p
    ·rename_i l K
     split at p
     ·rename_i F
      cases p
      have J:=fun ρ=>(Hz ρ _ _ I).cells (TC K)
      refine⟨i,A,hi,G,fun ρ=>(J ρ).1,(J (fun _ _=>none)).2,F.1,F.2,?_⟩
      have:=(J (fun _ _=>none)).1.length
      rw[ml] at this
      omega
     cases p
    cases p
   cases p
  cases p
 cases p
theorem size_zeroCells(z:Array Value)(n:Nat):(Builtin.zeroCells z n).size=n*z.size:=by simp[Builtin.zeroCells]
theorem WU{b:Bool}{k:aF}{n:Nat}(h:aI b (.err n) k= .ok v H'):b=false∧k= .ok v H':=by
 cases b
 ·exact⟨rfl,h⟩
 cases h
theorem nil_sound(hR:R ρ C w)(hF:fE ρ H.next H'.next){t L ty e:TypeId}{i:TypeInfo}{z:List aw}{M:Value}{n:Nat}{new:List (List aw)}{news:List Value}
  (ht:P.underlying t=some (.slice e)) (hi:P.info? e=some i) (hz:zeroOf P e=some z) (hb:i.bytes≠0) (hn:0<n) (hl:new.length=n) (A:Flat ρ i.size new news) (hs:Src P i.size L M n news w)
  (h:xH e i.size i.bytes n new H= .ok v H'):∃cv w',(Builtin.append_ #[t,L] ty #[.slice none 0 0,M]).run P w= .ok cv w'∧c6 ρ C w H v H' cv w':=by
 replace h:=dR h;obtain⟨p,h⟩:=h
 rw[xl] at h
 have h:=AA h
 cases h
 have p:=aX p
 have p:n*i.bytes≤70368744177664:=p
 obtain⟨i',O,F,U,_,_,_,G,Y⟩:=xg hz
 rw[hi] at F
 cases F
 have hnb:n≤n*i.bytes:=aae _ ax
 have KX:=grownCap_ge w (0+n) 0 e
 have I:=run_append_grow_src (P:=P) w t L ty e i O ht hi U none 0 0 [] (run_firstCells_none w.drew i.size 0 0 0) M n news hs ax ax (growslice_fits ax (by rw[fC];omega))
 generalize grownCap w (0+n) 0 e=Z at*
 have J:news.length=n*i.size:=by rw[A.len,hl]
 obtain⟨ρ',h1,h2,h3⟩:=hR.alloc (f:=H.next) (elem:=e) (es:=i.size) (aL:=i.bytes) (n:=n) (cs:=ia new .emp 0) (cells:=([]++news).toArray++Builtin.zeroCells O.cells (Z-(0+n)))
  (w':=w.drew.alloc (.cells (([]++news).toArray++Builtin.zeroCells O.cells (Z-(0+n))) e))
  (Wr ⟨H.next+1,H.bb,H.ws,H.t.set H.next (.row e i.size i.bytes n n 0 (ia new .emp 0))⟩) (fun g=>hF _ g (bM _) (wG _)) G
  (by rw[Ka,size_zeroCells];simp[J])
  (fun k hk=>by
   rw[uN,bE ax]
   have K:k<new.length:=by omega
   obtain⟨l1,l2⟩:=A.get k _ (dz K)
   refine⟨_,by rw[BU];exact dz K,l1,fun j x hx=>?_⟩
   obtain⟨k1,cv,k2,k3⟩:=l2 j x hx
   refine⟨k1,cv,?_,k3⟩
   have:=q8 k2
   rw[Kb (by simpa using this)]
   simpa using k2) rfl rfl rfl rfl
 refine⟨_,_,I,ρ',?_,h2,?_⟩
 ·simp only[VR]
  refine⟨_,_,_,h1,by rw[fC],⟨ax,by rw[fC];exact jg _ ax⟩,.inl ⟨rfl,?_⟩⟩
  simp only
  rw[Ka,size_zeroCells,Y,fC]
  simp only[rR,List.size_toArray,J]
  rw[←ld]
  exact jg _ ax
 rw[Hk]
 exact h3
theorem Ly{f:Nat}{o p:cZ}(z:C f=H.t.get f)(_ho:H.t.get f=some o):dZ C H ⟨H.next,H.bb,wrote f H.bb H.ws,H.t.set f p⟩=fun x=>if x=f then some p else C x:=by
 funext x
 unfold dZ
 simp only
 rw[bw ax,GT.c7]
 by_cases h:x=f
 ·subst h
  rw[bE rfl,bE rfl]
  split
  ·rename_i e;rw[z,←e]
  rfl
 rw[bw h,bw h,bE rfl]
theorem LQ(H:aC)(f:Nat)(t:HT):Wr ⟨H.next,H.bb,wrote f H.bb H.ws,t⟩ f:=by
 unfold Wr
 simp only[uP]
 by_cases p:f<H.bb
 ·exact .inl (.inr ⟨trivial,p⟩)
 exact .inr ax
theorem row_sound(hR:R ρ C w){t tx ty e:TypeId}{i:TypeInfo}{z:List aw}{yc:Value}{n:Nat}{new:List (List aw)}{news:List Value}{f g off p dv:Nat}{xc:Value}
  (ht:P.underlying t=some (.slice e)) (hi:P.info? e=some i) (hz:zeroOf P e=some z) (hb:i.bytes≠0) (hn:0<n) (hl:new.length=n) (wK:Flat ρ i.size new news) (hs:Src P i.size tx yc n news w)
  (hx:VR ρ (.slice f g off p dv) xc) (hC0:∀o,(∃g h,ρ f g=some h)→H.t.get f=some o→C f=some o)
  (h:AS e i.size i.bytes n new H f g off p dv= .ok v H'):∃cv w',(Builtin.append_ #[t,tx] ty #[xc,yc]).run P w= .ok cv w'∧c6 ρ C w H v H' cv w':=by
 have h:iN (H.t.get f) (aF.err 33) (fun L Y lJ m lo fl cs=>
  aI (Nat.beq off 0) (aI (Nat.beq g m) (aI (Nat.ble lo g) (aI (Nat.beq p m) (aI (Nat.beq dv i.size) (aI (Nat.beq Y i.size) (aI (Nat.beq fl 1) (aF.err 32)
   (aI (Nat.ble (Nat.mul (Nat.add m n) i.bytes) 70368744177664) (aI (Nat.beq e L)
    (cA (Nat.add m n) fun m'=>s8 new cs m fun cs=>H.t.eX f (.row L Y lJ m' lo fl cs) fun t=>
     aF.ok (.slice f m' 0 m' i.size) ⟨H.next,H.bb,wrote f H.bb H.ws,t⟩) (aF.err 32)) (aF.err 32))) (aF.err 32)) (aF.err 32)) (aF.err 32)) (aF.err 32)) (aF.err 32)) (aF.err 32))=aF.ok v H':=by
  cases H;exact h
 obtain⟨L,Y,lJ,m,lo,fl,cs,hg,h⟩:=UH h
 replace h:=dR h;obtain⟨a1,h⟩:=h
 replace h:=dR h;obtain⟨a2,h⟩:=h
 replace h:=dR h;obtain⟨a3,h⟩:=h
 replace h:=dR h;obtain⟨a4,h⟩:=h
 replace h:=dR h;obtain⟨a5,h⟩:=h
 replace h:=dR h;obtain⟨a6,h⟩:=h
 replace h:=WU h;obtain⟨a7,h⟩:=h
 replace h:=dR h;obtain⟨a8,h⟩:=h
 replace h:=dR h;obtain⟨a9,h⟩:=h
 rw[eP,xl,GT.i9] at h
 have a1:=cL a1
 have a2:=cL a2
 have a3:=aX a3
 have a4:=cL a4
 have a5:=cL a5
 have a6:=cL a6
 have a7:fl≠1:=by intro e;subst e;cases a7
 have a8:=aX a8
 have a9:=cL a9
 cases h
 subst a1 a2 a4 a6 a9
 obtain⟨i',zv,um,KY,_,_,_,aaI,CG⟩:=xg hz
 rw[hi] at um
 cases um
 simp only[VR] at hx
 obtain⟨A,ad,cap,hh,rfl,RW,Aa⟩:=hx
 have hC:C f=H.t.get f:=(hC0 _ ⟨_,_,hh⟩ hg).trans hg.symm
 have uo:C f=some (.row e i.size lJ p lo fl cs):=hC.trans hg
 rcases Aa with⟨rfl,Aa⟩|⟨_,_,Aa⟩
 case inr=>omega
 rw[a5] at Aa
 obtain⟨_,wJ,_,J⟩:=hR.obj f _ uo p A hh
 have J:=J a3 (bM _)
 obtain⟨c,fz,K,hroom⟩:=J.row
 have KZ:news.length=n*i.size:=by rw[wK.len,hl]
 have hnb:p+n≤(p+n)*i.bytes:=aae _ ax
 have hbd:(p+n)*i.bytes≤70368744177664:=a8
 have hadd:(p+n)*i.size=p*i.size+n*i.size:=ld _ _ _
 by_cases G:p+n≤cap
 ·have M:(p+n)*i.size≤cap*i.size:=jg _ G
  have pH:∀j,j<news.length→(w.cell? ⟨A.bW,A.off+0+p*i.size+j,none⟩).isSome=true:=by
   intro j hj
   simp only[World.cell?,K]
   rw[yM ax]
   rfl
  have CF:∀j,j<news.length→w.frozen? ⟨A.bW,A.off+0+p*i.size+j,none⟩=false:=by
   intro j hj
   rw[show A.off+0+p*i.size+j=A.off+(p*i.size+j) by omega]
   exact J.Bj a7 _ ax ax
  have Z:=run_append_room_src (P:=P) w t tx ty e i ht hi A.bW (A.off+0) p cap yc n news hs G pH CF
  obtain⟨s1,s2,s3,s4,s5,s6⟩:=CU A.bW news (A.off+0+p*i.size) w
  obtain⟨c',GC,aaE⟩:=s3 c e fz K
  have aaJ:∀q,q<p*i.size→(w.setCells A.bW (A.off+0+p*i.size) news).cell? ⟨A.bW,A.off+q,none⟩=w.cell? ⟨A.bW,A.off+q,none⟩:=by
   intro q hq
   exact World.cell?_setCells_out _ _ _ _ _ (fun _ _=>by simp only;omega)
  obtain⟨ρ',k1,k2,k3⟩:=hR.grow (H:=H) (lJ:=lJ) (w':=w.setCells A.bW (A.off+0+p*i.size) news) (h2:=A)
   (Wr ⟨H.next,H.bb,wrote f H.bb H.ws,H.t.set f (.row e i.size lJ (Nat.add p n) lo fl (ia new cs p))⟩) (LQ _ _ _) uo hh hl hn a3 a7 wK
   (by rw[s1];exact bM _) s4 s5 s6 (fun b _ hb=>s2 b hb) ⟨c,c',e,fz,K,GC,aaE⟩ aaJ (.inl rfl) (by rw[s1];exact hR.iH _ _ _ hh)
   ⟨c',fz,GC,ax⟩ ax aaJ
   (fun j hj=>by
    rw[show A.off+p*i.size+j=A.off+0+p*i.size+j by omega]
    rw[World.cell?_setCells_in _ _ _ _ pH j ax,←dz])
   (fun qN=>absurd rfl qN)
  refine⟨_,_,Z,ρ',?_,k2,?_⟩
  ·simp only[VR]
   exact⟨A,_,_,k1,rfl,⟨G,by rw[fC];exact M⟩,.inl ⟨rfl,ax⟩⟩
  rw[Ly hC hg]
  exact k3
 have G:cap<p+n:=by omega
 have cellAt:∀q,q<p*i.size→∃cv,w.cell? ⟨A.bW,A.off+q,none⟩=some cv∧cv.oneCell'=true:=by
  intro q hq
  have hi1:q/i.size<p:=by rw[aad aaI];exact hq
  have hj:q % i.size<i.size:=yE _ aaI
  obtain⟨l,l1,l2,l3⟩:=J.cell _ hi1
  obtain⟨k1,cv,k2,k3⟩:=l3 (q % i.size) _ (dz (by rw[l2];exact hj))
  refine⟨cv,?_,Lr k3 k1⟩
  have:q/i.size*i.size+q % i.size=q:=by rw[pj];exact J7 q i.size
  rwa [kz,this] at k2
 obtain⟨F,K0,ho2⟩:∃F:List Value,F.length=p*i.size∧∀q,q<p*i.size→F[q]?=w.cell? ⟨A.bW,A.off+q,none⟩:=by
  refine⟨(List.range (p*i.size)).map fun q=>(w.cell? ⟨A.bW,A.off+q,none⟩).getD undef,by simp,fun q hq=>?_⟩
  obtain⟨cv,k1,_⟩:=cellAt q hq
  simp[hq,k1]
 have hold:(Builtin.firstCells i.size p (.slice (some ⟨A.bW,A.off+0,none⟩) p cap)).run P w.drew= .ok F.toArray w.drew:=by
  refine run_firstCells_some w.drew i.size p _ p cap F K0 fun j u hu=>?_
  rw[Addr.add_lit,rP]
  show w.cell? _=_
  rw[←ho2 j (by have:=q8 hu;omega)]
  exact hu
 have Z:=run_append_grow_src (P:=P) w t tx ty e i zv ht hi KY (some ⟨A.bW,A.off+0,none⟩) p cap F hold yc n news hs G ax (growslice_fits G ax)
 have KX:=grownCap_ge w (p+n) cap e
 generalize grownCap w (p+n) cap e=cp at*
 generalize U:(F++news).toArray++Builtin.zeroCells zv.cells (cp-(p+n))=cells at*
 have hcsz:cells.size=cp*i.size:=by
  rw[←U,Ka,size_zeroCells,CG]
  simp only[List.size_toArray,fZ,K0,KZ]
  rw[←ld,←ld]
  congr 1
  omega
 have K1:∀q,q<(p+n)*i.size→cells[q]?=(F++news)[q]?:=by
  intro q hq
  rw[←U,Kb (by simp[K0,KZ];omega)]
  simp
 have I:∀q,(w.drew.alloc (.cells cells e)).cell? ⟨w.heap.size,q,none⟩=cells[q]?:=by
  intro q
  have:(w.drew.alloc (.cells cells e)).heap[w.heap.size]?=some (.cells cells e (0,0)):=by
   show(w.heap.push _)[w.heap.size]?=_
   simp
  simp only[World.cell?,this]
  simp
 have O:∀b,b<w.heap.size→(w.drew.alloc (.cells cells e)).heap[b]?=w.heap[b]?:=fun b hb=>by
  show(w.heap.push _)[b]?=_
  rw[Qr,bw ax]
 have hfz0:∀q,(w.drew.alloc (.cells cells e)).frozen? ⟨w.heap.size,q,none⟩=false:=by
  intro q
  have:(w.drew.alloc (.cells cells e)).heap[w.heap.size]?=some (.cells cells e (0,0)):=by
   show(w.heap.push _)[w.heap.size]?=_
   simp
  simp only[World.frozen?,this]
  simp
 have M:(p+n)*i.size≤cp*i.size:=jg _ KX
 obtain⟨ρ',k1,k2,k3⟩:=hR.grow (H:=H) (lJ:=lJ) (w':=w.drew.alloc (.cells cells e)) (h2:=⟨w.heap.size,0,cells.size,false,false⟩)
  (Wr ⟨H.next,H.bb,wrote f H.bb H.ws,H.t.set f (.row e i.size lJ (Nat.add p n) lo fl (ia new cs p))⟩) (LQ _ _ _) uo hh hl hn a3 a7 wK
  (by show w.heap.size≤(w.heap.push _).size;simp) rfl rfl rfl (fun b hb _=>O b hb) ⟨c,c,e,fz,K,by rw[O _ (hR.iH _ _ _ hh)];exact K,rfl⟩
  (fun q _=>cell_of_heap (w:=w) (O _ (hR.iH _ _ _ hh))) (.inr ⟨bM _,rfl⟩) (by show w.heap.size<(w.heap.push _).size;simp)
  ⟨cells,(0,0),by show(w.heap.push _)[w.heap.size]?=_;simp,by simp⟩ (by simp only;omega)
  (fun q hq=>by
   rw[fC,I,K1 q ax,tn ax]
   exact ho2 q hq)
  (fun j hj=>by
   rw[fC,I,K1 _ ax,rQ ax,K0]
   congr 1
   omega)
  (fun _=>⟨rfl,fun q=>hfz0 q,fun c1 e1 uk pH=>by
   have h0:(w.heap.push (Obj.cells cells e))[w.heap.size]?=some (.cells c1 e1 uk):=pH
   simp at h0
   rw[←h0.2.2]⟩)
 refine⟨_,_,Z,ρ',?_,k2,?_⟩
 ·simp only[VR]
  exact⟨_,_,_,k1,rfl,⟨by show p+n≤cp;exact KX,by rw[fC];exact M⟩,.inl ⟨rfl,by simp only;omega⟩⟩
 rw[Ly hC hg]
 exact k3
end
section
variable{P:Program}{ρ:Ho}{nt:Nat}{E:Env}{a:Act}{C:Nat→Option cZ}{w:World}{H H':aC}{v:aw}{o:Oper}
theorem S'{at_:Array TypeId}{t p ty:TypeId}{args:Array Value}(h0:at_[0]?=some t)(z:at_[1]?=some p):Builtin.append_ at_ ty args=Builtin.append_ #[t,p] ty args:=by
 unfold Builtin.append_
 simp[h0,z]
theorem TE(L:R ρ C w)(hF:fE ρ H.next H'.next){t O ty e:TypeId}{i:TypeInfo}{z:List aw}{A:aw}{J U:Value}{n:Nat}{new:List (List aw)}{news:List Value}
  (Y:P.underlying t=some (.slice e)) (hi:P.info? e=some i) (hz:zeroOf P e=some z) (hb:i.bytes≠0) (Z:new.length=n) (F:Flat ρ i.size new news) (K:Src P i.size O U n news w)
  (p:VR ρ A J) (hC:∀f o,f∈fX (some A)→(∃g h,ρ f g=some h)→H.t.get f=some o→C f=some o)
  (h:iC e i.size i.bytes n new H A= .ok v H'):∃cv w',(Builtin.append_ #[t,O] ty #[J,U]).run P w= .ok cv w'∧c6 ρ C w H v H' cv w':=by
 cases n with
 |zero=>
  have CD:news=[]:=by
   have:=F.len
   rw[Z,pn] at this
   exact tm this
  subst CD
  have h:eG A (aF.err 31) (aF.ok A H) (fun _ _ _ _ _=>aF.ok A H)=aF.ok v H':=h
  replace h:=uM h
  have M:=K.kind
  have fin:∀base l c,J= .slice base l c→l≤c→(Builtin.append_ #[t,O] ty #[J,U]).run P w= .ok J w:=by
   intro base l c e G
   subst e
   have h2:=K.cells
   rcases M with⟨e',M⟩|M<;>cases base<;>simp[Builtin.append_,run_underlying Y,run_underlying M,sizeOf,typeInfo,hi,K.len,G,h2,storeCells]
  rcases h with⟨rfl,h⟩|⟨f,g,o1,l,es,rfl,h⟩
  ·cases h
   have I:=p
   simp only[VR] at p
   exact⟨J,w,fin _ _ _ p (bM _),c6.pure L I⟩
  cases h
  have I:=p
  simp only[VR] at p
  obtain⟨hm,ad,cap,hh,rfl,G,Aa⟩:=p
  exact⟨_,w,fin _ _ _ rfl G.1,c6.pure L I⟩
 |succ n=>
  have h:eG A (aF.err 34) (xH e i.size i.bytes (n+1) new H) (AS e i.size i.bytes (n+1) new H)=aF.ok v H':=h
  replace h:=uM h
  rcases h with⟨rfl,h⟩|⟨f,g,o1,l,es,rfl,h⟩
  ·simp only[VR] at p
   subst p
   exact nil_sound L hF Y hi hz hb (Kc _) Z F K h
  exact row_sound L Y hi hz hb (Kc _) Z F K p (fun o=>hC f o (by simp[fX])) h
theorem app_sound(hA:AR P ρ nt E a)(hR:R ρ C w)(hF:fE ρ H.next H'.next){c:Call}{x y:Operand}{Z y':aM}{t u e e2:TypeId}{i:TypeInfo}{z:List aw}
  (ho:o.op= .call c) (hc:c.callee= .builtin .append) (I:c.args=#[x,y]) (hx:cB P x=some Z) (hy:cB P y=some y') (h0:c.argTypes[0]?=some t) (h1:c.argTypes[1]?=some u)
  (ht:P.underlying t=some (.slice e)) (F:P.underlying u=some (.slice e2)) (hi:P.info? e=some i) (hz:zeroOf P e=some z) (hb:i.bytes≠0)
  (hC:∀f o,f∈fX (Z.ev E)++fX (y'.ev E)→(∃g h,ρ f g=some h)→H.t.get f=some o→C f=some o)
  (h:FK e i.size i.bytes Z y' E H= .ok v H'):dI P o a w (c6 ρ C w H v H'):=by
 replace h:=dG h;obtain⟨xa,K,h⟩:=h
 replace h:=dG h;obtain⟨ya,L,h⟩:=h
 have hvx:=hA.bU hx K
 have p:=hA.bU hy L
 obtain⟨i',zv,M,KY,_,_,_,O,CG⟩:=xg hz
 rw[hi] at M
 cases M
 have hCx:∀f o,f∈fX (some xa)→(∃g h,ρ f g=some h)→H.t.get f=some o→C f=some o:=fun f o hf=>hC f o (by rw[K];exact Qu _ hf)
 have done:∀{n:Nat}{new:List (List aw)}{news:List Value},new.length=n→Flat ρ i.size new news→Src P i.size u (a.eval y) n news w→iC e i.size i.bytes n new H xa= .ok v H'→dI P o a w (c6 ρ C w H v H'):=by
  intro n new news hl A hs h
  obtain⟨cv,w',U,hp⟩:=TE hR hF (ty:=o.type) ht hi hz hb hl A hs hvx hCx h
  refine .inl ⟨cv,w',?_,hp⟩
  simp[execOp,ho,resolve,hc,I,invoke,builtin,S' h0 h1,U]
 replace h:=uM h
 rcases h with⟨rfl,h⟩|⟨f,g,o1,l,es,rfl,h⟩
 ·simp only[VR] at p
  refine done (new:=[]) (news:=[]) rfl ⟨by simp,(fun _ F=>by cases F),(fun i x hx=>by simp at hx)⟩ ?_ h
  rw[p]
  exact Src.ofNil w F 0
 replace h:=gV h;obtain⟨new,Y,h⟩:=h
 simp only[VR] at p
 obtain⟨hm,ad,cap,hh,p,RW,J⟩:=p
 obtain⟨hlen,news,A,G⟩:=Flat.of_elems hR Y (fun o=>hC f o (by rw[L];exact Kd _ (by simp[fX])) ⟨_,_,hh⟩) hh O
 rcases J with⟨rfl,J⟩|⟨sq,hc0,J⟩
 ·refine done hlen A ?_ h
  rw[p]
  refine Src.ofSlice w F _ l cap news (by rw[A.len,hlen]) (fun j u F=>?_) A.one
  rw[Addr.add_lit]
  exact G j u F
 subst sq
 have CD:news=[]:=by
  have:=A.len
  rw[hlen,pn] at this
  exact tm this
 subst CD
 refine done hlen A ?_ h
 rw[p]
 exact Src.ofSlice w F _ 0 cap [] (by simp) (fun j u F=>by simp at F) (fun _ F=>by cases F)
theorem Ls:∀(l:List UInt8)(i:Nat)(x:List aw),(oe l.length (pack l))[i]?=some x→∃b,l[i]?=some b∧x=[.int .u8 b.toNat]
 |[],i,x,h=>by
  have h:([]:List (List aw))[i]?=some x:=h
  simp at h
 |b::r,i,x,h=>by
  have step:oe (b::r).length (pack (b::r))=[aw.int .u8 (Int.ofNat (Nat.mod (pack (b::r)) 256))]::oe r.length (Nat.div (pack (b::r)) 256):=rfl
  have G:b.toNat<256:=b.toNat_lt
  have p:Nat.mod (pack (b::r)) 256=b.toNat:=by show(b.toNat+256*pack r) % 256=_;omega
  have z:Nat.div (pack (b::r)) 256=pack r:=by show(b.toNat+256*pack r)/256=_;omega
  rw[step,p,z] at h
  cases i with
  |zero=>simp at h;exact⟨b,rfl,h.symm⟩
  |succ i=>obtain⟨A,F,h2⟩:=Ls r i x (by simpa using h);exact⟨A,by simpa using F,h2⟩
theorem CV:∀(l v:Nat),(oe l v).length=l
 |0,_=>rfl
 |l+1,v=>by
  have step:oe (l+1) v=[aw.int .u8 (Int.ofNat (Nat.mod v 256))]::oe l (Nat.div v 256):=rfl
  rw[step,kZ,CV]
theorem Flat.bytes(s:ByteArray):Flat ρ 1 (oe s.size (pack s.data.toList)) (byteCells s):=by
 have p:s.size=s.data.toList.length:=by rw[ml];rfl
 refine⟨by rw[byteCells_length,CV,Ke],fun u G=>?_,fun i x A=>?_⟩
 ·obtain⟨_,_,rfl⟩:=List.mem_map.1 G
  rfl
 rw[p] at A
 obtain⟨b,I,rfl⟩:=Ls _ _ _ A
 refine⟨rfl,fun j y z=>?_⟩
 have F:=q8 z
 simp at F
 subst F
 simp at z
 subst z
 refine⟨rfl,.int .u8 b.toNat,?_,by simp only[VR]⟩
 rw[Ke,rP]
 simp only[byteCells,BV,I,rO]
theorem appStr_sound(Y:AR P ρ nt E a)(hR:R ρ C w)(hF:fE ρ H.next H'.next){c:Call}{x y:Operand}{L Z:aM}{t u e:TypeId}{i:TypeInfo}{z:List aw}
  (ho:o.op= .call c) (hc:c.callee= .builtin .append) (F:c.args=#[x,y]) (hx:cB P x=some L) (hy:cB P y=some Z) (h0:c.argTypes[0]?=some t) (h1:c.argTypes[1]?=some u)
  (ht:P.underlying t=some (.slice e)) (hu:P.underlying u=some .string) (hi:P.info? e=some i) (hz:zeroOf P e=some z) (G:i.size=1) (M:i.bytes=1)
  (hC:∀f o,f∈fX (L.ev E)→(∃g h,ρ f g=some h)→H.t.get f=some o→C f=some o)
  (h:Dh e L Z E H= .ok v H'):dI P o a w (c6 ρ C w H v H'):=by
 replace h:=dG h;obtain⟨xa,I,h⟩:=h
 replace h:=dG h;obtain⟨ya,O,h⟩:=h
 replace h:=Az h;obtain⟨l,s,rfl,h⟩:=h
 have U:=Y.bU hx I
 have p:=Y.bU hy O
 simp only[VR] at p
 obtain⟨b,p,rfl,rfl⟩:=p
 have J:=Flat.bytes (ρ:=ρ) b
 have A:=Src.ofString (P:=P) w hu b
 rw[←G] at J A
 have h:iC e i.size i.bytes b.size (oe b.size (pack b.data.toList)) H xa= .ok v H':=by rw[G,M];exact h
 obtain⟨cv,w',K,hp⟩:=TE hR hF (ty:=o.type) ht hi hz ax (CV _ _) J A U (fun f o hf=>hC f o (by rw[I];exact hf)) h
 refine .inl ⟨cv,w',?_,hp⟩
 simp[execOp,ho,resolve,hc,F,invoke,builtin,S' h0 h1,p,K]
end
def bF.cR:bF→List aM
 |.cG x=>[x]
 |.pick c a b=>[c,a,b]
 |.oz _ _ _ _=>[]
 |.box _ _ _ x=>[x]
 |.load _ _ a=>[a]
 |.store _ a x=>[a,x]
 |.bin _ x y=>[x,y]
 |.eqv _ _ x y=>[x,y]
 |.un _ x=>[x]
 |.dt x _=>[x]
 |.sub x _ _ _=>[x]
 |.xF _ _ x i=>[x,i]
 |.fP _ x i=>[x,i]
 |.AO _ _ _ x i=>[x,i]
 |.AP x i=>[x,i]
 |.Ed x lo hi=>x::(lo.toList++hi.toList)
 |.rX _ x lo hi=>x::(lo.toList++hi.toList)
 |.Gw _ x lo hi mx=>x::hi::mx::lo.toList
 |.tD x _=>[x]
 |.ql x=>[x]
 |.wa _ fs l=>fs++l
 |.wb _ x=>[x]
 |.tE _ _ _ _ x y=>[x,y]
 |.build _ ps=>ps.map (·.2.2)
 |.rf _ _ _ _ _ ps=>ps.map (·.2)
 |.len x=>[x]
 |.FE _=>[]
 |.rY x=>[x]
 |.app _ _ _ x y=>[x,y]
 |.va _ x y=>[x,y]
 |.copy _ x y=>[x,y]
 |.vb _ x ys=>x::ys
 |.conv _ x=>[x]
 |.Ik x=>[x]
 |.AQ _ x=>[x]
 |.vc x=>[x]
 |.call _ l=>l
 |.rA x l=>x::l
 |.vt _ _ x=>[x]
 |.Gx x=>[x]
 |.wc _ x n=>[x,n]
theorem cM(x:aM)(E:Env)(e:aF)(k:aw→aF):bD x E e k=ob (x.ev E) e k:=by cases x<;>rfl
section
variable{E E':Env}
theorem As:∀(l:List aM),(∀x∈l,x.ev E=x.ev E')→im E l=im E' l
 |[],_=>rfl
 |x::r,h=>by
  have p:=h x (by simp)
  have h2:=As r (fun y z=>h y (by simp[z]))
  show ob (x.ev E) none (fun v=>ob (im E r) none fun vs=>some (v::vs))=ob (x.ev E') none (fun v=>ob (im E' r) none fun vs=>some (v::vs))
  rw[p,h2]
theorem xh{x:Option aM}{d y:Nat}{e:aF}{k:Nat→aF}(h:∀z∈x.toList,z.ev E=z.ev E'):dK E x d y e k=dK E' x d y e k:=by
 cases x with
 |none=>rfl
 |some z=>
  have p:=h z (by simp)
  show ob (z.ev E) e _=ob (z.ev E') e _
  rw[p]
theorem Ta:∀(ps:List (Nat×Nat×aM))(cells:List aw),(∀x∈ps.map (·.2.2),x.ev E=x.ev E')→oZ E ps cells=oZ E' ps cells
 |[],_,_=>rfl
 |p::r,cells,h=>by
  have z:=h p.2.2 (by simp)
  have h2:=fun cells=>Ta r cells (fun y A=>h y (by simp only[lg,qv];exact .inr A))
  show ob (p.2.2.ev E) none _=ob (p.2.2.ev E') none _
  rw[z]
  congr 1
  funext v
  congr 1
  funext new
  congr 1
  exact h2 _
theorem S7(es z:Nat):∀(ps:List (Nat×aM))(t:RT),(∀x∈ps.map (·.2),x.ev E=x.ev E')→pY E es z ps t=pY E' es z ps t
 |[],_,_=>rfl
 |p::r,t,h=>by
  have A:=h p.2 (by simp)
  have h2:=fun t=>S7 es z r t (fun y F=>h y (by simp only[lg,qv];exact .inr F))
  show ob (p.2.ev E) none _=ob (p.2.ev E') none _
  rw[A]
  congr 1
  funext v
  congr 1
  funext new
  congr 1
  congr 1
  exact h2 _
theorem bF.ev_congr{call:dr}{H:aC}(io:bF)(h:∀x∈io.cR,x.ev E=x.ev E'):io.ev call E H=io.ev call E' H:=by
 cases io with
 |cG x=>have p:=h x (by simp[bF.cR]);show lq x E H=lq x E' H;simp only[lq,cM,p]
 |pick c x y=>
  have p:=h c (by simp[bF.cR]);have h2:=h x (by simp[bF.cR]);have F:=h y (by simp[bF.cR])
  show Ee c x y E H=Ee c x y E' H;simp only[Ee,lq,cM,p,h2,F]
 |oz a b c d=>rfl
 |box a b c x=>have p:=h x (by simp[bF.cR]);show FF a b c x E H=FF a b c x E' H;simp only[FF,yd,cM,p]
 |load a b x=>have p:=h x (by simp[bF.cR]);show Ef a b x E H=Ef a b x E' H;simp only[Ef,cM,p]
 |store a x y=>have p:=h x (by simp[bF.cR]);have h2:=h y (by simp[bF.cR]);show Dz a x y E H=Dz a x y E' H;simp only[Dz,cM,p,h2]
 |bin a x y=>have p:=h x (by simp[bF.cR]);have h2:=h y (by simp[bF.cR]);show FG a x y E H=FG a x y E' H;simp only[FG,cM,p,h2]
 |eqv a b x y=>have p:=h x (by simp[bF.cR]);have h2:=h y (by simp[bF.cR]);show Cx a b x y E H=Cx a b x y E' H;simp only[Cx,cM,p,h2]
 |un a x=>have p:=h x (by simp[bF.cR]);show Gz a x E H=Gz a x E' H;simp only[Gz,cM,p]
 |dt x a=>have p:=h x (by simp[bF.cR]);show Eg x a E H=Eg x a E' H;simp only[Eg,cM,p]
 |sub x a b c=>have p:=h x (by simp[bF.cR]);show FH x a b c E H=FH x a b c E' H;simp only[FH,cM,p]
 |xF a b x y=>have p:=h x (by simp[bF.cR]);have h2:=h y (by simp[bF.cR]);show De a b x y E H=De a b x y E' H;simp only[De,cM,p,h2]
 |fP a x y=>have p:=h x (by simp[bF.cR]);have h2:=h y (by simp[bF.cR]);show DA a x y E H=DA a x y E' H;simp only[DA,cM,p,h2]
 |AO a b c x y=>have p:=h x (by simp[bF.cR]);have h2:=h y (by simp[bF.cR]);show Df a b c x y E H=Df a b c x y E' H;simp only[Df,cM,p,h2]
 |AP x y=>have p:=h x (by simp[bF.cR]);have h2:=h y (by simp[bF.cR]);show Dg x y E H=Dg x y E' H;simp only[Dg,cM,p,h2]
 |Ed x lo hi=>
  have p:=h x (by simp[bF.cR])
  have h2:∀z∈lo.toList,z.ev E=z.ev E':=fun z A=>h z (by simp only[bF.cR,qv,yN];exact .inr (.inl A))
  have F:∀z∈hi.toList,z.ev E=z.ev E':=fun z A=>h z (by simp only[bF.cR,qv,yN];exact .inr (.inr A))
  show DB x lo hi E H=DB x lo hi E' H
  simp only[DB,cM,p,xh h2,xh F]
 |rX n x lo hi=>
  have p:=h x (by simp[bF.cR])
  have h2:∀z∈lo.toList,z.ev E=z.ev E':=fun z A=>h z (by simp only[bF.cR,qv,yN];exact .inr (.inl A))
  have F:∀z∈hi.toList,z.ev E=z.ev E':=fun z A=>h z (by simp only[bF.cR,qv,yN];exact .inr (.inr A))
  show Eh n x lo hi E H=Eh n x lo hi E' H
  simp only[Eh,cM,p,xh h2,xh F]
 |Gw n x lo hi mx=>
  have p:=h x (by simp[bF.cR])
  have h2:∀z∈lo.toList,z.ev E=z.ev E':=fun z A=>h z (by simp only[bF.cR,qv];exact .inr (.inr (.inr A)))
  have F:∀z∈(some hi).toList,z.ev E=z.ev E':=fun z A=>h z (by simp only[Option.toList_some,Qv] at A;subst A;simp[bF.cR])
  have G:∀z∈(some mx).toList,z.ev E=z.ev E':=fun z A=>h z (by simp only[Option.toList_some,Qv] at A;subst A;simp[bF.cR])
  show FI n x lo hi mx E H=FI n x lo hi mx E' H
  simp only[FI,cM,p,xh h2,xh F,xh G]
 |tD x a=>have p:=h x (by simp[bF.cR]);show Ei x a E H=Ei x a E' H;simp only[Ei,cM,p]
 |ql x=>have p:=h x (by simp[bF.cR]);show DD x E H=DD x E' H;simp only[DD,cM,p]
 |wa f fs l=>
  have p:=As fs (fun z A=>h z (by simp only[bF.cR,yN];exact .inl A));have h2:=As l (fun z A=>h z (by simp only[bF.cR,yN];exact .inr A))
  show Ej f fs l E H=Ej f fs l E' H;simp only[Ej,p,h2]
 |wb t x=>have p:=h x (by simp[bF.cR]);show Ek t x E H=Ek t x E' H;simp only[Ek,cM,p]
 |tE a b c d x y=>have p:=h x (by simp[bF.cR]);have h2:=h y (by simp[bF.cR]);show El a b c d x y E H=El a b c d x y E' H;simp only[El,cM,p,h2]
 |build z ps=>have p:=Ta ps z h;show Il z ps E H=Il z ps E' H;simp only[Il,p]
 |rf a b c d z ps=>have p:=S7 b d ps (nE z d) h;show Hx a b c d z ps E H=Hx a b c d z ps E' H;simp only[Hx,p]
 |len x=>have p:=h x (by simp[bF.cR]);show FJ x E H=FJ x E' H;simp only[FJ,cM,p]
 |FE n=>rfl
 |rY x=>have p:=h x (by simp[bF.cR]);show Em x E H=Em x E' H;simp only[Em,cM,p]
 |app a b c x y=>have p:=h x (by simp[bF.cR]);have h2:=h y (by simp[bF.cR]);show FK a b c x y E H=FK a b c x y E' H;simp only[FK,cM,p,h2]
 |va a x y=>have p:=h x (by simp[bF.cR]);have h2:=h y (by simp[bF.cR]);show Dh a x y E H=Dh a x y E' H;simp only[Dh,cM,p,h2]
 |copy a x y=>have p:=h x (by simp[bF.cR]);have h2:=h y (by simp[bF.cR]);show En a x y E H=En a x y E' H;simp only[En,cM,p,h2]
 |vb m x ys=>
  have p:=h x (by simp[bF.cR]);have h2:=As ys (fun z A=>h z (by simp only[bF.cR,qv];exact .inr A))
  show Di m x ys E H=Di m x ys E' H;simp only[Di,cM,p,h2]
 |conv k x=>have p:=h x (by simp[bF.cR]);show Eo k x E H=Eo k x E' H;simp only[Eo,cM,p]
 |Ik x=>have p:=h x (by simp[bF.cR]);show lq x E H=lq x E' H;simp only[lq,cM,p]
 |AQ e x=>have p:=h x (by simp[bF.cR]);show Dj e x E H=Dj e x E' H;simp only[Dj,cM,p]
 |vc x=>have p:=h x (by simp[bF.cR]);show Dk x E H=Dk x E' H;simp only[Dk,cM,p]
 |call f l=>have p:=As l h;show Er f l call E H=Er f l call E' H;simp only[Er,p]
 |rA x l=>
  have p:=h x (by simp[bF.cR]);have h2:=As l (fun z A=>h z (by simp only[bF.cR,qv];exact .inr A))
  show DF x l call E H=DF x l call E' H;simp only[DF,cM,p,h2]
 |vt t n x=>have p:=h x (by simp[bF.cR]);show DE t n x E H=DE t n x E' H;simp only[DE,cM,p]
 |Gx x=>have p:=h x (by simp[bF.cR]);show FM x E H=FM x E' H;simp only[FM,cM,p]
 |wc e x n=>have p:=h x (by simp[bF.cR]);have h2:=h n (by simp[bF.cR]);show Ep e x n E H=Ep e x n E' H;simp only[Ep,cM,p,h2]
theorem bF.reads_congr(io:bF)(h:∀x∈io.cR,x.ev E=x.ev E'):io.reads E=io.reads E':=by
 cases io with
 |load a b x=>have p:=h x (by simp[bF.cR]);simp only[bF.reads,p]
 |app a b c x y=>have p:=h x (by simp[bF.cR]);have h2:=h y (by simp[bF.cR]);simp only[bF.reads,p,h2]
 |va a x y=>have p:=h x (by simp[bF.cR]);simp only[bF.reads,p]
 |vc x=>have p:=h x (by simp[bF.cR]);simp only[bF.reads,p]
 |store a x y=>have p:=h x (by simp[bF.cR]);simp only[bF.reads,p]
 |vt t n x=>have p:=h x (by simp[bF.cR]);simp only[bF.reads,p]
 |wc t x n=>have p:=h x (by simp[bF.cR]);simp only[bF.reads,p]
 |_=>rfl
end
def iO(ρ:Ho)(C:Nat→Option cZ)(H:aC):Prop:=∀f o,(∃g h,ρ f g=some h)→H.t.get f=some o→C f=some o
structure jc(P:Program)(call:dr):Prop where
 lK:∀f args H,H.bb≤H.next→TM H (call f args H)
 sound:∀f args H v H' ρ C w(dx:Array Value),call f args H= .ok v H'→H.bb≤H.next→(∀x,H.next≤x→H.t.get x=none)→R ρ C w→iO ρ C H→fE ρ H.next H'.next→vx P ρ→cm ρ args dx.toList→
  ((callFunc f dx).run P w= .ok (.enter f dx) w∧Calls P f dx w fun e w'=>∃cv,e= .returned cv∧c6 ρ C w H v H' cv w')∨
  ∃cv w',(callFunc f dx).run P w= .ok (.value cv) w'∧c6 ρ C w H v H' cv w'
section
variable{P:Program}{ρ:Ho}{nt:Nat}{E:Env}{a:Act}{C:Nat→Option cZ}{w:World}{H H':aC}{v:aw}{o:Oper}{call:dr}
theorem call_sound(I:AR P ρ nt E a)(J:R ρ C w)(K:fE ρ H.next H'.next)(L:iO ρ C H)(M:H.bb≤H.next)(A:∀x,H.next≤x→H.t.get x=none)(O:jc P call){c:Call}{f:Nat}{args:List aM}
  (ho:o.op= .call c) (z:c.callee= .value (.func f)) (U:jN P c.args.toList=some args) (h:Er f args call E H= .ok v H'):dI P o a w (c6 ρ C w H v H'):=by
 replace h:=gV h;obtain⟨vs,Y,h⟩:=h
 have Z:=I.cR U Y
 rcases O.sound f vs H v H' ρ C w (c.args.map a.eval) h M A J L K I.sb (by simpa using Z) with⟨F,G⟩|⟨cv,w',F,p⟩
 ·refine .inr (.inr ⟨f,c.args.map a.eval,?_,G⟩)
  simp[execOp,ho,resolve,z,Deferred.ofValue,Act.eval,invoke,F]
 refine .inl ⟨cv,w',?_,p⟩
 simp[execOp,ho,resolve,z,Deferred.ofValue,Act.eval,invoke,F]
theorem callv_sound(F:AR P ρ nt E a)(O:R ρ C w)(U:fE ρ H.next H'.next)(Y:iO ρ C H)(Z:H.bb≤H.next)(G:∀x,H.next≤x→H.t.get x=none)(hc:jc P call){c:Call}{x:Operand}{K:aM}{args:List aM}
  (ho:o.op= .call c) (z:c.callee= .value x) (I:cB P x=some K) (hx:jN P c.args.toList=some args) (h:DF K args call E H= .ok v H'):dI P o a w (c6 ρ C w H v H'):=by
 replace h:=dG h;obtain⟨u,hu,h⟩:=h
 replace h:=onFunc_ok h;obtain⟨f,fs,dM,rfl,h⟩:=h
 replace h:=gV h;obtain⟨vs,hv,h⟩:=h
 have h1:=F.cR hx hv
 have h2:=F.bU I hu
 simp only[VR] at h2
 obtain⟨L,M,h2,h4,h3⟩:=h2
 rcases hc.sound f (fs++(vs++dM)) H v H' ρ C w (L++c.args.map a.eval++M) h Z G O Y U F.sb (by simpa using cm.append h4 (cm.append h1 h3)) with⟨A,J⟩|⟨cv,w',A,p⟩
 ·refine .inr (.inr ⟨f,L++c.args.map a.eval++M,?_,J⟩)
  rw[Array.append_assoc] at A⊢
  simp[execOp,ho,resolve,z,Deferred.ofValue,h2,invoke,A]
 refine .inl ⟨cv,w',?_,p⟩
 rw[Array.append_assoc] at A
 simp[execOp,ho,resolve,z,Deferred.ofValue,h2,invoke,A]
end
section
variable{P:Program}{ρ:Ho}{nt:Nat}{E:Env}{a:Act}{C:Nat→Option cZ}{w:World}{H H':aC}{v:aw}{o:Oper}{call:dr}
def xo(cells:Array Value)(off:Nat)(v:Array Value):Array Value:=v.zipIdx.foldl (fun cs(c,j)=>cs.setIfInBounds (off+j) c) cells
theorem S8(cells:Array Value)(off:Nat)(v:Array Value):(xo cells off v).size=cells.size:=by
 unfold xo
 rw[←Array.foldl_toList,aaf]
 exact(Great.foldl_set off v.toList 0 cells).1
theorem Li(cells:Array Value)(off:Nat)(v:Array Value)(k:Nat):(xo cells off v)[k]?=if off≤k∧k<off+v.size∧k<cells.size then v[k-off]?else cells[k]?:=by
 unfold xo
 rw[←Array.foldl_toList,aaf]
 rw[(Great.foldl_set off v.toList 0 cells).2 k]
 simp
theorem T6{place:Nat→Option (Nat×Nat)}{cells:Array Value}{i off size:Nat}{v:Value}{rest:List (Nat×Value)}(p:place i=some (off,size))(z:v.cells.size=size)(A:off+size≤cells.size):
  Instr.fill place cells ((i,v)::rest)=Instr.fill place (xo cells off v.cells) rest:=by
 rw[Instr.fill]
 simp only[p,z]
 rw[bw (by simp;omega)]
 rfl
theorem splice_ok{z new:List aw}{off:Nat}(A:z.all fb=true)(F:new.all fb=true):(dH z off new).all fb=true:=by
 unfold dH
 simp only[J4,yN] at*
 rintro x(p|p|p)
 ·exact A x (J6 p)
 ·exact F x p
 exact A x (J5 p)
theorem Vh(hA:AR P ρ nt E a){place:Nat→Option (Nat×Nat)}:∀{ps:List (Nat×Operand)}{I:List (Nat×Nat×aM)}(_:AT P place ps=some I)(z:List aw)(cells:Array Value)(F:List aw),
  (∀p∈I,p.1+p.2.1≤z.length)→cm ρ z cells.toList→z.all fb=true→oZ E I z=some F→∃A,Instr.fill place cells (ps.map fun p=>(p.1,a.eval p.2))=some A∧cm ρ F A.toList∧F.all fb=true
 |[],I,J,z,cells,F,_,Y,K,h=>by
  cases J
  cases h
  exact⟨cells,rfl,Y,K⟩
 |(i,x)::r,I,J,z,cells,F,hle,Y,K,h=>by
  unfold AT at J
  split at J
  ·rename_i q y l hq hy hl
   cases J
   have h:ob (y.ev E) none (fun v=>ob (iB v) none fun new=>aI (Nat.beq (gb new) q.2) (oZ E l (dH z q.1 new)) none)=some F:=h
   cases Z:y.ev E with
   |none=>rw[Z] at h;cases h
   |some u=>
    rw[Z] at h
    cases hc:iB u with
    |none=>simp only[ob] at h;rw[hc] at h;cases h
    |some new=>
     have h:ob (iB u) none (fun new=>aI (Nat.beq (gb new) q.2) (oZ E l (dH z q.1 new)) none)=some F:=h
     rw[hc] at h
     have h:aI (Nat.beq (gb new) q.2) (oZ E l (dH z q.1 new)) none=some F:=h
     cases L:Nat.beq (gb new) q.2
     ·rw[L] at h;cases h
     rw[L,dw] at h
     have L:=cL L
     rw[ny] at L
     have h1:=(hA.bU hy Z).cells hc
     have M:(a.eval x).cells.size=new.length:=by have:=h1.1.length;simpa using this
     have O:cells.size=z.length:=by have:=Y.length;simpa using this
     have G:=hle (q.1,q.2,y) (jU ..)
     have G:q.1+q.2≤z.length:=G
     have U:=S5 (l:=z) (new:=new) (r:=q.1) (n:=q.2) G L
     obtain⟨A,k1,k2,k3⟩:=Vh hA hl (dH z q.1 new) (xo cells q.1 (a.eval x).cells) F (fun p J=>by rw[U];exact hle p (qw _ J)) (cm.qb (by simp[S8,U,O]) fun k av K=>by
       rw[TD G L] at K
       simp only[Kf,Li,M]
       split at K
       ·rename_i sr
        rw[bE ax]
        obtain⟨cv,g1,g2⟩:=h1.1.get _ av K
        exact⟨cv,by simpa using g1,g2⟩
       rename_i sr
       rw[bw ax]
       obtain⟨cv,g1,g2⟩:=Y.get _ av K
       exact⟨cv,by simpa using g1,g2⟩) (splice_ok K h1.2) h
     refine⟨A,?_,k2,k3⟩
     rw[lg,T6 (off:=q.1) (size:=q.2) hq (M.trans L) (by rw[O];exact G)]
     exact k1
  cases J
theorem Tl(K:AR P ρ nt E a)(L:R ρ C w){t:TypeId}{parts:Array (Nat×Operand)}{place:Nat→Option (Nat×Nat)}{z:List aw}{cells:Array Value}{io:bF}(ho:o.op= .build t parts)
  (M:cm ρ z cells.toList) (O:z.all fb=true) (U:∀vs,Instr.fill place cells vs=P.built t vs) (F:HQ z (AT P place parts.toList)=some io) (h:io.ev call E H= .ok v H'):dI P o a w (c6 ρ C w H v H'):=by
 unfold HQ at F
 split at F
 ·rename_i l Y
  split at F
  ·rename_i G
   cases F
   have h:ob (oZ E l z) (.err 23) (fun cs=>aF.ok (.agg cs) H)= .ok v H':=h
   replace h:=gV h
   obtain⟨J,I,h⟩:=h
   cases h
   obtain⟨A,Z,k2,k3⟩:=Vh K Y z cells J (fun p hp=>by
    have:=List.all_eq_true.1 G p hp
    simpa using this) M O I
   refine eK (cv:=.agg A) ?_ L (by simp only[VR];exact⟨A,rfl,k2,k3⟩)
   have:=run_build (P:=P) w t (parts.map fun(i,x)=>(i,a.eval x)) A (by rw[←U,←Z];simp)
   simp[execOp,ho,this]
  cases F
 cases F
theorem build_sound(J:AR P ρ nt E a)(K:R ρ C w){t:TypeId}{parts:Array (Nat×Operand)}{io:bF}(ho:o.op= .build t parts)(p:L' P t parts.toList=some io)(h:io.ev call E H= .ok v H'):dI P o a w (c6 ρ C w H v H'):=by
 unfold L' at p
 split at p
 ·rename_i z O
  obtain⟨i,Y,hi,A,L,M,_,_,_⟩:=xg O
  split at p
  ·rename_i fs G
   split at p
   ·rename_i F U
    exact Tl J K ho (L ρ) M (fun vs=>by simp[Program.built,hi,G,A,U]) p h
   cases p
  ·rename_i n e G
   split at p
   ·rename_i Z I
    exact Tl J K ho (L ρ) M (fun vs=>by simp[Program.built,hi,G,A,I]) p h
   cases p
  cases p
 cases p
def Fl(ρ:Ho)(n es:Nat)(t:RT)(cells:Array Value):Prop:=
 ∀i,i<n→∃l,t.get i=some l∧l.length=es∧∀j x,l[j]?=some x→fb x=true∧∃cv,cells[i*es+j]?=some cv∧VR ρ x cv
theorem Hl(x:List aw)(i:Nat):∀n,(nE x n).get i=if i<n then some x else none
 |0=>rfl
 |n+1=>by
  show((nE x n).set n x).get i=_
  rw[RT.c7,Hl x i n]
  by_cases h:i=n
  ·rw[bE h,bE ax]
  rw[bw h]
  by_cases h2:i<n
  ·rw[bE h2,bE ax]
  rw[bw h2,bw ax]
theorem madeCells_get{z:Array Value}{es i j N:Nat}(p:z.size=es)(A:j<es)(hN:i*es+j<N):(madeCells z N)[i*es+j]?=z[j]?:=by
 unfold madeCells
 rw[Array.getElem?_map,Array.getElem?_range,bE hN]
 have e:(i*es+j) % z.size=j:=by rw[p,Nat.add_comm,Nat.add_mul_mod_self_right,BR A]
 simp only[rO,e]
 rw[getElem!_pos z j ax,yM ax]
theorem Vi{z:List aw}{p:Array Value}{es n N:Nat}(I:cm ρ z p.toList)(J:z.all fb=true)(A:z.length=es)(hN:n*es≤N):Fl ρ n es (nE z n) (madeCells p N):=by
 intro i hi
 refine⟨z,by rw[Hl,bE hi],A,fun j x F=>⟨List.all_eq_true.1 J x (yK F),?_⟩⟩
 obtain⟨cv,K,h2⟩:=I.get j x F
 have L:j<es:=by rw[←A];exact(List.getElem?_eq_some_iff.1 F).1
 have G:p.size=es:=by have:=I.length;rw[←A];simpa using this
 have M:i*es+es≤n*es:=by have:=jg es (show i+1≤n by omega);rwa [tp] at this
 exact⟨cv,by rw[madeCells_get G L ax];simpa using K,h2⟩
theorem T7(hA:AR P ρ nt E a){es A:Nat}:∀{ps:List (Nat×Operand)}{G:List (Nat×aM)}(_:HP P ps=some G)(t t':RT)(cells:Array Value),cells.size=A*es→Fl ρ A es t cells→pY E es A G t=some t'→
  ∃z,Instr.fill (fun i=>some (i*es,es)) cells (ps.map fun p=>(p.1,a.eval p.2))=some z∧z.size=A*es∧Fl ρ A es t' z
 |[],G,K,t,t',cells,M,Y,h=>by
  cases K
  cases h
  exact⟨cells,rfl,M,Y⟩
 |(i,x)::r,G,K,t,t',cells,M,Y,h=>by
  unfold HP at K
  split at K
  ·rename_i y l hy hl
   cases K
   have h:ob (y.ev E) none (fun v=>ob (iB v) none fun new=>aI (Nat.beq (gb new) es) (aI (Nat.ble (Nat.succ i) A) (pY E es A l (t.set i new)) none) none)=some t':=h
   cases Z:y.ev E with
   |none=>rw[Z] at h;cases h
   |some u=>
    rw[Z] at h
    have h:ob (iB u) none (fun new=>aI (Nat.beq (gb new) es) (aI (Nat.ble (Nat.succ i) A) (pY E es A l (t.set i new)) none) none)=some t':=h
    cases hc:iB u with
    |none=>rw[hc] at h;cases h
    |some new=>
     rw[hc] at h
     have h:aI (Nat.beq (gb new) es) (aI (Nat.ble (Nat.succ i) A) (pY E es A l (t.set i new)) none) none=some t':=h
     cases I:Nat.beq (gb new) es
     ·rw[I] at h;cases h
     rw[I,dw] at h
     cases F:Nat.ble (Nat.succ i) A
     ·rw[F] at h;cases h
     rw[F,dw] at h
     have I:=cL I
     rw[ny] at I
     have F:i+1≤A:=aX F
     have h1:=(hA.bU hy Z).cells hc
     have nT:(a.eval x).cells.size=new.length:=by have:=h1.1.length;simpa using this
     have mono:∀{p q:Nat},p+1≤q→p*es+es≤q*es:=fun{p q}h=>by have:=jg es h;rwa [tp] at this
     have sr:=mono F
     obtain⟨z,k1,k2,k3⟩:=T7 hA hl (t.set i new) t' (xo cells (i*es) (a.eval x).cells) (by rw[S8,M]) (fun k hk=>by
      rw[RT.c7]
      by_cases J:k=i
      ·subst J
       rw[bE rfl]
       refine⟨new,rfl,I,fun j O L=>⟨List.all_eq_true.1 h1.2 O (yK L),?_⟩⟩
       obtain⟨cv,g1,U⟩:=h1.1.get j O L
       have GD:j<es:=by rw[←I];exact(List.getElem?_eq_some_iff.1 L).1
       refine⟨cv,?_,U⟩
       rw[Li,bE ax,Nat.add_sub_cancel_left]
       simpa using g1
      rw[bw J]
      obtain⟨l0,g1,U,g3⟩:=Y k hk
      refine⟨l0,g1,U,fun j O L=>?_⟩
      obtain⟨m1,cv,m2,m3⟩:=g3 j O L
      have GD:j<es:=by rw[←U];exact(List.getElem?_eq_some_iff.1 L).1
      refine⟨m1,cv,?_,m3⟩
      rw[Li,bw ?_]
      ·exact m2
      rcases Nat.lt_or_gt_of_ne J with ss|KV
      ·have:=mono (show k+1≤i from ss);omega
      have:=mono (show i+1≤k from KV);omega) h
     refine⟨z,?_,k2,k3⟩
     rw[lg,T6 (off:=i*es) (size:=es) rfl (nT.trans I) (by rw[M];exact sr)]
     exact k1
  cases K
theorem UK(F:R ρ C w)(G:fE ρ H.next (H.next+1)){e es aL n cap:Nat}{t:RT}{cells:Array Value}(I:0<es)(p:n≤cap)(A:cells.size=cap*es)(z:Fl ρ n es t cells){w':World}(J:w'.heap=w.heap.push (.cells cells e))
  (K:w'.os=w.os) (h2:w'.tape=w.tape) (L:w'.output=w.output):c6 ρ C w H (.slice H.next n 0 n es) ⟨H.next+1,H.bb,H.ws,H.t.set H.next (.row e es aL n n 0 t)⟩ (.slice (some ⟨w.heap.size,0,none⟩) n cap) w':=by
 obtain⟨ρ',M,O,U⟩:=F.alloc (f:=H.next) (elem:=e) (es:=es) (aL:=aL) (n:=n) (cs:=t) (cells:=cells) (w':=w')
  (Wr ⟨H.next+1,H.bb,H.ws,H.t.set H.next (.row e es aL n n 0 t)⟩) (fun g=>G _ g (bM _) (wG _)) I (by rw[A];exact jg _ p) z J K h2 L
 refine⟨ρ',?_,O,?_⟩
 ·simp only[VR]
  refine⟨_,_,_,M,rfl,⟨p,by rw[fC];exact jg _ p⟩,.inl ⟨rfl,?_⟩⟩
  simp only
  rw[A,fC]
  exact bM _
 rw[Hk]
 exact U
theorem buildSl_sound(hA:AR P ρ nt E a)(hR:R ρ C w)(hF:fE ρ H.next H'.next){t:TypeId}{F:Nat}{parts:Array (Nat×Operand)}{io:bF}(ho:o.op= .buildSlice t F parts)(p:Lx P t F parts.toList=some io)
  (h:io.ev call E H= .ok v H'):dI P o a w (c6 ρ C w H v H'):=by
 unfold Lx at p
 split at p
 ·rename_i e Z
  split at p
  ·rename_i i z hi hz
   split at p
   ·rename_i l hl
    split at p
    ·rename_i hle
     cases p
     have h:ob (pY E i.size F l (nE z F)) (.err 24) (fun t=>H.alloc (.row e i.size i.bytes F F 0 t) fun f H=>.ok (.slice f F 0 F i.size) H)= .ok v H':=h
     replace h:=gV h
     obtain⟨tr,M,h⟩:=h
     have h:=AA h
     cases h
     obtain⟨i',I,J,O,hv,hk,U,K,CG⟩:=xg hz
     rw[hi] at J
     cases J
     obtain⟨A,k1,k2,k3⟩:=T7 hA hl (nE z F) tr (madeCells I.cells (F*i.size)) (size_madeCells _ _) (Vi (hv ρ) hk U (bM _)) M
     refine .inl ⟨_,w.alloc (.cells A e),?_,UK hR hF K (bM _) k2 k3 rfl rfl rfl rfl⟩
     have L:Instr.fill (fun j=>some (j*i.size,i.size)) ((Array.range (F*i.size)).map (I.cells[· % I.cells.size]!)) (parts.map fun(i,x)=>(i,a.eval x)).toList=some A:=by
      rw[←k1];simp[madeCells]
     by_cases h0:F*i.size=0
     ·have e0:(Array.range 0).map (I.cells[· % I.cells.size]!)=#[]:=by rw[show Array.range 0=#[] from rfl];exact Array.map_empty ..
      rw[h0,e0] at L
      have Y:Instr.fill (fun j=>some (j*i.size,i.size)) #[] (parts.toList.map fun x=>(x.1,a.eval x.2))=some A:=by rw[←L];simp
      simp[execOp,ho,Instr.buildSlice,run_underlying Z,sizeOf,typeInfo,hi,h0,newRow,Y,show Array.range 0=#[] from rfl]
     have G:¬(2^24<F*i.size):=by omega
     simp at L G
     simp[execOp,ho,Instr.buildSlice,run_underlying Z,sizeOf,typeInfo,hi,G,h0,zeroValue,O,L,newRow]
    cases p
   cases p
  cases p
 cases p
theorem mksl_sound(Y:AR P ρ nt E a)(hR:R ρ C w)(hF:fE ρ H.next H'.next){t:TypeId}{x y:Operand}{J K:aM}{io:bF}(ho:o.op= .makeSlice t x y)(hx:cB P x=some J)(hy:cB P y=some K)(p:M3 P t J K=some io)
  (h:io.ev call E H= .ok v H'):dI P o a w (c6 ρ C w H v H'):=by
 unfold M3 at p
 split at p
 ·rename_i e hu
  split at p
  ·rename_i i z hi hz
   split at p
   ·rename_i hb
    cases p
    have h:El e i.size i.bytes z J K E H= .ok v H':=h
    replace h:=dG h;obtain⟨u,L,h⟩:=h
    replace h:=sL h;obtain⟨kl,l0,rfl,h⟩:=h
    replace h:=xn h;obtain⟨l,rfl,h⟩:=h
    replace h:=dG h;obtain⟨u2,M,h⟩:=h
    replace h:=sL h;obtain⟨kc,c0,rfl,h⟩:=h
    replace h:=xn h;obtain⟨c,rfl,h⟩:=h
    replace h:=dR h;obtain⟨F,h⟩:=h
    replace h:=dR h;obtain⟨Z,h⟩:=h
    replace h:=dR h;obtain⟨g3,h⟩:=h
    rw[HL] at h
    have h:=AA h
    cases h
    have F:=aX F
    have Z:c*i.bytes≤70368744177664:=aX Z
    have g3:=aX g3
    obtain⟨i',zv,G,O,hv,hk,U,I,CG⟩:=xg hz
    rw[hi] at G
    cases G
    have e1:=Y.bU hx L
    have e2:=Y.bU hy M
    simp only[VR] at e1 e2
    have A:=run_make (P:=P) w t e i zv hu hi O kl kc (l:Int) (c:Int) (Int.natCast_nonneg l) (Int.ofNat_le.2 F) (by
     have:((i.bytes*c:Nat):Int)≤((281474976710656:Nat):Int):=Int.ofNat_le.2 (by rw[pj];omega)
     rw[Int.natCast_mul] at this
     exact this) ax
    simp only[BT] at A
    refine .inl ⟨_,w.alloc (.cells (madeCells zv.cells (c*i.size)) e),?_,UK hR hF I F (size_madeCells _ _) (Vi (hv ρ) hk U (jg _ F)) rfl rfl rfl rfl⟩
    rw[show(execOp a.eval o)=_ from rfl]
    simp only[execOp,ho,e1,e2]
    simp only[Sem.run_bind,A,Result.andThen_ok]
    rfl
   cases p
  cases p
 cases p
end
section
variable{P:Program}{ρ:Ho}{nt:Nat}{E:Env}{a:Act}{C:Nat→Option cZ}{w:World}{H H':aC}{v:aw}{o:Oper}{call:dr}
theorem Lt(b:Bool)(k:Bool→aF):nx b k=k b:=by cases b<;>rfl
theorem eqA_ok(O:Nat){c:Cw}{t:TypeId}{d:TypeDesc}(A:P.underlying t=some d)(z:O' P d=some c){x y:aw}{G cy:Value}(p:VR ρ x G)(h2:VR ρ y cy){r:Bool}(h:nS c x y=some r):
  (Op.equalIn (O+1) t G cy).run P w= .ok r w∧(∀k n,G≠.int k n)∧(∀b,G≠.string b)∧(∀k n,G≠.float k n)∧(∀k n m,G≠.complex k n m)∧(∀cs,G≠.agg cs)∧(G= .nilIface→∃ms,d= .interface ms):=by
 unfold O' at z
 split at z
 ·cases z
  unfold nS at h
  simp only at h
  split at h
  ·simp only[VR] at p h2
   subst p;subst h2
   cases h
   exact⟨by simp[Op.equalIn,run_underlying A],by simp,by simp,by simp,by simp,by simp,by simp⟩
  cases h
 ·rename_i e
  split at z
  ·rename_i ie K
   cases z
   unfold nS at h
   simp only at h
   split at h
   ·simp only[VR] at p h2
    subst p;subst h2;cases h
    exact⟨by simp[Op.equalIn,run_underlying A],by simp,by simp,by simp,by simp,by simp,by simp⟩
   ·simp only[VR] at p h2
    obtain⟨_,_,rfl⟩:=h2
    subst p;cases h
    exact⟨by simp[Op.equalIn,run_underlying A],by simp,by simp,by simp,by simp,by simp,by simp⟩
   ·simp only[VR] at p h2
    obtain⟨_,_,rfl⟩:=p
    subst h2;cases h
    exact⟨by simp[Op.equalIn,run_underlying A],by simp,by simp,by simp,by simp,by simp,by simp⟩
   ·rename_i f g o f' g' U
    cases F:Nat.beq f f'
    ·rw[F] at h;cases h
    rw[F,dw] at h
    cases I:Nat.beq g g'
    ·rw[I] at h;cases h
    rw[I,dw] at h
    cases J:Nat.beq o U
    ·rw[J] at h;cases h
    rw[J,dw] at h
    cases h
    have F:=cL F
    have I:=cL I
    have J:=cL J
    subst F;subst I;subst J
    simp only[VR] at p h2
    obtain⟨hm,Y,rfl⟩:=p
    obtain⟨Z,M,rfl⟩:=h2
    rw[Y] at M
    cases M
    exact⟨by simp[Op.equalIn,run_underlying A,sizeOf,typeInfo,K,run_sameAddr_same],by simp,by simp,by simp,by simp,by simp,by simp⟩
   cases h
  cases z
 ·cases z
  unfold nS at h
  simp only at h
  split at h
  ·simp only[VR] at p h2
   subst p;subst h2;cases h
   exact⟨by simp[Op.equalIn,run_underlying A],by simp,by simp,by simp,by simp,by simp,by simp⟩
  ·simp only[VR] at p h2
   obtain⟨_,_,_,_,rfl,_⟩:=h2
   subst p;cases h
   exact⟨by simp[Op.equalIn,run_underlying A],by simp,by simp,by simp,by simp,by simp,by simp⟩
  ·simp only[VR] at p h2
   obtain⟨_,_,_,_,rfl,_⟩:=p
   subst h2;cases h
   exact⟨by simp[Op.equalIn,run_underlying A],by simp,by simp,by simp,by simp,by simp,by simp⟩
  cases h
 ·rename_i ms
  cases z
  unfold nS at h
  simp only at h
  split at h
  ·simp only[VR] at p h2
   subst p;subst h2;cases h
   exact⟨by simp[Op.equalIn,run_underlying A],by simp,by simp,by simp,by simp,by simp,fun _=>⟨ms,rfl⟩⟩
  ·simp only[VR] at p h2
   obtain⟨_,rfl,_⟩:=h2
   subst p;cases h
   exact⟨by simp[Op.equalIn,run_underlying A],by simp,by simp,by simp,by simp,by simp,fun _=>⟨ms,rfl⟩⟩
  ·simp only[VR] at p h2
   obtain⟨_,rfl,_⟩:=p
   subst h2;cases h
   exact⟨by simp[Op.equalIn,run_underlying A],by simp,by simp,by simp,by simp,by simp,by simp⟩
  ·rename_i t1 _ t2 _
   cases F:Nat.beq t1 t2
   ·rw[F] at h
    cases h
    have L:t1≠t2:=fun e=>by rw[e,ga] at F;cases F
    simp only[VR] at p h2
    obtain⟨_,rfl,_⟩:=p
    obtain⟨_,rfl,_⟩:=h2
    exact⟨by simp[Op.equalIn,run_underlying A,L],by simp,by simp,by simp,by simp,by simp,by simp⟩
   rw[F] at h;cases h
  cases h
 ·cases z
  unfold nS at h
  simp only at h
  split at h
  ·simp only[VR] at p h2
   subst p;subst h2;cases h
   exact⟨by simp[Op.equalIn,run_underlying A],by simp,by simp,by simp,by simp,by simp,by simp⟩
  ·simp only[VR] at p h2
   obtain⟨_,_,rfl,_⟩:=h2
   subst p;cases h
   exact⟨by simp[Op.equalIn,run_underlying A],by simp,by simp,by simp,by simp,by simp,by simp⟩
  ·simp only[VR] at p h2
   obtain⟨_,_,rfl,_⟩:=p
   subst h2;cases h
   exact⟨by simp[Op.equalIn,run_underlying A],by simp,by simp,by simp,by simp,by simp,by simp⟩
  cases h
 ·cases z
  unfold nS at h
  simp only at h
  split at h
  ·simp only[VR] at p h2
   subst p;subst h2;cases h
   exact⟨by simp[Op.equalIn,run_underlying A],by simp,by simp,by simp,by simp,by simp,by simp⟩
  cases h
 cases z
theorem run_eqGuard_free{op:BinOp}(A:op= .eql∨op= .neq){t:TypeId}{d:TypeDesc}{x y:Operand}{F cy:Value}(G:P.underlying t=some d)(p:Io x y d=true)(I:∀cs,F≠.agg cs)(J:F= .nilIface→∃ms,d= .interface ms):
  (eqGuard op t x y F cy).run P w= .ok () w:=by
 unfold eqGuard
 rcases A with rfl|rfl
 ·rw[bw aD]
  split
  ·obtain⟨ms,rfl⟩:=J rfl
   simp only[Io,tq] at p
   have e:∀z,(Op.eqGuardIn (z+1) t .nilIface .nilIface).run P w= .ok (!ms.isEmpty) w:=fun z=>by simp[Op.eqGuardIn,run_underlying G]
   rcases p with(p|p)|p
   ·cases x<;>cases y<;>simp[Op.maxDepth,e 9999,p]
   ·cases x<;>simp[Ay] at p<;>simp
   cases y<;>simp[Ay] at p<;>simp
  ·exact absurd rfl (I _)
  rfl
 rw[bw aD]
 split
 ·obtain⟨ms,rfl⟩:=J rfl
  simp only[Io,tq] at p
  have e:∀z,(Op.eqGuardIn (z+1) t .nilIface .nilIface).run P w= .ok (!ms.isEmpty) w:=fun z=>by simp[Op.eqGuardIn,run_underlying G]
  rcases p with(p|p)|p
  ·cases x<;>cases y<;>simp[Op.maxDepth,e 9999,p]
  ·cases x<;>simp[Ay] at p<;>simp
  cases y<;>simp[Ay] at p<;>simp
 ·exact absurd rfl (I _)
 rfl
theorem eqv_sound(M:AR P ρ nt E a)(hR:R ρ C w){op:BinOp}{t t':TypeId}{d:TypeDesc}{x z:Operand}{I J:aM}{io:bF}(ho:o.op= .binOp op t x z t')(hx:cB P x=some I)(hz:cB P z=some J)(O:P.underlying t=some d)
  (p:QF P op d x z I J=some io) (h:io.ev call E H= .ok v H'):dI P o a w (c6 ρ C w H v H'):=by
 unfold QF at p
 split at p
 ·rename_i c hc
  split at p
  ·rename_i A
   have key:∀neg,(op= .eql∧neg=false)∨(op= .neq∧neg=true)→Cx c neg I J E H= .ok v H'→dI P o a w (c6 ρ C w H v H'):=by
    intro neg F h
    replace h:=dG h;obtain⟨u,K,h⟩:=h
    replace h:=dG h;obtain⟨u2,L,h⟩:=h
    replace h:=gV h;obtain⟨r,hr,h⟩:=h
    rw[Lt] at h
    cases h
    obtain⟨g0,U,Y,Z,g4,g5,g6⟩:=eqA_ok (w:=w) 9999 O hc (M.bU hx K) (M.bU hz L) hr
    have hg:=run_eqGuard_free (w:=w) (op:=op) (by rcases F with⟨h,_⟩|⟨h,_⟩<;>simp[h]) (x:=x) (y:=z) (cy:=a.eval z) O A g5 g6
    refine eK (cv:=.bool (Bool.xor neg r)) ?_ hR (by simp only[VR])
    simp only[execOp,ho,Sem.run_bind,hg,Result.andThen_ok]
    generalize a.eval x=G at*
    generalize a.eval z=cz at*
    rcases F with⟨rfl,rfl⟩|⟨rfl,rfl⟩
    ·have:(binOp .eql t G cz).run P w= .ok (.bool r) w:=by
      cases G<;>simp only[binOp]<;>first|exact absurd rfl (U _ _)|exact absurd rfl (Y _)|exact absurd rfl (Z _ _)|exact absurd rfl (g4 _ _ _)|simp[Op.equal,Op.maxDepth,g0]
     simp[this]
    have:(binOp .neq t G cz).run P w= .ok (.bool (!r)) w:=by
     cases G<;>simp only[binOp]<;>first|exact absurd rfl (U _ _)|exact absurd rfl (Y _)|exact absurd rfl (Z _ _)|exact absurd rfl (g4 _ _ _)|simp[Op.equal,Op.maxDepth,g0]
    simp[this]
   cases op<;>simp only[eW,reduceCtorEq] at p
   ·subst p;exact key false (.inl ⟨rfl,rfl⟩) h
   subst p;exact key true (.inr ⟨rfl,rfl⟩) h
  cases p
 cases p
end
end Go.Ev
