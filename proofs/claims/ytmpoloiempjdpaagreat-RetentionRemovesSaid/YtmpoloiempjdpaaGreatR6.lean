/- Part 6 of rules for walks through the code of a program, and of such walks; what each part proves is said by its theorems. -/
import Derived.Test.YtmpoloiempjdpaaGreatR5
set_option linter.unusedVariables false
set_option linter.unusedSimpArgs false
noncomputable section
set_option maxRecDepth 100000
set_option maxHeartbeats 4000000
namespace Go.Ev
section
variable{P:Program}{ρ:Ho}{nt:Nat}{E:Env}{a:Act}{C:Nat→Option cV}{w:World}{H H':ax}{v:aj}{o:Oper}
theorem wZ{t:TypeId}{z:List aj}(A:zeroOf P t=some z):∃i G,P.info? t=some i∧i.zero=some G∧(∀ρ,bO ρ z G.cells.toList)∧z.all eM=true∧z.length=i.size∧0<i.size∧G.cells.size=i.size:=by
 unfold zeroOf at A
 split at A
 ·rename_i i hi
  split at A
  ·rename_i G L
   split at A
   ·rename_i Y M
    split at A
    ·rename_i l U
     split at A
     ·rename_i I
      cases A
      have O:=fun ρ=>(KB ρ _ _ M).cells (Zs U)
      refine⟨i,G,hi,L,fun ρ=>(O ρ).1,(O (fun _ _=>none)).2,I.1,I.2,?_⟩;have:=(O (fun _ _=>none)).1.length;rw[qP] at this;omega
     cases A
    cases A
   cases A
  cases A
 cases A
theorem size_zeroCells(z:Array Value)(n:Nat):(Builtin.zeroCells z n).size=n*z.size:=by simp[Builtin.zeroCells]
theorem chk_no{b:Bool}{k:aC}{n:Nat}(h:aI b (.err n) k= .ok v H'):b=false∧k= .ok v H':=by
 cases b
 ·exact⟨rfl,h⟩
 cases h
theorem nil_sound(hR:R ρ C w)(hF:fC ρ H.next H'.next){t Y ty e:TypeId}{i:TypeInfo}{z:List aj}{Z:Value}{n:Nat}{new:List (List aj)}{news:List Value}
  (ht:P.underlying t=some (.slice e)) (hi:P.info? e=some i) (hz:zeroOf P e=some z) (hb:i.bytes≠0) (hn:0<n) (hl:new.length=n) (G:Flat ρ i.size new news) (hs:Src P i.size Y Z n news w)
  (h:Ad e i.size i.bytes n new H= .ok v H'):∃cv w',(Builtin.append_ #[t,Y] ty #[.slice none 0 0,Z]).run P w= .ok cv w'∧cZ ρ C w H v H' cv w':=by
 replace h:=fN h;obtain⟨A,h⟩:=h;rw[Cr] at h;have h:=Fw h
 cases h
 have A:=aX A;have A:n*i.bytes≤70368744177664:=A;obtain⟨i',zv,I,rf,_,_,_,L,zb⟩:=wZ hz;rw[hi] at I
 cases I
 have hnb:n≤n*i.bytes:=aiz _ al;have BZ:=grownCap_ge w (0+n) 0 e;have M:=run_append_grow_src (P:=P) w t Y ty e i zv ht hi rf none 0 0 [] (run_firstCells_none w.drew i.size 0 0 0) Z n news hs al al (growslice_fits al (by rw[fh];omega));generalize grownCap w (0+n) 0 e=cp at*;have O:news.length=n*i.size:=by rw[G.len,hl]
 obtain⟨ρ',h1,h2,h3⟩:=hR.alloc (f:=H.next) (elem:=e) (es:=i.size) (aD:=i.bytes) (n:=n) (cs:=gE new .emp 0) (cells:=([]++news).toArray++Builtin.zeroCells zv.cells (cp-(0+n)))
  (w':=w.drew.alloc (.cells (([]++news).toArray++Builtin.zeroCells zv.cells (cp-(0+n))) e))
  (Wr ⟨H.next+1,H.aR,H.ws,H.t.set H.next (.row e i.size i.bytes n n 0 (gE new .emp 0))⟩) (fun g=>hF _ g (bf _) (yX _)) L
  (by rw[Vx,size_zeroCells];simp[O])
  (fun k hk=>by
   rw[uF,bg al];have U:k<new.length:=by omega
   obtain⟨l1,l2⟩:=G.get k _ (dm U);refine⟨_,by rw[Ir];exact dm U,l1,fun j x hx=>?_⟩;obtain⟨k1,cv,k2,k3⟩:=l2 j x hx;refine⟨k1,cv,?_,k3⟩;have:=s7 k2;rw[Vy (by simpa using this)]
   simpa using k2) rfl rfl rfl rfl
 refine⟨_,_,M,ρ',?_,h2,?_⟩
 ·simp only[VR];refine⟨_,_,_,h1,by rw[fh],⟨al,by rw[fh];exact iS _ al⟩,.inl ⟨rfl,?_⟩⟩;simp only;rw[Vx,size_zeroCells,zb,fh];simp only[Bd,List.size_toArray,O];rw[←kW];exact iS _ al
 rw[Qg];exact h3
theorem ZX{f:Nat}{o z:cV}(A:C f=H.t.get f)(_ho:H.t.get f=some o):eg C H ⟨H.next,H.aR,wrote f H.aR H.ws,H.t.set f z⟩=fun x=>if x=f then some z else C x:=by
 funext x
 unfold eg;simp only;rw[aZ al,GT.da]
 by_cases h:x=f
 ·subst h;rw[bg rfl,bg rfl]
  split
  ·rename_i e;rw[A,←e]
  rfl
 rw[aZ h,aZ h,bg rfl]
theorem QD(H:ax)(f:Nat)(t:HT):Wr ⟨H.next,H.aR,wrote f H.aR H.ws,t⟩ f:=by
 unfold Wr;simp only[wY]
 by_cases z:f<H.aR
 ·exact .inl (.inr ⟨trivial,z⟩)
 exact .inr al
theorem row0_sound(hR:R ρ C w){t tx ty e:TypeId}{i:TypeInfo}{z:List aj}{yc:Value}{n:Nat}{new:List (List aj)}{news:List Value}{f g off A cW:Nat}{xc:Value}
  (ht:P.underlying t=some (.slice e)) (hi:P.info? e=some i) (hz:zeroOf P e=some z) (hb:i.bytes≠0) (hn:0<n) (hl:new.length=n) (JH:Flat ρ i.size new news) (hs:Src P i.size tx yc n news w)
  (hx:VR ρ (.slice f g off A cW) xc) (Xy:∀o,(∃g h,ρ f g=some h)→H.t.get f=some o→C f=some o)
  (h:Q4 e i.size i.bytes n new H f g off A cW= .ok v H'):∃cv w',(Builtin.append_ #[t,tx] ty #[xc,yc]).run P w= .ok cv w'∧cZ ρ C w H v H' cv w':=by
 have h:kN (H.t.get f) (aC.err 33) (fun Y VM mc m lo fl cs=>
  aI (Nat.beq off 0) (aI (Nat.beq g m) (aI (Nat.ble lo g) (aI (Nat.beq A m) (aI (Nat.beq cW i.size) (aI (Nat.beq VM i.size) (aI (Nat.beq fl 1) (aC.err 32)
   (aI (Nat.ble (Nat.mul (Nat.add m n) i.bytes) 70368744177664) (aI (Nat.beq e Y)
    (cm (Nat.add m n) fun m'=>xL new cs m fun cs=>H.t.fB f (.row Y VM mc m' lo fl cs) fun t=>
     aC.ok (.slice f m' 0 m' i.size) ⟨H.next,H.aR,wrote f H.aR H.ws,t⟩) (aC.err 32)) (aC.err 32))) (aC.err 32)) (aC.err 32)) (aC.err 32)) (aC.err 32)) (aC.err 32)) (aC.err 32))=aC.ok v H':=by
  cases H;exact h
 obtain⟨Y,VM,mc,m,lo,fl,cs,hg,h⟩:=aaI h;replace h:=fN h;obtain⟨a1,h⟩:=h;replace h:=fN h;obtain⟨a2,h⟩:=h;replace h:=fN h;obtain⟨a3,h⟩:=h;replace h:=fN h;obtain⟨a4,h⟩:=h;replace h:=fN h;obtain⟨a5,h⟩:=h;replace h:=fN h;obtain⟨a6,h⟩:=h;replace h:=chk_no h;obtain⟨a7,h⟩:=h;replace h:=fN h;obtain⟨a8,h⟩:=h;replace h:=fN h;obtain⟨a9,h⟩:=h;rw[fy,Cr,GT.jI] at h;have a1:=cU a1;have a2:=cU a2;have a3:=aX a3;have a4:=cU a4;have a5:=cU a5;have a6:=cU a6;have a7:fl≠1:=by intro e;subst e;cases a7
 have a8:=aX a8;have a9:=cU a9
 cases h
 subst a1 a2 a4 a6 a9;obtain⟨i',zv,wH,rf,_,_,_,yz,zb⟩:=wZ hz;rw[hi] at wH
 cases wH
 simp only[VR] at hx;obtain⟨G,ad,cap,hh,rfl,JB,rh⟩:=hx;have hC:C f=H.t.get f:=(Xy _ ⟨_,_,hh⟩ hg).trans hg.symm;have sI:C f=some (.row e i.size mc A lo fl cs):=hC.trans hg;rcases rh with⟨rfl,rh⟩|⟨_,_,rh⟩
 case inr=>omega
 rw[a5] at rh;obtain⟨_,oV,_,O⟩:=hR.obj f _ sI A G hh;have O:=O a3 (bf _);obtain⟨c,fz,U,hroom⟩:=O.row;have Xz:news.length=n*i.size:=by rw[JH.len,hl]
 have hnb:A+n≤(A+n)*i.bytes:=aiz _ al;have hbd:(A+n)*i.bytes≤70368744177664:=a8;have hadd:(A+n)*i.size=A*i.size+n*i.size:=kW _ _ _
 by_cases L:A+n≤cap
 ·have Z:(A+n)*i.size≤cap*i.size:=iS _ L;have BY:∀j,j<news.length→(w.cell? ⟨G.bE,G.off+0+A*i.size+j,none⟩).isSome=true:=by
   intro j hj;simp only[World.cell?,U];rw[Be al];rfl
  have EO:∀j,j<news.length→w.frozen? ⟨G.bE,G.off+0+A*i.size+j,none⟩=false:=by
   intro j hj;rw[show G.off+0+A*i.size+j=G.off+(A*i.size+j) by omega];exact O.Dn a7 _ al al
  have Bl:=run_append_room_src (P:=P) w t tx ty e i ht hi G.bE (G.off+0) A cap yc n news hs L BY EO;obtain⟨s1,s2,s3,s4,s5,s6⟩:=Ch G.bE news (G.off+0+A*i.size) w;obtain⟨c',sH,ajf⟩:=s3 c e fz U;have ajj:∀q,q<A*i.size→(w.setCells G.bE (G.off+0+A*i.size) news).cell? ⟨G.bE,G.off+q,none⟩=w.cell? ⟨G.bE,G.off+q,none⟩:=by
   intro q hq;exact World.cell?_setCells_out _ _ _ _ _ (fun _ _=>by simp only;omega)
  obtain⟨ρ',k1,k2,k3⟩:=hR.grow (H:=H) (mc:=mc) (w':=w.setCells G.bE (G.off+0+A*i.size) news) (h2:=G)
   (Wr ⟨H.next,H.aR,wrote f H.aR H.ws,H.t.set f (.row e i.size mc (Nat.add A n) lo fl (gE new cs A))⟩) (QD _ _ _) sI hh hl hn a3 a7 JH
   (by rw[s1];exact bf _) s4 s5 s6 (fun b _ hb=>s2 b hb) ⟨c,c',e,fz,U,sH,ajf⟩ ajj (.inl rfl) (by rw[s1];exact hR.gY _ _ _ hh)
   ⟨c',fz,sH,al⟩ al ajj
   (fun j hj=>by
    rw[show G.off+A*i.size+j=G.off+0+A*i.size+j by omega]
    rw[World.cell?_setCells_in _ _ _ _ BY j al,←dm])
   (fun fP=>absurd rfl fP)
  refine⟨_,_,Bl,ρ',?_,k2,?_⟩
  ·simp only[VR];exact⟨G,_,_,k1,rfl,⟨L,by rw[fh];exact Z⟩,.inl ⟨rfl,al⟩⟩
  rw[ZX hC hg];exact k3
 have L:cap<A+n:=by omega
 have cellAt:∀q,q<A*i.size→∃cv,w.cell? ⟨G.bE,G.off+q,none⟩=some cv∧cv.oneCell'=true:=by
  intro q hq;have hi1:q/i.size<A:=by rw[aiy yz];exact hq
  have hj:q % i.size<i.size:=A8 _ yz;obtain⟨l,l1,l2,l3⟩:=O.cell _ hi1;obtain⟨k1,cv,k2,k3⟩:=l3 (q % i.size) _ (dm (by rw[l2];exact hj));refine⟨cv,?_,P7 k3 k1⟩;have:q/i.size*i.size+q % i.size=q:=by rw[qM];exact Nm q i.size
  rwa [kU,this] at k2
 obtain⟨I,O6,za⟩:∃I:List Value,I.length=A*i.size∧∀q,q<A*i.size→I[q]?=w.cell? ⟨G.bE,G.off+q,none⟩:=by
  refine⟨(List.range (A*i.size)).map fun q=>(w.cell? ⟨G.bE,G.off+q,none⟩).getD undef,by simp,fun q hq=>?_⟩;obtain⟨cv,k1,_⟩:=cellAt q hq;simp[hq,k1]
 have hold:(Builtin.firstCells i.size A (.slice (some ⟨G.bE,G.off+0,none⟩) A cap)).run P w.drew= .ok I.toArray w.drew:=by
  refine run_firstCells_some w.drew i.size A _ A cap I O6 fun j u hu=>?_
  rw[Addr.add_lit,tR];show w.cell? _=_;rw[←za j (by have:=s7 hu;omega)];exact hu
 have Bl:=run_append_grow_src (P:=P) w t tx ty e i zv ht hi rf (some ⟨G.bE,G.off+0,none⟩) A cap I hold yc n news hs L al (growslice_fits L al);have BZ:=grownCap_ge w (A+n) cap e;generalize grownCap w (A+n) cap e=cp at*;generalize ad0:(I++news).toArray++Builtin.zeroCells zv.cells (cp-(A+n))=cells at*;have hcsz:cells.size=cp*i.size:=by
  rw[←ad0,Vx,size_zeroCells,zb];simp only[List.size_toArray,eT,O6,Xz];rw[←kW,←kW];congr 1;omega
 have O7:∀q,q<(A+n)*i.size→cells[q]?=(I++news)[q]?:=by
  intro q hq;rw[←ad0,Vy (by simp[O6,Xz];omega)];simp
 have M:∀q,(w.drew.alloc (.cells cells e)).cell? ⟨w.heap.size,q,none⟩=cells[q]?:=by
  intro q;have:(w.drew.alloc (.cells cells e)).heap[w.heap.size]?=some (.cells cells e (0,0)):=by
   show(w.heap.push _)[w.heap.size]?=_;simp
  simp only[World.cell?,this];simp
 have HA:∀b,b<w.heap.size→(w.drew.alloc (.cells cells e)).heap[b]?=w.heap[b]?:=fun b hb=>by
  show(w.heap.push _)[b]?=_;rw[Vu,aZ al]
 have hfz0:∀q,(w.drew.alloc (.cells cells e)).frozen? ⟨w.heap.size,q,none⟩=false:=by
  intro q;have:(w.drew.alloc (.cells cells e)).heap[w.heap.size]?=some (.cells cells e (0,0)):=by
   show(w.heap.push _)[w.heap.size]?=_;simp
  simp only[World.frozen?,this];simp
 have Z:(A+n)*i.size≤cp*i.size:=iS _ BZ;obtain⟨ρ',k1,k2,k3⟩:=hR.grow (H:=H) (mc:=mc) (w':=w.drew.alloc (.cells cells e)) (h2:=⟨w.heap.size,0,cells.size,false,false⟩)
  (Wr ⟨H.next,H.aR,wrote f H.aR H.ws,H.t.set f (.row e i.size mc (Nat.add A n) lo fl (gE new cs A))⟩) (QD _ _ _) sI hh hl hn a3 a7 JH
  (by show w.heap.size≤(w.heap.push _).size;simp) rfl rfl rfl (fun b hb _=>HA b hb) ⟨c,c,e,fz,U,by rw[HA _ (hR.gY _ _ _ hh)];exact U,rfl⟩
  (fun q _=>cell_of_heap (w:=w) (HA _ (hR.gY _ _ _ hh))) (.inr ⟨bf _,rfl⟩) (by show w.heap.size<(w.heap.push _).size;simp)
  ⟨cells,(0,0),by show(w.heap.push _)[w.heap.size]?=_;simp,by simp⟩ (by simp only;omega)
  (fun q hq=>by
   rw[fh,M,O7 q al,sg al]
   exact za q hq)
  (fun j hj=>by
   rw[fh,M,O7 _ al,qR al,O6];congr 1
   omega)
  (fun _=>⟨rfl,fun q=>hfz0 q,fun c1 e1 JF BY=>by
   have h0:(w.heap.push (Obj.cells cells e))[w.heap.size]?=some (.cells c1 e1 JF):=BY;simp at h0
   rw[←h0.2.2]⟩)
 refine⟨_,_,Bl,ρ',?_,k2,?_⟩
 ·simp only[VR];exact⟨_,_,_,k1,rfl,⟨by show A+n≤cp;exact BZ,by rw[fh];exact Z⟩,.inl ⟨rfl,by simp only;omega⟩⟩
 rw[ZX hC hg];exact k3
theorem pre_sound(hR:R ρ C w){t tx ty e:TypeId}{i:TypeInfo}{z:List aj}{yc:Value}{n:Nat}{new:List (List aj)}{news:List Value}{f g off G cW:Nat}{xc:Value}
  (ht:P.underlying t=some (.slice e)) (hi:P.info? e=some i) (hz:zeroOf P e=some z) (O:new.length=n) (Y:Flat ρ i.size new news) (hs:Src P i.size tx yc n news w)
  (hx:VR ρ (.slice f g off G cW) xc) (Xy:∀o,(∃g h,ρ f g=some h)→H.t.get f=some o→C f=some o)
  (h:R9 i.size n new H f g off G cW= .ok v H'):∃cv w',(Builtin.append_ #[t,tx] ty #[xc,yc]).run P w= .ok cv w'∧cZ ρ C w H v H' cv w':=by
 replace h:=fN h;obtain⟨a1,h⟩:=h;replace h:=fN h;obtain⟨a2,h⟩:=h;replace h:=fN h;obtain⟨a3,h⟩:=h;replace h:=fN h;obtain⟨a4,h⟩:=h;have a1:=cU a1;have a2:=cU a2;have a3:=cU a3;have a4:G+1≤g:=aX a4;subst a1 a2 a3
 match new,O with
 |[row],_=>
 have h:wr H f g (Nat.mul G i.size) i.size row (.err 32) (fun H=>.ok (.slice f g 0 (Nat.succ G) i.size) H)= .ok v H':=h;obtain⟨H1,hw,h⟩:=AM h
 cases h
 obtain⟨i',zv,Z,_,_,_,_,I,_⟩:=wZ hz;rw[hi] at Z
 cases Z
 simp only[VR] at hx;obtain⟨U,ad,cap,hh,rfl,⟨JB,hgc⟩,A⟩:=hx;have BZ:g*i.size≤cap*i.size:=by omega
 have L:G+1≤cap:=eO a4 (Nat.le_of_mul_le_mul_right BZ I);rcases A with⟨rfl,A⟩|⟨_,_,A⟩
 case inr=>omega
 have sI:C f=H.t.get f:=by
  obtain⟨_,_,_,_,_,_,hg,_⟩:=hw;exact(Xy _ ⟨_,_,hh⟩ hg).trans hg.symm
 obtain⟨hrl,M⟩:=Y.get 0 row rfl;have Xz:news.length=i.size:=by have:=Y.len;simpa using this
 have hv:bO ρ row news:=by
  have:∀(l:List aj)(vs:List Value),l.length=vs.length→(∀(j:Nat)(y:aj),l[j]?=some y→eM y=true∧∃cv,vs[j]?=some cv∧VR ρ y cv)→bO ρ l vs:=by
   intro l
   induction l with
   |nil=>intro vs O _;cases vs with
    |nil=>simp only[bO]
    |cons=>cases O
   |cons y r ih=>
    intro vs O hc
    cases vs with
    |nil=>cases O
    |cons u q=>
     obtain⟨_,cv,h1,h2⟩:=hc 0 y rfl
     cases h1
     simp only[bO];exact⟨u,q,rfl,h2,ih q (by simpa using O) fun j y hy=>by simpa using hc (j+1) y (by simpa using hy)⟩
  exact this row news al fun j y hy=>by simpa using M j y hy
 have hk:row.all eM=true:=List.all_eq_true.2 fun y hy=>by
  obtain⟨j,hj⟩:=List.mem_iff_getElem?.1 hy;exact(M j y hj).1
 obtain⟨k1,k2,k3,k4⟩:=hR.write hw sI hh I hv hk;have Bl:=run_append_room_src (P:=P) w t tx ty e i ht hi U.bE (U.off+0) G cap yc 1 news hs L
  (fun j hj=>by have:=k1 j al;simpa using this) (fun j hj=>by have:=k2 j al;simpa using this)
 obtain⟨s1,s2,s3,s4,s5,s6⟩:=Ch U.bE news (U.off+Nat.mul G i.size) w;refine⟨_,_,Bl,ρ,?_,?_,?_⟩
 ·simp only[VR];exact⟨U,_,cap,hh,rfl,⟨L,hgc⟩,.inl ⟨rfl,A⟩⟩
 ·obtain⟨_,_,_,_,_,_,_,_,_,_,_,_,rfl⟩:=hw;refine⟨Ho.le_refl _,fun f g h e=>.inl ⟨g,h,e⟩,fun _ _ _ e=>.inl e,fun b hb hf=>?_,by rw[tR];exact Nat.le_of_eq s1.symm,bf _,s4,s5,s6⟩;refine s2 b fun e=>?_
  exact hf f g U hh k3 (QD _ _ _) e.symm
 exact k4
theorem row_sound(M:R ρ C w){t O ty e:TypeId}{i:TypeInfo}{z:List aj}{U:Value}{n:Nat}{new:List (List aj)}{news:List Value}{f g off L cW:Nat}{Y:Value}
  (Z:P.underlying t=some (.slice e)) (hi:P.info? e=some i) (hz:zeroOf P e=some z) (hb:i.bytes≠0) (hn:0<n) (hl:new.length=n) (A:Flat ρ i.size new news) (hs:Src P i.size O U n news w)
  (hx:VR ρ (.slice f g off L cW) Y) (G:∀o,(∃g h,ρ f g=some h)→H.t.get f=some o→C f=some o)
  (h:Ae e i.size i.bytes n new H f g off L cW= .ok v H'):∃cv w',(Builtin.append_ #[t,O] ty #[Y,U]).run P w= .ok cv w'∧cZ ρ C w H v H' cv w':=by
 unfold Ae at h
 cases I:Nat.beq L g with
 |true=>rw[I] at h;exact row0_sound M Z hi hz hb hn hl A hs hx G h
 |false=>rw[I] at h;exact pre_sound M Z hi hz hl A hs hx G h
end
section
variable{P:Program}{ρ:Ho}{nt:Nat}{E:Env}{a:Act}{C:Nat→Option cV}{w:World}{H H':ax}{v:aj}{o:Oper}
theorem YZ{at_:Array TypeId}{t z ty:TypeId}{args:Array Value}(h0:at_[0]?=some t)(A:at_[1]?=some z):Builtin.append_ at_ ty args=Builtin.append_ #[t,z] ty args:=by
 unfold Builtin.append_;simp[h0,A]
theorem Zu(Y:R ρ C w)(hF:fC ρ H.next H'.next){t tx ty e:TypeId}{i:TypeInfo}{z:List aj}{G:aj}{O yc:Value}{n:Nat}{new:List (List aj)}{news:List Value}
  (ht:P.underlying t=some (.slice e)) (hi:P.info? e=some i) (hz:zeroOf P e=some z) (hb:i.bytes≠0) (hl:new.length=n) (I:Flat ρ i.size new news) (U:Src P i.size tx yc n news w)
  (A:VR ρ G O) (hC:∀f o,f∈im (some G)→(∃g h,ρ f g=some h)→H.t.get f=some o→C f=some o)
  (h:iT e i.size i.bytes n new H G= .ok v H'):∃cv w',(Builtin.append_ #[t,tx] ty #[O,yc]).run P w= .ok cv w'∧cZ ρ C w H v H' cv w':=by
 cases n with
 |zero=>
  have uj:news=[]:=by
   have:=I.len;rw[hl,qQ] at this;exact sb this
  subst uj;have h:fc G (aC.err 31) (aC.ok G H) (fun _ _ _ _ _=>aC.ok G H)=aC.ok v H':=h;replace h:=wT h;have Z:=U.kind;have fin:∀base l c,O= .slice base l c→l≤c→(Builtin.append_ #[t,tx] ty #[O,yc]).run P w= .ok O w:=by
   intro base l c e L;subst e;have h2:=U.cells;rcases Z with⟨e',Z⟩|Z<;>cases base<;>simp[Builtin.append_,run_underlying ht,run_underlying Z,sizeOf,typeInfo,hi,U.len,L,h2,storeCells]
  rcases h with⟨rfl,h⟩|⟨f,g,o1,l,es,rfl,h⟩
  ·cases h
   have M:=A;simp only[VR] at A;exact⟨O,w,fin _ _ _ A (bf _),cZ.pure Y M⟩
  cases h
  have M:=A;simp only[VR] at A;obtain⟨hm,ad,cap,hh,rfl,L,rh⟩:=A;exact⟨_,w,fin _ _ _ rfl L.1,cZ.pure Y M⟩
 |succ n=>
  have h:fc G (aC.err 34) (Ad e i.size i.bytes (n+1) new H) (Ae e i.size i.bytes (n+1) new H)=aC.ok v H':=h;replace h:=wT h;rcases h with⟨rfl,h⟩|⟨f,g,o1,l,es,rfl,h⟩
  ·simp only[VR] at A;subst A;exact nil_sound Y hF ht hi hz hb (Nr _) hl I U h
  exact row_sound Y ht hi hz hb (Nr _) hl I U A (fun o=>hC f o (by simp[im])) h
theorem app_sound(hA:AR P ρ nt E a)(hR:R ρ C w)(hF:fC ρ H.next H'.next){c:Call}{x y:Operand}{x' y':aG}{t u e e2:TypeId}{i:TypeInfo}{z:List aj}
  (ho:o.op= .call c) (hc:c.callee= .builtin .append) (M:c.args=#[x,y]) (hx:cB P x=some x') (hy:cB P y=some y') (h0:c.argTypes[0]?=some t) (h1:c.argTypes[1]?=some u)
  (ht:P.underlying t=some (.slice e)) (I:P.underlying u=some (.slice e2)) (hi:P.info? e=some i) (hz:zeroOf P e=some z) (hb:i.bytes≠0)
  (hC:∀f o,f∈im (x'.ev E)++im (y'.ev E)→(∃g h,ρ f g=some h)→H.t.get f=some o→C f=some o)
  (h:IB e i.size i.bytes x' y' E H= .ok v H'):eF P o a w (cZ ρ C w H v H'):=by
 replace h:=eG h;obtain⟨xa,U,h⟩:=h;replace h:=eG h;obtain⟨ya,Y,h⟩:=h;have XA:=hA.bI hx U;have A:=hA.bI hy Y;obtain⟨i',zv,Z,rf,_,_,_,yz,zb⟩:=wZ hz;rw[hi] at Z
 cases Z
 have hCx:∀f o,f∈im (some xa)→(∃g h,ρ f g=some h)→H.t.get f=some o→C f=some o:=fun f o hf=>hC f o (by rw[U];exact Vz _ hf)
 have done:∀{n:Nat}{new:List (List aj)}{news:List Value},new.length=n→Flat ρ i.size new news→Src P i.size u (a.eval y) n news w→iT e i.size i.bytes n new H xa= .ok v H'→eF P o a w (cZ ρ C w H v H'):=by
  intro n new news hl G hs h;obtain⟨cv,w',Bl,hp⟩:=Zu hR hF (ty:=o.type) ht hi hz hb hl G hs XA hCx h;refine .inl ⟨cv,w',?_,hp⟩;simp[execOp,ho,resolve,hc,M,invoke,builtin,YZ h0 h1,Bl]
 replace h:=wT h;rcases h with⟨rfl,h⟩|⟨f,g,o1,l,es,rfl,h⟩
 ·simp only[VR] at A;refine done (new:=[]) (news:=[]) rfl ⟨by simp,(fun _ I=>by cases I),(fun i x hx=>by simp at hx)⟩ ?_ h;rw[A];exact Src.ofNil w I 0
 replace h:=iO h;obtain⟨new,Bk,h⟩:=h;simp only[VR] at A;obtain⟨hm,ad,cap,hh,A,JB,O⟩:=A;obtain⟨hlen,news,G,L⟩:=Flat.of_elems hR Bk (fun o=>hC f o (by rw[Y];exact Ns _ (by simp[im])) ⟨_,_,hh⟩) hh yz;rcases O with⟨rfl,O⟩|⟨lI,hc0,O⟩
 ·refine done hlen G ?_ h;rw[A];refine Src.ofSlice w I _ l cap news (by rw[G.len,hlen]) (fun j u I=>?_) G.one;rw[Addr.add_lit];exact L j u I
 subst lI;have uj:news=[]:=by
  have:=G.len;rw[hlen,qQ] at this;exact sb this
 subst uj;refine done hlen G ?_ h;rw[A];exact Src.ofSlice w I _ 0 cap [] (by simp) (fun j u I=>by simp at I) (fun _ I=>by cases I)
theorem Zv:∀(l:List UInt8)(i:Nat)(x:List aj),(uZ l.length (pack l))[i]?=some x→∃b,l[i]?=some b∧x=[.int .u8 b.toNat]
 |[],i,x,h=>by
  have h:([]:List (List aj))[i]?=some x:=h;simp at h
 |b::r,i,x,h=>by
  have step:uZ (b::r).length (pack (b::r))=[aj.int .u8 (Int.ofNat (Nat.mod (pack (b::r)) 256))]::uZ r.length (Nat.div (pack (b::r)) 256):=rfl;have L:b.toNat<256:=b.toNat_lt;have z:Nat.mod (pack (b::r)) 256=b.toNat:=by show(b.toNat+256*pack r) % 256=_;omega
  have A:Nat.div (pack (b::r)) 256=pack r:=by show(b.toNat+256*pack r)/256=_;omega
  rw[step,z,A] at h
  cases i with
  |zero=>simp at h;exact⟨b,rfl,h.symm⟩
  |succ i=>obtain⟨G,I,h2⟩:=Zv r i x (by simpa using h);exact⟨G,by simpa using I,h2⟩
theorem PO:∀(l v:Nat),(uZ l v).length=l
 |0,_=>rfl
 |l+1,v=>by
  have step:uZ (l+1) v=[aj.int .u8 (Int.ofNat (Nat.mod v 256))]::uZ l (Nat.div v 256):=rfl;rw[step,gF,PO]
theorem Flat.bytes(s:ByteArray):Flat ρ 1 (uZ s.size (pack s.data.toList)) (byteCells s):=by
 have z:s.size=s.data.toList.length:=by rw[qP];rfl
 refine⟨by rw[byteCells_length,PO,VA],fun u L=>?_,fun i x G=>?_⟩
 ·obtain⟨_,_,rfl⟩:=List.mem_map.1 L;rfl
 rw[z] at G;obtain⟨b,M,rfl⟩:=Zv _ _ _ G;refine⟨rfl,fun j y A=>?_⟩;have I:=s7 A;simp at I;subst I;simp at A;subst A;refine⟨rfl,.int .u8 b.toNat,?_,by simp only[VR]⟩;rw[VA,tR];simp only[byteCells,yq,M,sf]
theorem appStr_sound(hA:AR P ρ nt E a)(hR:R ρ C w)(hF:fC ρ H.next H'.next){c:Call}{x y:Operand}{Y y':aG}{t u e:TypeId}{i:TypeInfo}{z:List aj}
  (ho:o.op= .call c) (hc:c.callee= .builtin .append) (I:c.args=#[x,y]) (hx:cB P x=some Y) (hy:cB P y=some y') (h0:c.argTypes[0]?=some t) (h1:c.argTypes[1]?=some u)
  (ht:P.underlying t=some (.slice e)) (hu:P.underlying u=some .string) (hi:P.info? e=some i) (hz:zeroOf P e=some z) (L:i.size=1) (Z:i.bytes=1)
  (hC:∀f o,f∈im (Y.ev E)→(∃g h,ρ f g=some h)→H.t.get f=some o→C f=some o)
  (h:FR e Y y' E H= .ok v H'):eF P o a w (cZ ρ C w H v H'):=by
 replace h:=eG h;obtain⟨xa,M,h⟩:=h;replace h:=eG h;obtain⟨ya,hya,h⟩:=h;replace h:=Ky h;obtain⟨l,s,rfl,h⟩:=h;have XA:=hA.bI hx M;have A:=hA.bI hy hya;simp only[VR] at A;obtain⟨b,A,rfl,rfl⟩:=A;have O:=Flat.bytes (ρ:=ρ) b;have G:=Src.ofString (P:=P) w hu b;rw[←L] at O G;have h:iT e i.size i.bytes b.size (uZ b.size (pack b.data.toList)) H xa= .ok v H':=by rw[L,Z];exact h
 obtain⟨cv,w',U,hp⟩:=Zu hR hF (ty:=o.type) ht hi hz al (PO _ _) O G XA (fun f o hf=>hC f o (by rw[M];exact hf)) h;refine .inl ⟨cv,w',?_,hp⟩;simp[execOp,ho,resolve,hc,I,invoke,builtin,YZ h0 h1,A,U]
end
def bq.dc:bq→List aG
 |.d8 x=>[x]
 |.pick c a b=>[c,a,b]
 |.pI _ _ _ _=>[]
 |.box _ _ _ x=>[x]
 |.load _ _ a=>[a]
 |.store _ a x=>[a,x]
 |.bin _ x y=>[x,y]
 |.eqv _ _ x y=>[x,y]
 |.un _ x=>[x]
 |.eR x _=>[x]
 |.sub x _ _ _=>[x]
 |.Ab _ _ x i=>[x,i]
 |.j0 _ x i=>[x,i]
 |.CO _ _ _ x i=>[x,i]
 |.CP x i=>[x,i]
 |.Hi x lo hi=>x::(lo.toList++hi.toList)
 |.tW _ x lo hi=>x::(lo.toList++hi.toList)
 |.Jw _ x lo hi mx=>x::hi::mx::lo.toList
 |.vH x _=>[x]
 |.rT x=>[x]
 |.yv _ fs l=>fs++l
 |.vI _ _ _ _ x y=>[x,y]
 |.build _ ps=>ps.map (·.2.2)
 |.tb _ _ _ _ _ ps=>ps.map (·.2)
 |.len x=>[x]
 |.tX x=>[x]
 |.app _ _ _ x y=>[x,y]
 |.xl _ x y=>[x,y]
 |.copy _ x y=>[x,y]
 |.xm _ x ys=>x::ys
 |.conv _ x=>[x]
 |.xn x=>[x]
 |.call _ l=>l
 |.tB x l=>x::l
theorem cY(x:aG)(E:Env)(e:aC)(k:aj→aC):bt x E e k=ob (x.ev E) e k:=by cases x<;>rfl
section
variable{E E':Env}
theorem Ck:∀(l:List aG),(∀x∈l,x.ev E=x.ev E')→iB E l=iB E' l
 |[],_=>rfl
 |x::r,h=>by
  have z:=h x (by simp);have h2:=Ck r (fun y A=>h y (by simp[A]));show ob (x.ev E) none (fun v=>ob (iB E r) none fun vs=>some (v::vs))=ob (x.ev E') none (fun v=>ob (iB E' r) none fun vs=>some (v::vs));rw[z,h2]
theorem zD{x:Option aG}{d y:Nat}{e:aC}{k:Nat→aC}(h:∀z∈x.toList,z.ev E=z.ev E'):en E x d y e k=en E' x d y e k:=by
 cases x with
 |none=>rfl
 |some z=>
  have A:=h z (by simp);show ob (z.ev E) e _=ob (z.ev E') e _;rw[A]
theorem Y0:∀(ps:List (Nat×Nat×aG))(cells:List aj),(∀x∈ps.map (·.2.2),x.ev E=x.ev E')→qo E ps cells=qo E' ps cells
 |[],_,_=>rfl
 |p::r,cells,h=>by
  have z:=h p.2.2 (by simp);have h2:=fun cells=>Y0 r cells (fun y A=>h y (by simp only[jv,sd];exact .inr A))
  show ob (p.2.2.ev E) none _=ob (p.2.2.ev E') none _;rw[z];congr 1
  funext v
  congr 1
  funext new
  congr 1;exact h2 _
theorem YW(es z:Nat):∀(ps:List (Nat×aG))(t:RT),(∀x∈ps.map (·.2),x.ev E=x.ev E')→rK E es z ps t=rK E' es z ps t
 |[],_,_=>rfl
 |p::r,t,h=>by
  have A:=h p.2 (by simp);have h2:=fun t=>YW es z r t (fun y G=>h y (by simp only[jv,sd];exact .inr G))
  show ob (p.2.ev E) none _=ob (p.2.ev E') none _;rw[A];congr 1
  funext v
  congr 1
  funext new
  congr 1;congr 1;exact h2 _
theorem bq.ev_congr{call:dO}{H:ax}(io:bq)(h:∀x∈io.dc,x.ev E=x.ev E'):io.ev call E H=io.ev call E' H:=by
 cases io with
 |d8 x=>have A:=h x (by simp[bq.dc]);show oP x E H=oP x E' H;simp only[oP,cY,A]
 |pick c x y=>
  have A:=h c (by simp[bq.dc]);have h2:=h x (by simp[bq.dc]);have I:=h y (by simp[bq.dc]);show Hj c x y E H=Hj c x y E' H;simp only[Hj,oP,cY,A,h2,I]
 |pI a b c d=>rfl
 |box a b c x=>have A:=h x (by simp[bq.dc]);show Iw a b c x E H=Iw a b c x E' H;simp only[Iw,AK,cY,A]
 |load a b x=>have A:=h x (by simp[bq.dc]);show Hk a b x E H=Hk a b x E' H;simp only[Hk,cY,A]
 |store a x y=>have A:=h x (by simp[bq.dc]);have h2:=h y (by simp[bq.dc]);show Gm a x y E H=Gm a x y E' H;simp only[Gm,cY,A,h2]
 |bin a x y=>have A:=h x (by simp[bq.dc]);have h2:=h y (by simp[bq.dc]);show Ix a x y E H=Ix a x y E' H;simp only[Ix,cY,A,h2]
 |eqv a b x y=>have A:=h x (by simp[bq.dc]);have h2:=h y (by simp[bq.dc]);show EH a b x y E H=EH a b x y E' H;simp only[EH,cY,A,h2]
 |un a x=>have A:=h x (by simp[bq.dc]);show Jy a x E H=Jy a x E' H;simp only[Jy,cY,A]
 |eR x a=>have A:=h x (by simp[bq.dc]);show Hl x a E H=Hl x a E' H;simp only[Hl,cY,A]
 |sub x a b c=>have A:=h x (by simp[bq.dc]);show Iy x a b c E H=Iy x a b c E' H;simp only[Iy,cY,A]
 |Ab a b x y=>have A:=h x (by simp[bq.dc]);have h2:=h y (by simp[bq.dc]);show FN a b x y E H=FN a b x y E' H;simp only[FN,cY,A,h2]
 |j0 a x y=>have A:=h x (by simp[bq.dc]);have h2:=h y (by simp[bq.dc]);show Gn a x y E H=Gn a x y E' H;simp only[Gn,cY,A,h2]
 |CO a b c x y=>have A:=h x (by simp[bq.dc]);have h2:=h y (by simp[bq.dc]);show FO a b c x y E H=FO a b c x y E' H;simp only[FO,cY,A,h2]
 |CP x y=>have A:=h x (by simp[bq.dc]);have h2:=h y (by simp[bq.dc]);show FQ x y E H=FQ x y E' H;simp only[FQ,cY,A,h2]
 |Hi x lo hi=>
  have A:=h x (by simp[bq.dc]);have h2:∀z∈lo.toList,z.ev E=z.ev E':=fun z G=>h z (by simp only[bq.dc,sd,yt];exact .inr (.inl G))
  have I:∀z∈hi.toList,z.ev E=z.ev E':=fun z G=>h z (by simp only[bq.dc,sd,yt];exact .inr (.inr G))
  show Gp x lo hi E H=Gp x lo hi E' H;simp only[Gp,cY,A,zD h2,zD I]
 |tW n x lo hi=>
  have A:=h x (by simp[bq.dc]);have h2:∀z∈lo.toList,z.ev E=z.ev E':=fun z G=>h z (by simp only[bq.dc,sd,yt];exact .inr (.inl G))
  have I:∀z∈hi.toList,z.ev E=z.ev E':=fun z G=>h z (by simp only[bq.dc,sd,yt];exact .inr (.inr G))
  show Hp n x lo hi E H=Hp n x lo hi E' H;simp only[Hp,cY,A,zD h2,zD I]
 |Jw n x lo hi mx=>
  have A:=h x (by simp[bq.dc]);have h2:∀z∈lo.toList,z.ev E=z.ev E':=fun z G=>h z (by simp only[bq.dc,sd];exact .inr (.inr (.inr G)))
  have I:∀z∈(some hi).toList,z.ev E=z.ev E':=fun z G=>h z (by simp only[Iu,VB] at G;subst G;simp[bq.dc])
  have L:∀z∈(some mx).toList,z.ev E=z.ev E':=fun z G=>h z (by simp only[Iu,VB] at G;subst G;simp[bq.dc])
  show Iz n x lo hi mx E H=Iz n x lo hi mx E' H;simp only[Iz,cY,A,zD h2,zD I,zD L]
 |vH x a=>have A:=h x (by simp[bq.dc]);show Hq x a E H=Hq x a E' H;simp only[Hq,cY,A]
 |rT x=>have A:=h x (by simp[bq.dc]);show Gq x E H=Gq x E' H;simp only[Gq,cY,A]
 |yv f fs l=>
  have A:=Ck fs (fun z G=>h z (by simp only[bq.dc,yt];exact .inl G));have h2:=Ck l (fun z G=>h z (by simp only[bq.dc,yt];exact .inr G));show Hr f fs l E H=Hr f fs l E' H;simp only[Hr,A,h2]
 |vI a b c d x y=>have A:=h x (by simp[bq.dc]);have h2:=h y (by simp[bq.dc]);show Ht a b c d x y E H=Ht a b c d x y E' H;simp only[Ht,cY,A,h2]
 |build z ps=>have A:=Y0 ps z h;show Lp z ps E H=Lp z ps E' H;simp only[Lp,A]
 |tb a b c d z ps=>have A:=YW b d ps (oD z d) h;show Kx a b c d z ps E H=Kx a b c d z ps E' H;simp only[Kx,A]
 |len x=>have A:=h x (by simp[bq.dc]);show IA x E H=IA x E' H;simp only[IA,cY,A]
 |tX x=>have A:=h x (by simp[bq.dc]);show Hu x E H=Hu x E' H;simp only[Hu,cY,A]
 |app a b c x y=>have A:=h x (by simp[bq.dc]);have h2:=h y (by simp[bq.dc]);show IB a b c x y E H=IB a b c x y E' H;simp only[IB,cY,A,h2]
 |xl a x y=>have A:=h x (by simp[bq.dc]);have h2:=h y (by simp[bq.dc]);show FR a x y E H=FR a x y E' H;simp only[FR,cY,A,h2]
 |copy a x y=>have A:=h x (by simp[bq.dc]);have h2:=h y (by simp[bq.dc]);show Hv a x y E H=Hv a x y E' H;simp only[Hv,cY,A,h2]
 |xm m x ys=>
  have A:=h x (by simp[bq.dc]);have h2:=Ck ys (fun z G=>h z (by simp only[bq.dc,sd];exact .inr G));show FU m x ys E H=FU m x ys E' H;simp only[FU,cY,A,h2]
 |conv k x=>have A:=h x (by simp[bq.dc]);show Hw k x E H=Hw k x E' H;simp only[Hw,cY,A]
 |xn x=>have A:=h x (by simp[bq.dc]);show FV x E H=FV x E' H;simp only[FV,cY,A]
 |call f l=>have A:=Ck l h;show Hx f l call E H=Hx f l call E' H;simp only[Hx,A]
 |tB x l=>
  have A:=h x (by simp[bq.dc]);have h2:=Ck l (fun z G=>h z (by simp only[bq.dc,sd];exact .inr G));show Gr x l call E H=Gr x l call E' H;simp only[Gr,cY,A,h2]
theorem bq.reads_congr(io:bq)(h:∀x∈io.dc,x.ev E=x.ev E'):io.reads E=io.reads E':=by
 cases io with
 |load a b x=>have z:=h x (by simp[bq.dc]);simp only[bq.reads,z]
 |app a b c x y=>have z:=h x (by simp[bq.dc]);have h2:=h y (by simp[bq.dc]);simp only[bq.reads,z,h2]
 |xl a x y=>have z:=h x (by simp[bq.dc]);simp only[bq.reads,z]
 |xn x=>have z:=h x (by simp[bq.dc]);simp only[bq.reads,z]
 |store a x y=>have z:=h x (by simp[bq.dc]);simp only[bq.reads,z]
 |_=>rfl
end
def gS(ρ:Ho)(C:Nat→Option cV)(H:ax):Prop:=∀f o,(∃g h,ρ f g=some h)→H.t.get f=some o→C f=some o
structure jn(P:Program)(call:dO):Prop where
 kX:∀f args H,H.aR≤H.next→TM H (call f args H)
 sound:∀f args H v H' ρ C w(di:Array Value),call f args H= .ok v H'→H.aR≤H.next→(∀x,H.next≤x→H.t.get x=none)→R ρ C w→gS ρ C H→fC ρ H.next H'.next→vl P ρ→bO ρ args di.toList→
  ((callFunc f di).run P w= .ok (.enter f di) w∧Calls P f di w fun e w'=>∃cv,e= .returned cv∧cZ ρ C w H v H' cv w')∨
  ∃cv w',(callFunc f di).run P w= .ok (.value cv) w'∧cZ ρ C w H v H' cv w'
structure Sb(P:Program)(f:Nat)(F:List aj→ax→aC):Prop where
 kX:∀args H,H.aR≤H.next→TM H (F args H)
 sound:∀args H v H' ρ C w(di:Array Value),F args H= .ok v H'→H.aR≤H.next→(∀x,H.next≤x→H.t.get x=none)→R ρ C w→gS ρ C H→fC ρ H.next H'.next→vl P ρ→bO ρ args di.toList→
  ((callFunc f di).run P w= .ok (.enter f di) w∧Calls P f di w fun e w'=>∃cv,e= .returned cv∧cZ ρ C w H v H' cv w')∨
  ∃cv w',(callFunc f di).run P w= .ok (.value cv) w'∧cZ ρ C w H v H' cv w'
def Q9(P:Program)(zt:ZT):Prop:=∀f F,zt.get f=some F→Sb P f F
theorem Zw{P:Program}:Q9 P .leaf:=fun f F h=>by rw[Tr.uK] at h;cases h
section
variable{P:Program}{ρ:Ho}{nt:Nat}{E:Env}{a:Act}{C:Nat→Option cV}{w:World}{H H':ax}{v:aj}{o:Oper}{call:dO}
theorem call_sound(M:AR P ρ nt E a)(O:R ρ C w)(U:fC ρ H.next H'.next)(Y:gS ρ C H)(Z:H.aR≤H.next)(G:∀x,H.next≤x→H.t.get x=none)(hc:jn P call){c:Call}{f:Nat}{args:List aG}
  (ho:o.op= .call c) (A:c.callee= .value (.func f)) (hx:jX P c.args.toList=some args) (h:Hx f args call E H= .ok v H'):eF P o a w (cZ ρ C w H v H'):=by
 replace h:=iO h;obtain⟨vs,hv,h⟩:=h;have h1:=M.dc hx hv;rcases hc.sound f vs H v H' ρ C w (c.args.map a.eval) h Z G O Y U M.qU (by simpa using h1) with⟨I,L⟩|⟨cv,w',I,z⟩
 ·refine .inr (.inr ⟨f,c.args.map a.eval,?_,L⟩);simp[execOp,ho,resolve,A,Deferred.ofValue,Act.eval,invoke,I]
 refine .inl ⟨cv,w',?_,z⟩;simp[execOp,ho,resolve,A,Deferred.ofValue,Act.eval,invoke,I]
theorem callv_sound(I:AR P ρ nt E a)(hR:R ρ C w)(hF:fC ρ H.next H'.next)(hK:gS ρ C H)(hm:H.aR≤H.next)(L:∀x,H.next≤x→H.t.get x=none)(hc:jn P call){c:Call}{x:Operand}{U:aG}{args:List aG}
  (ho:o.op= .call c) (A:c.callee= .value x) (M:cB P x=some U) (hx:jX P c.args.toList=some args) (h:Gr U args call E H= .ok v H'):eF P o a w (cZ ρ C w H v H'):=by
 replace h:=eG h;obtain⟨u,hu,h⟩:=h;replace h:=onFunc_ok h;obtain⟨f,fs,eo,rfl,h⟩:=h;replace h:=iO h;obtain⟨vs,hv,h⟩:=h;have h1:=I.dc hx hv;have h2:=I.bI M hu;simp only[VR] at h2;obtain⟨Y,Z,h2,h4,h3⟩:=h2;rcases hc.sound f (fs++(vs++eo)) H v H' ρ C w (Y++c.args.map a.eval++Z) h hm L hR hK hF I.qU (by simpa using bO.append h4 (bO.append h1 h3)) with⟨G,O⟩|⟨cv,w',G,z⟩
 ·refine .inr (.inr ⟨f,Y++c.args.map a.eval++Z,?_,O⟩);rw[Array.append_assoc] at G⊢;simp[execOp,ho,resolve,A,Deferred.ofValue,h2,invoke,G]
 refine .inl ⟨cv,w',?_,z⟩;rw[Array.append_assoc] at G;simp[execOp,ho,resolve,A,Deferred.ofValue,h2,invoke,G]
end
end Go.Ev
