/- Part 4 of rules for walks through the code of a program, and of such walks; what each part proves is said by its theorems. -/
import Derived.Test.YtmpoloiempjdpaaGreatS3
import Derived.Laws.Tables
import Derived.Laws.MakeOwn
import Derived.Great.FillDense
import Derived.LaidEql
import Derived.Laws.IdiomStrings
import Derived.Laws.BytesArg
import Derived.Lib.Builder
import Derived.Lib.UnsafeStr
set_option linter.unusedVariables false
set_option linter.unusedSimpArgs false
noncomputable section
set_option maxRecDepth 100000
set_option maxHeartbeats 4000000
namespace Go.Ev
section
variable{P:Program}{ρ:Ho}{nt:Nat}{E:Env}{a:Act}{C:Nat→Option cX}{w:World}{H H':ax}{v:ai}{o:Oper}
theorem xm{t:TypeId}{z:List ai}(A:zeroOf P t=some z):∃i G,P.info? t=some i∧i.zero=some G∧(∀ρ,bR ρ z G.cells.toList)∧z.all eQ=true∧z.length=i.size∧0<i.size∧G.cells.size=i.size:=by
 unfold zeroOf at A
 split at A
 ·rename_i i hi
  split at A
  ·rename_i G L
   split at A
   ·rename_i Y M
    split at A
    ·rename_i l U
     split at A
     ·rename_i I
      cases A
      have O:=fun ρ=>(KU ρ _ _ M).cells (Zl U)
      refine⟨i,G,hi,L,fun ρ=>(O ρ).1,(O (fun _ _=>none)).2,I.1,I.2,?_⟩;have:=(O (fun _ _=>none)).1.length;rw[rh] at this;omega
     cases A
    cases A
   cases A
  cases A
 cases A
theorem size_zeroCells(z:Array Value)(n:Nat):(Builtin.zeroCells z n).size=n*z.size:=by simp[Builtin.zeroCells]
theorem chk_no{b:Bool}{k:aD}{n:Nat}(h:aJ b (.err n) k= .ok v H'):b=false∧k= .ok v H':=by
 cases b
 ·exact⟨rfl,h⟩
 cases h
theorem nil_sound(hR:R ρ C w)(hF:fI ρ H.next H'.next){t Y ty e:TypeId}{i:TypeInfo}{z:List ai}{Z:Value}{n:Nat}{new:List (List ai)}{news:List Value}
  (ht:P.underlying t=some (.slice e)) (hi:P.info? e=some i) (hz:zeroOf P e=some z) (hb:i.bytes≠0) (hn:0<n) (hl:new.length=n) (G:Flat ρ i.size new news) (hs:Src P i.size Y Z n news w)
  (h:Ap e i.size i.bytes n new H= .ok v H'):∃cv w',(Builtin.append_ #[t,Y] ty #[.slice none 0 0,Z]).run P w= .ok cv w'∧c9 ρ C w H v H' cv w':=by
 replace h:=fQ h;obtain⟨A,h⟩:=h;rw[CI] at h;have h:=FF h
 cases h
 have A:=aV A;have A:n*i.bytes≤70368744177664:=A;obtain⟨i',zv,I,rK,_,_,_,L,zi⟩:=xm hz;rw[hi] at I
 cases I
 have Xt:n≤n*i.bytes:=aie _ an;have zj:=grownCap_ge w (0+n) 0 e;have M:=run_append_grow_src (P:=P) w t Y ty e i zv ht hi rK none 0 0 [] (run_firstCells_none w.drew i.size 0 0 0) Z n news hs an an (growslice_fits an (by rw[e6];omega));generalize grownCap w (0+n) 0 e=cp at*;have O:news.length=n*i.size:=by rw[G.len,hl]
 obtain⟨ρ',h1,h2,h3⟩:=hR.alloc (f:=H.next) (elem:=e) (es:=i.size) (aC:=i.bytes) (n:=n) (cs:=gJ new .emp 0) (cells:=([]++news).toArray++Builtin.zeroCells zv.cells (cp-(0+n)))
  (w':=w.drew.alloc (.cells (([]++news).toArray++Builtin.zeroCells zv.cells (cp-(0+n))) e))
  (Wr ⟨H.next+1,H.aS,H.ws,H.t.set H.next (.row e i.size i.bytes n n 0 (gJ new .emp 0))⟩) (fun g=>hF _ g (bd _) (ze _)) L
  (by rw[Vq,size_zeroCells];simp[O])
  (fun k hk=>by
   rw[uT,bg an];have U:k<new.length:=by omega
   obtain⟨l1,l2⟩:=G.get k _ (dx U);refine⟨_,by rw[Ee];exact dx U,l1,fun j x hx=>?_⟩;obtain⟨k1,cv,k2,k3⟩:=l2 j x hx;refine⟨k1,cv,?_,k3⟩;have:=tz k2;rw[Vr (by simpa using this)]
   simpa using k2) rfl rfl rfl rfl
 refine⟨_,_,M,ρ',?_,h2,?_⟩
 ·simp only[VR];refine⟨_,_,_,h1,by rw[e6],⟨an,by rw[e6];exact iZ _ an⟩,.inl ⟨rfl,?_⟩⟩;simp only;rw[Vq,size_zeroCells,zi,e6];simp only[Bu,List.size_toArray,O];rw[←lq];exact iZ _ an
 rw[QH];exact h3
theorem ZO{f:Nat}{o z:cX}(A:C f=H.t.get f)(_ho:H.t.get f=some o):ep C H ⟨H.next,H.aS,wrote f H.aS H.ws,H.t.set f z⟩=fun x=>if x=f then some z else C x:=by
 funext x
 unfold ep;simp only;rw[aX an,GT.df]
 by_cases h:x=f
 ·subst h;rw[bg rfl,bg rfl]
  split
  ·rename_i e;rw[A,←e]
  rfl
 rw[aX h,aX h,bg rfl]
theorem Q3(H:ax)(f:Nat)(t:HT):Wr ⟨H.next,H.aS,wrote f H.aS H.ws,t⟩ f:=by
 unfold Wr;simp only[xl]
 by_cases z:f<H.aS
 ·exact .inl (.inr ⟨trivial,z⟩)
 exact .inr an
theorem row0_sound(hR:R ρ C w){t tx ty e:TypeId}{i:TypeInfo}{z:List ai}{yc:Value}{n:Nat}{new:List (List ai)}{news:List Value}{f g off A c6:Nat}{xc:Value}
  (ht:P.underlying t=some (.slice e)) (hi:P.info? e=some i) (hz:zeroOf P e=some z) (hb:i.bytes≠0) (hn:0<n) (hl:new.length=n) (JZ:Flat ρ i.size new news) (hs:Src P i.size tx yc n news w)
  (hx:VR ρ (.slice f g off A c6) xc) (Xu:∀o,(∃g h,ρ f g=some h)→H.t.get f=some o→C f=some o)
  (h:Ry e i.size i.bytes n new H f g off A c6= .ok v H'):∃cv w',(Builtin.append_ #[t,tx] ty #[xc,yc]).run P w= .ok cv w'∧c9 ρ C w H v H' cv w':=by
 have h:kU (H.t.get f) (aD.err 33) (fun Y VG mr m lo fl cs=>
  aJ (Nat.beq off 0) (aJ (Nat.beq g m) (aJ (Nat.ble lo g) (aJ (Nat.beq A m) (aJ (Nat.beq c6 i.size) (aJ (Nat.beq VG i.size) (aJ (Nat.beq fl 1) (aD.err 32)
   (aJ (Nat.ble (Nat.mul (Nat.add m n) i.bytes) 70368744177664) (aJ (Nat.beq e Y)
    (ch (Nat.add m n) fun m'=>xW new cs m fun cs=>H.t.fH f (.row Y VG mr m' lo fl cs) fun t=>
     aD.ok (.slice f m' 0 m' i.size) ⟨H.next,H.aS,wrote f H.aS H.ws,t⟩) (aD.err 32)) (aD.err 32))) (aD.err 32)) (aD.err 32)) (aD.err 32)) (aD.err 32)) (aD.err 32)) (aD.err 32))=aD.ok v H':=by
  cases H;exact h
 obtain⟨Y,VG,mr,m,lo,fl,cs,hg,h⟩:=aaD h;replace h:=fQ h;obtain⟨a1,h⟩:=h;replace h:=fQ h;obtain⟨a2,h⟩:=h;replace h:=fQ h;obtain⟨a3,h⟩:=h;replace h:=fQ h;obtain⟨a4,h⟩:=h;replace h:=fQ h;obtain⟨a5,h⟩:=h;replace h:=fQ h;obtain⟨a6,h⟩:=h;replace h:=chk_no h;obtain⟨a7,h⟩:=h;replace h:=fQ h;obtain⟨a8,h⟩:=h;replace h:=fQ h;obtain⟨a9,h⟩:=h;rw[fc,CI,GT.jO] at h;have a1:=cW a1;have a2:=cW a2;have a3:=aV a3;have a4:=cW a4;have a5:=cW a5;have a6:=cW a6;have a7:fl≠1:=by intro e;subst e;cases a7
 have a8:=aV a8;have a9:=cW a9
 cases h
 subst a1 a2 a4 a6 a9;obtain⟨i',zv,wS,rK,_,_,_,yI,zi⟩:=xm hz;rw[hi] at wS
 cases wS
 simp only[VR] at hx;obtain⟨G,ad,cap,hh,rfl,JU,rL⟩:=hx;have hC:C f=H.t.get f:=(Xu _ ⟨_,_,hh⟩ hg).trans hg.symm;have s0:C f=some (.row e i.size mr A lo fl cs):=hC.trans hg;rcases rL with⟨rfl,rL⟩|⟨_,_,rL⟩
 case inr=>omega
 rw[a5] at rL;obtain⟨_,o7,_,O⟩:=hR.obj f _ s0 A G hh;have O:=O a3 (bd _);obtain⟨c,fz,U,hroom⟩:=O.row;have Xv:news.length=n*i.size:=by rw[JZ.len,hl]
 have Xt:A+n≤(A+n)*i.bytes:=aie _ an;have hbd:(A+n)*i.bytes≤70368744177664:=a8;have hadd:(A+n)*i.size=A*i.size+n*i.size:=lq _ _ _
 by_cases L:A+n≤cap
 ·have Z:(A+n)*i.size≤cap*i.size:=iZ _ L;have zh:∀j,j<news.length→(w.cell? ⟨G.bG,G.off+0+A*i.size+j,none⟩).isSome=true:=by
   intro j hj;simp only[World.cell?,U];rw[Bv an];rfl
  have EZ:∀j,j<news.length→w.frozen? ⟨G.bG,G.off+0+A*i.size+j,none⟩=false:=by
   intro j hj;rw[show G.off+0+A*i.size+j=G.off+(A*i.size+j) by omega];exact O.DB a7 _ an an
  have BB:=run_append_room_src (P:=P) w t tx ty e i ht hi G.bG (G.off+0) A cap yc n news hs L zh EZ;obtain⟨s1,s2,s3,s4,s5,s6⟩:=CA G.bG news (G.off+0+A*i.size) w;obtain⟨c',o8,aiU⟩:=s3 c e fz U;have aiY:∀q,q<A*i.size→(w.setCells G.bG (G.off+0+A*i.size) news).cell? ⟨G.bG,G.off+q,none⟩=w.cell? ⟨G.bG,G.off+q,none⟩:=by
   intro q hq;exact World.cell?_setCells_out _ _ _ _ _ (fun _ _=>by simp only;omega)
  obtain⟨ρ',k1,k2,k3⟩:=hR.grow (H:=H) (mr:=mr) (w':=w.setCells G.bG (G.off+0+A*i.size) news) (h2:=G)
   (Wr ⟨H.next,H.aS,wrote f H.aS H.ws,H.t.set f (.row e i.size mr (Nat.add A n) lo fl (gJ new cs A))⟩) (Q3 _ _ _) s0 hh hl hn a3 a7 JZ
   (by rw[s1];exact bd _) s4 s5 s6 (fun b _ hb=>s2 b hb) ⟨c,c',e,fz,U,o8,aiU⟩ aiY (.inl rfl) (by rw[s1];exact hR.hU _ _ _ hh)
   ⟨c',fz,o8,an⟩ an aiY
   (fun j hj=>by
    rw[show G.off+A*i.size+j=G.off+0+A*i.size+j by omega]
    rw[World.cell?_setCells_in _ _ _ _ zh j an,←dx])
   (fun fB=>absurd rfl fB)
  refine⟨_,_,BB,ρ',?_,k2,?_⟩
  ·simp only[VR];exact⟨G,_,_,k1,rfl,⟨L,by rw[e6];exact Z⟩,.inl ⟨rfl,an⟩⟩
  rw[ZO hC hg];exact k3
 have L:cap<A+n:=by omega
 have cellAt:∀q,q<A*i.size→∃cv,w.cell? ⟨G.bG,G.off+q,none⟩=some cv∧cv.oneCell'=true:=by
  intro q hq;have hi1:q/i.size<A:=by rw[aid yI];exact hq
  have hj:q % i.size<i.size:=yy _ yI;obtain⟨l,l1,l2,l3⟩:=O.cell _ hi1;obtain⟨k1,cv,k2,k3⟩:=l3 (q % i.size) _ (dx (by rw[l2];exact hj));refine⟨cv,?_,Qx k3 k1⟩;have:q/i.size*i.size+q % i.size=q:=by rw[re];exact NG q i.size
  rwa [lp,this] at k2
 obtain⟨I,Py,zg⟩:∃I:List Value,I.length=A*i.size∧∀q,q<A*i.size→I[q]?=w.cell? ⟨G.bG,G.off+q,none⟩:=by
  refine⟨(List.range (A*i.size)).map fun q=>(w.cell? ⟨G.bG,G.off+q,none⟩).getD undef,by simp,fun q hq=>?_⟩;obtain⟨cv,k1,_⟩:=cellAt q hq;simp[hq,k1]
 have hold:(Builtin.firstCells i.size A (.slice (some ⟨G.bG,G.off+0,none⟩) A cap)).run P w.drew= .ok I.toArray w.drew:=by
  refine run_firstCells_some w.drew i.size A _ A cap I Py fun j u hu=>?_
  rw[Addr.add_lit,ug];show w.cell? _=_;rw[←zg j (by have:=tz hu;omega)];exact hu
 have BB:=run_append_grow_src (P:=P) w t tx ty e i zv ht hi rK (some ⟨G.bG,G.off+0,none⟩) A cap I hold yc n news hs L an (growslice_fits L an);have zj:=grownCap_ge w (A+n) cap e;generalize grownCap w (A+n) cap e=cp at*;generalize adV:(I++news).toArray++Builtin.zeroCells zv.cells (cp-(A+n))=cells at*;have hcsz:cells.size=cp*i.size:=by
  rw[←adV,Vq,size_zeroCells,zi];simp only[List.size_toArray,e7,Py,Xv];rw[←lq,←lq];congr 1;omega
 have Pz:∀q,q<(A+n)*i.size→cells[q]?=(I++news)[q]?:=by
  intro q hq;rw[←adV,Vr (by simp[Py,Xv];omega)];simp
 have M:∀q,(w.drew.alloc (.cells cells e)).cell? ⟨w.heap.size,q,none⟩=cells[q]?:=by
  intro q;have:(w.drew.alloc (.cells cells e)).heap[w.heap.size]?=some (.cells cells e (0,0)):=by
   show(w.heap.push _)[w.heap.size]?=_;simp
  simp only[World.cell?,this];simp
 have HQ:∀b,b<w.heap.size→(w.drew.alloc (.cells cells e)).heap[b]?=w.heap[b]?:=fun b hb=>by
  show(w.heap.push _)[b]?=_;rw[Vo,aX an]
 have hfz0:∀q,(w.drew.alloc (.cells cells e)).frozen? ⟨w.heap.size,q,none⟩=false:=by
  intro q;have:(w.drew.alloc (.cells cells e)).heap[w.heap.size]?=some (.cells cells e (0,0)):=by
   show(w.heap.push _)[w.heap.size]?=_;simp
  simp only[World.frozen?,this];simp
 have Z:(A+n)*i.size≤cp*i.size:=iZ _ zj;obtain⟨ρ',k1,k2,k3⟩:=hR.grow (H:=H) (mr:=mr) (w':=w.drew.alloc (.cells cells e)) (h2:=⟨w.heap.size,0,cells.size,false,false⟩)
  (Wr ⟨H.next,H.aS,wrote f H.aS H.ws,H.t.set f (.row e i.size mr (Nat.add A n) lo fl (gJ new cs A))⟩) (Q3 _ _ _) s0 hh hl hn a3 a7 JZ
  (by show w.heap.size≤(w.heap.push _).size;simp) rfl rfl rfl (fun b hb _=>HQ b hb) ⟨c,c,e,fz,U,by rw[HQ _ (hR.hU _ _ _ hh)];exact U,rfl⟩
  (fun q _=>cell_of_heap (w:=w) (HQ _ (hR.hU _ _ _ hh))) (.inr ⟨bd _,rfl⟩) (by show w.heap.size<(w.heap.push _).size;simp)
  ⟨cells,(0,0),by show(w.heap.push _)[w.heap.size]?=_;simp,by simp⟩ (by simp only;omega)
  (fun q hq=>by
   rw[e6,M,Pz q an,sA an]
   exact zg q hq)
  (fun j hj=>by
   rw[e6,M,Pz _ an,rl an,Py];congr 1
   omega)
  (fun _=>⟨rfl,fun q=>hfz0 q,fun c1 e1 JX zh=>by
   have h0:(w.heap.push (Obj.cells cells e))[w.heap.size]?=some (.cells c1 e1 JX):=zh;simp at h0
   rw[←h0.2.2]⟩)
 refine⟨_,_,BB,ρ',?_,k2,?_⟩
 ·simp only[VR];exact⟨_,_,_,k1,rfl,⟨by show A+n≤cp;exact zj,by rw[e6];exact Z⟩,.inl ⟨rfl,by simp only;omega⟩⟩
 rw[ZO hC hg];exact k3
theorem pre_sound(hR:R ρ C w){t tx ty e:TypeId}{i:TypeInfo}{z:List ai}{yc:Value}{n:Nat}{new:List (List ai)}{news:List Value}{f g off G c6:Nat}{xc:Value}
  (ht:P.underlying t=some (.slice e)) (hi:P.info? e=some i) (hz:zeroOf P e=some z) (O:new.length=n) (Y:Flat ρ i.size new news) (hs:Src P i.size tx yc n news w)
  (hx:VR ρ (.slice f g off G c6) xc) (Xu:∀o,(∃g h,ρ f g=some h)→H.t.get f=some o→C f=some o)
  (h:Ss i.size n new H f g off G c6= .ok v H'):∃cv w',(Builtin.append_ #[t,tx] ty #[xc,yc]).run P w= .ok cv w'∧c9 ρ C w H v H' cv w':=by
 replace h:=fQ h;obtain⟨a1,h⟩:=h;replace h:=fQ h;obtain⟨a2,h⟩:=h;replace h:=fQ h;obtain⟨a3,h⟩:=h;replace h:=fQ h;obtain⟨a4,h⟩:=h;have a1:=cW a1;have a2:=cW a2;have a3:=cW a3;have a4:G+1≤g:=aV a4;subst a1 a2 a3
 match new,O with
 |[row],_=>
 have h:wr H f g (Nat.mul G i.size) i.size row (.err 32) (fun H=>.ok (.slice f g 0 (Nat.succ G) i.size) H)= .ok v H':=h;obtain⟨H1,hw,h⟩:=A1 h
 cases h
 obtain⟨i',zv,Z,_,_,_,_,I,_⟩:=xm hz;rw[hi] at Z
 cases Z
 simp only[VR] at hx;obtain⟨U,ad,cap,hh,rfl,⟨JU,hgc⟩,A⟩:=hx;have zj:g*i.size≤cap*i.size:=by omega
 have L:G+1≤cap:=eT a4 (Nat.le_of_mul_le_mul_right zj I);rcases A with⟨rfl,A⟩|⟨_,_,A⟩
 case inr=>omega
 have s0:C f=H.t.get f:=by
  obtain⟨_,_,_,_,_,_,hg,_⟩:=hw;exact(Xu _ ⟨_,_,hh⟩ hg).trans hg.symm
 obtain⟨hrl,M⟩:=Y.get 0 row rfl;have Xv:news.length=i.size:=by have:=Y.len;simpa using this
 have hv:bR ρ row news:=by
  have:∀(l:List ai)(vs:List Value),l.length=vs.length→(∀(j:Nat)(y:ai),l[j]?=some y→eQ y=true∧∃cv,vs[j]?=some cv∧VR ρ y cv)→bR ρ l vs:=by
   intro l
   induction l with
   |nil=>intro vs O _;cases vs with
    |nil=>simp only[bR]
    |cons=>cases O
   |cons y r ih=>
    intro vs O hc
    cases vs with
    |nil=>cases O
    |cons u q=>
     obtain⟨_,cv,h1,h2⟩:=hc 0 y rfl
     cases h1
     simp only[bR];exact⟨u,q,rfl,h2,ih q (by simpa using O) fun j y hy=>by simpa using hc (j+1) y (by simpa using hy)⟩
  exact this row news an fun j y hy=>by simpa using M j y hy
 have hk:row.all eQ=true:=List.all_eq_true.2 fun y hy=>by
  obtain⟨j,hj⟩:=List.mem_iff_getElem?.1 hy;exact(M j y hj).1
 obtain⟨k1,k2,k3,k4⟩:=hR.write hw s0 hh I hv hk;have BB:=run_append_room_src (P:=P) w t tx ty e i ht hi U.bG (U.off+0) G cap yc 1 news hs L
  (fun j hj=>by have:=k1 j an;simpa using this) (fun j hj=>by have:=k2 j an;simpa using this)
 obtain⟨s1,s2,s3,s4,s5,s6⟩:=CA U.bG news (U.off+Nat.mul G i.size) w;refine⟨_,_,BB,ρ,?_,?_,?_⟩
 ·simp only[VR];exact⟨U,_,cap,hh,rfl,⟨L,hgc⟩,.inl ⟨rfl,A⟩⟩
 ·obtain⟨_,_,_,_,_,_,_,_,_,_,_,_,rfl⟩:=hw;refine⟨Ho.le_refl _,fun f g h e=>.inl ⟨g,h,e⟩,fun _ _ _ e=>.inl e,fun b hb hf=>?_,by rw[ug];exact Nat.le_of_eq s1.symm,bd _,s4,s5,s6⟩;refine s2 b fun e=>?_
  exact hf f g U hh k3 (Q3 _ _ _) e.symm
 exact k4
theorem row_sound(M:R ρ C w){t O ty e:TypeId}{i:TypeInfo}{z:List ai}{U:Value}{n:Nat}{new:List (List ai)}{news:List Value}{f g off L c6:Nat}{Y:Value}
  (Z:P.underlying t=some (.slice e)) (hi:P.info? e=some i) (hz:zeroOf P e=some z) (hb:i.bytes≠0) (hn:0<n) (hl:new.length=n) (A:Flat ρ i.size new news) (hs:Src P i.size O U n news w)
  (hx:VR ρ (.slice f g off L c6) Y) (G:∀o,(∃g h,ρ f g=some h)→H.t.get f=some o→C f=some o)
  (h:Aq e i.size i.bytes n new H f g off L c6= .ok v H'):∃cv w',(Builtin.append_ #[t,O] ty #[Y,U]).run P w= .ok cv w'∧c9 ρ C w H v H' cv w':=by
 unfold Aq at h
 cases I:Nat.beq L g with
 |true=>rw[I] at h;exact row0_sound M Z hi hz hb hn hl A hs hx G h
 |false=>rw[I] at h;exact pre_sound M Z hi hz hl A hs hx G h
end
section
variable{P:Program}{ρ:Ho}{nt:Nat}{E:Env}{a:Act}{C:Nat→Option cX}{w:World}{H H':ax}{v:ai}{o:Oper}
theorem YS{at_:Array TypeId}{t z ty:TypeId}{args:Array Value}(h0:at_[0]?=some t)(A:at_[1]?=some z):Builtin.append_ at_ ty args=Builtin.append_ #[t,z] ty args:=by
 unfold Builtin.append_;simp[h0,A]
theorem Zn(Y:R ρ C w)(hF:fI ρ H.next H'.next){t tx ty e:TypeId}{i:TypeInfo}{z:List ai}{G:ai}{O yc:Value}{n:Nat}{new:List (List ai)}{news:List Value}
  (ht:P.underlying t=some (.slice e)) (hi:P.info? e=some i) (hz:zeroOf P e=some z) (hb:i.bytes≠0) (hl:new.length=n) (I:Flat ρ i.size new news) (U:Src P i.size tx yc n news w)
  (A:VR ρ G O) (hC:∀f o,f∈iB (some G)→(∃g h,ρ f g=some h)→H.t.get f=some o→C f=some o)
  (h:i7 e i.size i.bytes n new H G= .ok v H'):∃cv w',(Builtin.append_ #[t,tx] ty #[O,yc]).run P w= .ok cv w'∧c9 ρ C w H v H' cv w':=by
 cases n with
 |zero=>
  have uF:news=[]:=by
   have:=I.len;rw[hl,ri] at this;exact su this
  subst uF;have h:fy G (aD.err 31) (aD.ok G H) (fun _ _ _ _ _=>aD.ok G H)=aD.ok v H':=h;replace h:=xi h;have Z:=U.kind;have fin:∀base l c,O= .slice base l c→l≤c→(Builtin.append_ #[t,tx] ty #[O,yc]).run P w= .ok O w:=by
   intro base l c e L;subst e;have h2:=U.cells;rcases Z with⟨e',Z⟩|Z<;>cases base<;>simp[Builtin.append_,run_underlying ht,run_underlying Z,sizeOf,typeInfo,hi,U.len,L,h2,storeCells]
  rcases h with⟨rfl,h⟩|⟨f,g,o1,l,es,rfl,h⟩
  ·cases h
   have M:=A;simp only[VR] at A;exact⟨O,w,fin _ _ _ A (bd _),c9.pure Y M⟩
  cases h
  have M:=A;simp only[VR] at A;obtain⟨hm,ad,cap,hh,rfl,L,rL⟩:=A;exact⟨_,w,fin _ _ _ rfl L.1,c9.pure Y M⟩
 |succ n=>
  have h:fy G (aD.err 34) (Ap e i.size i.bytes (n+1) new H) (Aq e i.size i.bytes (n+1) new H)=aD.ok v H':=h;replace h:=xi h;rcases h with⟨rfl,h⟩|⟨f,g,o1,l,es,rfl,h⟩
  ·simp only[VR] at A;subst A;exact nil_sound Y hF ht hi hz hb (NL _) hl I U h
  exact row_sound Y ht hi hz hb (NL _) hl I U A (fun o=>hC f o (by simp[iB])) h
theorem app_sound(hA:AR P ρ nt E a)(hR:R ρ C w)(hF:fI ρ H.next H'.next){c:Call}{x y:Operand}{x' y':aG}{t u e e2:TypeId}{i:TypeInfo}{z:List ai}
  (ho:o.op= .call c) (hc:c.callee= .builtin .append) (M:c.args=#[x,y]) (hx:cG P x=some x') (hy:cG P y=some y') (h0:c.argTypes[0]?=some t) (h1:c.argTypes[1]?=some u)
  (ht:P.underlying t=some (.slice e)) (I:P.underlying u=some (.slice e2)) (hi:P.info? e=some i) (hz:zeroOf P e=some z) (hb:i.bytes≠0)
  (hC:∀f o,f∈iB (x'.ev E)++iB (y'.ev E)→(∃g h,ρ f g=some h)→H.t.get f=some o→C f=some o)
  (h:I0 e i.size i.bytes x' y' E H= .ok v H'):eI P o a w (c9 ρ C w H v H'):=by
 replace h:=eK h;obtain⟨xa,U,h⟩:=h;replace h:=eK h;obtain⟨ya,Y,h⟩:=h;have Xw:=hA.bC hx U;have A:=hA.bC hy Y;obtain⟨i',zv,Z,rK,_,_,_,yI,zi⟩:=xm hz;rw[hi] at Z
 cases Z
 have hCx:∀f o,f∈iB (some xa)→(∃g h,ρ f g=some h)→H.t.get f=some o→C f=some o:=fun f o hf=>hC f o (by rw[U];exact Vt _ hf)
 have done:∀{n:Nat}{new:List (List ai)}{news:List Value},new.length=n→Flat ρ i.size new news→Src P i.size u (a.eval y) n news w→i7 e i.size i.bytes n new H xa= .ok v H'→eI P o a w (c9 ρ C w H v H'):=by
  intro n new news hl G hs h;obtain⟨cv,w',BB,hp⟩:=Zn hR hF (ty:=o.type) ht hi hz hb hl G hs Xw hCx h;refine .inl ⟨cv,w',?_,hp⟩;simp[execOp,ho,resolve,hc,M,invoke,builtin,YS h0 h1,BB]
 replace h:=xi h;rcases h with⟨rfl,h⟩|⟨f,g,o1,l,es,rfl,h⟩
 ·simp only[VR] at A;refine done (new:=[]) (news:=[]) rfl ⟨by simp,(fun _ I=>by cases I),(fun i x hx=>by simp at hx)⟩ ?_ h;rw[A];exact Src.ofNil w I 0
 replace h:=iV h;obtain⟨new,BA,h⟩:=h;simp only[VR] at A;obtain⟨hm,ad,cap,hh,A,JU,O⟩:=A;obtain⟨hlen,news,G,L⟩:=Flat.of_elems hR BA (fun o=>hC f o (by rw[Y];exact NM _ (by simp[iB])) ⟨_,_,hh⟩) hh yI;rcases O with⟨rfl,O⟩|⟨kG,Xk,O⟩
 ·refine done hlen G ?_ h;rw[A];refine Src.ofSlice w I _ l cap news (by rw[G.len,hlen]) (fun j u I=>?_) G.one;rw[Addr.add_lit];exact L j u I
 subst kG;have uF:news=[]:=by
  have:=G.len;rw[hlen,ri] at this;exact su this
 subst uF;refine done hlen G ?_ h;rw[A];exact Src.ofSlice w I _ 0 cap [] (by simp) (fun j u I=>by simp at I) (fun _ I=>by cases I)
theorem Zo:∀(l:List UInt8)(i:Nat)(x:List ai),(vn l.length (pack l))[i]?=some x→∃b,l[i]?=some b∧x=[.int .u8 b.toNat]
 |[],i,x,h=>by
  have h:([]:List (List ai))[i]?=some x:=h;simp at h
 |b::r,i,x,h=>by
  have step:vn (b::r).length (pack (b::r))=[ai.int .u8 (Int.ofNat (Nat.mod (pack (b::r)) 256))]::vn r.length (Nat.div (pack (b::r)) 256):=rfl;have L:b.toNat<256:=b.toNat_lt;have z:Nat.mod (pack (b::r)) 256=b.toNat:=by show(b.toNat+256*pack r) % 256=_;omega
  have A:Nat.div (pack (b::r)) 256=pack r:=by show(b.toNat+256*pack r)/256=_;omega
  rw[step,z,A] at h
  cases i with
  |zero=>simp at h;exact⟨b,rfl,h.symm⟩
  |succ i=>obtain⟨G,I,h2⟩:=Zo r i x (by simpa using h);exact⟨G,by simpa using I,h2⟩
theorem Qk:∀(l v:Nat),(vn l v).length=l
 |0,_=>rfl
 |l+1,v=>by
  have step:vn (l+1) v=[ai.int .u8 (Int.ofNat (Nat.mod v 256))]::vn l (Nat.div v 256):=rfl;rw[step,gB,Qk]
theorem Flat.bytes(s:ByteArray):Flat ρ 1 (vn s.size (pack s.data.toList)) (byteCells s):=by
 have z:s.size=s.data.toList.length:=by rw[rh];rfl
 refine⟨by rw[byteCells_length,Qk,Vu],fun u L=>?_,fun i x G=>?_⟩
 ·obtain⟨_,_,rfl⟩:=List.mem_map.1 L;rfl
 rw[z] at G;obtain⟨b,M,rfl⟩:=Zo _ _ _ G;refine⟨rfl,fun j y A=>?_⟩;have I:=tz A;simp at I;subst I;simp at A;subst A;refine⟨rfl,.int .u8 b.toNat,?_,by simp only[VR]⟩;rw[Vu,ug];simp only[byteCells,yC,M,sw]
theorem appStr_sound(hA:AR P ρ nt E a)(hR:R ρ C w)(hF:fI ρ H.next H'.next){c:Call}{x y:Operand}{Y y':aG}{t u e:TypeId}{i:TypeInfo}{z:List ai}
  (ho:o.op= .call c) (hc:c.callee= .builtin .append) (I:c.args=#[x,y]) (hx:cG P x=some Y) (hy:cG P y=some y') (h0:c.argTypes[0]?=some t) (h1:c.argTypes[1]?=some u)
  (ht:P.underlying t=some (.slice e)) (hu:P.underlying u=some .string) (hi:P.info? e=some i) (hz:zeroOf P e=some z) (L:i.size=1) (Z:i.bytes=1)
  (hC:∀f o,f∈iB (Y.ev E)→(∃g h,ρ f g=some h)→H.t.get f=some o→C f=some o)
  (h:F5 e Y y' E H= .ok v H'):eI P o a w (c9 ρ C w H v H'):=by
 replace h:=eK h;obtain⟨xa,M,h⟩:=h;replace h:=eK h;obtain⟨ya,hya,h⟩:=h;replace h:=KR h;obtain⟨l,s,rfl,h⟩:=h;have Xw:=hA.bC hx M;have A:=hA.bC hy hya;simp only[VR] at A;obtain⟨b,A,rfl,rfl⟩:=A;have O:=Flat.bytes (ρ:=ρ) b;have G:=Src.ofString (P:=P) w hu b;rw[←L] at O G;have h:i7 e i.size i.bytes b.size (vn b.size (pack b.data.toList)) H xa= .ok v H':=by rw[L,Z];exact h
 obtain⟨cv,w',U,hp⟩:=Zn hR hF (ty:=o.type) ht hi hz an (Qk _ _) O G Xw (fun f o hf=>hC f o (by rw[M];exact hf)) h;refine .inl ⟨cv,w',?_,hp⟩;simp[execOp,ho,resolve,hc,I,invoke,builtin,YS h0 h1,A,U]
end
def br.dg:br→List aG
 |.eb x=>[x]
 |.pick c a b=>[c,a,b]
 |.pN _ _ _ _=>[]
 |.box _ _ _ x=>[x]
 |.load _ _ a=>[a]
 |.store _ a x=>[a,x]
 |.bin _ x y=>[x,y]
 |.eqv _ _ x y=>[x,y]
 |.un _ x=>[x]
 |.eY x _=>[x]
 |.sub x _ _ _=>[x]
 |.An _ _ x i=>[x,i]
 |.kr _ x i=>[x,i]
 |.C2 _ _ _ x i=>[x,i]
 |.Ao x i=>[x,i]
 |.HC x lo hi=>x::(lo.toList++hi.toList)
 |.sE _ x lo hi=>x::(lo.toList++hi.toList)
 |.ER _ x lo hi mx=>x::hi::mx::lo.toList
 |.vS x _=>[x]
 |.sj x=>[x]
 |.yF _ fs l=>fs++l
 |.vT _ _ _ _ x y=>[x,y]
 |.build _ ps=>ps.map (·.2.2)
 |.tK _ _ _ _ _ ps=>ps.map (·.2)
 |.len x=>[x]
 |.um x=>[x]
 |.app _ _ _ x y=>[x,y]
 |.xC _ x y=>[x,y]
 |.copy _ x y=>[x,y]
 |.xD _ x ys=>x::ys
 |.conv _ x=>[x]
 |.xE x=>[x]
 |.call _ l=>l
 |.sk x l=>x::l
theorem cQ(x:aG)(E:Env)(e:aD)(k:ai→aD):bq x E e k=ob (x.ev E) e k:=by cases x<;>rfl
section
variable{E E':Env}
theorem CD:∀(l:List aG),(∀x∈l,x.ev E=x.ev E')→iK E l=iK E' l
 |[],_=>rfl
 |x::r,h=>by
  have z:=h x (by simp);have h2:=CD r (fun y A=>h y (by simp[A]));show ob (x.ev E) none (fun v=>ob (iK E r) none fun vs=>some (v::vs))=ob (x.ev E') none (fun v=>ob (iK E' r) none fun vs=>some (v::vs));rw[z,h2]
theorem zL{x:Option aG}{d y:Nat}{e:aD}{k:Nat→aD}(h:∀z∈x.toList,z.ev E=z.ev E'):dT E x d y e k=dT E' x d y e k:=by
 cases x with
 |none=>rfl
 |some z=>
  have A:=h z (by simp);show ob (z.ev E) e _=ob (z.ev E') e _;rw[A]
theorem YT:∀(ps:List (Nat×Nat×aG))(cells:List ai),(∀x∈ps.map (·.2.2),x.ev E=x.ev E')→qG E ps cells=qG E' ps cells
 |[],_,_=>rfl
 |p::r,cells,h=>by
  have z:=h p.2.2 (by simp);have h2:=fun cells=>YT r cells (fun y A=>h y (by simp only[lM,sv];exact .inr A))
  show ob (p.2.2.ev E) none _=ob (p.2.2.ev E') none _;rw[z];congr 1
  funext v
  congr 1
  funext new
  congr 1;exact h2 _
theorem YO(es z:Nat):∀(ps:List (Nat×aG))(t:RT),(∀x∈ps.map (·.2),x.ev E=x.ev E')→rW E es z ps t=rW E' es z ps t
 |[],_,_=>rfl
 |p::r,t,h=>by
  have A:=h p.2 (by simp);have h2:=fun t=>YO es z r t (fun y G=>h y (by simp only[lM,sv];exact .inr G))
  show ob (p.2.ev E) none _=ob (p.2.ev E') none _;rw[A];congr 1
  funext v
  congr 1
  funext new
  congr 1;congr 1;exact h2 _
theorem br.ev_congr{call:dQ}{H:ax}(io:br)(h:∀x∈io.dg,x.ev E=x.ev E'):io.ev call E H=io.ev call E' H:=by
 cases io with
 |eb x=>have A:=h x (by simp[br.dg]);show oX x E H=oX x E' H;simp only[oX,cQ,A]
 |pick c x y=>
  have A:=h c (by simp[br.dg]);have h2:=h x (by simp[br.dg]);have I:=h y (by simp[br.dg]);show HD c x y E H=HD c x y E' H;simp only[HD,oX,cQ,A,h2,I]
 |pN a b c d=>rfl
 |box a b c x=>have A:=h x (by simp[br.dg]);show IV a b c x E H=IV a b c x E' H;simp only[IV,AZ,cQ,A]
 |load a b x=>have A:=h x (by simp[br.dg]);show HE a b x E H=HE a b x E' H;simp only[HE,cQ,A]
 |store a x y=>have A:=h x (by simp[br.dg]);have h2:=h y (by simp[br.dg]);show Gy a x y E H=Gy a x y E' H;simp only[Gy,cQ,A,h2]
 |bin a x y=>have A:=h x (by simp[br.dg]);have h2:=h y (by simp[br.dg]);show IW a x y E H=IW a x y E' H;simp only[IW,cQ,A,h2]
 |eqv a b x y=>have A:=h x (by simp[br.dg]);have h2:=h y (by simp[br.dg]);show ES a b x y E H=ES a b x y E' H;simp only[ES,cQ,A,h2]
 |un a x=>have A:=h x (by simp[br.dg]);show JR a x E H=JR a x E' H;simp only[JR,cQ,A]
 |eY x a=>have A:=h x (by simp[br.dg]);show HF x a E H=HF x a E' H;simp only[HF,cQ,A]
 |sub x a b c=>have A:=h x (by simp[br.dg]);show IX x a b c E H=IX x a b c E' H;simp only[IX,cQ,A]
 |An a b x y=>have A:=h x (by simp[br.dg]);have h2:=h y (by simp[br.dg]);show F1 a b x y E H=F1 a b x y E' H;simp only[F1,cQ,A,h2]
 |kr a x y=>have A:=h x (by simp[br.dg]);have h2:=h y (by simp[br.dg]);show Gz a x y E H=Gz a x y E' H;simp only[Gz,cQ,A,h2]
 |C2 a b c x y=>have A:=h x (by simp[br.dg]);have h2:=h y (by simp[br.dg]);show F2 a b c x y E H=F2 a b c x y E' H;simp only[F2,cQ,A,h2]
 |Ao x y=>have A:=h x (by simp[br.dg]);have h2:=h y (by simp[br.dg]);show F3 x y E H=F3 x y E' H;simp only[F3,cQ,A,h2]
 |HC x lo hi=>
  have A:=h x (by simp[br.dg]);have h2:∀z∈lo.toList,z.ev E=z.ev E':=fun z G=>h z (by simp only[br.dg,sv,yD];exact .inr (.inl G))
  have I:∀z∈hi.toList,z.ev E=z.ev E':=fun z G=>h z (by simp only[br.dg,sv,yD];exact .inr (.inr G))
  show GA x lo hi E H=GA x lo hi E' H;simp only[GA,cQ,A,zL h2,zL I]
 |sE n x lo hi=>
  have A:=h x (by simp[br.dg]);have h2:∀z∈lo.toList,z.ev E=z.ev E':=fun z G=>h z (by simp only[br.dg,sv,yD];exact .inr (.inl G))
  have I:∀z∈hi.toList,z.ev E=z.ev E':=fun z G=>h z (by simp only[br.dg,sv,yD];exact .inr (.inr G))
  show HG n x lo hi E H=HG n x lo hi E' H;simp only[HG,cQ,A,zL h2,zL I]
 |ER n x lo hi mx=>
  have A:=h x (by simp[br.dg]);have h2:∀z∈lo.toList,z.ev E=z.ev E':=fun z G=>h z (by simp only[br.dg,sv];exact .inr (.inr (.inr G)))
  have I:∀z∈(some hi).toList,z.ev E=z.ev E':=fun z G=>h z (by simp only[Option.toList_some,Vv] at G;subst G;simp[br.dg])
  have L:∀z∈(some mx).toList,z.ev E=z.ev E':=fun z G=>h z (by simp only[Option.toList_some,Vv] at G;subst G;simp[br.dg])
  show IY n x lo hi mx E H=IY n x lo hi mx E' H;simp only[IY,cQ,A,zL h2,zL I,zL L]
 |vS x a=>have A:=h x (by simp[br.dg]);show HH x a E H=HH x a E' H;simp only[HH,cQ,A]
 |sj x=>have A:=h x (by simp[br.dg]);show GB x E H=GB x E' H;simp only[GB,cQ,A]
 |yF f fs l=>
  have A:=CD fs (fun z G=>h z (by simp only[br.dg,yD];exact .inl G));have h2:=CD l (fun z G=>h z (by simp only[br.dg,yD];exact .inr G));show HI f fs l E H=HI f fs l E' H;simp only[HI,A,h2]
 |vT a b c d x y=>have A:=h x (by simp[br.dg]);have h2:=h y (by simp[br.dg]);show HJ a b c d x y E H=HJ a b c d x y E' H;simp only[HJ,cQ,A,h2]
 |build z ps=>have A:=YT ps z h;show LJ z ps E H=LJ z ps E' H;simp only[LJ,A]
 |tK a b c d z ps=>have A:=YO b d ps (oI z d) h;show KQ a b c d z ps E H=KQ a b c d z ps E' H;simp only[KQ,A]
 |len x=>have A:=h x (by simp[br.dg]);show IZ x E H=IZ x E' H;simp only[IZ,cQ,A]
 |um x=>have A:=h x (by simp[br.dg]);show HK x E H=HK x E' H;simp only[HK,cQ,A]
 |app a b c x y=>have A:=h x (by simp[br.dg]);have h2:=h y (by simp[br.dg]);show I0 a b c x y E H=I0 a b c x y E' H;simp only[I0,cQ,A,h2]
 |xC a x y=>have A:=h x (by simp[br.dg]);have h2:=h y (by simp[br.dg]);show F5 a x y E H=F5 a x y E' H;simp only[F5,cQ,A,h2]
 |copy a x y=>have A:=h x (by simp[br.dg]);have h2:=h y (by simp[br.dg]);show HL a x y E H=HL a x y E' H;simp only[HL,cQ,A,h2]
 |xD m x ys=>
  have A:=h x (by simp[br.dg]);have h2:=CD ys (fun z G=>h z (by simp only[br.dg,sv];exact .inr G));show F6 m x ys E H=F6 m x ys E' H;simp only[F6,cQ,A,h2]
 |conv k x=>have A:=h x (by simp[br.dg]);show HM k x E H=HM k x E' H;simp only[HM,cQ,A]
 |xE x=>have A:=h x (by simp[br.dg]);show F7 x E H=F7 x E' H;simp only[F7,cQ,A]
 |call f l=>have A:=CD l h;show HN f l call E H=HN f l call E' H;simp only[HN,A]
 |sk x l=>
  have A:=h x (by simp[br.dg]);have h2:=CD l (fun z G=>h z (by simp only[br.dg,sv];exact .inr G));show GC x l call E H=GC x l call E' H;simp only[GC,cQ,A,h2]
theorem br.reads_congr(io:br)(h:∀x∈io.dg,x.ev E=x.ev E'):io.reads E=io.reads E':=by
 cases io with
 |load a b x=>have z:=h x (by simp[br.dg]);simp only[br.reads,z]
 |app a b c x y=>have z:=h x (by simp[br.dg]);have h2:=h y (by simp[br.dg]);simp only[br.reads,z,h2]
 |xC a x y=>have z:=h x (by simp[br.dg]);simp only[br.reads,z]
 |xE x=>have z:=h x (by simp[br.dg]);simp only[br.reads,z]
 |store a x y=>have z:=h x (by simp[br.dg]);simp only[br.reads,z]
 |_=>rfl
end
def hJ(ρ:Ho)(C:Nat→Option cX)(H:ax):Prop:=∀f o,(∃g h,ρ f g=some h)→H.t.get f=some o→C f=some o
structure jx(P:Program)(call:dQ):Prop where
 lr:∀f args H,H.aS≤H.next→TM H (call f args H)
 sound:∀f args H v H' ρ C w(dc:Array Value),call f args H= .ok v H'→H.aS≤H.next→(∀x,H.next≤x→H.t.get x=none)→R ρ C w→hJ ρ C H→fI ρ H.next H'.next→vE P ρ→bR ρ args dc.toList→
  ((callFunc f dc).run P w= .ok (.enter f dc) w∧Calls P f dc w fun e w'=>∃cv,e= .returned cv∧c9 ρ C w H v H' cv w')∨
  ∃cv w',(callFunc f dc).run P w= .ok (.value cv) w'∧c9 ρ C w H v H' cv w'
structure Sv(P:Program)(f:Nat)(F:List ai→ax→aD):Prop where
 lr:∀args H,H.aS≤H.next→TM H (F args H)
 sound:∀args H v H' ρ C w(dc:Array Value),F args H= .ok v H'→H.aS≤H.next→(∀x,H.next≤x→H.t.get x=none)→R ρ C w→hJ ρ C H→fI ρ H.next H'.next→vE P ρ→bR ρ args dc.toList→
  ((callFunc f dc).run P w= .ok (.enter f dc) w∧Calls P f dc w fun e w'=>∃cv,e= .returned cv∧c9 ρ C w H v H' cv w')∨
  ∃cv w',(callFunc f dc).run P w= .ok (.value cv) w'∧c9 ρ C w H v H' cv w'
def RD(P:Program)(zt:ZT):Prop:=∀f F,zt.get f=some F→Sv P f F
theorem Zp{P:Program}:RD P .leaf:=fun f F h=>by rw[Tr.uY] at h;cases h
section
variable{P:Program}{ρ:Ho}{nt:Nat}{E:Env}{a:Act}{C:Nat→Option cX}{w:World}{H H':ax}{v:ai}{o:Oper}{call:dQ}
theorem call_sound(M:AR P ρ nt E a)(O:R ρ C w)(U:fI ρ H.next H'.next)(Y:hJ ρ C H)(Z:H.aS≤H.next)(G:∀x,H.next≤x→H.t.get x=none)(hc:jx P call){c:Call}{f:Nat}{args:List aG}
  (ho:o.op= .call c) (A:c.callee= .value (.func f)) (hx:ke P c.args.toList=some args) (h:HN f args call E H= .ok v H'):eI P o a w (c9 ρ C w H v H'):=by
 replace h:=iV h;obtain⟨vs,hv,h⟩:=h;have h1:=M.dg hx hv;rcases hc.sound f vs H v H' ρ C w (c.args.map a.eval) h Z G O Y U M.ru (by simpa using h1) with⟨I,L⟩|⟨cv,w',I,z⟩
 ·refine .inr (.inr ⟨f,c.args.map a.eval,?_,L⟩);simp[execOp,ho,resolve,A,Deferred.ofValue,Act.eval,invoke,I]
 refine .inl ⟨cv,w',?_,z⟩;simp[execOp,ho,resolve,A,Deferred.ofValue,Act.eval,invoke,I]
theorem callv_sound(I:AR P ρ nt E a)(Z:R ρ C w)(hF:fI ρ H.next H'.next)(hK:hJ ρ C H)(hm:H.aS≤H.next)(L:∀x,H.next≤x→H.t.get x=none)(hc:jx P call){c:Call}{x:Operand}{U:aG}{args:List aG}
  (ho:o.op= .call c) (A:c.callee= .value x) (M:cG P x=some U) (hx:ke P c.args.toList=some args) (h:GC U args call E H= .ok v H'):eI P o a w (c9 ρ C w H v H'):=by
 replace h:=eK h;obtain⟨u,hu,h⟩:=h;replace h:=onFunc_ok h;obtain⟨f,fs,dY,rfl,h⟩:=h;replace h:=iV h;obtain⟨vs,hv,h⟩:=h;have h1:=I.dg hx hv;have h2:=I.bC M hu;simp only[VR] at h2;obtain⟨Y,cc,h2,h4,h3⟩:=h2;rcases hc.sound f (fs++(vs++dY)) H v H' ρ C w (Y++c.args.map a.eval++cc) h hm L Z hK hF I.ru (by simpa using bR.append h4 (bR.append h1 h3)) with⟨G,O⟩|⟨cv,w',G,z⟩
 ·refine .inr (.inr ⟨f,Y++c.args.map a.eval++cc,?_,O⟩);rw[Array.append_assoc] at G⊢;simp[execOp,ho,resolve,A,Deferred.ofValue,h2,invoke,G]
 refine .inl ⟨cv,w',?_,z⟩;rw[Array.append_assoc] at G;simp[execOp,ho,resolve,A,Deferred.ofValue,h2,invoke,G]
end
section
variable{P:Program}{ρ:Ho}{nt:Nat}{E:Env}{a:Act}{C:Nat→Option cX}{w:World}{H H':ax}{v:ai}{o:Oper}{call:dQ}
def zW(cells:Array Value)(off:Nat)(v:Array Value):Array Value:=v.zipIdx.foldl (fun cs(c,j)=>cs.setIfInBounds (off+j) c) cells
theorem YP(cells:Array Value)(off:Nat)(v:Array Value):(zW cells off v).size=cells.size:=by
 unfold zW;rw[←Array.foldl_toList,aif];exact(Great.foldl_set off v.toList 0 cells).1
theorem Qn(cells:Array Value)(off:Nat)(v:Array Value)(k:Nat):(zW cells off v)[k]?=if off≤k∧k<off+v.size∧k<cells.size then v[k-off]?else cells[k]?:=by
 unfold zW;rw[←Array.foldl_toList,aif];rw[(Great.foldl_set off v.toList 0 cells).2 k];simp
theorem ZP{place:Nat→Option (Nat×Nat)}{cells:Array Value}{i off size:Nat}{v:Value}{rest:List (Nat×Value)}(z:place i=some (off,size))(A:v.cells.size=size)(G:off+size≤cells.size):
  Instr.fill place cells ((i,v)::rest)=Instr.fill place (zW cells off v.cells) rest:=by
 rw[Instr.fill];simp only[z,A];rw[aX (by simp;omega)];rfl
theorem splice_ok{z new:List ai}{off:Nat}(G:z.all eQ=true)(I:new.all eQ=true):(en z off new).all eQ=true:=by
 unfold en;simp only[uf,yD] at*;rintro x(A|A|A)
 ·exact G x (Bt A)
 ·exact I x A
 exact G x (Ec A)
theorem abE(hA:AR P ρ nt E a){place:Nat→Option (Nat×Nat)}:∀{ps:List (Nat×Operand)}{L:List (Nat×Nat×aG)}(_:C3 P place ps=some L)(z:List ai)(cells:Array Value)(G:List ai),
  (∀p∈L,p.1+p.2.1≤z.length)→bR ρ z cells.toList→z.all eQ=true→qG E L z=some G→∃A,Instr.fill place cells (ps.map fun p=>(p.1,a.eval p.2))=some A∧bR ρ G A.toList∧G.all eQ=true
 |[],L,M,z,cells,G,_,hv,O,h=>by
  cases M
  cases h
  exact⟨cells,rfl,hv,O⟩
 |(i,x)::r,L,M,z,cells,G,hle,hv,O,h=>by
  unfold C3 at M
  split at M
  ·rename_i q y l hq hy hl
   cases M
   have h:ob (y.ev E) none (fun v=>ob (iR v) none fun new=>aJ (Nat.beq (gM new) q.2) (qG E l (en z q.1 new)) none)=some G:=h
   cases hu:y.ev E with
   |none=>rw[hu] at h;cases h
   |some u=>
    rw[hu] at h
    cases hc:iR u with
    |none=>simp only[ob] at h;rw[hc] at h;cases h
    |some new=>
     have h:ob (iR u) none (fun new=>aJ (Nat.beq (gM new) q.2) (qG E l (en z q.1 new)) none)=some G:=h;rw[hc] at h;have h:aJ (Nat.beq (gM new) q.2) (qG E l (en z q.1 new)) none=some G:=h
     cases U:Nat.beq (gM new) q.2
     ·rw[U] at h;cases h
     rw[U,dM] at h;have U:=cW U;rw[pt] at U;have h1:=(hA.bC hy hu).cells hc;have Y:(a.eval x).cells.size=new.length:=by have:=h1.1.length;simpa using this
     have Z:cells.size=z.length:=by have:=hv.length;simpa using this
     have I:=hle (q.1,q.2,y) (jo ..);have I:q.1+q.2≤z.length:=I;have rL:=YN (l:=z) (new:=new) (r:=q.1) (n:=q.2) I U
     obtain⟨A,k1,k2,k3⟩:=abE hA hl (en z q.1 new) (zW cells q.1 (a.eval x).cells) G (fun p M=>by rw[rL];exact hle p (oV _ M)) (bR.mW (by simp[YP,rL,Z]) fun k av O=>by
       rw[Zm I U] at O;simp only[Vw,Qn,Y]
       split at O
       ·rename_i o9;rw[bg an];obtain⟨cv,g1,g2⟩:=h1.1.get _ av O;exact⟨cv,by simpa using g1,g2⟩
       rename_i o9;rw[aX an];obtain⟨cv,g1,g2⟩:=hv.get _ av O
       exact⟨cv,by simpa using g1,g2⟩) (splice_ok O h1.2) h
     refine⟨A,?_,k2,k3⟩;rw[lM,ZP (off:=q.1) (size:=q.2) hq (Y.trans U) (by rw[Z];exact I)];exact k1
  cases M
theorem Y6(O:AR P ρ nt E a)(U:R ρ C w){t:TypeId}{parts:Array (Nat×Operand)}{place:Nat→Option (Nat×Nat)}{z:List ai}{cells:Array Value}{io:br}(ho:o.op= .build t parts)
  (Y:bR ρ z cells.toList) (Z:z.all eQ=true) (hb:∀vs,Instr.fill place cells vs=P.built t vs) (G:K7 z (C3 P place parts.toList)=some io) (h:io.ev call E H= .ok v H'):eI P o a w (c9 ρ C w H v H'):=by
 unfold K7 at G
 split at G
 ·rename_i l hl
  split at G
  ·rename_i I
   cases G
   have h:ob (qG E l z) (.err 23) (fun cs=>aD.ok (.agg cs) H)= .ok v H':=h;replace h:=iV h;obtain⟨M,L,h⟩:=h
   cases h
   obtain⟨A,k1,k2,k3⟩:=abE O hl z cells M (fun p hp=>by
    have:=List.all_eq_true.1 I p hp
    simpa using this) Y Z L
   refine fP (cv:=.agg A) ?_ U (by simp only[VR];exact⟨A,rfl,k2,k3⟩);have:=run_build (P:=P) w t (parts.map fun(i,x)=>(i,a.eval x)) A (by rw[←hb,←k1];simp);simp[execOp,ho,this]
  cases G
 cases G
theorem build_sound(O:AR P ρ nt E a)(U:R ρ C w){t:TypeId}{parts:Array (Nat×Operand)}{io:br}(ho:o.op= .build t parts)(A:RA P t parts.toList=some io)(h:io.ev call E H= .ok v H'):eI P o a w (c9 ρ C w H v H'):=by
 unfold RA at A
 split at A
 ·rename_i z hz;obtain⟨i,zv,hi,G,Y,Z,_,_,_⟩:=xm hz
  split at A
  ·rename_i fs L
   split at A
   ·rename_i I hp;exact Y6 O U ho (Y ρ) Z (fun vs=>by simp[Program.built,hi,L,G,hp]) A h
   cases A
  ·rename_i n e L
   split at A
   ·rename_i ie M;exact Y6 O U ho (Y ρ) Z (fun vs=>by simp[Program.built,hi,L,G,M]) A h
   cases A
  cases A
 cases A
def Fl(ρ:Ho)(n es:Nat)(t:RT)(cells:Array Value):Prop:=
 ∀i,i<n→∃l,t.get i=some l∧l.length=es∧∀j x,l[j]?=some x→eQ x=true∧∃cv,cells[i*es+j]?=some cv∧VR ρ x cv
theorem KE(x:List ai)(i:Nat):∀n,(oI x n).get i=if i<n then some x else none
 |0=>rfl
 |n+1=>by
  show((oI x n).set n x).get i=_;rw[RT.df,KE x i n]
  by_cases h:i=n
  ·rw[bg h,bg an]
  rw[aX h]
  by_cases h2:i<n
  ·rw[bg h2,bg an]
  rw[aX h2,aX an]
theorem madeCells_get{z:Array Value}{es i j N:Nat}(A:z.size=es)(G:j<es)(hN:i*es+j<N):(madeCells z N)[i*es+j]?=z[j]?:=by
 unfold madeCells;rw[Array.getElem?_map,Array.getElem?_range,bg hN];have e:(i*es+j) % z.size=j:=by rw[A,Nat.add_comm,Nat.add_mul_mod_self_right,Eb G]
 simp only[sw,e];rw[getElem!_pos z j an,Bv an]
theorem abF{z:List ai}{A:Array Value}{es n N:Nat}(M:bR ρ z A.toList)(O:z.all eQ=true)(G:z.length=es)(hN:n*es≤N):Fl ρ n es (oI z n) (madeCells A N):=by
 intro i hi;refine⟨z,by rw[KE,bg hi],G,fun j x I=>⟨List.all_eq_true.1 O x (rj I),?_⟩⟩;obtain⟨cv,U,h2⟩:=M.get j x I;have Y:j<es:=by rw[←G];exact(List.getElem?_eq_some_iff.1 I).1
 have L:A.size=es:=by have:=M.length;rw[←G];simpa using this
 have Z:i*es+es≤n*es:=by have:=iZ es (show i+1≤n by omega);rwa [vO] at this
 exact⟨cv,by rw[madeCells_get L Y an];simpa using U,h2⟩
theorem ZQ(hA:AR P ρ nt E a){es A:Nat}:∀{ps:List (Nat×Operand)}{I:List (Nat×aG)}(_:K6 P ps=some I)(t t':RT)(cells:Array Value),cells.size=A*es→Fl ρ A es t cells→rW E es A I t=some t'→
  ∃z,Instr.fill (fun i=>some (i*es,es)) cells (ps.map fun p=>(p.1,a.eval p.2))=some z∧z.size=A*es∧Fl ρ A es t' z
 |[],I,O,t,t',cells,Y,hf,h=>by
  cases O
  cases h
  exact⟨cells,rfl,Y,hf⟩
 |(i,x)::r,I,O,t,t',cells,Y,hf,h=>by
  unfold K6 at O
  split at O
  ·rename_i y l hy hl
   cases O
   have h:ob (y.ev E) none (fun v=>ob (iR v) none fun new=>aJ (Nat.beq (gM new) es) (aJ (Nat.ble (Nat.succ i) A) (rW E es A l (t.set i new)) none) none)=some t':=h
   cases hu:y.ev E with
   |none=>rw[hu] at h;cases h
   |some u=>
    rw[hu] at h;have h:ob (iR u) none (fun new=>aJ (Nat.beq (gM new) es) (aJ (Nat.ble (Nat.succ i) A) (rW E es A l (t.set i new)) none) none)=some t':=h
    cases hc:iR u with
    |none=>rw[hc] at h;cases h
    |some new=>
     rw[hc] at h;have h:aJ (Nat.beq (gM new) es) (aJ (Nat.ble (Nat.succ i) A) (rW E es A l (t.set i new)) none) none=some t':=h
     cases L:Nat.beq (gM new) es
     ·rw[L] at h;cases h
     rw[L,dM] at h
     cases G:Nat.ble (Nat.succ i) A
     ·rw[G] at h;cases h
     rw[G,dM] at h;have L:=cW L;rw[pt] at L;have G:i+1≤A:=aV G;have h1:=(hA.bC hy hu).cells hc;have og:(a.eval x).cells.size=new.length:=by have:=h1.1.length;simpa using this
     have mono:∀{p q:Nat},p+1≤q→p*es+es≤q*es:=fun{p q}h=>by have:=iZ es h;rwa [vO] at this
     have o9:=mono G
     obtain⟨z,k1,k2,k3⟩:=ZQ hA hl (t.set i new) t' (zW cells (i*es) (a.eval x).cells) (by rw[YP,Y]) (fun k hk=>by
      rw[RT.df]
      by_cases M:k=i
      ·subst M;rw[bg rfl];refine⟨new,rfl,L,fun j Z U=>⟨List.all_eq_true.1 h1.2 Z (rj U),?_⟩⟩;obtain⟨cv,g1,g2⟩:=h1.1.get j Z U;have JY:j<es:=by rw[←L];exact(List.getElem?_eq_some_iff.1 U).1
       refine⟨cv,?_,g2⟩;rw[Qn,bg an,Nat.add_sub_cancel_left];simpa using g1
      rw[aX M];obtain⟨l0,g1,g2,g3⟩:=hf k hk;refine⟨l0,g1,g2,fun j Z U=>?_⟩;obtain⟨m1,cv,m2,m3⟩:=g3 j Z U;have JY:j<es:=by rw[←g2];exact(List.getElem?_eq_some_iff.1 U).1
      refine⟨m1,cv,?_,m3⟩;rw[Qn,aX ?_]
      ·exact m2
      rcases Nat.lt_or_gt_of_ne M with lT|Pw
      ·have:=mono (show k+1≤i from lT);omega
      have:=mono (show i+1≤k from Pw);omega) h
     refine⟨z,?_,k2,k3⟩;rw[lM,ZP (off:=i*es) (size:=es) rfl (og.trans L) (by rw[Y];exact o9)];exact k1
  cases O
theorem aaG(I:R ρ C w)(L:fI ρ H.next (H.next+1)){e es aC n cap:Nat}{t:RT}{cells:Array Value}(M:0<es)(z:n≤cap)(G:cells.size=cap*es)(A:Fl ρ n es t cells){w':World}(O:w'.heap=w.heap.push (.cells cells e))
  (U:w'.os=w.os) (h2:w'.tape=w.tape) (Y:w'.output=w.output):c9 ρ C w H (.slice H.next n 0 n es) ⟨H.next+1,H.aS,H.ws,H.t.set H.next (.row e es aC n n 0 t)⟩ (.slice (some ⟨w.heap.size,0,none⟩) n cap) w':=by
 obtain⟨ρ',Z,g2,g3⟩:=I.alloc (f:=H.next) (elem:=e) (es:=es) (aC:=aC) (n:=n) (cs:=t) (cells:=cells) (w':=w')
  (Wr ⟨H.next+1,H.aS,H.ws,H.t.set H.next (.row e es aC n n 0 t)⟩) (fun g=>L _ g (bd _) (ze _)) M (by rw[G];exact iZ _ z) A O U h2 Y
 refine⟨ρ',?_,g2,?_⟩
 ·simp only[VR];refine⟨_,_,_,Z,rfl,⟨z,by rw[e6];exact iZ _ z⟩,.inl ⟨rfl,?_⟩⟩;simp only;rw[G,e6];exact bd _
 rw[QH];exact g3
theorem buildSl_sound(hA:AR P ρ nt E a)(hR:R ρ C w)(hF:fI ρ H.next H'.next){t:TypeId}{I:Nat}{parts:Array (Nat×Operand)}{io:br}(ho:o.op= .buildSlice t I parts)(A:QG P t I parts.toList=some io)
  (h:io.ev call E H= .ok v H'):eI P o a w (c9 ρ C w H v H'):=by
 unfold QG at A
 split at A
 ·rename_i e hu
  split at A
  ·rename_i i z hi hz
   split at A
   ·rename_i l hl
    split at A
    ·rename_i hle
     cases A
     have h:ob (rW E i.size I l (oI z I)) (.err 24) (fun t=>H.alloc (.row e i.size i.bytes I I 0 t) fun f H=>.ok (.slice f I 0 I i.size) H)= .ok v H':=h;replace h:=iV h;obtain⟨tr,Z,h⟩:=h;have h:=FF h
     cases h
     obtain⟨i',M,O,rK,hv,hk,Ch,U,zi⟩:=xm hz;rw[hi] at O
     cases O
     obtain⟨G,k1,k2,k3⟩:=ZQ hA hl (oI z I) tr (madeCells M.cells (I*i.size)) (size_madeCells _ _) (abF (hv ρ) hk Ch (bd _)) Z;refine .inl ⟨_,w.alloc (.cells G e),?_,aaG hR hF U (bd _) k2 k3 rfl rfl rfl rfl⟩;have Y:Instr.fill (fun j=>some (j*i.size,i.size)) ((Array.range (I*i.size)).map (M.cells[· % M.cells.size]!)) (parts.map fun(i,x)=>(i,a.eval x)).toList=some G:=by
      rw[←k1];simp[madeCells]
     by_cases h0:I*i.size=0
     ·have e0:(Array.range 0).map (M.cells[· % M.cells.size]!)=#[]:=by rw[show Array.range 0=#[] from rfl];exact Array.map_empty ..
      rw[h0,e0] at Y;have Px:Instr.fill (fun j=>some (j*i.size,i.size)) #[] (parts.toList.map fun x=>(x.1,a.eval x.2))=some G:=by rw[←Y];simp
      simp[execOp,ho,Instr.buildSlice,run_underlying hu,sizeOf,typeInfo,hi,h0,newRow,Px,show Array.range 0=#[] from rfl]
     have L:¬(2^24<I*i.size):=by omega
     simp at Y L;simp[execOp,ho,Instr.buildSlice,run_underlying hu,sizeOf,typeInfo,hi,L,h0,zeroValue,rK,Y,newRow]
    cases A
   cases A
  cases A
 cases A
theorem mksl_sound(hA:AR P ρ nt E a)(hR:R ρ C w)(hF:fI ρ H.next H'.next){t:TypeId}{x y:Operand}{O U:aG}{io:br}(ho:o.op= .makeSlice t x y)(hx:cG P x=some O)(hy:cG P y=some U)(A:St P t O U=some io)
  (h:io.ev call E H= .ok v H'):eI P o a w (c9 ρ C w H v H'):=by
 unfold St at A
 split at A
 ·rename_i e hu
  split at A
  ·rename_i i z hi hz
   split at A
   ·rename_i hb
    cases A
    have h:HJ e i.size i.bytes z O U E H= .ok v H':=h;replace h:=eK h;obtain⟨u,Y,h⟩:=h;replace h:=CK h;obtain⟨kl,l0,rfl,h⟩:=h;replace h:=KS h;obtain⟨l,rfl,h⟩:=h;replace h:=eK h;obtain⟨u2,Z,h⟩:=h;replace h:=CK h;obtain⟨kc,c0,rfl,h⟩:=h;replace h:=KS h;obtain⟨c,rfl,h⟩:=h;replace h:=fQ h;obtain⟨I,h⟩:=h;replace h:=fQ h;obtain⟨g2,h⟩:=h;replace h:=fQ h;obtain⟨g3,h⟩:=h;rw[K4] at h;have h:=FF h
    cases h
    have I:=aV I;have g2:c*i.bytes≤70368744177664:=aV g2;have g3:=aV g3;obtain⟨i',zv,L,rK,hv,hk,Ch,M,zi⟩:=xm hz;rw[hi] at L
    cases L
    have e1:=hA.bC hx Y;have e2:=hA.bC hy Z;simp only[VR] at e1 e2
    have G:=run_make (P:=P) w t e i zv hu hi rK kl kc (l:Int) (c:Int) (Int.natCast_nonneg l) (Int.ofNat_le.2 I) (by
     have:((i.bytes*c:Nat):Int)≤((281474976710656:Nat):Int):=Int.ofNat_le.2 (by rw[re];omega);rw[Int.natCast_mul] at this
     exact this) an
    simp only[Ed] at G;refine .inl ⟨_,w.alloc (.cells (madeCells zv.cells (c*i.size)) e),?_,aaG hR hF M I (size_madeCells _ _) (abF (hv ρ) hk Ch (iZ _ I)) rfl rfl rfl rfl⟩;rw[show(execOp a.eval o)=_ from rfl];simp only[execOp,ho,e1,e2];simp only[Sem.run_bind,G,Result.andThen_ok];rfl
   cases A
  cases A
 cases A
end
section
variable{P:Program}{ρ:Ho}{nt:Nat}{E:Env}{a:Act}{C:Nat→Option cX}{w:World}{H H':ax}{v:ai}{o:Oper}{call:dQ}
theorem Qy(b:Bool)(k:Bool→aD):po b k=k b:=by cases b<;>rfl
theorem eqA_ok(dp:Nat){c:EP}{t:TypeId}{d:TypeDesc}(G:P.underlying t=some d)(A:Ud P d=some c){x y:ai}{L cy:Value}(z:VR ρ x L)(h2:VR ρ y cy){r:Bool}(h:qc c x y=some r):
  (Op.equalIn (dp+1) t L cy).run P w= .ok r w∧(∀k n,L≠.int k n)∧(∀b,L≠.string b)∧(∀k n,L≠.float k n)∧(∀k n m,L≠.complex k n m)∧(∀cs,L≠.agg cs)∧(L= .nilIface→∃ms,d= .interface ms):=by
 unfold Ud at A
 split at A
 ·cases A
  unfold qc at h;simp only at h
  split at h
  ·simp only[VR] at z h2;subst z;subst h2
   cases h
   exact⟨by simp[Op.equalIn,run_underlying G],by simp,by simp,by simp,by simp,by simp,by simp⟩
  cases h
 ·rename_i e
  split at A
  ·rename_i ie U
   cases A
   unfold qc at h;simp only at h
   split at h
   ·simp only[VR] at z h2;subst z;subst h2;cases h;exact⟨by simp[Op.equalIn,run_underlying G],by simp,by simp,by simp,by simp,by simp,by simp⟩
   ·simp only[VR] at z h2;obtain⟨_,_,rfl⟩:=h2;subst z;cases h;exact⟨by simp[Op.equalIn,run_underlying G],by simp,by simp,by simp,by simp,by simp,by simp⟩
   ·simp only[VR] at z h2;obtain⟨_,_,rfl⟩:=z;subst h2;cases h;exact⟨by simp[Op.equalIn,run_underlying G],by simp,by simp,by simp,by simp,by simp,by simp⟩
   ·rename_i f g o f' g' o'
    cases I:Nat.beq f f'
    ·rw[I] at h;cases h
    rw[I,dM] at h
    cases M:Nat.beq g g'
    ·rw[M] at h;cases h
    rw[M,dM] at h
    cases O:Nat.beq o o'
    ·rw[O] at h;cases h
    rw[O,dM] at h
    cases h
    have I:=cW I;have M:=cW M;have O:=cW O;subst I;subst M;subst O;simp only[VR] at z h2;obtain⟨hm,k1,rfl⟩:=z;obtain⟨qd,Z,rfl⟩:=h2;rw[k1] at Z
    cases Z
    exact⟨by simp[Op.equalIn,run_underlying G,sizeOf,typeInfo,U,run_sameAddr_same],by simp,by simp,by simp,by simp,by simp,by simp⟩
   cases h
  cases A
 ·cases A
  unfold qc at h;simp only at h
  split at h
  ·simp only[VR] at z h2;subst z;subst h2;cases h;exact⟨by simp[Op.equalIn,run_underlying G],by simp,by simp,by simp,by simp,by simp,by simp⟩
  ·simp only[VR] at z h2;obtain⟨_,_,_,_,rfl,_⟩:=h2;subst z;cases h;exact⟨by simp[Op.equalIn,run_underlying G],by simp,by simp,by simp,by simp,by simp,by simp⟩
  ·simp only[VR] at z h2;obtain⟨_,_,_,_,rfl,_⟩:=z;subst h2;cases h;exact⟨by simp[Op.equalIn,run_underlying G],by simp,by simp,by simp,by simp,by simp,by simp⟩
  cases h
 ·rename_i ms
  cases A
  unfold qc at h;simp only at h
  split at h
  ·simp only[VR] at z h2;subst z;subst h2;cases h;exact⟨by simp[Op.equalIn,run_underlying G],by simp,by simp,by simp,by simp,by simp,fun _=>⟨ms,rfl⟩⟩
  ·simp only[VR] at z h2;obtain⟨_,rfl,_⟩:=h2;subst z;cases h;exact⟨by simp[Op.equalIn,run_underlying G],by simp,by simp,by simp,by simp,by simp,fun _=>⟨ms,rfl⟩⟩
  ·simp only[VR] at z h2;obtain⟨_,rfl,_⟩:=z;subst h2;cases h;exact⟨by simp[Op.equalIn,run_underlying G],by simp,by simp,by simp,by simp,by simp,by simp⟩
  ·rename_i t1 _ t2 _
   cases I:Nat.beq t1 t2
   ·rw[I] at h
    cases h
    have Y:t1≠t2:=fun e=>by rw[e,gu] at I;cases I
    simp only[VR] at z h2;obtain⟨_,rfl,_⟩:=z;obtain⟨_,rfl,_⟩:=h2;exact⟨by simp[Op.equalIn,run_underlying G,Y],by simp,by simp,by simp,by simp,by simp,by simp⟩
   rw[I] at h;cases h
  cases h
 ·cases A
  unfold qc at h;simp only at h
  split at h
  ·simp only[VR] at z h2;subst z;subst h2;cases h;exact⟨by simp[Op.equalIn,run_underlying G],by simp,by simp,by simp,by simp,by simp,by simp⟩
  ·simp only[VR] at z h2;obtain⟨_,_,rfl,_⟩:=h2;subst z;cases h;exact⟨by simp[Op.equalIn,run_underlying G],by simp,by simp,by simp,by simp,by simp,by simp⟩
  ·simp only[VR] at z h2;obtain⟨_,_,rfl,_⟩:=z;subst h2;cases h;exact⟨by simp[Op.equalIn,run_underlying G],by simp,by simp,by simp,by simp,by simp,by simp⟩
  cases h
 ·cases A
  unfold qc at h;simp only at h
  split at h
  ·simp only[VR] at z h2;subst z;subst h2;cases h;exact⟨by simp[Op.equalIn,run_underlying G],by simp,by simp,by simp,by simp,by simp,by simp⟩
  cases h
 cases A
theorem run_eqGuard_free{op:BinOp}(G:op= .eql∨op= .neq){t:TypeId}{d:TypeDesc}{x y:Operand}{I cy:Value}(L:P.underlying t=some d)(z:LK x y d=true)(M:∀cs,I≠.agg cs)(O:I= .nilIface→∃ms,d= .interface ms):
  (eqGuard op t x y I cy).run P w= .ok () w:=by
 unfold eqGuard;rcases G with rfl|rfl
 ·rw[aX ao]
  split
  ·obtain⟨ms,rfl⟩:=O rfl;simp only[LK,oW] at z;have e:∀A,(Op.eqGuardIn (A+1) t .nilIface .nilIface).run P w= .ok (!ms.isEmpty) w:=fun A=>by simp[Op.eqGuardIn,run_underlying L]
   rcases z with(z|z)|z
   ·cases x<;>cases y<;>simp[Op.maxDepth,e 9999,z]
   ·cases x<;>simp[CJ] at z<;>simp
   cases y<;>simp[CJ] at z<;>simp
  ·exact absurd rfl (M _)
  rfl
 rw[aX ao]
 split
 ·obtain⟨ms,rfl⟩:=O rfl;simp only[LK,oW] at z;have e:∀A,(Op.eqGuardIn (A+1) t .nilIface .nilIface).run P w= .ok (!ms.isEmpty) w:=fun A=>by simp[Op.eqGuardIn,run_underlying L]
  rcases z with(z|z)|z
  ·cases x<;>cases y<;>simp[Op.maxDepth,e 9999,z]
  ·cases x<;>simp[CJ] at z<;>simp
  cases y<;>simp[CJ] at z<;>simp
 ·exact absurd rfl (M _)
 rfl
theorem eqv_sound(Z:AR P ρ nt E a)(hR:R ρ C w){op:BinOp}{t t':TypeId}{d:TypeDesc}{x z:Operand}{M O:aG}{io:br}(ho:o.op= .binOp op t x z t')(hx:cG P x=some M)(hz:cG P z=some O)(hu:P.underlying t=some d)
  (A:Vz P op d x z M O=some io) (h:io.ev call E H= .ok v H'):eI P o a w (c9 ρ C w H v H'):=by
 unfold Vz at A
 split at A
 ·rename_i c hc
  split at A
  ·rename_i G;have key:∀neg,(op= .eql∧neg=false)∨(op= .neq∧neg=true)→ES c neg M O E H= .ok v H'→eI P o a w (c9 ρ C w H v H'):=by
    intro neg I h;replace h:=eK h;obtain⟨u,U,h⟩:=h;replace h:=eK h;obtain⟨u2,Y,h⟩:=h;replace h:=iV h;obtain⟨r,hr,h⟩:=h;rw[Qy] at h
    cases h
    obtain⟨g0,g1,g2,g3,g4,g5,g6⟩:=eqA_ok (w:=w) 9999 hu hc (Z.bC hx U) (Z.bC hz Y) hr;have hg:=run_eqGuard_free (w:=w) (op:=op) (by rcases I with⟨h,_⟩|⟨h,_⟩<;>simp[h]) (x:=x) (y:=z) (cy:=a.eval z) hu G g5 g6;refine fP (cv:=.bool (Bool.xor neg r)) ?_ hR (by simp only[VR]);simp only[execOp,ho,Sem.run_bind,hg,Result.andThen_ok];generalize a.eval x=L at*;generalize a.eval z=cz at*;rcases I with⟨rfl,rfl⟩|⟨rfl,rfl⟩
    ·have:(binOp .eql t L cz).run P w= .ok (.bool r) w:=by
      cases L<;>simp only[binOp]<;>first|exact absurd rfl (g1 _ _)|exact absurd rfl (g2 _)|exact absurd rfl (g3 _ _)|exact absurd rfl (g4 _ _ _)|simp[Op.equal,Op.maxDepth,g0]
     simp[this]
    have:(binOp .neq t L cz).run P w= .ok (.bool (!r)) w:=by
     cases L<;>simp only[binOp]<;>first|exact absurd rfl (g1 _ _)|exact absurd rfl (g2 _)|exact absurd rfl (g3 _ _)|exact absurd rfl (g4 _ _ _)|simp[Op.equal,Op.maxDepth,g0]
    simp[this]
   cases op<;>simp only[eE,reduceCtorEq] at A
   ·subst A;exact key false (.inl ⟨rfl,rfl⟩) h
   subst A;exact key true (.inr ⟨rfl,rfl⟩) h
  cases A
 cases A
end
section
variable{P:Program}{ρ:Ho}{nt:Nat}{E:Env}{a:Act}{C:Nat→Option cX}{w:World}{H H':ax}{v:ai}{o:Oper}{call:dQ}
theorem Zq:∀{L:List (List ai)}{s:Nat},Aa L=some s→∃z:List UInt8,z.length=L.length∧s=pack z∧∀(i:Nat)(b:UInt8),z[i]?=some b→L[i]?=some [ai.int .u8 (Int.ofNat b.toNat)]
 |[],s,h=>by cases h;exact⟨[],rfl,rfl,fun i b h=>by simp at h⟩
 |c::r,s,h=>by
  cases c with
  |nil=>cases h
  |cons x t=>cases t with
   |cons y t=>cases h
   |nil=>
    have h:adO x none (fun k i=>aJ (Nat.beq (cS k) 4) (iU i none fun b=>aJ (Nat.ble b 255) (ob (Aa r) none fun v=>some (Nat.add b (Nat.mul 256 v))) none) none)=some s:=h
    cases x with
    |int k i=>
     have h:aJ (Nat.beq (cS k) 4) (iU i none fun b=>aJ (Nat.ble b 255) (ob (Aa r) none fun v=>some (Nat.add b (Nat.mul 256 v))) none) none=some s:=h
     cases A:Nat.beq (cS k) 4
     ·rw[A] at h;cases h
     rw[A,dM] at h
     cases i with
     |negSucc m=>cases h
     |ofNat b=>
      have h:aJ (Nat.ble b 255) (ob (Aa r) none fun v=>some (Nat.add b (Nat.mul 256 v))) none=some s:=h
      cases h2:Nat.ble b 255
      ·rw[h2] at h;cases h
      rw[h2,dM] at h
      cases G:Aa r with
      |none=>rw[G] at h;cases h
      |some v=>
       rw[G] at h
       cases h
       obtain⟨z,O,g2,U⟩:=Zq G;have A:=cW A;have h2:=aV h2;have Y:k= .u8:=by cases k<;>simp[cS] at A<;>rfl
       subst Y;have M:(UInt8.ofNat b).toNat=b:=by rw[UInt8.toNat_ofNat'];omega
       refine⟨UInt8.ofNat b::z,by simp[O],?_,fun i y I=>?_⟩
       ·show b+256*v=(UInt8.ofNat b).toNat+256*pack z;rw[M,g2]
       cases i with
       |zero=>simp at I;subst I;rw[M];rfl
       |succ i=>exact U i y (by simpa using I)
    |_=>cases h
theorem convBS_sound(hA:AR P ρ nt E a)(Y:R ρ C w){src dst e:TypeId}{x:Operand}{Z:aG}(ho:o.op= .convert src dst x)(hx:cG P x=some Z)
  (hs:P.underlying src=some (.slice e)) (hd:P.underlying dst=some .string) (he:P.underlying e=some (.int .u8))
  (hC:∀f o,f∈iB (Z.ev E)→(∃g h,ρ f g=some h)→H.t.get f=some o→C f=some o) (h:F7 Z E H= .ok v H'):eI P o a w (c9 ρ C w H v H'):=by
 replace h:=eK h;obtain⟨u,hu,h⟩:=h;have z:=hA.bC hx hu
 cases u<;>try(cases h;done)
 case fV=>
  cases h
  simp only[VR] at z;refine fP (cv:=.string ByteArray.empty) ?_ Y (by simp only[VR];exact⟨_,rfl,rfl,rfl⟩);have:=run_convert_bytes_nil (P:=P) (w:=w) src e hs he 0 0 dst hd;simp only[execOp,ho,z,Sem.run_bind,this];rfl
 case slice f g off n es=>
  have h:ob (elems H f g 1 n off) (.err 39) (fun l=>ob (Aa l) (.err 39) fun s=>ch s fun s=>aD.ok (.str n s) H)= .ok v H':=h;replace h:=iV h;obtain⟨L,hL,h⟩:=h;replace h:=iV h;obtain⟨s,PA,h⟩:=h;rw[fc] at h
  cases h
  simp only[VR] at z;obtain⟨hm,ad,cap,hh,z,aiZ,rL⟩:=z;obtain⟨hlen,Xx⟩:=Q2 hL;obtain⟨O,g1,g2,g3⟩:=Zq PA;have hbl:O.length=n:=g1.trans hlen;subst hbl
  have A:=run_convert_bytes_back (P:=P) w src dst e ad cap O hs he hd (fun j hj=>by
   have U:=g3 j O[j] (dx hj);have G:=Xx j _ U;have s0:C f=H.t.get f:=by
    obtain⟨_,_,_,_,_,_,_,_,U,_⟩:=G;exact(hC f _ (by rw[hu];simp[iB]) ⟨_,_,hh⟩ U).trans U.symm
   obtain⟨_,_,hc⟩:=Y.rd G s0 hh an;obtain⟨cv,I,M⟩:=hc 0 _ rfl;simp only[VR] at M;subst M;rcases rL with⟨rfl,_⟩|⟨h0,_,_⟩
   ·rw[Addr.add_lit];rw[←lp] at I;simpa using I
   omega)
  refine fP (cv:=.string ⟨O.toArray⟩) ?_ Y (by simp only[VR];exact⟨_,rfl,rfl,by rw[g2]⟩);simp only[execOp,ho,z,Sem.run_bind,A];rfl
theorem conv2_sound(G:AR P ρ nt E a)(I:R ρ C w)(hF:fI ρ H.next H'.next){src dst:TypeId}{x:Operand}{A:aG}{io:br}(ho:o.op= .convert src dst x)(L:cG P x=some A)(z:Rz P src dst A=some io)
  (M:∀f o,(∀l,io.reads E=some l→f∈l)→(∃g h,ρ f g=some h)→H.t.get f=some o→C f=some o) (h:io.ev call E H= .ok v H'):eI P o a w (c9 ρ C w H v H'):=by
 unfold Rz at z
 split at z
 ·rename_i e O U
  split at z
  ·rename_i Y;cases z;exact convBS_sound G I ho L O U Y (fun f o Z=>M f o (fun l e=>by cases e;exact Z)) h
  cases z
 cases z
end
end Go.Ev
