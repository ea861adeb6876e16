/- Part 4 of rules for walks through the code of a program, and of such walks; what each part proves is said by its theorems. -/
import Derived.Test.YtijnechfhdlgiaaGreatDoorS3
import Derived.Laws.Tables
import Derived.Laws.MakeOwn
import Derived.Great.FillDense
import Derived.LaidEql
set_option linter.unusedVariables false
set_option linter.unusedSimpArgs false
namespace Go.Ev
section
variable{P:Program}{ρ:Ho}{nt:Nat}{E:Env}{a:Act}{C:Nat→Option dQ}{w:World}{H H':az}{v:an}{o:Oper}
theorem w4{t:TypeId}{z:List an}(A:zeroOf P t=some z):∃i G,P.info? t=some i∧i.zero=some G∧(∀ρ,cF ρ z G.cells.toList)∧z.all hD=true∧z.length=i.size∧0<i.size∧G.cells.size=i.size:=by
 unfold zeroOf at A
 split at A
 ·rename_i i hi
  split at A
  ·rename_i G J
   split at A
   ·rename_i Y K
    split at A
    ·rename_i l U
     split at A
     ·rename_i I
      cases A
      have O:=fun ρ=>(Cs ρ _ _ K).cells (Ko U)
      refine⟨i,G,hi,J,fun ρ=>(O ρ).1,(O (fun _ _=>none)).2,I.1,I.2,?_⟩
      have:=(O (fun _ _=>none)).1.length
      rw[nx] at this
      omega
     cases A
    cases A
   cases A
  cases A
 cases A
theorem size_zeroCells(z:Array Value)(n:Nat):(Builtin.zeroCells z n).size=n*z.size:=by simp[Builtin.zeroCells]
theorem Nf{b:Bool}{k:aE}{n:Nat}(h:aG b (.err n) k= .ok v H'):b=false∧k= .ok v H':=by
 cases b
 ·exact⟨rfl,h⟩
 cases h
theorem Sw(hR:R ρ C w)(hF:iv ρ H.next H'.next){t Y ty e:TypeId}{i:TypeInfo}{z:List an}{Z:Value}{n:Nat}{new:List (List an)}{news:List Value}
  (ht:P.underlying t=some (.slice e)) (hi:P.info? e=some i) (hz:zeroOf P e=some z) (hb:i.bytes≠0) (hn:0<n) (hl:new.length=n) (G:Flat ρ i.size new news) (hs:Src P i.size Y Z n news w)
  (h:vV e i.size i.bytes n new H= .ok v H'):∃cv w',(Builtin.append_ #[t,Y] ty #[.slice none 0 0,Z]).run P w= .ok cv w'∧dW ρ C w H v H' cv w':=by
 replace h:=fO h;obtain⟨A,h⟩:=h
 rw[vE] at h
 have h:=xh h
 cases h
 have A:=bO A
 have A:n*i.bytes≤70368744177664:=A
 obtain⟨i',zv,I,vh,_,_,_,J,y7⟩:=w4 hz
 rw[hi] at I
 cases I
 have hnb:n≤n*i.bytes:=IB _ (by omega)
 have tm:=grownCap_ge w (0+n) 0 e
 have K:=run_append_grow_src (P:=P) w t Y ty e i zv ht hi vh none 0 0 [] (run_firstCells_none w.drew i.size 0 0 0) Z n news hs (by omega) (by omega) (growslice_fits (by omega) (by rw[jx];omega))
 generalize grownCap w (0+n) 0 e=cp at*
 have O:news.length=n*i.size:=by rw[G.len,hl]
 obtain⟨ρ',h1,h2,h3⟩:=hR.alloc (f:=H.next) (elem:=e) (es:=i.size) (aP:=i.bytes) (n:=n) (cs:=jG new .emp 0) (cells:=([]++news).toArray++Builtin.zeroCells zv.cells (cp-(0+n)))
  (w':=w.drew.alloc (.cells (([]++news).toArray++Builtin.zeroCells zv.cells (cp-(0+n))) e))
  (Wr ⟨H.next+1,H.bc,H.ws,H.t.set H.next (.row e i.size i.bytes n n 0 (jG new .emp 0))⟩) (fun g=>hF _ g (bV _) (gh _)) J
  (by rw[Fb,size_zeroCells];simp[O])
  (fun k hk=>by
   rw[tE,aw (by omega)]
   have U:k<new.length:=by omega
   obtain⟨l1,l2⟩:=G.get k _ (eP U)
   refine⟨_,by rw[Fc];exact eP U,l1,fun j x hx=>?_⟩
   obtain⟨k1,cv,k2,k3⟩:=l2 j x hx
   refine⟨k1,cv,?_,k3⟩
   have:=qW k2
   rw[Fe (by simpa using this)]
   simpa using k2) rfl rfl rfl rfl
 refine⟨_,_,K,ρ',?_,h2,?_⟩
 ·simp only[VR]
  refine⟨_,_,_,h1,by rw[jx],by omega,.inl ⟨rfl,?_⟩⟩
  simp only
  rw[Fb,size_zeroCells,y7,jx]
  simp only[E8,List.size_toArray,O]
  rw[←ny]
  exact kZ _ (by omega)
 rw[Cg]
 exact h3
theorem GF{f:Nat}{o z:dQ}(hC:C f=H.t.get f)(_ho:H.t.get f=some o):gC C H ⟨H.next,H.bc,wrote f H.bc H.ws,H.t.set f z⟩=fun x=>if x=f then some z else C x:=by
 funext x
 unfold gC
 simp only
 rw[aj (by omega),GT.eY]
 by_cases h:x=f
 ·subst h
  rw[aw rfl,aw rfl]
  split
  ·rename_i e;rw[hC,←e]
  rfl
 rw[aj h,aj h,aw rfl]
theorem GV(H:az)(f:Nat)(t:HT):Wr ⟨H.next,H.bc,wrote f H.bc H.ws,t⟩ f:=by
 unfold Wr
 simp only[zr]
 by_cases dT:f<H.bc
 ·exact .inl (.inr ⟨trivial,dT⟩)
 exact .inr (by omega)
theorem Sx(hR:R ρ C w){t tx ty e:TypeId}{i:TypeInfo}{z:List an}{yc:Value}{n:Nat}{new:List (List an)}{news:List Value}{f g off A ff:Nat}{xc:Value}
  (ht:P.underlying t=some (.slice e)) (hi:P.info? e=some i) (hz:zeroOf P e=some z) (hb:i.bytes≠0) (hn:0<n) (hl:new.length=n) (vg:Flat ρ i.size new news) (hs:Src P i.size tx yc n news w)
  (hx:VR ρ (.slice f g off A ff) xc) (hC0:∀o,(∃g h,ρ f g=some h)→H.t.get f=some o→C f=some o)
  (h:xH e i.size i.bytes n new H f g off A ff= .ok v H'):∃cv w',(Builtin.append_ #[t,tx] ty #[xc,yc]).run P w= .ok cv w'∧dW ρ C w H v H' cv w':=by
 have h:iY (H.t.get f) (aE.err 33) (fun Y IN mJ m lo fl cs=>
  aG (Nat.beq off 0) (aG (Nat.beq g m) (aG (Nat.ble lo g) (aG (Nat.beq A m) (aG (Nat.beq ff i.size) (aG (Nat.beq IN i.size) (aG (Nat.beq fl 1) (aE.err 32)
   (aG (Nat.ble (Nat.mul (Nat.add m n) i.bytes) 70368744177664) (aG (Nat.beq e Y)
    (dk (Nat.add m n) fun m'=>sG new cs m fun cs=>H.t.gA f (.row Y IN mJ m' lo fl cs) fun t=>
     aE.ok (.slice f m' 0 m' i.size) ⟨H.next,H.bc,wrote f H.bc H.ws,t⟩) (aE.err 32)) (aE.err 32))) (aE.err 32)) (aE.err 32)) (aE.err 32)) (aE.err 32)) (aE.err 32)) (aE.err 32))=aE.ok v H':=by
  cases H;exact h
 obtain⟨Y,IN,mJ,m,lo,fl,cs,hg,h⟩:=Lx h
 replace h:=fO h;obtain⟨a1,h⟩:=h
 replace h:=fO h;obtain⟨a2,h⟩:=h
 replace h:=fO h;obtain⟨a3,h⟩:=h
 replace h:=fO h;obtain⟨a4,h⟩:=h
 replace h:=fO h;obtain⟨a5,h⟩:=h
 replace h:=fO h;obtain⟨a6,h⟩:=h
 replace h:=Nf h;obtain⟨a7,h⟩:=h
 replace h:=fO h;obtain⟨a8,h⟩:=h
 replace h:=fO h;obtain⟨a9,h⟩:=h
 rw[ij,vE,GT.ki] at h
 have a1:=eb a1
 have a2:=eb a2
 have a3:=bO a3
 have a4:=eb a4
 have a5:=eb a5
 have a6:=eb a6
 have a7:fl≠1:=by intro e;subst e;cases a7
 have a8:=bO a8
 have a9:=eb a9
 cases h
 subst a1 a2 a4 a6 a9
 obtain⟨i',zv,vi,vh,_,_,_,Fm,y7⟩:=w4 hz
 rw[hi] at vi
 cases vi
 simp only[VR] at hx
 obtain⟨G,ad,cap,hh,rfl,vf,qR⟩:=hx
 have hC:C f=H.t.get f:=(hC0 _ ⟨_,_,hh⟩ hg).trans hg.symm
 have th:C f=some (.row e i.size mJ A lo fl cs):=hC.trans hg
 rcases qR with⟨rfl,qR⟩|⟨_,_,qR⟩
 case inr=>omega
 rw[a5] at qR
 obtain⟨_,oe,_,O⟩:=hR.obj f _ th A G hh
 have O:=O a3 (bV _)
 obtain⟨c,fz,U,hroom⟩:=O.row
 have Qc:news.length=n*i.size:=by rw[vg.len,hl]
 have hnb:A+n≤(A+n)*i.bytes:=IB _ (by omega)
 have hbd:(A+n)*i.bytes≤70368744177664:=a8
 have hadd:(A+n)*i.size=A*i.size+n*i.size:=ny _ _ _
 by_cases J:A+n≤cap
 ·have WM:(A+n)*i.size≤cap*i.size:=kZ _ J
  have je:∀j,j<news.length→(w.cell? ⟨G.ca,G.off+0+A*i.size+j,none⟩).isSome=true:=by
   intro j hj
   simp only[World.cell?,U]
   rw[wy (by omega)]
   rfl
  have y5:∀j,j<news.length→w.frozen? ⟨G.ca,G.off+0+A*i.size+j,none⟩=false:=by
   intro j hj
   rw[show G.off+0+A*i.size+j=G.off+(A*i.size+j) by omega]
   exact O.yi a7 _ (by omega) (by omega)
  have wE:=run_append_room_src (P:=P) w t tx ty e i ht hi G.ca (G.off+0) A cap yc n news hs J je y5
  obtain⟨s1,s2,s3,s4,s5,s6⟩:=B2 G.ca news (G.off+0+A*i.size) w
  obtain⟨c',Bs,Pm⟩:=s3 c e fz U
  have Pr:∀q,q<A*i.size→(w.setCells G.ca (G.off+0+A*i.size) news).cell? ⟨G.ca,G.off+q,none⟩=w.cell? ⟨G.ca,G.off+q,none⟩:=by
   intro q hq
   exact World.cell?_setCells_out _ _ _ _ _ (fun _ _=>by simp only;omega)
  obtain⟨ρ',k1,k2,k3⟩:=hR.grow (H:=H) (mJ:=mJ) (w':=w.setCells G.ca (G.off+0+A*i.size) news) (h2:=G)
   (Wr ⟨H.next,H.bc,wrote f H.bc H.ws,H.t.set f (.row e i.size mJ (Nat.add A n) lo fl (jG new cs A))⟩) (GV _ _ _) th hh hl hn a3 a7 vg
   (by rw[s1];exact bV _) s4 s5 s6 (fun b _ hb=>s2 b hb) ⟨c,c',e,fz,U,Bs,Pm⟩ Pr (.inl rfl) (by rw[s1];exact hR.kb _ _ _ hh)
   ⟨c',fz,Bs,by omega⟩ (by omega) Pr
   (fun j hj=>by
    rw[show G.off+A*i.size+j=G.off+0+A*i.size+j by omega]
    rw[World.cell?_setCells_in _ _ _ _ je j (by omega),←eP])
   (fun lK=>absurd rfl lK)
  refine⟨_,_,wE,ρ',?_,k2,?_⟩
  ·simp only[VR]
   exact⟨G,_,_,k1,rfl,J,.inl ⟨rfl,by omega⟩⟩
  rw[GF hC hg]
  exact k3
 have J:cap<A+n:=by omega
 have cellAt:∀q,q<A*i.size→∃cv,w.cell? ⟨G.ca,G.off+q,none⟩=some cv∧cv.oneCell'=true:=by
  intro q hq
  have hi1:q/i.size<A:=by rw[Pb Fm];exact hq
  have hj:q % i.size<i.size:=jR _ Fm
  obtain⟨l,l1,l2,l3⟩:=O.cell _ hi1
  obtain⟨k1,cv,k2,k3⟩:=l3 (q % i.size) _ (eP (by rw[l2];exact hj))
  refine⟨cv,?_,Gu k3 k1⟩
  have:q/i.size*i.size+q % i.size=q:=by rw[mY];exact E7 q i.size
  rwa [mX,this] at k2
 obtain⟨I,FR,nH⟩:∃I:List Value,I.length=A*i.size∧∀q,q<A*i.size→I[q]?=w.cell? ⟨G.ca,G.off+q,none⟩:=by
  refine⟨(List.range (A*i.size)).map fun q=>(w.cell? ⟨G.ca,G.off+q,none⟩).getD undef,by simp,fun q hq=>?_⟩
  obtain⟨cv,k1,_⟩:=cellAt q hq
  simp[hq,k1]
 have hold:(Builtin.firstCells i.size A (.slice (some ⟨G.ca,G.off+0,none⟩) A cap)).run P w.drew= .ok I.toArray w.drew:=by
  refine run_firstCells_some w.drew i.size A _ A cap I FR fun j u hu=>?_
  rw[Addr.add_lit,wx]
  show w.cell? _=_
  rw[←nH j (by have:=qW hu;omega)]
  exact hu
 have wE:=run_append_grow_src (P:=P) w t tx ty e i zv ht hi vh (some ⟨G.ca,G.off+0,none⟩) A cap I hold yc n news hs J (by omega) (growslice_fits J (by omega))
 have tm:=grownCap_ge w (A+n) cap e
 generalize grownCap w (A+n) cap e=cp at*
 generalize Ng:(I++news).toArray++Builtin.zeroCells zv.cells (cp-(A+n))=cells at*
 have hcsz:cells.size=cp*i.size:=by
  rw[←Ng,Fb,size_zeroCells,y7]
  simp only[List.size_toArray,bC,FR,Qc]
  rw[←ny,←ny]
  congr 1
  omega
 have FU:∀q,q<(A+n)*i.size→cells[q]?=(I++news)[q]?:=by
  intro q hq
  rw[←Ng,Fe (by simp[FR,Qc];omega)]
  simp
 have K:∀q,(w.drew.alloc (.cells cells e)).cell? ⟨w.heap.size,q,none⟩=cells[q]?:=by
  intro q
  have:(w.drew.alloc (.cells cells e)).heap[w.heap.size]?=some (.cells cells e (0,0)):=by
   show(w.heap.push _)[w.heap.size]?=_
   simp
  simp only[World.cell?,this]
  simp
 have Z:∀b,b<w.heap.size→(w.drew.alloc (.cells cells e)).heap[b]?=w.heap[b]?:=fun b hb=>by
  show(w.heap.push _)[b]?=_
  rw[Ix,aj (by omega)]
 have XC:∀q,(w.drew.alloc (.cells cells e)).frozen? ⟨w.heap.size,q,none⟩=false:=by
  intro q
  have:(w.drew.alloc (.cells cells e)).heap[w.heap.size]?=some (.cells cells e (0,0)):=by
   show(w.heap.push _)[w.heap.size]?=_
   simp
  simp only[World.frozen?,this]
  simp
 have WM:(A+n)*i.size≤cp*i.size:=kZ _ tm
 obtain⟨ρ',k1,k2,k3⟩:=hR.grow (H:=H) (mJ:=mJ) (w':=w.drew.alloc (.cells cells e)) (h2:=⟨w.heap.size,0,cells.size,false,false⟩)
  (Wr ⟨H.next,H.bc,wrote f H.bc H.ws,H.t.set f (.row e i.size mJ (Nat.add A n) lo fl (jG new cs A))⟩) (GV _ _ _) th hh hl hn a3 a7 vg
  (by show w.heap.size≤(w.heap.push _).size;simp) rfl rfl rfl (fun b hb _=>Z b hb) ⟨c,c,e,fz,U,by rw[Z _ (hR.kb _ _ _ hh)];exact U,rfl⟩
  (fun q _=>cell_of_heap (w:=w) (Z _ (hR.kb _ _ _ hh))) (.inr ⟨bV _,rfl⟩) (by show w.heap.size<(w.heap.push _).size;simp)
  ⟨cells,(0,0),by show(w.heap.push _)[w.heap.size]?=_;simp,by simp⟩ (by simp only;omega)
  (fun q hq=>by
   rw[jx,K,FU q (by omega),qI (by omega)]
   exact nH q hq)
  (fun j hj=>by
   rw[jx,K,FU _ (by omega),wv (by omega),FR]
   congr 1
   omega)
  (fun _=>⟨rfl,fun q=>XC q,fun c1 e1 tg je=>by
   have h0:(w.heap.push (Obj.cells cells e))[w.heap.size]?=some (.cells c1 e1 tg):=je
   simp at h0
   rw[←h0.2.2]⟩)
 refine⟨_,_,wE,ρ',?_,k2,?_⟩
 ·simp only[VR]
  exact⟨_,_,_,k1,rfl,by show A+n≤cp;exact tm,.inl ⟨rfl,by simp only;omega⟩⟩
 rw[GF hC hg]
 exact k3
end
section
variable{P:Program}{ρ:Ho}{nt:Nat}{E:Env}{a:Act}{C:Nat→Option dQ}{w:World}{H H':az}{v:an}{o:Oper}
theorem JV{at_:Array TypeId}{t z ty:TypeId}{args:Array Value}(h0:at_[0]?=some t)(A:at_[1]?=some z):Builtin.append_ at_ ty args=Builtin.append_ #[t,z] ty args:=by
 unfold Builtin.append_
 simp[h0,A]
theorem Kq(Y:R ρ C w)(hF:iv ρ H.next H'.next){t Z ty e:TypeId}{i:TypeInfo}{z:List an}{G:an}{O yc:Value}{n:Nat}{new:List (List an)}{news:List Value}
  (ht:P.underlying t=some (.slice e)) (hi:P.info? e=some i) (hz:zeroOf P e=some z) (hb:i.bytes≠0) (hl:new.length=n) (I:Flat ρ i.size new news) (U:Src P i.size Z yc n news w)
  (A:VR ρ G O) (hC:∀f o,f∈iZ (some G)→(∃g h,ρ f g=some h)→H.t.get f=some o→C f=some o)
  (h:jO e i.size i.bytes n new H G= .ok v H'):∃cv w',(Builtin.append_ #[t,Z] ty #[O,yc]).run P w= .ok cv w'∧dW ρ C w H v H' cv w':=by
 cases n with
 |zero=>
  have qQ:news=[]:=by
   have:=I.len
   rw[hl,rJ] at this
   exact tc this
  subst qQ
  have h:gL G (aE.err 31) (aE.ok G H) (fun _ _ _ _ _=>aE.ok G H)=aE.ok v H':=h
  replace h:=wZ h
  have hk:=U.kind
  have fin:∀base l c,O= .slice base l c→l≤c→(Builtin.append_ #[t,Z] ty #[O,yc]).run P w= .ok O w:=by
   intro base l c e J
   subst e
   have h2:=U.cells
   rcases hk with⟨e',hk⟩|hk<;>cases base<;>simp[Builtin.append_,run_underlying ht,run_underlying hk,sizeOf,typeInfo,hi,U.len,J,h2,storeCells]
  rcases h with⟨rfl,h⟩|⟨f,g,o1,l,es,rfl,h⟩
  ·cases h
   have K:=A
   simp only[VR] at A
   exact⟨O,w,fin _ _ _ A (bV _),dW.pure Y K⟩
  cases h
  have K:=A
  simp only[VR] at A
  obtain⟨hm,ad,cap,hh,rfl,J,qR⟩:=A
  exact⟨_,w,fin _ _ _ rfl J,dW.pure Y K⟩
 |succ n=>
  have h:gL G (aE.err 34) (vV e i.size i.bytes (n+1) new H) (xH e i.size i.bytes (n+1) new H)=aE.ok v H':=h
  replace h:=wZ h
  rcases h with⟨rfl,h⟩|⟨f,g,o1,l,es,rfl,h⟩
  ·simp only[VR] at A
   subst A
   exact Sw Y hF ht hi hz hb (ID _) hl I U h
  exact Sx Y ht hi hz hb (ID _) hl I U A (fun o=>hC f o (by simp[iZ])) h
theorem Sy(hA:AR P ρ nt E a)(hR:R ρ C w)(hF:iv ρ H.next H'.next){c:Call}{x y:Operand}{x' y':aF}{t u e e2:TypeId}{i:TypeInfo}{z:List an}
  (ho:o.op= .call c) (hc:c.callee= .builtin .append) (K:c.args=#[x,y]) (hx:dm P x=some x') (hy:dm P y=some y') (h0:c.argTypes[0]?=some t) (h1:c.argTypes[1]?=some u)
  (ht:P.underlying t=some (.slice e)) (I:P.underlying u=some (.slice e2)) (hi:P.info? e=some i) (hz:zeroOf P e=some z) (hb:i.bytes≠0)
  (hC:∀f o,f∈iZ (x'.ev E)++iZ (y'.ev E)→(∃g h,ρ f g=some h)→H.t.get f=some o→C f=some o)
  (h:A7 e i.size i.bytes x' y' E H= .ok v H'):fq P o a w (dW ρ C w H v H'):=by
 replace h:=fu h;obtain⟨xa,U,h⟩:=h
 replace h:=fu h;obtain⟨ya,Y,h⟩:=h
 have Je:=hA.b8 hx U
 have A:=hA.b8 hy Y
 obtain⟨i',zv,Z,vh,_,_,_,Fm,y7⟩:=w4 hz
 rw[hi] at Z
 cases Z
 have hCx:∀f o,f∈iZ (some xa)→(∃g h,ρ f g=some h)→H.t.get f=some o→C f=some o:=fun f o hf=>hC f o (by rw[U];exact Pc _ hf)
 have done:∀{n:Nat}{new:List (List an)}{news:List Value},new.length=n→Flat ρ i.size new news→Src P i.size u (a.eval y) n news w→jO e i.size i.bytes n new H xa= .ok v H'→fq P o a w (dW ρ C w H v H'):=by
  intro n new news hl G hs h
  obtain⟨cv,w',wE,hp⟩:=Kq hR hF (ty:=o.type) ht hi hz hb hl G hs Je hCx h
  refine .inl ⟨cv,w',?_,hp⟩
  simp[execOp,ho,resolve,hc,K,invoke,builtin,JV h0 h1,wE]
 replace h:=wZ h
 rcases h with⟨rfl,h⟩|⟨f,g,o1,l,es,rfl,h⟩
 ·simp only[VR] at A
  refine done (new:=[]) (news:=[]) rfl ⟨by simp,(fun _ I=>by cases I),(fun i x hx=>by simp at hx)⟩ ?_ h
  rw[A]
  exact Src.ofNil w I 0
 replace h:=ju h;obtain⟨new,wD,h⟩:=h
 simp only[VR] at A
 obtain⟨hm,ad,cap,hh,A,vf,O⟩:=A
 obtain⟨hlen,news,G,J⟩:=Flat.Te hR wD (fun o=>hC f o (by rw[Y];exact IE _ (by simp[iZ])) ⟨_,_,hh⟩) hh Fm
 rcases O with⟨rfl,O⟩|⟨od,hc0,O⟩
 ·refine done hlen G ?_ h
  rw[A]
  refine Src.ofSlice w I _ l cap news (by rw[G.len,hlen]) (fun j u I=>?_) G.one
  rw[Addr.add_lit]
  exact J j u I
 subst od
 have qQ:news=[]:=by
  have:=G.len
  rw[hlen,rJ] at this
  exact tc this
 subst qQ
 refine done hlen G ?_ h
 rw[A]
 exact Src.ofSlice w I _ 0 cap [] (by simp) (fun j u I=>by simp at I) (fun _ I=>by cases I)
theorem Gv:∀(l:List UInt8)(i:Nat)(x:List an),(mC l.length (pack l))[i]?=some x→∃b,l[i]?=some b∧x=[.int .u8 b.toNat]
 |[],i,x,h=>by
  have h:([]:List (List an))[i]?=some x:=h
  simp at h
 |b::r,i,x,h=>by
  have step:mC (b::r).length (pack (b::r))=[an.int .u8 (Int.ofNat (Nat.mod (pack (b::r)) 256))]::mC r.length (Nat.div (pack (b::r)) 256):=rfl
  have G:b.toNat<256:=b.toNat_lt
  have e1:Nat.mod (pack (b::r)) 256=b.toNat:=by show(b.toNat+256*pack r) % 256=_;omega
  have e2:Nat.div (pack (b::r)) 256=pack r:=by show(b.toNat+256*pack r)/256=_;omega
  rw[step,e1,e2] at h
  cases i with
  |zero=>simp at h;exact⟨b,rfl,h.symm⟩
  |succ i=>obtain⟨z,A,h2⟩:=Gv r i x (by simpa using h);exact⟨z,by simpa using A,h2⟩
theorem zj:∀(l v:Nat),(mC l v).length=l
 |0,_=>rfl
 |l+1,v=>by
  have step:mC (l+1) v=[an.int .u8 (Int.ofNat (Nat.mod v 256))]::mC l (Nat.div v 256):=rfl
  rw[step,cP,zj]
theorem Flat.bytes(s:ByteArray):Flat ρ 1 (mC s.size (pack s.data.toList)) (byteCells s):=by
 have z:s.size=s.data.toList.length:=by rw[nx];rfl
 refine⟨by rw[byteCells_length,zj,IF],fun u J=>?_,fun i x G=>?_⟩
 ·obtain⟨_,_,rfl⟩:=List.mem_map.1 J
  rfl
 rw[z] at G
 obtain⟨b,K,rfl⟩:=Gv _ _ _ G
 refine⟨rfl,fun j y A=>?_⟩
 have I:=qW A
 simp at I
 subst I
 simp at A
 subst A
 refine⟨rfl,.int .u8 b.toNat,?_,by simp only[VR]⟩
 rw[IF,wx]
 simp only[byteCells,im,K,sO]
theorem Rb(hA:AR P ρ nt E a)(hR:R ρ C w)(hF:iv ρ H.next H'.next){c:Call}{x y:Operand}{Y y':aF}{t u e:TypeId}{i:TypeInfo}{z:List an}
  (ho:o.op= .call c) (hc:c.callee= .builtin .append) (I:c.args=#[x,y]) (hx:dm P x=some Y) (hy:dm P y=some y') (h0:c.argTypes[0]?=some t) (h1:c.argTypes[1]?=some u)
  (ht:P.underlying t=some (.slice e)) (hu:P.underlying u=some .string) (hi:P.info? e=some i) (hz:zeroOf P e=some z) (J:i.size=1) (Z:i.bytes=1)
  (hC:∀f o,f∈iZ (Y.ev E)→(∃g h,ρ f g=some h)→H.t.get f=some o→C f=some o)
  (h:zJ e Y y' E H= .ok v H'):fq P o a w (dW ρ C w H v H'):=by
 replace h:=fu h;obtain⟨xa,K,h⟩:=h
 replace h:=fu h;obtain⟨ya,hya,h⟩:=h
 replace h:=xg h;obtain⟨l,s,rfl,h⟩:=h
 have Je:=hA.b8 hx K
 have A:=hA.b8 hy hya
 simp only[VR] at A
 obtain⟨b,A,rfl,rfl⟩:=A
 have O:=Flat.bytes (ρ:=ρ) b
 have G:=Src.ofString (P:=P) w hu b
 rw[←J] at O G
 have h:jO e i.size i.bytes b.size (mC b.size (pack b.data.toList)) H xa= .ok v H':=by rw[J,Z];exact h
 obtain⟨cv,w',U,hp⟩:=Kq hR hF (ty:=o.type) ht hi hz (by omega) (zj _ _) O G Je (fun f o hf=>hC f o (by rw[K];exact hf)) h
 refine .inl ⟨cv,w',?_,hp⟩
 simp[execOp,ho,resolve,hc,I,invoke,builtin,JV h0 h1,A,U]
end
def bG.dG:bG→List aF
 |.oc x=>[x]
 |.pick c a b=>[c,a,b]
 |.cm _ _ _ _=>[]
 |.box _ _ _ x=>[x]
 |.load _ _ a=>[a]
 |.store _ a x=>[a,x]
 |.bin _ x y=>[x,y]
 |.eqv _ _ x y=>[x,y]
 |.un _ x=>[x]
 |.n5 x _=>[x]
 |.sub x _ _ _=>[x]
 |.iW _ _ x i=>[x,i]
 |.dV _ x i=>[x,i]
 |.z6 _ _ _ x i=>[x,i]
 |.sv x i=>[x,i]
 |.ji x lo hi=>x::(lo.toList++hi.toList)
 |.pg _ x lo hi=>x::(lo.toList++hi.toList)
 |.wg _ _ x lo hi=>x::(lo.toList++hi.toList)
 |.rL x _=>[x]
 |.o8 x=>[x]
 |.n6 _ z l=>z++l
 |.uY _ x=>[x]
 |.yC _ _ _ _ x y=>[x,y]
 |.build _ ps=>ps.map (·.2.2)
 |.cK _ _ _ _ _ ps=>ps.map (·.2)
 |.len x=>[x]
 |.A1 _=>[]
 |.ph x=>[x]
 |.app _ _ _ x y=>[x,y]
 |.re _ x y=>[x,y]
 |.copy _ x y=>[x,y]
 |.z7 _ x ys=>x::ys
 |.conv _ x=>[x]
 |.C9 x=>[x]
 |.xF _ x=>[x]
 |.qv x=>[x]
 |.call _ l=>l
 |.mU x l=>x::l
 |.qC _ _ x=>[x]
 |.ve x=>[x]
 |.qJ _ x n=>[x,n]
theorem dj(x:aF)(E:Env)(e:aE)(k:an→aE):bB x E e k=ob (x.ev E) e k:=by cases x<;>rfl
section
variable{E E':Env}
theorem w5:∀(l:List aF),(∀x∈l,x.ev E=x.ev E')→jS E l=jS E' l
 |[],_=>rfl
 |x::r,h=>by
  have z:=h x (by simp)
  have h2:=w5 r (fun y A=>h y (by simp[A]))
  show ob (x.ev E) none (fun v=>ob (jS E r) none fun vs=>some (v::vs))=ob (x.ev E') none (fun v=>ob (jS E' r) none fun vs=>some (v::vs))
  rw[z,h2]
theorem w6{x:Option aF}{d y:Nat}{e:aE}{k:Nat→aE}(h:∀z∈x.toList,z.ev E=z.ev E'):gi E x d y e k=gi E' x d y e k:=by
 cases x with
 |none=>rfl
 |some z=>
  have A:=h z (by simp)
  show ob (z.ev E) e _=ob (z.ev E') e _
  rw[A]
theorem JW:∀(ps:List (Nat×Nat×aF))(cells:List an),(∀x∈ps.map (·.2.2),x.ev E=x.ev E')→pR E ps cells=pR E' ps cells
 |[],_,_=>rfl
 |p::r,cells,h=>by
  have z:=h p.2.2 (by simp)
  have h2:=fun cells=>JW r cells (fun y A=>h y (by simp only[eF,p'];exact .inr A))
  show ob (p.2.2.ev E) none _=ob (p.2.2.ev E') none _
  rw[z]
  congr 1
  funext v
  congr 1
  funext new
  congr 1
  exact h2 _
theorem JS(es z:Nat):∀(ps:List (Nat×aF))(t:RT),(∀x∈ps.map (·.2),x.ev E=x.ev E')→qs E es z ps t=qs E' es z ps t
 |[],_,_=>rfl
 |p::r,t,h=>by
  have A:=h p.2 (by simp)
  have h2:=fun t=>JS es z r t (fun y G=>h y (by simp only[eF,p'];exact .inr G))
  show ob (p.2.ev E) none _=ob (p.2.ev E') none _
  rw[A]
  congr 1
  funext v
  congr 1
  funext new
  congr 1
  congr 1
  exact h2 _
theorem bG.Tf{call:eI}{H:az}(io:bG)(h:∀x∈io.dG,x.ev E=x.ev E'):io.ev call E H=io.ev call E' H:=by
 cases io with
 |oc x=>have A:=h x (by simp[bG.dG]);show mm x E H=mm x E' H;simp only[mm,dj,A]
 |pick c x y=>
  have A:=h c (by simp[bG.dG]);have h2:=h x (by simp[bG.dG]);have I:=h y (by simp[bG.dG])
  show Au c x y E H=Au c x y E' H;simp only[Au,mm,dj,A,h2,I]
 |cm a b c d=>rfl
 |box a b c x=>have A:=h x (by simp[bG.dG]);show A3 a b c x E H=A3 a b c x E' H;simp only[A3,wi,dj,A]
 |load a b x=>have A:=h x (by simp[bG.dG]);show Av a b x E H=Av a b x E' H;simp only[Av,dj,A]
 |store a x y=>have A:=h x (by simp[bG.dG]);have h2:=h y (by simp[bG.dG]);show Aa a x y E H=Aa a x y E' H;simp only[Aa,dj,A,h2]
 |bin a x y=>have A:=h x (by simp[bG.dG]);have h2:=h y (by simp[bG.dG]);show A4 a x y E H=A4 a x y E' H;simp only[A4,dj,A,h2]
 |eqv a b x y=>have A:=h x (by simp[bG.dG]);have h2:=h y (by simp[bG.dG]);show yX a b x y E H=yX a b x y E' H;simp only[yX,dj,A,h2]
 |un a x=>have A:=h x (by simp[bG.dG]);show Bp a x E H=Bp a x E' H;simp only[Bp,dj,A]
 |n5 x a=>have A:=h x (by simp[bG.dG]);show Aw x a E H=Aw x a E' H;simp only[Aw,dj,A]
 |sub x a b c=>have A:=h x (by simp[bG.dG]);show A5 x a b c E H=A5 x a b c E' H;simp only[A5,dj,A]
 |iW a b x y=>have A:=h x (by simp[bG.dG]);have h2:=h y (by simp[bG.dG]);show zG a b x y E H=zG a b x y E' H;simp only[zG,dj,A,h2]
 |dV a x y=>have A:=h x (by simp[bG.dG]);have h2:=h y (by simp[bG.dG]);show Ab a x y E H=Ab a x y E' H;simp only[Ab,dj,A,h2]
 |z6 a b c x y=>have A:=h x (by simp[bG.dG]);have h2:=h y (by simp[bG.dG]);show zH a b c x y E H=zH a b c x y E' H;simp only[zH,dj,A,h2]
 |sv x y=>have A:=h x (by simp[bG.dG]);have h2:=h y (by simp[bG.dG]);show zI x y E H=zI x y E' H;simp only[zI,dj,A,h2]
 |ji x lo hi=>
  have A:=h x (by simp[bG.dG])
  have h2:∀z∈lo.toList,z.ev E=z.ev E':=fun z G=>h z (by simp only[bG.dG,p',sP];exact .inr (.inl G))
  have I:∀z∈hi.toList,z.ev E=z.ev E':=fun z G=>h z (by simp only[bG.dG,p',sP];exact .inr (.inr G))
  show Ac x lo hi E H=Ac x lo hi E' H
  simp only[Ac,dj,A,w6 h2,w6 I]
 |pg n x lo hi=>
  have A:=h x (by simp[bG.dG])
  have h2:∀z∈lo.toList,z.ev E=z.ev E':=fun z G=>h z (by simp only[bG.dG,p',sP];exact .inr (.inl G))
  have I:∀z∈hi.toList,z.ev E=z.ev E':=fun z G=>h z (by simp only[bG.dG,p',sP];exact .inr (.inr G))
  show Ax n x lo hi E H=Ax n x lo hi E' H
  simp only[Ax,dj,A,w6 h2,w6 I]
 |wg k n x lo hi=>
  have A:=h x (by simp[bG.dG])
  have h2:∀z∈lo.toList,z.ev E=z.ev E':=fun z G=>h z (by simp only[bG.dG,p',sP];exact .inr (.inl G))
  have I:∀z∈hi.toList,z.ev E=z.ev E':=fun z G=>h z (by simp only[bG.dG,p',sP];exact .inr (.inr G))
  show Da k n x lo hi E H=Da k n x lo hi E' H
  simp only[Da,dj,A,w6 h2,w6 I]
 |rL x a=>have A:=h x (by simp[bG.dG]);show Ay x a E H=Ay x a E' H;simp only[Ay,dj,A]
 |o8 x=>have A:=h x (by simp[bG.dG]);show Ad x E H=Ad x E' H;simp only[Ad,dj,A]
 |n6 f J l=>
  have A:=w5 J (fun z G=>h z (by simp only[bG.dG,sP];exact .inl G));have h2:=w5 l (fun z G=>h z (by simp only[bG.dG,sP];exact .inr G))
  show Az f J l E H=Az f J l E' H;simp only[Az,A,h2]
 |uY t x=>have A:=h x (by simp[bG.dG]);show AA t x E H=AA t x E' H;simp only[AA,dj,A]
 |yC a b c d x y=>have A:=h x (by simp[bG.dG]);have h2:=h y (by simp[bG.dG]);show AB a b c d x y E H=AB a b c d x y E' H;simp only[AB,dj,A,h2]
 |build z ps=>have A:=JW ps z h;show Db z ps E H=Db z ps E' H;simp only[Db,A]
 |cK a b c d z ps=>have A:=JS b d ps (p0 z d) h;show Cr a b c d z ps E H=Cr a b c d z ps E' H;simp only[Cr,A]
 |len x=>have A:=h x (by simp[bG.dG]);show A6 x E H=A6 x E' H;simp only[A6,dj,A]
 |A1 n=>rfl
 |ph x=>have A:=h x (by simp[bG.dG]);show AD x E H=AD x E' H;simp only[AD,dj,A]
 |app a b c x y=>have A:=h x (by simp[bG.dG]);have h2:=h y (by simp[bG.dG]);show A7 a b c x y E H=A7 a b c x y E' H;simp only[A7,dj,A,h2]
 |re a x y=>have A:=h x (by simp[bG.dG]);have h2:=h y (by simp[bG.dG]);show zJ a x y E H=zJ a x y E' H;simp only[zJ,dj,A,h2]
 |copy a x y=>rfl
 |z7 m x ys=>
  have A:=h x (by simp[bG.dG]);have h2:=w5 ys (fun z G=>h z (by simp only[bG.dG,p'];exact .inr G))
  show zK m x ys E H=zK m x ys E' H;simp only[zK,dj,A,h2]
 |conv k x=>have A:=h x (by simp[bG.dG]);show AE k x E H=AE k x E' H;simp only[AE,dj,A]
 |C9 x=>have A:=h x (by simp[bG.dG]);show mm x E H=mm x E' H;simp only[mm,dj,A]
 |xF e x=>have A:=h x (by simp[bG.dG]);show zL e x E H=zL e x E' H;simp only[zL,dj,A]
 |qv x=>have A:=h x (by simp[bG.dG]);show zM x E H=zM x E' H;simp only[zM,dj,A]
 |call f l=>have A:=w5 l h;show AF f l call E H=AF f l call E' H;simp only[AF,A]
 |mU x l=>
  have A:=h x (by simp[bG.dG]);have h2:=w5 l (fun z G=>h z (by simp only[bG.dG,p'];exact .inr G))
  show Af x l call E H=Af x l call E' H;simp only[Af,dj,A,h2]
 |qC t n x=>have A:=h x (by simp[bG.dG]);show Ae t n x E H=Ae t n x E' H;simp only[Ae,dj,A]
 |ve x=>have A:=h x (by simp[bG.dG]);show A8 x E H=A8 x E' H;simp only[A8,dj,A]
 |qJ e x n=>have A:=h x (by simp[bG.dG]);have h2:=h n (by simp[bG.dG]);show wk e x n E H=wk e x n E' H;simp only[wk,dj,A,h2]
theorem bG.Ro(io:bG)(h:∀x∈io.dG,x.ev E=x.ev E'):io.reads E=io.reads E':=by
 cases io with
 |load a b x=>have z:=h x (by simp[bG.dG]);simp only[bG.reads,z]
 |app a b c x y=>have z:=h x (by simp[bG.dG]);have h2:=h y (by simp[bG.dG]);simp only[bG.reads,z,h2]
 |re a x y=>have z:=h x (by simp[bG.dG]);simp only[bG.reads,z]
 |qv x=>have z:=h x (by simp[bG.dG]);simp only[bG.reads,z]
 |store a x y=>have z:=h x (by simp[bG.dG]);simp only[bG.reads,z]
 |qC t n x=>have z:=h x (by simp[bG.dG]);simp only[bG.reads,z]
 |qJ t x n=>have z:=h x (by simp[bG.dG]);simp only[bG.reads,z]
 |wg a b x lo hi=>have z:=h x (by simp[bG.dG]);simp only[bG.reads,z]
 |_=>rfl
end
def kj(ρ:Ho)(C:Nat→Option dQ)(H:az):Prop:=∀f o,(∃g h,ρ f g=some h)→H.t.get f=some o→C f=some o
structure kA(P:Program)(call:eI):Prop where
 mK:∀f args H,H.bc≤H.next→TM H (call f args H)
 sound:∀f args H v H' ρ C w(b9:Array Value),call f args H= .ok v H'→H.bc≤H.next→(∀x,H.next≤x→H.t.get x=none)→R ρ C w→kj ρ C H→iv ρ H.next H'.next→uJ P ρ→cF ρ args b9.toList→
  ((callFunc f b9).run P w= .ok (.enter f b9) w∧Calls P f b9 w fun e w'=>∃cv,e= .returned cv∧dW ρ C w H v H' cv w')∨
  ∃cv w',(callFunc f b9).run P w= .ok (.value cv) w'∧dW ρ C w H v H' cv w'
section
variable{P:Program}{ρ:Ho}{nt:Nat}{E:Env}{a:Act}{C:Nat→Option dQ}{w:World}{H H':az}{v:an}{o:Oper}{call:eI}
theorem RX(J:AR P ρ nt E a)(K:R ρ C w)(O:iv ρ H.next H'.next)(U:kj ρ C H)(Y:H.bc≤H.next)(G:∀x,H.next≤x→H.t.get x=none)(Z:kA P call){c:Call}{f:Nat}{args:List aF}
  (ho:o.op= .call c) (A:c.callee= .value (.func f)) (hx:lp P c.args.toList=some args) (h:AF f args call E H= .ok v H'):fq P o a w (dW ρ C w H v H'):=by
 replace h:=ju h;obtain⟨vs,hv,h⟩:=h
 have h1:=J.dG hx hv
 rcases Z.sound f vs H v H' ρ C w (c.args.map a.eval) h Y G K U O J.rM (by simpa using h1) with⟨hp,I⟩|⟨cv,w',hp,z⟩
 ·refine .inr (.inr ⟨f,c.args.map a.eval,?_,I⟩)
  simp[execOp,ho,resolve,A,Deferred.ofValue,Act.eval,invoke,hp]
 refine .inl ⟨cv,w',?_,z⟩
 simp[execOp,ho,resolve,A,Deferred.ofValue,Act.eval,invoke,hp]
theorem Rp(G:AR P ρ nt E a)(Z:R ρ C w)(hF:iv ρ H.next H'.next)(hK:kj ρ C H)(hm:H.bc≤H.next)(I:∀x,H.next≤x→H.t.get x=none)(hc:kA P call){c:Call}{x:Operand}{O:aF}{args:List aF}
  (ho:o.op= .call c) (A:c.callee= .value x) (J:dm P x=some O) (hx:lp P c.args.toList=some args) (h:Af O args call E H= .ok v H'):fq P o a w (dW ρ C w H v H'):=by
 replace h:=fu h;obtain⟨u,hu,h⟩:=h
 replace h:=Sp h;obtain⟨f,fs,eJ,rfl,h⟩:=h
 replace h:=ju h;obtain⟨vs,hv,h⟩:=h
 have h1:=G.dG hx hv
 have h2:=G.b8 J hu
 simp only[VR] at h2
 obtain⟨U,Y,h2,h4,h3⟩:=h2
 rcases hc.sound f (fs++(vs++eJ)) H v H' ρ C w (U++c.args.map a.eval++Y) h hm I Z hK hF G.rM (by simpa using cF.append h4 (cF.append h1 h3)) with⟨hp,K⟩|⟨cv,w',hp,z⟩
 ·refine .inr (.inr ⟨f,U++c.args.map a.eval++Y,?_,K⟩)
  rw[Array.append_assoc] at hp⊢
  simp[execOp,ho,resolve,A,Deferred.ofValue,h2,invoke,hp]
 refine .inl ⟨cv,w',?_,z⟩
 rw[Array.append_assoc] at hp
 simp[execOp,ho,resolve,A,Deferred.ofValue,h2,invoke,hp]
end
section
variable{P:Program}{ρ:Ho}{nt:Nat}{E:Env}{a:Act}{C:Nat→Option dQ}{w:World}{H H':az}{v:an}{o:Oper}{call:eI}
def vH(cells:Array Value)(off:Nat)(v:Array Value):Array Value:=v.zipIdx.foldl (fun cs(c,j)=>cs.setIfInBounds (off+j) c) cells
theorem JT(cells:Array Value)(off:Nat)(v:Array Value):(vH cells off v).size=cells.size:=by
 unfold vH
 rw[←Array.foldl_toList,Pd]
 exact(Great.foldl_set off v.toList 0 cells).1
theorem Ge(cells:Array Value)(off:Nat)(v:Array Value)(k:Nat):(vH cells off v)[k]?=if off≤k∧k<off+v.size∧k<cells.size then v[k-off]?else cells[k]?:=by
 unfold vH
 rw[←Array.foldl_toList,Pd]
 rw[(Great.foldl_set off v.toList 0 cells).2 k]
 simp
theorem KM{place:Nat→Option (Nat×Nat)}{cells:Array Value}{i off size:Nat}{v:Value}{rest:List (Nat×Value)}(hp:place i=some (off,size))(z:v.cells.size=size)(A:off+size≤cells.size):
  Instr.fill place cells ((i,v)::rest)=Instr.fill place (vH cells off v.cells) rest:=by
 rw[Instr.fill]
 simp only[hp,z]
 rw[aj (by simp;omega)]
 rfl
theorem Sz{z new:List an}{off:Nat}(G:z.all hD=true)(I:new.all hD=true):(g7 z off new).all hD=true:=by
 unfold g7
 simp only[E4,sP] at*
 rintro x(A|A|A)
 ·exact G x (AZ A)
 ·exact I x A
 exact G x (E5 A)
theorem Mj(hA:AR P ρ nt E a){place:Nat→Option (Nat×Nat)}:∀{ps:List (Nat×Operand)}{J:List (Nat×Nat×aF)}(_:xJ P place ps=some J)(z:List an)(cells:Array Value)(G:List an),
  (∀p∈J,p.1+p.2.1≤z.length)→cF ρ z cells.toList→z.all hD=true→pR E J z=some G→∃A,Instr.fill place cells (ps.map fun p=>(p.1,a.eval p.2))=some A∧cF ρ G A.toList∧G.all hD=true
 |[],J,hp,z,cells,G,_,Z,hk,h=>by
  cases hp
  cases h
  exact⟨cells,rfl,Z,hk⟩
 |(i,x)::r,J,hp,z,cells,G,hle,Z,hk,h=>by
  unfold xJ at hp
  split at hp
  ·rename_i q y l hq hy hl
   cases hp
   have h:ob (y.ev E) none (fun v=>ob (jW v) none fun new=>aG (Nat.beq (jn new) q.2) (pR E l (g7 z q.1 new)) none)=some G:=h
   cases hu:y.ev E with
   |none=>rw[hu] at h;cases h
   |some u=>
    rw[hu] at h
    cases hc:jW u with
    |none=>simp only[ob] at h;rw[hc] at h;cases h
    |some new=>
     have h:ob (jW u) none (fun new=>aG (Nat.beq (jn new) q.2) (pR E l (g7 z q.1 new)) none)=some G:=h
     rw[hc] at h
     have h:aG (Nat.beq (jn new) q.2) (pR E l (g7 z q.1 new)) none=some G:=h
     cases K:Nat.beq (jn new) q.2
     ·rw[K] at h;cases h
     rw[K,f6] at h
     have K:=eb K
     rw[oO] at K
     have h1:=(hA.b8 hy hu).cells hc
     have O:(a.eval x).cells.size=new.length:=by have:=h1.1.length;simpa using this
     have U:cells.size=z.length:=by have:=Z.length;simpa using this
     have I:=hle (q.1,q.2,y) (kG ..)
     have I:q.1+q.2≤z.length:=I
     have Y:=JR (l:=z) (new:=new) (r:=q.1) (n:=q.2) I K
     obtain⟨A,k1,k2,k3⟩:=Mj hA hl (g7 z q.1 new) (vH cells q.1 (a.eval x).cells) G (fun p hp=>by rw[Y];exact hle p (nZ _ hp)) (cF.rf (by simp[JT,Y,U]) fun k av hk=>by
       rw[Kp I K] at hk
       simp only[Pe,Ge,O]
       split at hk
       ·rename_i rR
        rw[aw (by omega)]
        obtain⟨cv,g1,g2⟩:=h1.1.get _ av hk
        exact⟨cv,by simpa using g1,g2⟩
       rename_i rR
       rw[aj (by omega)]
       obtain⟨cv,g1,g2⟩:=Z.get _ av hk
       exact⟨cv,by simpa using g1,g2⟩) (Sz hk h1.2) h
     refine⟨A,?_,k2,k3⟩
     rw[eF,KM (off:=q.1) (size:=q.2) hq (O.trans K) (by rw[U];exact I)]
     exact k1
  cases hp
theorem J8(O:AR P ρ nt E a)(U:R ρ C w){t:TypeId}{parts:Array (Nat×Operand)}{place:Nat→Option (Nat×Nat)}{z:List an}{cells:Array Value}{io:bG}(ho:o.op= .build t parts)
  (Y:cF ρ z cells.toList) (hk:z.all hD=true) (Z:∀vs,Instr.fill place cells vs=P.built t vs) (G:CH z (xJ P place parts.toList)=some io) (h:io.ev call E H= .ok v H'):fq P o a w (dW ρ C w H v H'):=by
 unfold CH at G
 split at G
 ·rename_i l hl
  split at G
  ·rename_i I
   cases G
   have h:ob (pR E l z) (.err 23) (fun cs=>aE.ok (.agg cs) H)= .ok v H':=h
   replace h:=ju h
   obtain⟨K,J,h⟩:=h
   cases h
   obtain⟨A,k1,k2,k3⟩:=Mj O hl z cells K (fun p hp=>by
    have:=List.all_eq_true.1 I p hp
    simpa using this) Y hk J
   refine gJ (cv:=.agg A) ?_ U (by simp only[VR];exact⟨A,rfl,k2,k3⟩)
   have:=run_build (P:=P) w t (parts.map fun(i,x)=>(i,a.eval x)) A (by rw[←Z,←k1];simp)
   simp[execOp,ho,this]
  cases G
 cases G
theorem Rq(O:AR P ρ nt E a)(U:R ρ C w){t:TypeId}{parts:Array (Nat×Operand)}{io:bG}(ho:o.op= .build t parts)(A:Ha P t parts.toList=some io)(h:io.ev call E H= .ok v H'):fq P o a w (dW ρ C w H v H'):=by
 unfold Ha at A
 split at A
 ·rename_i z Z
  obtain⟨i,zv,hi,G,Y,hk,_,_,_⟩:=w4 Z
  split at A
  ·rename_i fs J
   split at A
   ·rename_i I hp
    exact J8 O U ho (Y ρ) hk (fun vs=>by simp[Program.built,hi,J,G,hp]) A h
   cases A
  ·rename_i n e J
   split at A
   ·rename_i ie K
    exact J8 O U ho (Y ρ) hk (fun vs=>by simp[Program.built,hi,J,G,K]) A h
   cases A
  cases A
 cases A
def Fl(ρ:Ho)(n es:Nat)(t:RT)(cells:Array Value):Prop:=
 ∀i,i<n→∃l,t.get i=some l∧l.length=es∧∀j x,l[j]?=some x→hD x=true∧∃cv,cells[i*es+j]?=some cv∧VR ρ x cv
theorem GG(x:List an)(i:Nat):∀n,(p0 x n).get i=if i<n then some x else none
 |0=>rfl
 |n+1=>by
  show((p0 x n).set n x).get i=_
  rw[RT.eY,GG x i n]
  by_cases h:i=n
  ·rw[aw h,aw (by omega)]
  rw[aj h]
  by_cases h2:i<n
  ·rw[aw h2,aw (by omega)]
  rw[aj h2,aj (by omega)]
theorem QZ{z:Array Value}{es i j N:Nat}(A:z.size=es)(G:j<es)(hN:i*es+j<N):(madeCells z N)[i*es+j]?=z[j]?:=by
 unfold madeCells
 rw[Array.getElem?_map,Array.getElem?_range,aw hN]
 have e:(i*es+j) % z.size=j:=by rw[A,Nat.add_comm,Nat.add_mul_mod_self_right,AU G]
 simp only[sO,e]
 rw[getElem!_pos z j (by omega),wy (by omega)]
theorem Mk{z:List an}{A:Array Value}{es n N:Nat}(K:cF ρ z A.toList)(hk:z.all hD=true)(G:z.length=es)(hN:n*es≤N):Fl ρ n es (p0 z n) (madeCells A N):=by
 intro i hi
 refine⟨z,by rw[GG,aw hi],G,fun j x I=>⟨List.all_eq_true.1 hk x (kY I),?_⟩⟩
 obtain⟨cv,O,h2⟩:=K.get j x I
 have U:j<es:=by rw[←G];exact(List.getElem?_eq_some_iff.1 I).1
 have J:A.size=es:=by have:=K.length;rw[←G];simpa using this
 have dT:i*es+es≤n*es:=by have:=kZ es (show i+1≤n by omega);rwa [Ff] at this
 exact⟨cv,by rw[QZ J U (by omega)];simpa using O,h2⟩
theorem KN(hA:AR P ρ nt E a){es A:Nat}:∀{ps:List (Nat×Operand)}{I:List (Nat×aF)}(_:CG P ps=some I)(t t':RT)(cells:Array Value),cells.size=A*es→Fl ρ A es t cells→qs E es A I t=some t'→
  ∃z,Instr.fill (fun i=>some (i*es,es)) cells (ps.map fun p=>(p.1,a.eval p.2))=some z∧z.size=A*es∧Fl ρ A es t' z
 |[],I,hp,t,t',cells,U,hf,h=>by
  cases hp
  cases h
  exact⟨cells,rfl,U,hf⟩
 |(i,x)::r,I,hp,t,t',cells,U,hf,h=>by
  unfold CG at hp
  split at hp
  ·rename_i y l hy hl
   cases hp
   have h:ob (y.ev E) none (fun v=>ob (jW v) none fun new=>aG (Nat.beq (jn new) es) (aG (Nat.ble (Nat.succ i) A) (qs E es A l (t.set i new)) none) none)=some t':=h
   cases hu:y.ev E with
   |none=>rw[hu] at h;cases h
   |some u=>
    rw[hu] at h
    have h:ob (jW u) none (fun new=>aG (Nat.beq (jn new) es) (aG (Nat.ble (Nat.succ i) A) (qs E es A l (t.set i new)) none) none)=some t':=h
    cases hc:jW u with
    |none=>rw[hc] at h;cases h
    |some new=>
     rw[hc] at h
     have h:aG (Nat.beq (jn new) es) (aG (Nat.ble (Nat.succ i) A) (qs E es A l (t.set i new)) none) none=some t':=h
     cases J:Nat.beq (jn new) es
     ·rw[J] at h;cases h
     rw[J,f6] at h
     cases G:Nat.ble (Nat.succ i) A
     ·rw[G] at h;cases h
     rw[G,f6] at h
     have J:=eb J
     rw[oO] at J
     have G:i+1≤A:=bO G
     have h1:=(hA.b8 hy hu).cells hc
     have nG:(a.eval x).cells.size=new.length:=by have:=h1.1.length;simpa using this
     have mono:∀{p q:Nat},p+1≤q→p*es+es≤q*es:=fun{p q}h=>by have:=kZ es h;rwa [Ff] at this
     have rR:=mono G
     obtain⟨z,k1,k2,k3⟩:=KN hA hl (t.set i new) t' (vH cells (i*es) (a.eval x).cells) (by rw[JT,U]) (fun k hk=>by
      rw[RT.eY]
      by_cases K:k=i
      ·subst K
       rw[aw rfl]
       refine⟨new,rfl,J,fun j Y O=>⟨List.all_eq_true.1 h1.2 Y (kY O),?_⟩⟩
       obtain⟨cv,g1,Z⟩:=h1.1.get j Y O
       have Bt:j<es:=by rw[←J];exact(List.getElem?_eq_some_iff.1 O).1
       refine⟨cv,?_,Z⟩
       rw[Ge,aw (by omega),IG]
       simpa using g1
      rw[aj K]
      obtain⟨l0,g1,Z,g3⟩:=hf k hk
      refine⟨l0,g1,Z,fun j Y O=>?_⟩
      obtain⟨m1,cv,m2,m3⟩:=g3 j Y O
      have Bt:j<es:=by rw[←Z];exact(List.getElem?_eq_some_iff.1 O).1
      refine⟨m1,cv,?_,m3⟩
      rw[Ge,aj ?_]
      ·exact m2
      rcases Nat.lt_or_gt_of_ne K with dT|FO
      ·have:=mono (show k+1≤i from dT);omega
      have:=mono (show i+1≤k from FO);omega) h
     refine⟨z,?_,k2,k3⟩
     rw[eF,KM (off:=i*es) (size:=es) rfl (nG.trans J) (by rw[U];exact rR)]
     exact k1
  cases hp
theorem LA(I:R ρ C w)(J:iv ρ H.next (H.next+1)){e es aP n cap:Nat}{t:RT}{cells:Array Value}(he:0<es)(z:n≤cap)(G:cells.size=cap*es)(A:Fl ρ n es t cells){w':World}(K:w'.heap=w.heap.push (.cells cells e))
  (O:w'.os=w.os) (h2:w'.tape=w.tape) (U:w'.output=w.output):dW ρ C w H (.slice H.next n 0 n es) ⟨H.next+1,H.bc,H.ws,H.t.set H.next (.row e es aP n n 0 t)⟩ (.slice (some ⟨w.heap.size,0,none⟩) n cap) w':=by
 obtain⟨ρ',Y,Z,g3⟩:=I.alloc (f:=H.next) (elem:=e) (es:=es) (aP:=aP) (n:=n) (cs:=t) (cells:=cells) (w':=w')
  (Wr ⟨H.next+1,H.bc,H.ws,H.t.set H.next (.row e es aP n n 0 t)⟩) (fun g=>J _ g (bV _) (gh _)) he (by rw[G];exact kZ _ z) A K O h2 U
 refine⟨ρ',?_,Z,?_⟩
 ·simp only[VR]
  refine⟨_,_,_,Y,rfl,z,.inl ⟨rfl,?_⟩⟩
  simp only
  rw[G,jx]
  exact bV _
 rw[Cg]
 exact g3
theorem Q0(hA:AR P ρ nt E a)(hR:R ρ C w)(hF:iv ρ H.next H'.next){t:TypeId}{I:Nat}{parts:Array (Nat×Operand)}{io:bG}(ho:o.op= .buildSlice t I parts)(A:GD P t I parts.toList=some io)
  (h:io.ev call E H= .ok v H'):fq P o a w (dW ρ C w H v H'):=by
 unfold GD at A
 split at A
 ·rename_i e hu
  split at A
  ·rename_i i z hi hz
   split at A
   ·rename_i l hl
    split at A
    ·rename_i hle
     cases A
     have h:ob (qs E i.size I l (p0 z I)) (.err 24) (fun t=>H.alloc (.row e i.size i.bytes I I 0 t) fun f H=>.ok (.slice f I 0 I i.size) H)= .ok v H':=h
     replace h:=ju h
     obtain⟨tr,Z,h⟩:=h
     have h:=xh h
     cases h
     obtain⟨i',K,O,vh,hv,hk,Br,U,y7⟩:=w4 hz
     rw[hi] at O
     cases O
     obtain⟨G,k1,k2,k3⟩:=KN hA hl (p0 z I) tr (madeCells K.cells (I*i.size)) (size_madeCells _ _) (Mk (hv ρ) hk Br (bV _)) Z
     refine .inl ⟨_,w.alloc (.cells G e),?_,LA hR hF U (bV _) k2 k3 rfl rfl rfl rfl⟩
     have Y:Instr.fill (fun j=>some (j*i.size,i.size)) ((Array.range (I*i.size)).map (K.cells[· % K.cells.size]!)) (parts.map fun(i,x)=>(i,a.eval x)).toList=some G:=by
      rw[←k1];simp[madeCells]
     by_cases h0:I*i.size=0
     ·have e0:(Array.range 0).map (K.cells[· % K.cells.size]!)=#[]:=by rw[show Array.range 0=#[] from rfl];exact Array.map_empty ..
      rw[h0,e0] at Y
      have FQ:Instr.fill (fun j=>some (j*i.size,i.size)) #[] (parts.toList.map fun x=>(x.1,a.eval x.2))=some G:=by rw[←Y];simp
      simp[execOp,ho,Instr.buildSlice,run_underlying hu,sizeOf,typeInfo,hi,h0,newRow,FQ,show Array.range 0=#[] from rfl]
     have J:¬(2^24<I*i.size):=by omega
     simp at Y J
     simp[execOp,ho,Instr.buildSlice,run_underlying hu,sizeOf,typeInfo,hi,J,h0,zeroValue,vh,Y,newRow]
    cases A
   cases A
  cases A
 cases A
theorem RY(hA:AR P ρ nt E a)(hR:R ρ C w)(hF:iv ρ H.next H'.next){t:TypeId}{x y:Operand}{O U:aF}{io:bG}(ho:o.op= .makeSlice t x y)(hx:dm P x=some O)(hy:dm P y=some U)(A:HA P t O U=some io)
  (h:io.ev call E H= .ok v H'):fq P o a w (dW ρ C w H v H'):=by
 unfold HA at A
 split at A
 ·rename_i e hu
  split at A
  ·rename_i i z hi hz
   split at A
   ·rename_i hb
    cases A
    have h:AB e i.size i.bytes z O U E H= .ok v H':=h
    replace h:=fu h;obtain⟨u,Y,h⟩:=h
    replace h:=sc h;obtain⟨kl,l0,rfl,h⟩:=h
    replace h:=vG h;obtain⟨l,rfl,h⟩:=h
    replace h:=fu h;obtain⟨u2,Z,h⟩:=h
    replace h:=sc h;obtain⟨kc,c0,rfl,h⟩:=h
    replace h:=vG h;obtain⟨c,rfl,h⟩:=h
    replace h:=fO h;obtain⟨I,h⟩:=h
    replace h:=fO h;obtain⟨g2,h⟩:=h
    replace h:=fO h;obtain⟨g3,h⟩:=h
    rw[G9] at h
    have h:=xh h
    cases h
    have I:=bO I
    have g2:c*i.bytes≤70368744177664:=bO g2
    have g3:=bO g3
    obtain⟨i',zv,J,vh,hv,hk,Br,K,y7⟩:=w4 hz
    rw[hi] at J
    cases J
    have e1:=hA.b8 hx Y
    have e2:=hA.b8 hy Z
    simp only[VR] at e1 e2
    have G:=run_make (P:=P) w t e i zv hu hi vh kl kc (l:Int) (c:Int) (Int.natCast_nonneg l) (Int.ofNat_le.2 I) (by
     have:((i.bytes*c:Nat):Int)≤((281474976710656:Nat):Int):=Int.ofNat_le.2 (by rw[mY];omega)
     rw[Int.natCast_mul] at this
     exact this) (by omega)
    simp only[E6] at G
    refine .inl ⟨_,w.alloc (.cells (madeCells zv.cells (c*i.size)) e),?_,LA hR hF K I (size_madeCells _ _) (Mk (hv ρ) hk Br (kZ _ I)) rfl rfl rfl rfl⟩
    rw[show(execOp a.eval o)=_ from rfl]
    simp only[execOp,ho,e1,e2]
    simp only[Sem.run_bind,G,Result.andThen_ok]
    rfl
   cases A
  cases A
 cases A
end
section
variable{P:Program}{ρ:Ho}{nt:Nat}{E:Env}{a:Act}{C:Nat→Option dQ}{w:World}{H H':az}{v:an}{o:Oper}{call:eI}
theorem Gw(b:Bool)(k:Bool→aE):ni b k=k b:=by cases b<;>rfl
set_option maxHeartbeats 1000000 in
theorem VG(Y:Nat){c:yW}{t:TypeId}{d:TypeDesc}(G:P.underlying t=some d)(A:Ib P d=some c){x y:an}{I cy:Value}(z:VR ρ x I)(h2:VR ρ y cy){r:Bool}(h:nF c x y=some r):
  (Op.equalIn (Y+1) t I cy).run P w= .ok r w∧(∀k n,I≠.int k n)∧(∀b,I≠.string b)∧(∀k n,I≠.float k n)∧(∀k n m,I≠.complex k n m)∧(∀cs,I≠.agg cs)∧(I= .nilIface→∃ms,d= .interface ms):=by
 unfold Ib at A
 split at A
 ·cases A
  unfold nF at h
  simp only at h
  split at h
  ·simp only[VR] at z h2
   subst z;subst h2
   cases h
   exact⟨by simp[Op.equalIn,run_underlying G],by simp,by simp,by simp,by simp,by simp,by simp⟩
  cases h
 ·rename_i e
  split at A
  ·rename_i ie K
   cases A
   unfold nF at h
   simp only at h
   split at h
   ·simp only[VR] at z h2
    subst z;subst h2;cases h
    exact⟨by simp[Op.equalIn,run_underlying G],by simp,by simp,by simp,by simp,by simp,by simp⟩
   ·simp only[VR] at z h2
    obtain⟨_,_,rfl⟩:=h2
    subst z;cases h
    exact⟨by simp[Op.equalIn,run_underlying G],by simp,by simp,by simp,by simp,by simp,by simp⟩
   ·simp only[VR] at z h2
    obtain⟨_,_,rfl⟩:=z
    subst h2;cases h
    exact⟨by simp[Op.equalIn,run_underlying G],by simp,by simp,by simp,by simp,by simp,by simp⟩
   ·rename_i f g o f' g' Z
    cases b1:Nat.beq f f'
    ·rw[b1] at h;cases h
    rw[b1,f6] at h
    cases b2:Nat.beq g g'
    ·rw[b2] at h;cases h
    rw[b2,f6] at h
    cases J:Nat.beq o Z
    ·rw[J] at h;cases h
    rw[J,f6] at h
    cases h
    have b1:=eb b1
    have b2:=eb b2
    have J:=eb J
    subst b1;subst b2;subst J
    simp only[VR] at z h2
    obtain⟨hm,k1,rfl⟩:=z
    obtain⟨FV,U,rfl⟩:=h2
    rw[k1] at U
    cases U
    exact⟨by simp[Op.equalIn,run_underlying G,sizeOf,typeInfo,K,run_sameAddr_same],by simp,by simp,by simp,by simp,by simp,by simp⟩
   cases h
  cases A
 ·cases A
  unfold nF at h
  simp only at h
  split at h
  ·simp only[VR] at z h2
   subst z;subst h2;cases h
   exact⟨by simp[Op.equalIn,run_underlying G],by simp,by simp,by simp,by simp,by simp,by simp⟩
  ·simp only[VR] at z h2
   obtain⟨_,_,_,_,rfl,_⟩:=h2
   subst z;cases h
   exact⟨by simp[Op.equalIn,run_underlying G],by simp,by simp,by simp,by simp,by simp,by simp⟩
  ·simp only[VR] at z h2
   obtain⟨_,_,_,_,rfl,_⟩:=z
   subst h2;cases h
   exact⟨by simp[Op.equalIn,run_underlying G],by simp,by simp,by simp,by simp,by simp,by simp⟩
  cases h
 ·rename_i ms
  cases A
  unfold nF at h
  simp only at h
  split at h
  ·simp only[VR] at z h2
   subst z;subst h2;cases h
   exact⟨by simp[Op.equalIn,run_underlying G],by simp,by simp,by simp,by simp,by simp,fun _=>⟨ms,rfl⟩⟩
  ·simp only[VR] at z h2
   obtain⟨_,rfl,_⟩:=h2
   subst z;cases h
   exact⟨by simp[Op.equalIn,run_underlying G],by simp,by simp,by simp,by simp,by simp,fun _=>⟨ms,rfl⟩⟩
  ·simp only[VR] at z h2
   obtain⟨_,rfl,_⟩:=z
   subst h2;cases h
   exact⟨by simp[Op.equalIn,run_underlying G],by simp,by simp,by simp,by simp,by simp,by simp⟩
  ·rename_i t1 _ t2 _
   cases b1:Nat.beq t1 t2
   ·rw[b1] at h
    cases h
    have O:t1≠t2:=fun e=>by rw[e,iR] at b1;cases b1
    simp only[VR] at z h2
    obtain⟨_,rfl,_⟩:=z
    obtain⟨_,rfl,_⟩:=h2
    exact⟨by simp[Op.equalIn,run_underlying G,O],by simp,by simp,by simp,by simp,by simp,by simp⟩
   rw[b1] at h;cases h
  cases h
 ·cases A
  unfold nF at h
  simp only at h
  split at h
  ·simp only[VR] at z h2
   subst z;subst h2;cases h
   exact⟨by simp[Op.equalIn,run_underlying G],by simp,by simp,by simp,by simp,by simp,by simp⟩
  ·simp only[VR] at z h2
   obtain⟨_,_,rfl,_⟩:=h2
   subst z;cases h
   exact⟨by simp[Op.equalIn,run_underlying G],by simp,by simp,by simp,by simp,by simp,by simp⟩
  ·simp only[VR] at z h2
   obtain⟨_,_,rfl,_⟩:=z
   subst h2;cases h
   exact⟨by simp[Op.equalIn,run_underlying G],by simp,by simp,by simp,by simp,by simp,by simp⟩
  cases h
 ·cases A
  unfold nF at h
  simp only at h
  split at h
  ·simp only[VR] at z h2
   subst z;subst h2;cases h
   exact⟨by simp[Op.equalIn,run_underlying G],by simp,by simp,by simp,by simp,by simp,by simp⟩
  cases h
 cases A
theorem QU{op:BinOp}(G:op= .eql∨op= .neq){t:TypeId}{d:TypeDesc}{x y:Operand}{I cy:Value}(J:P.underlying t=some d)(z:Dc x y d=true)(K:∀cs,I≠.agg cs)(O:I= .nilIface→∃ms,d= .interface ms):
  (eqGuard op t x y I cy).run P w= .ok () w:=by
 unfold eqGuard
 rcases G with rfl|rfl
 ·rw[aj (by decide)]
  split
  ·obtain⟨ms,rfl⟩:=O rfl
   simp only[Dc,uX] at z
   have e:∀A,(Op.eqGuardIn (A+1) t .nilIface .nilIface).run P w= .ok (!ms.isEmpty) w:=fun A=>by simp[Op.eqGuardIn,run_underlying J]
   rcases z with(z|z)|z
   ·cases x<;>cases y<;>simp[Op.maxDepth,e 9999,z]
   ·cases x<;>simp[xf] at z<;>simp
   cases y<;>simp[xf] at z<;>simp
  ·exact absurd rfl (K _)
  rfl
 rw[aj (by decide)]
 split
 ·obtain⟨ms,rfl⟩:=O rfl
  simp only[Dc,uX] at z
  have e:∀A,(Op.eqGuardIn (A+1) t .nilIface .nilIface).run P w= .ok (!ms.isEmpty) w:=fun A=>by simp[Op.eqGuardIn,run_underlying J]
  rcases z with(z|z)|z
  ·cases x<;>cases y<;>simp[Op.maxDepth,e 9999,z]
  ·cases x<;>simp[xf] at z<;>simp
  cases y<;>simp[xf] at z<;>simp
 ·exact absurd rfl (K _)
 rfl
theorem SA(Z:AR P ρ nt E a)(hR:R ρ C w){op:BinOp}{t t':TypeId}{d:TypeDesc}{x z:Operand}{K O:aF}{io:bG}(ho:o.op= .binOp op t x z t')(hx:dm P x=some K)(hz:dm P z=some O)(hu:P.underlying t=some d)
  (A:II P op d x z K O=some io) (h:io.ev call E H= .ok v H'):fq P o a w (dW ρ C w H v H'):=by
 unfold II at A
 split at A
 ·rename_i c hc
  split at A
  ·rename_i G
   have key:∀neg,(op= .eql∧neg=false)∨(op= .neq∧neg=true)→yX c neg K O E H= .ok v H'→fq P o a w (dW ρ C w H v H'):=by
    intro neg I h
    replace h:=fu h;obtain⟨u,U,h⟩:=h
    replace h:=fu h;obtain⟨u2,Y,h⟩:=h
    replace h:=ju h;obtain⟨r,hr,h⟩:=h
    rw[Gw] at h
    cases h
    obtain⟨g0,g1,g2,g3,g4,g5,g6⟩:=VG (w:=w) 9999 hu hc (Z.b8 hx U) (Z.b8 hz Y) hr
    have hg:=QU (w:=w) (op:=op) (by rcases I with⟨h,_⟩|⟨h,_⟩<;>simp[h]) (x:=x) (y:=z) (cy:=a.eval z) hu G g5 g6
    refine gJ (cv:=.bool (Bool.xor neg r)) ?_ hR (by simp only[VR])
    simp only[execOp,ho,Sem.run_bind,hg,Result.andThen_ok]
    generalize a.eval x=J at*
    generalize a.eval z=cz at*
    rcases I with⟨rfl,rfl⟩|⟨rfl,rfl⟩
    ·have:(binOp .eql t J cz).run P w= .ok (.bool r) w:=by
      cases J<;>simp only[binOp]<;>first|exact absurd rfl (g1 _ _)|exact absurd rfl (g2 _)|exact absurd rfl (g3 _ _)|exact absurd rfl (g4 _ _ _)|simp[Op.equal,Op.maxDepth,g0]
     simp[this]
    have:(binOp .neq t J cz).run P w= .ok (.bool (!r)) w:=by
     cases J<;>simp only[binOp]<;>first|exact absurd rfl (g1 _ _)|exact absurd rfl (g2 _)|exact absurd rfl (g3 _ _)|exact absurd rfl (g4 _ _ _)|simp[Op.equal,Op.maxDepth,g0]
    simp[this]
   cases op<;>simp only[gP,reduceCtorEq] at A
   ·subst A;exact key false (.inl ⟨rfl,rfl⟩) h
   subst A;exact key true (.inr ⟨rfl,rfl⟩) h
  cases A
 cases A
end
end Go.Ev
