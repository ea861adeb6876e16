/- Part 4 of rules for walks through the code of a program, and of such walks; what each part proves is said by its theorems. -/
import Derived.Test.YtijnechfhdlgiaaGreatDoorS3
import Derived.Laws.Tables
import Derived.Laws.MakeOwn
import Derived.Great.FillDense
import Derived.LaidEql
set_option linter.unusedVariables false
set_option linter.unusedSimpArgs false
namespace Go.Ev
section
variable{P:Program}{ρ:Ho}{nt:Nat}{E:Env}{a:Act}{C:Nat→Option dP}{w:World}{H H':aB}{v:an}{o:Oper}
theorem wK{t:TypeId}{z:List an}(A:zeroOf P t=some z):∃i G,P.info? t=some i∧i.zero=some G∧(∀ρ,cB ρ z G.cells.toList)∧z.all gW=true∧z.length=i.size∧0<i.size∧G.cells.size=i.size:=by
 unfold zeroOf at A
 split at A
 ·rename_i i hi
  split at A
  ·rename_i G J
   split at A
   ·rename_i Y K
    split at A
    ·rename_i l U
     split at A
     ·rename_i I
      cases A
      have O:=fun ρ=>(BZ ρ _ _ K).cells (JN U)
      refine⟨i,G,hi,J,fun ρ=>(O ρ).1,(O (fun _ _=>none)).2,I.1,I.2,?_⟩
      have:=(O (fun _ _=>none)).1.length
      rw[ng] at this
      omega
     cases A
    cases A
   cases A
  cases A
 cases A
theorem size_zeroCells(z:Array Value)(n:Nat):(Builtin.zeroCells z n).size=n*z.size:=by simp[Builtin.zeroCells]
theorem My{b:Bool}{k:aE}{n:Nat}(h:aH b (.err n) k= .ok v H'):b=false∧k= .ok v H':=by
 cases b
 ·exact⟨rfl,h⟩
 cases h
theorem RM(hR:R ρ C w)(hF:ic ρ H.next H'.next){t Y ty e:TypeId}{i:TypeInfo}{z:List an}{Z:Value}{n:Nat}{new:List (List an)}{news:List Value}
  (ht:P.underlying t=some (.slice e)) (hi:P.info? e=some i) (hz:zeroOf P e=some z) (hb:i.bytes≠0) (hn:0<n) (hl:new.length=n) (G:Flat ρ i.size new news) (hs:Src P i.size Y Z n news w)
  (h:vJ e i.size i.bytes n new H= .ok v H'):∃cv w',(Builtin.append_ #[t,Y] ty #[.slice none 0 0,Z]).run P w= .ok cv w'∧dU ρ C w H v H' cv w':=by
 replace h:=fE h;obtain⟨A,h⟩:=h
 rw[vo] at h
 have h:=wW h
 cases h
 have A:=bW A
 have A:n*i.bytes≤70368744177664:=A
 obtain⟨i',zv,I,uY,_,_,_,J,yK⟩:=wK hz
 rw[hi] at I
 cases I
 have hnb:n≤n*i.bytes:=HO _ (by omega)
 have sY:=grownCap_ge w (0+n) 0 e
 have K:=run_append_grow_src (P:=P) w t Y ty e i zv ht hi uY none 0 0 [] (run_firstCells_none w.drew i.size 0 0 0) Z n news hs (by omega) (by omega) (growslice_fits (by omega) (by rw[jA];omega))
 generalize grownCap w (0+n) 0 e=cp at*
 have O:news.length=n*i.size:=by rw[G.len,hl]
 obtain⟨ρ',h1,h2,h3⟩:=hR.alloc (f:=H.next) (elem:=e) (es:=i.size) (aT:=i.bytes) (n:=n) (cs:=jt new .emp 0) (cells:=([]++news).toArray++Builtin.zeroCells zv.cells (cp-(0+n)))
  (w':=w.drew.alloc (.cells (([]++news).toArray++Builtin.zeroCells zv.cells (cp-(0+n))) e))
  (Wr ⟨H.next+1,H.bc,H.ws,H.t.set H.next (.row e i.size i.bytes n n 0 (jt new .emp 0))⟩) (fun g=>hF _ g (bY _) (fZ _)) J
  (by rw[Ep,size_zeroCells];simp[O])
  (fun k hk=>by
   rw[tp,aw (by omega)]
   have U:k<new.length:=by omega
   obtain⟨l1,l2⟩:=G.get k _ (eY U)
   refine⟨_,by rw[Er];exact eY U,l1,fun j x hx=>?_⟩
   obtain⟨k1,cv,k2,k3⟩:=l2 j x hx
   refine⟨k1,cv,?_,k3⟩
   have:=qH k2
   rw[Et (by simpa using this)]
   simpa using k2) rfl rfl rfl rfl
 refine⟨_,_,K,ρ',?_,h2,?_⟩
 ·simp only[VR]
  refine⟨_,_,_,h1,by rw[jA],by omega,.inl ⟨rfl,?_⟩⟩
  simp only
  rw[Ep,size_zeroCells,yK,jA]
  simp only[Em,List.size_toArray,O]
  rw[←nN]
  exact kN _ (by omega)
 rw[BM]
 exact h3
theorem FY{f:Nat}{o z:dP}(hC:C f=H.t.get f)(_ho:H.t.get f=some o):gu C H ⟨H.next,H.bc,wrote f H.bc H.ws,H.t.set f z⟩=fun x=>if x=f then some z else C x:=by
 funext x
 unfold gu
 simp only
 rw[aj (by omega),GT.eU]
 by_cases h:x=f
 ·subst h
  rw[aw rfl,aw rfl]
  split
  ·rename_i e;rw[hC,←e]
  rfl
 rw[aj h,aj h,aw rfl]
theorem Ga(H:aB)(f:Nat)(t:HT):Wr ⟨H.next,H.bc,wrote f H.bc H.ws,t⟩ f:=by
 unfold Wr
 simp only[y7]
 by_cases dR:f<H.bc
 ·exact .inl (.inr ⟨trivial,dR⟩)
 exact .inr (by omega)
theorem RN(hR:R ρ C w){t tx ty e:TypeId}{i:TypeInfo}{z:List an}{yc:Value}{n:Nat}{new:List (List an)}{news:List Value}{f g off A gM:Nat}{xc:Value}
  (ht:P.underlying t=some (.slice e)) (hi:P.info? e=some i) (hz:zeroOf P e=some z) (hb:i.bytes≠0) (hn:0<n) (hl:new.length=n) (uX:Flat ρ i.size new news) (hs:Src P i.size tx yc n news w)
  (hx:VR ρ (.slice f g off A gM) xc) (hC0:∀o,(∃g h,ρ f g=some h)→H.t.get f=some o→C f=some o)
  (h:xn e i.size i.bytes n new H f g off A gM= .ok v H'):∃cv w',(Builtin.append_ #[t,tx] ty #[xc,yc]).run P w= .ok cv w'∧dU ρ C w H v H' cv w':=by
 have h:iS (H.t.get f) (aE.err 33) (fun Y H3 my m lo fl cs=>
  aH (Nat.beq off 0) (aH (Nat.beq g m) (aH (Nat.ble lo g) (aH (Nat.beq A m) (aH (Nat.beq gM i.size) (aH (Nat.beq H3 i.size) (aH (Nat.beq fl 1) (aE.err 32)
   (aH (Nat.ble (Nat.mul (Nat.add m n) i.bytes) 70368744177664) (aH (Nat.beq e Y)
    (dr (Nat.add m n) fun m'=>sj new cs m fun cs=>H.t.gq f (.row Y H3 my m' lo fl cs) fun t=>
     aE.ok (.slice f m' 0 m' i.size) ⟨H.next,H.bc,wrote f H.bc H.ws,t⟩) (aE.err 32)) (aE.err 32))) (aE.err 32)) (aE.err 32)) (aE.err 32)) (aE.err 32)) (aE.err 32)) (aE.err 32))=aE.ok v H':=by
  cases H;exact h
 obtain⟨Y,H3,my,m,lo,fl,cs,hg,h⟩:=KP h
 replace h:=fE h;obtain⟨a1,h⟩:=h
 replace h:=fE h;obtain⟨a2,h⟩:=h
 replace h:=fE h;obtain⟨a3,h⟩:=h
 replace h:=fE h;obtain⟨a4,h⟩:=h
 replace h:=fE h;obtain⟨a5,h⟩:=h
 replace h:=fE h;obtain⟨a6,h⟩:=h
 replace h:=My h;obtain⟨a7,h⟩:=h
 replace h:=fE h;obtain⟨a8,h⟩:=h
 replace h:=fE h;obtain⟨a9,h⟩:=h
 rw[im,vo,GT.j8] at h
 have a1:=dZ a1
 have a2:=dZ a2
 have a3:=bW a3
 have a4:=dZ a4
 have a5:=dZ a5
 have a6:=dZ a6
 have a7:fl≠1:=by intro e;subst e;cases a7
 have a8:=bW a8
 have a9:=dZ a9
 cases h
 subst a1 a2 a4 a6 a9
 obtain⟨i',zv,uZ,uY,_,_,_,yo,yK⟩:=wK hz
 rw[hi] at uZ
 cases uZ
 simp only[VR] at hx
 obtain⟨G,ad,cap,hh,rfl,uW,qC⟩:=hx
 have hC:C f=H.t.get f:=(hC0 _ ⟨_,_,hh⟩ hg).trans hg.symm
 have sW:C f=some (.row e i.size my A lo fl cs):=hC.trans hg
 rcases qC with⟨rfl,qC⟩|⟨_,_,qC⟩
 case inr=>omega
 rw[a5] at qC
 obtain⟨_,nZ,_,O⟩:=hR.obj f _ sW A G hh
 have O:=O a3 (bY _)
 obtain⟨c,fz,U,hroom⟩:=O.row
 have Pv:news.length=n*i.size:=by rw[uX.len,hl]
 have hnb:A+n≤(A+n)*i.bytes:=HO _ (by omega)
 have hbd:(A+n)*i.bytes≤70368744177664:=a8
 have hadd:(A+n)*i.size=A*i.size+n*i.size:=nN _ _ _
 by_cases J:A+n≤cap
 ·have V7:(A+n)*i.size≤cap*i.size:=kN _ J
  have iZ:∀j,j<news.length→(w.cell? ⟨G.b8,G.off+0+A*i.size+j,none⟩).isSome=true:=by
   intro j hj
   simp only[World.cell?,U]
   rw[wa (by omega)]
   rfl
  have yI:∀j,j<news.length→w.frozen? ⟨G.b8,G.off+0+A*i.size+j,none⟩=false:=by
   intro j hj
   rw[show G.off+0+A*i.size+j=G.off+(A*i.size+j) by omega]
   exact O.xS a7 _ (by omega) (by omega)
  have wk:=run_append_room_src (P:=P) w t tx ty e i ht hi G.b8 (G.off+0) A cap yc n news hs J iZ yI
  obtain⟨s1,s2,s3,s4,s5,s6⟩:=By G.b8 news (G.off+0+A*i.size) w
  obtain⟨c',A6,OH⟩:=s3 c e fz U
  have OL:∀q,q<A*i.size→(w.setCells G.b8 (G.off+0+A*i.size) news).cell? ⟨G.b8,G.off+q,none⟩=w.cell? ⟨G.b8,G.off+q,none⟩:=by
   intro q hq
   exact World.cell?_setCells_out _ _ _ _ _ (fun _ _=>by simp only;omega)
  obtain⟨ρ',k1,k2,k3⟩:=hR.grow (H:=H) (my:=my) (w':=w.setCells G.b8 (G.off+0+A*i.size) news) (h2:=G)
   (Wr ⟨H.next,H.bc,wrote f H.bc H.ws,H.t.set f (.row e i.size my (Nat.add A n) lo fl (jt new cs A))⟩) (Ga _ _ _) sW hh hl hn a3 a7 uX
   (by rw[s1];exact bY _) s4 s5 s6 (fun b _ hb=>s2 b hb) ⟨c,c',e,fz,U,A6,OH⟩ OL (.inl rfl) (by rw[s1];exact hR.jZ _ _ _ hh)
   ⟨c',fz,A6,by omega⟩ (by omega) OL
   (fun j hj=>by
    rw[show G.off+A*i.size+j=G.off+0+A*i.size+j by omega]
    rw[World.cell?_setCells_in _ _ _ _ iZ j (by omega),←eY])
   (fun lp=>absurd rfl lp)
  refine⟨_,_,wk,ρ',?_,k2,?_⟩
  ·simp only[VR]
   exact⟨G,_,_,k1,rfl,J,.inl ⟨rfl,by omega⟩⟩
  rw[FY hC hg]
  exact k3
 have J:cap<A+n:=by omega
 have cellAt:∀q,q<A*i.size→∃cv,w.cell? ⟨G.b8,G.off+q,none⟩=some cv∧cv.oneCell'=true:=by
  intro q hq
  have hi1:q/i.size<A:=by rw[Ox yo];exact hq
  have hj:q % i.size<i.size:=wz _ yo
  obtain⟨l,l1,l2,l3⟩:=O.cell _ hi1
  obtain⟨k1,cv,k2,k3⟩:=l3 (q % i.size) _ (eY (by rw[l2];exact hj))
  refine⟨cv,?_,FK k3 k1⟩
  have:q/i.size*i.size+q % i.size=q:=by rw[mL];exact El q i.size
  rwa [nd,this] at k2
 obtain⟨I,E5,nu⟩:∃I:List Value,I.length=A*i.size∧∀q,q<A*i.size→I[q]?=w.cell? ⟨G.b8,G.off+q,none⟩:=by
  refine⟨(List.range (A*i.size)).map fun q=>(w.cell? ⟨G.b8,G.off+q,none⟩).getD undef,by simp,fun q hq=>?_⟩
  obtain⟨cv,k1,_⟩:=cellAt q hq
  simp[hq,k1]
 have hold:(Builtin.firstCells i.size A (.slice (some ⟨G.b8,G.off+0,none⟩) A cap)).run P w.drew= .ok I.toArray w.drew:=by
  refine run_firstCells_some w.drew i.size A _ A cap I E5 fun j u hu=>?_
  rw[Addr.add_lit,yg]
  show w.cell? _=_
  rw[←nu j (by have:=qH hu;omega)]
  exact hu
 have wk:=run_append_grow_src (P:=P) w t tx ty e i zv ht hi uY (some ⟨G.b8,G.off+0,none⟩) A cap I hold yc n news hs J (by omega) (growslice_fits J (by omega))
 have sY:=grownCap_ge w (A+n) cap e
 generalize grownCap w (A+n) cap e=cp at*
 generalize Mz:(I++news).toArray++Builtin.zeroCells zv.cells (cp-(A+n))=cells at*
 have hcsz:cells.size=cp*i.size:=by
  rw[←Mz,Ep,size_zeroCells,yK]
  simp only[List.size_toArray,bK,E5,Pv]
  rw[←nN,←nN]
  congr 1
  omega
 have E6:∀q,q<(A+n)*i.size→cells[q]?=(I++news)[q]?:=by
  intro q hq
  rw[←Mz,Et (by simp[E5,Pv];omega)]
  simp
 have K:∀q,(w.drew.alloc (.cells cells e)).cell? ⟨w.heap.size,q,none⟩=cells[q]?:=by
  intro q
  have:(w.drew.alloc (.cells cells e)).heap[w.heap.size]?=some (.cells cells e (0,0)):=by
   show(w.heap.push _)[w.heap.size]?=_
   simp
  simp only[World.cell?,this]
  simp
 have Z:∀b,b<w.heap.size→(w.drew.alloc (.cells cells e)).heap[b]?=w.heap[b]?:=fun b hb=>by
  show(w.heap.push _)[b]?=_
  rw[HK,aj (by omega)]
 have WU:∀q,(w.drew.alloc (.cells cells e)).frozen? ⟨w.heap.size,q,none⟩=false:=by
  intro q
  have:(w.drew.alloc (.cells cells e)).heap[w.heap.size]?=some (.cells cells e (0,0)):=by
   show(w.heap.push _)[w.heap.size]?=_
   simp
  simp only[World.frozen?,this]
  simp
 have V7:(A+n)*i.size≤cp*i.size:=kN _ sY
 obtain⟨ρ',k1,k2,k3⟩:=hR.grow (H:=H) (my:=my) (w':=w.drew.alloc (.cells cells e)) (h2:=⟨w.heap.size,0,cells.size,false,false⟩)
  (Wr ⟨H.next,H.bc,wrote f H.bc H.ws,H.t.set f (.row e i.size my (Nat.add A n) lo fl (jt new cs A))⟩) (Ga _ _ _) sW hh hl hn a3 a7 uX
  (by show w.heap.size≤(w.heap.push _).size;simp) rfl rfl rfl (fun b hb _=>Z b hb) ⟨c,c,e,fz,U,by rw[Z _ (hR.jZ _ _ _ hh)];exact U,rfl⟩
  (fun q _=>cell_of_heap (w:=w) (Z _ (hR.jZ _ _ _ hh))) (.inr ⟨bY _,rfl⟩) (by show w.heap.size<(w.heap.push _).size;simp)
  ⟨cells,(0,0),by show(w.heap.push _)[w.heap.size]?=_;simp,by simp⟩ (by simp only;omega)
  (fun q hq=>by
   rw[jA,K,E6 q (by omega),qv (by omega)]
   exact nu q hq)
  (fun j hj=>by
   rw[jA,K,E6 _ (by omega),v8 (by omega),E5]
   congr 1
   omega)
  (fun _=>⟨rfl,fun q=>WU q,fun c1 e1 sV iZ=>by
   have h0:(w.heap.push (Obj.cells cells e))[w.heap.size]?=some (.cells c1 e1 sV):=iZ
   simp at h0
   rw[←h0.2.2]⟩)
 refine⟨_,_,wk,ρ',?_,k2,?_⟩
 ·simp only[VR]
  exact⟨_,_,_,k1,rfl,by show A+n≤cp;exact sY,.inl ⟨rfl,by simp only;omega⟩⟩
 rw[FY hC hg]
 exact k3
end
section
variable{P:Program}{ρ:Ho}{nt:Nat}{E:Env}{a:Act}{C:Nat→Option dP}{w:World}{H H':aB}{v:an}{o:Oper}
theorem Jj{at_:Array TypeId}{t z ty:TypeId}{args:Array Value}(h0:at_[0]?=some t)(A:at_[1]?=some z):Builtin.append_ at_ ty args=Builtin.append_ #[t,z] ty args:=by
 unfold Builtin.append_
 simp[h0,A]
theorem JP(Y:R ρ C w)(hF:ic ρ H.next H'.next){t Z ty e:TypeId}{i:TypeInfo}{z:List an}{G:an}{O yc:Value}{n:Nat}{new:List (List an)}{news:List Value}
  (ht:P.underlying t=some (.slice e)) (hi:P.info? e=some i) (hz:zeroOf P e=some z) (hb:i.bytes≠0) (hl:new.length=n) (I:Flat ρ i.size new news) (U:Src P i.size Z yc n news w)
  (A:VR ρ G O) (hC:∀f o,f∈iT (some G)→(∃g h,ρ f g=some h)→H.t.get f=some o→C f=some o)
  (h:jW e i.size i.bytes n new H G= .ok v H'):∃cv w',(Builtin.append_ #[t,Z] ty #[O,yc]).run P w= .ok cv w'∧dU ρ C w H v H' cv w':=by
 cases n with
 |zero=>
  have wA:news=[]:=by
   have:=I.len
   rw[hl,rq] at this
   exact sS this
  subst wA
  have h:gP G (aE.err 31) (aE.ok G H) (fun _ _ _ _ _=>aE.ok G H)=aE.ok v H':=h
  replace h:=wI h
  have hk:=U.kind
  have fin:∀base l c,O= .slice base l c→l≤c→(Builtin.append_ #[t,Z] ty #[O,yc]).run P w= .ok O w:=by
   intro base l c e J
   subst e
   have h2:=U.cells
   rcases hk with⟨e',hk⟩|hk<;>cases base<;>simp[Builtin.append_,run_underlying ht,run_underlying hk,sizeOf,typeInfo,hi,U.len,J,h2,storeCells]
  rcases h with⟨rfl,h⟩|⟨f,g,o1,l,es,rfl,h⟩
  ·cases h
   have K:=A
   simp only[VR] at A
   exact⟨O,w,fin _ _ _ A (bY _),dU.pure Y K⟩
  cases h
  have K:=A
  simp only[VR] at A
  obtain⟨hm,ad,cap,hh,rfl,J,qC⟩:=A
  exact⟨_,w,fin _ _ _ rfl J,dU.pure Y K⟩
 |succ n=>
  have h:gP G (aE.err 34) (vJ e i.size i.bytes (n+1) new H) (xn e i.size i.bytes (n+1) new H)=aE.ok v H':=h
  replace h:=wI h
  rcases h with⟨rfl,h⟩|⟨f,g,o1,l,es,rfl,h⟩
  ·simp only[VR] at A
   subst A
   exact RM Y hF ht hi hz hb (HP _) hl I U h
  exact RN Y ht hi hz hb (HP _) hl I U A (fun o=>hC f o (by simp[iT])) h
theorem RO(hA:AR P ρ nt E a)(hR:R ρ C w)(hF:ic ρ H.next H'.next){c:Call}{x y:Operand}{x' y':aG}{t u e e2:TypeId}{i:TypeInfo}{z:List an}
  (ho:o.op= .call c) (hc:c.callee= .builtin .append) (K:c.args=#[x,y]) (hx:de P x=some x') (hy:de P y=some y') (h0:c.argTypes[0]?=some t) (h1:c.argTypes[1]?=some u)
  (ht:P.underlying t=some (.slice e)) (I:P.underlying u=some (.slice e2)) (hi:P.info? e=some i) (hz:zeroOf P e=some z) (hb:i.bytes≠0)
  (hC:∀f o,f∈iT (x'.ev E)++iT (y'.ev E)→(∃g h,ρ f g=some h)→H.t.get f=some o→C f=some o)
  (h:AK e i.size i.bytes x' y' E H= .ok v H'):fi P o a w (dU ρ C w H v H'):=by
 replace h:=fo h;obtain⟨xa,U,h⟩:=h
 replace h:=fo h;obtain⟨ya,Y,h⟩:=h
 have Iv:=hA.b9 hx U
 have A:=hA.b9 hy Y
 obtain⟨i',zv,Z,uY,_,_,_,yo,yK⟩:=wK hz
 rw[hi] at Z
 cases Z
 have hCx:∀f o,f∈iT (some xa)→(∃g h,ρ f g=some h)→H.t.get f=some o→C f=some o:=fun f o hf=>hC f o (by rw[U];exact Oy _ hf)
 have done:∀{n:Nat}{new:List (List an)}{news:List Value},new.length=n→Flat ρ i.size new news→Src P i.size u (a.eval y) n news w→jW e i.size i.bytes n new H xa= .ok v H'→fi P o a w (dU ρ C w H v H'):=by
  intro n new news hl G hs h
  obtain⟨cv,w',wk,hp⟩:=JP hR hF (ty:=o.type) ht hi hz hb hl G hs Iv hCx h
  refine .inl ⟨cv,w',?_,hp⟩
  simp[execOp,ho,resolve,hc,K,invoke,builtin,Jj h0 h1,wk]
 replace h:=wI h
 rcases h with⟨rfl,h⟩|⟨f,g,o1,l,es,rfl,h⟩
 ·simp only[VR] at A
  refine done (new:=[]) (news:=[]) rfl ⟨by simp,(fun _ I=>by cases I),(fun i x hx=>by simp at hx)⟩ ?_ h
  rw[A]
  exact Src.ofNil w I 0
 replace h:=jl h;obtain⟨new,wi,h⟩:=h
 simp only[VR] at A
 obtain⟨hm,ad,cap,hh,A,uW,O⟩:=A
 obtain⟨hlen,news,G,J⟩:=Flat.Sw hR wi (fun o=>hC f o (by rw[Y];exact HQ _ (by simp[iT])) ⟨_,_,hh⟩) hh yo
 rcases O with⟨rfl,O⟩|⟨nY,hc0,O⟩
 ·refine done hlen G ?_ h
  rw[A]
  refine Src.ofSlice w I _ l cap news (by rw[G.len,hlen]) (fun j u I=>?_) G.one
  rw[Addr.add_lit]
  exact J j u I
 subst nY
 have wA:news=[]:=by
  have:=G.len
  rw[hlen,rq] at this
  exact sS this
 subst wA
 refine done hlen G ?_ h
 rw[A]
 exact Src.ofSlice w I _ 0 cap [] (by simp) (fun j u I=>by simp at I) (fun _ I=>by cases I)
theorem FM:∀(l:List UInt8)(i:Nat)(x:List an),(oz l.length (pack l))[i]?=some x→∃b,l[i]?=some b∧x=[.int .u8 b.toNat]
 |[],i,x,h=>by
  have h:([]:List (List an))[i]?=some x:=h
  simp at h
 |b::r,i,x,h=>by
  have step:oz (b::r).length (pack (b::r))=[an.int .u8 (Int.ofNat (Nat.mod (pack (b::r)) 256))]::oz r.length (Nat.div (pack (b::r)) 256):=rfl
  have G:b.toNat<256:=b.toNat_lt
  have e1:Nat.mod (pack (b::r)) 256=b.toNat:=by show(b.toNat+256*pack r) % 256=_;omega
  have e2:Nat.div (pack (b::r)) 256=pack r:=by show(b.toNat+256*pack r)/256=_;omega
  rw[step,e1,e2] at h
  cases i with
  |zero=>simp at h;exact⟨b,rfl,h.symm⟩
  |succ i=>obtain⟨z,A,h2⟩:=FM r i x (by simpa using h);exact⟨z,by simpa using A,h2⟩
theorem yX:∀(l v:Nat),(oz l v).length=l
 |0,_=>rfl
 |l+1,v=>by
  have step:oz (l+1) v=[an.int .u8 (Int.ofNat (Nat.mod v 256))]::oz l (Nat.div v 256):=rfl
  rw[step,dk,yX]
theorem Flat.bytes(s:ByteArray):Flat ρ 1 (oz s.size (pack s.data.toList)) (byteCells s):=by
 have z:s.size=s.data.toList.length:=by rw[ng];rfl
 refine⟨by rw[byteCells_length,yX,HR],fun u J=>?_,fun i x G=>?_⟩
 ·obtain⟨_,_,rfl⟩:=List.mem_map.1 J
  rfl
 rw[z] at G
 obtain⟨b,K,rfl⟩:=FM _ _ _ G
 refine⟨rfl,fun j y A=>?_⟩
 have I:=qH A
 simp at I
 subst I
 simp at A
 subst A
 refine⟨rfl,.int .u8 b.toNat,?_,by simp only[VR]⟩
 rw[HR,yg]
 simp only[byteCells,iw,K,sA]
theorem Qu(hA:AR P ρ nt E a)(hR:R ρ C w)(hF:ic ρ H.next H'.next){c:Call}{x y:Operand}{Y y':aG}{t u e:TypeId}{i:TypeInfo}{z:List an}
  (ho:o.op= .call c) (hc:c.callee= .builtin .append) (I:c.args=#[x,y]) (hx:de P x=some Y) (hy:de P y=some y') (h0:c.argTypes[0]?=some t) (h1:c.argTypes[1]?=some u)
  (ht:P.underlying t=some (.slice e)) (hu:P.underlying u=some .string) (hi:P.info? e=some i) (hz:zeroOf P e=some z) (J:i.size=1) (Z:i.bytes=1)
  (hC:∀f o,f∈iT (Y.ev E)→(∃g h,ρ f g=some h)→H.t.get f=some o→C f=some o)
  (h:zn e Y y' E H= .ok v H'):fi P o a w (dU ρ C w H v H'):=by
 replace h:=fo h;obtain⟨xa,K,h⟩:=h
 replace h:=fo h;obtain⟨ya,hya,h⟩:=h
 replace h:=wV h;obtain⟨l,s,rfl,h⟩:=h
 have Iv:=hA.b9 hx K
 have A:=hA.b9 hy hya
 simp only[VR] at A
 obtain⟨b,A,rfl,rfl⟩:=A
 have O:=Flat.bytes (ρ:=ρ) b
 have G:=Src.ofString (P:=P) w hu b
 rw[←J] at O G
 have h:jW e i.size i.bytes b.size (oz b.size (pack b.data.toList)) H xa= .ok v H':=by rw[J,Z];exact h
 obtain⟨cv,w',U,hp⟩:=JP hR hF (ty:=o.type) ht hi hz (by omega) (yX _ _) O G Iv (fun f o hf=>hC f o (by rw[K];exact hf)) h
 refine .inl ⟨cv,w',?_,hp⟩
 simp[execOp,ho,resolve,hc,I,invoke,builtin,Jj h0 h1,A,U]
end
def bE.dC:bE→List aG
 |.nX x=>[x]
 |.pick c a b=>[c,a,b]
 |.cf _ _ _ _=>[]
 |.box _ _ _ x=>[x]
 |.load _ _ a=>[a]
 |.store _ a x=>[a,x]
 |.bin _ x y=>[x,y]
 |.eqv _ _ x y=>[x,y]
 |.un _ x=>[x]
 |.nR x _=>[x]
 |.sub x _ _ _=>[x]
 |.kr _ _ x i=>[x,i]
 |.eg _ x i=>[x,i]
 |.zG _ _ _ x i=>[x,i]
 |.sb x i=>[x,i]
 |.iR x lo hi=>x::(lo.toList++hi.toList)
 |.pX _ x lo hi=>x::(lo.toList++hi.toList)
 |.vS _ _ x lo hi=>x::(lo.toList++hi.toList)
 |.ry x _=>[x]
 |.oV x=>[x]
 |.nS _ z l=>z++l
 |.uM _ x=>[x]
 |.yi _ _ _ _ x y=>[x,y]
 |.build _ ps=>ps.map (·.2.2)
 |.cH _ _ _ _ _ ps=>ps.map (·.2)
 |.len x=>[x]
 |.AE _=>[]
 |.o5 x=>[x]
 |.app _ _ _ x y=>[x,y]
 |.sc _ x y=>[x,y]
 |.copy _ x y=>[x,y]
 |.zH _ x ys=>x::ys
 |.conv _ x=>[x]
 |.Cx x=>[x]
 |.xl _ x=>[x]
 |.pH x=>[x]
 |.call _ l=>l
 |.mI x l=>x::l
 |.qp _ _ x=>[x]
 |.uV x=>[x]
 |.qw _ x n=>[x,n]
theorem dp(x:aG)(E:Env)(e:aE)(k:an→aE):bB x E e k=ob (x.ev E) e k:=by cases x<;>rfl
section
variable{E E':Env}
theorem wL:∀(l:List aG),(∀x∈l,x.ev E=x.ev E')→jF E l=jF E' l
 |[],_=>rfl
 |x::r,h=>by
  have z:=h x (by simp)
  have h2:=wL r (fun y A=>h y (by simp[A]))
  show ob (x.ev E) none (fun v=>ob (jF E r) none fun vs=>some (v::vs))=ob (x.ev E') none (fun v=>ob (jF E' r) none fun vs=>some (v::vs))
  rw[z,h2]
theorem wM{x:Option aG}{d y:Nat}{e:aE}{k:Nat→aE}(h:∀z∈x.toList,z.ev E=z.ev E'):gL E x d y e k=gL E' x d y e k:=by
 cases x with
 |none=>rfl
 |some z=>
  have A:=h z (by simp)
  show ob (z.ev E) e _=ob (z.ev E') e _
  rw[A]
theorem Jk:∀(ps:List (Nat×Nat×aG))(cells:List an),(∀x∈ps.map (·.2.2),x.ev E=x.ev E')→pI E ps cells=pI E' ps cells
 |[],_,_=>rfl
 |p::r,cells,h=>by
  have z:=h p.2.2 (by simp)
  have h2:=fun cells=>Jk r cells (fun y A=>h y (by simp only[eB,pV];exact .inr A))
  show ob (p.2.2.ev E) none _=ob (p.2.2.ev E') none _
  rw[z]
  congr 1
  funext v
  congr 1
  funext new
  congr 1
  exact h2 _
theorem Jg(es z:Nat):∀(ps:List (Nat×aG))(t:RT),(∀x∈ps.map (·.2),x.ev E=x.ev E')→qh E es z ps t=qh E' es z ps t
 |[],_,_=>rfl
 |p::r,t,h=>by
  have A:=h p.2 (by simp)
  have h2:=fun t=>Jg es z r t (fun y G=>h y (by simp only[eB,pV];exact .inr G))
  show ob (p.2.ev E) none _=ob (p.2.ev E') none _
  rw[A]
  congr 1
  funext v
  congr 1
  funext new
  congr 1
  congr 1
  exact h2 _
theorem bE.Sx{call:eF}{H:aB}(io:bE)(h:∀x∈io.dC,x.ev E=x.ev E'):io.ev call E H=io.ev call E' H:=by
 cases io with
 |nX x=>have A:=h x (by simp[bE.dC]);show l9 x E H=l9 x E' H;simp only[l9,dp,A]
 |pick c x y=>
  have A:=h c (by simp[bE.dC]);have h2:=h x (by simp[bE.dC]);have I:=h y (by simp[bE.dC])
  show z8 c x y E H=z8 c x y E' H;simp only[z8,l9,dp,A,h2,I]
 |cf a b c d=>rfl
 |box a b c x=>have A:=h x (by simp[bE.dC]);show AG a b c x E H=AG a b c x E' H;simp only[AG,vT,dp,A]
 |load a b x=>have A:=h x (by simp[bE.dC]);show Aa a b x E H=Aa a b x E' H;simp only[Aa,dp,A]
 |store a x y=>have A:=h x (by simp[bE.dC]);have h2:=h y (by simp[bE.dC]);show zJ a x y E H=zJ a x y E' H;simp only[zJ,dp,A,h2]
 |bin a x y=>have A:=h x (by simp[bE.dC]);have h2:=h y (by simp[bE.dC]);show AH a x y E H=AH a x y E' H;simp only[AH,dp,A,h2]
 |eqv a b x y=>have A:=h x (by simp[bE.dC]);have h2:=h y (by simp[bE.dC]);show yC a b x y E H=yC a b x y E' H;simp only[yC,dp,A,h2]
 |un a x=>have A:=h x (by simp[bE.dC]);show A2 a x E H=A2 a x E' H;simp only[A2,dp,A]
 |nR x a=>have A:=h x (by simp[bE.dC]);show Ab x a E H=Ab x a E' H;simp only[Ab,dp,A]
 |sub x a b c=>have A:=h x (by simp[bE.dC]);show AI x a b c E H=AI x a b c E' H;simp only[AI,dp,A]
 |kr a b x y=>have A:=h x (by simp[bE.dC]);have h2:=h y (by simp[bE.dC]);show zk a b x y E H=zk a b x y E' H;simp only[zk,dp,A,h2]
 |eg a x y=>have A:=h x (by simp[bE.dC]);have h2:=h y (by simp[bE.dC]);show zK a x y E H=zK a x y E' H;simp only[zK,dp,A,h2]
 |zG a b c x y=>have A:=h x (by simp[bE.dC]);have h2:=h y (by simp[bE.dC]);show zl a b c x y E H=zl a b c x y E' H;simp only[zl,dp,A,h2]
 |sb x y=>have A:=h x (by simp[bE.dC]);have h2:=h y (by simp[bE.dC]);show zm x y E H=zm x y E' H;simp only[zm,dp,A,h2]
 |iR x lo hi=>
  have A:=h x (by simp[bE.dC])
  have h2:∀z∈lo.toList,z.ev E=z.ev E':=fun z G=>h z (by simp only[bE.dC,pV,sB];exact .inr (.inl G))
  have I:∀z∈hi.toList,z.ev E=z.ev E':=fun z G=>h z (by simp only[bE.dC,pV,sB];exact .inr (.inr G))
  show zL x lo hi E H=zL x lo hi E' H
  simp only[zL,dp,A,wM h2,wM I]
 |pX n x lo hi=>
  have A:=h x (by simp[bE.dC])
  have h2:∀z∈lo.toList,z.ev E=z.ev E':=fun z G=>h z (by simp only[bE.dC,pV,sB];exact .inr (.inl G))
  have I:∀z∈hi.toList,z.ev E=z.ev E':=fun z G=>h z (by simp only[bE.dC,pV,sB];exact .inr (.inr G))
  show Ac n x lo hi E H=Ac n x lo hi E' H
  simp only[Ac,dp,A,wM h2,wM I]
 |vS k n x lo hi=>
  have A:=h x (by simp[bE.dC])
  have h2:∀z∈lo.toList,z.ev E=z.ev E':=fun z G=>h z (by simp only[bE.dC,pV,sB];exact .inr (.inl G))
  have I:∀z∈hi.toList,z.ev E=z.ev E':=fun z G=>h z (by simp only[bE.dC,pV,sB];exact .inr (.inr G))
  show Cy k n x lo hi E H=Cy k n x lo hi E' H
  simp only[Cy,dp,A,wM h2,wM I]
 |ry x a=>have A:=h x (by simp[bE.dC]);show Ad x a E H=Ad x a E' H;simp only[Ad,dp,A]
 |oV x=>have A:=h x (by simp[bE.dC]);show zM x E H=zM x E' H;simp only[zM,dp,A]
 |nS f J l=>
  have A:=wL J (fun z G=>h z (by simp only[bE.dC,sB];exact .inl G));have h2:=wL l (fun z G=>h z (by simp only[bE.dC,sB];exact .inr G))
  show Ae f J l E H=Ae f J l E' H;simp only[Ae,A,h2]
 |uM t x=>have A:=h x (by simp[bE.dC]);show Af t x E H=Af t x E' H;simp only[Af,dp,A]
 |yi a b c d x y=>have A:=h x (by simp[bE.dC]);have h2:=h y (by simp[bE.dC]);show Ag a b c d x y E H=Ag a b c d x y E' H;simp only[Ag,dp,A,h2]
 |build z ps=>have A:=Jk ps z h;show Cz z ps E H=Cz z ps E' H;simp only[Cz,A]
 |cH a b c d z ps=>have A:=Jg b d ps (pP z d) h;show BY a b c d z ps E H=BY a b c d z ps E' H;simp only[BY,A]
 |len x=>have A:=h x (by simp[bE.dC]);show AJ x E H=AJ x E' H;simp only[AJ,dp,A]
 |AE n=>rfl
 |o5 x=>have A:=h x (by simp[bE.dC]);show Ah x E H=Ah x E' H;simp only[Ah,dp,A]
 |app a b c x y=>have A:=h x (by simp[bE.dC]);have h2:=h y (by simp[bE.dC]);show AK a b c x y E H=AK a b c x y E' H;simp only[AK,dp,A,h2]
 |sc a x y=>have A:=h x (by simp[bE.dC]);have h2:=h y (by simp[bE.dC]);show zn a x y E H=zn a x y E' H;simp only[zn,dp,A,h2]
 |copy a x y=>rfl
 |zH m x ys=>
  have A:=h x (by simp[bE.dC]);have h2:=wL ys (fun z G=>h z (by simp only[bE.dC,pV];exact .inr G))
  show zo m x ys E H=zo m x ys E' H;simp only[zo,dp,A,h2]
 |conv k x=>have A:=h x (by simp[bE.dC]);show Ai k x E H=Ai k x E' H;simp only[Ai,dp,A]
 |Cx x=>have A:=h x (by simp[bE.dC]);show l9 x E H=l9 x E' H;simp only[l9,dp,A]
 |xl e x=>have A:=h x (by simp[bE.dC]);show zp e x E H=zp e x E' H;simp only[zp,dp,A]
 |pH x=>have A:=h x (by simp[bE.dC]);show zq x E H=zq x E' H;simp only[zq,dp,A]
 |call f l=>have A:=wL l h;show Aj f l call E H=Aj f l call E' H;simp only[Aj,A]
 |mI x l=>
  have A:=h x (by simp[bE.dC]);have h2:=wL l (fun z G=>h z (by simp only[bE.dC,pV];exact .inr G))
  show zO x l call E H=zO x l call E' H;simp only[zO,dp,A,h2]
 |qp t n x=>have A:=h x (by simp[bE.dC]);show zN t n x E H=zN t n x E' H;simp only[zN,dp,A]
 |uV x=>have A:=h x (by simp[bE.dC]);show AL x E H=AL x E' H;simp only[AL,dp,A]
 |qw e x n=>have A:=h x (by simp[bE.dC]);have h2:=h n (by simp[bE.dC]);show vU e x n E H=vU e x n E' H;simp only[vU,dp,A,h2]
theorem bE.QG(io:bE)(h:∀x∈io.dC,x.ev E=x.ev E'):io.reads E=io.reads E':=by
 cases io with
 |load a b x=>have z:=h x (by simp[bE.dC]);simp only[bE.reads,z]
 |app a b c x y=>have z:=h x (by simp[bE.dC]);have h2:=h y (by simp[bE.dC]);simp only[bE.reads,z,h2]
 |sc a x y=>have z:=h x (by simp[bE.dC]);simp only[bE.reads,z]
 |pH x=>have z:=h x (by simp[bE.dC]);simp only[bE.reads,z]
 |store a x y=>have z:=h x (by simp[bE.dC]);simp only[bE.reads,z]
 |qp t n x=>have z:=h x (by simp[bE.dC]);simp only[bE.reads,z]
 |qw t x n=>have z:=h x (by simp[bE.dC]);simp only[bE.reads,z]
 |vS a b x lo hi=>have z:=h x (by simp[bE.dC]);simp only[bE.reads,z]
 |_=>rfl
end
def j9(ρ:Ho)(C:Nat→Option dP)(H:aB):Prop:=∀f o,(∃g h,ρ f g=some h)→H.t.get f=some o→C f=some o
structure kt(P:Program)(call:eF):Prop where
 mz:∀f args H,H.bc≤H.next→TM H (call f args H)
 sound:∀f args H v H' ρ C w(bZ:Array Value),call f args H= .ok v H'→H.bc≤H.next→(∀x,H.next≤x→H.t.get x=none)→R ρ C w→j9 ρ C H→ic ρ H.next H'.next→uy P ρ→cB ρ args bZ.toList→
  ((callFunc f bZ).run P w= .ok (.enter f bZ) w∧Calls P f bZ w fun e w'=>∃cv,e= .returned cv∧dU ρ C w H v H' cv w')∨
  ∃cv w',(callFunc f bZ).run P w= .ok (.value cv) w'∧dU ρ C w H v H' cv w'
section
variable{P:Program}{ρ:Ho}{nt:Nat}{E:Env}{a:Act}{C:Nat→Option dP}{w:World}{H H':aB}{v:an}{o:Oper}{call:eF}
theorem Rb(J:AR P ρ nt E a)(K:R ρ C w)(O:ic ρ H.next H'.next)(U:j9 ρ C H)(Y:H.bc≤H.next)(G:∀x,H.next≤x→H.t.get x=none)(Z:kt P call){c:Call}{f:Nat}{args:List aG}
  (ho:o.op= .call c) (A:c.callee= .value (.func f)) (hx:kX P c.args.toList=some args) (h:Aj f args call E H= .ok v H'):fi P o a w (dU ρ C w H v H'):=by
 replace h:=jl h;obtain⟨vs,hv,h⟩:=h
 have h1:=J.dC hx hv
 rcases Z.sound f vs H v H' ρ C w (c.args.map a.eval) h Y G K U O J.rz (by simpa using h1) with⟨hp,I⟩|⟨cv,w',hp,z⟩
 ·refine .inr (.inr ⟨f,c.args.map a.eval,?_,I⟩)
  simp[execOp,ho,resolve,A,Deferred.ofValue,Act.eval,invoke,hp]
 refine .inl ⟨cv,w',?_,z⟩
 simp[execOp,ho,resolve,A,Deferred.ofValue,Act.eval,invoke,hp]
theorem QH(G:AR P ρ nt E a)(Z:R ρ C w)(hF:ic ρ H.next H'.next)(hK:j9 ρ C H)(hm:H.bc≤H.next)(I:∀x,H.next≤x→H.t.get x=none)(hc:kt P call){c:Call}{x:Operand}{O:aG}{args:List aG}
  (ho:o.op= .call c) (A:c.callee= .value x) (J:de P x=some O) (hx:kX P c.args.toList=some args) (h:zO O args call E H= .ok v H'):fi P o a w (dU ρ C w H v H'):=by
 replace h:=fo h;obtain⟨u,hu,h⟩:=h
 replace h:=RG h;obtain⟨f,fs,eG,rfl,h⟩:=h
 replace h:=jl h;obtain⟨vs,hv,h⟩:=h
 have h1:=G.dC hx hv
 have h2:=G.b9 J hu
 simp only[VR] at h2
 obtain⟨U,Y,h2,h4,h3⟩:=h2
 rcases hc.sound f (fs++(vs++eG)) H v H' ρ C w (U++c.args.map a.eval++Y) h hm I Z hK hF G.rz (by simpa using cB.append h4 (cB.append h1 h3)) with⟨hp,K⟩|⟨cv,w',hp,z⟩
 ·refine .inr (.inr ⟨f,U++c.args.map a.eval++Y,?_,K⟩)
  rw[Array.append_assoc] at hp⊢
  simp[execOp,ho,resolve,A,Deferred.ofValue,h2,invoke,hp]
 refine .inl ⟨cv,w',?_,z⟩
 rw[Array.append_assoc] at hp
 simp[execOp,ho,resolve,A,Deferred.ofValue,h2,invoke,hp]
end
section
variable{P:Program}{ρ:Ho}{nt:Nat}{E:Env}{a:Act}{C:Nat→Option dP}{w:World}{H H':aB}{v:an}{o:Oper}{call:eF}
def vu(cells:Array Value)(off:Nat)(v:Array Value):Array Value:=v.zipIdx.foldl (fun cs(c,j)=>cs.setIfInBounds (off+j) c) cells
theorem Jh(cells:Array Value)(off:Nat)(v:Array Value):(vu cells off v).size=cells.size:=by
 unfold vu
 rw[←Array.foldl_toList,Oz]
 exact(Great.foldl_set off v.toList 0 cells).1
theorem Fv(cells:Array Value)(off:Nat)(v:Array Value)(k:Nat):(vu cells off v)[k]?=if off≤k∧k<off+v.size∧k<cells.size then v[k-off]?else cells[k]?:=by
 unfold vu
 rw[←Array.foldl_toList,Oz]
 rw[(Great.foldl_set off v.toList 0 cells).2 k]
 simp
theorem J9{place:Nat→Option (Nat×Nat)}{cells:Array Value}{i off size:Nat}{v:Value}{rest:List (Nat×Value)}(hp:place i=some (off,size))(z:v.cells.size=size)(A:off+size≤cells.size):
  Instr.fill place cells ((i,v)::rest)=Instr.fill place (vu cells off v.cells) rest:=by
 rw[Instr.fill]
 simp only[hp,z]
 rw[aj (by simp;omega)]
 rfl
theorem RP{z new:List an}{off:Nat}(G:z.all gW=true)(I:new.all gW=true):(gV z off new).all gW=true:=by
 unfold gV
 simp only[Ej,sB] at*
 rintro x(A|A|A)
 ·exact G x (HI A)
 ·exact I x A
 exact G x (Ow A)
theorem LC(hA:AR P ρ nt E a){place:Nat→Option (Nat×Nat)}:∀{ps:List (Nat×Operand)}{J:List (Nat×Nat×aG)}(_:xp P place ps=some J)(z:List an)(cells:Array Value)(G:List an),
  (∀p∈J,p.1+p.2.1≤z.length)→cB ρ z cells.toList→z.all gW=true→pI E J z=some G→∃A,Instr.fill place cells (ps.map fun p=>(p.1,a.eval p.2))=some A∧cB ρ G A.toList∧G.all gW=true
 |[],J,hp,z,cells,G,_,Z,hk,h=>by
  cases hp
  cases h
  exact⟨cells,rfl,Z,hk⟩
 |(i,x)::r,J,hp,z,cells,G,hle,Z,hk,h=>by
  unfold xp at hp
  split at hp
  ·rename_i q y l hq hy hl
   cases hp
   have h:ob (y.ev E) none (fun v=>ob (jK v) none fun new=>aH (Nat.beq (jf new) q.2) (pI E l (gV z q.1 new)) none)=some G:=h
   cases hu:y.ev E with
   |none=>rw[hu] at h;cases h
   |some u=>
    rw[hu] at h
    cases hc:jK u with
    |none=>simp only[ob] at h;rw[hc] at h;cases h
    |some new=>
     have h:ob (jK u) none (fun new=>aH (Nat.beq (jf new) q.2) (pI E l (gV z q.1 new)) none)=some G:=h
     rw[hc] at h
     have h:aH (Nat.beq (jf new) q.2) (pI E l (gV z q.1 new)) none=some G:=h
     cases K:Nat.beq (jf new) q.2
     ·rw[K] at h;cases h
     rw[K,f9] at h
     have K:=dZ K
     rw[ou] at K
     have h1:=(hA.b9 hy hu).cells hc
     have O:(a.eval x).cells.size=new.length:=by have:=h1.1.length;simpa using this
     have U:cells.size=z.length:=by have:=Z.length;simpa using this
     have I:=hle (q.1,q.2,y) (lh ..)
     have I:q.1+q.2≤z.length:=I
     have Y:=Jf (l:=z) (new:=new) (r:=q.1) (n:=q.2) I K
     obtain⟨A,k1,k2,k3⟩:=LC hA hl (gV z q.1 new) (vu cells q.1 (a.eval x).cells) G (fun p hp=>by rw[Y];exact hle p (nO _ hp)) (cB.qT (by simp[Jh,Y,U]) fun k av hk=>by
       rw[JO I K] at hk
       simp only[OA,Fv,O]
       split at hk
       ·rename_i rG
        rw[aw (by omega)]
        obtain⟨cv,g1,g2⟩:=h1.1.get _ av hk
        exact⟨cv,by simpa using g1,g2⟩
       rename_i rG
       rw[aj (by omega)]
       obtain⟨cv,g1,g2⟩:=Z.get _ av hk
       exact⟨cv,by simpa using g1,g2⟩) (RP hk h1.2) h
     refine⟨A,?_,k2,k3⟩
     rw[eB,J9 (off:=q.1) (size:=q.2) hq (O.trans K) (by rw[U];exact I)]
     exact k1
  cases hp
theorem Jw(O:AR P ρ nt E a)(U:R ρ C w){t:TypeId}{parts:Array (Nat×Operand)}{place:Nat→Option (Nat×Nat)}{z:List an}{cells:Array Value}{io:bE}(ho:o.op= .build t parts)
  (Y:cB ρ z cells.toList) (hk:z.all gW=true) (Z:∀vs,Instr.fill place cells vs=P.built t vs) (G:Ce z (xp P place parts.toList)=some io) (h:io.ev call E H= .ok v H'):fi P o a w (dU ρ C w H v H'):=by
 unfold Ce at G
 split at G
 ·rename_i l hl
  split at G
  ·rename_i I
   cases G
   have h:ob (pI E l z) (.err 23) (fun cs=>aE.ok (.agg cs) H)= .ok v H':=h
   replace h:=jl h
   obtain⟨K,J,h⟩:=h
   cases h
   obtain⟨A,k1,k2,k3⟩:=LC O hl z cells K (fun p hp=>by
    have:=List.all_eq_true.1 I p hp
    simpa using this) Y hk J
   refine gD (cv:=.agg A) ?_ U (by simp only[VR];exact⟨A,rfl,k2,k3⟩)
   have:=run_build (P:=P) w t (parts.map fun(i,x)=>(i,a.eval x)) A (by rw[←Z,←k1];simp)
   simp[execOp,ho,this]
  cases G
 cases G
theorem QI(O:AR P ρ nt E a)(U:R ρ C w){t:TypeId}{parts:Array (Nat×Operand)}{io:bE}(ho:o.op= .build t parts)(A:Gr P t parts.toList=some io)(h:io.ev call E H= .ok v H'):fi P o a w (dU ρ C w H v H'):=by
 unfold Gr at A
 split at A
 ·rename_i z Z
  obtain⟨i,zv,hi,G,Y,hk,_,_,_⟩:=wK Z
  split at A
  ·rename_i fs J
   split at A
   ·rename_i I hp
    exact Jw O U ho (Y ρ) hk (fun vs=>by simp[Program.built,hi,J,G,hp]) A h
   cases A
  ·rename_i n e J
   split at A
   ·rename_i ie K
    exact Jw O U ho (Y ρ) hk (fun vs=>by simp[Program.built,hi,J,G,K]) A h
   cases A
  cases A
 cases A
def Fl(ρ:Ho)(n es:Nat)(t:RT)(cells:Array Value):Prop:=
 ∀i,i<n→∃l,t.get i=some l∧l.length=es∧∀j x,l[j]?=some x→gW x=true∧∃cv,cells[i*es+j]?=some cv∧VR ρ x cv
theorem FZ(x:List an)(i:Nat):∀n,(pP x n).get i=if i<n then some x else none
 |0=>rfl
 |n+1=>by
  show((pP x n).set n x).get i=_
  rw[RT.eU,FZ x i n]
  by_cases h:i=n
  ·rw[aw h,aw (by omega)]
  rw[aj h]
  by_cases h2:i<n
  ·rw[aw h2,aw (by omega)]
  rw[aj h2,aj (by omega)]
theorem Qi{z:Array Value}{es i j N:Nat}(A:z.size=es)(G:j<es)(hN:i*es+j<N):(madeCells z N)[i*es+j]?=z[j]?:=by
 unfold madeCells
 rw[Array.getElem?_map,Array.getElem?_range,aw hN]
 have e:(i*es+j) % z.size=j:=by rw[A,Nat.add_comm,Nat.add_mul_mod_self_right,Ax G]
 simp only[sA,e]
 rw[getElem!_pos z j (by omega),wa (by omega)]
theorem LD{z:List an}{A:Array Value}{es n N:Nat}(K:cB ρ z A.toList)(hk:z.all gW=true)(G:z.length=es)(hN:n*es≤N):Fl ρ n es (pP z n) (madeCells A N):=by
 intro i hi
 refine⟨z,by rw[FZ,aw hi],G,fun j x I=>⟨List.all_eq_true.1 hk x (lG I),?_⟩⟩
 obtain⟨cv,O,h2⟩:=K.get j x I
 have U:j<es:=by rw[←G];exact(List.getElem?_eq_some_iff.1 I).1
 have J:A.size=es:=by have:=K.length;rw[←G];simpa using this
 have dR:i*es+es≤n*es:=by have:=kN es (show i+1≤n by omega);rwa [Eu] at this
 exact⟨cv,by rw[Qi J U (by omega)];simpa using O,h2⟩
theorem J'(hA:AR P ρ nt E a){es A:Nat}:∀{ps:List (Nat×Operand)}{I:List (Nat×aG)}(_:Cd P ps=some I)(t t':RT)(cells:Array Value),cells.size=A*es→Fl ρ A es t cells→qh E es A I t=some t'→
  ∃z,Instr.fill (fun i=>some (i*es,es)) cells (ps.map fun p=>(p.1,a.eval p.2))=some z∧z.size=A*es∧Fl ρ A es t' z
 |[],I,hp,t,t',cells,U,hf,h=>by
  cases hp
  cases h
  exact⟨cells,rfl,U,hf⟩
 |(i,x)::r,I,hp,t,t',cells,U,hf,h=>by
  unfold Cd at hp
  split at hp
  ·rename_i y l hy hl
   cases hp
   have h:ob (y.ev E) none (fun v=>ob (jK v) none fun new=>aH (Nat.beq (jf new) es) (aH (Nat.ble (Nat.succ i) A) (qh E es A l (t.set i new)) none) none)=some t':=h
   cases hu:y.ev E with
   |none=>rw[hu] at h;cases h
   |some u=>
    rw[hu] at h
    have h:ob (jK u) none (fun new=>aH (Nat.beq (jf new) es) (aH (Nat.ble (Nat.succ i) A) (qh E es A l (t.set i new)) none) none)=some t':=h
    cases hc:jK u with
    |none=>rw[hc] at h;cases h
    |some new=>
     rw[hc] at h
     have h:aH (Nat.beq (jf new) es) (aH (Nat.ble (Nat.succ i) A) (qh E es A l (t.set i new)) none) none=some t':=h
     cases J:Nat.beq (jf new) es
     ·rw[J] at h;cases h
     rw[J,f9] at h
     cases G:Nat.ble (Nat.succ i) A
     ·rw[G] at h;cases h
     rw[G,f9] at h
     have J:=dZ J
     rw[ou] at J
     have G:i+1≤A:=bW G
     have h1:=(hA.b9 hy hu).cells hc
     have ns:(a.eval x).cells.size=new.length:=by have:=h1.1.length;simpa using this
     have mono:∀{p q:Nat},p+1≤q→p*es+es≤q*es:=fun{p q}h=>by have:=kN es h;rwa [Eu] at this
     have rG:=mono G
     obtain⟨z,k1,k2,k3⟩:=J' hA hl (t.set i new) t' (vu cells (i*es) (a.eval x).cells) (by rw[Jh,U]) (fun k hk=>by
      rw[RT.eU]
      by_cases K:k=i
      ·subst K
       rw[aw rfl]
       refine⟨new,rfl,J,fun j Y O=>⟨List.all_eq_true.1 h1.2 Y (lG O),?_⟩⟩
       obtain⟨cv,g1,Z⟩:=h1.1.get j Y O
       have A7:j<es:=by rw[←J];exact(List.getElem?_eq_some_iff.1 O).1
       refine⟨cv,?_,Z⟩
       rw[Fv,aw (by omega),HS]
       simpa using g1
      rw[aj K]
      obtain⟨l0,g1,Z,g3⟩:=hf k hk
      refine⟨l0,g1,Z,fun j Y O=>?_⟩
      obtain⟨m1,cv,m2,m3⟩:=g3 j Y O
      have A7:j<es:=by rw[←Z];exact(List.getElem?_eq_some_iff.1 O).1
      refine⟨m1,cv,?_,m3⟩
      rw[Fv,aj ?_]
      ·exact m2
      rcases Nat.lt_or_gt_of_ne K with dR|E3
      ·have:=mono (show k+1≤i from dR);omega
      have:=mono (show i+1≤k from E3);omega) h
     refine⟨z,?_,k2,k3⟩
     rw[eB,J9 (off:=i*es) (size:=es) rfl (ns.trans J) (by rw[U];exact rG)]
     exact k1
  cases hp
theorem KS(I:R ρ C w)(J:ic ρ H.next (H.next+1)){e es aT n cap:Nat}{t:RT}{cells:Array Value}(he:0<es)(z:n≤cap)(G:cells.size=cap*es)(A:Fl ρ n es t cells){w':World}(K:w'.heap=w.heap.push (.cells cells e))
  (O:w'.os=w.os) (h2:w'.tape=w.tape) (U:w'.output=w.output):dU ρ C w H (.slice H.next n 0 n es) ⟨H.next+1,H.bc,H.ws,H.t.set H.next (.row e es aT n n 0 t)⟩ (.slice (some ⟨w.heap.size,0,none⟩) n cap) w':=by
 obtain⟨ρ',Y,Z,g3⟩:=I.alloc (f:=H.next) (elem:=e) (es:=es) (aT:=aT) (n:=n) (cs:=t) (cells:=cells) (w':=w')
  (Wr ⟨H.next+1,H.bc,H.ws,H.t.set H.next (.row e es aT n n 0 t)⟩) (fun g=>J _ g (bY _) (fZ _)) he (by rw[G];exact kN _ z) A K O h2 U
 refine⟨ρ',?_,Z,?_⟩
 ·simp only[VR]
  refine⟨_,_,_,Y,rfl,z,.inl ⟨rfl,?_⟩⟩
  simp only
  rw[G,jA]
  exact bY _
 rw[BM]
 exact g3
theorem Qj(hA:AR P ρ nt E a)(hR:R ρ C w)(hF:ic ρ H.next H'.next){t:TypeId}{I:Nat}{parts:Array (Nat×Operand)}{io:bE}(ho:o.op= .buildSlice t I parts)(A:FW P t I parts.toList=some io)
  (h:io.ev call E H= .ok v H'):fi P o a w (dU ρ C w H v H'):=by
 unfold FW at A
 split at A
 ·rename_i e hu
  split at A
  ·rename_i i z hi hz
   split at A
   ·rename_i l hl
    split at A
    ·rename_i hle
     cases A
     have h:ob (qh E i.size I l (pP z I)) (.err 24) (fun t=>H.alloc (.row e i.size i.bytes I I 0 t) fun f H=>.ok (.slice f I 0 I i.size) H)= .ok v H':=h
     replace h:=jl h
     obtain⟨tr,Z,h⟩:=h
     have h:=wW h
     cases h
     obtain⟨i',K,O,uY,hv,hk,A5,U,yK⟩:=wK hz
     rw[hi] at O
     cases O
     obtain⟨G,k1,k2,k3⟩:=J' hA hl (pP z I) tr (madeCells K.cells (I*i.size)) (size_madeCells _ _) (LD (hv ρ) hk A5 (bY _)) Z
     refine .inl ⟨_,w.alloc (.cells G e),?_,KS hR hF U (bY _) k2 k3 rfl rfl rfl rfl⟩
     have Y:Instr.fill (fun j=>some (j*i.size,i.size)) ((Array.range (I*i.size)).map (K.cells[· % K.cells.size]!)) (parts.map fun(i,x)=>(i,a.eval x)).toList=some G:=by
      rw[←k1];simp[madeCells]
     by_cases h0:I*i.size=0
     ·have e0:(Array.range 0).map (K.cells[· % K.cells.size]!)=#[]:=by rw[show Array.range 0=#[] from rfl];exact Array.map_empty ..
      rw[h0,e0] at Y
      have E4:Instr.fill (fun j=>some (j*i.size,i.size)) #[] (parts.toList.map fun x=>(x.1,a.eval x.2))=some G:=by rw[←Y];simp
      simp[execOp,ho,Instr.buildSlice,run_underlying hu,sizeOf,typeInfo,hi,h0,newRow,E4,show Array.range 0=#[] from rfl]
     have J:¬(2^24<I*i.size):=by omega
     simp at Y J
     simp[execOp,ho,Instr.buildSlice,run_underlying hu,sizeOf,typeInfo,hi,J,h0,zeroValue,uY,Y,newRow]
    cases A
   cases A
  cases A
 cases A
theorem Rc(hA:AR P ρ nt E a)(hR:R ρ C w)(hF:ic ρ H.next H'.next){t:TypeId}{x y:Operand}{O U:aG}{io:bE}(ho:o.op= .makeSlice t x y)(hx:de P x=some O)(hy:de P y=some U)(A:GP P t O U=some io)
  (h:io.ev call E H= .ok v H'):fi P o a w (dU ρ C w H v H'):=by
 unfold GP at A
 split at A
 ·rename_i e hu
  split at A
  ·rename_i i z hi hz
   split at A
   ·rename_i hb
    cases A
    have h:Ag e i.size i.bytes z O U E H= .ok v H':=h
    replace h:=fo h;obtain⟨u,Y,h⟩:=h
    replace h:=rT h;obtain⟨kl,l0,rfl,h⟩:=h
    replace h:=vt h;obtain⟨l,rfl,h⟩:=h
    replace h:=fo h;obtain⟨u2,Z,h⟩:=h
    replace h:=rT h;obtain⟨kc,c0,rfl,h⟩:=h
    replace h:=vt h;obtain⟨c,rfl,h⟩:=h
    replace h:=fE h;obtain⟨I,h⟩:=h
    replace h:=fE h;obtain⟨g2,h⟩:=h
    replace h:=fE h;obtain⟨g3,h⟩:=h
    rw[Gp] at h
    have h:=wW h
    cases h
    have I:=bW I
    have g2:c*i.bytes≤70368744177664:=bW g2
    have g3:=bW g3
    obtain⟨i',zv,J,uY,hv,hk,A5,K,yK⟩:=wK hz
    rw[hi] at J
    cases J
    have e1:=hA.b9 hx Y
    have e2:=hA.b9 hy Z
    simp only[VR] at e1 e2
    have G:=run_make (P:=P) w t e i zv hu hi uY kl kc (l:Int) (c:Int) (Int.natCast_nonneg l) (Int.ofNat_le.2 I) (by
     have:((i.bytes*c:Nat):Int)≤((281474976710656:Nat):Int):=Int.ofNat_le.2 (by rw[mL];omega)
     rw[Int.natCast_mul] at this
     exact this) (by omega)
    simp only[Ek] at G
    refine .inl ⟨_,w.alloc (.cells (madeCells zv.cells (c*i.size)) e),?_,KS hR hF K I (size_madeCells _ _) (LD (hv ρ) hk A5 (kN _ I)) rfl rfl rfl rfl⟩
    rw[show(execOp a.eval o)=_ from rfl]
    simp only[execOp,ho,e1,e2]
    simp only[Sem.run_bind,G,Result.andThen_ok]
    rfl
   cases A
  cases A
 cases A
end
section
variable{P:Program}{ρ:Ho}{nt:Nat}{E:Env}{a:Act}{C:Nat→Option dP}{w:World}{H H':aB}{v:an}{o:Oper}{call:eF}
theorem FN(b:Bool)(k:Bool→aE):mY b k=k b:=by cases b<;>rfl
set_option maxHeartbeats 1000000 in
theorem U0(Y:Nat){c:yB}{t:TypeId}{d:TypeDesc}(G:P.underlying t=some d)(A:Hp P d=some c){x y:an}{I cy:Value}(z:VR ρ x I)(h2:VR ρ y cy){r:Bool}(h:nr c x y=some r):
  (Op.equalIn (Y+1) t I cy).run P w= .ok r w∧(∀k n,I≠.int k n)∧(∀b,I≠.string b)∧(∀k n,I≠.float k n)∧(∀k n m,I≠.complex k n m)∧(∀cs,I≠.agg cs)∧(I= .nilIface→∃ms,d= .interface ms):=by
 unfold Hp at A
 split at A
 ·cases A
  unfold nr at h
  simp only at h
  split at h
  ·simp only[VR] at z h2
   subst z;subst h2
   cases h
   exact⟨by simp[Op.equalIn,run_underlying G],by simp,by simp,by simp,by simp,by simp,by simp⟩
  cases h
 ·rename_i e
  split at A
  ·rename_i ie K
   cases A
   unfold nr at h
   simp only at h
   split at h
   ·simp only[VR] at z h2
    subst z;subst h2;cases h
    exact⟨by simp[Op.equalIn,run_underlying G],by simp,by simp,by simp,by simp,by simp,by simp⟩
   ·simp only[VR] at z h2
    obtain⟨_,_,rfl⟩:=h2
    subst z;cases h
    exact⟨by simp[Op.equalIn,run_underlying G],by simp,by simp,by simp,by simp,by simp,by simp⟩
   ·simp only[VR] at z h2
    obtain⟨_,_,rfl⟩:=z
    subst h2;cases h
    exact⟨by simp[Op.equalIn,run_underlying G],by simp,by simp,by simp,by simp,by simp,by simp⟩
   ·rename_i f g o f' g' Z
    cases b1:Nat.beq f f'
    ·rw[b1] at h;cases h
    rw[b1,f9] at h
    cases b2:Nat.beq g g'
    ·rw[b2] at h;cases h
    rw[b2,f9] at h
    cases J:Nat.beq o Z
    ·rw[J] at h;cases h
    rw[J,f9] at h
    cases h
    have b1:=dZ b1
    have b2:=dZ b2
    have J:=dZ J
    subst b1;subst b2;subst J
    simp only[VR] at z h2
    obtain⟨hm,k1,rfl⟩:=z
    obtain⟨E7,U,rfl⟩:=h2
    rw[k1] at U
    cases U
    exact⟨by simp[Op.equalIn,run_underlying G,sizeOf,typeInfo,K,run_sameAddr_same],by simp,by simp,by simp,by simp,by simp,by simp⟩
   cases h
  cases A
 ·cases A
  unfold nr at h
  simp only at h
  split at h
  ·simp only[VR] at z h2
   subst z;subst h2;cases h
   exact⟨by simp[Op.equalIn,run_underlying G],by simp,by simp,by simp,by simp,by simp,by simp⟩
  ·simp only[VR] at z h2
   obtain⟨_,_,_,_,rfl,_⟩:=h2
   subst z;cases h
   exact⟨by simp[Op.equalIn,run_underlying G],by simp,by simp,by simp,by simp,by simp,by simp⟩
  ·simp only[VR] at z h2
   obtain⟨_,_,_,_,rfl,_⟩:=z
   subst h2;cases h
   exact⟨by simp[Op.equalIn,run_underlying G],by simp,by simp,by simp,by simp,by simp,by simp⟩
  cases h
 ·rename_i ms
  cases A
  unfold nr at h
  simp only at h
  split at h
  ·simp only[VR] at z h2
   subst z;subst h2;cases h
   exact⟨by simp[Op.equalIn,run_underlying G],by simp,by simp,by simp,by simp,by simp,fun _=>⟨ms,rfl⟩⟩
  ·simp only[VR] at z h2
   obtain⟨_,rfl,_⟩:=h2
   subst z;cases h
   exact⟨by simp[Op.equalIn,run_underlying G],by simp,by simp,by simp,by simp,by simp,fun _=>⟨ms,rfl⟩⟩
  ·simp only[VR] at z h2
   obtain⟨_,rfl,_⟩:=z
   subst h2;cases h
   exact⟨by simp[Op.equalIn,run_underlying G],by simp,by simp,by simp,by simp,by simp,by simp⟩
  ·rename_i t1 _ t2 _
   cases b1:Nat.beq t1 t2
   ·rw[b1] at h
    cases h
    have O:t1≠t2:=fun e=>by rw[e,iX] at b1;cases b1
    simp only[VR] at z h2
    obtain⟨_,rfl,_⟩:=z
    obtain⟨_,rfl,_⟩:=h2
    exact⟨by simp[Op.equalIn,run_underlying G,O],by simp,by simp,by simp,by simp,by simp,by simp⟩
   rw[b1] at h;cases h
  cases h
 ·cases A
  unfold nr at h
  simp only at h
  split at h
  ·simp only[VR] at z h2
   subst z;subst h2;cases h
   exact⟨by simp[Op.equalIn,run_underlying G],by simp,by simp,by simp,by simp,by simp,by simp⟩
  ·simp only[VR] at z h2
   obtain⟨_,_,rfl,_⟩:=h2
   subst z;cases h
   exact⟨by simp[Op.equalIn,run_underlying G],by simp,by simp,by simp,by simp,by simp,by simp⟩
  ·simp only[VR] at z h2
   obtain⟨_,_,rfl,_⟩:=z
   subst h2;cases h
   exact⟨by simp[Op.equalIn,run_underlying G],by simp,by simp,by simp,by simp,by simp,by simp⟩
  cases h
 ·cases A
  unfold nr at h
  simp only at h
  split at h
  ·simp only[VR] at z h2
   subst z;subst h2;cases h
   exact⟨by simp[Op.equalIn,run_underlying G],by simp,by simp,by simp,by simp,by simp,by simp⟩
  cases h
 cases A
theorem Qd{op:BinOp}(G:op= .eql∨op= .neq){t:TypeId}{d:TypeDesc}{x y:Operand}{I cy:Value}(J:P.underlying t=some d)(z:CA x y d=true)(K:∀cs,I≠.agg cs)(O:I= .nilIface→∃ms,d= .interface ms):
  (eqGuard op t x y I cy).run P w= .ok () w:=by
 unfold eqGuard
 rcases G with rfl|rfl
 ·rw[aj (by decide)]
  split
  ·obtain⟨ms,rfl⟩:=O rfl
   simp only[CA,uL] at z
   have e:∀A,(Op.eqGuardIn (A+1) t .nilIface .nilIface).run P w= .ok (!ms.isEmpty) w:=fun A=>by simp[Op.eqGuardIn,run_underlying J]
   rcases z with(z|z)|z
   ·cases x<;>cases y<;>simp[Op.maxDepth,e 9999,z]
   ·cases x<;>simp[wT] at z<;>simp
   cases y<;>simp[wT] at z<;>simp
  ·exact absurd rfl (K _)
  rfl
 rw[aj (by decide)]
 split
 ·obtain⟨ms,rfl⟩:=O rfl
  simp only[CA,uL] at z
  have e:∀A,(Op.eqGuardIn (A+1) t .nilIface .nilIface).run P w= .ok (!ms.isEmpty) w:=fun A=>by simp[Op.eqGuardIn,run_underlying J]
  rcases z with(z|z)|z
  ·cases x<;>cases y<;>simp[Op.maxDepth,e 9999,z]
  ·cases x<;>simp[wT] at z<;>simp
  cases y<;>simp[wT] at z<;>simp
 ·exact absurd rfl (K _)
 rfl
theorem RQ(Z:AR P ρ nt E a)(hR:R ρ C w){op:BinOp}{t t':TypeId}{d:TypeDesc}{x z:Operand}{K O:aG}{io:bE}(ho:o.op= .binOp op t x z t')(hx:de P x=some K)(hz:de P z=some O)(hu:P.underlying t=some d)
  (A:HV P op d x z K O=some io) (h:io.ev call E H= .ok v H'):fi P o a w (dU ρ C w H v H'):=by
 unfold HV at A
 split at A
 ·rename_i c hc
  split at A
  ·rename_i G
   have key:∀neg,(op= .eql∧neg=false)∨(op= .neq∧neg=true)→yC c neg K O E H= .ok v H'→fi P o a w (dU ρ C w H v H'):=by
    intro neg I h
    replace h:=fo h;obtain⟨u,U,h⟩:=h
    replace h:=fo h;obtain⟨u2,Y,h⟩:=h
    replace h:=jl h;obtain⟨r,hr,h⟩:=h
    rw[FN] at h
    cases h
    obtain⟨g0,g1,g2,g3,g4,g5,g6⟩:=U0 (w:=w) 9999 hu hc (Z.b9 hx U) (Z.b9 hz Y) hr
    have hg:=Qd (w:=w) (op:=op) (by rcases I with⟨h,_⟩|⟨h,_⟩<;>simp[h]) (x:=x) (y:=z) (cy:=a.eval z) hu G g5 g6
    refine gD (cv:=.bool (Bool.xor neg r)) ?_ hR (by simp only[VR])
    simp only[execOp,ho,Sem.run_bind,hg,Result.andThen_ok]
    generalize a.eval x=J at*
    generalize a.eval z=cz at*
    rcases I with⟨rfl,rfl⟩|⟨rfl,rfl⟩
    ·have:(binOp .eql t J cz).run P w= .ok (.bool r) w:=by
      cases J<;>simp only[binOp]<;>first|exact absurd rfl (g1 _ _)|exact absurd rfl (g2 _)|exact absurd rfl (g3 _ _)|exact absurd rfl (g4 _ _ _)|simp[Op.equal,Op.maxDepth,g0]
     simp[this]
    have:(binOp .neq t J cz).run P w= .ok (.bool (!r)) w:=by
     cases J<;>simp only[binOp]<;>first|exact absurd rfl (g1 _ _)|exact absurd rfl (g2 _)|exact absurd rfl (g3 _ _)|exact absurd rfl (g4 _ _ _)|simp[Op.equal,Op.maxDepth,g0]
    simp[this]
   cases op<;>simp only[gJ,reduceCtorEq] at A
   ·subst A;exact key false (.inl ⟨rfl,rfl⟩) h
   subst A;exact key true (.inr ⟨rfl,rfl⟩) h
  cases A
 cases A
end
end Go.Ev
