/- Part 4 of rules for walks through the code of a program, and of such walks; what each part proves is said by its theorems. -/
import Derived.Test.YtddbkonalipepaaGreatDoorS3
import Derived.Laws.Tables
import Derived.Laws.MakeOwn
import Derived.Great.FillDense
import Derived.LaidEql
set_option linter.unusedVariables false
set_option linter.unusedSimpArgs false
namespace Go.Ev
section
variable{P:Program}{ρ:Ho}{nt:Nat}{E:Env}{a:Act}{C:Nat→Option dP}{w:World}{H H':az}{v:an}{o:Oper}
theorem wI{t:TypeId}{z:List an}(A:zeroOf P t=some z):∃i G,P.info? t=some i∧i.zero=some G∧(∀ρ,cw ρ z G.cells.toList)∧z.all gZ=true∧z.length=i.size∧0<i.size∧G.cells.size=i.size:=by
 unfold zeroOf at A
 split at A
 ·rename_i i hi
  split at A
  ·rename_i G J
   split at A
   ·rename_i Y K
    split at A
    ·rename_i l U
     split at A
     ·rename_i I
      cases A
      have O:=fun ρ=>(BZ ρ _ _ K).cells (JF U)
      refine⟨i,G,hi,J,fun ρ=>(O ρ).1,(O (fun _ _=>none)).2,I.1,I.2,?_⟩
      have:=(O (fun _ _=>none)).1.length
      rw[nh] at this
      omega
     cases A
    cases A
   cases A
  cases A
 cases A
theorem size_zeroCells(z:Array Value)(n:Nat):(Builtin.zeroCells z n).size=n*z.size:=by simp[Builtin.zeroCells]
theorem Mm{b:Bool}{k:aD}{n:Nat}(h:aH b (.err n) k= .ok v H'):b=false∧k= .ok v H':=by
 cases b
 ·exact⟨rfl,h⟩
 cases h
theorem Rz(hR:R ρ C w)(hF:ia ρ H.next H'.next){t Y ty e:TypeId}{i:TypeInfo}{z:List an}{Z:Value}{n:Nat}{new:List (List an)}{news:List Value}
  (ht:P.underlying t=some (.slice e)) (hi:P.info? e=some i) (hz:zeroOf P e=some z) (hb:i.bytes≠0) (hn:0<n) (hl:new.length=n) (G:Flat ρ i.size new news) (hs:Src P i.size Y Z n news w)
  (h:vI e i.size i.bytes n new H= .ok v H'):∃cv w',(Builtin.append_ #[t,Y] ty #[.slice none 0 0,Z]).run P w= .ok cv w'∧dT ρ C w H v H' cv w':=by
 replace h:=fD h;obtain⟨A,h⟩:=h
 rw[vm] at h
 have h:=wS h
 cases h
 have A:=bS A
 have A:n*i.bytes≤70368744177664:=A
 obtain⟨i',zv,I,uV,_,_,_,J,yJ⟩:=wI hz
 rw[hi] at I
 cases I
 have hnb:n≤n*i.bytes:=HE _ (by omega)
 have sM:=grownCap_ge w (0+n) 0 e
 have K:=run_append_grow_src (P:=P) w t Y ty e i zv ht hi uV none 0 0 [] (run_firstCells_none w.drew i.size 0 0 0) Z n news hs (by omega) (by omega) (growslice_fits (by omega) (by rw[jS];omega))
 generalize grownCap w (0+n) 0 e=cp at*
 have O:news.length=n*i.size:=by rw[G.len,hl]
 obtain⟨ρ',h1,h2,h3⟩:=hR.alloc (f:=H.next) (elem:=e) (es:=i.size) (aQ:=i.bytes) (n:=n) (cs:=ju new .emp 0) (cells:=([]++news).toArray++Builtin.zeroCells zv.cells (cp-(0+n)))
  (w':=w.drew.alloc (.cells (([]++news).toArray++Builtin.zeroCells zv.cells (cp-(0+n))) e))
  (Wr ⟨H.next+1,H.bc,H.ws,H.t.set H.next (.row e i.size i.bytes n n 0 (ju new .emp 0))⟩) (fun g=>hF _ g (bY _) (fS _)) J
  (by rw[En,size_zeroCells];simp[O])
  (fun k hk=>by
   rw[s8,aq (by omega)]
   have U:k<new.length:=by omega
   obtain⟨l1,l2⟩:=G.get k _ (eY U)
   refine⟨_,by rw[Eo];exact eY U,l1,fun j x hx=>?_⟩
   obtain⟨k1,cv,k2,k3⟩:=l2 j x hx
   refine⟨k1,cv,?_,k3⟩
   have:=qG k2
   rw[Ep (by simpa using this)]
   simpa using k2) rfl rfl rfl rfl
 refine⟨_,_,K,ρ',?_,h2,?_⟩
 ·simp only[VR]
  refine⟨_,_,_,h1,by rw[jS],by omega,.inl ⟨rfl,?_⟩⟩
  simp only
  rw[En,size_zeroCells,yJ,jS]
  simp only[Ek,List.size_toArray,O]
  rw[←nM]
  exact kN _ (by omega)
 rw[BM]
 exact h3
theorem FO{f:Nat}{o z:dP}(hC:C f=H.t.get f)(_ho:H.t.get f=some o):gy C H ⟨H.next,H.bc,wrote f H.bc H.ws,H.t.set f z⟩=fun x=>if x=f then some z else C x:=by
 funext x
 unfold gy
 simp only
 rw[aj (by omega),GT.eO]
 by_cases h:x=f
 ·subst h
  rw[aq rfl,aq rfl]
  split
  ·rename_i e;rw[hC,←e]
  rfl
 rw[aj h,aj h,aq rfl]
theorem F5(H:az)(f:Nat)(t:HT):Wr ⟨H.next,H.bc,wrote f H.bc H.ws,t⟩ f:=by
 unfold Wr
 simp only[y6]
 by_cases dR:f<H.bc
 ·exact .inl (.inr ⟨trivial,dR⟩)
 exact .inr (by omega)
theorem RA(hR:R ρ C w){t tx ty e:TypeId}{i:TypeInfo}{z:List an}{yc:Value}{n:Nat}{new:List (List an)}{news:List Value}{f g off A gR:Nat}{xc:Value}
  (ht:P.underlying t=some (.slice e)) (hi:P.info? e=some i) (hz:zeroOf P e=some z) (hb:i.bytes≠0) (hn:0<n) (hl:new.length=n) (uU:Flat ρ i.size new news) (hs:Src P i.size tx yc n news w)
  (hx:VR ρ (.slice f g off A gR) xc) (hC0:∀o,(∃g h,ρ f g=some h)→H.t.get f=some o→C f=some o)
  (h:xk e i.size i.bytes n new H f g off A gR= .ok v H'):∃cv w',(Builtin.append_ #[t,tx] ty #[xc,yc]).run P w= .ok cv w'∧dT ρ C w H v H' cv w':=by
 have h:iU (H.t.get f) (aD.err 33) (fun Y HQ mr m lo fl cs=>
  aH (Nat.beq off 0) (aH (Nat.beq g m) (aH (Nat.ble lo g) (aH (Nat.beq A m) (aH (Nat.beq gR i.size) (aH (Nat.beq HQ i.size) (aH (Nat.beq fl 1) (aD.err 32)
   (aH (Nat.ble (Nat.mul (Nat.add m n) i.bytes) 70368744177664) (aH (Nat.beq e Y)
    (dp (Nat.add m n) fun m'=>sb new cs m fun cs=>H.t.gr f (.row Y HQ mr m' lo fl cs) fun t=>
     aD.ok (.slice f m' 0 m' i.size) ⟨H.next,H.bc,wrote f H.bc H.ws,t⟩) (aD.err 32)) (aD.err 32))) (aD.err 32)) (aD.err 32)) (aD.err 32)) (aD.err 32)) (aD.err 32)) (aD.err 32))=aD.ok v H':=by
  cases H;exact h
 obtain⟨Y,HQ,mr,m,lo,fl,cs,hg,h⟩:=KH h
 replace h:=fD h;obtain⟨a1,h⟩:=h
 replace h:=fD h;obtain⟨a2,h⟩:=h
 replace h:=fD h;obtain⟨a3,h⟩:=h
 replace h:=fD h;obtain⟨a4,h⟩:=h
 replace h:=fD h;obtain⟨a5,h⟩:=h
 replace h:=fD h;obtain⟨a6,h⟩:=h
 replace h:=Mm h;obtain⟨a7,h⟩:=h
 replace h:=fD h;obtain⟨a8,h⟩:=h
 replace h:=fD h;obtain⟨a9,h⟩:=h
 rw[iq,vm,GT.j6] at h
 have a1:=d8 a1
 have a2:=d8 a2
 have a3:=bS a3
 have a4:=d8 a4
 have a5:=d8 a5
 have a6:=d8 a6
 have a7:fl≠1:=by intro e;subst e;cases a7
 have a8:=bS a8
 have a9:=d8 a9
 cases h
 subst a1 a2 a4 a6 a9
 obtain⟨i',zv,uW,uV,_,_,_,ym,yJ⟩:=wI hz
 rw[hi] at uW
 cases uW
 simp only[VR] at hx
 obtain⟨G,ad,cap,hh,rfl,uT,qA⟩:=hx
 have hC:C f=H.t.get f:=(hC0 _ ⟨_,_,hh⟩ hg).trans hg.symm
 have sK:C f=some (.row e i.size mr A lo fl cs):=hC.trans hg
 rcases qA with⟨rfl,qA⟩|⟨_,_,qA⟩
 case inr=>omega
 rw[a5] at qA
 obtain⟨_,nX,_,O⟩:=hR.obj f _ sK A G hh
 have O:=O a3 (bY _)
 obtain⟨c,fz,U,hroom⟩:=O.row
 have Pb:news.length=n*i.size:=by rw[uU.len,hl]
 have hnb:A+n≤(A+n)*i.bytes:=HE _ (by omega)
 have hbd:(A+n)*i.bytes≤70368744177664:=a8
 have hadd:(A+n)*i.size=A*i.size+n*i.size:=nM _ _ _
 by_cases J:A+n≤cap
 ·have VL:(A+n)*i.size≤cap*i.size:=kN _ J
  have jb:∀j,j<news.length→(w.cell? ⟨G.b8,G.off+0+A*i.size+j,none⟩).isSome=true:=by
   intro j hj
   simp only[World.cell?,U]
   rw[v8 (by omega)]
   rfl
  have yH:∀j,j<news.length→w.frozen? ⟨G.b8,G.off+0+A*i.size+j,none⟩=false:=by
   intro j hj
   rw[show G.off+0+A*i.size+j=G.off+(A*i.size+j) by omega]
   exact O.xQ a7 _ (by omega) (by omega)
  have wi:=run_append_room_src (P:=P) w t tx ty e i ht hi G.b8 (G.off+0) A cap yc n news hs J jb yH
  obtain⟨s1,s2,s3,s4,s5,s6⟩:=By G.b8 news (G.off+0+A*i.size) w
  obtain⟨c',A6,Ou⟩:=s3 c e fz U
  have Oy:∀q,q<A*i.size→(w.setCells G.b8 (G.off+0+A*i.size) news).cell? ⟨G.b8,G.off+q,none⟩=w.cell? ⟨G.b8,G.off+q,none⟩:=by
   intro q hq
   exact World.cell?_setCells_out _ _ _ _ _ (fun _ _=>by simp only;omega)
  obtain⟨ρ',k1,k2,k3⟩:=hR.grow (H:=H) (mr:=mr) (w':=w.setCells G.b8 (G.off+0+A*i.size) news) (h2:=G)
   (Wr ⟨H.next,H.bc,wrote f H.bc H.ws,H.t.set f (.row e i.size mr (Nat.add A n) lo fl (ju new cs A))⟩) (F5 _ _ _) sK hh hl hn a3 a7 uU
   (by rw[s1];exact bY _) s4 s5 s6 (fun b _ hb=>s2 b hb) ⟨c,c',e,fz,U,A6,Ou⟩ Oy (.inl rfl) (by rw[s1];exact hR.jX _ _ _ hh)
   ⟨c',fz,A6,by omega⟩ (by omega) Oy
   (fun j hj=>by
    rw[show G.off+A*i.size+j=G.off+0+A*i.size+j by omega]
    rw[World.cell?_setCells_in _ _ _ _ jb j (by omega),←eY])
   (fun lk=>absurd rfl lk)
  refine⟨_,_,wi,ρ',?_,k2,?_⟩
  ·simp only[VR]
   exact⟨G,_,_,k1,rfl,J,.inl ⟨rfl,by omega⟩⟩
  rw[FO hC hg]
  exact k3
 have J:cap<A+n:=by omega
 have cellAt:∀q,q<A*i.size→∃cv,w.cell? ⟨G.b8,G.off+q,none⟩=some cv∧cv.oneCell'=true:=by
  intro q hq
  have hi1:q/i.size<A:=by rw[Oh ym];exact hq
  have hj:q % i.size<i.size:=yy _ ym
  obtain⟨l,l1,l2,l3⟩:=O.cell _ hi1
  obtain⟨k1,cv,k2,k3⟩:=l3 (q % i.size) _ (eY (by rw[l2];exact hj))
  refine⟨cv,?_,FE k3 k1⟩
  have:q/i.size*i.size+q % i.size=q:=by rw[mI];exact Ej q i.size
  rwa [nf,this] at k2
 obtain⟨I,E0,nw⟩:∃I:List Value,I.length=A*i.size∧∀q,q<A*i.size→I[q]?=w.cell? ⟨G.b8,G.off+q,none⟩:=by
  refine⟨(List.range (A*i.size)).map fun q=>(w.cell? ⟨G.b8,G.off+q,none⟩).getD undef,by simp,fun q hq=>?_⟩
  obtain⟨cv,k1,_⟩:=cellAt q hq
  simp[hq,k1]
 have hold:(Builtin.firstCells i.size A (.slice (some ⟨G.b8,G.off+0,none⟩) A cap)).run P w.drew= .ok I.toArray w.drew:=by
  refine run_firstCells_some w.drew i.size A _ A cap I E0 fun j u hu=>?_
  rw[Addr.add_lit,ye]
  show w.cell? _=_
  rw[←nw j (by have:=qG hu;omega)]
  exact hu
 have wi:=run_append_grow_src (P:=P) w t tx ty e i zv ht hi uV (some ⟨G.b8,G.off+0,none⟩) A cap I hold yc n news hs J (by omega) (growslice_fits J (by omega))
 have sM:=grownCap_ge w (A+n) cap e
 generalize grownCap w (A+n) cap e=cp at*
 generalize Mn:(I++news).toArray++Builtin.zeroCells zv.cells (cp-(A+n))=cells at*
 have hcsz:cells.size=cp*i.size:=by
  rw[←Mn,En,size_zeroCells,yJ]
  simp only[List.size_toArray,bJ,E0,Pb]
  rw[←nM,←nM]
  congr 1
  omega
 have E3:∀q,q<(A+n)*i.size→cells[q]?=(I++news)[q]?:=by
  intro q hq
  rw[←Mn,Ep (by simp[E0,Pb];omega)]
  simp
 have K:∀q,(w.drew.alloc (.cells cells e)).cell? ⟨w.heap.size,q,none⟩=cells[q]?:=by
  intro q
  have:(w.drew.alloc (.cells cells e)).heap[w.heap.size]?=some (.cells cells e (0,0)):=by
   show(w.heap.push _)[w.heap.size]?=_
   simp
  simp only[World.cell?,this]
  simp
 have Z:∀b,b<w.heap.size→(w.drew.alloc (.cells cells e)).heap[b]?=w.heap[b]?:=fun b hb=>by
  show(w.heap.push _)[b]?=_
  rw[HA,aj (by omega)]
 have WB:∀q,(w.drew.alloc (.cells cells e)).frozen? ⟨w.heap.size,q,none⟩=false:=by
  intro q
  have:(w.drew.alloc (.cells cells e)).heap[w.heap.size]?=some (.cells cells e (0,0)):=by
   show(w.heap.push _)[w.heap.size]?=_
   simp
  simp only[World.frozen?,this]
  simp
 have VL:(A+n)*i.size≤cp*i.size:=kN _ sM
 obtain⟨ρ',k1,k2,k3⟩:=hR.grow (H:=H) (mr:=mr) (w':=w.drew.alloc (.cells cells e)) (h2:=⟨w.heap.size,0,cells.size,false,false⟩)
  (Wr ⟨H.next,H.bc,wrote f H.bc H.ws,H.t.set f (.row e i.size mr (Nat.add A n) lo fl (ju new cs A))⟩) (F5 _ _ _) sK hh hl hn a3 a7 uU
  (by show w.heap.size≤(w.heap.push _).size;simp) rfl rfl rfl (fun b hb _=>Z b hb) ⟨c,c,e,fz,U,by rw[Z _ (hR.jX _ _ _ hh)];exact U,rfl⟩
  (fun q _=>cell_of_heap (w:=w) (Z _ (hR.jX _ _ _ hh))) (.inr ⟨bY _,rfl⟩) (by show w.heap.size<(w.heap.push _).size;simp)
  ⟨cells,(0,0),by show(w.heap.push _)[w.heap.size]?=_;simp,by simp⟩ (by simp only;omega)
  (fun q hq=>by
   rw[jS,K,E3 q (by omega),qs (by omega)]
   exact nw q hq)
  (fun j hj=>by
   rw[jS,K,E3 _ (by omega),v7 (by omega),E0]
   congr 1
   omega)
  (fun _=>⟨rfl,fun q=>WB q,fun c1 e1 sJ jb=>by
   have h0:(w.heap.push (Obj.cells cells e))[w.heap.size]?=some (.cells c1 e1 sJ):=jb
   simp at h0
   rw[←h0.2.2]⟩)
 refine⟨_,_,wi,ρ',?_,k2,?_⟩
 ·simp only[VR]
  exact⟨_,_,_,k1,rfl,by show A+n≤cp;exact sM,.inl ⟨rfl,by simp only;omega⟩⟩
 rw[FO hC hg]
 exact k3
end
section
variable{P:Program}{ρ:Ho}{nt:Nat}{E:Env}{a:Act}{C:Nat→Option dP}{w:World}{H H':az}{v:an}{o:Oper}
theorem I9{at_:Array TypeId}{t z ty:TypeId}{args:Array Value}(h0:at_[0]?=some t)(A:at_[1]?=some z):Builtin.append_ at_ ty args=Builtin.append_ #[t,z] ty args:=by
 unfold Builtin.append_
 simp[h0,A]
theorem JH(Y:R ρ C w)(hF:ia ρ H.next H'.next){t Z ty e:TypeId}{i:TypeInfo}{z:List an}{G:an}{O yc:Value}{n:Nat}{new:List (List an)}{news:List Value}
  (ht:P.underlying t=some (.slice e)) (hi:P.info? e=some i) (hz:zeroOf P e=some z) (hb:i.bytes≠0) (hl:new.length=n) (I:Flat ρ i.size new news) (U:Src P i.size Z yc n news w)
  (A:VR ρ G O) (hC:∀f o,f∈iV (some G)→(∃g h,ρ f g=some h)→H.t.get f=some o→C f=some o)
  (h:jU e i.size i.bytes n new H G= .ok v H'):∃cv w',(Builtin.append_ #[t,Z] ty #[O,yc]).run P w= .ok cv w'∧dT ρ C w H v H' cv w':=by
 cases n with
 |zero=>
  have wz:news=[]:=by
   have:=I.len
   rw[hl,re] at this
   exact sG this
  subst wz
  have h:gU G (aD.err 31) (aD.ok G H) (fun _ _ _ _ _=>aD.ok G H)=aD.ok v H':=h
  replace h:=wG h
  have hk:=U.kind
  have fin:∀base l c,O= .slice base l c→l≤c→(Builtin.append_ #[t,Z] ty #[O,yc]).run P w= .ok O w:=by
   intro base l c e J
   subst e
   have h2:=U.cells
   rcases hk with⟨e',hk⟩|hk<;>cases base<;>simp[Builtin.append_,run_underlying ht,run_underlying hk,sizeOf,typeInfo,hi,U.len,J,h2,storeCells]
  rcases h with⟨rfl,h⟩|⟨f,g,o1,l,es,rfl,h⟩
  ·cases h
   have K:=A
   simp only[VR] at A
   exact⟨O,w,fin _ _ _ A (bY _),dT.pure Y K⟩
  cases h
  have K:=A
  simp only[VR] at A
  obtain⟨hm,ad,cap,hh,rfl,J,qA⟩:=A
  exact⟨_,w,fin _ _ _ rfl J,dT.pure Y K⟩
 |succ n=>
  have h:gU G (aD.err 34) (vI e i.size i.bytes (n+1) new H) (xk e i.size i.bytes (n+1) new H)=aD.ok v H':=h
  replace h:=wG h
  rcases h with⟨rfl,h⟩|⟨f,g,o1,l,es,rfl,h⟩
  ·simp only[VR] at A
   subst A
   exact Rz Y hF ht hi hz hb (HF _) hl I U h
  exact RA Y ht hi hz hb (HF _) hl I U A (fun o=>hC f o (by simp[iV])) h
theorem RB(hA:AR P ρ nt E a)(hR:R ρ C w)(hF:ia ρ H.next H'.next){c:Call}{x y:Operand}{x' y':aF}{t u e e2:TypeId}{i:TypeInfo}{z:List an}
  (ho:o.op= .call c) (hc:c.callee= .builtin .append) (K:c.args=#[x,y]) (hx:dc P x=some x') (hy:dc P y=some y') (h0:c.argTypes[0]?=some t) (h1:c.argTypes[1]?=some u)
  (ht:P.underlying t=some (.slice e)) (I:P.underlying u=some (.slice e2)) (hi:P.info? e=some i) (hz:zeroOf P e=some z) (hb:i.bytes≠0)
  (hC:∀f o,f∈iV (x'.ev E)++iV (y'.ev E)→(∃g h,ρ f g=some h)→H.t.get f=some o→C f=some o)
  (h:AK e i.size i.bytes x' y' E H= .ok v H'):fb P o a w (dT ρ C w H v H'):=by
 replace h:=fe h;obtain⟨xa,U,h⟩:=h
 replace h:=fe h;obtain⟨ya,Y,h⟩:=h
 have Ij:=hA.b9 hx U
 have A:=hA.b9 hy Y
 obtain⟨i',zv,Z,uV,_,_,_,ym,yJ⟩:=wI hz
 rw[hi] at Z
 cases Z
 have hCx:∀f o,f∈iV (some xa)→(∃g h,ρ f g=some h)→H.t.get f=some o→C f=some o:=fun f o hf=>hC f o (by rw[U];exact Oi _ hf)
 have done:∀{n:Nat}{new:List (List an)}{news:List Value},new.length=n→Flat ρ i.size new news→Src P i.size u (a.eval y) n news w→jU e i.size i.bytes n new H xa= .ok v H'→fb P o a w (dT ρ C w H v H'):=by
  intro n new news hl G hs h
  obtain⟨cv,w',wi,hp⟩:=JH hR hF (ty:=o.type) ht hi hz hb hl G hs Ij hCx h
  refine .inl ⟨cv,w',?_,hp⟩
  simp[execOp,ho,resolve,hc,K,invoke,builtin,I9 h0 h1,wi]
 replace h:=wG h
 rcases h with⟨rfl,h⟩|⟨f,g,o1,l,es,rfl,h⟩
 ·simp only[VR] at A
  refine done (new:=[]) (news:=[]) rfl ⟨by simp,(fun _ I=>by cases I),(fun i x hx=>by simp at hx)⟩ ?_ h
  rw[A]
  exact Src.ofNil w I 0
 replace h:=jm h;obtain⟨new,wg,h⟩:=h
 simp only[VR] at A
 obtain⟨hm,ad,cap,hh,A,uT,O⟩:=A
 obtain⟨hlen,news,G,J⟩:=Flat.Sh hR wg (fun o=>hC f o (by rw[Y];exact HG _ (by simp[iV])) ⟨_,_,hh⟩) hh ym
 rcases O with⟨rfl,O⟩|⟨nW,hc0,O⟩
 ·refine done hlen G ?_ h
  rw[A]
  refine Src.ofSlice w I _ l cap news (by rw[G.len,hlen]) (fun j u I=>?_) G.one
  rw[Addr.add_lit]
  exact J j u I
 subst nW
 have wz:news=[]:=by
  have:=G.len
  rw[hlen,re] at this
  exact sG this
 subst wz
 refine done hlen G ?_ h
 rw[A]
 exact Src.ofSlice w I _ 0 cap [] (by simp) (fun j u I=>by simp at I) (fun _ I=>by cases I)
theorem FF:∀(l:List UInt8)(i:Nat)(x:List an),(ox l.length (pack l))[i]?=some x→∃b,l[i]?=some b∧x=[.int .u8 b.toNat]
 |[],i,x,h=>by
  have h:([]:List (List an))[i]?=some x:=h
  simp at h
 |b::r,i,x,h=>by
  have step:ox (b::r).length (pack (b::r))=[an.int .u8 (Int.ofNat (Nat.mod (pack (b::r)) 256))]::ox r.length (Nat.div (pack (b::r)) 256):=rfl
  have G:b.toNat<256:=b.toNat_lt
  have e1:Nat.mod (pack (b::r)) 256=b.toNat:=by show(b.toNat+256*pack r) % 256=_;omega
  have e2:Nat.div (pack (b::r)) 256=pack r:=by show(b.toNat+256*pack r)/256=_;omega
  rw[step,e1,e2] at h
  cases i with
  |zero=>simp at h;exact⟨b,rfl,h.symm⟩
  |succ i=>obtain⟨z,A,h2⟩:=FF r i x (by simpa using h);exact⟨z,by simpa using A,h2⟩
theorem yW:∀(l v:Nat),(ox l v).length=l
 |0,_=>rfl
 |l+1,v=>by
  have step:ox (l+1) v=[an.int .u8 (Int.ofNat (Nat.mod v 256))]::ox l (Nat.div v 256):=rfl
  rw[step,dj,yW]
theorem Flat.bytes(s:ByteArray):Flat ρ 1 (ox s.size (pack s.data.toList)) (byteCells s):=by
 have z:s.size=s.data.toList.length:=by rw[nh];rfl
 refine⟨by rw[byteCells_length,yW,HH],fun u J=>?_,fun i x G=>?_⟩
 ·obtain⟨_,_,rfl⟩:=List.mem_map.1 J
  rfl
 rw[z] at G
 obtain⟨b,K,rfl⟩:=FF _ _ _ G
 refine⟨rfl,fun j y A=>?_⟩
 have I:=qG A
 simp at I
 subst I
 simp at A
 subst A
 refine⟨rfl,.int .u8 b.toNat,?_,by simp only[VR]⟩
 rw[HH,ye]
 simp only[byteCells,iO,K,uH]
theorem Qh(hA:AR P ρ nt E a)(hR:R ρ C w)(hF:ia ρ H.next H'.next){c:Call}{x y:Operand}{Y y':aF}{t u e:TypeId}{i:TypeInfo}{z:List an}
  (ho:o.op= .call c) (hc:c.callee= .builtin .append) (I:c.args=#[x,y]) (hx:dc P x=some Y) (hy:dc P y=some y') (h0:c.argTypes[0]?=some t) (h1:c.argTypes[1]?=some u)
  (ht:P.underlying t=some (.slice e)) (hu:P.underlying u=some .string) (hi:P.info? e=some i) (hz:zeroOf P e=some z) (J:i.size=1) (Z:i.bytes=1)
  (hC:∀f o,f∈iV (Y.ev E)→(∃g h,ρ f g=some h)→H.t.get f=some o→C f=some o)
  (h:zm e Y y' E H= .ok v H'):fb P o a w (dT ρ C w H v H'):=by
 replace h:=fe h;obtain⟨xa,K,h⟩:=h
 replace h:=fe h;obtain⟨ya,hya,h⟩:=h
 replace h:=wR h;obtain⟨l,s,rfl,h⟩:=h
 have Ij:=hA.b9 hx K
 have A:=hA.b9 hy hya
 simp only[VR] at A
 obtain⟨b,A,rfl,rfl⟩:=A
 have O:=Flat.bytes (ρ:=ρ) b
 have G:=Src.ofString (P:=P) w hu b
 rw[←J] at O G
 have h:jU e i.size i.bytes b.size (ox b.size (pack b.data.toList)) H xa= .ok v H':=by rw[J,Z];exact h
 obtain⟨cv,w',U,hp⟩:=JH hR hF (ty:=o.type) ht hi hz (by omega) (yW _ _) O G Ij (fun f o hf=>hC f o (by rw[K];exact hf)) h
 refine .inl ⟨cv,w',?_,hp⟩
 simp[execOp,ho,resolve,hc,I,invoke,builtin,I9 h0 h1,A,U]
end
def bE.dA:bE→List aF
 |.nV x=>[x]
 |.pick c a b=>[c,a,b]
 |.ca _ _ _ _=>[]
 |.box _ _ _ x=>[x]
 |.load _ _ a=>[a]
 |.store _ a x=>[a,x]
 |.bin _ x y=>[x,y]
 |.eqv _ _ x y=>[x,y]
 |.un _ x=>[x]
 |.nQ x _=>[x]
 |.sub x _ _ _=>[x]
 |.lr _ _ x i=>[x,i]
 |.fm _ x i=>[x,i]
 |.zF _ _ _ x i=>[x,i]
 |.rZ x i=>[x,i]
 |.iM x lo hi=>x::(lo.toList++hi.toList)
 |.AD _ x lo hi=>x::(lo.toList++hi.toList)
 |.vR _ _ x lo hi=>x::(lo.toList++hi.toList)
 |.ri x _=>[x]
 |.oR x=>[x]
 |.nR _ z l=>z++l
 |.uJ _ x=>[x]
 |.yg _ _ _ _ x y=>[x,y]
 |.build _ ps=>ps.map (·.2.2)
 |.cY _ _ _ _ _ ps=>ps.map (·.2)
 |.len x=>[x]
 |.AE _=>[]
 |.o3 x=>[x]
 |.app _ _ _ x y=>[x,y]
 |.tC _ x y=>[x,y]
 |.copy _ x y=>[x,y]
 |.zG _ x ys=>x::ys
 |.conv _ x=>[x]
 |.Cx x=>[x]
 |.xi _ x=>[x]
 |.qS x=>[x]
 |.call _ l=>l
 |.mF x l=>x::l
 |.qn _ _ x=>[x]
 |.uS x=>[x]
 |.qu _ x n=>[x,n]
theorem dm(x:aF)(E:Env)(e:aD)(k:an→aD):bA x E e k=ob (x.ev E) e k:=by cases x<;>rfl
section
variable{E E':Env}
theorem wJ:∀(l:List aF),(∀x∈l,x.ev E=x.ev E')→jF E l=jF E' l
 |[],_=>rfl
 |x::r,h=>by
  have z:=h x (by simp)
  have h2:=wJ r (fun y A=>h y (by simp[A]))
  show ob (x.ev E) none (fun v=>ob (jF E r) none fun vs=>some (v::vs))=ob (x.ev E') none (fun v=>ob (jF E' r) none fun vs=>some (v::vs))
  rw[z,h2]
theorem wK{x:Option aF}{d y:Nat}{e:aD}{k:Nat→aD}(h:∀z∈x.toList,z.ev E=z.ev E'):gQ E x d y e k=gQ E' x d y e k:=by
 cases x with
 |none=>rfl
 |some z=>
  have A:=h z (by simp)
  show ob (z.ev E) e _=ob (z.ev E') e _
  rw[A]
theorem I':∀(ps:List (Nat×Nat×aF))(cells:List an),(∀x∈ps.map (·.2.2),x.ev E=x.ev E')→pD E ps cells=pD E' ps cells
 |[],_,_=>rfl
 |p::r,cells,h=>by
  have z:=h p.2.2 (by simp)
  have h2:=fun cells=>I' r cells (fun y A=>h y (by simp only[ez,pS];exact .inr A))
  show ob (p.2.2.ev E) none _=ob (p.2.2.ev E') none _
  rw[z]
  congr 1
  funext v
  congr 1
  funext new
  congr 1
  exact h2 _
theorem I6(es z:Nat):∀(ps:List (Nat×aF))(t:RT),(∀x∈ps.map (·.2),x.ev E=x.ev E')→qd E es z ps t=qd E' es z ps t
 |[],_,_=>rfl
 |p::r,t,h=>by
  have A:=h p.2 (by simp)
  have h2:=fun t=>I6 es z r t (fun y G=>h y (by simp only[ez,pS];exact .inr G))
  show ob (p.2.ev E) none _=ob (p.2.ev E') none _
  rw[A]
  congr 1
  funext v
  congr 1
  funext new
  congr 1
  congr 1
  exact h2 _
theorem bE.Si{call:eC}{H:az}(io:bE)(h:∀x∈io.dA,x.ev E=x.ev E'):io.ev call E H=io.ev call E' H:=by
 cases io with
 |nV x=>have A:=h x (by simp[bE.dA]);show lZ x E H=lZ x E' H;simp only[lZ,dm,A]
 |pick c x y=>
  have A:=h c (by simp[bE.dA]);have h2:=h x (by simp[bE.dA]);have I:=h y (by simp[bE.dA])
  show z7 c x y E H=z7 c x y E' H;simp only[z7,lZ,dm,A,h2,I]
 |ca a b c d=>rfl
 |box a b c x=>have A:=h x (by simp[bE.dA]);show AG a b c x E H=AG a b c x E' H;simp only[AG,vS,dm,A]
 |load a b x=>have A:=h x (by simp[bE.dA]);show z8 a b x E H=z8 a b x E' H;simp only[z8,dm,A]
 |store a x y=>have A:=h x (by simp[bE.dA]);have h2:=h y (by simp[bE.dA]);show zI a x y E H=zI a x y E' H;simp only[zI,dm,A,h2]
 |bin a x y=>have A:=h x (by simp[bE.dA]);have h2:=h y (by simp[bE.dA]);show AH a x y E H=AH a x y E' H;simp only[AH,dm,A,h2]
 |eqv a b x y=>have A:=h x (by simp[bE.dA]);have h2:=h y (by simp[bE.dA]);show yB a b x y E H=yB a b x y E' H;simp only[yB,dm,A,h2]
 |un a x=>have A:=h x (by simp[bE.dA]);show A2 a x E H=A2 a x E' H;simp only[A2,dm,A]
 |nQ x a=>have A:=h x (by simp[bE.dA]);show Aa x a E H=Aa x a E' H;simp only[Aa,dm,A]
 |sub x a b c=>have A:=h x (by simp[bE.dA]);show AI x a b c E H=AI x a b c E' H;simp only[AI,dm,A]
 |lr a b x y=>have A:=h x (by simp[bE.dA]);have h2:=h y (by simp[bE.dA]);show zj a b x y E H=zj a b x y E' H;simp only[zj,dm,A,h2]
 |fm a x y=>have A:=h x (by simp[bE.dA]);have h2:=h y (by simp[bE.dA]);show zJ a x y E H=zJ a x y E' H;simp only[zJ,dm,A,h2]
 |zF a b c x y=>have A:=h x (by simp[bE.dA]);have h2:=h y (by simp[bE.dA]);show zk a b c x y E H=zk a b c x y E' H;simp only[zk,dm,A,h2]
 |rZ x y=>have A:=h x (by simp[bE.dA]);have h2:=h y (by simp[bE.dA]);show zl x y E H=zl x y E' H;simp only[zl,dm,A,h2]
 |iM x lo hi=>
  have A:=h x (by simp[bE.dA])
  have h2:∀z∈lo.toList,z.ev E=z.ev E':=fun z G=>h z (by simp only[bE.dA,pS,sk];exact .inr (.inl G))
  have I:∀z∈hi.toList,z.ev E=z.ev E':=fun z G=>h z (by simp only[bE.dA,pS,sk];exact .inr (.inr G))
  show zK x lo hi E H=zK x lo hi E' H
  simp only[zK,dm,A,wK h2,wK I]
 |AD n x lo hi=>
  have A:=h x (by simp[bE.dA])
  have h2:∀z∈lo.toList,z.ev E=z.ev E':=fun z G=>h z (by simp only[bE.dA,pS,sk];exact .inr (.inl G))
  have I:∀z∈hi.toList,z.ev E=z.ev E':=fun z G=>h z (by simp only[bE.dA,pS,sk];exact .inr (.inr G))
  show Ab n x lo hi E H=Ab n x lo hi E' H
  simp only[Ab,dm,A,wK h2,wK I]
 |vR k n x lo hi=>
  have A:=h x (by simp[bE.dA])
  have h2:∀z∈lo.toList,z.ev E=z.ev E':=fun z G=>h z (by simp only[bE.dA,pS,sk];exact .inr (.inl G))
  have I:∀z∈hi.toList,z.ev E=z.ev E':=fun z G=>h z (by simp only[bE.dA,pS,sk];exact .inr (.inr G))
  show Cy k n x lo hi E H=Cy k n x lo hi E' H
  simp only[Cy,dm,A,wK h2,wK I]
 |ri x a=>have A:=h x (by simp[bE.dA]);show Ac x a E H=Ac x a E' H;simp only[Ac,dm,A]
 |oR x=>have A:=h x (by simp[bE.dA]);show zL x E H=zL x E' H;simp only[zL,dm,A]
 |nR f J l=>
  have A:=wJ J (fun z G=>h z (by simp only[bE.dA,sk];exact .inl G));have h2:=wJ l (fun z G=>h z (by simp only[bE.dA,sk];exact .inr G))
  show Ad f J l E H=Ad f J l E' H;simp only[Ad,A,h2]
 |uJ t x=>have A:=h x (by simp[bE.dA]);show Ae t x E H=Ae t x E' H;simp only[Ae,dm,A]
 |yg a b c d x y=>have A:=h x (by simp[bE.dA]);have h2:=h y (by simp[bE.dA]);show Af a b c d x y E H=Af a b c d x y E' H;simp only[Af,dm,A,h2]
 |build z ps=>have A:=I' ps z h;show Cz z ps E H=Cz z ps E' H;simp only[Cz,A]
 |cY a b c d z ps=>have A:=I6 b d ps (pM z d) h;show BY a b c d z ps E H=BY a b c d z ps E' H;simp only[BY,A]
 |len x=>have A:=h x (by simp[bE.dA]);show AJ x E H=AJ x E' H;simp only[AJ,dm,A]
 |AE n=>rfl
 |o3 x=>have A:=h x (by simp[bE.dA]);show Ag x E H=Ag x E' H;simp only[Ag,dm,A]
 |app a b c x y=>have A:=h x (by simp[bE.dA]);have h2:=h y (by simp[bE.dA]);show AK a b c x y E H=AK a b c x y E' H;simp only[AK,dm,A,h2]
 |tC a x y=>have A:=h x (by simp[bE.dA]);have h2:=h y (by simp[bE.dA]);show zm a x y E H=zm a x y E' H;simp only[zm,dm,A,h2]
 |copy a x y=>rfl
 |zG m x ys=>
  have A:=h x (by simp[bE.dA]);have h2:=wJ ys (fun z G=>h z (by simp only[bE.dA,pS];exact .inr G))
  show zn m x ys E H=zn m x ys E' H;simp only[zn,dm,A,h2]
 |conv k x=>have A:=h x (by simp[bE.dA]);show Ah k x E H=Ah k x E' H;simp only[Ah,dm,A]
 |Cx x=>have A:=h x (by simp[bE.dA]);show lZ x E H=lZ x E' H;simp only[lZ,dm,A]
 |xi e x=>have A:=h x (by simp[bE.dA]);show zo e x E H=zo e x E' H;simp only[zo,dm,A]
 |qS x=>have A:=h x (by simp[bE.dA]);show zp x E H=zp x E' H;simp only[zp,dm,A]
 |call f l=>have A:=wJ l h;show Ai f l call E H=Ai f l call E' H;simp only[Ai,A]
 |mF x l=>
  have A:=h x (by simp[bE.dA]);have h2:=wJ l (fun z G=>h z (by simp only[bE.dA,pS];exact .inr G))
  show zN x l call E H=zN x l call E' H;simp only[zN,dm,A,h2]
 |qn t n x=>have A:=h x (by simp[bE.dA]);show zM t n x E H=zM t n x E' H;simp only[zM,dm,A]
 |uS x=>have A:=h x (by simp[bE.dA]);show AL x E H=AL x E' H;simp only[AL,dm,A]
 |qu e x n=>have A:=h x (by simp[bE.dA]);have h2:=h n (by simp[bE.dA]);show vT e x n E H=vT e x n E' H;simp only[vT,dm,A,h2]
theorem bE.Qt(io:bE)(h:∀x∈io.dA,x.ev E=x.ev E'):io.reads E=io.reads E':=by
 cases io with
 |load a b x=>have z:=h x (by simp[bE.dA]);simp only[bE.reads,z]
 |app a b c x y=>have z:=h x (by simp[bE.dA]);have h2:=h y (by simp[bE.dA]);simp only[bE.reads,z,h2]
 |tC a x y=>have z:=h x (by simp[bE.dA]);simp only[bE.reads,z]
 |qS x=>have z:=h x (by simp[bE.dA]);simp only[bE.reads,z]
 |store a x y=>have z:=h x (by simp[bE.dA]);simp only[bE.reads,z]
 |qn t n x=>have z:=h x (by simp[bE.dA]);simp only[bE.reads,z]
 |qu t x n=>have z:=h x (by simp[bE.dA]);simp only[bE.reads,z]
 |vR a b x lo hi=>have z:=h x (by simp[bE.dA]);simp only[bE.reads,z]
 |_=>rfl
end
def j7(ρ:Ho)(C:Nat→Option dP)(H:az):Prop:=∀f o,(∃g h,ρ f g=some h)→H.t.get f=some o→C f=some o
structure kt(P:Program)(call:eC):Prop where
 mu:∀f args H,H.bc≤H.next→TM H (call f args H)
 sound:∀f args H v H' ρ C w(bZ:Array Value),call f args H= .ok v H'→H.bc≤H.next→(∀x,H.next≤x→H.t.get x=none)→R ρ C w→j7 ρ C H→ia ρ H.next H'.next→uu P ρ→cw ρ args bZ.toList→
  ((callFunc f bZ).run P w= .ok (.enter f bZ) w∧Calls P f bZ w fun e w'=>∃cv,e= .returned cv∧dT ρ C w H v H' cv w')∨
  ∃cv w',(callFunc f bZ).run P w= .ok (.value cv) w'∧dT ρ C w H v H' cv w'
section
variable{P:Program}{ρ:Ho}{nt:Nat}{E:Env}{a:Act}{C:Nat→Option dP}{w:World}{H H':az}{v:an}{o:Oper}{call:eC}
theorem QY(J:AR P ρ nt E a)(K:R ρ C w)(O:ia ρ H.next H'.next)(U:j7 ρ C H)(Y:H.bc≤H.next)(G:∀x,H.next≤x→H.t.get x=none)(Z:kt P call){c:Call}{f:Nat}{args:List aF}
  (ho:o.op= .call c) (A:c.callee= .value (.func f)) (hx:kW P c.args.toList=some args) (h:Ai f args call E H= .ok v H'):fb P o a w (dT ρ C w H v H'):=by
 replace h:=jm h;obtain⟨vs,hv,h⟩:=h
 have h1:=J.dA hx hv
 rcases Z.sound f vs H v H' ρ C w (c.args.map a.eval) h Y G K U O J.rk (by simpa using h1) with⟨hp,I⟩|⟨cv,w',hp,z⟩
 ·refine .inr (.inr ⟨f,c.args.map a.eval,?_,I⟩)
  simp[execOp,ho,resolve,A,Deferred.ofValue,Act.eval,invoke,hp]
 refine .inl ⟨cv,w',?_,z⟩
 simp[execOp,ho,resolve,A,Deferred.ofValue,Act.eval,invoke,hp]
theorem Qu(G:AR P ρ nt E a)(Z:R ρ C w)(hF:ia ρ H.next H'.next)(hK:j7 ρ C H)(hm:H.bc≤H.next)(I:∀x,H.next≤x→H.t.get x=none)(hc:kt P call){c:Call}{x:Operand}{O:aF}{args:List aF}
  (ho:o.op= .call c) (A:c.callee= .value x) (J:dc P x=some O) (hx:kW P c.args.toList=some args) (h:zN O args call E H= .ok v H'):fb P o a w (dT ρ C w H v H'):=by
 replace h:=fe h;obtain⟨u,hu,h⟩:=h
 replace h:=Rt h;obtain⟨f,fs,eD,rfl,h⟩:=h
 replace h:=jm h;obtain⟨vs,hv,h⟩:=h
 have h1:=G.dA hx hv
 have h2:=G.b9 J hu
 simp only[VR] at h2
 obtain⟨U,Y,h2,h4,h3⟩:=h2
 rcases hc.sound f (fs++(vs++eD)) H v H' ρ C w (U++c.args.map a.eval++Y) h hm I Z hK hF G.rk (by simpa using cw.append h4 (cw.append h1 h3)) with⟨hp,K⟩|⟨cv,w',hp,z⟩
 ·refine .inr (.inr ⟨f,U++c.args.map a.eval++Y,?_,K⟩)
  rw[Array.append_assoc] at hp⊢
  simp[execOp,ho,resolve,A,Deferred.ofValue,h2,invoke,hp]
 refine .inl ⟨cv,w',?_,z⟩
 rw[Array.append_assoc] at hp
 simp[execOp,ho,resolve,A,Deferred.ofValue,h2,invoke,hp]
end
section
variable{P:Program}{ρ:Ho}{nt:Nat}{E:Env}{a:Act}{C:Nat→Option dP}{w:World}{H H':az}{v:an}{o:Oper}{call:eC}
def vq(cells:Array Value)(off:Nat)(v:Array Value):Array Value:=v.zipIdx.foldl (fun cs(c,j)=>cs.setIfInBounds (off+j) c) cells
theorem I7(cells:Array Value)(off:Nat)(v:Array Value):(vq cells off v).size=cells.size:=by
 unfold vq
 rw[←Array.foldl_toList,Oj]
 exact(Great.foldl_set off v.toList 0 cells).1
theorem Fs(cells:Array Value)(off:Nat)(v:Array Value)(k:Nat):(vq cells off v)[k]?=if off≤k∧k<off+v.size∧k<cells.size then v[k-off]?else cells[k]?:=by
 unfold vq
 rw[←Array.foldl_toList,Oj]
 rw[(Great.foldl_set off v.toList 0 cells).2 k]
 simp
theorem J1{place:Nat→Option (Nat×Nat)}{cells:Array Value}{i off size:Nat}{v:Value}{rest:List (Nat×Value)}(hp:place i=some (off,size))(z:v.cells.size=size)(A:off+size≤cells.size):
  Instr.fill place cells ((i,v)::rest)=Instr.fill place (vq cells off v.cells) rest:=by
 rw[Instr.fill]
 simp only[hp,z]
 rw[aj (by simp;omega)]
 rfl
theorem RC{z new:List an}{off:Nat}(G:z.all gZ=true)(I:new.all gZ=true):(gY z off new).all gZ=true:=by
 unfold gY
 simp only[Eh,sk] at*
 rintro x(A|A|A)
 ·exact G x (Hy A)
 ·exact I x A
 exact G x (Og A)
theorem Lu(hA:AR P ρ nt E a){place:Nat→Option (Nat×Nat)}:∀{ps:List (Nat×Operand)}{J:List (Nat×Nat×aF)}(_:xm P place ps=some J)(z:List an)(cells:Array Value)(G:List an),
  (∀p∈J,p.1+p.2.1≤z.length)→cw ρ z cells.toList→z.all gZ=true→pD E J z=some G→∃A,Instr.fill place cells (ps.map fun p=>(p.1,a.eval p.2))=some A∧cw ρ G A.toList∧G.all gZ=true
 |[],J,hp,z,cells,G,_,Z,hk,h=>by
  cases hp
  cases h
  exact⟨cells,rfl,Z,hk⟩
 |(i,x)::r,J,hp,z,cells,G,hle,Z,hk,h=>by
  unfold xm at hp
  split at hp
  ·rename_i q y l hq hy hl
   cases hp
   have h:ob (y.ev E) none (fun v=>ob (jK v) none fun new=>aH (Nat.beq (jg new) q.2) (pD E l (gY z q.1 new)) none)=some G:=h
   cases hu:y.ev E with
   |none=>rw[hu] at h;cases h
   |some u=>
    rw[hu] at h
    cases hc:jK u with
    |none=>simp only[ob] at h;rw[hc] at h;cases h
    |some new=>
     have h:ob (jK u) none (fun new=>aH (Nat.beq (jg new) q.2) (pD E l (gY z q.1 new)) none)=some G:=h
     rw[hc] at h
     have h:aH (Nat.beq (jg new) q.2) (pD E l (gY z q.1 new)) none=some G:=h
     cases K:Nat.beq (jg new) q.2
     ·rw[K] at h;cases h
     rw[K,fV] at h
     have K:=d8 K
     rw[oq] at K
     have h1:=(hA.b9 hy hu).cells hc
     have O:(a.eval x).cells.size=new.length:=by have:=h1.1.length;simpa using this
     have U:cells.size=z.length:=by have:=Z.length;simpa using this
     have I:=hle (q.1,q.2,y) (lF ..)
     have I:q.1+q.2≤z.length:=I
     have Y:=I5 (l:=z) (new:=new) (r:=q.1) (n:=q.2) I K
     obtain⟨A,k1,k2,k3⟩:=Lu hA hl (gY z q.1 new) (vq cells q.1 (a.eval x).cells) G (fun p hp=>by rw[Y];exact hle p (o0 _ hp)) (cw.qT (by simp[I7,Y,U]) fun k av hk=>by
       rw[JG I K] at hk
       simp only[Ok,Fs,O]
       split at hk
       ·rename_i ru
        rw[aq (by omega)]
        obtain⟨cv,g1,g2⟩:=h1.1.get _ av hk
        exact⟨cv,by simpa using g1,g2⟩
       rename_i ru
       rw[aj (by omega)]
       obtain⟨cv,g1,g2⟩:=Z.get _ av hk
       exact⟨cv,by simpa using g1,g2⟩) (RC hk h1.2) h
     refine⟨A,?_,k2,k3⟩
     rw[ez,J1 (off:=q.1) (size:=q.2) hq (O.trans K) (by rw[U];exact I)]
     exact k1
  cases hp
theorem Jm(O:AR P ρ nt E a)(U:R ρ C w){t:TypeId}{parts:Array (Nat×Operand)}{place:Nat→Option (Nat×Nat)}{z:List an}{cells:Array Value}{io:bE}(ho:o.op= .build t parts)
  (Y:cw ρ z cells.toList) (hk:z.all gZ=true) (Z:∀vs,Instr.fill place cells vs=P.built t vs) (G:Ce z (xm P place parts.toList)=some io) (h:io.ev call E H= .ok v H'):fb P o a w (dT ρ C w H v H'):=by
 unfold Ce at G
 split at G
 ·rename_i l hl
  split at G
  ·rename_i I
   cases G
   have h:ob (pD E l z) (.err 23) (fun cs=>aD.ok (.agg cs) H)= .ok v H':=h
   replace h:=jm h
   obtain⟨K,J,h⟩:=h
   cases h
   obtain⟨A,k1,k2,k3⟩:=Lu O hl z cells K (fun p hp=>by
    have:=List.all_eq_true.1 I p hp
    simpa using this) Y hk J
   refine gJ (cv:=.agg A) ?_ U (by simp only[VR];exact⟨A,rfl,k2,k3⟩)
   have:=run_build (P:=P) w t (parts.map fun(i,x)=>(i,a.eval x)) A (by rw[←Z,←k1];simp)
   simp[execOp,ho,this]
  cases G
 cases G
theorem Qv(O:AR P ρ nt E a)(U:R ρ C w){t:TypeId}{parts:Array (Nat×Operand)}{io:bE}(ho:o.op= .build t parts)(A:Gj P t parts.toList=some io)(h:io.ev call E H= .ok v H'):fb P o a w (dT ρ C w H v H'):=by
 unfold Gj at A
 split at A
 ·rename_i z Z
  obtain⟨i,zv,hi,G,Y,hk,_,_,_⟩:=wI Z
  split at A
  ·rename_i fs J
   split at A
   ·rename_i I hp
    exact Jm O U ho (Y ρ) hk (fun vs=>by simp[Program.built,hi,J,G,hp]) A h
   cases A
  ·rename_i n e J
   split at A
   ·rename_i ie K
    exact Jm O U ho (Y ρ) hk (fun vs=>by simp[Program.built,hi,J,G,K]) A h
   cases A
  cases A
 cases A
def Fl(ρ:Ho)(n es:Nat)(t:RT)(cells:Array Value):Prop:=
 ∀i,i<n→∃l,t.get i=some l∧l.length=es∧∀j x,l[j]?=some x→gZ x=true∧∃cv,cells[i*es+j]?=some cv∧VR ρ x cv
theorem FQ(x:List an)(i:Nat):∀n,(pM x n).get i=if i<n then some x else none
 |0=>rfl
 |n+1=>by
  show((pM x n).set n x).get i=_
  rw[RT.eO,FQ x i n]
  by_cases h:i=n
  ·rw[aq h,aq (by omega)]
  rw[aj h]
  by_cases h2:i<n
  ·rw[aq h2,aq (by omega)]
  rw[aj h2,aj (by omega)]
theorem P6{z:Array Value}{es i j N:Nat}(A:z.size=es)(G:j<es)(hN:i*es+j<N):(madeCells z N)[i*es+j]?=z[j]?:=by
 unfold madeCells
 rw[Array.getElem?_map,Array.getElem?_range,aq hN]
 have e:(i*es+j) % z.size=j:=by rw[A,Nat.add_comm,Nat.add_mul_mod_self_right,Aw G]
 simp only[uH,e]
 rw[getElem!_pos z j (by omega),v8 (by omega)]
theorem Lv{z:List an}{A:Array Value}{es n N:Nat}(K:cw ρ z A.toList)(hk:z.all gZ=true)(G:z.length=es)(hN:n*es≤N):Fl ρ n es (pM z n) (madeCells A N):=by
 intro i hi
 refine⟨z,by rw[FQ,aq hi],G,fun j x I=>⟨List.all_eq_true.1 hk x (lW I),?_⟩⟩
 obtain⟨cv,O,h2⟩:=K.get j x I
 have U:j<es:=by rw[←G];exact(List.getElem?_eq_some_iff.1 I).1
 have J:A.size=es:=by have:=K.length;rw[←G];simpa using this
 have dR:i*es+es≤n*es:=by have:=kN es (show i+1≤n by omega);rwa [HI] at this
 exact⟨cv,by rw[P6 J U (by omega)];simpa using O,h2⟩
theorem J2(hA:AR P ρ nt E a){es A:Nat}:∀{ps:List (Nat×Operand)}{I:List (Nat×aF)}(_:Cd P ps=some I)(t t':RT)(cells:Array Value),cells.size=A*es→Fl ρ A es t cells→qd E es A I t=some t'→
  ∃z,Instr.fill (fun i=>some (i*es,es)) cells (ps.map fun p=>(p.1,a.eval p.2))=some z∧z.size=A*es∧Fl ρ A es t' z
 |[],I,hp,t,t',cells,U,hf,h=>by
  cases hp
  cases h
  exact⟨cells,rfl,U,hf⟩
 |(i,x)::r,I,hp,t,t',cells,U,hf,h=>by
  unfold Cd at hp
  split at hp
  ·rename_i y l hy hl
   cases hp
   have h:ob (y.ev E) none (fun v=>ob (jK v) none fun new=>aH (Nat.beq (jg new) es) (aH (Nat.ble (Nat.succ i) A) (qd E es A l (t.set i new)) none) none)=some t':=h
   cases hu:y.ev E with
   |none=>rw[hu] at h;cases h
   |some u=>
    rw[hu] at h
    have h:ob (jK u) none (fun new=>aH (Nat.beq (jg new) es) (aH (Nat.ble (Nat.succ i) A) (qd E es A l (t.set i new)) none) none)=some t':=h
    cases hc:jK u with
    |none=>rw[hc] at h;cases h
    |some new=>
     rw[hc] at h
     have h:aH (Nat.beq (jg new) es) (aH (Nat.ble (Nat.succ i) A) (qd E es A l (t.set i new)) none) none=some t':=h
     cases J:Nat.beq (jg new) es
     ·rw[J] at h;cases h
     rw[J,fV] at h
     cases G:Nat.ble (Nat.succ i) A
     ·rw[G] at h;cases h
     rw[G,fV] at h
     have J:=d8 J
     rw[oq] at J
     have G:i+1≤A:=bS G
     have h1:=(hA.b9 hy hu).cells hc
     have nu:(a.eval x).cells.size=new.length:=by have:=h1.1.length;simpa using this
     have mono:∀{p q:Nat},p+1≤q→p*es+es≤q*es:=fun{p q}h=>by have:=kN es h;rwa [HI] at this
     have ru:=mono G
     obtain⟨z,k1,k2,k3⟩:=J2 hA hl (t.set i new) t' (vq cells (i*es) (a.eval x).cells) (by rw[I7,U]) (fun k hk=>by
      rw[RT.eO]
      by_cases K:k=i
      ·subst K
       rw[aq rfl]
       refine⟨new,rfl,J,fun j Y O=>⟨List.all_eq_true.1 h1.2 Y (lW O),?_⟩⟩
       obtain⟨cv,g1,Z⟩:=h1.1.get j Y O
       have A7:j<es:=by rw[←J];exact(List.getElem?_eq_some_iff.1 O).1
       refine⟨cv,?_,Z⟩
       rw[Fs,aq (by omega),HJ]
       simpa using g1
      rw[aj K]
      obtain⟨l0,g1,Z,g3⟩:=hf k hk
      refine⟨l0,g1,Z,fun j Y O=>?_⟩
      obtain⟨m1,cv,m2,m3⟩:=g3 j Y O
      have A7:j<es:=by rw[←Z];exact(List.getElem?_eq_some_iff.1 O).1
      refine⟨m1,cv,?_,m3⟩
      rw[Fs,aj ?_]
      ·exact m2
      rcases Nat.lt_or_gt_of_ne K with dR|EY
      ·have:=mono (show k+1≤i from dR);omega
      have:=mono (show i+1≤k from EY);omega) h
     refine⟨z,?_,k2,k3⟩
     rw[ez,J1 (off:=i*es) (size:=es) rfl (nu.trans J) (by rw[U];exact ru)]
     exact k1
  cases hp
theorem KK(I:R ρ C w)(J:ia ρ H.next (H.next+1)){e es aQ n cap:Nat}{t:RT}{cells:Array Value}(he:0<es)(z:n≤cap)(G:cells.size=cap*es)(A:Fl ρ n es t cells){w':World}(K:w'.heap=w.heap.push (.cells cells e))
  (O:w'.os=w.os) (h2:w'.tape=w.tape) (U:w'.output=w.output):dT ρ C w H (.slice H.next n 0 n es) ⟨H.next+1,H.bc,H.ws,H.t.set H.next (.row e es aQ n n 0 t)⟩ (.slice (some ⟨w.heap.size,0,none⟩) n cap) w':=by
 obtain⟨ρ',Y,Z,g3⟩:=I.alloc (f:=H.next) (elem:=e) (es:=es) (aQ:=aQ) (n:=n) (cs:=t) (cells:=cells) (w':=w')
  (Wr ⟨H.next+1,H.bc,H.ws,H.t.set H.next (.row e es aQ n n 0 t)⟩) (fun g=>J _ g (bY _) (fS _)) he (by rw[G];exact kN _ z) A K O h2 U
 refine⟨ρ',?_,Z,?_⟩
 ·simp only[VR]
  refine⟨_,_,_,Y,rfl,z,.inl ⟨rfl,?_⟩⟩
  simp only
  rw[G,jS]
  exact bY _
 rw[BM]
 exact g3
theorem P7(hA:AR P ρ nt E a)(hR:R ρ C w)(hF:ia ρ H.next H'.next){t:TypeId}{I:Nat}{parts:Array (Nat×Operand)}{io:bE}(ho:o.op= .buildSlice t I parts)(A:FN P t I parts.toList=some io)
  (h:io.ev call E H= .ok v H'):fb P o a w (dT ρ C w H v H'):=by
 unfold FN at A
 split at A
 ·rename_i e hu
  split at A
  ·rename_i i z hi hz
   split at A
   ·rename_i l hl
    split at A
    ·rename_i hle
     cases A
     have h:ob (qd E i.size I l (pM z I)) (.err 24) (fun t=>H.alloc (.row e i.size i.bytes I I 0 t) fun f H=>.ok (.slice f I 0 I i.size) H)= .ok v H':=h
     replace h:=jm h
     obtain⟨tr,Z,h⟩:=h
     have h:=wS h
     cases h
     obtain⟨i',K,O,uV,hv,hk,A5,U,yJ⟩:=wI hz
     rw[hi] at O
     cases O
     obtain⟨G,k1,k2,k3⟩:=J2 hA hl (pM z I) tr (madeCells K.cells (I*i.size)) (size_madeCells _ _) (Lv (hv ρ) hk A5 (bY _)) Z
     refine .inl ⟨_,w.alloc (.cells G e),?_,KK hR hF U (bY _) k2 k3 rfl rfl rfl rfl⟩
     have Y:Instr.fill (fun j=>some (j*i.size,i.size)) ((Array.range (I*i.size)).map (K.cells[· % K.cells.size]!)) (parts.map fun(i,x)=>(i,a.eval x)).toList=some G:=by
      rw[←k1];simp[madeCells]
     by_cases h0:I*i.size=0
     ·have e0:(Array.range 0).map (K.cells[· % K.cells.size]!)=#[]:=by rw[show Array.range 0=#[] from rfl];exact Array.map_empty ..
      rw[h0,e0] at Y
      have EZ:Instr.fill (fun j=>some (j*i.size,i.size)) #[] (parts.toList.map fun x=>(x.1,a.eval x.2))=some G:=by rw[←Y];simp
      simp[execOp,ho,Instr.buildSlice,run_underlying hu,sizeOf,typeInfo,hi,h0,newRow,EZ,show Array.range 0=#[] from rfl]
     have J:¬(2^24<I*i.size):=by omega
     simp at Y J
     simp[execOp,ho,Instr.buildSlice,run_underlying hu,sizeOf,typeInfo,hi,J,h0,zeroValue,uV,Y,newRow]
    cases A
   cases A
  cases A
 cases A
theorem QZ(hA:AR P ρ nt E a)(hR:R ρ C w)(hF:ia ρ H.next H'.next){t:TypeId}{x y:Operand}{O U:aF}{io:bE}(ho:o.op= .makeSlice t x y)(hx:dc P x=some O)(hy:dc P y=some U)(A:GH P t O U=some io)
  (h:io.ev call E H= .ok v H'):fb P o a w (dT ρ C w H v H'):=by
 unfold GH at A
 split at A
 ·rename_i e hu
  split at A
  ·rename_i i z hi hz
   split at A
   ·rename_i hb
    cases A
    have h:Af e i.size i.bytes z O U E H= .ok v H':=h
    replace h:=fe h;obtain⟨u,Y,h⟩:=h
    replace h:=rM h;obtain⟨kl,l0,rfl,h⟩:=h
    replace h:=vo h;obtain⟨l,rfl,h⟩:=h
    replace h:=fe h;obtain⟨u2,Z,h⟩:=h
    replace h:=rM h;obtain⟨kc,c0,rfl,h⟩:=h
    replace h:=vo h;obtain⟨c,rfl,h⟩:=h
    replace h:=fD h;obtain⟨I,h⟩:=h
    replace h:=fD h;obtain⟨g2,h⟩:=h
    replace h:=fD h;obtain⟨g3,h⟩:=h
    rw[Gh] at h
    have h:=wS h
    cases h
    have I:=bS I
    have g2:c*i.bytes≤70368744177664:=bS g2
    have g3:=bS g3
    obtain⟨i',zv,J,uV,hv,hk,A5,K,yJ⟩:=wI hz
    rw[hi] at J
    cases J
    have e1:=hA.b9 hx Y
    have e2:=hA.b9 hy Z
    simp only[VR] at e1 e2
    have G:=run_make (P:=P) w t e i zv hu hi uV kl kc (l:Int) (c:Int) (Int.natCast_nonneg l) (Int.ofNat_le.2 I) (by
     have:((i.bytes*c:Nat):Int)≤((281474976710656:Nat):Int):=Int.ofNat_le.2 (by rw[mI];omega)
     rw[Int.natCast_mul] at this
     exact this) (by omega)
    simp only[Ei] at G
    refine .inl ⟨_,w.alloc (.cells (madeCells zv.cells (c*i.size)) e),?_,KK hR hF K I (size_madeCells _ _) (Lv (hv ρ) hk A5 (kN _ I)) rfl rfl rfl rfl⟩
    rw[show(execOp a.eval o)=_ from rfl]
    simp only[execOp,ho,e1,e2]
    simp only[Sem.run_bind,G,Result.andThen_ok]
    rfl
   cases A
  cases A
 cases A
end
section
variable{P:Program}{ρ:Ho}{nt:Nat}{E:Env}{a:Act}{C:Nat→Option dP}{w:World}{H H':az}{v:an}{o:Oper}{call:eC}
theorem FG(b:Bool)(k:Bool→aD):mZ b k=k b:=by cases b<;>rfl
set_option maxHeartbeats 1000000 in
theorem UJ(Y:Nat){c:yA}{t:TypeId}{d:TypeDesc}(G:P.underlying t=some d)(A:Hc P d=some c){x y:an}{I cy:Value}(z:VR ρ x I)(h2:VR ρ y cy){r:Bool}(h:ns c x y=some r):
  (Op.equalIn (Y+1) t I cy).run P w= .ok r w∧(∀k n,I≠.int k n)∧(∀b,I≠.string b)∧(∀k n,I≠.float k n)∧(∀k n m,I≠.complex k n m)∧(∀cs,I≠.agg cs)∧(I= .nilIface→∃ms,d= .interface ms):=by
 unfold Hc at A
 split at A
 ·cases A
  unfold ns at h
  simp only at h
  split at h
  ·simp only[VR] at z h2
   subst z;subst h2
   cases h
   exact⟨by simp[Op.equalIn,run_underlying G],by simp,by simp,by simp,by simp,by simp,by simp⟩
  cases h
 ·rename_i e
  split at A
  ·rename_i ie K
   cases A
   unfold ns at h
   simp only at h
   split at h
   ·simp only[VR] at z h2
    subst z;subst h2;cases h
    exact⟨by simp[Op.equalIn,run_underlying G],by simp,by simp,by simp,by simp,by simp,by simp⟩
   ·simp only[VR] at z h2
    obtain⟨_,_,rfl⟩:=h2
    subst z;cases h
    exact⟨by simp[Op.equalIn,run_underlying G],by simp,by simp,by simp,by simp,by simp,by simp⟩
   ·simp only[VR] at z h2
    obtain⟨_,_,rfl⟩:=z
    subst h2;cases h
    exact⟨by simp[Op.equalIn,run_underlying G],by simp,by simp,by simp,by simp,by simp,by simp⟩
   ·rename_i f g o f' g' Z
    cases b1:Nat.beq f f'
    ·rw[b1] at h;cases h
    rw[b1,fV] at h
    cases b2:Nat.beq g g'
    ·rw[b2] at h;cases h
    rw[b2,fV] at h
    cases J:Nat.beq o Z
    ·rw[J] at h;cases h
    rw[J,fV] at h
    cases h
    have b1:=d8 b1
    have b2:=d8 b2
    have J:=d8 J
    subst b1;subst b2;subst J
    simp only[VR] at z h2
    obtain⟨hm,k1,rfl⟩:=z
    obtain⟨E4,U,rfl⟩:=h2
    rw[k1] at U
    cases U
    exact⟨by simp[Op.equalIn,run_underlying G,sizeOf,typeInfo,K,run_sameAddr_same],by simp,by simp,by simp,by simp,by simp,by simp⟩
   cases h
  cases A
 ·cases A
  unfold ns at h
  simp only at h
  split at h
  ·simp only[VR] at z h2
   subst z;subst h2;cases h
   exact⟨by simp[Op.equalIn,run_underlying G],by simp,by simp,by simp,by simp,by simp,by simp⟩
  ·simp only[VR] at z h2
   obtain⟨_,_,_,_,rfl,_⟩:=h2
   subst z;cases h
   exact⟨by simp[Op.equalIn,run_underlying G],by simp,by simp,by simp,by simp,by simp,by simp⟩
  ·simp only[VR] at z h2
   obtain⟨_,_,_,_,rfl,_⟩:=z
   subst h2;cases h
   exact⟨by simp[Op.equalIn,run_underlying G],by simp,by simp,by simp,by simp,by simp,by simp⟩
  cases h
 ·rename_i ms
  cases A
  unfold ns at h
  simp only at h
  split at h
  ·simp only[VR] at z h2
   subst z;subst h2;cases h
   exact⟨by simp[Op.equalIn,run_underlying G],by simp,by simp,by simp,by simp,by simp,fun _=>⟨ms,rfl⟩⟩
  ·simp only[VR] at z h2
   obtain⟨_,rfl,_⟩:=h2
   subst z;cases h
   exact⟨by simp[Op.equalIn,run_underlying G],by simp,by simp,by simp,by simp,by simp,fun _=>⟨ms,rfl⟩⟩
  ·simp only[VR] at z h2
   obtain⟨_,rfl,_⟩:=z
   subst h2;cases h
   exact⟨by simp[Op.equalIn,run_underlying G],by simp,by simp,by simp,by simp,by simp,by simp⟩
  ·rename_i t1 _ t2 _
   cases b1:Nat.beq t1 t2
   ·rw[b1] at h
    cases h
    have O:t1≠t2:=fun e=>by rw[e,iZ] at b1;cases b1
    simp only[VR] at z h2
    obtain⟨_,rfl,_⟩:=z
    obtain⟨_,rfl,_⟩:=h2
    exact⟨by simp[Op.equalIn,run_underlying G,O],by simp,by simp,by simp,by simp,by simp,by simp⟩
   rw[b1] at h;cases h
  cases h
 ·cases A
  unfold ns at h
  simp only at h
  split at h
  ·simp only[VR] at z h2
   subst z;subst h2;cases h
   exact⟨by simp[Op.equalIn,run_underlying G],by simp,by simp,by simp,by simp,by simp,by simp⟩
  ·simp only[VR] at z h2
   obtain⟨_,_,rfl,_⟩:=h2
   subst z;cases h
   exact⟨by simp[Op.equalIn,run_underlying G],by simp,by simp,by simp,by simp,by simp,by simp⟩
  ·simp only[VR] at z h2
   obtain⟨_,_,rfl,_⟩:=z
   subst h2;cases h
   exact⟨by simp[Op.equalIn,run_underlying G],by simp,by simp,by simp,by simp,by simp,by simp⟩
  cases h
 ·cases A
  unfold ns at h
  simp only at h
  split at h
  ·simp only[VR] at z h2
   subst z;subst h2;cases h
   exact⟨by simp[Op.equalIn,run_underlying G],by simp,by simp,by simp,by simp,by simp,by simp⟩
  cases h
 cases A
theorem P1{op:BinOp}(G:op= .eql∨op= .neq){t:TypeId}{d:TypeDesc}{x y:Operand}{I cy:Value}(J:P.underlying t=some d)(z:CA x y d=true)(K:∀cs,I≠.agg cs)(O:I= .nilIface→∃ms,d= .interface ms):
  (eqGuard op t x y I cy).run P w= .ok () w:=by
 unfold eqGuard
 rcases G with rfl|rfl
 ·rw[aj (by decide)]
  split
  ·obtain⟨ms,rfl⟩:=O rfl
   simp only[CA,uI] at z
   have e:∀A,(Op.eqGuardIn (A+1) t .nilIface .nilIface).run P w= .ok (!ms.isEmpty) w:=fun A=>by simp[Op.eqGuardIn,run_underlying J]
   rcases z with(z|z)|z
   ·cases x<;>cases y<;>simp[Op.maxDepth,e 9999,z]
   ·cases x<;>simp[wQ] at z<;>simp
   cases y<;>simp[wQ] at z<;>simp
  ·exact absurd rfl (K _)
  rfl
 rw[aj (by decide)]
 split
 ·obtain⟨ms,rfl⟩:=O rfl
  simp only[CA,uI] at z
  have e:∀A,(Op.eqGuardIn (A+1) t .nilIface .nilIface).run P w= .ok (!ms.isEmpty) w:=fun A=>by simp[Op.eqGuardIn,run_underlying J]
  rcases z with(z|z)|z
  ·cases x<;>cases y<;>simp[Op.maxDepth,e 9999,z]
  ·cases x<;>simp[wQ] at z<;>simp
  cases y<;>simp[wQ] at z<;>simp
 ·exact absurd rfl (K _)
 rfl
theorem RD(Z:AR P ρ nt E a)(hR:R ρ C w){op:BinOp}{t t':TypeId}{d:TypeDesc}{x z:Operand}{K O:aF}{io:bE}(ho:o.op= .binOp op t x z t')(hx:dc P x=some K)(hz:dc P z=some O)(hu:P.underlying t=some d)
  (A:HL P op d x z K O=some io) (h:io.ev call E H= .ok v H'):fb P o a w (dT ρ C w H v H'):=by
 unfold HL at A
 split at A
 ·rename_i c hc
  split at A
  ·rename_i G
   have key:∀neg,(op= .eql∧neg=false)∨(op= .neq∧neg=true)→yB c neg K O E H= .ok v H'→fb P o a w (dT ρ C w H v H'):=by
    intro neg I h
    replace h:=fe h;obtain⟨u,U,h⟩:=h
    replace h:=fe h;obtain⟨u2,Y,h⟩:=h
    replace h:=jm h;obtain⟨r,hr,h⟩:=h
    rw[FG] at h
    cases h
    obtain⟨g0,g1,g2,g3,g4,g5,g6⟩:=UJ (w:=w) 9999 hu hc (Z.b9 hx U) (Z.b9 hz Y) hr
    have hg:=P1 (w:=w) (op:=op) (by rcases I with⟨h,_⟩|⟨h,_⟩<;>simp[h]) (x:=x) (y:=z) (cy:=a.eval z) hu G g5 g6
    refine gJ (cv:=.bool (Bool.xor neg r)) ?_ hR (by simp only[VR])
    simp only[execOp,ho,Sem.run_bind,hg,Result.andThen_ok]
    generalize a.eval x=J at*
    generalize a.eval z=cz at*
    rcases I with⟨rfl,rfl⟩|⟨rfl,rfl⟩
    ·have:(binOp .eql t J cz).run P w= .ok (.bool r) w:=by
      cases J<;>simp only[binOp]<;>first|exact absurd rfl (g1 _ _)|exact absurd rfl (g2 _)|exact absurd rfl (g3 _ _)|exact absurd rfl (g4 _ _ _)|simp[Op.equal,Op.maxDepth,g0]
     simp[this]
    have:(binOp .neq t J cz).run P w= .ok (.bool (!r)) w:=by
     cases J<;>simp only[binOp]<;>first|exact absurd rfl (g1 _ _)|exact absurd rfl (g2 _)|exact absurd rfl (g3 _ _)|exact absurd rfl (g4 _ _ _)|simp[Op.equal,Op.maxDepth,g0]
    simp[this]
   cases op<;>simp only[gO,reduceCtorEq] at A
   ·subst A;exact key false (.inl ⟨rfl,rfl⟩) h
   subst A;exact key true (.inr ⟨rfl,rfl⟩) h
  cases A
 cases A
end
end Go.Ev
