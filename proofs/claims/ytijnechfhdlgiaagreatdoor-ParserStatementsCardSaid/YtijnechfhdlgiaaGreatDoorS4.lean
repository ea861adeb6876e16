/- Part 4 of rules for walks through the code of a program, and of such walks; what each part proves is said by its theorems. -/
import Derived.Test.YtijnechfhdlgiaaGreatDoorS3
import Derived.Laws.Tables
import Derived.Laws.MakeOwn
import Derived.Great.FillDense
import Derived.LaidEql
import Derived.Laws.IdiomStrings
import Derived.Laws.BytesArg
import Derived.Lib.Builder
import Derived.Lib.UnsafeStr
set_option linter.unusedVariables false
set_option linter.unusedSimpArgs false
noncomputable section
set_option maxRecDepth 100000
set_option maxHeartbeats 4000000
namespace Go.Ev
section
variable{P:Program}{ρ:Ho}{nt:Nat}{E:Env}{a:Act}{C:Nat→Option et}{w:World}{H H':aE}{v:ax}{o:Oper}
theorem xV{t:TypeId}{z:List ax}(A:zeroOf P t=some z):∃i G,P.info? t=some i∧i.zero=some G∧(∀ρ,cP ρ z G.cells.toList)∧z.all iB=true∧z.length=i.size∧0<i.size∧G.cells.size=i.size:=by
 unfold zeroOf at A
 split at A
 ·rename_i i hi
  split at A
  ·rename_i G J
   split at A
   ·rename_i Y K
    split at A
    ·rename_i l U
     split at A
     ·rename_i I
      cases A
      have O:=fun ρ=>(DX ρ _ _ K).cells (Ld U)
      refine⟨i,G,hi,J,fun ρ=>(O ρ).1,(O (fun _ _=>none)).2,I.1,I.2,?_⟩
      have:=(O (fun _ _=>none)).1.length
      rw[nW] at this
      omega
     cases A
    cases A
   cases A
  cases A
 cases A
theorem size_zeroCells(z:Array Value)(n:Nat):(Builtin.zeroCells z n).size=n*z.size:=by simp[Builtin.zeroCells]
theorem N8{b:Bool}{k:aH}{n:Nat}(h:aJ b (.err n) k= .ok v H'):b=false∧k= .ok v H':=by
 cases b
 ·exact⟨rfl,h⟩
 cases h
theorem TP(hR:R ρ C w)(hF:iQ ρ H.next H'.next){t Y ty e:TypeId}{i:TypeInfo}{z:List ax}{Z:Value}{n:Nat}{new:List (List ax)}{news:List Value}
  (ht:P.underlying t=some (.slice e)) (hi:P.info? e=some i) (hz:zeroOf P e=some z) (hb:i.bytes≠0) (hn:0<n) (hl:new.length=n) (G:Flat ρ i.size new news) (hs:Src P i.size Y Z n news w)
  (h:w3 e i.size i.bytes n new H= .ok v H'):∃cv w',(Builtin.append_ #[t,Y] ty #[.slice none 0 0,Z]).run P w= .ok cv w'∧ez ρ C w H v H' cv w':=by
 replace h:=gp h;obtain⟨A,h⟩:=h
 rw[wG] at h
 have h:=yd h
 cases h
 have A:=b0 A
 have A:n*i.bytes≤70368744177664:=A
 obtain⟨i',zv,I,we,_,_,_,J,AD⟩:=xV hz
 rw[hi] at I
 cases I
 have hnb:n≤n*i.bytes:=Ji _ ah
 have uv:=grownCap_ge w (0+n) 0 e
 have K:=run_append_grow_src (P:=P) w t Y ty e i zv ht hi we none 0 0 [] (run_firstCells_none w.drew i.size 0 0 0) Z n news hs ah ah (growslice_fits ah (by rw[jR];omega))
 generalize grownCap w (0+n) 0 e=cp at*
 have O:news.length=n*i.size:=by rw[G.len,hl]
 obtain⟨ρ',h1,h2,h3⟩:=hR.alloc (f:=H.next) (elem:=e) (es:=i.size) (aV:=i.bytes) (n:=n) (cs:=jZ new .emp 0) (cells:=([]++news).toArray++Builtin.zeroCells zv.cells (cp-(0+n)))
  (w':=w.drew.alloc (.cells (([]++news).toArray++Builtin.zeroCells zv.cells (cp-(0+n))) e))
  (Wr ⟨H.next+1,H.bj,H.ws,H.t.set H.next (.row e i.size i.bytes n n 0 (jZ new .emp 0))⟩) (fun g=>hF _ g (bR _) (gG _)) J
  (by rw[F0,size_zeroCells];simp[O])
  (fun k hk=>by
   rw[uH,az ah]
   have U:k<new.length:=by omega
   obtain⟨l1,l2⟩:=G.get k _ (fe U)
   refine⟨_,by rw[F1];exact fe U,l1,fun j x hx=>?_⟩
   obtain⟨k1,cv,k2,k3⟩:=l2 j x hx
   refine⟨k1,cv,?_,k3⟩
   have:=rO k2
   rw[F2 (by simpa using this)]
   simpa using k2) rfl rfl rfl rfl
 refine⟨_,_,K,ρ',?_,h2,?_⟩
 ·simp only[VR]
  refine⟨_,_,_,h1,by rw[jR],ah,.inl ⟨rfl,?_⟩⟩
  simp only
  rw[F0,size_zeroCells,AD,jR]
  simp only[Cv,List.size_toArray,O]
  rw[←nX]
  exact lK _ ah
 rw[DK]
 exact h3
theorem Hj{f:Nat}{o z:et}(hC:C f=H.t.get f)(_ho:H.t.get f=some o):gY C H ⟨H.next,H.bj,wrote f H.bj H.ws,H.t.set f z⟩=fun x=>if x=f then some z else C x:=by
 funext x
 unfold gY
 simp only
 rw[al ah,GT.eY]
 by_cases h:x=f
 ·subst h
  rw[az rfl,az rfl]
  split
  ·rename_i e;rw[hC,←e]
  rfl
 rw[al h,al h,az rfl]
theorem HA(H:aE)(f:Nat)(t:HT):Wr ⟨H.next,H.bj,wrote f H.bj H.ws,t⟩ f:=by
 unfold Wr
 simp only[AZ]
 by_cases ew:f<H.bj
 ·exact .inl (.inr ⟨trivial,ew⟩)
 exact .inr ah
theorem TQ(hR:R ρ C w){t tx ty e:TypeId}{i:TypeInfo}{z:List ax}{yc:Value}{n:Nat}{new:List (List ax)}{news:List Value}{f g off A fA:Nat}{xc:Value}
  (ht:P.underlying t=some (.slice e)) (hi:P.info? e=some i) (hz:zeroOf P e=some z) (hb:i.bytes≠0) (hn:0<n) (hl:new.length=n) (wc:Flat ρ i.size new news) (hs:Src P i.size tx yc n news w)
  (hx:VR ρ (.slice f g off A fA) xc) (hC0:∀o,(∃g h,ρ f g=some h)→H.t.get f=some o→C f=some o)
  (h:yD e i.size i.bytes n new H f g off A fA= .ok v H'):∃cv w',(Builtin.append_ #[t,tx] ty #[xc,yc]).run P w= .ok cv w'∧ez ρ C w H v H' cv w':=by
 have h:jt (H.t.get f) (aH.err 33) (fun Y Jt na m lo fl cs=>
  aJ (Nat.beq off 0) (aJ (Nat.beq g m) (aJ (Nat.ble lo g) (aJ (Nat.beq A m) (aJ (Nat.beq fA i.size) (aJ (Nat.beq Jt i.size) (aJ (Nat.beq fl 1) (aH.err 32)
   (aJ (Nat.ble (Nat.mul (Nat.add m n) i.bytes) 70368744177664) (aJ (Nat.beq e Y)
    (dz (Nat.add m n) fun m'=>tJ new cs m fun cs=>H.t.gV f (.row Y Jt na m' lo fl cs) fun t=>
     aH.ok (.slice f m' 0 m' i.size) ⟨H.next,H.bj,wrote f H.bj H.ws,t⟩) (aH.err 32)) (aH.err 32))) (aH.err 32)) (aH.err 32)) (aH.err 32)) (aH.err 32)) (aH.err 32)) (aH.err 32))=aH.ok v H':=by
  cases H;exact h
 obtain⟨Y,Jt,na,m,lo,fl,cs,hg,h⟩:=Mo h
 replace h:=gp h;obtain⟨a1,h⟩:=h
 replace h:=gp h;obtain⟨a2,h⟩:=h
 replace h:=gp h;obtain⟨a3,h⟩:=h
 replace h:=gp h;obtain⟨a4,h⟩:=h
 replace h:=gp h;obtain⟨a5,h⟩:=h
 replace h:=gp h;obtain⟨a6,h⟩:=h
 replace h:=N8 h;obtain⟨a7,h⟩:=h
 replace h:=gp h;obtain⟨a8,h⟩:=h
 replace h:=gp h;obtain⟨a9,h⟩:=h
 rw[iG,wG,GT.kG] at h
 have a1:=eH a1
 have a2:=eH a2
 have a3:=b0 a3
 have a4:=eH a4
 have a5:=eH a5
 have a6:=eH a6
 have a7:fl≠1:=by intro e;subst e;cases a7
 have a8:=b0 a8
 have a9:=eH a9
 cases h
 subst a1 a2 a4 a6 a9
 obtain⟨i',zv,wg,we,_,_,_,F7,AD⟩:=xV hz
 rw[hi] at wg
 cases wg
 simp only[VR] at hx
 obtain⟨G,ad,cap,hh,rfl,wb,rJ⟩:=hx
 have hC:C f=H.t.get f:=(hC0 _ ⟨_,_,hh⟩ hg).trans hg.symm
 have ur:C f=some (.row e i.size na A lo fl cs):=hC.trans hg
 rcases rJ with⟨rfl,rJ⟩|⟨_,_,rJ⟩
 case inr=>omega
 rw[a5] at rJ
 obtain⟨_,o6,_,O⟩:=hR.obj f _ ur A G hh
 have O:=O a3 (bR _)
 obtain⟨c,fz,U,hroom⟩:=O.row
 have Rb:news.length=n*i.size:=by rw[wc.len,hl]
 have hnb:A+n≤(A+n)*i.bytes:=Ji _ ah
 have hbd:(A+n)*i.bytes≤70368744177664:=a8
 have hadd:(A+n)*i.size=A*i.size+n*i.size:=nX _ _ _
 by_cases J:A+n≤cap
 ·have X4:(A+n)*i.size≤cap*i.size:=lK _ J
  have jC:∀j,j<news.length→(w.cell? ⟨G.ct,G.off+0+A*i.size+j,none⟩).isSome=true:=by
   intro j hj
   simp only[World.cell?,U]
   rw[xo ah]
   rfl
  have AA:∀j,j<news.length→w.frozen? ⟨G.ct,G.off+0+A*i.size+j,none⟩=false:=by
   intro j hj
   rw[show G.off+0+A*i.size+j=G.off+(A*i.size+j) by omega]
   exact O.zN a7 _ ah ah
  have xx:=run_append_room_src (P:=P) w t tx ty e i ht hi G.ct (G.off+0) A cap yc n news hs J jC AA
  obtain⟨s1,s2,s3,s4,s5,s6⟩:=Dv G.ct news (G.off+0+A*i.size) w
  obtain⟨c',CY,Qj⟩:=s3 c e fz U
  have Qn:∀q,q<A*i.size→(w.setCells G.ct (G.off+0+A*i.size) news).cell? ⟨G.ct,G.off+q,none⟩=w.cell? ⟨G.ct,G.off+q,none⟩:=by
   intro q hq
   exact World.cell?_setCells_out _ _ _ _ _ (fun _ _=>by simp only;omega)
  obtain⟨ρ',k1,k2,k3⟩:=hR.grow (H:=H) (na:=na) (w':=w.setCells G.ct (G.off+0+A*i.size) news) (h2:=G)
   (Wr ⟨H.next,H.bj,wrote f H.bj H.ws,H.t.set f (.row e i.size na (Nat.add A n) lo fl (jZ new cs A))⟩) (HA _ _ _) ur hh hl hn a3 a7 wc
   (by rw[s1];exact bR _) s4 s5 s6 (fun b _ hb=>s2 b hb) ⟨c,c',e,fz,U,CY,Qj⟩ Qn (.inl rfl) (by rw[s1];exact hR.kB _ _ _ hh)
   ⟨c',fz,CY,ah⟩ ah Qn
   (fun j hj=>by
    rw[show G.off+A*i.size+j=G.off+0+A*i.size+j by omega]
    rw[World.cell?_setCells_in _ _ _ _ jC j ah,←fe])
   (fun l8=>absurd rfl l8)
  refine⟨_,_,xx,ρ',?_,k2,?_⟩
  ·simp only[VR]
   exact⟨G,_,_,k1,rfl,J,.inl ⟨rfl,ah⟩⟩
  rw[Hj hC hg]
  exact k3
 have J:cap<A+n:=by omega
 have cellAt:∀q,q<A*i.size→∃cv,w.cell? ⟨G.ct,G.off+q,none⟩=some cv∧cv.oneCell'=true:=by
  intro q hq
  have hi1:q/i.size<A:=by rw[P' F7];exact hq
  have hj:q % i.size<i.size:=eI _ F7
  obtain⟨l,l1,l2,l3⟩:=O.cell _ hi1
  obtain⟨k1,cv,k2,k3⟩:=l3 (q % i.size) _ (fe (by rw[l2];exact hj))
  refine⟨cv,?_,G' k3 k1⟩
  have:q/i.size*i.size+q % i.size=q:=by rw[ny];exact FW q i.size
  rwa [nx,this] at k2
 obtain⟨I,Gz,oa⟩:∃I:List Value,I.length=A*i.size∧∀q,q<A*i.size→I[q]?=w.cell? ⟨G.ct,G.off+q,none⟩:=by
  refine⟨(List.range (A*i.size)).map fun q=>(w.cell? ⟨G.ct,G.off+q,none⟩).getD undef,by simp,fun q hq=>?_⟩
  obtain⟨cv,k1,_⟩:=cellAt q hq
  simp[hq,k1]
 have hold:(Builtin.firstCells i.size A (.slice (some ⟨G.ct,G.off+0,none⟩) A cap)).run P w.drew= .ok I.toArray w.drew:=by
  refine run_firstCells_some w.drew i.size A _ A cap I Gz fun j u hu=>?_
  rw[Addr.add_lit,xn]
  show w.cell? _=_
  rw[←oa j (by have:=rO hu;omega)]
  exact hu
 have xx:=run_append_grow_src (P:=P) w t tx ty e i zv ht hi we (some ⟨G.ct,G.off+0,none⟩) A cap I hold yc n news hs J ah (growslice_fits J ah)
 have uv:=grownCap_ge w (A+n) cap e
 generalize grownCap w (A+n) cap e=cp at*
 generalize N9:(I++news).toArray++Builtin.zeroCells zv.cells (cp-(A+n))=cells at*
 have hcsz:cells.size=cp*i.size:=by
  rw[←N9,F0,size_zeroCells,AD]
  simp only[List.size_toArray,bE,Gz,Rb]
  rw[←nX,←nX]
  congr 1
  omega
 have GA:∀q,q<(A+n)*i.size→cells[q]?=(I++news)[q]?:=by
  intro q hq
  rw[←N9,F2 (by simp[Gz,Rb];omega)]
  simp
 have K:∀q,(w.drew.alloc (.cells cells e)).cell? ⟨w.heap.size,q,none⟩=cells[q]?:=by
  intro q
  have:(w.drew.alloc (.cells cells e)).heap[w.heap.size]?=some (.cells cells e (0,0)):=by
   show(w.heap.push _)[w.heap.size]?=_
   simp
  simp only[World.cell?,this]
  simp
 have Z:∀b,b<w.heap.size→(w.drew.alloc (.cells cells e)).heap[b]?=w.heap[b]?:=fun b hb=>by
  show(w.heap.push _)[b]?=_
  rw[Je,al ah]
 have YU:∀q,(w.drew.alloc (.cells cells e)).frozen? ⟨w.heap.size,q,none⟩=false:=by
  intro q
  have:(w.drew.alloc (.cells cells e)).heap[w.heap.size]?=some (.cells cells e (0,0)):=by
   show(w.heap.push _)[w.heap.size]?=_
   simp
  simp only[World.frozen?,this]
  simp
 have X4:(A+n)*i.size≤cp*i.size:=lK _ uv
 obtain⟨ρ',k1,k2,k3⟩:=hR.grow (H:=H) (na:=na) (w':=w.drew.alloc (.cells cells e)) (h2:=⟨w.heap.size,0,cells.size,false,false⟩)
  (Wr ⟨H.next,H.bj,wrote f H.bj H.ws,H.t.set f (.row e i.size na (Nat.add A n) lo fl (jZ new cs A))⟩) (HA _ _ _) ur hh hl hn a3 a7 wc
  (by show w.heap.size≤(w.heap.push _).size;simp) rfl rfl rfl (fun b hb _=>Z b hb) ⟨c,c,e,fz,U,by rw[Z _ (hR.kB _ _ _ hh)];exact U,rfl⟩
  (fun q _=>cell_of_heap (w:=w) (Z _ (hR.kB _ _ _ hh))) (.inr ⟨bR _,rfl⟩) (by show w.heap.size<(w.heap.push _).size;simp)
  ⟨cells,(0,0),by show(w.heap.push _)[w.heap.size]?=_;simp,by simp⟩ (by simp only;omega)
  (fun q hq=>by
   rw[jR,K,GA q ah,rz ah]
   exact oa q hq)
  (fun j hj=>by
   rw[jR,K,GA _ ah,xm ah,Gz]
   congr 1
   omega)
  (fun _=>⟨rfl,fun q=>YU q,fun c1 e1 uq jC=>by
   have h0:(w.heap.push (Obj.cells cells e))[w.heap.size]?=some (.cells c1 e1 uq):=jC
   simp at h0
   rw[←h0.2.2]⟩)
 refine⟨_,_,xx,ρ',?_,k2,?_⟩
 ·simp only[VR]
  exact⟨_,_,_,k1,rfl,by show A+n≤cp;exact uv,.inl ⟨rfl,by simp only;omega⟩⟩
 rw[Hj hC hg]
 exact k3
end
section
variable{P:Program}{ρ:Ho}{nt:Nat}{E:Env}{a:Act}{C:Nat→Option et}{w:World}{H H':aE}{v:ax}{o:Oper}
theorem KK{at_:Array TypeId}{t z ty:TypeId}{args:Array Value}(h0:at_[0]?=some t)(A:at_[1]?=some z):Builtin.append_ at_ ty args=Builtin.append_ #[t,z] ty args:=by
 unfold Builtin.append_
 simp[h0,A]
theorem Lg(Y:R ρ C w)(hF:iQ ρ H.next H'.next){t Z ty e:TypeId}{i:TypeInfo}{z:List ax}{G:ax}{O yc:Value}{n:Nat}{new:List (List ax)}{news:List Value}
  (ht:P.underlying t=some (.slice e)) (hi:P.info? e=some i) (hz:zeroOf P e=some z) (hb:i.bytes≠0) (hl:new.length=n) (I:Flat ρ i.size new news) (U:Src P i.size Z yc n news w)
  (A:VR ρ G O) (hC:∀f o,f∈ju (some G)→(∃g h,ρ f g=some h)→H.t.get f=some o→C f=some o)
  (h:ka e i.size i.bytes n new H G= .ok v H'):∃cv w',(Builtin.append_ #[t,Z] ty #[O,yc]).run P w= .ok cv w'∧ez ρ C w H v H' cv w':=by
 cases n with
 |zero=>
  have rI:news=[]:=by
   have:=I.len
   rw[hl,sC] at this
   exact um this
  subst rI
  have h:hO G (aH.err 31) (aH.ok G H) (fun _ _ _ _ _=>aH.ok G H)=aH.ok v H':=h
  replace h:=xT h
  have hk:=U.kind
  have fin:∀base l c,O= .slice base l c→l≤c→(Builtin.append_ #[t,Z] ty #[O,yc]).run P w= .ok O w:=by
   intro base l c e J
   subst e
   have h2:=U.cells
   rcases hk with⟨e',hk⟩|hk<;>cases base<;>simp[Builtin.append_,run_underlying ht,run_underlying hk,sizeOf,typeInfo,hi,U.len,J,h2,storeCells]
  rcases h with⟨rfl,h⟩|⟨f,g,o1,l,es,rfl,h⟩
  ·cases h
   have K:=A
   simp only[VR] at A
   exact⟨O,w,fin _ _ _ A (bR _),ez.pure Y K⟩
  cases h
  have K:=A
  simp only[VR] at A
  obtain⟨hm,ad,cap,hh,rfl,J,rJ⟩:=A
  exact⟨_,w,fin _ _ _ rfl J,ez.pure Y K⟩
 |succ n=>
  have h:hO G (aH.err 34) (w3 e i.size i.bytes (n+1) new H) (yD e i.size i.bytes (n+1) new H)=aH.ok v H':=h
  replace h:=xT h
  rcases h with⟨rfl,h⟩|⟨f,g,o1,l,es,rfl,h⟩
  ·simp only[VR] at A
   subst A
   exact TP Y hF ht hi hz hb (Jj _) hl I U h
  exact TQ Y ht hi hz hb (Jj _) hl I U A (fun o=>hC f o (by simp[ju])) h
theorem TR(hA:AR P ρ nt E a)(hR:R ρ C w)(hF:iQ ρ H.next H'.next){c:Call}{x y:Operand}{x' y':aI}{t u e e2:TypeId}{i:TypeInfo}{z:List ax}
  (ho:o.op= .call c) (hc:c.callee= .builtin .append) (K:c.args=#[x,y]) (hx:dH P x=some x') (hy:dH P y=some y') (h0:c.argTypes[0]?=some t) (h1:c.argTypes[1]?=some u)
  (ht:P.underlying t=some (.slice e)) (I:P.underlying u=some (.slice e2)) (hi:P.info? e=some i) (hz:zeroOf P e=some z) (hb:i.bytes≠0)
  (hC:∀f o,f∈ju (x'.ev E)++ju (y'.ev E)→(∃g h,ρ f g=some h)→H.t.get f=some o→C f=some o)
  (h:CD e i.size i.bytes x' y' E H= .ok v H'):fP P o a w (ez ρ C w H v H'):=by
 replace h:=fS h;obtain⟨xa,U,h⟩:=h
 replace h:=fS h;obtain⟨ya,Y,h⟩:=h
 have JU:=hA.ch hx U
 have A:=hA.ch hy Y
 obtain⟨i',zv,Z,we,_,_,_,F7,AD⟩:=xV hz
 rw[hi] at Z
 cases Z
 have hCx:∀f o,f∈ju (some xa)→(∃g h,ρ f g=some h)→H.t.get f=some o→C f=some o:=fun f o hf=>hC f o (by rw[U];exact Qa _ hf)
 have done:∀{n:Nat}{new:List (List ax)}{news:List Value},new.length=n→Flat ρ i.size new news→Src P i.size u (a.eval y) n news w→ka e i.size i.bytes n new H xa= .ok v H'→fP P o a w (ez ρ C w H v H'):=by
  intro n new news hl G hs h
  obtain⟨cv,w',xx,hp⟩:=Lg hR hF (ty:=o.type) ht hi hz hb hl G hs JU hCx h
  refine .inl ⟨cv,w',?_,hp⟩
  simp[execOp,ho,resolve,hc,K,invoke,builtin,KK h0 h1,xx]
 replace h:=xT h
 rcases h with⟨rfl,h⟩|⟨f,g,o1,l,es,rfl,h⟩
 ·simp only[VR] at A
  refine done (new:=[]) (news:=[]) rfl ⟨by simp,(fun _ I=>by cases I),(fun i x hx=>by simp at hx)⟩ ?_ h
  rw[A]
  exact Src.ofNil w I 0
 replace h:=jP h;obtain⟨new,xw,h⟩:=h
 simp only[VR] at A
 obtain⟨hm,ad,cap,hh,A,wb,O⟩:=A
 obtain⟨hlen,news,G,J⟩:=Flat.Uy hR xw (fun o=>hC f o (by rw[Y];exact Jk _ (by simp[ju])) ⟨_,_,hh⟩) hh F7
 rcases O with⟨rfl,O⟩|⟨o5,hc0,O⟩
 ·refine done hlen G ?_ h
  rw[A]
  refine Src.ofSlice w I _ l cap news (by rw[G.len,hlen]) (fun j u I=>?_) G.one
  rw[Addr.add_lit]
  exact J j u I
 subst o5
 have rI:news=[]:=by
  have:=G.len
  rw[hlen,sC] at this
  exact um this
 subst rI
 refine done hlen G ?_ h
 rw[A]
 exact Src.ofSlice w I _ 0 cap [] (by simp) (fun j u I=>by simp at I) (fun _ I=>by cases I)
theorem Ha:∀(l:List UInt8)(i:Nat)(x:List ax),(mV l.length (pack l))[i]?=some x→∃b,l[i]?=some b∧x=[.int .u8 b.toNat]
 |[],i,x,h=>by
  have h:([]:List (List ax))[i]?=some x:=h
  simp at h
 |b::r,i,x,h=>by
  have step:mV (b::r).length (pack (b::r))=[ax.int .u8 (Int.ofNat (Nat.mod (pack (b::r)) 256))]::mV r.length (Nat.div (pack (b::r)) 256):=rfl
  have G:b.toNat<256:=b.toNat_lt
  have e1:Nat.mod (pack (b::r)) 256=b.toNat:=by show(b.toNat+256*pack r) % 256=_;omega
  have e2:Nat.div (pack (b::r)) 256=pack r:=by show(b.toNat+256*pack r)/256=_;omega
  rw[step,e1,e2] at h
  cases i with
  |zero=>simp at h;exact⟨b,rfl,h.symm⟩
  |succ i=>obtain⟨z,A,h2⟩:=Ha r i x (by simpa using h);exact⟨z,by simpa using A,h2⟩
theorem AP:∀(l v:Nat),(mV l v).length=l
 |0,_=>rfl
 |l+1,v=>by
  have step:mV (l+1) v=[ax.int .u8 (Int.ofNat (Nat.mod v 256))]::mV l (Nat.div v 256):=rfl
  rw[step,cV,AP]
theorem Flat.bytes(s:ByteArray):Flat ρ 1 (mV s.size (pack s.data.toList)) (byteCells s):=by
 have z:s.size=s.data.toList.length:=by rw[nW];rfl
 refine⟨by rw[byteCells_length,AP,Jl],fun u J=>?_,fun i x G=>?_⟩
 ·obtain⟨_,_,rfl⟩:=List.mem_map.1 J
  rfl
 rw[z] at G
 obtain⟨b,K,rfl⟩:=Ha _ _ _ G
 refine⟨rfl,fun j y A=>?_⟩
 have I:=rO A
 simp at I
 subst I
 simp at A
 subst A
 refine⟨rfl,.int .u8 b.toNat,?_,by simp only[VR]⟩
 rw[Jl,xn]
 simp only[byteCells,iJ,K,tU]
theorem Su(hA:AR P ρ nt E a)(hR:R ρ C w)(hF:iQ ρ H.next H'.next){c:Call}{x y:Operand}{Y y':aI}{t u e:TypeId}{i:TypeInfo}{z:List ax}
  (ho:o.op= .call c) (hc:c.callee= .builtin .append) (I:c.args=#[x,y]) (hx:dH P x=some Y) (hy:dH P y=some y') (h0:c.argTypes[0]?=some t) (h1:c.argTypes[1]?=some u)
  (ht:P.underlying t=some (.slice e)) (hu:P.underlying u=some .string) (hi:P.info? e=some i) (hz:zeroOf P e=some z) (J:i.size=1) (Z:i.bytes=1)
  (hC:∀f o,f∈ju (Y.ev E)→(∃g h,ρ f g=some h)→H.t.get f=some o→C f=some o)
  (h:Bg e Y y' E H= .ok v H'):fP P o a w (ez ρ C w H v H'):=by
 replace h:=fS h;obtain⟨xa,K,h⟩:=h
 replace h:=fS h;obtain⟨ya,hya,h⟩:=h
 replace h:=yb h;obtain⟨l,s,rfl,h⟩:=h
 have JU:=hA.ch hx K
 have A:=hA.ch hy hya
 simp only[VR] at A
 obtain⟨b,A,rfl,rfl⟩:=A
 have O:=Flat.bytes (ρ:=ρ) b
 have G:=Src.ofString (P:=P) w hu b
 rw[←J] at O G
 have h:ka e i.size i.bytes b.size (mV b.size (pack b.data.toList)) H xa= .ok v H':=by rw[J,Z];exact h
 obtain⟨cv,w',U,hp⟩:=Lg hR hF (ty:=o.type) ht hi hz ah (AP _ _) O G JU (fun f o hf=>hC f o (by rw[K];exact hf)) h
 refine .inl ⟨cv,w',?_,hp⟩
 simp[execOp,ho,resolve,hc,I,invoke,builtin,KK h0 h1,A,U]
end
def bP.dX:bP→List aI
 |.o4 x=>[x]
 |.pick c a b=>[c,a,b]
 |.cw _ _ _ _=>[]
 |.box _ _ _ x=>[x]
 |.load _ _ a=>[a]
 |.store _ a x=>[a,x]
 |.bin _ x y=>[x,y]
 |.eqv _ _ x y=>[x,y]
 |.un _ x=>[x]
 |.oT x _=>[x]
 |.sub x _ _ _=>[x]
 |.eb _ _ x i=>[x,i]
 |.dV _ x i=>[x,i]
 |.BA _ _ _ x i=>[x,i]
 |.tu x i=>[x,i]
 |.js x lo hi=>x::(lo.toList++hi.toList)
 |.pS _ x lo hi=>x::(lo.toList++hi.toList)
 |.xe _ _ x lo hi=>x::(lo.toList++hi.toList)
 |.sF x _=>[x]
 |.pM x=>[x]
 |.oU _ z l=>z++l
 |.vT _ x=>[x]
 |.tZ _ _ _ _ x y=>[x,y]
 |.build _ ps=>ps.map (·.2.2)
 |.cG _ _ _ _ _ ps=>ps.map (·.2)
 |.len x=>[x]
 |.Cx _=>[]
 |.pT x=>[x]
 |.app _ _ _ x y=>[x,y]
 |.rY _ x y=>[x,y]
 |.copy _ x y=>[x,y]
 |.BB _ x ys=>x::ys
 |.conv _ x=>[x]
 |.EC x=>[x]
 |.yB _ x=>[x]
 |.nN x=>[x]
 |.call _ l=>l
 |.ns x l=>x::l
 |.rl _ _ x=>[x]
 |.wa x=>[x]
 |.rA _ x n=>[x,n]
theorem dw(x:aI)(E:Env)(e:aH)(k:ax→aH):bI x E e k=ob (x.ev E) e k:=by cases x<;>rfl
section
variable{E E':Env}
theorem xW:∀(l:List aI),(∀x∈l,x.ev E=x.ev E')→ki E l=ki E' l
 |[],_=>rfl
 |x::r,h=>by
  have z:=h x (by simp)
  have h2:=xW r (fun y A=>h y (by simp[A]))
  show ob (x.ev E) none (fun v=>ob (ki E r) none fun vs=>some (v::vs))=ob (x.ev E') none (fun v=>ob (ki E' r) none fun vs=>some (v::vs))
  rw[z,h2]
theorem xX{x:Option aI}{d y:Nat}{e:aH}{k:Nat→aH}(h:∀z∈x.toList,z.ev E=z.ev E'):gH E x d y e k=gH E' x d y e k:=by
 cases x with
 |none=>rfl
 |some z=>
  have A:=h z (by simp)
  show ob (z.ev E) e _=ob (z.ev E') e _
  rw[A]
theorem KL:∀(ps:List (Nat×Nat×aI))(cells:List ax),(∀x∈ps.map (·.2.2),x.ev E=x.ev E')→qs E ps cells=qs E' ps cells
 |[],_,_=>rfl
 |p::r,cells,h=>by
  have z:=h p.2.2 (by simp)
  have h2:=fun cells=>KL r cells (fun y A=>h y (by simp only[e7,qO];exact .inr A))
  show ob (p.2.2.ev E) none _=ob (p.2.2.ev E') none _
  rw[z]
  congr 1
  funext v
  congr 1
  funext new
  congr 1
  exact h2 _
theorem KH(es z:Nat):∀(ps:List (Nat×aI))(t:RT),(∀x∈ps.map (·.2),x.ev E=x.ev E')→rb E es z ps t=rb E' es z ps t
 |[],_,_=>rfl
 |p::r,t,h=>by
  have A:=h p.2 (by simp)
  have h2:=fun t=>KH es z r t (fun y G=>h y (by simp only[e7,qO];exact .inr G))
  show ob (p.2.ev E) none _=ob (p.2.ev E') none _
  rw[A]
  congr 1
  funext v
  congr 1
  funext new
  congr 1
  congr 1
  exact h2 _
theorem bP.Uz{call:fc}{H:aE}(io:bP)(h:∀x∈io.dX,x.ev E=x.ev E'):io.ev call E H=io.ev call E' H:=by
 cases io with
 |o4 x=>have A:=h x (by simp[bP.dX]);show mG x E H=mG x E' H;simp only[mG,dw,A]
 |pick c x y=>
  have A:=h c (by simp[bP.dX]);have h2:=h x (by simp[bP.dX]);have I:=h y (by simp[bP.dX])
  show B0 c x y E H=B0 c x y E' H;simp only[B0,mG,dw,A,h2,I]
 |cw a b c d=>rfl
 |box a b c x=>have A:=h x (by simp[bP.dX]);show Cz a b c x E H=Cz a b c x E' H;simp only[Cz,xf,dw,A]
 |load a b x=>have A:=h x (by simp[bP.dX]);show B1 a b x E H=B1 a b x E' H;simp only[B1,dw,A]
 |store a x y=>have A:=h x (by simp[bP.dX]);have h2:=h y (by simp[bP.dX]);show BC a x y E H=BC a x y E' H;simp only[BC,dw,A,h2]
 |bin a x y=>have A:=h x (by simp[bP.dX]);have h2:=h y (by simp[bP.dX]);show CA a x y E H=CA a x y E' H;simp only[CA,dw,A,h2]
 |eqv a b x y=>have A:=h x (by simp[bP.dX]);have h2:=h y (by simp[bP.dX]);show Au a b x y E H=Au a b x y E' H;simp only[Au,dw,A,h2]
 |un a x=>have A:=h x (by simp[bP.dX]);show CV a x E H=CV a x E' H;simp only[CV,dw,A]
 |oT x a=>have A:=h x (by simp[bP.dX]);show B2 x a E H=B2 x a E' H;simp only[B2,dw,A]
 |sub x a b c=>have A:=h x (by simp[bP.dX]);show CB x a b c E H=CB x a b c E' H;simp only[CB,dw,A]
 |eb a b x y=>have A:=h x (by simp[bP.dX]);have h2:=h y (by simp[bP.dX]);show Bd a b x y E H=Bd a b x y E' H;simp only[Bd,dw,A,h2]
 |dV a x y=>have A:=h x (by simp[bP.dX]);have h2:=h y (by simp[bP.dX]);show BD a x y E H=BD a x y E' H;simp only[BD,dw,A,h2]
 |BA a b c x y=>have A:=h x (by simp[bP.dX]);have h2:=h y (by simp[bP.dX]);show Be a b c x y E H=Be a b c x y E' H;simp only[Be,dw,A,h2]
 |tu x y=>have A:=h x (by simp[bP.dX]);have h2:=h y (by simp[bP.dX]);show Bf x y E H=Bf x y E' H;simp only[Bf,dw,A,h2]
 |js x lo hi=>
  have A:=h x (by simp[bP.dX])
  have h2:∀z∈lo.toList,z.ev E=z.ev E':=fun z G=>h z (by simp only[bP.dX,qO,tV];exact .inr (.inl G))
  have I:∀z∈hi.toList,z.ev E=z.ev E':=fun z G=>h z (by simp only[bP.dX,qO,tV];exact .inr (.inr G))
  show BE x lo hi E H=BE x lo hi E' H
  simp only[BE,dw,A,xX h2,xX I]
 |pS n x lo hi=>
  have A:=h x (by simp[bP.dX])
  have h2:∀z∈lo.toList,z.ev E=z.ev E':=fun z G=>h z (by simp only[bP.dX,qO,tV];exact .inr (.inl G))
  have I:∀z∈hi.toList,z.ev E=z.ev E':=fun z G=>h z (by simp only[bP.dX,qO,tV];exact .inr (.inr G))
  show B3 n x lo hi E H=B3 n x lo hi E' H
  simp only[B3,dw,A,xX h2,xX I]
 |xe k n x lo hi=>
  have A:=h x (by simp[bP.dX])
  have h2:∀z∈lo.toList,z.ev E=z.ev E':=fun z G=>h z (by simp only[bP.dX,qO,tV];exact .inr (.inl G))
  have I:∀z∈hi.toList,z.ev E=z.ev E':=fun z G=>h z (by simp only[bP.dX,qO,tV];exact .inr (.inr G))
  show ED k n x lo hi E H=ED k n x lo hi E' H
  simp only[ED,dw,A,xX h2,xX I]
 |sF x a=>have A:=h x (by simp[bP.dX]);show B4 x a E H=B4 x a E' H;simp only[B4,dw,A]
 |pM x=>have A:=h x (by simp[bP.dX]);show BF x E H=BF x E' H;simp only[BF,dw,A]
 |oU f J l=>
  have A:=xW J (fun z G=>h z (by simp only[bP.dX,tV];exact .inl G));have h2:=xW l (fun z G=>h z (by simp only[bP.dX,tV];exact .inr G))
  show B5 f J l E H=B5 f J l E' H;simp only[B5,A,h2]
 |vT t x=>have A:=h x (by simp[bP.dX]);show B6 t x E H=B6 t x E' H;simp only[B6,dw,A]
 |tZ a b c d x y=>have A:=h x (by simp[bP.dX]);have h2:=h y (by simp[bP.dX]);show B7 a b c d x y E H=B7 a b c d x y E' H;simp only[B7,dw,A,h2]
 |build z ps=>have A:=KL ps z h;show EE z ps E H=EE z ps E' H;simp only[EE,A]
 |cG a b c d z ps=>have A:=KH b d ps (oA z d) h;show DW a b c d z ps E H=DW a b c d z ps E' H;simp only[DW,A]
 |len x=>have A:=h x (by simp[bP.dX]);show CC x E H=CC x E' H;simp only[CC,dw,A]
 |Cx n=>rfl
 |pT x=>have A:=h x (by simp[bP.dX]);show B8 x E H=B8 x E' H;simp only[B8,dw,A]
 |app a b c x y=>have A:=h x (by simp[bP.dX]);have h2:=h y (by simp[bP.dX]);show CD a b c x y E H=CD a b c x y E' H;simp only[CD,dw,A,h2]
 |rY a x y=>have A:=h x (by simp[bP.dX]);have h2:=h y (by simp[bP.dX]);show Bg a x y E H=Bg a x y E' H;simp only[Bg,dw,A,h2]
 |copy a x y=>rfl
 |BB m x ys=>
  have A:=h x (by simp[bP.dX]);have h2:=xW ys (fun z G=>h z (by simp only[bP.dX,qO];exact .inr G))
  show Bh m x ys E H=Bh m x ys E' H;simp only[Bh,dw,A,h2]
 |conv k x=>have A:=h x (by simp[bP.dX]);show B9 k x E H=B9 k x E' H;simp only[B9,dw,A]
 |EC x=>have A:=h x (by simp[bP.dX]);show mG x E H=mG x E' H;simp only[mG,dw,A]
 |yB e x=>have A:=h x (by simp[bP.dX]);show Bj e x E H=Bj e x E' H;simp only[Bj,dw,A]
 |nN x=>have A:=h x (by simp[bP.dX]);show Bk x E H=Bk x E' H;simp only[Bk,dw,A]
 |call f l=>have A:=xW l h;show Ca f l call E H=Ca f l call E' H;simp only[Ca,A]
 |ns x l=>
  have A:=h x (by simp[bP.dX]);have h2:=xW l (fun z G=>h z (by simp only[bP.dX,qO];exact .inr G))
  show BH x l call E H=BH x l call E' H;simp only[BH,dw,A,h2]
 |rl t n x=>have A:=h x (by simp[bP.dX]);show BG t n x E H=BG t n x E' H;simp only[BG,dw,A]
 |wa x=>have A:=h x (by simp[bP.dX]);show CE x E H=CE x E' H;simp only[CE,dw,A]
 |rA e x n=>have A:=h x (by simp[bP.dX]);have h2:=h n (by simp[bP.dX]);show xg e x n E H=xg e x n E' H;simp only[xg,dw,A,h2]
theorem bP.SG(io:bP)(h:∀x∈io.dX,x.ev E=x.ev E'):io.reads E=io.reads E':=by
 cases io with
 |load a b x=>have z:=h x (by simp[bP.dX]);simp only[bP.reads,z]
 |app a b c x y=>have z:=h x (by simp[bP.dX]);have h2:=h y (by simp[bP.dX]);simp only[bP.reads,z,h2]
 |rY a x y=>have z:=h x (by simp[bP.dX]);simp only[bP.reads,z]
 |nN x=>have z:=h x (by simp[bP.dX]);simp only[bP.reads,z]
 |store a x y=>have z:=h x (by simp[bP.dX]);simp only[bP.reads,z]
 |rl t n x=>have z:=h x (by simp[bP.dX]);simp only[bP.reads,z]
 |rA t x n=>have z:=h x (by simp[bP.dX]);simp only[bP.reads,z]
 |xe a b x lo hi=>have z:=h x (by simp[bP.dX]);simp only[bP.reads,z]
 |_=>rfl
end
def kH(ρ:Ho)(C:Nat→Option et)(H:aE):Prop:=∀f o,(∃g h,ρ f g=some h)→H.t.get f=some o→C f=some o
structure kZ(P:Program)(call:fc):Prop where
 nc:∀f args H,H.bj≤H.next→TM H (call f args H)
 sound:∀f args H v H' ρ C w(cm:Array Value),call f args H= .ok v H'→H.bj≤H.next→(∀x,H.next≤x→H.t.get x=none)→R ρ C w→kH ρ C H→iQ ρ H.next H'.next→vE P ρ→cP ρ args cm.toList→
  ((callFunc f cm).run P w= .ok (.enter f cm) w∧Calls P f cm w fun e w'=>∃cv,e= .returned cv∧ez ρ C w H v H' cv w')∨
  ∃cv w',(callFunc f cm).run P w= .ok (.value cv) w'∧ez ρ C w H v H' cv w'
section
variable{P:Program}{ρ:Ho}{nt:Nat}{E:Env}{a:Act}{C:Nat→Option et}{w:World}{H H':aE}{v:ax}{o:Oper}{call:fc}
theorem Td(J:AR P ρ nt E a)(K:R ρ C w)(O:iQ ρ H.next H'.next)(U:kH ρ C H)(Y:H.bj≤H.next)(G:∀x,H.next≤x→H.t.get x=none)(Z:kZ P call){c:Call}{f:Nat}{args:List aI}
  (ho:o.op= .call c) (A:c.callee= .value (.func f)) (hx:lS P c.args.toList=some args) (h:Ca f args call E H= .ok v H'):fP P o a w (ez ρ C w H v H'):=by
 replace h:=jP h;obtain⟨vs,hv,h⟩:=h
 have h1:=J.dX hx hv
 rcases Z.sound f vs H v H' ρ C w (c.args.map a.eval) h Y G K U O J.sG (by simpa using h1) with⟨hp,I⟩|⟨cv,w',hp,z⟩
 ·refine .inr (.inr ⟨f,c.args.map a.eval,?_,I⟩)
  simp[execOp,ho,resolve,A,Deferred.ofValue,Act.eval,invoke,hp]
 refine .inl ⟨cv,w',?_,z⟩
 simp[execOp,ho,resolve,A,Deferred.ofValue,Act.eval,invoke,hp]
theorem SH(G:AR P ρ nt E a)(Z:R ρ C w)(hF:iQ ρ H.next H'.next)(hK:kH ρ C H)(hm:H.bj≤H.next)(I:∀x,H.next≤x→H.t.get x=none)(hc:kZ P call){c:Call}{x:Operand}{O:aI}{args:List aI}
  (ho:o.op= .call c) (A:c.callee= .value x) (J:dH P x=some O) (hx:lS P c.args.toList=some args) (h:BH O args call E H= .ok v H'):fP P o a w (ez ρ C w H v H'):=by
 replace h:=fS h;obtain⟨u,hu,h⟩:=h
 replace h:=TI h;obtain⟨f,fs,ff,rfl,h⟩:=h
 replace h:=jP h;obtain⟨vs,hv,h⟩:=h
 have h1:=G.dX hx hv
 have h2:=G.ch J hu
 simp only[VR] at h2
 obtain⟨U,Y,h2,h4,h3⟩:=h2
 rcases hc.sound f (fs++(vs++ff)) H v H' ρ C w (U++c.args.map a.eval++Y) h hm I Z hK hF G.sG (by simpa using cP.append h4 (cP.append h1 h3)) with⟨hp,K⟩|⟨cv,w',hp,z⟩
 ·refine .inr (.inr ⟨f,U++c.args.map a.eval++Y,?_,K⟩)
  rw[Array.append_assoc] at hp⊢
  simp[execOp,ho,resolve,A,Deferred.ofValue,h2,invoke,hp]
 refine .inl ⟨cv,w',?_,z⟩
 rw[Array.append_assoc] at hp
 simp[execOp,ho,resolve,A,Deferred.ofValue,h2,invoke,hp]
end
section
variable{P:Program}{ρ:Ho}{nt:Nat}{E:Env}{a:Act}{C:Nat→Option et}{w:World}{H H':aE}{v:ax}{o:Oper}{call:fc}
def wJ(cells:Array Value)(off:Nat)(v:Array Value):Array Value:=v.zipIdx.foldl (fun cs(c,j)=>cs.setIfInBounds (off+j) c) cells
theorem KI(cells:Array Value)(off:Nat)(v:Array Value):(wJ cells off v).size=cells.size:=by
 unfold wJ
 rw[←Array.foldl_toList,Qb]
 exact(Great.foldl_set off v.toList 0 cells).1
theorem GV(cells:Array Value)(off:Nat)(v:Array Value)(k:Nat):(wJ cells off v)[k]?=if off≤k∧k<off+v.size∧k<cells.size then v[k-off]?else cells[k]?:=by
 unfold wJ
 rw[←Array.foldl_toList,Qb]
 rw[(Great.foldl_set off v.toList 0 cells).2 k]
 simp
theorem LD{place:Nat→Option (Nat×Nat)}{cells:Array Value}{i off size:Nat}{v:Value}{rest:List (Nat×Value)}(hp:place i=some (off,size))(z:v.cells.size=size)(A:off+size≤cells.size):
  Instr.fill place cells ((i,v)::rest)=Instr.fill place (wJ cells off v.cells) rest:=by
 rw[Instr.fill]
 simp only[hp,z]
 rw[al (by simp;omega)]
 rfl
theorem TS{z new:List ax}{off:Nat}(G:z.all iB=true)(I:new.all iB=true):(gR z off new).all iB=true:=by
 unfold gR
 simp only[FR,tV] at*
 rintro x(A|A|A)
 ·exact G x (Cu A)
 ·exact I x A
 exact G x (FU A)
theorem M'(hA:AR P ρ nt E a){place:Nat→Option (Nat×Nat)}:∀{ps:List (Nat×Operand)}{J:List (Nat×Nat×aI)}(_:yF P place ps=some J)(z:List ax)(cells:Array Value)(G:List ax),
  (∀p∈J,p.1+p.2.1≤z.length)→cP ρ z cells.toList→z.all iB=true→qs E J z=some G→∃A,Instr.fill place cells (ps.map fun p=>(p.1,a.eval p.2))=some A∧cP ρ G A.toList∧G.all iB=true
 |[],J,hp,z,cells,G,_,Z,hk,h=>by
  cases hp
  cases h
  exact⟨cells,rfl,Z,hk⟩
 |(i,x)::r,J,hp,z,cells,G,hle,Z,hk,h=>by
  unfold yF at hp
  split at hp
  ·rename_i q y l hq hy hl
   cases hp
   have h:ob (y.ev E) none (fun v=>ob (kq v) none fun new=>aJ (Nat.beq (jI new) q.2) (qs E l (gR z q.1 new)) none)=some G:=h
   cases hu:y.ev E with
   |none=>rw[hu] at h;cases h
   |some u=>
    rw[hu] at h
    cases hc:kq u with
    |none=>simp only[ob] at h;rw[hc] at h;cases h
    |some new=>
     have h:ob (kq u) none (fun new=>aJ (Nat.beq (jI new) q.2) (qs E l (gR z q.1 new)) none)=some G:=h
     rw[hc] at h
     have h:aJ (Nat.beq (jI new) q.2) (qs E l (gR z q.1 new)) none=some G:=h
     cases K:Nat.beq (jI new) q.2
     ·rw[K] at h;cases h
     rw[K,gi] at h
     have K:=eH K
     rw[pA] at K
     have h1:=(hA.ch hy hu).cells hc
     have O:(a.eval x).cells.size=new.length:=by have:=h1.1.length;simpa using this
     have U:cells.size=z.length:=by have:=Z.length;simpa using this
     have I:=hle (q.1,q.2,y) (lh ..)
     have I:q.1+q.2≤z.length:=I
     have Y:=KG (l:=z) (new:=new) (r:=q.1) (n:=q.2) I K
     obtain⟨A,k1,k2,k3⟩:=M' hA hl (gR z q.1 new) (wJ cells q.1 (a.eval x).cells) G (fun p hp=>by rw[Y];exact hle p (oR _ hp)) (cP.rZ (by simp[KI,Y,U]) fun k av hk=>by
       rw[Le I K] at hk
       simp only[Qc,GV,O]
       split at hk
       ·rename_i sM
        rw[az ah]
        obtain⟨cv,g1,g2⟩:=h1.1.get _ av hk
        exact⟨cv,by simpa using g1,g2⟩
       rename_i sM
       rw[al ah]
       obtain⟨cv,g1,g2⟩:=Z.get _ av hk
       exact⟨cv,by simpa using g1,g2⟩) (TS hk h1.2) h
     refine⟨A,?_,k2,k3⟩
     rw[e7,LD (off:=q.1) (size:=q.2) hq (O.trans K) (by rw[U];exact I)]
     exact k1
  cases hp
theorem KW(O:AR P ρ nt E a)(U:R ρ C w){t:TypeId}{parts:Array (Nat×Operand)}{place:Nat→Option (Nat×Nat)}{z:List ax}{cells:Array Value}{io:bP}(ho:o.op= .build t parts)
  (Y:cP ρ z cells.toList) (hk:z.all iB=true) (Z:∀vs,Instr.fill place cells vs=P.built t vs) (G:Ed z (yF P place parts.toList)=some io) (h:io.ev call E H= .ok v H'):fP P o a w (ez ρ C w H v H'):=by
 unfold Ed at G
 split at G
 ·rename_i l hl
  split at G
  ·rename_i I
   cases G
   have h:ob (qs E l z) (.err 23) (fun cs=>aH.ok (.agg cs) H)= .ok v H':=h
   replace h:=jP h
   obtain⟨K,J,h⟩:=h
   cases h
   obtain⟨A,k1,k2,k3⟩:=M' O hl z cells K (fun p hp=>by
    have:=List.all_eq_true.1 I p hp
    simpa using this) Y hk J
   refine hM (cv:=.agg A) ?_ U (by simp only[VR];exact⟨A,rfl,k2,k3⟩)
   have:=run_build (P:=P) w t (parts.map fun(i,x)=>(i,a.eval x)) A (by rw[←Z,←k1];simp)
   simp[execOp,ho,this]
  cases G
 cases G
theorem SI(O:AR P ρ nt E a)(U:R ρ C w){t:TypeId}{parts:Array (Nat×Operand)}{io:bP}(ho:o.op= .build t parts)(A:HQ P t parts.toList=some io)(h:io.ev call E H= .ok v H'):fP P o a w (ez ρ C w H v H'):=by
 unfold HQ at A
 split at A
 ·rename_i z Z
  obtain⟨i,zv,hi,G,Y,hk,_,_,_⟩:=xV Z
  split at A
  ·rename_i fs J
   split at A
   ·rename_i I hp
    exact KW O U ho (Y ρ) hk (fun vs=>by simp[Program.built,hi,J,G,hp]) A h
   cases A
  ·rename_i n e J
   split at A
   ·rename_i ie K
    exact KW O U ho (Y ρ) hk (fun vs=>by simp[Program.built,hi,J,G,K]) A h
   cases A
  cases A
 cases A
def Fl(ρ:Ho)(n es:Nat)(t:RT)(cells:Array Value):Prop:=
 ∀i,i<n→∃l,t.get i=some l∧l.length=es∧∀j x,l[j]?=some x→iB x=true∧∃cv,cells[i*es+j]?=some cv∧VR ρ x cv
theorem DL(x:List ax)(i:Nat):∀n,(oA x n).get i=if i<n then some x else none
 |0=>rfl
 |n+1=>by
  show((oA x n).set n x).get i=_
  rw[RT.eY,DL x i n]
  by_cases h:i=n
  ·rw[az h,az ah]
  rw[al h]
  by_cases h2:i<n
  ·rw[az h2,az ah]
  rw[al h2,al ah]
theorem Sh{z:Array Value}{es i j N:Nat}(A:z.size=es)(G:j<es)(hN:i*es+j<N):(madeCells z N)[i*es+j]?=z[j]?:=by
 unfold madeCells
 rw[Array.getElem?_map,Array.getElem?_range,az hN]
 have e:(i*es+j) % z.size=j:=by rw[A,Nat.add_comm,Nat.add_mul_mod_self_right,Cp G]
 simp only[tU,e]
 rw[getElem!_pos z j ah,xo ah]
theorem Na{z:List ax}{A:Array Value}{es n N:Nat}(K:cP ρ z A.toList)(hk:z.all iB=true)(G:z.length=es)(hN:n*es≤N):Fl ρ n es (oA z n) (madeCells A N):=by
 intro i hi
 refine⟨z,by rw[DL,az hi],G,fun j x I=>⟨List.all_eq_true.1 hk x (lJ I),?_⟩⟩
 obtain⟨cv,O,h2⟩:=K.get j x I
 have U:j<es:=by rw[←G];exact(List.getElem?_eq_some_iff.1 I).1
 have J:A.size=es:=by have:=K.length;rw[←G];simpa using this
 have ew:i*es+es≤n*es:=by have:=lK es (show i+1≤n by omega);rwa [F3] at this
 exact⟨cv,by rw[Sh J U ah];simpa using O,h2⟩
theorem LF(hA:AR P ρ nt E a){es A:Nat}:∀{ps:List (Nat×Operand)}{I:List (Nat×aI)}(_:Ec P ps=some I)(t t':RT)(cells:Array Value),cells.size=A*es→Fl ρ A es t cells→rb E es A I t=some t'→
  ∃z,Instr.fill (fun i=>some (i*es,es)) cells (ps.map fun p=>(p.1,a.eval p.2))=some z∧z.size=A*es∧Fl ρ A es t' z
 |[],I,hp,t,t',cells,U,hf,h=>by
  cases hp
  cases h
  exact⟨cells,rfl,U,hf⟩
 |(i,x)::r,I,hp,t,t',cells,U,hf,h=>by
  unfold Ec at hp
  split at hp
  ·rename_i y l hy hl
   cases hp
   have h:ob (y.ev E) none (fun v=>ob (kq v) none fun new=>aJ (Nat.beq (jI new) es) (aJ (Nat.ble (Nat.succ i) A) (rb E es A l (t.set i new)) none) none)=some t':=h
   cases hu:y.ev E with
   |none=>rw[hu] at h;cases h
   |some u=>
    rw[hu] at h
    have h:ob (kq u) none (fun new=>aJ (Nat.beq (jI new) es) (aJ (Nat.ble (Nat.succ i) A) (rb E es A l (t.set i new)) none) none)=some t':=h
    cases hc:kq u with
    |none=>rw[hc] at h;cases h
    |some new=>
     rw[hc] at h
     have h:aJ (Nat.beq (jI new) es) (aJ (Nat.ble (Nat.succ i) A) (rb E es A l (t.set i new)) none) none=some t':=h
     cases J:Nat.beq (jI new) es
     ·rw[J] at h;cases h
     rw[J,gi] at h
     cases G:Nat.ble (Nat.succ i) A
     ·rw[G] at h;cases h
     rw[G,gi] at h
     have J:=eH J
     rw[pA] at J
     have G:i+1≤A:=b0 G
     have h1:=(hA.ch hy hu).cells hc
     have n9:(a.eval x).cells.size=new.length:=by have:=h1.1.length;simpa using this
     have mono:∀{p q:Nat},p+1≤q→p*es+es≤q*es:=fun{p q}h=>by have:=lK es h;rwa [F3] at this
     have sM:=mono G
     obtain⟨z,k1,k2,k3⟩:=LF hA hl (t.set i new) t' (wJ cells (i*es) (a.eval x).cells) (by rw[KI,U]) (fun k hk=>by
      rw[RT.eY]
      by_cases K:k=i
      ·subst K
       rw[az rfl]
       refine⟨new,rfl,J,fun j Y O=>⟨List.all_eq_true.1 h1.2 Y (lJ O),?_⟩⟩
       obtain⟨cv,g1,Z⟩:=h1.1.get j Y O
       have CZ:j<es:=by rw[←J];exact(List.getElem?_eq_some_iff.1 O).1
       refine⟨cv,?_,Z⟩
       rw[GV,az ah,Jm]
       simpa using g1
      rw[al K]
      obtain⟨l0,g1,Z,g3⟩:=hf k hk
      refine⟨l0,g1,Z,fun j Y O=>?_⟩
      obtain⟨m1,cv,m2,m3⟩:=g3 j Y O
      have CZ:j<es:=by rw[←Z];exact(List.getElem?_eq_some_iff.1 O).1
      refine⟨m1,cv,?_,m3⟩
      rw[GV,al ?_]
      ·exact m2
      rcases Nat.lt_or_gt_of_ne K with ew|Gx
      ·have:=mono (show k+1≤i from ew);omega
      have:=mono (show i+1≤k from Gx);omega) h
     refine⟨z,?_,k2,k3⟩
     rw[e7,LD (off:=i*es) (size:=es) rfl (n9.trans J) (by rw[U];exact sM)]
     exact k1
  cases hp
theorem Mr(I:R ρ C w)(J:iQ ρ H.next (H.next+1)){e es aV n cap:Nat}{t:RT}{cells:Array Value}(he:0<es)(z:n≤cap)(G:cells.size=cap*es)(A:Fl ρ n es t cells){w':World}(K:w'.heap=w.heap.push (.cells cells e))
  (O:w'.os=w.os) (h2:w'.tape=w.tape) (U:w'.output=w.output):ez ρ C w H (.slice H.next n 0 n es) ⟨H.next+1,H.bj,H.ws,H.t.set H.next (.row e es aV n n 0 t)⟩ (.slice (some ⟨w.heap.size,0,none⟩) n cap) w':=by
 obtain⟨ρ',Y,Z,g3⟩:=I.alloc (f:=H.next) (elem:=e) (es:=es) (aV:=aV) (n:=n) (cs:=t) (cells:=cells) (w':=w')
  (Wr ⟨H.next+1,H.bj,H.ws,H.t.set H.next (.row e es aV n n 0 t)⟩) (fun g=>J _ g (bR _) (gG _)) he (by rw[G];exact lK _ z) A K O h2 U
 refine⟨ρ',?_,Z,?_⟩
 ·simp only[VR]
  refine⟨_,_,_,Y,rfl,z,.inl ⟨rfl,?_⟩⟩
  simp only
  rw[G,jR]
  exact bR _
 rw[DK]
 exact g3
theorem Si(hA:AR P ρ nt E a)(hR:R ρ C w)(hF:iQ ρ H.next H'.next){t:TypeId}{I:Nat}{parts:Array (Nat×Operand)}{io:bP}(ho:o.op= .buildSlice t I parts)(A:Hi P t I parts.toList=some io)
  (h:io.ev call E H= .ok v H'):fP P o a w (ez ρ C w H v H'):=by
 unfold Hi at A
 split at A
 ·rename_i e hu
  split at A
  ·rename_i i z hi hz
   split at A
   ·rename_i l hl
    split at A
    ·rename_i hle
     cases A
     have h:ob (rb E i.size I l (oA z I)) (.err 24) (fun t=>H.alloc (.row e i.size i.bytes I I 0 t) fun f H=>.ok (.slice f I 0 I i.size) H)= .ok v H':=h
     replace h:=jP h
     obtain⟨tr,Z,h⟩:=h
     have h:=yd h
     cases h
     obtain⟨i',K,O,we,hv,hk,CX,U,AD⟩:=xV hz
     rw[hi] at O
     cases O
     obtain⟨G,k1,k2,k3⟩:=LF hA hl (oA z I) tr (madeCells K.cells (I*i.size)) (size_madeCells _ _) (Na (hv ρ) hk CX (bR _)) Z
     refine .inl ⟨_,w.alloc (.cells G e),?_,Mr hR hF U (bR _) k2 k3 rfl rfl rfl rfl⟩
     have Y:Instr.fill (fun j=>some (j*i.size,i.size)) ((Array.range (I*i.size)).map (K.cells[· % K.cells.size]!)) (parts.map fun(i,x)=>(i,a.eval x)).toList=some G:=by
      rw[←k1];simp[madeCells]
     by_cases h0:I*i.size=0
     ·have e0:(Array.range 0).map (K.cells[· % K.cells.size]!)=#[]:=by rw[show Array.range 0=#[] from rfl];exact Array.map_empty ..
      rw[h0,e0] at Y
      have Gy:Instr.fill (fun j=>some (j*i.size,i.size)) #[] (parts.toList.map fun x=>(x.1,a.eval x.2))=some G:=by rw[←Y];simp
      simp[execOp,ho,Instr.buildSlice,run_underlying hu,sizeOf,typeInfo,hi,h0,newRow,Gy,show Array.range 0=#[] from rfl]
     have J:¬(2^24<I*i.size):=by omega
     simp at Y J
     simp[execOp,ho,Instr.buildSlice,run_underlying hu,sizeOf,typeInfo,hi,J,h0,zeroValue,we,Y,newRow]
    cases A
   cases A
  cases A
 cases A
theorem Te(hA:AR P ρ nt E a)(hR:R ρ C w)(hF:iQ ρ H.next H'.next){t:TypeId}{x y:Operand}{O U:aI}{io:bP}(ho:o.op= .makeSlice t x y)(hx:dH P x=some O)(hy:dH P y=some U)(A:Ik P t O U=some io)
  (h:io.ev call E H= .ok v H'):fP P o a w (ez ρ C w H v H'):=by
 unfold Ik at A
 split at A
 ·rename_i e hu
  split at A
  ·rename_i i z hi hz
   split at A
   ·rename_i hb
    cases A
    have h:B7 e i.size i.bytes z O U E H= .ok v H':=h
    replace h:=fS h;obtain⟨u,Y,h⟩:=h
    replace h:=ta h;obtain⟨kl,l0,rfl,h⟩:=h
    replace h:=wI h;obtain⟨l,rfl,h⟩:=h
    replace h:=fS h;obtain⟨u2,Z,h⟩:=h
    replace h:=ta h;obtain⟨kc,c0,rfl,h⟩:=h
    replace h:=wI h;obtain⟨c,rfl,h⟩:=h
    replace h:=gp h;obtain⟨I,h⟩:=h
    replace h:=gp h;obtain⟨g2,h⟩:=h
    replace h:=gp h;obtain⟨g3,h⟩:=h
    rw[D'] at h
    have h:=yd h
    cases h
    have I:=b0 I
    have g2:c*i.bytes≤70368744177664:=b0 g2
    have g3:=b0 g3
    obtain⟨i',zv,J,we,hv,hk,CX,K,AD⟩:=xV hz
    rw[hi] at J
    cases J
    have e1:=hA.ch hx Y
    have e2:=hA.ch hy Z
    simp only[VR] at e1 e2
    have G:=run_make (P:=P) w t e i zv hu hi we kl kc (l:Int) (c:Int) (Int.natCast_nonneg l) (Int.ofNat_le.2 I) (by
     have:((i.bytes*c:Nat):Int)≤((281474976710656:Nat):Int):=Int.ofNat_le.2 (by rw[ny];omega)
     rw[Int.natCast_mul] at this
     exact this) ah
    simp only[FV] at G
    refine .inl ⟨_,w.alloc (.cells (madeCells zv.cells (c*i.size)) e),?_,Mr hR hF K I (size_madeCells _ _) (Na (hv ρ) hk CX (lK _ I)) rfl rfl rfl rfl⟩
    rw[show(execOp a.eval o)=_ from rfl]
    simp only[execOp,ho,e1,e2]
    simp only[Sem.run_bind,G,Result.andThen_ok]
    rfl
   cases A
  cases A
 cases A
end
section
variable{P:Program}{ρ:Ho}{nt:Nat}{E:Env}{a:Act}{C:Nat→Option et}{w:World}{H H':aE}{v:ax}{o:Oper}{call:fc}
theorem Hb(b:Bool)(k:Bool→aH):nM b k=k b:=by cases b<;>rfl
theorem W2(Y:Nat){c:At}{t:TypeId}{d:TypeDesc}(G:P.underlying t=some d)(A:IW P d=some c){x y:ax}{I cy:Value}(z:VR ρ x I)(h2:VR ρ y cy){r:Bool}(h:n8 c x y=some r):
  (Op.equalIn (Y+1) t I cy).run P w= .ok r w∧(∀k n,I≠.int k n)∧(∀b,I≠.string b)∧(∀k n,I≠.float k n)∧(∀k n m,I≠.complex k n m)∧(∀cs,I≠.agg cs)∧(I= .nilIface→∃ms,d= .interface ms):=by
 unfold IW at A
 split at A
 ·cases A
  unfold n8 at h
  simp only at h
  split at h
  ·simp only[VR] at z h2
   subst z;subst h2
   cases h
   exact⟨by simp[Op.equalIn,run_underlying G],by simp,by simp,by simp,by simp,by simp,by simp⟩
  cases h
 ·rename_i e
  split at A
  ·rename_i ie K
   cases A
   unfold n8 at h
   simp only at h
   split at h
   ·simp only[VR] at z h2
    subst z;subst h2;cases h
    exact⟨by simp[Op.equalIn,run_underlying G],by simp,by simp,by simp,by simp,by simp,by simp⟩
   ·simp only[VR] at z h2
    obtain⟨_,_,rfl⟩:=h2
    subst z;cases h
    exact⟨by simp[Op.equalIn,run_underlying G],by simp,by simp,by simp,by simp,by simp,by simp⟩
   ·simp only[VR] at z h2
    obtain⟨_,_,rfl⟩:=z
    subst h2;cases h
    exact⟨by simp[Op.equalIn,run_underlying G],by simp,by simp,by simp,by simp,by simp,by simp⟩
   ·rename_i f g o f' g' Z
    cases b1:Nat.beq f f'
    ·rw[b1] at h;cases h
    rw[b1,gi] at h
    cases b2:Nat.beq g g'
    ·rw[b2] at h;cases h
    rw[b2,gi] at h
    cases J:Nat.beq o Z
    ·rw[J] at h;cases h
    rw[J,gi] at h
    cases h
    have b1:=eH b1
    have b2:=eH b2
    have J:=eH J
    subst b1;subst b2;subst J
    simp only[VR] at z h2
    obtain⟨hm,k1,rfl⟩:=z
    obtain⟨GB,U,rfl⟩:=h2
    rw[k1] at U
    cases U
    exact⟨by simp[Op.equalIn,run_underlying G,sizeOf,typeInfo,K,run_sameAddr_same],by simp,by simp,by simp,by simp,by simp,by simp⟩
   cases h
  cases A
 ·cases A
  unfold n8 at h
  simp only at h
  split at h
  ·simp only[VR] at z h2
   subst z;subst h2;cases h
   exact⟨by simp[Op.equalIn,run_underlying G],by simp,by simp,by simp,by simp,by simp,by simp⟩
  ·simp only[VR] at z h2
   obtain⟨_,_,_,_,rfl,_⟩:=h2
   subst z;cases h
   exact⟨by simp[Op.equalIn,run_underlying G],by simp,by simp,by simp,by simp,by simp,by simp⟩
  ·simp only[VR] at z h2
   obtain⟨_,_,_,_,rfl,_⟩:=z
   subst h2;cases h
   exact⟨by simp[Op.equalIn,run_underlying G],by simp,by simp,by simp,by simp,by simp,by simp⟩
  cases h
 ·rename_i ms
  cases A
  unfold n8 at h
  simp only at h
  split at h
  ·simp only[VR] at z h2
   subst z;subst h2;cases h
   exact⟨by simp[Op.equalIn,run_underlying G],by simp,by simp,by simp,by simp,by simp,fun _=>⟨ms,rfl⟩⟩
  ·simp only[VR] at z h2
   obtain⟨_,rfl,_⟩:=h2
   subst z;cases h
   exact⟨by simp[Op.equalIn,run_underlying G],by simp,by simp,by simp,by simp,by simp,fun _=>⟨ms,rfl⟩⟩
  ·simp only[VR] at z h2
   obtain⟨_,rfl,_⟩:=z
   subst h2;cases h
   exact⟨by simp[Op.equalIn,run_underlying G],by simp,by simp,by simp,by simp,by simp,by simp⟩
  ·rename_i t1 _ t2 _
   cases b1:Nat.beq t1 t2
   ·rw[b1] at h
    cases h
    have O:t1≠t2:=fun e=>by rw[e,jl] at b1;cases b1
    simp only[VR] at z h2
    obtain⟨_,rfl,_⟩:=z
    obtain⟨_,rfl,_⟩:=h2
    exact⟨by simp[Op.equalIn,run_underlying G,O],by simp,by simp,by simp,by simp,by simp,by simp⟩
   rw[b1] at h;cases h
  cases h
 ·cases A
  unfold n8 at h
  simp only at h
  split at h
  ·simp only[VR] at z h2
   subst z;subst h2;cases h
   exact⟨by simp[Op.equalIn,run_underlying G],by simp,by simp,by simp,by simp,by simp,by simp⟩
  ·simp only[VR] at z h2
   obtain⟨_,_,rfl,_⟩:=h2
   subst z;cases h
   exact⟨by simp[Op.equalIn,run_underlying G],by simp,by simp,by simp,by simp,by simp,by simp⟩
  ·simp only[VR] at z h2
   obtain⟨_,_,rfl,_⟩:=z
   subst h2;cases h
   exact⟨by simp[Op.equalIn,run_underlying G],by simp,by simp,by simp,by simp,by simp,by simp⟩
  cases h
 ·cases A
  unfold n8 at h
  simp only at h
  split at h
  ·simp only[VR] at z h2
   subst z;subst h2;cases h
   exact⟨by simp[Op.equalIn,run_underlying G],by simp,by simp,by simp,by simp,by simp,by simp⟩
  cases h
 cases A
theorem Sc{op:BinOp}(G:op= .eql∨op= .neq){t:TypeId}{d:TypeDesc}{x y:Operand}{I cy:Value}(J:P.underlying t=some d)(z:EF x y d=true)(K:∀cs,I≠.agg cs)(O:I= .nilIface→∃ms,d= .interface ms):
  (eqGuard op t x y I cy).run P w= .ok () w:=by
 unfold eqGuard
 rcases G with rfl|rfl
 ·rw[al aq]
  split
  ·obtain⟨ms,rfl⟩:=O rfl
   simp only[EF,vS] at z
   have e:∀A,(Op.eqGuardIn (A+1) t .nilIface .nilIface).run P w= .ok (!ms.isEmpty) w:=fun A=>by simp[Op.eqGuardIn,run_underlying J]
   rcases z with(z|z)|z
   ·cases x<;>cases y<;>simp[Op.maxDepth,e 9999,z]
   ·cases x<;>simp[x9] at z<;>simp
   cases y<;>simp[x9] at z<;>simp
  ·exact absurd rfl (K _)
  rfl
 rw[al aq]
 split
 ·obtain⟨ms,rfl⟩:=O rfl
  simp only[EF,vS] at z
  have e:∀A,(Op.eqGuardIn (A+1) t .nilIface .nilIface).run P w= .ok (!ms.isEmpty) w:=fun A=>by simp[Op.eqGuardIn,run_underlying J]
  rcases z with(z|z)|z
  ·cases x<;>cases y<;>simp[Op.maxDepth,e 9999,z]
  ·cases x<;>simp[x9] at z<;>simp
  cases y<;>simp[x9] at z<;>simp
 ·exact absurd rfl (K _)
 rfl
theorem TU(Z:AR P ρ nt E a)(hR:R ρ C w){op:BinOp}{t t':TypeId}{d:TypeDesc}{x z:Operand}{K O:aI}{io:bP}(ho:o.op= .binOp op t x z t')(hx:dH P x=some K)(hz:dH P z=some O)(hu:P.underlying t=some d)
  (A:Jo P op d x z K O=some io) (h:io.ev call E H= .ok v H'):fP P o a w (ez ρ C w H v H'):=by
 unfold Jo at A
 split at A
 ·rename_i c hc
  split at A
  ·rename_i G
   have key:∀neg,(op= .eql∧neg=false)∨(op= .neq∧neg=true)→Au c neg K O E H= .ok v H'→fP P o a w (ez ρ C w H v H'):=by
    intro neg I h
    replace h:=fS h;obtain⟨u,U,h⟩:=h
    replace h:=fS h;obtain⟨u2,Y,h⟩:=h
    replace h:=jP h;obtain⟨r,hr,h⟩:=h
    rw[Hb] at h
    cases h
    obtain⟨g0,g1,g2,g3,g4,g5,g6⟩:=W2 (w:=w) 9999 hu hc (Z.ch hx U) (Z.ch hz Y) hr
    have hg:=Sc (w:=w) (op:=op) (by rcases I with⟨h,_⟩|⟨h,_⟩<;>simp[h]) (x:=x) (y:=z) (cy:=a.eval z) hu G g5 g6
    refine hM (cv:=.bool (Bool.xor neg r)) ?_ hR (by simp only[VR])
    simp only[execOp,ho,Sem.run_bind,hg,Result.andThen_ok]
    generalize a.eval x=J at*
    generalize a.eval z=cz at*
    rcases I with⟨rfl,rfl⟩|⟨rfl,rfl⟩
    ·have:(binOp .eql t J cz).run P w= .ok (.bool r) w:=by
      cases J<;>simp only[binOp]<;>first|exact absurd rfl (g1 _ _)|exact absurd rfl (g2 _)|exact absurd rfl (g3 _ _)|exact absurd rfl (g4 _ _ _)|simp[Op.equal,Op.maxDepth,g0]
     simp[this]
    have:(binOp .neq t J cz).run P w= .ok (.bool (!r)) w:=by
     cases J<;>simp only[binOp]<;>first|exact absurd rfl (g1 _ _)|exact absurd rfl (g2 _)|exact absurd rfl (g3 _ _)|exact absurd rfl (g4 _ _ _)|simp[Op.equal,Op.maxDepth,g0]
    simp[this]
   cases op<;>simp only[ia,reduceCtorEq] at A
   ·subst A;exact key false (.inl ⟨rfl,rfl⟩) h
   subst A;exact key true (.inr ⟨rfl,rfl⟩) h
  cases A
 cases A
end
section
variable{P:Program}{ρ:Ho}{nt:Nat}{E:Env}{a:Act}{C:Nat→Option et}{w:World}{H H':aE}{v:ax}{o:Oper}{call:fc}
theorem Sv(hA:AR P ρ nt E a)(hR:R ρ C w)(hF:iQ ρ H.next H'.next){src dst e:TypeId}{x:Operand}{x':aI}(ho:o.op= .convert src dst x)(hx:dH P x=some x')
  (hs:P.underlying src=some .string) (hd:P.underlying dst=some (.slice e)) (he:P.underlying e=some (.int .u8)) (h:Bj e x' E H= .ok v H'):fP P o a w (ez ρ C w H v H'):=by
 replace h:=fS h;obtain⟨u,hu,h⟩:=h
 replace h:=yb h;obtain⟨l,s,rfl,h⟩:=h
 replace h:=gp h;obtain⟨_,h⟩:=h
 rw[wG] at h
 have h:=yd h
 cases h
 have U:=hA.ch hx hu
 simp only[VR] at U
 obtain⟨b,U,rfl,rfl⟩:=U
 have G:=run_bytes_of_string (P:=P) w src dst e b hs hd he
 have Y:=grownCap_ge w b.size 0 e
 generalize grownCap w b.size 0 e=A at*
 have Z:b.data.toList.length=b.size:=nW
 have I:(bytesRow b A).size=A:=by
  unfold bytesRow
  simp only[F0,Array.size_map,Array.size_replicate]
  have:b.data.size=b.size:=rfl
  omega
 obtain⟨ρ',g1,g2,g3⟩:=hR.N6 3 ((bytesRow b A).size,(bytesRow b A).size+1) (f:=H.next) (elem:=e) (es:=1) (aV:=1) (n:=b.size) (cs:=jZ (mV b.size (pack b.data.toList)) .emp 0) (cells:=bytesRow b A)
  (w':=w.drew.alloc (.cells (bytesRow b A) e ((bytesRow b A).size,(bytesRow b A).size+1)))
  (Wr ⟨H.next+1,H.bj,H.ws,H.t.set H.next (.row e 1 1 b.size b.size 3 (jZ (mV b.size (pack b.data.toList)) .emp 0))⟩) (fun g=>hF _ g (bR _) (gG _)) ah (by rw[I];omega)
  (fun k hk=>by
   rw[uH,az (by rw[AP];omega),F1]
   have J:k<(mV b.size (pack b.data.toList)).length:=by rw[AP];exact hk
   refine⟨_,fe J,?_⟩
   have K:=fe J
   obtain⟨y,O,hy2⟩:=Ha b.data.toList k _ (by rw[Z];exact K)
   rw[hy2]
   refine⟨rfl,fun j z hz=>?_⟩
   cases j with
   |succ j=>simp at hz
   |zero=>
    simp at hz
    subst hz
    refine⟨rfl,.int .u8 y.toNat,?_,by simp only[VR]⟩
    unfold bytesRow
    rw[F2 (by rw[Array.size_map];show k*1+0<b.size;omega)]
    simp only[Jl,xn,Array.getElem?_map]
    rw[Qc] at O
    rw[O];rfl) rfl (fun i hi h=>by simp at h;omega) (fun h=>by omega) rfl rfl rfl
 refine .inl ⟨.slice (some ⟨w.heap.size,0,none⟩) b.size A,w.drew.alloc (.cells (bytesRow b A) e ((bytesRow b A).size,(bytesRow b A).size+1)),?_,ρ',?_,g2,?_⟩
 ·simp only[execOp,ho,U,Sem.run_bind]
  rw[G]
  rfl
 ·simp only[VR]
  exact⟨_,_,_,g1,rfl,Y,.inl ⟨rfl,by simp only;rw[I];omega⟩⟩
 rw[DK];exact g3
theorem Hc:∀{L:List (List ax)}{s:Nat},ni L=some s→∃z:List UInt8,z.length=L.length∧s=pack z∧∀(i:Nat)(b:UInt8),z[i]?=some b→L[i]?=some [ax.int .u8 (Int.ofNat b.toNat)]
 |[],s,h=>by cases h;exact⟨[],rfl,rfl,fun i b h=>by simp at h⟩
 |c::r,s,h=>by
  cases c with
  |nil=>cases h
  |cons x t=>cases t with
   |cons y t=>cases h
   |nil=>
    have h:N0 x none (fun k i=>aJ (Nat.beq (dO k) 4) (jc i none fun b=>aJ (Nat.ble b 255) (ob (ni r) none fun v=>some (Nat.add b (Nat.mul 256 v))) none) none)=some s:=h
    cases x with
    |int k i=>
     have h:aJ (Nat.beq (dO k) 4) (jc i none fun b=>aJ (Nat.ble b 255) (ob (ni r) none fun v=>some (Nat.add b (Nat.mul 256 v))) none) none=some s:=h
     cases A:Nat.beq (dO k) 4
     ·rw[A] at h;cases h
     rw[A,gi] at h
     cases i with
     |negSucc m=>cases h
     |ofNat b=>
      have h:aJ (Nat.ble b 255) (ob (ni r) none fun v=>some (Nat.add b (Nat.mul 256 v))) none=some s:=h
      cases h2:Nat.ble b 255
      ·rw[h2] at h;cases h
      rw[h2,gi] at h
      cases G:ni r with
      |none=>rw[G] at h;cases h
      |some v=>
       rw[G] at h
       cases h
       obtain⟨z,K,O,U⟩:=Hc G
       have A:=eH A
       have h2:=b0 h2
       have hk:k= .u8:=by cases k<;>simp[dO] at A<;>rfl
       subst hk
       have J:(UInt8.ofNat b).toNat=b:=by rw[F4];omega
       refine⟨UInt8.ofNat b::z,by simp[K],?_,fun i y I=>?_⟩
       ·show b+256*v=(UInt8.ofNat b).toNat+256*pack z
        rw[J,O]
       cases i with
       |zero=>simp at I;subst I;rw[J];rfl
       |succ i=>exact U i y (by simpa using I)
    |_=>cases h
theorem Sw(hA:AR P ρ nt E a)(U:R ρ C w){src dst e:TypeId}{x:Operand}{Y:aI}(ho:o.op= .convert src dst x)(hx:dH P x=some Y)
  (hs:P.underlying src=some (.slice e)) (hd:P.underlying dst=some .string) (he:P.underlying e=some (.int .u8))
  (hC:∀f o,f∈ju (Y.ev E)→(∃g h,ρ f g=some h)→H.t.get f=some o→C f=some o) (h:Bk Y E H= .ok v H'):fP P o a w (ez ρ C w H v H'):=by
 replace h:=fS h;obtain⟨u,hu,h⟩:=h
 have z:=hA.ch hx hu
 cases u<;>try(cases h;done)
 case cB=>
  cases h
  simp only[VR] at z
  refine hM (cv:=.string ByteArray.empty) ?_ U (by simp only[VR];exact⟨_,rfl,rfl,rfl⟩)
  have:=run_convert_bytes_nil (P:=P) (w:=w) src e hs he 0 0 dst hd
  simp only[execOp,ho,z,Sem.run_bind,this]
  rfl
 case slice f g off n es=>
  have h:ob (elems H f g 1 n off) (.err 39) (fun l=>ob (ni l) (.err 39) fun s=>dz s fun s=>aH.ok (.str n s) H)= .ok v H':=h
  replace h:=jP h;obtain⟨L,hL,h⟩:=h
  replace h:=jP h;obtain⟨s,Z,h⟩:=h
  rw[iG] at h
  cases h
  simp only[VR] at z
  obtain⟨hm,ad,cap,hh,z,Qo,rJ⟩:=z
  obtain⟨hlen,GC⟩:=DY hL
  obtain⟨K,g1,g2,g3⟩:=Hc Z
  have C1:K.length=n:=g1.trans hlen
  subst C1
  have A:=run_convert_bytes_back (P:=P) w src dst e ad cap K hs he hd (fun j hj=>by
   have O:=g3 j K[j] (fe hj)
   have G:=GC j _ O
   have ur:C f=H.t.get f:=by
    obtain⟨_,_,_,_,_,_,_,_,O,_⟩:=G
    exact(hC f _ (by rw[hu];simp[ju]) ⟨_,_,hh⟩ O).trans O.symm
   obtain⟨_,_,hc⟩:=U.rd G ur hh ah
   obtain⟨cv,I,J⟩:=hc 0 _ rfl
   simp only[VR] at J
   subst J
   rcases rJ with⟨rfl,_⟩|⟨h0,_,_⟩
   ·rw[Addr.add_lit]
    rw[←nx] at I
    simpa using I
   omega)
  refine hM (cv:=.string ⟨K.toArray⟩) ?_ U (by simp only[VR];exact⟨_,rfl,rfl,by rw[g2]⟩)
  simp only[execOp,ho,z,Sem.run_bind,A]
  rfl
theorem SJ{e:TypeId}(A:P.cellsOf e≠0)(count:Nat)(G:1≤count):liesAt P P.depth e count 0 e 1=true:=by
 have z:P.depth=(2*(P.types.size+Made.depth)+1)+1:=rfl
 rw[z]
 simp only[liesAt,vS]
 left
 rw[z]
 simp[rowAt,A,G,sameLayout]
theorem KX(hA:AR P ρ nt E a)(hR:R ρ C w){src dst t:TypeId}{x:Operand}{x':aI}{io:bP}(ho:o.op= .convert src dst x)(hx:dH P x=some x')
  (I:(P.underlying src=some (.pointer t)∧P.underlying dst=some .unsafePointer)∨(P.underlying src=some .unsafePointer∧P.underlying dst=some (.pointer t))) (G:Eb P t x'=some io)
  (hC:∀f o,(∀l,io.reads E=some l→f∈l)→(∃g h,ρ f g=some h)→H.t.get f=some o→C f=some o) (h:io.ev call E H= .ok v H'):fP P o a w (ez ρ C w H v H'):=by
 unfold Eb at G
 split at G
 ·rename_i j hj
  split at G
  ·rename_i n9
   cases G
   have h:BG t (P.cellsOf t) x' E H= .ok v H':=h
   replace h:=fS h;obtain⟨u,hu,h⟩:=h
   have K:=hA.ch hx hu
   cases hn:yE u with
   |true=>
    rw[hn,gi] at h
    cases u<;>try(cases hn;done)
    cases h
    simp only[VR] at K
    refine hM (cv:=.pointer none) ?_ hR (by simp only[VR])
    have:(convert src dst (.pointer none)).run P w= .ok (.pointer none) w:=by
     rcases I with⟨O,J⟩|⟨O,J⟩<;>simp[convert,run_underlying O,run_underlying J,Conv.unsafePointer]
    simp only[execOp,ho,K,Sem.run_bind,this]
    rfl
   |false=>
    rw[hn] at h
    have h:iW u (.err 44) (fun f g off=>jt (H.t.get f) (.err 44) fun elem es _ m lo fl _=>
     aJ (Nat.beq elem t) (aJ (Nat.beq es (P.cellsOf t)) (aJ (Nat.beq off 0) (aJ (Nat.ble lo g) (aJ (Nat.ble g m) (aJ (Nat.ble 1 g) (aJ (Nat.beq fl 0) (aH.ok u H) (.err 44)) (.err 44)) (.err 44)) (.err 44)) (.err 44)) (.err 44)) (.err 44))= .ok v H':=h
    replace h:=wH h;obtain⟨f,g,off,rfl,h⟩:=h
    cases hg:H.t.get f with
    |none=>rw[hg] at h;cases h
    |some ob=>cases ob with
     |map=>rw[hg] at h;cases h
     |row elem es aV m lo fl cs=>
      rw[hg] at h
      have h:aJ (Nat.beq elem t) (aJ (Nat.beq es (P.cellsOf t)) (aJ (Nat.beq off 0) (aJ (Nat.ble lo g) (aJ (Nat.ble g m) (aJ (Nat.ble 1 g) (aJ (Nat.beq fl 0) (aH.ok (.ptr f g off) H) (.err 44)) (.err 44)) (.err 44)) (.err 44)) (.err 44)) (.err 44)) (.err 44)= .ok v H':=h
      replace h:=gp h;obtain⟨b1,h⟩:=h
      replace h:=gp h;obtain⟨b2,h⟩:=h
      replace h:=gp h;obtain⟨b3,h⟩:=h
      replace h:=gp h;obtain⟨b4,h⟩:=h
      replace h:=gp h;obtain⟨b5,h⟩:=h
      replace h:=gp h;obtain⟨b6,h⟩:=h
      replace h:=gp h;obtain⟨b7,h⟩:=h
      cases h
      have b1:=eH b1
      have b2:=eH b2
      have b3:=eH b3
      have b4:=b0 b4
      have b5:=b0 b5
      have b6:=b0 b6
      have b7:=eH b7
      subst b1;subst b3;subst b7
      simp only[VR] at K
      obtain⟨A,hh,K⟩:=K
      have ur:=hC f _ (fun l e=>by have e:some (ju (x'.ev E))=some l:=e;rw[hu] at e;cases e;simp[ju]) ⟨_,_,hh⟩ hg
      obtain⟨he,_,_,z⟩:=hR.obj f _ ur g A hh
      have z:=z b4 b5
      obtain⟨c,fz,U,IZ⟩:=z.row
      have Y:=z.t8 (.inl rfl)
      have Js:=z.fits
      have uv:es≤g*es:=Nat.le_mul_of_pos_left _ b6
      have Z:w.shape? A.ct=some (elem,c.size):=by simp[World.shape?,U]
      refine hM (cv:=.pointer (some ⟨A.ct,A.off+0,none⟩)) ?_ hR (by simp only[VR];exact⟨A,hh,rfl⟩)
      have:(convert src dst (.pointer (some ⟨A.ct,A.off+0,none⟩))).run P w= .ok (.pointer (some ⟨A.ct,A.off+0,none⟩)) w:=by
       rcases I with⟨O,J⟩|⟨O,J⟩
       ·exact Lib.run_to_unsafe w ⟨A.ct,A.off+0,none⟩ O J hj n9 Z (by show A.off+0<c.size;omega)
       refine Lib.run_from_unsafe w ⟨A.ct,A.off+0,none⟩ O J hj Z ?_
       show liesAt P P.depth elem (c.size/P.cellsOf elem) (A.off+0) elem 1=true
       rw[Y,←b2]
       have J:=Nat.div_pos (show es≤c.size by omega) he
       have:=SJ (P:=P) (e:=elem) (by rw[←b2];omega) (c.size/es) J
       rw[xn]
       exact this
      simp only[execOp,ho,K,Sem.run_bind,this]
      rfl
  cases G
 cases G
theorem TV(Z:AR P ρ nt E a)(J:R ρ C w){c:Call}{x:Operand}{K:aI}(ho:o.op= .call c)(O:c.callee= .builtin .unsafeSliceData)(z:c.args=#[x])(hx:dH P x=some K)
  (h:CE K E H= .ok v H'):fP P o a w (ez ρ C w H v H'):=by
 replace h:=fS h;obtain⟨u,hu,h⟩:=h
 have A:=Z.ch hx hu
 cases u<;>try(cases h;done)
 case cB=>
  cases h
  simp only[VR] at A
  refine hM (cv:=.pointer none) ?_ J (by simp only[VR])
  simp[execOp,ho,resolve,O,z,invoke,builtin,A,Lib.run_unsafeSliceData_nil]
 case slice f g off l es=>
  have h:aJ (Nat.beq l 0) (.err 45) (aH.ok (.ptr f g off) H)= .ok v H':=h
  replace h:=N8 h;obtain⟨U,h⟩:=h
  cases h
  simp only[VR] at A
  obtain⟨G,ad,cap,hh,A,Y,I⟩:=A
  have hl:l≠0:=fun e=>by rw[e] at U;cases U
  rcases I with⟨rfl,_⟩|⟨e,_,_⟩
  ·refine hM (cv:=.pointer (some ⟨G.ct,G.off+off,none⟩)) ?_ J (by simp only[VR];exact⟨G,hh,rfl⟩)
   simp[execOp,ho,resolve,O,z,invoke,builtin,A,Lib.run_unsafeSliceData_row w _ _ _ l cap ah]
  exact absurd e hl
theorem SK(I:AR P ρ nt E a)(J:R ρ C w)(U:iQ ρ H.next H'.next){src dst:TypeId}{x:Operand}{O:aI}{io:bP}(ho:o.op= .convert src dst x)(K:dH P x=some O)(z:HP P src dst O=some io)
  (hC:∀f o,(∀l,io.reads E=some l→f∈l)→(∃g h,ρ f g=some h)→H.t.get f=some o→C f=some o) (h:io.ev call E H= .ok v H'):fP P o a w (ez ρ C w H v H'):=by
 unfold HP at z
 split at z
 ·rename_i e A G
  split at z
  ·rename_i he;cases z;exact Sv I J U ho K A G he h
  cases z
 ·rename_i e A G
  split at z
  ·rename_i he;cases z;exact Sw I J ho K A G he (fun f o Y=>hC f o (fun l e=>by cases e;exact Y)) h
  cases z
 ·rename_i t A G;exact KX I J ho K (.inl ⟨A,G⟩) z hC h
 ·rename_i t A G;exact KX I J ho K (.inr ⟨A,G⟩) z hC h
 cases z
end
end Go.Ev
