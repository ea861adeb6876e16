/- Part 5 of rules for walks through the code of a program, and of such walks; what each part proves is said by its theorems. -/
import Derived.Test.YtdaamclhcpjdpaaGreatDoorR4
set_option linter.unusedVariables false
set_option linter.unusedSimpArgs false
noncomputable section
set_option maxRecDepth 100000
set_option maxHeartbeats 4000000
namespace Go.Ev
section
variable{P:Program}{ρ:Ho}{nt:Nat}{E:Env}{a:Act}{C:Nat→Option cT}{w:World}{H H':aw}{v:al}{o:Oper}
def fk(ρ:Ho)(n0 n1:Nat):Prop:=∀f g,n0≤f→f<n1→ρ f g=none
theorem YD{x:al}{l:List al}(h:cellsOf x=some l):iB x=some l:=by
 cases x<;>simp only[cellsOf,iB,reduceCtorEq] at h⊢<;>exact h
theorem Fu{l:List al}{vs:Array Value}(A:bO ρ l vs.toList)(G:l.all eH=true)(j:Nat)(x:al)(z:l[j]?=some x):eH x=true∧∃cv,vs[j]?=some cv∧VR ρ x cv:=by
 obtain⟨y,I,k⟩:=A.get j x z;exact⟨(List.all_eq_true.1 G) x (hZ z),y,by simpa using I,k⟩
theorem acY(G:R ρ C w)(I:fk ρ H.next H'.next){elem es aF:Nat}{l:List al}{vs:Array Value}(L:0<es)(M:l.length=es)(A:bO ρ l vs.toList)(O:l.all eH=true)
  (z:(execOp a.eval o).run P w= .ok (.value (.pointer (some ⟨w.heap.size,0,none⟩))) {w with heap:=w.heap.push (.cells vs elem)})
  (h:AF elem es aF l E H= .ok v H'):dX P o a w (cP ρ C w H v H'):=by
 have h:=Cs h
 cases h
 have U:vs.size=es:=by have:=A.length;rw[o9] at this;omega
 obtain⟨ρ',Y,h2,Z⟩:=G.alloc (f:=H.next) (elem:=elem) (es:=es) (aF:=aF) (n:=1) (cs:=.one l) (cells:=vs) (w':={w with heap:=w.heap.push (.cells vs elem)})
  (Wr ⟨H.next+1,H.aQ,H.ws,H.t.set H.next (.row elem es aF 1 1 0 (.one l))⟩) (fun g=>I _ g (bq _) (wb _)) L ah
  (fun i hi=>by
   have:i=0:=by omega
   subst this
   exact⟨l,rfl,M,fun j x hx=>by simpa using Fu A O j x hx⟩) rfl rfl rfl rfl
 refine .inl ⟨_,_,z,ρ',?_,h2,?_⟩
 ·simp only[VR];exact⟨_,Y,rfl⟩
 rw[Ku];exact Z
theorem boxz_sound(O:R ρ C w)(U:fk ρ H.next H'.next){t:TypeId}{z:List al}{i:TypeInfo}(ho:o.op= .alloc t)(A:zeroOf P t=some z)(hi:P.info? t=some i)
  (h:AF t i.size i.bytes z E H= .ok v H'):dX P o a w (cP ρ C w H v H'):=by
 unfold zeroOf at A;rw[hi] at A;simp only at A
 split at A
 ·rename_i Z I
  split at A
  ·rename_i av L
   split at A
   ·rename_i l Y
    split at A
    ·rename_i G
     cases A
     have M:=(KG ρ _ _ L).cells (YD Y);refine acY O U G.2 G.1 M.1 M.2 ?_ h;simp[execOp,ho,Instr.alloc,zeroValue,typeInfo,hi,I,newVar,newRow]
    cases A
   cases A
  cases A
 cases A
theorem box_sound(I:AR P ρ nt E a)(L:R ρ C w)(M:fk ρ H.next H'.next){t:TypeId}{x:Operand}{A:aH}{n b:Nat}(ho:o.op= .box t x)(O:cg P x=some A)(U:gD P t=some n)
  (h:IH t n b A E H= .ok v H'):dX P o a w (cP ρ C w H v H'):=by
 replace h:=dW h;obtain⟨u,Y,h⟩:=h;replace h:=gN h;obtain⟨l,Z,h⟩:=h;replace h:=ed h;obtain⟨z,h⟩:=h;rw[oO] at z;have z:=cq z;have G:=(I.bD O Y).cells Z;obtain⟨_,_,_,_,_,um⟩:=uJ U;exact acY L M ah z G.1 G.2 (by simp[execOp,ho,Instr.box,newVar,newRow]) h
theorem Yl{t:TypeId}{n:Nat}(I:gD P t=some n){l:List al}{ad:Addr}(Y:l.length=n)(Z:l.all eH=true)(L:∀j x,l[j]?=some x→∃cv,w.cell? (ad.add j)=some cv∧VR ρ x cv)
  {e:Nat} (h:fH (p' P t) l (.err e) (fun v=>.ok v H)= .ok v H'):H'=H∧∃cv,(loadVar t ad).run P w= .ok cv w∧VR ρ v cv:=by
 obtain⟨vs,O⟩:∃vs:List Value,bO ρ l vs∧∀j x,vs[j]?=some x→w.cell? (ad.add j)=some x:=by
  clear h Z Y I;have:∀(l:List al)(k:Nat),(∀j x,l[j]?=some x→∃cv,w.cell? (ad.add (k+j))=some cv∧VR ρ x cv)→∃vs:List Value,bO ρ l vs∧∀j x,vs[j]?=some x→w.cell? (ad.add (k+j))=some x:=by
   intro l
   induction l with
   |nil=>intro k _;exact⟨[],rfl,fun j x A=>by simp at A⟩
   |cons y r ih=>
    intro k L;obtain⟨cv,G,h2⟩:=L 0 y rfl;obtain⟨vs,h3,h4⟩:=ih (k+1) (fun j x A=>by have:=L (j+1) x (by simpa using A);rwa [show k+(j+1)=k+1+j by omega] at this);refine⟨cv::vs,⟨cv,vs,rfl,h2,h3⟩,fun j x A=>?_⟩
    cases j with
    |zero=>simp at A;subst A;simpa using G
    |succ j=>rw[show k+(j+1)=k+1+j by omega];exact h4 j x (by simpa using A)
  obtain⟨vs,G,h2⟩:=this l 0 (by simpa using L);exact⟨vs,G,by simpa using h2⟩
 obtain⟨M,z⟩:=O;have hlen:vs.length=n:=M.length.trans Y;replace h:=QD h;rcases h with⟨U,h⟩|⟨x,U,A,h⟩
 ·cases h
  refine⟨rfl,.agg vs.toArray,?_,?_⟩
  ·have G:=Py I w;rw[U] at G;have h2:=run_loadCells_list (P:=P) w ad vs z;rw[hlen] at h2;simp[loadVar,G,uE I,h2]
  simp only[VR];exact⟨_,rfl,M,Z⟩
 cases h
 subst A;simp only[bO] at M;obtain⟨y,t',rfl,hy,rfl⟩:=M;refine⟨rfl,y,?_,hy⟩;have G:=Py I w;rw[U] at G;have h2:w.cell? ad=some y:=by have:=z 0 y rfl;simpa[Addr.add] using this
 simp[loadVar,G,h2]
theorem load_sound(hA:AR P ρ nt E a)(O:R ρ C w){t:TypeId}{x:Operand}{G:aH}{n:Nat}(ho:o.op= .load t x)(I:cg P x=some G)(U:gD P t=some n)
  (hC:∀f o,f∈fM (G.ev E)→(∃g h,ρ f g=some h)→H.t.get f=some o→C f=some o) (h:HA n (p' P t) G E H= .ok v H'):dX P o a w (cP ρ C w H v H'):=by
 replace h:=dW h;obtain⟨u,Y,h⟩:=h;replace h:=zG h;obtain⟨f,g,off,rfl,h⟩:=h;obtain⟨l,Z,h⟩:=Tt h (by simp);have A:=hA.bD I Y;simp only[VR] at A;obtain⟨hm,hh,A⟩:=A;obtain⟨_,_,_,_,_,um⟩:=uJ U;have L:C f=H.t.get f:=by
  obtain⟨_,_,_,_,_,_,_,_,hg,_⟩:=Z;exact(hC f _ (by rw[Y];simp[fM]) ⟨_,_,hh⟩ hg).trans hg.symm
 obtain⟨hlen,hk,hc⟩:=O.rd Z L hh ah;obtain⟨rfl,cv,z,M⟩:=Yl (P:=P) (ρ:=ρ) (w:=w) (ad:=⟨hm.bw,hm.off+off,none⟩) U hlen hk (fun j x I=>by rw[Addr.add_lit];exact hc j x I) h;exact eY (by simp[execOp,ho,A,Instr.loadAt,Instr.sureAddr,z]) O M
theorem X4{l new:List al}{r n:Nat}(z:r+n≤l.length)(A:new.length=n):(eE l r new).length=l.length:=by
 unfold eE;simp;omega
theorem YE{l new:List al}{r n:Nat}(L:r+n≤l.length)(z:new.length=n)(j:Nat):(eE l r new)[j]?=if r≤j∧j<r+n then new[j-r]?else l[j]?:=by
 unfold eE;have A:(l.take r).length=r:=by simp;omega
 by_cases G:j<r
 ·rw[vz ah,Iy,bh G,aZ ah]
 rw[A7 ah,A]
 by_cases I:j<r+n
 ·rw[vz ah,bh ah]
 rw[A7 ah,Iz,aZ ah,z];congr 1;omega
theorem R.write(U:R ρ C w){f g off n:Nat}{new:List al}{nv:List Value}(hw:ah7 H f g off n new H')(hC:C f=H.t.get f){h:Hm}(hh:ρ f g=some h)(hn:0<n)
  (hv:bO ρ new nv) (hk:new.all eH=true):
  (∀j,j<n→(w.cell? ⟨h.bw,h.off+off+j,none⟩).isSome=true)∧(∀j,j<n→w.frozen? ⟨h.bw,h.off+off+j,none⟩=false)∧h.ro=false∧
  R ρ (dZ C H H') (w.setCells h.bw (h.off+off) nv):=by
 obtain⟨elem,es,aF,lo,cs,x,hg,h6,h3,h4,Z,hx,rfl⟩:=hw;have hobj:=U.obj f _ (hC.trans hg) g h hh;obtain⟨he,mD,_,A⟩:=hobj;have A:=A h6 (bq _);have ah9:off/es*es+off % es=off:=by rw[qC];exact Nw off es
 generalize hq:off/es=q at*;generalize hr:off % es=r at*;have L:h.ro=false:=by
  cases hr:h.ro
  ·rfl
  exact absurd (mD hr) (by simp)
 have oA:nv.length=n:=hv.length.trans Z;have hqg:(q+1)*es≤g*es:=iH es h4;have hqe:(q+1)*es=q*es+es:=by rw[ku,A6]
 have U2:=A.fits;obtain⟨y,hy,hyl,hyc⟩:=A.cell q h4;have hxy:y=x:=by
  have:some y=some x:=hy.symm.trans hx
  cases this
  rfl
 subst hxy;have M:∀j,j<n→(w.cell? ⟨h.bw,h.off+off+j,none⟩).isSome=true:=by
  intro j hj;have pI:r+j<y.length:=by omega
  obtain⟨_,cv,sw,_⟩:=hyc (r+j) (y[r+j]) (c7 pI);rw[show h.off+off+j=h.off+q*es+(r+j) by omega,sw];rfl
 have hfrz:∀j,j<n→w.frozen? ⟨h.bw,h.off+off+j,none⟩=false:=by
  intro j hj;rw[kr];exact A.Dn rfl (off+j) ah
 obtain⟨s1,s2,s3,_,_,_⟩:=Ci h.bw nv (h.off+off) w;refine⟨M,hfrz,L,⟨fun f' o' G g' h' I=>?_,U.mr,fun f' g' h' I=>by rw[s1];exact U.gx f' g' h' I,U.uniq,fun f' g' x hx a b=>(U.c9 f' g' x hx a b).fX (cell_of_heap (w:=w) (s2 _ fun e=>?_))⟩⟩
 rotate_left
 ·by_cases hf:f'=f
  ·subst hf;have:=(U.c9 _ _ _ hx a b).1 _ _ hh;rw[L] at this;cases this
  have:=(U.mr _ _ _ _ _ _ hx hh hf e).2;rw[L] at this;cases this
 have Bf:∀z,(if n=es then new else eE y r new)=z→z.length=es∧∀j,z[j]?=if r≤j∧j<r+n then new[j-r]?else y[j]?:=by
  intro z hz;have JM:(if n=es then new else eE y r new)=eE y r new:=by
   split
   ·rename_i e;have WG:r=0:=by omega
    subst WG;unfold eE;rw[Nx,UQ,UR ah,Ny]
   rfl
  rw[JM] at hz;subst hz;exact⟨(X4 ah Z).trans hyl,YE ah Z⟩
 obtain⟨BY,hzg⟩:=Bf _ rfl;generalize (if n=es then new else eE y r new)=z at*
 by_cases hf:f'=f
 ·subst hf;have pJ:o'= .row elem es aF g g 0 (cs.set q z):=by
   have h0:(H.t.set f' (cT.row elem es aF g g 0 (cs.set q z))).get f'=some (.row elem es aF g g 0 (cs.set q z)):=by rw[GT.di,bh rfl]
   unfold dZ at G;simp only at G;rw[aZ ah,h0] at G
   split at G
   ·rename_i e;rw[hC,←e] at G
    cases G
    rfl
   cases G
   rfl
  subst pJ;have O:=U.obj f' _ (hC.trans hg) g' h' I;refine⟨he,O.2.1,O.2.2.1,fun a1 a2=>?_⟩;have JN:g'=g:=by omega
  subst JN;have hhh:h'=h:=by rw[hh] at I;cases I;rfl
  subst hhh;obtain⟨c,fz,hb,hbs⟩:=A.row;obtain⟨c',yS,aia⟩:=s3 c elem fz hb;refine⟨⟨c',fz,yS,ah⟩,U2,fun i hi=>?_,fun e i hi=>?_,fun e i hi sA=>?_,A.tY,fun e c1 t1 wi nr=>by rw[yS] at nr;cases nr;exact A.BW e _ _ _ hb⟩
  ·rw[RT.di]
   by_cases WH:i=q
   ·subst WH;rw[bh rfl];refine⟨z,rfl,BY,fun j u Y=>?_⟩;rw[hzg] at Y
    split at Y
    ·rename_i hj;obtain⟨cv,sw,WI⟩:=hv.get _ _ Y;refine⟨(List.all_eq_true.1 hk) u (hZ Y),cv,?_,WI⟩;have JO:j-r<nv.length:=by omega
     have:=World.cell?_setCells_in h'.bw nv (h'.off+off) w (by rw[oA];exact M) (j-r) JO;rw[show h'.off+i*es+j=h'.off+off+(j-r) by omega,this,←c7 JO];exact sw
    rename_i hj;obtain⟨k1,cv,k2,k3⟩:=hyc j u Y;refine⟨k1,cv,?_,k3⟩;rw[World.cell?_setCells_out _ _ _ _ _ (fun _ _=>by simp only;omega)];exact k2
   rw[aZ WH];obtain⟨l,l1,l2,l3⟩:=A.cell i hi;refine⟨l,l1,l2,fun j u Y=>?_⟩;obtain⟨k1,cv,k2,k3⟩:=l3 j u Y;refine⟨k1,cv,?_,k3⟩;have hjes:j<es:=by
    rw[←l2];rcases US j l.length with h|h
    ·exact h
    rw[A8 h] at Y;cases Y
   rw[World.cell?_setCells_out _ _ _ _ _ (fun _ _=>?_)]
   ·exact k2
   simp only;rcases Nat.lt_or_gt_of_ne WH with pI|OK
   ·left;have:=iH es (show i+1≤q from pI);rw[ku,A6] at this;omega
   right;have:=iH es (show q+1≤i from OK);omega
  ·rw[World.frozen?_setCells];exact A.Dn e i hi
  rw[World.frozen?_setCells];exact A.AG e i hi sA
 have pJ:C f'=some o':=by
  have h0:(H.t.set f (cT.row elem es aF g g 0 (cs.set q z))).get f'=H.t.get f':=by rw[GT.di,aZ hf]
  unfold dZ at G;simp only at G;rw[aZ ah,bh h0] at G;exact G
 refine(U.obj f' o' pJ g' h' I).fX (Ho.le_refl _) (s2 _ fun e=>?_);have:=U.mr _ _ _ _ _ _ I hh hf e;rw[L] at this;exact absurd this.2 (by simp)
theorem run_storeVar{t:TypeId}{n:Nat}(A:gD P t=some n){b base:Nat}{u:Value}(z:u.cells.size=n)(G:∀x∈u.cells.toList,x.oneCell'=true)
  (I:∀j,j<n→(w.cell? ⟨b,base+j,none⟩).isSome=true) (L:∀j,j<n→w.frozen? ⟨b,base+j,none⟩=false):
  (storeVar t ⟨b,base,none⟩ u).run P w= .ok () (w.setCells b base u.cells.toList):=by
 have hlen:u.cells.toList.length=n:=by rw[o9];exact z
 have:=run_storeCells_cells (P:=P) b base u.cells.toList 0 w (by rw[hlen];simpa using I) (by rw[hlen];simpa using L) G;simp only[qD] at this;simp[storeVar,uE A,z,this]
theorem PA{x:al}{y:Value}(h:VR ρ x y)(z:eH x=true):y.oneCell'=true:=by
 have:=h.noAgg z
 cases y<;>first|rfl|(exact absurd rfl (this.1 _))|(exact absurd rfl (this.2 _))
theorem bO.P':∀{l:List al}{vs:List Value},bO ρ l vs→l.all eH=true→∀x∈vs,x.oneCell'=true
 |[],vs,h,_,x,z=>by simp only[bO] at h;subst h;cases z
 |a::r,vs,h,A,x,z=>by
  simp only[bO] at h;obtain⟨v,t,rfl,G,h2⟩:=h;simp only[IE,cS] at A
  cases z with
  |head=>exact PA G A.1
  |tail _ z=>exact bO.P' h2 A.2 x z
theorem store_sound(hA:AR P ρ nt E a)(hR:R ρ C w){t:TypeId}{x z:Operand}{O z':aH}{n:Nat}(ho:o.op= .store t x z)(hx:cg P x=some O)(hz:cg P z=some z')(hn:gD P t=some n)
  (hC:∀f o,f∈fM (O.ev E)→(∃g h,ρ f g=some h)→H.t.get f=some o→C f=some o) (h:Gr n O z' E H= .ok v H'):dX P o a w (cP ρ C w H v H'):=by
 replace h:=dW h;obtain⟨u,hu,h⟩:=h;replace h:=zG h;obtain⟨f,g,off,rfl,h⟩:=h;replace h:=dW h;obtain⟨u2,U,h⟩:=h;replace h:=gN h;obtain⟨l,hl,h⟩:=h;obtain⟨H1,L,h⟩:=AI h
 cases h
 have M:=hA.bD hx hu;have h2:=hA.bD hz U;simp only[VR] at M;obtain⟨A,Y,M⟩:=M;obtain⟨_,_,_,_,_,um⟩:=uJ hn;have G:=h2.cells hl;have WJ:l.length=n:=by obtain⟨_,_,_,_,_,_,_,_,_,_,Z,_⟩:=L;exact Z
 have hvl:(a.eval z).cells.size=n:=by have:=G.1.length;rw[o9] at this;omega
 have pK:C f=H.t.get f:=by
  obtain⟨_,_,_,_,_,_,hg,_⟩:=L;exact(hC f _ (by rw[hu];simp[fM]) ⟨_,_,Y⟩ hg).trans hg.symm
 obtain⟨k1,k2,k3,k4⟩:=hR.write L pK Y ah G.1 G.2;have I:=run_storeVar (P:=P) (w:=w) hn (b:=A.bw) (base:=A.off+off) hvl (G.1.P' G.2) k1 k2;obtain⟨s1,s2,s3,s4,s5,s6⟩:=Ci A.bw (a.eval z).cells.toList (A.off+off) w;refine .inr (.inl ⟨w.setCells A.bw (A.off+off) (a.eval z).cells.toList,?_,ρ,by simp only[VR],?_,k4⟩)
 ·simp[execOp,ho,M,Instr.storeAt,Instr.sureAddr,I]
 obtain⟨_,_,_,_,_,_,_,_,_,_,_,_,rfl⟩:=L;refine⟨Ho.le_refl _,fun f g h e=>.inl ⟨g,h,e⟩,fun _ _ _ e=>.inl e,fun b hb hf=>?_,by rw[s1];exact bq _,bq _,s4,s5,s6⟩;refine s2 b fun e=>?_
 refine hf f g A Y k3 ?_ e.symm;unfold Wr;simp only[zw]
 by_cases pI:f<H.aQ
 ·exact .inl (.inr ⟨trivial,pI⟩)
 exact .inr ah
end
section
variable{P:Program}{ρ:Ho}{nt:Nat}{E:Env}{a:Act}{C:Nat→Option cT}{w:World}{H H':aw}{v:al}{o:Oper}
theorem KH:∀{n:Nat}{H:aw}{f g es off:Nat}{l:List (List al)},elems H f g es n off=some l→l.length=n∧∀i x,l[i]?=some x→UZ H f g (off+i*es) es x
 |0,H,f,g,es,off,l,h=>by cases h;exact⟨rfl,fun i x z=>by simp at z⟩
 |n+1,H,f,g,es,off,l,h=>by
  have h:rd H f g off es none (fun l=>ob (elems H f g es n (off+es)) none fun r=>some (l::r))=some l:=h;obtain⟨x,z,h⟩:=Tt h (by simp);obtain⟨r,G,h⟩:=CP h
  cases h
  obtain⟨I,h2⟩:=KH G;refine⟨by simp[I],fun i y A=>?_⟩
  cases i with
  |zero=>simp at A;subst A;simpa using z
  |succ i=>have:=h2 i y (by simpa using A);rwa [show off+es+i*es=off+(i+1)*es by rw[ku];omega] at this
theorem sX:∀(l:List (List al))(t:RT)(i k:Nat),(fU l t i).get k=if i≤k∧k<i+l.length then l[k-i]?else t.get k
 |[],t,i,k=>by
  show t.get k=_;rw[aZ (by simp)]
 |x::r,t,i,k=>by
  have step:fU (x::r) t i=fU r (t.set i x) (i+1):=rfl;rw[step,sX r,RT.di];simp only[gr]
  by_cases h:k=i
  ·subst h;rw[aZ ah,bh rfl,bh ah];simp
  rw[aZ h]
  by_cases h2:i+1≤k∧k<i+1+r.length
  ·rw[bh h2,bh ah];rw[show k-i=(k-(i+1))+1 by omega,Nz]
  rw[aZ h2,aZ ah]
structure Flat(ρ:Ho)(es:Nat)(l:List (List al))(news:List Value):Prop where
 len:news.length=l.length*es
 one:∀u∈news,u.oneCell'=true
 get:∀i x,l[i]?=some x→x.length=es∧∀j y,x[j]?=some y→eH y=true∧∃cv,news[i*es+j]?=some cv∧VR ρ y cv
theorem sY{α:Type}{l:List α}{i:Nat}{x:α}(h:l[i]?=some x):i<l.length:=by
 rcases US i l.length with h'|h'
 ·exact h'
 rw[A8 h'] at h;cases h
theorem Flat.of_elems(hR:R ρ C w){f g es off n:Nat}{l:List (List al)}(hl:elems H f g es n off=some l)(hC:∀o,H.t.get f=some o→C f=some o){h:Hm}(hh:ρ f g=some h)(Y:0<es):
  l.length=n∧∃news,Flat ρ es l news∧∀j u,news[j]?=some u→w.cell? ⟨h.bw,h.off+off+j,none⟩=some u:=by
 obtain⟨hlen,z⟩:=KH hl;refine⟨hlen,(List.range (l.length*es)).map fun q=>(w.cell? ⟨h.bw,h.off+off+q,none⟩).getD undef,?_⟩;have key:∀i x,l[i]?=some x→x.length=es∧∀j y,x[j]?=some y→eH y=true∧∃cv,w.cell? ⟨h.bw,h.off+off+(i*es+j),none⟩=some cv∧VR ρ y cv:=by
  intro i x G;have Z:C f=H.t.get f:=by
   obtain⟨_,_,_,_,_,_,_,_,hg,_⟩:=z i x G;exact(hC _ hg).trans hg.symm
  obtain⟨I,h2,h3⟩:=hR.rd (z i x G) Z hh Y;refine⟨I,fun j y L=>⟨(List.all_eq_true.1 h2) y (hZ L),?_⟩⟩;obtain⟨cv,sw,hv⟩:=h3 j y L;exact⟨cv,by rw[show h.off+off+(i*es+j)=h.off+(off+i*es)+j by omega];exact sw,hv⟩
 have cellAt:∀q,q<l.length*es→∃cv,w.cell? ⟨h.bw,h.off+off+q,none⟩=some cv∧cv.oneCell'=true:=by
  intro q hq;have hi:q/es<l.length:=by
   rw[ahq Y];exact hq
  have M:q % es<es:=ye _ Y;obtain⟨I,h2⟩:=key (q/es) _ (c7 hi);obtain⟨A,cv,O,k3⟩:=h2 (q % es) _ (c7 (by rw[I];exact M));refine⟨cv,?_,PA k3 A⟩;have:q/es*es+q % es=q:=by rw[qC];exact Nw q es
  rwa [this] at O
 refine⟨⟨by simp,fun u U=>?_,fun i x G=>?_⟩,fun j u U=>?_⟩
 ·obtain⟨q,hq,rfl⟩:=List.mem_map.1 U;obtain⟨cv,A,O⟩:=cellAt q (List.mem_range.1 hq);rw[A];exact O
 ·obtain⟨I,h2⟩:=key i x G;refine⟨I,fun j y L=>?_⟩;obtain⟨A,cv,O,k3⟩:=h2 j y L;refine⟨A,cv,?_,k3⟩;have pI:i*es+j<l.length*es:=by
   have h4:=sY G;have h5:=sY L;have:=iH es (show i+1≤l.length from h4);rw[ku,A6] at this;omega
  simp[pI,O]
 have M:=sY U;simp at M;obtain⟨cv,A,_⟩:=cellAt j M;simp[M,A] at U;rw[A,U]
theorem R.grow(U:R ρ C w){f m k elem es aF kR lo fl:Nat}{cs:RT}{new:List (List al)}{news:List Value}(W:Nat→Prop)(hWf:W f){w':World}{h h2:Hm}
  (hC:C f=some (.row elem es aF m lo fl cs)) (hh:ρ f m=some h) (hk:new.length=k) (hk0:0<k) (ES:lo≤m) (yT:fl≠1) (hF:Flat ρ es new news)
  (kG:w.heap.size≤w'.heap.size) (h1:w'.os=w.os) (WK:w'.tape=w.tape) (h3:w'.output=w.output)
  (M:∀b,b<w.heap.size→b≠h.bw→w'.heap[b]?=w.heap[b]?)
  (Y:∃c c' e fz,w.heap[h.bw]?=some (.cells c e fz)∧w'.heap[h.bw]?=some (.cells c' e fz)∧c'.size=c.size)
  (Mv:∀off,off<m*es→w'.cell? ⟨h.bw,h.off+off,none⟩=w.cell? ⟨h.bw,h.off+off,none⟩)
  (G:h2=h∨(w.heap.size≤h2.bw∧h2.ro=false)) (mE:h2.bw<w'.heap.size)
  (NQ:∃c fz,w'.heap[h2.bw]?=some (.cells c elem fz)∧h2.off+h2.room≤c.size) (hfits:(m+k)*es≤h2.room)
  (hold:∀off,off<m*es→w'.cell? ⟨h2.bw,h2.off+off,none⟩=w.cell? ⟨h.bw,h.off+off,none⟩)
  (Bf:∀j,j<k*es→w'.cell? ⟨h2.bw,h2.off+m*es+j,none⟩=news[j]?)
  (wh:h2≠h→h2.off=0∧(∀i,w'.frozen? ⟨h2.bw,i,none⟩=false)∧∀c e fz,w'.heap[h2.bw]?=some (.cells c e fz)→fz.1=fz.2):
  ∃ρ',ρ' f (m+k)=some h2∧Ext W H.next H.next ρ ρ' w w'∧R ρ' (fun x=>if x=f then some (.row elem es kR (m+k) lo fl (fU new cs m)) else C x) w':=by
 obtain⟨he,mD,_,A⟩:=U.obj f _ hC m h hh;have A:=A ES (bq _);have O:h.ro=false:=by
  cases hr:h.ro
  ·rfl
  exact absurd (mD hr) yT
 have aib:h2.ro=false:=by
  rcases G with rfl|⟨_,e⟩
  ·exact O
  exact e
 have hnone:∀x,ρ f (m+k)=some x→x=h2:=fun x z=>by
  obtain⟨_,_,hle,_⟩:=U.obj f _ hC (m+k) x z;omega
 have hle:ρ.le (ρ.add f (m+k) h2):=Ho.acW hnone;have aic:∀f' g' x,ρ f' g'=some x→f'≠f→w'.heap[x.bw]?=w.heap[x.bw]?:=by
  intro f' g' x z I;refine M _ (U.gx _ _ _ z) fun e=>?_
  have:=U.mr _ _ _ _ _ _ z hh I e;rw[O] at this;exact absurd this.2 (by simp)
 have aid:∀i,w'.frozen? ⟨h.bw,i,none⟩=w.frozen? ⟨h.bw,i,none⟩:=by
  intro i;obtain⟨c,c',e,fz,k1,k2,_⟩:=Y;simp only[World.frozen?,k1,k2]
 refine⟨_,Ho.add_same _ _ _ _,⟨hle,?_,?_,?_,kG,bq _,h1,WK,h3⟩,⟨?_,?_,?_,?_,?_⟩⟩
 ·intro f' g' x z;rcases Ho.iY z with⟨rfl,_,_⟩|z
  ·exact .inl ⟨m,h,hh⟩
  exact .inl ⟨g',x,z⟩
 ·intro f' g' x z;rcases Ho.iY z with⟨rfl,_,rfl⟩|z
  ·rcases G with rfl|⟨a1,a2⟩
   ·exact .inr (.inr ⟨m,x,hh,rfl,rfl⟩)
   exact .inr (.inl ⟨a1,a2⟩)
  exact .inl z
 ·intro b hb hf;exact M b hb fun e=>hf f m h hh O hWf e.symm
 ·intro f' o OL g x z;have EV:(if f'=f then some (cT.row elem es kR (m+k) lo fl (fU new cs m)) else C f')=some o:=OL;clear OL
  by_cases e:f'=f
  ·rw[bh e] at EV;subst e
   cases EV
   rcases Ho.iY z with⟨_,rfl,rfl⟩|z
   ·refine⟨he,(fun e=>by rw[aib] at e;cases e),bq _,fun _ _=>⟨NQ,hfits,fun i hi=>?_,fun e i hi=>?_,fun e i hi sA=>?_,fun e=>(NA (x=h)).elim (fun L=>L▸A.tY e) (fun L=>(wh L).1),fun e=>(NA (x=h)).elim (fun L c1 t1 wi Z=>by
     obtain⟨c,c',t2,fz,q1,q2,_⟩:=Y;rw[L,q2] at Z
     cases Z
     have:=iH es (show m≤m+k by omega)
     exact(A.BW e _ _ _ q1).imp_right (fun g=>by omega)) (fun L c1 t1 wi Z=>.inl ((wh L).2.2 _ _ _ Z))⟩⟩
    ·rw[sX]
     by_cases him:i<m
     ·rw[aZ ah];obtain⟨l,l1,l2,l3⟩:=A.cell i him;refine⟨l,l1,l2,fun j u hu=>?_⟩;obtain⟨k1,cv,k2,k3⟩:=l3 j u hu;refine⟨k1,cv,?_,k3.mono hle⟩;have hj:=sY hu;have:=iH es (show i+1≤m from him);rw[ku,A6] at this;rw[kr,hold (i*es+j) ah,←kr];exact k2
     rw[bh ah];have hik:i-m<new.length:=by omega
     obtain⟨l1,l2⟩:=hF.get (i-m) _ (c7 hik);refine⟨_,c7 hik,l1,fun j u hu=>?_⟩;obtain⟨k1,cv,k2,k3⟩:=l2 j u hu;refine⟨k1,cv,?_,k3.mono hle⟩;have hj:=sY hu;have hjj:=sY k2;rw[hF.len,hk] at hjj;have e1:i*es=m*es+(i-m)*es:=by rw[←ku];congr 1;omega
     rw[show x.off+i*es+j=x.off+m*es+((i-m)*es+j) by omega,Bf _ hjj];exact k2
    ·by_cases JP:x=h
     ·subst JP;rw[aid];exact A.Dn e i hi
     exact(wh JP).2.1 _
    by_cases JP:x=h
    ·subst JP;rw[aid];refine A.AG e i ?_ sA;have:=iH es (show m≤m+k by omega);omega
    exact(wh JP).2.1 _
   obtain⟨_,r1,r2,r3⟩:=U.obj f' _ hC g x z;refine⟨he,r1,ah,fun a1 _=>?_⟩;have r3:=r3 a1 r2;have HO:(∃c c' e fz,w.heap[x.bw]?=some (.cells c e fz)∧w'.heap[x.bw]?=some (.cells c' e fz)∧c'.size=c.size)∧∀off,off<m*es→w'.cell? ⟨x.bw,x.off+off,none⟩=w.cell? ⟨x.bw,x.off+off,none⟩:=by
    by_cases hb:x.bw=h.bw
    ·have ho:=U.uniq _ _ _ _ _ z hh hb;rw[hb,ho];exact⟨Y,Mv⟩
    have sB:=M _ (U.gx _ _ _ z) hb;obtain⟨c,fz,hc,_⟩:=r3.row;exact⟨⟨c,c,elem,fz,hc,by rw[sB];exact hc,rfl⟩,fun off _=>cell_of_heap (w:=w) sB⟩
   obtain⟨⟨c,c',e0,fz,q1,q2,q3⟩,q4⟩:=HO;have hfx:∀i,w'.frozen? ⟨x.bw,i,none⟩=w.frozen? ⟨x.bw,i,none⟩:=fun i=>by simp only[World.frozen?,q1,q2]
   obtain⟨c2,fz2,p1,p2⟩:=r3.row;rw[q1] at p1
   cases p1
   refine⟨⟨c',fz,q2,ah⟩,r3.fits,fun i hi=>?_,fun e i hi=>?_,fun e i hi sA=>?_,r3.tY,fun e c1 t1 wi Z=>by
    rw[q2] at Z
    cases Z
    have:=iH es (show m≤m+k by omega)
    exact(r3.BW e _ _ _ q1).imp_right (fun g=>by omega)⟩
   ·rw[sX,aZ ah];obtain⟨l,l1,l2,l3⟩:=r3.cell i hi;refine⟨l,l1,l2,fun j u hu=>?_⟩;obtain⟨k1,cv,k2,k3⟩:=l3 j u hu;refine⟨k1,cv,?_,k3.mono hle⟩;have hj:=sY hu;have:=iH es (show i+1≤m by omega);rw[ku,A6] at this;rw[kr,q4 (i*es+j) ah,←kr];exact k2
   ·rw[hfx];exact r3.Dn e i hi
   rw[hfx];refine r3.AG e i ?_ sA;have:=iH es (show m≤m+k by omega);omega
  rw[aZ e] at EV;rcases Ho.iY z with⟨e',_,_⟩|z
  ·exact absurd e' e
  exact(U.obj f' o EV g x z).fX hle (aic _ _ _ z e)
 ·intro f1 g1 x1 f2 g2 x2 e1 L I hb;have c1:=Ho.iY e1;have c2:=Ho.iY L;clear e1 L;have half:∀f' g' x,ρ f' g'=some x→f'≠f→x.bw≠h2.bw:=by
   intro f' g' x z I e;rcases G with rfl|⟨a1,_⟩
   ·have:=U.mr _ _ _ _ _ _ z hh I e;rw[O] at this;exact absurd this.2 (by simp)
   have:=U.gx _ _ _ z;omega
  rcases c1 with⟨e,_,rfl⟩|e1<;>rcases c2 with⟨e',_,rfl⟩|L
  ·exact absurd (e.trans e'.symm) I
  ·exact absurd hb.symm (half _ _ _ L (fun e3=>I (e.trans e3.symm)))
  ·exact absurd hb (half _ _ _ e1 (fun e3=>I (e3.trans e'.symm)))
  exact U.mr _ _ _ _ _ _ e1 L I hb
 ·intro f' g' x z;rcases Ho.iY z with⟨_,_,rfl⟩|z
  ·exact mE
  have:=U.gx _ _ _ z;omega
 ·intro f' g1 x1 g2 x2 e1 L hb;have c1:=Ho.iY e1;have c2:=Ho.iY L;clear e1 L;have half:∀g' x,ρ f g'=some x→x.bw=h2.bw→x.off=h2.off:=by
   intro g' x z e;rcases G with rfl|⟨a1,_⟩
   ·exact U.uniq _ _ _ _ _ z hh e
   have:=U.gx _ _ _ z;omega
  rcases c1 with⟨e,_,rfl⟩|e1<;>rcases c2 with⟨e',_,rfl⟩|L
  ·rfl
  ·subst e;exact(half _ _ L hb.symm).symm
  ·subst e';exact half _ _ e1 hb
  exact U.uniq _ _ _ _ _ e1 L hb
 intro f' g' x z mD WE;rcases Ho.iY z with⟨_,_,rfl⟩|hx1
 ·rw[aib] at mD;cases mD
 have k:=U.c9 _ _ _ hx1 mD WE;have I:f'≠f:=fun e=>by
  subst e;have:=k.1 _ _ hh;rw[O] at this;cases this
 refine ER.fX ⟨fun g2 x2 L=>?_,k.2⟩ (cell_of_heap (w:=w) (aic _ _ _ hx1 I));rcases Ho.iY L with⟨e3,_,_⟩|L
 ·exact absurd e3 I
 exact k.1 _ _ L
end
section
variable{P:Program}{ρ:Ho}{nt:Nat}{E:Env}{a:Act}{C:Nat→Option cT}{w:World}{H H':aw}{v:al}{o:Oper}
theorem wM{t:TypeId}{z:List al}(A:zeroOf P t=some z):∃i G,P.info? t=some i∧i.zero=some G∧(∀ρ,bO ρ z G.cells.toList)∧z.all eH=true∧z.length=i.size∧0<i.size∧G.cells.size=i.size:=by
 unfold zeroOf at A
 split at A
 ·rename_i i hi
  split at A
  ·rename_i G L
   split at A
   ·rename_i Y M
    split at A
    ·rename_i l U
     split at A
     ·rename_i I
      cases A
      have O:=fun ρ=>(KG ρ _ _ M).cells (YD U)
      refine⟨i,G,hi,L,fun ρ=>(O ρ).1,(O (fun _ _=>none)).2,I.1,I.2,?_⟩;have:=(O (fun _ _=>none)).1.length;rw[o9] at this;omega
     cases A
    cases A
   cases A
  cases A
 cases A
theorem size_zeroCells(z:Array Value)(n:Nat):(Builtin.zeroCells z n).size=n*z.size:=by simp[Builtin.zeroCells]
theorem acZ{b:Bool}{k:aC}{n:Nat}(h:aD b (.err n) k= .ok v H'):b=false∧k= .ok v H':=by
 cases b
 ·exact⟨rfl,h⟩
 cases h
theorem nil_sound(hR:R ρ C w)(hF:fk ρ H.next H'.next){t Y ty e:TypeId}{i:TypeInfo}{z:List al}{Z:Value}{n:Nat}{new:List (List al)}{news:List Value}
  (ht:P.underlying t=some (.slice e)) (hi:P.info? e=some i) (hz:zeroOf P e=some z) (hb:i.bytes≠0) (hn:0<n) (hl:new.length=n) (G:Flat ρ i.size new news) (hs:Src P i.size Y Z n news w)
  (h:zZ e i.size i.bytes n new H= .ok v H'):∃cv w',(Builtin.append_ #[t,Y] ty #[.slice none 0 0,Z]).run P w= .ok cv w'∧cP ρ C w H v H' cv w':=by
 replace h:=ed h;obtain⟨A,h⟩:=h;rw[zF] at h;have h:=Cs h
 cases h
 have A:=aS A;have A:n*i.bytes≤70368744177664:=A;obtain⟨i',zv,I,qY,_,_,_,L,yU⟩:=wM hz;rw[hi] at I
 cases I
 have hnb:n≤n*i.bytes:=ahr _ ah;have yV:=grownCap_ge w (0+n) 0 e;have M:=run_append_grow_src (P:=P) w t Y ty e i zv ht hi qY none 0 0 [] (run_firstCells_none w.drew i.size 0 0 0) Z n news hs ah ah (growslice_fits ah (by rw[fG];omega));generalize grownCap w (0+n) 0 e=cp at*;have O:news.length=n*i.size:=by rw[G.len,hl]
 obtain⟨ρ',h1,h2,h3⟩:=hR.alloc (f:=H.next) (elem:=e) (es:=i.size) (aF:=i.bytes) (n:=n) (cs:=fU new .emp 0) (cells:=([]++news).toArray++Builtin.zeroCells zv.cells (cp-(0+n)))
  (w':=w.drew.alloc (.cells (([]++news).toArray++Builtin.zeroCells zv.cells (cp-(0+n))) e))
  (Wr ⟨H.next+1,H.aQ,H.ws,H.t.set H.next (.row e i.size i.bytes n n 0 (fU new .emp 0))⟩) (fun g=>hF _ g (bq _) (wb _)) L
  (by rw[NB,size_zeroCells];simp[O])
  (fun k hk=>by
   rw[sX,bh ah];have U:k<new.length:=by omega
   obtain⟨l1,l2⟩:=G.get k _ (c7 U);refine⟨_,by rw[ID];exact c7 U,l1,fun j x hx=>?_⟩;obtain⟨k1,cv,k2,k3⟩:=l2 j x hx;refine⟨k1,cv,?_,k3⟩;have:=sY k2;rw[NC (by simpa using this)]
   simpa using k2) rfl rfl rfl rfl
 refine⟨_,_,M,ρ',?_,h2,?_⟩
 ·simp only[VR];refine⟨_,_,_,h1,by rw[fG],⟨ah,by rw[fG];exact iH _ ah⟩,.inl ⟨rfl,?_⟩⟩;simp only;rw[NB,size_zeroCells,yU,fG];simp only[UQ,List.size_toArray,O];rw[←ku];exact iH _ ah
 rw[Ku];exact h3
theorem PL{f:Nat}{o z:cT}(A:C f=H.t.get f)(_ho:H.t.get f=some o):dZ C H ⟨H.next,H.aQ,wrote f H.aQ H.ws,H.t.set f z⟩=fun x=>if x=f then some z else C x:=by
 funext x
 unfold dZ;simp only;rw[aZ ah,GT.di]
 by_cases h:x=f
 ·subst h;rw[bh rfl,bh rfl]
  split
  ·rename_i e;rw[A,←e]
  rfl
 rw[aZ h,aZ h,bh rfl]
theorem KI(H:aw)(f:Nat)(t:HT):Wr ⟨H.next,H.aQ,wrote f H.aQ H.ws,t⟩ f:=by
 unfold Wr;simp only[zw]
 by_cases z:f<H.aQ
 ·exact .inl (.inr ⟨trivial,z⟩)
 exact .inr ah
theorem row0_sound(hR:R ρ C w){t tx ty e:TypeId}{i:TypeInfo}{z:List al}{yc:Value}{n:Nat}{new:List (List al)}{news:List Value}{f g off A cV:Nat}{xc:Value}
  (ht:P.underlying t=some (.slice e)) (hi:P.info? e=some i) (hz:zeroOf P e=some z) (hb:i.bytes≠0) (hn:0<n) (hl:new.length=n) (yT:Flat ρ i.size new news) (hs:Src P i.size tx yc n news w)
  (hx:VR ρ (.slice f g off A cV) xc) (WL:∀o,(∃g h,ρ f g=some h)→H.t.get f=some o→C f=some o)
  (h:Qz e i.size i.bytes n new H f g off A cV= .ok v H'):∃cv w',(Builtin.append_ #[t,tx] ty #[xc,yc]).run P w= .ok cv w'∧cP ρ C w H v H' cv w':=by
 have h:iR (H.t.get f) (aC.err 33) (fun Y U3 kR m lo fl cs=>
  aD (Nat.beq off 0) (aD (Nat.beq g m) (aD (Nat.ble lo g) (aD (Nat.beq A m) (aD (Nat.beq cV i.size) (aD (Nat.beq U3 i.size) (aD (Nat.beq fl 1) (aC.err 32)
   (aD (Nat.ble (Nat.mul (Nat.add m n) i.bytes) 70368744177664) (aD (Nat.beq e Y)
    (ct (Nat.add m n) fun m'=>ve new cs m fun cs=>H.t.fh f (.row Y U3 kR m' lo fl cs) fun t=>
     aC.ok (.slice f m' 0 m' i.size) ⟨H.next,H.aQ,wrote f H.aQ H.ws,t⟩) (aC.err 32)) (aC.err 32))) (aC.err 32)) (aC.err 32)) (aC.err 32)) (aC.err 32)) (aC.err 32)) (aC.err 32))=aC.ok v H':=by
  cases H;exact h
 obtain⟨Y,U3,kR,m,lo,fl,cs,hg,h⟩:=ZO h;replace h:=ed h;obtain⟨a1,h⟩:=h;replace h:=ed h;obtain⟨a2,h⟩:=h;replace h:=ed h;obtain⟨a3,h⟩:=h;replace h:=ed h;obtain⟨a4,h⟩:=h;replace h:=ed h;obtain⟨a5,h⟩:=h;replace h:=ed h;obtain⟨a6,h⟩:=h;replace h:=acZ h;obtain⟨a7,h⟩:=h;replace h:=ed h;obtain⟨a8,h⟩:=h;replace h:=ed h;obtain⟨a9,h⟩:=h;rw[fK,zF,GT.i4] at h;have a1:=cq a1;have a2:=cq a2;have a3:=aS a3;have a4:=cq a4;have a5:=cq a5;have a6:=cq a6;have a7:fl≠1:=by intro e;subst e;cases a7
 have a8:=aS a8;have a9:=cq a9
 cases h
 subst a1 a2 a4 a6 a9;obtain⟨i',zv,wk,qY,_,_,_,yu,yU⟩:=wM hz;rw[hi] at wk
 cases wk
 simp only[VR] at hx;obtain⟨G,ad,cap,hh,rfl,JL,qZ⟩:=hx;have hC:C f=H.t.get f:=(WL _ ⟨_,_,hh⟩ hg).trans hg.symm;have pK:C f=some (.row e i.size kR A lo fl cs):=hC.trans hg;rcases qZ with⟨rfl,qZ⟩|⟨_,_,qZ⟩
 case inr=>omega
 rw[a5] at qZ;obtain⟨_,mD,_,O⟩:=hR.obj f _ pK A G hh;have O:=O a3 (bq _);obtain⟨c,fz,U,hroom⟩:=O.row;have WM:news.length=n*i.size:=by rw[yT.len,hl]
 have hnb:A+n≤(A+n)*i.bytes:=ahr _ ah;have hbd:(A+n)*i.bytes≤70368744177664:=a8;have hadd:(A+n)*i.size=A*i.size+n*i.size:=ku _ _ _
 by_cases L:A+n≤cap
 ·have Z:(A+n)*i.size≤cap*i.size:=iH _ L;have nr:∀j,j<news.length→(w.cell? ⟨G.bw,G.off+0+A*i.size+j,none⟩).isSome=true:=by
   intro j hj;simp only[World.cell?,U];rw[A9 ah];rfl
  have EV:∀j,j<news.length→w.frozen? ⟨G.bw,G.off+0+A*i.size+j,none⟩=false:=by
   intro j hj;rw[show G.off+0+A*i.size+j=G.off+(A*i.size+j) by omega];exact O.AG a7 _ ah ah
  have vE:=run_append_room_src (P:=P) w t tx ty e i ht hi G.bw (G.off+0) A cap yc n news hs L nr EV;obtain⟨s1,s2,s3,s4,s5,s6⟩:=Ci G.bw news (G.off+0+A*i.size) w;obtain⟨c',yS,aia⟩:=s3 c e fz U;have aie:∀q,q<A*i.size→(w.setCells G.bw (G.off+0+A*i.size) news).cell? ⟨G.bw,G.off+q,none⟩=w.cell? ⟨G.bw,G.off+q,none⟩:=by
   intro q hq;exact World.cell?_setCells_out _ _ _ _ _ (fun _ _=>by simp only;omega)
  obtain⟨ρ',k1,k2,k3⟩:=hR.grow (H:=H) (kR:=kR) (w':=w.setCells G.bw (G.off+0+A*i.size) news) (h2:=G)
   (Wr ⟨H.next,H.aQ,wrote f H.aQ H.ws,H.t.set f (.row e i.size kR (Nat.add A n) lo fl (fU new cs A))⟩) (KI _ _ _) pK hh hl hn a3 a7 yT
   (by rw[s1];exact bq _) s4 s5 s6 (fun b _ hb=>s2 b hb) ⟨c,c',e,fz,U,yS,aia⟩ aie (.inl rfl) (by rw[s1];exact hR.gx _ _ _ hh)
   ⟨c',fz,yS,ah⟩ ah aie
   (fun j hj=>by
    rw[show G.off+A*i.size+j=G.off+0+A*i.size+j by omega]
    rw[World.cell?_setCells_in _ _ _ _ nr j ah,←c7])
   (fun fL=>absurd rfl fL)
  refine⟨_,_,vE,ρ',?_,k2,?_⟩
  ·simp only[VR];exact⟨G,_,_,k1,rfl,⟨L,by rw[fG];exact Z⟩,.inl ⟨rfl,ah⟩⟩
  rw[PL hC hg];exact k3
 have L:cap<A+n:=by omega
 have cellAt:∀q,q<A*i.size→∃cv,w.cell? ⟨G.bw,G.off+q,none⟩=some cv∧cv.oneCell'=true:=by
  intro q hq;have hi1:q/i.size<A:=by rw[ahq yu];exact hq
  have hj:q % i.size<i.size:=ye _ yu;obtain⟨l,l1,l2,l3⟩:=O.cell _ hi1;obtain⟨k1,cv,k2,k3⟩:=l3 (q % i.size) _ (c7 (by rw[l2];exact hj));refine⟨cv,?_,PA k3 k1⟩;have:q/i.size*i.size+q % i.size=q:=by rw[qC];exact Nw q i.size
  rwa [kr,this] at k2
 obtain⟨I,OM,pJ⟩:∃I:List Value,I.length=A*i.size∧∀q,q<A*i.size→I[q]?=w.cell? ⟨G.bw,G.off+q,none⟩:=by
  refine⟨(List.range (A*i.size)).map fun q=>(w.cell? ⟨G.bw,G.off+q,none⟩).getD undef,by simp,fun q hq=>?_⟩;obtain⟨cv,k1,_⟩:=cellAt q hq;simp[hq,k1]
 have hold:(Builtin.firstCells i.size A (.slice (some ⟨G.bw,G.off+0,none⟩) A cap)).run P w.drew= .ok I.toArray w.drew:=by
  refine run_firstCells_some w.drew i.size A _ A cap I OM fun j u hu=>?_
  rw[Addr.add_lit,qD];show w.cell? _=_;rw[←pJ j (by have:=sY hu;omega)];exact hu
 have vE:=run_append_grow_src (P:=P) w t tx ty e i zv ht hi qY (some ⟨G.bw,G.off+0,none⟩) A cap I hold yc n news hs L ah (growslice_fits L ah);have yV:=grownCap_ge w (A+n) cap e;generalize grownCap w (A+n) cap e=cp at*;generalize ac0:(I++news).toArray++Builtin.zeroCells zv.cells (cp-(A+n))=cells at*;have hcsz:cells.size=cp*i.size:=by
  rw[←ac0,NB,size_zeroCells,yU];simp only[List.size_toArray,fA,OM,WM];rw[←ku,←ku];congr 1;omega
 have ON:∀q,q<(A+n)*i.size→cells[q]?=(I++news)[q]?:=by
  intro q hq;rw[←ac0,NC (by simp[OM,WM];omega)];simp
 have M:∀q,(w.drew.alloc (.cells cells e)).cell? ⟨w.heap.size,q,none⟩=cells[q]?:=by
  intro q;have:(w.drew.alloc (.cells cells e)).heap[w.heap.size]?=some (.cells cells e (0,0)):=by
   show(w.heap.push _)[w.heap.size]?=_;simp
  simp only[World.cell?,this];simp
 have HO:∀b,b<w.heap.size→(w.drew.alloc (.cells cells e)).heap[b]?=w.heap[b]?:=fun b hb=>by
  show(w.heap.push _)[b]?=_;rw[UO,aZ ah]
 have hfz0:∀q,(w.drew.alloc (.cells cells e)).frozen? ⟨w.heap.size,q,none⟩=false:=by
  intro q;have:(w.drew.alloc (.cells cells e)).heap[w.heap.size]?=some (.cells cells e (0,0)):=by
   show(w.heap.push _)[w.heap.size]?=_;simp
  simp only[World.frozen?,this];simp
 have Z:(A+n)*i.size≤cp*i.size:=iH _ yV;obtain⟨ρ',k1,k2,k3⟩:=hR.grow (H:=H) (kR:=kR) (w':=w.drew.alloc (.cells cells e)) (h2:=⟨w.heap.size,0,cells.size,false,false⟩)
  (Wr ⟨H.next,H.aQ,wrote f H.aQ H.ws,H.t.set f (.row e i.size kR (Nat.add A n) lo fl (fU new cs A))⟩) (KI _ _ _) pK hh hl hn a3 a7 yT
  (by show w.heap.size≤(w.heap.push _).size;simp) rfl rfl rfl (fun b hb _=>HO b hb) ⟨c,c,e,fz,U,by rw[HO _ (hR.gx _ _ _ hh)];exact U,rfl⟩
  (fun q _=>cell_of_heap (w:=w) (HO _ (hR.gx _ _ _ hh))) (.inr ⟨bq _,rfl⟩) (by show w.heap.size<(w.heap.push _).size;simp)
  ⟨cells,(0,0),by show(w.heap.push _)[w.heap.size]?=_;simp,by simp⟩ (by simp only;omega)
  (fun q hq=>by
   rw[fG,M,ON q ah,vz ah]
   exact pJ q hq)
  (fun j hj=>by
   rw[fG,M,ON _ ah,A7 ah,OM];congr 1
   omega)
  (fun _=>⟨rfl,fun q=>hfz0 q,fun c1 e1 wi nr=>by
   have h0:(w.heap.push (Obj.cells cells e))[w.heap.size]?=some (.cells c1 e1 wi):=nr;simp at h0
   rw[←h0.2.2]⟩)
 refine⟨_,_,vE,ρ',?_,k2,?_⟩
 ·simp only[VR];exact⟨_,_,_,k1,rfl,⟨by show A+n≤cp;exact yV,by rw[fG];exact Z⟩,.inl ⟨rfl,by simp only;omega⟩⟩
 rw[PL hC hg];exact k3
theorem pre_sound(hR:R ρ C w){t tx ty e:TypeId}{i:TypeInfo}{z:List al}{yc:Value}{n:Nat}{new:List (List al)}{news:List Value}{f g off G cV:Nat}{xc:Value}
  (ht:P.underlying t=some (.slice e)) (hi:P.info? e=some i) (hz:zeroOf P e=some z) (O:new.length=n) (Y:Flat ρ i.size new news) (hs:Src P i.size tx yc n news w)
  (hx:VR ρ (.slice f g off G cV) xc) (WL:∀o,(∃g h,ρ f g=some h)→H.t.get f=some o→C f=some o)
  (h:Rz i.size n new H f g off G cV= .ok v H'):∃cv w',(Builtin.append_ #[t,tx] ty #[xc,yc]).run P w= .ok cv w'∧cP ρ C w H v H' cv w':=by
 replace h:=ed h;obtain⟨a1,h⟩:=h;replace h:=ed h;obtain⟨a2,h⟩:=h;replace h:=ed h;obtain⟨a3,h⟩:=h;replace h:=ed h;obtain⟨a4,h⟩:=h;have a1:=cq a1;have a2:=cq a2;have a3:=cq a3;have a4:G+1≤g:=aS a4;subst a1 a2 a3
 match new,O with
 |[row],_=>
 have h:wr H f g (Nat.mul G i.size) i.size row (.err 32) (fun H=>.ok (.slice f g 0 (Nat.succ G) i.size) H)= .ok v H':=h;obtain⟨H1,hw,h⟩:=AI h
 cases h
 obtain⟨i',zv,Z,_,_,_,_,I,_⟩:=wM hz;rw[hi] at Z
 cases Z
 simp only[VR] at hx;obtain⟨U,ad,cap,hh,rfl,⟨JL,hgc⟩,A⟩:=hx;have yV:g*i.size≤cap*i.size:=by omega
 have L:G+1≤cap:=eZ a4 (Nat.le_of_mul_le_mul_right yV I);rcases A with⟨rfl,A⟩|⟨_,_,A⟩
 case inr=>omega
 have pK:C f=H.t.get f:=by
  obtain⟨_,_,_,_,_,_,hg,_⟩:=hw;exact(WL _ ⟨_,_,hh⟩ hg).trans hg.symm
 obtain⟨hrl,M⟩:=Y.get 0 row rfl;have WM:news.length=i.size:=by have:=Y.len;simpa using this
 have hv:bO ρ row news:=by
  have:∀(l:List al)(vs:List Value),l.length=vs.length→(∀(j:Nat)(y:al),l[j]?=some y→eH y=true∧∃cv,vs[j]?=some cv∧VR ρ y cv)→bO ρ l vs:=by
   intro l
   induction l with
   |nil=>intro vs O _;cases vs with
    |nil=>simp only[bO]
    |cons=>cases O
   |cons y r ih=>
    intro vs O hc
    cases vs with
    |nil=>cases O
    |cons u q=>
     obtain⟨_,cv,h1,h2⟩:=hc 0 y rfl
     cases h1
     simp only[bO];exact⟨u,q,rfl,h2,ih q (by simpa using O) fun j y hy=>by simpa using hc (j+1) y (by simpa using hy)⟩
  exact this row news ah fun j y hy=>by simpa using M j y hy
 have hk:row.all eH=true:=List.all_eq_true.2 fun y hy=>by
  obtain⟨j,hj⟩:=List.mem_iff_getElem?.1 hy;exact(M j y hj).1
 obtain⟨k1,k2,k3,k4⟩:=hR.write hw pK hh I hv hk;have vE:=run_append_room_src (P:=P) w t tx ty e i ht hi U.bw (U.off+0) G cap yc 1 news hs L
  (fun j hj=>by have:=k1 j ah;simpa using this) (fun j hj=>by have:=k2 j ah;simpa using this)
 obtain⟨s1,s2,s3,s4,s5,s6⟩:=Ci U.bw news (U.off+Nat.mul G i.size) w;refine⟨_,_,vE,ρ,?_,?_,?_⟩
 ·simp only[VR];exact⟨U,_,cap,hh,rfl,⟨L,hgc⟩,.inl ⟨rfl,A⟩⟩
 ·obtain⟨_,_,_,_,_,_,_,_,_,_,_,_,rfl⟩:=hw;refine⟨Ho.le_refl _,fun f g h e=>.inl ⟨g,h,e⟩,fun _ _ _ e=>.inl e,fun b hb hf=>?_,by rw[qD];exact Nat.le_of_eq s1.symm,bq _,s4,s5,s6⟩;refine s2 b fun e=>?_
  exact hf f g U hh k3 (KI _ _ _) e.symm
 exact k4
theorem row_sound(M:R ρ C w){t O ty e:TypeId}{i:TypeInfo}{z:List al}{U:Value}{n:Nat}{new:List (List al)}{news:List Value}{f g off L cV:Nat}{Y:Value}
  (Z:P.underlying t=some (.slice e)) (hi:P.info? e=some i) (hz:zeroOf P e=some z) (hb:i.bytes≠0) (hn:0<n) (hl:new.length=n) (A:Flat ρ i.size new news) (hs:Src P i.size O U n news w)
  (hx:VR ρ (.slice f g off L cV) Y) (G:∀o,(∃g h,ρ f g=some h)→H.t.get f=some o→C f=some o)
  (h:Aa e i.size i.bytes n new H f g off L cV= .ok v H'):∃cv w',(Builtin.append_ #[t,O] ty #[Y,U]).run P w= .ok cv w'∧cP ρ C w H v H' cv w':=by
 unfold Aa at h
 cases I:Nat.beq L g with
 |true=>rw[I] at h;exact row0_sound M Z hi hz hb hn hl A hs hx G h
 |false=>rw[I] at h;exact pre_sound M Z hi hz hl A hs hx G h
end
end Go.Ev
