/- Part 5 of rules for walks through the code of a program, and of such walks; what each part proves is said by its theorems. -/
import Derived.Test.YtdaamclhcpjdpaaGreatDoorT4
set_option linter.unusedVariables false
set_option linter.unusedSimpArgs false
noncomputable section
set_option maxRecDepth 100000
set_option maxHeartbeats 4000000
namespace Go.Ev
section
variable{P:Program}{ρ:Ho}{nt:Nat}{E:Env}{a:Act}{C:Nat→Option cV}{w:World}{H H':ay}{v:ak}{o:Oper}
def fw(ρ:Ho)(n0 n1:Nat):Prop:=∀f g,n0≤f→f<n1→ρ f g=none
theorem Y4{x:ak}{l:List ak}(h:cellsOf x=some l):iD x=some l:=by
 cases x<;>simp only[cellsOf,iD,reduceCtorEq] at h⊢<;>exact h
theorem FJ{l:List ak}{vs:Array Value}(A:bQ ρ l vs.toList)(G:l.all eI=true)(j:Nat)(x:ak)(z:l[j]?=some x):eI x=true∧∃cv,vs[j]?=some cv∧VR ρ x cv:=by
 obtain⟨y,I,k⟩:=A.get j x z;exact⟨(List.all_eq_true.1 G) x (qw z),y,by simpa using I,k⟩
theorem adn(G:R ρ C w)(I:fw ρ H.next H'.next){elem es aE:Nat}{l:List ak}{vs:Array Value}(L:0<es)(M:l.length=es)(A:bQ ρ l vs.toList)(O:l.all eI=true)
  (z:(execOp a.eval o).run P w= .ok (.value (.pointer (some ⟨w.heap.size,0,none⟩))) {w with heap:=w.heap.push (.cells vs elem)})
  (h:Bf elem es aE l E H= .ok v H'):en P o a w (cQ ρ C w H v H'):=by
 have h:=CV h
 cases h
 have U:vs.size=es:=by have:=A.length;rw[o6] at this;omega
 obtain⟨ρ',Y,h2,Z⟩:=G.alloc (f:=H.next) (elem:=elem) (es:=es) (aE:=aE) (n:=1) (cs:=.one l) (cells:=vs) (w':={w with heap:=w.heap.push (.cells vs elem)})
  (Wr ⟨H.next+1,H.aQ,H.ws,H.t.set H.next (.row elem es aE 1 1 0 (.one l))⟩) (fun g=>I _ g (bt _) (wB _)) L aq
  (fun i hi=>by
   have:i=0:=by omega
   subst this
   exact⟨l,rfl,M,fun j x hx=>by simpa using FJ A O j x hx⟩) rfl rfl rfl rfl
 refine .inl ⟨_,_,z,ρ',?_,h2,?_⟩
 ·simp only[VR];exact⟨_,Y,rfl⟩
 rw[KA];exact Z
theorem boxz_sound(O:R ρ C w)(U:fw ρ H.next H'.next){t:TypeId}{z:List ak}{i:TypeInfo}(ho:o.op= .alloc t)(A:zeroOf P t=some z)(hi:P.info? t=some i)
  (h:Bf t i.size i.bytes z E H= .ok v H'):en P o a w (cQ ρ C w H v H'):=by
 unfold zeroOf at A;rw[hi] at A;simp only at A
 split at A
 ·rename_i Z I
  split at A
  ·rename_i av L
   split at A
   ·rename_i l Y
    split at A
    ·rename_i G
     cases A
     have M:=(KN ρ _ _ L).cells (Y4 Y);refine adn O U G.2 G.1 M.1 M.2 ?_ h;simp[execOp,ho,Instr.alloc,zeroValue,typeInfo,hi,I,newVar,newRow]
    cases A
   cases A
  cases A
 cases A
theorem box_sound(I:AR P ρ nt E a)(L:R ρ C w)(M:fw ρ H.next H'.next){t:TypeId}{x:Operand}{A:aI}{n b:Nat}(ho:o.op= .box t x)(O:ct P x=some A)(U:gI P t=some n)
  (h:IS t n b A E H= .ok v H'):en P o a w (cQ ρ C w H v H'):=by
 replace h:=eg h;obtain⟨u,Y,h⟩:=h;replace h:=gS h;obtain⟨l,Z,h⟩:=h;replace h:=eu h;obtain⟨z,h⟩:=h;rw[oL] at z;have z:=cD z;have G:=(I.bG O Y).cells Z;obtain⟨_,_,_,_,_,ui⟩:=uG U;exact adn L M aq z G.1 G.2 (by simp[execOp,ho,Instr.box,newVar,newRow]) h
theorem YM{t:TypeId}{n:Nat}(I:gI P t=some n){l:List ak}{ad:Addr}(Y:l.length=n)(Z:l.all eI=true)(L:∀j x,l[j]?=some x→∃cv,w.cell? (ad.add j)=some cv∧VR ρ x cv)
  {e:Nat} (h:fN (pX P t) l (.err e) (fun v=>.ok v H)= .ok v H'):H'=H∧∃cv,(loadVar t ad).run P w= .ok cv w∧VR ρ v cv:=by
 obtain⟨vs,O⟩:∃vs:List Value,bQ ρ l vs∧∀j x,vs[j]?=some x→w.cell? (ad.add j)=some x:=by
  clear h Z Y I;have:∀(l:List ak)(k:Nat),(∀j x,l[j]?=some x→∃cv,w.cell? (ad.add (k+j))=some cv∧VR ρ x cv)→∃vs:List Value,bQ ρ l vs∧∀j x,vs[j]?=some x→w.cell? (ad.add (k+j))=some x:=by
   intro l
   induction l with
   |nil=>intro k _;exact⟨[],rfl,fun j x A=>by simp at A⟩
   |cons y r ih=>
    intro k L;obtain⟨cv,G,h2⟩:=L 0 y rfl;obtain⟨vs,h3,h4⟩:=ih (k+1) (fun j x A=>by have:=L (j+1) x (by simpa using A);rwa [show k+(j+1)=k+1+j by omega] at this);refine⟨cv::vs,⟨cv,vs,rfl,h2,h3⟩,fun j x A=>?_⟩
    cases j with
    |zero=>simp at A;subst A;simpa using G
    |succ j=>rw[show k+(j+1)=k+1+j by omega];exact h4 j x (by simpa using A)
  obtain⟨vs,G,h2⟩:=this l 0 (by simpa using L);exact⟨vs,G,by simpa using h2⟩
 obtain⟨M,z⟩:=O;have hlen:vs.length=n:=M.length.trans Y;replace h:=QT h;rcases h with⟨U,h⟩|⟨x,U,A,h⟩
 ·cases h
  refine⟨rfl,.agg vs.toArray,?_,?_⟩
  ·have G:=PM I w;rw[U] at G;have h2:=run_loadCells_list (P:=P) w ad vs z;rw[hlen] at h2;simp[loadVar,G,uC I,h2]
  simp only[VR];exact⟨_,rfl,M,Z⟩
 cases h
 subst A;simp only[bQ] at M;obtain⟨y,t',rfl,hy,rfl⟩:=M;refine⟨rfl,y,?_,hy⟩;have G:=PM I w;rw[U] at G;have h2:w.cell? ad=some y:=by have:=z 0 y rfl;simpa[Addr.add] using this
 simp[loadVar,G,h2]
theorem load_sound(hA:AR P ρ nt E a)(O:R ρ C w){t:TypeId}{x:Operand}{G:aI}{n:Nat}(ho:o.op= .load t x)(I:ct P x=some G)(U:gI P t=some n)
  (hC:∀f o,f∈fS (G.ev E)→(∃g h,ρ f g=some h)→H.t.get f=some o→C f=some o) (h:HI n (pX P t) G E H= .ok v H'):en P o a w (cQ ρ C w H v H'):=by
 replace h:=eg h;obtain⟨u,Y,h⟩:=h;replace h:=Ap h;obtain⟨f,g,off,rfl,h⟩:=h;obtain⟨l,Z,h⟩:=T0 h (by simp);have A:=hA.bG I Y;simp only[VR] at A;obtain⟨hm,hh,A⟩:=A;obtain⟨_,_,_,_,_,ui⟩:=uG U;have L:C f=H.t.get f:=by
  obtain⟨_,_,_,_,_,_,_,_,hg,_⟩:=Z;exact(hC f _ (by rw[Y];simp[fS]) ⟨_,_,hh⟩ hg).trans hg.symm
 obtain⟨hlen,hk,hc⟩:=O.rd Z L hh aq;obtain⟨rfl,cv,z,M⟩:=YM (P:=P) (ρ:=ρ) (w:=w) (ad:=⟨hm.bz,hm.off+off,none⟩) U hlen hk (fun j x I=>by rw[Addr.add_lit];exact hc j x I) h;exact eX (by simp[execOp,ho,A,Instr.loadAt,Instr.sureAddr,z]) O M
theorem Yu{l new:List ak}{r n:Nat}(z:r+n≤l.length)(A:new.length=n):(eE l r new).length=l.length:=by
 unfold eE;simp;omega
theorem Y5{l new:List ak}{r n:Nat}(L:r+n≤l.length)(z:new.length=n)(j:Nat):(eE l r new)[j]?=if r≤j∧j<r+n then new[j-r]?else l[j]?:=by
 unfold eE;have A:(l.take r).length=r:=by simp;omega
 by_cases G:j<r
 ·rw[tB aq,IH,bj G,aZ aq]
 rw[vH aq,A]
 by_cases I:j<r+n
 ·rw[tB aq,bj aq]
 rw[vH aq,II,aZ aq,z];congr 1;omega
theorem R.write(U:R ρ C w){f g off n:Nat}{new:List ak}{nv:List Value}(hw:air H f g off n new H')(hC:C f=H.t.get f){h:Hm}(hh:ρ f g=some h)(hn:0<n)
  (hv:bQ ρ new nv) (hk:new.all eI=true):
  (∀j,j<n→(w.cell? ⟨h.bz,h.off+off+j,none⟩).isSome=true)∧(∀j,j<n→w.frozen? ⟨h.bz,h.off+off+j,none⟩=false)∧h.ro=false∧
  R ρ (ep C H H') (w.setCells h.bz (h.off+off) nv):=by
 obtain⟨elem,es,aE,lo,cs,x,hg,h6,h3,h4,Z,hx,rfl⟩:=hw;have hobj:=U.obj f _ (hC.trans hg) g h hh;obtain⟨he,mG,_,A⟩:=hobj;have A:=A h6 (bt _);have ait:off/es*es+off % es=off:=by rw[qu];exact NH off es
 generalize hq:off/es=q at*;generalize hr:off % es=r at*;have L:h.ro=false:=by
  cases hr:h.ro
  ·rfl
  exact absurd (mG hr) (by simp)
 have oy:nv.length=n:=hv.length.trans Z;have hqg:(q+1)*es≤g*es:=iH es h4;have hqe:(q+1)*es=q*es+es:=by rw[kI,BF]
 have VA:=A.fits;obtain⟨y,hy,hyl,hyc⟩:=A.cell q h4;have hxy:y=x:=by
  have:some y=some x:=hy.symm.trans hx
  cases this
  rfl
 subst hxy;have M:∀j,j<n→(w.cell? ⟨h.bz,h.off+off+j,none⟩).isSome=true:=by
  intro j hj;have pA:r+j<y.length:=by omega
  obtain⟨_,cv,sb,_⟩:=hyc (r+j) (y[r+j]) (dm pA);rw[show h.off+off+j=h.off+q*es+(r+j) by omega,sb];rfl
 have hfrz:∀j,j<n→w.frozen? ⟨h.bz,h.off+off+j,none⟩=false:=by
  intro j hj;rw[kH];exact A.DQ rfl (off+j) aq
 obtain⟨s1,s2,s3,_,_,_⟩:=CM h.bz nv (h.off+off) w;refine⟨M,hfrz,L,⟨fun f' o' G g' h' I=>?_,U.my,fun f' g' h' I=>by rw[s1];exact U.gE f' g' h' I,U.uniq,fun f' g' x hx a b=>(U.db f' g' x hx a b).gg (cell_of_heap (w:=w) (s2 _ fun e=>?_))⟩⟩
 rotate_left
 ·by_cases hf:f'=f
  ·subst hf;have:=(U.db _ _ _ hx a b).1 _ _ hh;rw[L] at this;cases this
  have:=(U.my _ _ _ _ _ _ hx hh hf e).2;rw[L] at this;cases this
 have BO:∀z,(if n=es then new else eE y r new)=z→z.length=es∧∀j,z[j]?=if r≤j∧j<r+n then new[j-r]?else y[j]?:=by
  intro z hz;have JP:(if n=es then new else eE y r new)=eE y r new:=by
   split
   ·rename_i e;have W9:r=0:=by omega
    subst W9;unfold eE;rw[NI,IM,ahI aq,NJ]
   rfl
  rw[JP] at hz;subst hz;exact⟨(Yu aq Z).trans hyl,Y5 aq Z⟩
 obtain⟨Cr,hzg⟩:=BO _ rfl;generalize (if n=es then new else eE y r new)=z at*
 by_cases hf:f'=f
 ·subst hf;have pB:o'= .row elem es aE g g 0 (cs.set q z):=by
   have h0:(H.t.set f' (cV.row elem es aE g g 0 (cs.set q z))).get f'=some (.row elem es aE g g 0 (cs.set q z)):=by rw[GT.dn,bj rfl]
   unfold ep at G;simp only at G;rw[aZ aq,h0] at G
   split at G
   ·rename_i e;rw[hC,←e] at G
    cases G
    rfl
   cases G
   rfl
  subst pB;have O:=U.obj f' _ (hC.trans hg) g' h' I;refine⟨he,O.2.1,O.2.2.1,fun a1 a2=>?_⟩;have JQ:g'=g:=by omega
  subst JQ;have hhh:h'=h:=by rw[hh] at I;cases I;rfl
  subst hhh;obtain⟨c,fz,hb,hbs⟩:=A.row;obtain⟨c',zB,aiu⟩:=s3 c elem fz hb;refine⟨⟨c',fz,zB,aq⟩,VA,fun i hi=>?_,fun e i hi=>?_,fun e i hi sd=>?_,A.tT,fun e c1 t1 wF oz=>by rw[zB] at oz;cases oz;exact A.Cp e _ _ _ hb⟩
  ·rw[RT.dn]
   by_cases Xa:i=q
   ·subst Xa;rw[bj rfl];refine⟨z,rfl,Cr,fun j u Y=>?_⟩;rw[hzg] at Y
    split at Y
    ·rename_i hj;obtain⟨cv,sb,Xb⟩:=hv.get _ _ Y;refine⟨(List.all_eq_true.1 hk) u (qw Y),cv,?_,Xb⟩;have JR:j-r<nv.length:=by omega
     have:=World.cell?_setCells_in h'.bz nv (h'.off+off) w (by rw[oy];exact M) (j-r) JR;rw[show h'.off+i*es+j=h'.off+off+(j-r) by omega,this,←dm JR];exact sb
    rename_i hj;obtain⟨k1,cv,k2,k3⟩:=hyc j u Y;refine⟨k1,cv,?_,k3⟩;rw[World.cell?_setCells_out _ _ _ _ _ (fun _ _=>by simp only;omega)];exact k2
   rw[aZ Xa];obtain⟨l,l1,l2,l3⟩:=A.cell i hi;refine⟨l,l1,l2,fun j u Y=>?_⟩;obtain⟨k1,cv,k2,k3⟩:=l3 j u Y;refine⟨k1,cv,?_,k3⟩;have hjes:j<es:=by
    rw[←l2];rcases Nat.lt_or_ge j l.length with h|h
    ·exact h
    rw[yz h] at Y;cases Y
   rw[World.cell?_setCells_out _ _ _ _ _ (fun _ _=>?_)]
   ·exact k2
   simp only;rcases Nat.lt_or_gt_of_ne Xa with pA|OX
   ·left;have:=iH es (show i+1≤q from pA);rw[kI,BF] at this;omega
   right;have:=iH es (show q+1≤i from OX);omega
  ·rw[World.frozen?_setCells];exact A.DQ e i hi
  rw[World.frozen?_setCells];exact A.Bg e i hi sd
 have pB:C f'=some o':=by
  have h0:(H.t.set f (cV.row elem es aE g g 0 (cs.set q z))).get f'=H.t.get f':=by rw[GT.dn,aZ hf]
  unfold ep at G;simp only at G;rw[aZ aq,bj h0] at G;exact G
 refine(U.obj f' o' pB g' h' I).gg (Ho.le_refl _) (s2 _ fun e=>?_);have:=U.my _ _ _ _ _ _ I hh hf e;rw[L] at this;exact absurd this.2 (by simp)
theorem run_storeVar{t:TypeId}{n:Nat}(A:gI P t=some n){b base:Nat}{u:Value}(z:u.cells.size=n)(G:∀x∈u.cells.toList,x.oneCell'=true)
  (I:∀j,j<n→(w.cell? ⟨b,base+j,none⟩).isSome=true) (L:∀j,j<n→w.frozen? ⟨b,base+j,none⟩=false):
  (storeVar t ⟨b,base,none⟩ u).run P w= .ok () (w.setCells b base u.cells.toList):=by
 have hlen:u.cells.toList.length=n:=by rw[o6];exact z
 have:=run_storeCells_cells (P:=P) b base u.cells.toList 0 w (by rw[hlen];simpa using I) (by rw[hlen];simpa using L) G;simp only[qv] at this;simp[storeVar,uC A,z,this]
theorem PO{x:ak}{y:Value}(h:VR ρ x y)(z:eI x=true):y.oneCell'=true:=by
 have:=h.noAgg z
 cases y<;>first|rfl|(exact absurd rfl (this.1 _))|(exact absurd rfl (this.2 _))
theorem bQ.Qn:∀{l:List ak}{vs:List Value},bQ ρ l vs→l.all eI=true→∀x∈vs,x.oneCell'=true
 |[],vs,h,_,x,z=>by simp only[bQ] at h;subst h;cases z
 |a::r,vs,h,A,x,z=>by
  simp only[bQ] at h;obtain⟨v,t,rfl,G,h2⟩:=h;simp only[IN,cU] at A
  cases z with
  |head=>exact PO G A.1
  |tail _ z=>exact bQ.Qn h2 A.2 x z
theorem store_sound(hA:AR P ρ nt E a)(hR:R ρ C w){t:TypeId}{x z:Operand}{O z':aI}{n:Nat}(ho:o.op= .store t x z)(hx:ct P x=some O)(hz:ct P z=some z')(hn:gI P t=some n)
  (hC:∀f o,f∈fS (O.ev E)→(∃g h,ρ f g=some h)→H.t.get f=some o→C f=some o) (h:GD n O z' E H= .ok v H'):en P o a w (cQ ρ C w H v H'):=by
 replace h:=eg h;obtain⟨u,hu,h⟩:=h;replace h:=Ap h;obtain⟨f,g,off,rfl,h⟩:=h;replace h:=eg h;obtain⟨u2,U,h⟩:=h;replace h:=gS h;obtain⟨l,hl,h⟩:=h;obtain⟨H1,L,h⟩:=Bj h
 cases h
 have M:=hA.bG hx hu;have h2:=hA.bG hz U;simp only[VR] at M;obtain⟨A,Y,M⟩:=M;obtain⟨_,_,_,_,_,ui⟩:=uG hn;have G:=h2.cells hl;have Xc:l.length=n:=by obtain⟨_,_,_,_,_,_,_,_,_,_,Z,_⟩:=L;exact Z
 have hvl:(a.eval z).cells.size=n:=by have:=G.1.length;rw[o6] at this;omega
 have pC:C f=H.t.get f:=by
  obtain⟨_,_,_,_,_,_,hg,_⟩:=L;exact(hC f _ (by rw[hu];simp[fS]) ⟨_,_,Y⟩ hg).trans hg.symm
 obtain⟨k1,k2,k3,k4⟩:=hR.write L pC Y aq G.1 G.2;have I:=run_storeVar (P:=P) (w:=w) hn (b:=A.bz) (base:=A.off+off) hvl (G.1.Qn G.2) k1 k2;obtain⟨s1,s2,s3,s4,s5,s6⟩:=CM A.bz (a.eval z).cells.toList (A.off+off) w;refine .inr (.inl ⟨w.setCells A.bz (A.off+off) (a.eval z).cells.toList,?_,ρ,by simp only[VR],?_,k4⟩)
 ·simp[execOp,ho,M,Instr.storeAt,Instr.sureAddr,I]
 obtain⟨_,_,_,_,_,_,_,_,_,_,_,_,rfl⟩:=L;refine⟨Ho.le_refl _,fun f g h e=>.inl ⟨g,h,e⟩,fun _ _ _ e=>.inl e,fun b hb hf=>?_,by rw[s1];exact bt _,bt _,s4,s5,s6⟩;refine s2 b fun e=>?_
 refine hf f g A Y k3 ?_ e.symm;unfold Wr;simp only[Ah]
 by_cases pA:f<H.aQ
 ·exact .inl (.inr ⟨trivial,pA⟩)
 exact .inr aq
end
section
variable{P:Program}{ρ:Ho}{nt:Nat}{E:Env}{a:Act}{C:Nat→Option cV}{w:World}{H H':ay}{v:ak}{o:Oper}
theorem KO:∀{n:Nat}{H:ay}{f g es off:Nat}{l:List (List ak)},elems H f g es n off=some l→l.length=n∧∀i x,l[i]?=some x→Vx H f g (off+i*es) es x
 |0,H,f,g,es,off,l,h=>by cases h;exact⟨rfl,fun i x z=>by simp at z⟩
 |n+1,H,f,g,es,off,l,h=>by
  have h:rd H f g off es none (fun l=>ob (elems H f g es n (off+es)) none fun r=>some (l::r))=some l:=h;obtain⟨x,z,h⟩:=T0 h (by simp);obtain⟨r,G,h⟩:=Dm h
  cases h
  obtain⟨I,h2⟩:=KO G;refine⟨by simp[I],fun i y A=>?_⟩
  cases i with
  |zero=>simp at A;subst A;simpa using z
  |succ i=>have:=h2 i y (by simpa using A);rwa [show off+es+i*es=off+(i+1)*es by rw[kI];omega] at this
theorem sG:∀(l:List (List ak))(t:RT)(i k:Nat),(gb l t i).get k=if i≤k∧k<i+l.length then l[k-i]?else t.get k
 |[],t,i,k=>by
  show t.get k=_;rw[aZ (by simp)]
 |x::r,t,i,k=>by
  have step:gb (x::r) t i=gb r (t.set i x) (i+1):=rfl;rw[step,sG r,RT.dn];simp only[gy]
  by_cases h:k=i
  ·subst h;rw[aZ aq,bj rfl,bj aq];simp
  rw[aZ h]
  by_cases h2:i+1≤k∧k<i+1+r.length
  ·rw[bj h2,bj aq];rw[show k-i=(k-(i+1))+1 by omega,NK]
  rw[aZ h2,aZ aq]
structure Flat(ρ:Ho)(es:Nat)(l:List (List ak))(news:List Value):Prop where
 len:news.length=l.length*es
 one:∀u∈news,u.oneCell'=true
 get:∀i x,l[i]?=some x→x.length=es∧∀j y,x[j]?=some y→eI y=true∧∃cv,news[i*es+j]?=some cv∧VR ρ y cv
theorem sH{α:Type}{l:List α}{i:Nat}{x:α}(h:l[i]?=some x):i<l.length:=by
 rcases Nat.lt_or_ge i l.length with h'|h'
 ·exact h'
 rw[yz h'] at h;cases h
theorem Flat.of_elems(hR:R ρ C w){f g es off n:Nat}{l:List (List ak)}(hl:elems H f g es n off=some l)(hC:∀o,H.t.get f=some o→C f=some o){h:Hm}(hh:ρ f g=some h)(Y:0<es):
  l.length=n∧∃news,Flat ρ es l news∧∀j u,news[j]?=some u→w.cell? ⟨h.bz,h.off+off+j,none⟩=some u:=by
 obtain⟨hlen,z⟩:=KO hl;refine⟨hlen,(List.range (l.length*es)).map fun q=>(w.cell? ⟨h.bz,h.off+off+q,none⟩).getD undef,?_⟩;have key:∀i x,l[i]?=some x→x.length=es∧∀j y,x[j]?=some y→eI y=true∧∃cv,w.cell? ⟨h.bz,h.off+off+(i*es+j),none⟩=some cv∧VR ρ y cv:=by
  intro i x G;have Z:C f=H.t.get f:=by
   obtain⟨_,_,_,_,_,_,_,_,hg,_⟩:=z i x G;exact(hC _ hg).trans hg.symm
  obtain⟨I,h2,h3⟩:=hR.rd (z i x G) Z hh Y;refine⟨I,fun j y L=>⟨(List.all_eq_true.1 h2) y (qw L),?_⟩⟩;obtain⟨cv,sb,hv⟩:=h3 j y L;exact⟨cv,by rw[show h.off+off+(i*es+j)=h.off+(off+i*es)+j by omega];exact sb,hv⟩
 have cellAt:∀q,q<l.length*es→∃cv,w.cell? ⟨h.bz,h.off+off+q,none⟩=some cv∧cv.oneCell'=true:=by
  intro q hq;have hi:q/es<l.length:=by
   rw[ahJ Y];exact hq
  have M:q % es<es:=BD _ Y;obtain⟨I,h2⟩:=key (q/es) _ (dm hi);obtain⟨A,cv,O,k3⟩:=h2 (q % es) _ (dm (by rw[I];exact M));refine⟨cv,?_,PO k3 A⟩;have:q/es*es+q % es=q:=by rw[qu];exact NH q es
  rwa [this] at O
 refine⟨⟨by simp,fun u U=>?_,fun i x G=>?_⟩,fun j u U=>?_⟩
 ·obtain⟨q,hq,rfl⟩:=List.mem_map.1 U;obtain⟨cv,A,O⟩:=cellAt q (List.mem_range.1 hq);rw[A];exact O
 ·obtain⟨I,h2⟩:=key i x G;refine⟨I,fun j y L=>?_⟩;obtain⟨A,cv,O,k3⟩:=h2 j y L;refine⟨A,cv,?_,k3⟩;have pA:i*es+j<l.length*es:=by
   have h4:=sH G;have h5:=sH L;have:=iH es (show i+1≤l.length from h4);rw[kI,BF] at this;omega
  simp[pA,O]
 have M:=sH U;simp at M;obtain⟨cv,A,_⟩:=cellAt j M;simp[M,A] at U;rw[A,U]
theorem R.grow(U:R ρ C w){f m k elem es aE kT lo fl:Nat}{cs:RT}{new:List (List ak)}{news:List Value}(W:Nat→Prop)(hWf:W f){w':World}{h h2:Hm}
  (hC:C f=some (.row elem es aE m lo fl cs)) (hh:ρ f m=some h) (hk:new.length=k) (hk0:0<k) (E9:lo≤m) (zD:fl≠1) (hF:Flat ρ es new news)
  (kO:w.heap.size≤w'.heap.size) (h1:w'.os=w.os) (Xd:w'.tape=w.tape) (h3:w'.output=w.output)
  (M:∀b,b<w.heap.size→b≠h.bz→w'.heap[b]?=w.heap[b]?)
  (Y:∃c c' e fz,w.heap[h.bz]?=some (.cells c e fz)∧w'.heap[h.bz]?=some (.cells c' e fz)∧c'.size=c.size)
  (MK:∀off,off<m*es→w'.cell? ⟨h.bz,h.off+off,none⟩=w.cell? ⟨h.bz,h.off+off,none⟩)
  (G:h2=h∨(w.heap.size≤h2.bz∧h2.ro=false)) (oA:h2.bz<w'.heap.size)
  (NZ:∃c fz,w'.heap[h2.bz]?=some (.cells c elem fz)∧h2.off+h2.room≤c.size) (hfits:(m+k)*es≤h2.room)
  (hold:∀off,off<m*es→w'.cell? ⟨h2.bz,h2.off+off,none⟩=w.cell? ⟨h.bz,h.off+off,none⟩)
  (BO:∀j,j<k*es→w'.cell? ⟨h2.bz,h2.off+m*es+j,none⟩=news[j]?)
  (wE:h2≠h→h2.off=0∧(∀i,w'.frozen? ⟨h2.bz,i,none⟩=false)∧∀c e fz,w'.heap[h2.bz]?=some (.cells c e fz)→fz.1=fz.2):
  ∃ρ',ρ' f (m+k)=some h2∧Ext W H.next H.next ρ ρ' w w'∧R ρ' (fun x=>if x=f then some (.row elem es kT (m+k) lo fl (gb new cs m)) else C x) w':=by
 obtain⟨he,mG,_,A⟩:=U.obj f _ hC m h hh;have A:=A E9 (bt _);have O:h.ro=false:=by
  cases hr:h.ro
  ·rfl
  exact absurd (mG hr) zD
 have aiv:h2.ro=false:=by
  rcases G with rfl|⟨_,e⟩
  ·exact O
  exact e
 have hnone:∀x,ρ f (m+k)=some x→x=h2:=fun x z=>by
  obtain⟨_,_,hle,_⟩:=U.obj f _ hC (m+k) x z;omega
 have hle:ρ.le (ρ.add f (m+k) h2):=Ho.adl hnone;have aiw:∀f' g' x,ρ f' g'=some x→f'≠f→w'.heap[x.bz]?=w.heap[x.bz]?:=by
  intro f' g' x z I;refine M _ (U.gE _ _ _ z) fun e=>?_
  have:=U.my _ _ _ _ _ _ z hh I e;rw[O] at this;exact absurd this.2 (by simp)
 have aix:∀i,w'.frozen? ⟨h.bz,i,none⟩=w.frozen? ⟨h.bz,i,none⟩:=by
  intro i;obtain⟨c,c',e,fz,k1,k2,_⟩:=Y;simp only[World.frozen?,k1,k2]
 refine⟨_,Ho.add_same _ _ _ _,⟨hle,?_,?_,?_,kO,bt _,h1,Xd,h3⟩,⟨?_,?_,?_,?_,?_⟩⟩
 ·intro f' g' x z;rcases Ho.ja z with⟨rfl,_,_⟩|z
  ·exact .inl ⟨m,h,hh⟩
  exact .inl ⟨g',x,z⟩
 ·intro f' g' x z;rcases Ho.ja z with⟨rfl,_,rfl⟩|z
  ·rcases G with rfl|⟨a1,a2⟩
   ·exact .inr (.inr ⟨m,x,hh,rfl,rfl⟩)
   exact .inr (.inl ⟨a1,a2⟩)
  exact .inl z
 ·intro b hb hf;exact M b hb fun e=>hf f m h hh O hWf e.symm
 ·intro f' o OY g x z;have Fb:(if f'=f then some (cV.row elem es kT (m+k) lo fl (gb new cs m)) else C f')=some o:=OY;clear OY
  by_cases e:f'=f
  ·rw[bj e] at Fb;subst e
   cases Fb
   rcases Ho.ja z with⟨_,rfl,rfl⟩|z
   ·refine⟨he,(fun e=>by rw[aiv] at e;cases e),bt _,fun _ _=>⟨NZ,hfits,fun i hi=>?_,fun e i hi=>?_,fun e i hi sd=>?_,fun e=>(Vq (x=h)).elim (fun L=>L▸A.tT e) (fun L=>(wE L).1),fun e=>(Vq (x=h)).elim (fun L c1 t1 wF Z=>by
     obtain⟨c,c',t2,fz,q1,q2,_⟩:=Y;rw[L,q2] at Z
     cases Z
     have:=iH es (show m≤m+k by omega)
     exact(A.Cp e _ _ _ q1).imp_right (fun g=>by omega)) (fun L c1 t1 wF Z=>.inl ((wE L).2.2 _ _ _ Z))⟩⟩
    ·rw[sG]
     by_cases him:i<m
     ·rw[aZ aq];obtain⟨l,l1,l2,l3⟩:=A.cell i him;refine⟨l,l1,l2,fun j u hu=>?_⟩;obtain⟨k1,cv,k2,k3⟩:=l3 j u hu;refine⟨k1,cv,?_,k3.mono hle⟩;have hj:=sH hu;have:=iH es (show i+1≤m from him);rw[kI,BF] at this;rw[kH,hold (i*es+j) aq,←kH];exact k2
     rw[bj aq];have hik:i-m<new.length:=by omega
     obtain⟨l1,l2⟩:=hF.get (i-m) _ (dm hik);refine⟨_,dm hik,l1,fun j u hu=>?_⟩;obtain⟨k1,cv,k2,k3⟩:=l2 j u hu;refine⟨k1,cv,?_,k3.mono hle⟩;have hj:=sH hu;have hjj:=sH k2;rw[hF.len,hk] at hjj;have e1:i*es=m*es+(i-m)*es:=by rw[←kI];congr 1;omega
     rw[show x.off+i*es+j=x.off+m*es+((i-m)*es+j) by omega,BO _ hjj];exact k2
    ·by_cases JS:x=h
     ·subst JS;rw[aix];exact A.DQ e i hi
     exact(wE JS).2.1 _
    by_cases JS:x=h
    ·subst JS;rw[aix];refine A.Bg e i ?_ sd;have:=iH es (show m≤m+k by omega);omega
    exact(wE JS).2.1 _
   obtain⟨_,r1,r2,r3⟩:=U.obj f' _ hC g x z;refine⟨he,r1,aq,fun a1 _=>?_⟩;have r3:=r3 a1 r2;have HX:(∃c c' e fz,w.heap[x.bz]?=some (.cells c e fz)∧w'.heap[x.bz]?=some (.cells c' e fz)∧c'.size=c.size)∧∀off,off<m*es→w'.cell? ⟨x.bz,x.off+off,none⟩=w.cell? ⟨x.bz,x.off+off,none⟩:=by
    by_cases hb:x.bz=h.bz
    ·have ho:=U.uniq _ _ _ _ _ z hh hb;rw[hb,ho];exact⟨Y,MK⟩
    have uj:=M _ (U.gE _ _ _ z) hb;obtain⟨c,fz,hc,_⟩:=r3.row;exact⟨⟨c,c,elem,fz,hc,by rw[uj];exact hc,rfl⟩,fun off _=>cell_of_heap (w:=w) uj⟩
   obtain⟨⟨c,c',e0,fz,q1,q2,q3⟩,q4⟩:=HX;have hfx:∀i,w'.frozen? ⟨x.bz,i,none⟩=w.frozen? ⟨x.bz,i,none⟩:=fun i=>by simp only[World.frozen?,q1,q2]
   obtain⟨c2,fz2,p1,p2⟩:=r3.row;rw[q1] at p1
   cases p1
   refine⟨⟨c',fz,q2,aq⟩,r3.fits,fun i hi=>?_,fun e i hi=>?_,fun e i hi sd=>?_,r3.tT,fun e c1 t1 wF Z=>by
    rw[q2] at Z
    cases Z
    have:=iH es (show m≤m+k by omega)
    exact(r3.Cp e _ _ _ q1).imp_right (fun g=>by omega)⟩
   ·rw[sG,aZ aq];obtain⟨l,l1,l2,l3⟩:=r3.cell i hi;refine⟨l,l1,l2,fun j u hu=>?_⟩;obtain⟨k1,cv,k2,k3⟩:=l3 j u hu;refine⟨k1,cv,?_,k3.mono hle⟩;have hj:=sH hu;have:=iH es (show i+1≤m by omega);rw[kI,BF] at this;rw[kH,q4 (i*es+j) aq,←kH];exact k2
   ·rw[hfx];exact r3.DQ e i hi
   rw[hfx];refine r3.Bg e i ?_ sd;have:=iH es (show m≤m+k by omega);omega
  rw[aZ e] at Fb;rcases Ho.ja z with⟨e',_,_⟩|z
  ·exact absurd e' e
  exact(U.obj f' o Fb g x z).gg hle (aiw _ _ _ z e)
 ·intro f1 g1 x1 f2 g2 x2 e1 L I hb;have c1:=Ho.ja e1;have c2:=Ho.ja L;clear e1 L;have half:∀f' g' x,ρ f' g'=some x→f'≠f→x.bz≠h2.bz:=by
   intro f' g' x z I e;rcases G with rfl|⟨a1,_⟩
   ·have:=U.my _ _ _ _ _ _ z hh I e;rw[O] at this;exact absurd this.2 (by simp)
   have:=U.gE _ _ _ z;omega
  rcases c1 with⟨e,_,rfl⟩|e1<;>rcases c2 with⟨e',_,rfl⟩|L
  ·exact absurd (e.trans e'.symm) I
  ·exact absurd hb.symm (half _ _ _ L (fun e3=>I (e.trans e3.symm)))
  ·exact absurd hb (half _ _ _ e1 (fun e3=>I (e3.trans e'.symm)))
  exact U.my _ _ _ _ _ _ e1 L I hb
 ·intro f' g' x z;rcases Ho.ja z with⟨_,_,rfl⟩|z
  ·exact oA
  have:=U.gE _ _ _ z;omega
 ·intro f' g1 x1 g2 x2 e1 L hb;have c1:=Ho.ja e1;have c2:=Ho.ja L;clear e1 L;have half:∀g' x,ρ f g'=some x→x.bz=h2.bz→x.off=h2.off:=by
   intro g' x z e;rcases G with rfl|⟨a1,_⟩
   ·exact U.uniq _ _ _ _ _ z hh e
   have:=U.gE _ _ _ z;omega
  rcases c1 with⟨e,_,rfl⟩|e1<;>rcases c2 with⟨e',_,rfl⟩|L
  ·rfl
  ·subst e;exact(half _ _ L hb.symm).symm
  ·subst e';exact half _ _ e1 hb
  exact U.uniq _ _ _ _ _ e1 L hb
 intro f' g' x z mG W8;rcases Ho.ja z with⟨_,_,rfl⟩|hx1
 ·rw[aiv] at mG;cases mG
 have k:=U.db _ _ _ hx1 mG W8;have I:f'≠f:=fun e=>by
  subst e;have:=k.1 _ _ hh;rw[O] at this;cases this
 refine E8.gg ⟨fun g2 x2 L=>?_,k.2⟩ (cell_of_heap (w:=w) (aiw _ _ _ hx1 I));rcases Ho.ja L with⟨e3,_,_⟩|L
 ·exact absurd e3 I
 exact k.1 _ _ L
end
section
variable{P:Program}{ρ:Ho}{nt:Nat}{E:Env}{a:Act}{C:Nat→Option cV}{w:World}{H H':ay}{v:ak}{o:Oper}
theorem wX{t:TypeId}{z:List ak}(A:zeroOf P t=some z):∃i G,P.info? t=some i∧i.zero=some G∧(∀ρ,bQ ρ z G.cells.toList)∧z.all eI=true∧z.length=i.size∧0<i.size∧G.cells.size=i.size:=by
 unfold zeroOf at A
 split at A
 ·rename_i i hi
  split at A
  ·rename_i G L
   split at A
   ·rename_i Y M
    split at A
    ·rename_i l U
     split at A
     ·rename_i I
      cases A
      have O:=fun ρ=>(KN ρ _ _ M).cells (Y4 U)
      refine⟨i,G,hi,L,fun ρ=>(O ρ).1,(O (fun _ _=>none)).2,I.1,I.2,?_⟩;have:=(O (fun _ _=>none)).1.length;rw[o6] at this;omega
     cases A
    cases A
   cases A
  cases A
 cases A
theorem size_zeroCells(z:Array Value)(n:Nat):(Builtin.zeroCells z n).size=n*z.size:=by simp[Builtin.zeroCells]
theorem ado{b:Bool}{k:aC}{n:Nat}(h:aD b (.err n) k= .ok v H'):b=false∧k= .ok v H':=by
 cases b
 ·exact⟨rfl,h⟩
 cases h
theorem nil_sound(hR:R ρ C w)(hF:fw ρ H.next H'.next){t Y ty e:TypeId}{i:TypeInfo}{z:List ak}{Z:Value}{n:Nat}{new:List (List ak)}{news:List Value}
  (ht:P.underlying t=some (.slice e)) (hi:P.info? e=some i) (hz:zeroOf P e=some z) (hb:i.bytes≠0) (hn:0<n) (hl:new.length=n) (G:Flat ρ i.size new news) (hs:Src P i.size Y Z n news w)
  (h:AI e i.size i.bytes n new H= .ok v H'):∃cv w',(Builtin.append_ #[t,Y] ty #[.slice none 0 0,Z]).run P w= .ok cv w'∧cQ ρ C w H v H' cv w':=by
 replace h:=eu h;obtain⟨A,h⟩:=h;rw[Ao] at h;have h:=CV h
 cases h
 have A:=aV A;have A:n*i.bytes≤70368744177664:=A;obtain⟨i',zv,I,qP,_,_,_,L,zE⟩:=wX hz;rw[hi] at I
 cases I
 have hnb:n≤n*i.bytes:=ahK _ aq;have zF:=grownCap_ge w (0+n) 0 e;have M:=run_append_grow_src (P:=P) w t Y ty e i zv ht hi qP none 0 0 [] (run_firstCells_none w.drew i.size 0 0 0) Z n news hs aq aq (growslice_fits aq (by rw[fM];omega));generalize grownCap w (0+n) 0 e=cp at*;have O:news.length=n*i.size:=by rw[G.len,hl]
 obtain⟨ρ',h1,h2,h3⟩:=hR.alloc (f:=H.next) (elem:=e) (es:=i.size) (aE:=i.bytes) (n:=n) (cs:=gb new .emp 0) (cells:=([]++news).toArray++Builtin.zeroCells zv.cells (cp-(0+n)))
  (w':=w.drew.alloc (.cells (([]++news).toArray++Builtin.zeroCells zv.cells (cp-(0+n))) e))
  (Wr ⟨H.next+1,H.aQ,H.ws,H.t.set H.next (.row e i.size i.bytes n n 0 (gb new .emp 0))⟩) (fun g=>hF _ g (bt _) (wB _)) L
  (by rw[NL,size_zeroCells];simp[O])
  (fun k hk=>by
   rw[sG,bj aq];have U:k<new.length:=by omega
   obtain⟨l1,l2⟩:=G.get k _ (dm U);refine⟨_,by rw[IL];exact dm U,l1,fun j x hx=>?_⟩;obtain⟨k1,cv,k2,k3⟩:=l2 j x hx;refine⟨k1,cv,?_,k3⟩;have:=sH k2;rw[NM (by simpa using this)]
   simpa using k2) rfl rfl rfl rfl
 refine⟨_,_,M,ρ',?_,h2,?_⟩
 ·simp only[VR];refine⟨_,_,_,h1,by rw[fM],⟨aq,by rw[fM];exact iH _ aq⟩,.inl ⟨rfl,?_⟩⟩;simp only;rw[NL,size_zeroCells,zE,fM];simp only[IM,List.size_toArray,O];rw[←kI];exact iH _ aq
 rw[KA];exact h3
theorem P1{f:Nat}{o z:cV}(A:C f=H.t.get f)(_ho:H.t.get f=some o):ep C H ⟨H.next,H.aQ,wrote f H.aQ H.ws,H.t.set f z⟩=fun x=>if x=f then some z else C x:=by
 funext x
 unfold ep;simp only;rw[aZ aq,GT.dn]
 by_cases h:x=f
 ·subst h;rw[bj rfl,bj rfl]
  split
  ·rename_i e;rw[A,←e]
  rfl
 rw[aZ h,aZ h,bj rfl]
theorem KP(H:ay)(f:Nat)(t:HT):Wr ⟨H.next,H.aQ,wrote f H.aQ H.ws,t⟩ f:=by
 unfold Wr;simp only[Ah]
 by_cases z:f<H.aQ
 ·exact .inl (.inr ⟨trivial,z⟩)
 exact .inr aq
theorem row0_sound(hR:R ρ C w){t tx ty e:TypeId}{i:TypeInfo}{z:List ak}{yc:Value}{n:Nat}{new:List (List ak)}{news:List Value}{f g off A cY:Nat}{xc:Value}
  (ht:P.underlying t=some (.slice e)) (hi:P.info? e=some i) (hz:zeroOf P e=some z) (hb:i.bytes≠0) (hn:0<n) (hl:new.length=n) (zD:Flat ρ i.size new news) (hs:Src P i.size tx yc n news w)
  (hx:VR ρ (.slice f g off A cY) xc) (Xe:∀o,(∃g h,ρ f g=some h)→H.t.get f=some o→C f=some o)
  (h:QP e i.size i.bytes n new H f g off A cY= .ok v H'):∃cv w',(Builtin.append_ #[t,tx] ty #[xc,yc]).run P w= .ok cv w'∧cQ ρ C w H v H' cv w':=by
 have h:iT (H.t.get f) (aC.err 33) (fun Y VB kT m lo fl cs=>
  aD (Nat.beq off 0) (aD (Nat.beq g m) (aD (Nat.ble lo g) (aD (Nat.beq A m) (aD (Nat.beq cY i.size) (aD (Nat.beq VB i.size) (aD (Nat.beq fl 1) (aC.err 32)
   (aD (Nat.ble (Nat.mul (Nat.add m n) i.bytes) 70368744177664) (aD (Nat.beq e Y)
    (cL (Nat.add m n) fun m'=>vm new cs m fun cs=>H.t.fr f (.row Y VB kT m' lo fl cs) fun t=>
     aC.ok (.slice f m' 0 m' i.size) ⟨H.next,H.aQ,wrote f H.aQ H.ws,t⟩) (aC.err 32)) (aC.err 32))) (aC.err 32)) (aC.err 32)) (aC.err 32)) (aC.err 32)) (aC.err 32)) (aC.err 32))=aC.ok v H':=by
  cases H;exact h
 obtain⟨Y,VB,kT,m,lo,fl,cs,hg,h⟩:=aac h;replace h:=eu h;obtain⟨a1,h⟩:=h;replace h:=eu h;obtain⟨a2,h⟩:=h;replace h:=eu h;obtain⟨a3,h⟩:=h;replace h:=eu h;obtain⟨a4,h⟩:=h;replace h:=eu h;obtain⟨a5,h⟩:=h;replace h:=eu h;obtain⟨a6,h⟩:=h;replace h:=ado h;obtain⟨a7,h⟩:=h;replace h:=eu h;obtain⟨a8,h⟩:=h;replace h:=eu h;obtain⟨a9,h⟩:=h;rw[fQ,Ao,GT.jc] at h;have a1:=cD a1;have a2:=cD a2;have a3:=aV a3;have a4:=cD a4;have a5:=cD a5;have a6:=cD a6;have a7:fl≠1:=by intro e;subst e;cases a7
 have a8:=aV a8;have a9:=cD a9
 cases h
 subst a1 a2 a4 a6 a9;obtain⟨i',zv,wH,qP,_,_,_,yU,zE⟩:=wX hz;rw[hi] at wH
 cases wH
 simp only[VR] at hx;obtain⟨G,ad,cap,hh,rfl,JO,qQ⟩:=hx;have hC:C f=H.t.get f:=(Xe _ ⟨_,_,hh⟩ hg).trans hg.symm;have pC:C f=some (.row e i.size kT A lo fl cs):=hC.trans hg;rcases qQ with⟨rfl,qQ⟩|⟨_,_,qQ⟩
 case inr=>omega
 rw[a5] at qQ;obtain⟨_,mG,_,O⟩:=hR.obj f _ pC A G hh;have O:=O a3 (bt _);obtain⟨c,fz,U,hroom⟩:=O.row;have Xf:news.length=n*i.size:=by rw[zD.len,hl]
 have hnb:A+n≤(A+n)*i.bytes:=ahK _ aq;have hbd:(A+n)*i.bytes≤70368744177664:=a8;have hadd:(A+n)*i.size=A*i.size+n*i.size:=kI _ _ _
 by_cases L:A+n≤cap
 ·have Z:(A+n)*i.size≤cap*i.size:=iH _ L;have oz:∀j,j<news.length→(w.cell? ⟨G.bz,G.off+0+A*i.size+j,none⟩).isSome=true:=by
   intro j hj;simp only[World.cell?,U];rw[BG aq];rfl
  have Fb:∀j,j<news.length→w.frozen? ⟨G.bz,G.off+0+A*i.size+j,none⟩=false:=by
   intro j hj;rw[show G.off+0+A*i.size+j=G.off+(A*i.size+j) by omega];exact O.Bg a7 _ aq aq
  have vM:=run_append_room_src (P:=P) w t tx ty e i ht hi G.bz (G.off+0) A cap yc n news hs L oz Fb;obtain⟨s1,s2,s3,s4,s5,s6⟩:=CM G.bz news (G.off+0+A*i.size) w;obtain⟨c',zB,aiu⟩:=s3 c e fz U;have aiy:∀q,q<A*i.size→(w.setCells G.bz (G.off+0+A*i.size) news).cell? ⟨G.bz,G.off+q,none⟩=w.cell? ⟨G.bz,G.off+q,none⟩:=by
   intro q hq;exact World.cell?_setCells_out _ _ _ _ _ (fun _ _=>by simp only;omega)
  obtain⟨ρ',k1,k2,k3⟩:=hR.grow (H:=H) (kT:=kT) (w':=w.setCells G.bz (G.off+0+A*i.size) news) (h2:=G)
   (Wr ⟨H.next,H.aQ,wrote f H.aQ H.ws,H.t.set f (.row e i.size kT (Nat.add A n) lo fl (gb new cs A))⟩) (KP _ _ _) pC hh hl hn a3 a7 zD
   (by rw[s1];exact bt _) s4 s5 s6 (fun b _ hb=>s2 b hb) ⟨c,c',e,fz,U,zB,aiu⟩ aiy (.inl rfl) (by rw[s1];exact hR.gE _ _ _ hh)
   ⟨c',fz,zB,aq⟩ aq aiy
   (fun j hj=>by
    rw[show G.off+A*i.size+j=G.off+0+A*i.size+j by omega]
    rw[World.cell?_setCells_in _ _ _ _ oz j aq,←dm])
   (fun fO=>absurd rfl fO)
  refine⟨_,_,vM,ρ',?_,k2,?_⟩
  ·simp only[VR];exact⟨G,_,_,k1,rfl,⟨L,by rw[fM];exact Z⟩,.inl ⟨rfl,aq⟩⟩
  rw[P1 hC hg];exact k3
 have L:cap<A+n:=by omega
 have cellAt:∀q,q<A*i.size→∃cv,w.cell? ⟨G.bz,G.off+q,none⟩=some cv∧cv.oneCell'=true:=by
  intro q hq;have hi1:q/i.size<A:=by rw[ahJ yU];exact hq
  have hj:q % i.size<i.size:=BD _ yU;obtain⟨l,l1,l2,l3⟩:=O.cell _ hi1;obtain⟨k1,cv,k2,k3⟩:=l3 (q % i.size) _ (dm (by rw[l2];exact hj));refine⟨cv,?_,PO k3 k1⟩;have:q/i.size*i.size+q % i.size=q:=by rw[qu];exact NH q i.size
  rwa [kH,this] at k2
 obtain⟨I,OZ,pB⟩:∃I:List Value,I.length=A*i.size∧∀q,q<A*i.size→I[q]?=w.cell? ⟨G.bz,G.off+q,none⟩:=by
  refine⟨(List.range (A*i.size)).map fun q=>(w.cell? ⟨G.bz,G.off+q,none⟩).getD undef,by simp,fun q hq=>?_⟩;obtain⟨cv,k1,_⟩:=cellAt q hq;simp[hq,k1]
 have hold:(Builtin.firstCells i.size A (.slice (some ⟨G.bz,G.off+0,none⟩) A cap)).run P w.drew= .ok I.toArray w.drew:=by
  refine run_firstCells_some w.drew i.size A _ A cap I OZ fun j u hu=>?_
  rw[Addr.add_lit,qv];show w.cell? _=_;rw[←pB j (by have:=sH hu;omega)];exact hu
 have vM:=run_append_grow_src (P:=P) w t tx ty e i zv ht hi qP (some ⟨G.bz,G.off+0,none⟩) A cap I hold yc n news hs L aq (growslice_fits L aq);have zF:=grownCap_ge w (A+n) cap e;generalize grownCap w (A+n) cap e=cp at*;generalize adp:(I++news).toArray++Builtin.zeroCells zv.cells (cp-(A+n))=cells at*;have hcsz:cells.size=cp*i.size:=by
  rw[←adp,NL,size_zeroCells,zE];simp only[List.size_toArray,fv,OZ,Xf];rw[←kI,←kI];congr 1;omega
 have O0:∀q,q<(A+n)*i.size→cells[q]?=(I++news)[q]?:=by
  intro q hq;rw[←adp,NM (by simp[OZ,Xf];omega)];simp
 have M:∀q,(w.drew.alloc (.cells cells e)).cell? ⟨w.heap.size,q,none⟩=cells[q]?:=by
  intro q;have:(w.drew.alloc (.cells cells e)).heap[w.heap.size]?=some (.cells cells e (0,0)):=by
   show(w.heap.push _)[w.heap.size]?=_;simp
  simp only[World.cell?,this];simp
 have HX:∀b,b<w.heap.size→(w.drew.alloc (.cells cells e)).heap[b]?=w.heap[b]?:=fun b hb=>by
  show(w.heap.push _)[b]?=_;rw[Vo,aZ aq]
 have hfz0:∀q,(w.drew.alloc (.cells cells e)).frozen? ⟨w.heap.size,q,none⟩=false:=by
  intro q;have:(w.drew.alloc (.cells cells e)).heap[w.heap.size]?=some (.cells cells e (0,0)):=by
   show(w.heap.push _)[w.heap.size]?=_;simp
  simp only[World.frozen?,this];simp
 have Z:(A+n)*i.size≤cp*i.size:=iH _ zF;obtain⟨ρ',k1,k2,k3⟩:=hR.grow (H:=H) (kT:=kT) (w':=w.drew.alloc (.cells cells e)) (h2:=⟨w.heap.size,0,cells.size,false,false⟩)
  (Wr ⟨H.next,H.aQ,wrote f H.aQ H.ws,H.t.set f (.row e i.size kT (Nat.add A n) lo fl (gb new cs A))⟩) (KP _ _ _) pC hh hl hn a3 a7 zD
  (by show w.heap.size≤(w.heap.push _).size;simp) rfl rfl rfl (fun b hb _=>HX b hb) ⟨c,c,e,fz,U,by rw[HX _ (hR.gE _ _ _ hh)];exact U,rfl⟩
  (fun q _=>cell_of_heap (w:=w) (HX _ (hR.gE _ _ _ hh))) (.inr ⟨bt _,rfl⟩) (by show w.heap.size<(w.heap.push _).size;simp)
  ⟨cells,(0,0),by show(w.heap.push _)[w.heap.size]?=_;simp,by simp⟩ (by simp only;omega)
  (fun q hq=>by
   rw[fM,M,O0 q aq,tB aq]
   exact pB q hq)
  (fun j hj=>by
   rw[fM,M,O0 _ aq,vH aq,OZ];congr 1
   omega)
  (fun _=>⟨rfl,fun q=>hfz0 q,fun c1 e1 wF oz=>by
   have h0:(w.heap.push (Obj.cells cells e))[w.heap.size]?=some (.cells c1 e1 wF):=oz;simp at h0
   rw[←h0.2.2]⟩)
 refine⟨_,_,vM,ρ',?_,k2,?_⟩
 ·simp only[VR];exact⟨_,_,_,k1,rfl,⟨by show A+n≤cp;exact zF,by rw[fM];exact Z⟩,.inl ⟨rfl,by simp only;omega⟩⟩
 rw[P1 hC hg];exact k3
theorem pre_sound(hR:R ρ C w){t tx ty e:TypeId}{i:TypeInfo}{z:List ak}{yc:Value}{n:Nat}{new:List (List ak)}{news:List Value}{f g off G cY:Nat}{xc:Value}
  (ht:P.underlying t=some (.slice e)) (hi:P.info? e=some i) (hz:zeroOf P e=some z) (O:new.length=n) (Y:Flat ρ i.size new news) (hs:Src P i.size tx yc n news w)
  (hx:VR ρ (.slice f g off G cY) xc) (Xe:∀o,(∃g h,ρ f g=some h)→H.t.get f=some o→C f=some o)
  (h:RR i.size n new H f g off G cY= .ok v H'):∃cv w',(Builtin.append_ #[t,tx] ty #[xc,yc]).run P w= .ok cv w'∧cQ ρ C w H v H' cv w':=by
 replace h:=eu h;obtain⟨a1,h⟩:=h;replace h:=eu h;obtain⟨a2,h⟩:=h;replace h:=eu h;obtain⟨a3,h⟩:=h;replace h:=eu h;obtain⟨a4,h⟩:=h;have a1:=cD a1;have a2:=cD a2;have a3:=cD a3;have a4:G+1≤g:=aV a4;subst a1 a2 a3
 match new,O with
 |[row],_=>
 have h:wr H f g (Nat.mul G i.size) i.size row (.err 32) (fun H=>.ok (.slice f g 0 (Nat.succ G) i.size) H)= .ok v H':=h;obtain⟨H1,hw,h⟩:=Bj h
 cases h
 obtain⟨i',zv,Z,_,_,_,_,I,_⟩:=wX hz;rw[hi] at Z
 cases Z
 simp only[VR] at hx;obtain⟨U,ad,cap,hh,rfl,⟨JO,hgc⟩,A⟩:=hx;have zF:g*i.size≤cap*i.size:=by omega
 have L:G+1≤cap:=eZ a4 (Nat.le_of_mul_le_mul_right zF I);rcases A with⟨rfl,A⟩|⟨_,_,A⟩
 case inr=>omega
 have pC:C f=H.t.get f:=by
  obtain⟨_,_,_,_,_,_,hg,_⟩:=hw;exact(Xe _ ⟨_,_,hh⟩ hg).trans hg.symm
 obtain⟨hrl,M⟩:=Y.get 0 row rfl;have Xf:news.length=i.size:=by have:=Y.len;simpa using this
 have hv:bQ ρ row news:=by
  have:∀(l:List ak)(vs:List Value),l.length=vs.length→(∀(j:Nat)(y:ak),l[j]?=some y→eI y=true∧∃cv,vs[j]?=some cv∧VR ρ y cv)→bQ ρ l vs:=by
   intro l
   induction l with
   |nil=>intro vs O _;cases vs with
    |nil=>simp only[bQ]
    |cons=>cases O
   |cons y r ih=>
    intro vs O hc
    cases vs with
    |nil=>cases O
    |cons u q=>
     obtain⟨_,cv,h1,h2⟩:=hc 0 y rfl
     cases h1
     simp only[bQ];exact⟨u,q,rfl,h2,ih q (by simpa using O) fun j y hy=>by simpa using hc (j+1) y (by simpa using hy)⟩
  exact this row news aq fun j y hy=>by simpa using M j y hy
 have hk:row.all eI=true:=List.all_eq_true.2 fun y hy=>by
  obtain⟨j,hj⟩:=List.mem_iff_getElem?.1 hy;exact(M j y hj).1
 obtain⟨k1,k2,k3,k4⟩:=hR.write hw pC hh I hv hk;have vM:=run_append_room_src (P:=P) w t tx ty e i ht hi U.bz (U.off+0) G cap yc 1 news hs L
  (fun j hj=>by have:=k1 j aq;simpa using this) (fun j hj=>by have:=k2 j aq;simpa using this)
 obtain⟨s1,s2,s3,s4,s5,s6⟩:=CM U.bz news (U.off+Nat.mul G i.size) w;refine⟨_,_,vM,ρ,?_,?_,?_⟩
 ·simp only[VR];exact⟨U,_,cap,hh,rfl,⟨L,hgc⟩,.inl ⟨rfl,A⟩⟩
 ·obtain⟨_,_,_,_,_,_,_,_,_,_,_,_,rfl⟩:=hw;refine⟨Ho.le_refl _,fun f g h e=>.inl ⟨g,h,e⟩,fun _ _ _ e=>.inl e,fun b hb hf=>?_,by rw[qv];exact Nat.le_of_eq s1.symm,bt _,s4,s5,s6⟩;refine s2 b fun e=>?_
  exact hf f g U hh k3 (KP _ _ _) e.symm
 exact k4
theorem row_sound(M:R ρ C w){t O ty e:TypeId}{i:TypeInfo}{z:List ak}{U:Value}{n:Nat}{new:List (List ak)}{news:List Value}{f g off L cY:Nat}{Y:Value}
  (Z:P.underlying t=some (.slice e)) (hi:P.info? e=some i) (hz:zeroOf P e=some z) (hb:i.bytes≠0) (hn:0<n) (hl:new.length=n) (A:Flat ρ i.size new news) (hs:Src P i.size O U n news w)
  (hx:VR ρ (.slice f g off L cY) Y) (G:∀o,(∃g h,ρ f g=some h)→H.t.get f=some o→C f=some o)
  (h:AJ e i.size i.bytes n new H f g off L cY= .ok v H'):∃cv w',(Builtin.append_ #[t,O] ty #[Y,U]).run P w= .ok cv w'∧cQ ρ C w H v H' cv w':=by
 unfold AJ at h
 cases I:Nat.beq L g with
 |true=>rw[I] at h;exact row0_sound M Z hi hz hb hn hl A hs hx G h
 |false=>rw[I] at h;exact pre_sound M Z hi hz hl A hs hx G h
end
end Go.Ev
