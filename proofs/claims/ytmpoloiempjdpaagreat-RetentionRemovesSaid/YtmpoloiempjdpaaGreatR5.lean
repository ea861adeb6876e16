/- Part 5 of rules for walks through the code of a program, and of such walks; what each part proves is said by its theorems. -/
import Derived.Test.YtmpoloiempjdpaaGreatR4
set_option linter.unusedVariables false
set_option linter.unusedSimpArgs false
noncomputable section
set_option maxRecDepth 100000
set_option maxHeartbeats 4000000
namespace Go.Ev
section
variable{P:Program}{ρ:Ho}{nt:Nat}{E:Env}{a:Act}{C:Nat→Option cV}{w:World}{H H':ax}{v:aj}{o:Oper}
def fC(ρ:Ho)(n0 n1:Nat):Prop:=∀f g,n0≤f→f<n1→ρ f g=none
theorem Zs{x:aj}{l:List aj}(h:cellsOf x=some l):iL x=some l:=by
 cases x<;>simp only[cellsOf,iL,reduceCtorEq] at h⊢<;>exact h
theorem Cj{l:List aj}{vs:Array Value}(A:bO ρ l vs.toList)(G:l.all eM=true)(j:Nat)(x:aj)(z:l[j]?=some x):eM x=true∧∃cv,vs[j]?=some cv∧VR ρ x cv:=by
 obtain⟨y,I,k⟩:=A.get j x z;exact⟨(List.all_eq_true.1 G) x (nJ z),y,by simpa using I,k⟩
theorem adZ(G:R ρ C w)(I:fC ρ H.next H'.next){elem es aD:Nat}{l:List aj}{vs:Array Value}(L:0<es)(M:l.length=es)(A:bO ρ l vs.toList)(O:l.all eM=true)
  (z:(execOp a.eval o).run P w= .ok (.value (.pointer (some ⟨w.heap.size,0,none⟩))) {w with heap:=w.heap.push (.cells vs elem)})
  (h:AK elem es aD l E H= .ok v H'):eF P o a w (cZ ρ C w H v H'):=by
 have h:=Fw h
 cases h
 have U:vs.size=es:=by have:=A.length;rw[qP] at this;omega
 obtain⟨ρ',Y,h2,Z⟩:=G.alloc (f:=H.next) (elem:=elem) (es:=es) (aD:=aD) (n:=1) (cs:=.one l) (cells:=vs) (w':={w with heap:=w.heap.push (.cells vs elem)})
  (Wr ⟨H.next+1,H.aR,H.ws,H.t.set H.next (.row elem es aD 1 1 0 (.one l))⟩) (fun g=>I _ g (bf _) (yX _)) L al
  (fun i hi=>by
   have:i=0:=by omega
   subst this
   exact⟨l,rfl,M,fun j x hx=>by simpa using Cj A O j x hx⟩) rfl rfl rfl rfl
 refine .inl ⟨_,_,z,ρ',?_,h2,?_⟩
 ·simp only[VR];exact⟨_,Y,rfl⟩
 rw[Qg];exact Z
theorem boxz_sound(O:R ρ C w)(U:fC ρ H.next H'.next){t:TypeId}{z:List aj}{i:TypeInfo}(ho:o.op= .alloc t)(A:zeroOf P t=some z)(hi:P.info? t=some i)
  (h:AK t i.size i.bytes z E H= .ok v H'):eF P o a w (cZ ρ C w H v H'):=by
 unfold zeroOf at A;rw[hi] at A;simp only at A
 split at A
 ·rename_i Z I
  split at A
  ·rename_i av L
   split at A
   ·rename_i l Y
    split at A
    ·rename_i G
     cases A
     have M:=(KB ρ _ _ L).cells (Zs Y);refine adZ O U G.2 G.1 M.1 M.2 ?_ h;simp[execOp,ho,Instr.alloc,zeroValue,typeInfo,hi,I,newVar,newRow]
    cases A
   cases A
  cases A
 cases A
theorem box_sound(I:AR P ρ nt E a)(L:R ρ C w)(M:fC ρ H.next H'.next){t:TypeId}{x:Operand}{A:aG}{n b:Nat}(ho:o.op= .box t x)(O:cB P x=some A)(U:gR P t=some n)
  (h:Iw t n b A E H= .ok v H'):eF P o a w (cZ ρ C w H v H'):=by
 replace h:=eG h;obtain⟨u,Y,h⟩:=h;replace h:=iO h;obtain⟨l,Z,h⟩:=h;replace h:=fN h;obtain⟨z,h⟩:=h;rw[pe] at z;have z:=cU z;have G:=(I.bI O Y).cells Z;obtain⟨_,_,_,_,_,uj⟩:=uM U;exact adZ L M al z G.1 G.2 (by simp[execOp,ho,Instr.box,newVar,newRow]) h
theorem Zb{t:TypeId}{n:Nat}(I:gR P t=some n){l:List aj}{ad:Addr}(Y:l.length=n)(Z:l.all eM=true)(L:∀j x,l[j]?=some x→∃cv,w.cell? (ad.add j)=some cv∧VR ρ x cv)
  {e:Nat} (h:fO (qp P t) l (.err e) (fun v=>.ok v H)= .ok v H'):H'=H∧∃cv,(loadVar t ad).run P w= .ok cv w∧VR ρ v cv:=by
 obtain⟨vs,O⟩:∃vs:List Value,bO ρ l vs∧∀j x,vs[j]?=some x→w.cell? (ad.add j)=some x:=by
  clear h Z Y I;have:∀(l:List aj)(k:Nat),(∀j x,l[j]?=some x→∃cv,w.cell? (ad.add (k+j))=some cv∧VR ρ x cv)→∃vs:List Value,bO ρ l vs∧∀j x,vs[j]?=some x→w.cell? (ad.add (k+j))=some x:=by
   intro l
   induction l with
   |nil=>intro k _;exact⟨[],rfl,fun j x A=>by simp at A⟩
   |cons y r ih=>
    intro k L;obtain⟨cv,G,h2⟩:=L 0 y rfl;obtain⟨vs,h3,h4⟩:=ih (k+1) (fun j x A=>by have:=L (j+1) x (by simpa using A);rwa [show k+(j+1)=k+1+j by omega] at this);refine⟨cv::vs,⟨cv,vs,rfl,h2,h3⟩,fun j x A=>?_⟩
    cases j with
    |zero=>simp at A;subst A;simpa using G
    |succ j=>rw[show k+(j+1)=k+1+j by omega];exact h4 j x (by simpa using A)
  obtain⟨vs,G,h2⟩:=this l 0 (by simpa using L);exact⟨vs,G,by simpa using h2⟩
 obtain⟨M,z⟩:=O;have hlen:vs.length=n:=M.length.trans Y;replace h:=Q7 h;rcases h with⟨U,h⟩|⟨x,U,A,h⟩
 ·cases h
  refine⟨rfl,.agg vs.toArray,?_,?_⟩
  ·have G:=P1 I w;rw[U] at G;have h2:=run_loadCells_list (P:=P) w ad vs z;rw[hlen] at h2;simp[loadVar,G,uI I,h2]
  simp only[VR];exact⟨_,rfl,M,Z⟩
 cases h
 subst A;simp only[bO] at M;obtain⟨y,t',rfl,hy,rfl⟩:=M;refine⟨rfl,y,?_,hy⟩;have G:=P1 I w;rw[U] at G;have h2:w.cell? ad=some y:=by have:=z 0 y rfl;simpa[Addr.add] using this
 simp[loadVar,G,h2]
theorem load_sound(hA:AR P ρ nt E a)(O:R ρ C w){t:TypeId}{x:Operand}{G:aG}{n:Nat}(ho:o.op= .load t x)(I:cB P x=some G)(U:gR P t=some n)
  (hC:∀f o,f∈im (G.ev E)→(∃g h,ρ f g=some h)→H.t.get f=some o→C f=some o) (h:Hk n (qp P t) G E H= .ok v H'):eF P o a w (cZ ρ C w H v H'):=by
 replace h:=eG h;obtain⟨u,Y,h⟩:=h;replace h:=Fv h;obtain⟨f,g,off,rfl,h⟩:=h;obtain⟨l,Z,h⟩:=Uf h (by simp);have A:=hA.bI I Y;simp only[VR] at A;obtain⟨hm,hh,A⟩:=A;obtain⟨_,_,_,_,_,uj⟩:=uM U;have L:C f=H.t.get f:=by
  obtain⟨_,_,_,_,_,_,_,_,hg,_⟩:=Z;exact(hC f _ (by rw[Y];simp[im]) ⟨_,_,hh⟩ hg).trans hg.symm
 obtain⟨hlen,hk,hc⟩:=O.rd Z L hh al;obtain⟨rfl,cv,z,M⟩:=Zb (P:=P) (ρ:=ρ) (w:=w) (ad:=⟨hm.bE,hm.off+off,none⟩) U hlen hk (fun j x I=>by rw[Addr.add_lit];exact hc j x I) h;exact fM (by simp[execOp,ho,A,Instr.loadAt,Instr.sureAddr,z]) O M
theorem YV{l new:List aj}{r n:Nat}(z:r+n≤l.length)(A:new.length=n):(ed l r new).length=l.length:=by
 unfold ed;simp;omega
theorem Zt{l new:List aj}{r n:Nat}(L:r+n≤l.length)(z:new.length=n)(j:Nat):(ed l r new)[j]?=if r≤j∧j<r+n then new[j-r]?else l[j]?:=by
 unfold ed;have A:(l.take r).length=r:=by simp;omega
 by_cases G:j<r
 ·rw[sg al,A',bg G,aZ al]
 rw[qR al,A]
 by_cases I:j<r+n
 ·rw[sg al,bg al]
 rw[qR al,Ip,aZ al,z];congr 1;omega
theorem R.write(U:R ρ C w){f g off n:Nat}{new:List aj}{nv:List Value}(hw:ajd H f g off n new H')(hC:C f=H.t.get f){h:Hm}(hh:ρ f g=some h)(hn:0<n)
  (hv:bO ρ new nv) (hk:new.all eM=true):
  (∀j,j<n→(w.cell? ⟨h.bE,h.off+off+j,none⟩).isSome=true)∧(∀j,j<n→w.frozen? ⟨h.bE,h.off+off+j,none⟩=false)∧h.ro=false∧
  R ρ (eg C H H') (w.setCells h.bE (h.off+off) nv):=by
 obtain⟨elem,es,aD,lo,cs,x,hg,h6,h3,h4,Z,hx,rfl⟩:=hw;have hobj:=U.obj f _ (hC.trans hg) g h hh;obtain⟨he,oV,_,A⟩:=hobj;have A:=A h6 (bf _);have hoff:off/es*es+off % es=off:=by rw[qM];exact Nm off es
 generalize hq:off/es=q at*;generalize hr:off % es=r at*;have L:h.ro=false:=by
  cases hr:h.ro
  ·rfl
  exact absurd (oV hr) (by simp)
 have mw:nv.length=n:=hv.length.trans Z;have hqg:(q+1)*es≤g*es:=iS es h4;have hqe:(q+1)*es=q*es+es:=by rw[kW,Bc]
 have hfit:=A.fits;obtain⟨y,hy,hyl,hyc⟩:=A.cell q h4;have hxy:y=x:=by
  have:some y=some x:=hy.symm.trans hx
  cases this
  rfl
 subst hxy;have M:∀j,j<n→(w.cell? ⟨h.bE,h.off+off+j,none⟩).isSome=true:=by
  intro j hj;have lJ:r+j<y.length:=by omega
  obtain⟨_,cv,wD,_⟩:=hyc (r+j) (y[r+j]) (dm lJ);rw[show h.off+off+j=h.off+q*es+(r+j) by omega,wD];rfl
 have hfrz:∀j,j<n→w.frozen? ⟨h.bE,h.off+off+j,none⟩=false:=by
  intro j hj;rw[kU];exact A.Dm rfl (off+j) al
 obtain⟨s1,s2,s3,_,_,_⟩:=Ch h.bE nv (h.off+off) w;refine⟨M,hfrz,L,⟨fun f' o' G g' h' I=>?_,U.oQ,fun f' g' h' I=>by rw[s1];exact U.gY f' g' h' I,U.uniq,fun f' g' x hx a b=>(U.bP f' g' x hx a b).gJ (cell_of_heap (w:=w) (s2 _ fun e=>?_))⟩⟩
 rotate_left
 ·by_cases hf:f'=f
  ·subst hf;have:=(U.bP _ _ _ hx a b).1 _ _ hh;rw[L] at this;cases this
  have:=(U.oQ _ _ _ _ _ _ hx hh hf e).2;rw[L] at this;cases this
 have Bk:∀z,(if n=es then new else ed y r new)=z→z.length=es∧∀j,z[j]?=if r≤j∧j<r+n then new[j-r]?else y[j]?:=by
  intro z hz;have JD:(if n=es then new else ed y r new)=ed y r new:=by
   split
   ·rename_i e;have Xs:r=0:=by omega
    subst Xs;unfold ed;rw[Nn,Bd,No al,Np]
   rfl
  rw[JD] at hz;subst hz;exact⟨(YV al Z).trans hyl,Zt al Z⟩
 obtain⟨BX,hzg⟩:=Bk _ rfl;generalize (if n=es then new else ed y r new)=z at*
 by_cases hf:f'=f
 ·subst hf;have za:o'= .row elem es aD g g 0 (cs.set q z):=by
   have h0:(H.t.set f' (cV.row elem es aD g g 0 (cs.set q z))).get f'=some (.row elem es aD g g 0 (cs.set q z)):=by rw[GT.da,bg rfl]
   unfold eg at G;simp only at G;rw[aZ al,h0] at G
   split at G
   ·rename_i e;rw[hC,←e] at G
    cases G
    rfl
   cases G
   rfl
  subst za;have O:=U.obj f' _ (hC.trans hg) g' h' I;refine⟨he,O.2.1,O.2.2.1,fun a1 a2=>?_⟩;have JE:g'=g:=by omega
  subst JE;have hhh:h'=h:=by rw[hh] at I;cases I;rfl
  subst hhh;obtain⟨c,fz,hb,hbs⟩:=A.row;obtain⟨c',sH,ajf⟩:=s3 c elem fz hb;refine⟨⟨c',fz,sH,al⟩,hfit,fun i hi=>?_,fun e i hi=>?_,fun e i hi wE=>?_,A.IF,fun e c1 t1 JF BY=>by rw[sH] at BY;cases BY;exact A.JA e _ _ _ hb⟩
  ·rw[RT.da]
   by_cases Xt:i=q
   ·subst Xt;rw[bg rfl];refine⟨z,rfl,BX,fun j u Y=>?_⟩;rw[hzg] at Y
    split at Y
    ·rename_i hj;obtain⟨cv,wD,Xu⟩:=hv.get _ _ Y;refine⟨(List.all_eq_true.1 hk) u (nJ Y),cv,?_,Xu⟩;have JG:j-r<nv.length:=by omega
     have:=World.cell?_setCells_in h'.bE nv (h'.off+off) w (by rw[mw];exact M) (j-r) JG;rw[show h'.off+i*es+j=h'.off+off+(j-r) by omega,this,←dm JG];exact wD
    rename_i hj;obtain⟨k1,cv,k2,k3⟩:=hyc j u Y;refine⟨k1,cv,?_,k3⟩;rw[World.cell?_setCells_out _ _ _ _ _ (fun _ _=>by simp only;omega)];exact k2
   rw[aZ Xt];obtain⟨l,l1,l2,l3⟩:=A.cell i hi;refine⟨l,l1,l2,fun j u Y=>?_⟩;obtain⟨k1,cv,k2,k3⟩:=l3 j u Y;refine⟨k1,cv,?_,k3⟩;have hjes:j<es:=by
    rw[←l2];rcases Nat.lt_or_ge j l.length with h|h
    ·exact h
    rw[yp h] at Y;cases Y
   rw[World.cell?_setCells_out _ _ _ _ _ (fun _ _=>?_)]
   ·exact k2
   simp only;rcases Nat.lt_or_gt_of_ne Xt with lJ|O4
   ·left;have:=iS es (show i+1≤q from lJ);rw[kW,Bc] at this;omega
   right;have:=iS es (show q+1≤i from O4);omega
  ·rw[World.frozen?_setCells];exact A.Dm e i hi
  rw[World.frozen?_setCells];exact A.Dn e i hi wE
 have za:C f'=some o':=by
  have h0:(H.t.set f (cV.row elem es aD g g 0 (cs.set q z))).get f'=H.t.get f':=by rw[GT.da,aZ hf]
  unfold eg at G;simp only at G;rw[aZ al,bg h0] at G;exact G
 refine(U.obj f' o' za g' h' I).gJ (Ho.le_refl _) (s2 _ fun e=>?_);have:=U.oQ _ _ _ _ _ _ I hh hf e;rw[L] at this;exact absurd this.2 (by simp)
theorem run_storeVar{t:TypeId}{n:Nat}(A:gR P t=some n){b base:Nat}{u:Value}(z:u.cells.size=n)(G:∀x∈u.cells.toList,x.oneCell'=true)
  (I:∀j,j<n→(w.cell? ⟨b,base+j,none⟩).isSome=true) (L:∀j,j<n→w.frozen? ⟨b,base+j,none⟩=false):
  (storeVar t ⟨b,base,none⟩ u).run P w= .ok () (w.setCells b base u.cells.toList):=by
 have hlen:u.cells.toList.length=n:=by rw[qP];exact z
 have:=run_storeCells_cells (P:=P) b base u.cells.toList 0 w (by rw[hlen];simpa using I) (by rw[hlen];simpa using L) G;simp only[tR] at this;simp[storeVar,uI A,z,this]
theorem P7{x:aj}{y:Value}(h:VR ρ x y)(z:eM x=true):y.oneCell'=true:=by
 have:=h.noAgg z
 cases y<;>first|rfl|(exact absurd rfl (this.1 _))|(exact absurd rfl (this.2 _))
theorem bO.QB:∀{l:List aj}{vs:List Value},bO ρ l vs→l.all eM=true→∀x∈vs,x.oneCell'=true
 |[],vs,h,_,x,z=>by simp only[bO] at h;subst h;cases z
 |a::r,vs,h,A,x,z=>by
  simp only[bO] at h;obtain⟨v,t,rfl,G,h2⟩:=h;simp only[Is,cN] at A
  cases z with
  |head=>exact P7 G A.1
  |tail _ z=>exact bO.QB h2 A.2 x z
theorem store_sound(hA:AR P ρ nt E a)(hR:R ρ C w){t:TypeId}{x z:Operand}{O z':aG}{n:Nat}(ho:o.op= .store t x z)(hx:cB P x=some O)(hz:cB P z=some z')(hn:gR P t=some n)
  (hC:∀f o,f∈im (O.ev E)→(∃g h,ρ f g=some h)→H.t.get f=some o→C f=some o) (h:Gm n O z' E H= .ok v H'):eF P o a w (cZ ρ C w H v H'):=by
 replace h:=eG h;obtain⟨u,hu,h⟩:=h;replace h:=Fv h;obtain⟨f,g,off,rfl,h⟩:=h;replace h:=eG h;obtain⟨u2,U,h⟩:=h;replace h:=iO h;obtain⟨l,hl,h⟩:=h;obtain⟨H1,L,h⟩:=AM h
 cases h
 have M:=hA.bI hx hu;have h2:=hA.bI hz U;simp only[VR] at M;obtain⟨A,Y,M⟩:=M;obtain⟨_,_,_,_,_,uj⟩:=uM hn;have G:=h2.cells hl;have Xv:l.length=n:=by obtain⟨_,_,_,_,_,_,_,_,_,_,Z,_⟩:=L;exact Z
 have hvl:(a.eval z).cells.size=n:=by have:=G.1.length;rw[qP] at this;omega
 have sI:C f=H.t.get f:=by
  obtain⟨_,_,_,_,_,_,hg,_⟩:=L;exact(hC f _ (by rw[hu];simp[im]) ⟨_,_,Y⟩ hg).trans hg.symm
 obtain⟨k1,k2,k3,k4⟩:=hR.write L sI Y al G.1 G.2;have I:=run_storeVar (P:=P) (w:=w) hn (b:=A.bE) (base:=A.off+off) hvl (G.1.QB G.2) k1 k2;obtain⟨s1,s2,s3,s4,s5,s6⟩:=Ch A.bE (a.eval z).cells.toList (A.off+off) w;refine .inr (.inl ⟨w.setCells A.bE (A.off+off) (a.eval z).cells.toList,?_,ρ,by simp only[VR],?_,k4⟩)
 ·simp[execOp,ho,M,Instr.storeAt,Instr.sureAddr,I]
 obtain⟨_,_,_,_,_,_,_,_,_,_,_,_,rfl⟩:=L;refine⟨Ho.le_refl _,fun f g h e=>.inl ⟨g,h,e⟩,fun _ _ _ e=>.inl e,fun b hb hf=>?_,by rw[s1];exact bf _,bf _,s4,s5,s6⟩;refine s2 b fun e=>?_
 refine hf f g A Y k3 ?_ e.symm;unfold Wr;simp only[wY]
 by_cases lJ:f<H.aR
 ·exact .inl (.inr ⟨trivial,lJ⟩)
 exact .inr al
end
section
variable{P:Program}{ρ:Ho}{nt:Nat}{E:Env}{a:Act}{C:Nat→Option cV}{w:World}{H H':ax}{v:aj}{o:Oper}
theorem QC:∀{n:Nat}{H:ax}{f g es off:Nat}{l:List (List aj)},elems H f g es n off=some l→l.length=n∧∀i x,l[i]?=some x→VJ H f g (off+i*es) es x
 |0,H,f,g,es,off,l,h=>by cases h;exact⟨rfl,fun i x z=>by simp at z⟩
 |n+1,H,f,g,es,off,l,h=>by
  have h:rd H f g off es none (fun l=>ob (elems H f g es n (off+es)) none fun r=>some (l::r))=some l:=h;obtain⟨x,z,h⟩:=Uf h (by simp);obtain⟨r,G,h⟩:=CR h
  cases h
  obtain⟨I,h2⟩:=QC G;refine⟨by simp[I],fun i y A=>?_⟩
  cases i with
  |zero=>simp at A;subst A;simpa using z
  |succ i=>have:=h2 i y (by simpa using A);rwa [show off+es+i*es=off+(i+1)*es by rw[kW];omega] at this
theorem uF:∀(l:List (List aj))(t:RT)(i k:Nat),(gE l t i).get k=if i≤k∧k<i+l.length then l[k-i]?else t.get k
 |[],t,i,k=>by
  show t.get k=_;rw[aZ (by simp)]
 |x::r,t,i,k=>by
  have step:gE (x::r) t i=gE r (t.set i x) (i+1):=rfl;rw[step,uF r,RT.da];simp only[gF]
  by_cases h:k=i
  ·subst h;rw[aZ al,bg rfl,bg al];simp
  rw[aZ h]
  by_cases h2:i+1≤k∧k<i+1+r.length
  ·rw[bg h2,bg al];rw[show k-i=(k-(i+1))+1 by omega,Nq]
  rw[aZ h2,aZ al]
structure Flat(ρ:Ho)(es:Nat)(l:List (List aj))(news:List Value):Prop where
 len:news.length=l.length*es
 one:∀u∈news,u.oneCell'=true
 get:∀i x,l[i]?=some x→x.length=es∧∀j y,x[j]?=some y→eM y=true∧∃cv,news[i*es+j]?=some cv∧VR ρ y cv
theorem s7{α:Type}{l:List α}{i:Nat}{x:α}(h:l[i]?=some x):i<l.length:=by
 rcases Nat.lt_or_ge i l.length with h'|h'
 ·exact h'
 rw[yp h'] at h;cases h
theorem Flat.of_elems(hR:R ρ C w){f g es off n:Nat}{l:List (List aj)}(hl:elems H f g es n off=some l)(hC:∀o,H.t.get f=some o→C f=some o){h:Hm}(hh:ρ f g=some h)(Y:0<es):
  l.length=n∧∃news,Flat ρ es l news∧∀j u,news[j]?=some u→w.cell? ⟨h.bE,h.off+off+j,none⟩=some u:=by
 obtain⟨hlen,z⟩:=QC hl;refine⟨hlen,(List.range (l.length*es)).map fun q=>(w.cell? ⟨h.bE,h.off+off+q,none⟩).getD undef,?_⟩;have key:∀i x,l[i]?=some x→x.length=es∧∀j y,x[j]?=some y→eM y=true∧∃cv,w.cell? ⟨h.bE,h.off+off+(i*es+j),none⟩=some cv∧VR ρ y cv:=by
  intro i x G;have Z:C f=H.t.get f:=by
   obtain⟨_,_,_,_,_,_,_,_,hg,_⟩:=z i x G;exact(hC _ hg).trans hg.symm
  obtain⟨I,h2,h3⟩:=hR.rd (z i x G) Z hh Y;refine⟨I,fun j y L=>⟨(List.all_eq_true.1 h2) y (nJ L),?_⟩⟩;obtain⟨cv,wD,hv⟩:=h3 j y L;exact⟨cv,by rw[show h.off+off+(i*es+j)=h.off+(off+i*es)+j by omega];exact wD,hv⟩
 have cellAt:∀q,q<l.length*es→∃cv,w.cell? ⟨h.bE,h.off+off+q,none⟩=some cv∧cv.oneCell'=true:=by
  intro q hq;have hi:q/es<l.length:=by
   rw[aiy Y];exact hq
  have M:q % es<es:=A8 _ Y;obtain⟨I,h2⟩:=key (q/es) _ (dm hi);obtain⟨A,cv,O,k3⟩:=h2 (q % es) _ (dm (by rw[I];exact M));refine⟨cv,?_,P7 k3 A⟩;have:q/es*es+q % es=q:=by rw[qM];exact Nm q es
  rwa [this] at O
 refine⟨⟨by simp,fun u U=>?_,fun i x G=>?_⟩,fun j u U=>?_⟩
 ·obtain⟨q,hq,rfl⟩:=List.mem_map.1 U;obtain⟨cv,A,O⟩:=cellAt q (List.mem_range.1 hq);rw[A];exact O
 ·obtain⟨I,h2⟩:=key i x G;refine⟨I,fun j y L=>?_⟩;obtain⟨A,cv,O,k3⟩:=h2 j y L;refine⟨A,cv,?_,k3⟩;have lJ:i*es+j<l.length*es:=by
   have h4:=s7 G;have h5:=s7 L;have:=iS es (show i+1≤l.length from h4);rw[kW,Bc] at this;omega
  simp[lJ,O]
 have M:=s7 U;simp at M;obtain⟨cv,A,_⟩:=cellAt j M;simp[M,A] at U;rw[A,U]
theorem R.grow(U:R ρ C w){f m k elem es aD mc lo fl:Nat}{cs:RT}{new:List (List aj)}{news:List Value}(W:Nat→Prop)(hWf:W f){w':World}{h h2:Hm}
  (hC:C f=some (.row elem es aD m lo fl cs)) (hh:ρ f m=some h) (hk:new.length=k) (Xw:0<k) (EL:lo≤m) (JH:fl≠1) (hF:Flat ρ es new news)
  (nY:w.heap.size≤w'.heap.size) (h1:w'.os=w.os) (Xx:w'.tape=w.tape) (h3:w'.output=w.output)
  (M:∀b,b<w.heap.size→b≠h.bE→w'.heap[b]?=w.heap[b]?)
  (Y:∃c c' e fz,w.heap[h.bE]?=some (.cells c e fz)∧w'.heap[h.bE]?=some (.cells c' e fz)∧c'.size=c.size)
  (hcell:∀off,off<m*es→w'.cell? ⟨h.bE,h.off+off,none⟩=w.cell? ⟨h.bE,h.off+off,none⟩)
  (G:h2=h∨(w.heap.size≤h2.bE∧h2.ro=false)) (oW:h2.bE<w'.heap.size)
  (Ec:∃c fz,w'.heap[h2.bE]?=some (.cells c elem fz)∧h2.off+h2.room≤c.size) (hfits:(m+k)*es≤h2.room)
  (hold:∀off,off<m*es→w'.cell? ⟨h2.bE,h2.off+off,none⟩=w.cell? ⟨h.bE,h.off+off,none⟩)
  (Bk:∀j,j<k*es→w'.cell? ⟨h2.bE,h2.off+m*es+j,none⟩=news[j]?)
  (BW:h2≠h→h2.off=0∧(∀i,w'.frozen? ⟨h2.bE,i,none⟩=false)∧∀c e fz,w'.heap[h2.bE]?=some (.cells c e fz)→fz.1=fz.2):
  ∃ρ',ρ' f (m+k)=some h2∧Ext W H.next H.next ρ ρ' w w'∧R ρ' (fun x=>if x=f then some (.row elem es mc (m+k) lo fl (gE new cs m)) else C x) w':=by
 obtain⟨he,oV,_,A⟩:=U.obj f _ hC m h hh;have A:=A EL (bf _);have O:h.ro=false:=by
  cases hr:h.ro
  ·rfl
  exact absurd (oV hr) JH
 have ajg:h2.ro=false:=by
  rcases G with rfl|⟨_,e⟩
  ·exact O
  exact e
 have hnone:∀x,ρ f (m+k)=some x→x=h2:=fun x z=>by
  obtain⟨_,_,hle,_⟩:=U.obj f _ hC (m+k) x z;omega
 have hle:ρ.le (ρ.add f (m+k) h2):=Ho.adY hnone;have ajh:∀f' g' x,ρ f' g'=some x→f'≠f→w'.heap[x.bE]?=w.heap[x.bE]?:=by
  intro f' g' x z I;refine M _ (U.gY _ _ _ z) fun e=>?_
  have:=U.oQ _ _ _ _ _ _ z hh I e;rw[O] at this;exact absurd this.2 (by simp)
 have aji:∀i,w'.frozen? ⟨h.bE,i,none⟩=w.frozen? ⟨h.bE,i,none⟩:=by
  intro i;obtain⟨c,c',e,fz,k1,k2,_⟩:=Y;simp only[World.frozen?,k1,k2]
 refine⟨_,Ho.add_same _ _ _ _,⟨hle,?_,?_,?_,nY,bf _,h1,Xx,h3⟩,⟨?_,?_,?_,?_,?_⟩⟩
 ·intro f' g' x z;rcases Ho.jl z with⟨rfl,_,_⟩|z
  ·exact .inl ⟨m,h,hh⟩
  exact .inl ⟨g',x,z⟩
 ·intro f' g' x z;rcases Ho.jl z with⟨rfl,_,rfl⟩|z
  ·rcases G with rfl|⟨a1,a2⟩
   ·exact .inr (.inr ⟨m,x,hh,rfl,rfl⟩)
   exact .inr (.inl ⟨a1,a2⟩)
  exact .inl z
 ·intro b hb hf;exact M b hb fun e=>hf f m h hh O hWf e.symm
 ·intro f' o O5 g x z;have EO:(if f'=f then some (cV.row elem es mc (m+k) lo fl (gE new cs m)) else C f')=some o:=O5;clear O5
  by_cases e:f'=f
  ·rw[bg e] at EO;subst e
   cases EO
   rcases Ho.jl z with⟨_,rfl,rfl⟩|z
   ·refine⟨he,(fun e=>by rw[ajg] at e;cases e),bf _,fun _ _=>⟨Ec,hfits,fun i hi=>?_,fun e i hi=>?_,fun e i hi wE=>?_,fun e=>(Vw (x=h)).elim (fun L=>L▸A.IF e) (fun L=>(BW L).1),fun e=>(Vw (x=h)).elim (fun L c1 t1 JF Z=>by
     obtain⟨c,c',t2,fz,q1,q2,_⟩:=Y;rw[L,q2] at Z
     cases Z
     have:=iS es (show m≤m+k by omega)
     exact(A.JA e _ _ _ q1).imp_right (fun g=>by omega)) (fun L c1 t1 JF Z=>.inl ((BW L).2.2 _ _ _ Z))⟩⟩
    ·rw[uF]
     by_cases him:i<m
     ·rw[aZ al];obtain⟨l,l1,l2,l3⟩:=A.cell i him;refine⟨l,l1,l2,fun j u hu=>?_⟩;obtain⟨k1,cv,k2,k3⟩:=l3 j u hu;refine⟨k1,cv,?_,k3.mono hle⟩;have hj:=s7 hu;have:=iS es (show i+1≤m from him);rw[kW,Bc] at this;rw[kU,hold (i*es+j) al,←kU];exact k2
     rw[bg al];have hik:i-m<new.length:=by omega
     obtain⟨l1,l2⟩:=hF.get (i-m) _ (dm hik);refine⟨_,dm hik,l1,fun j u hu=>?_⟩;obtain⟨k1,cv,k2,k3⟩:=l2 j u hu;refine⟨k1,cv,?_,k3.mono hle⟩;have hj:=s7 hu;have hjj:=s7 k2;rw[hF.len,hk] at hjj;have e1:i*es=m*es+(i-m)*es:=by rw[←kW];congr 1;omega
     rw[show x.off+i*es+j=x.off+m*es+((i-m)*es+j) by omega,Bk _ hjj];exact k2
    ·by_cases wF:x=h
     ·subst wF;rw[aji];exact A.Dm e i hi
     exact(BW wF).2.1 _
    by_cases wF:x=h
    ·subst wF;rw[aji];refine A.Dn e i ?_ wE;have:=iS es (show m≤m+k by omega);omega
    exact(BW wF).2.1 _
   obtain⟨_,r1,r2,r3⟩:=U.obj f' _ hC g x z;refine⟨he,r1,al,fun a1 _=>?_⟩;have r3:=r3 a1 r2;have HA:(∃c c' e fz,w.heap[x.bE]?=some (.cells c e fz)∧w'.heap[x.bE]?=some (.cells c' e fz)∧c'.size=c.size)∧∀off,off<m*es→w'.cell? ⟨x.bE,x.off+off,none⟩=w.cell? ⟨x.bE,x.off+off,none⟩:=by
    by_cases hb:x.bE=h.bE
    ·have ho:=U.uniq _ _ _ _ _ z hh hb;rw[hb,ho];exact⟨Y,hcell⟩
    have uk:=M _ (U.gY _ _ _ z) hb;obtain⟨c,fz,hc,_⟩:=r3.row;exact⟨⟨c,c,elem,fz,hc,by rw[uk];exact hc,rfl⟩,fun off _=>cell_of_heap (w:=w) uk⟩
   obtain⟨⟨c,c',e0,fz,q1,q2,q3⟩,q4⟩:=HA;have hfx:∀i,w'.frozen? ⟨x.bE,i,none⟩=w.frozen? ⟨x.bE,i,none⟩:=fun i=>by simp only[World.frozen?,q1,q2]
   obtain⟨c2,fz2,p1,p2⟩:=r3.row;rw[q1] at p1
   cases p1
   refine⟨⟨c',fz,q2,al⟩,r3.fits,fun i hi=>?_,fun e i hi=>?_,fun e i hi wE=>?_,r3.IF,fun e c1 t1 JF Z=>by
    rw[q2] at Z
    cases Z
    have:=iS es (show m≤m+k by omega)
    exact(r3.JA e _ _ _ q1).imp_right (fun g=>by omega)⟩
   ·rw[uF,aZ al];obtain⟨l,l1,l2,l3⟩:=r3.cell i hi;refine⟨l,l1,l2,fun j u hu=>?_⟩;obtain⟨k1,cv,k2,k3⟩:=l3 j u hu;refine⟨k1,cv,?_,k3.mono hle⟩;have hj:=s7 hu;have:=iS es (show i+1≤m by omega);rw[kW,Bc] at this;rw[kU,q4 (i*es+j) al,←kU];exact k2
   ·rw[hfx];exact r3.Dm e i hi
   rw[hfx];refine r3.Dn e i ?_ wE;have:=iS es (show m≤m+k by omega);omega
  rw[aZ e] at EO;rcases Ho.jl z with⟨e',_,_⟩|z
  ·exact absurd e' e
  exact(U.obj f' o EO g x z).gJ hle (ajh _ _ _ z e)
 ·intro f1 g1 x1 f2 g2 x2 e1 L I hb;have c1:=Ho.jl e1;have c2:=Ho.jl L;clear e1 L;have half:∀f' g' x,ρ f' g'=some x→f'≠f→x.bE≠h2.bE:=by
   intro f' g' x z I e;rcases G with rfl|⟨a1,_⟩
   ·have:=U.oQ _ _ _ _ _ _ z hh I e;rw[O] at this;exact absurd this.2 (by simp)
   have:=U.gY _ _ _ z;omega
  rcases c1 with⟨e,_,rfl⟩|e1<;>rcases c2 with⟨e',_,rfl⟩|L
  ·exact absurd (e.trans e'.symm) I
  ·exact absurd hb.symm (half _ _ _ L (fun e3=>I (e.trans e3.symm)))
  ·exact absurd hb (half _ _ _ e1 (fun e3=>I (e3.trans e'.symm)))
  exact U.oQ _ _ _ _ _ _ e1 L I hb
 ·intro f' g' x z;rcases Ho.jl z with⟨_,_,rfl⟩|z
  ·exact oW
  have:=U.gY _ _ _ z;omega
 ·intro f' g1 x1 g2 x2 e1 L hb;have c1:=Ho.jl e1;have c2:=Ho.jl L;clear e1 L;have half:∀g' x,ρ f g'=some x→x.bE=h2.bE→x.off=h2.off:=by
   intro g' x z e;rcases G with rfl|⟨a1,_⟩
   ·exact U.uniq _ _ _ _ _ z hh e
   have:=U.gY _ _ _ z;omega
  rcases c1 with⟨e,_,rfl⟩|e1<;>rcases c2 with⟨e',_,rfl⟩|L
  ·rfl
  ·subst e;exact(half _ _ L hb.symm).symm
  ·subst e';exact half _ _ e1 hb
  exact U.uniq _ _ _ _ _ e1 L hb
 intro f' g' x z oV Xr;rcases Ho.jl z with⟨_,_,rfl⟩|EP
 ·rw[ajg] at oV;cases oV
 have k:=U.bP _ _ _ EP oV Xr;have I:f'≠f:=fun e=>by
  subst e;have:=k.1 _ _ hh;rw[O] at this;cases this
 refine EK.gJ ⟨fun g2 x2 L=>?_,k.2⟩ (cell_of_heap (w:=w) (ajh _ _ _ EP I));rcases Ho.jl L with⟨e3,_,_⟩|L
 ·exact absurd e3 I
 exact k.1 _ _ L
end
end Go.Ev
