/- Part 16 of rules for walks through the code of a program, and of such walks; what each part proves is said by its theorems. -/
import Derived.Test.YtmpoloiempjdpaaGreatS11
import Derived.Test.YtmpoloiempjdpaaGreatS12
import Derived.Test.YtmpoloiempjdpaaGreatS13
import Derived.Test.YtmpoloiempjdpaaGreatS14
import Derived.Test.YtmpoloiempjdpaaGreatS15
set_option linter.unusedVariables false
set_option linter.unusedSimpArgs false
noncomputable section
set_option maxRecDepth 100000
set_option maxHeartbeats 4000000
namespace Go.Ev
open Go
mutual
def oQ:DC→Bool
 |.sl rows=>!rows.isEmpty&&xJ rows
 |.raw _ _ _=>false
 |_=>true
def xJ:ah→Bool
 |[]=>true
 |r::rs=>kP r&&xJ rs
def kP:List DC→Bool
 |[]=>true
 |d::r=>oQ d&&kP r
end
mutual
def DW(w:World):DC→Value→Prop
 |.i k z,v=>v= .int k z
 |.b x,v=>v= .bool x
 |.s l s,v=>∃b:ByteArray,v= .string b∧l=b.size∧s=pack b.data.toList
 |.nil,v=>v= .slice none 0 0
 |.raw _ _ _,_=>False
 |.sl rows,v=>∃(bG off cap es:Nat),v= .slice (some ⟨bG,off,none⟩) rows.length cap∧rows.length≤cap∧0<es∧(∃c e fz,w.heap[bG]?=some (.cells c e fz)∧off+cap*es≤c.size)∧BP w bG off es 0 rows
def BP(w:World)(bG off es:Nat):Nat→ah→Prop
 |_,[]=>True
 |i,r::rs=>r.length=es∧EA w bG (off+i*es) r∧BP w bG off es (i+1) rs
def EA(w:World)(bG:Nat):Nat→List DC→Prop
 |_,[]=>True
 |o,d::r=>(∃cv,w.cell? ⟨bG,o,none⟩=some cv∧DW w d cv)∧EA w bG (o+1) r
end
section
variable{ρ:Ho}{C:Nat→Option cX}{w:World}{H:ax}{X:Nat→Prop}
mutual
theorem agN(hR:R ρ C w)(hK:hJ ρ C H):∀{d:DC}{a:ai}{v:Value},oQ d=true→bA H X d a→VR ρ a v→DW w d v
 |.i _ _,_,_,_,z,G=>by simp only[bA] at z;subst z;simpa only[VR,DW] using G
 |.b _,_,_,_,z,G=>by simp only[bA] at z;subst z;simpa only[VR,DW] using G
 |.s _ _,_,_,_,z,G=>by simp only[bA] at z;subst z;simpa only[VR,DW] using G
 |.nil,_,_,_,z,G=>by simp only[bA] at z;subst z;simpa only[VR,DW] using G
 |.raw _ _ _,_,_,L,_,_=>by simp[oQ] at L
 |.sl rows,a,v,L,z,G=>by
  simp only[oQ,cU,gD] at L;have I:rows≠[]:=fun e=>by rw[e] at L;simp at L
  simp only[bA] at z;obtain⟨f,g,off,es,rfl,z⟩:=z;obtain⟨_,_,q,rfl,A⟩:=z.resolve_left I;simp only[VR] at G;obtain⟨h,a',cap,hh,rfl,⟨hl,_⟩,hs⟩:=G;rcases hs with⟨rfl,Y⟩|⟨h0,_⟩
  ·have M:∃elem m aC lo fl cs,H.t.get f=some (.row elem es aC m lo fl cs)∧lo≤g∧g≤m:=by
    cases rows with
    |nil=>exact absurd rfl I
    |cons r rs=>
     simp only[dF] at A;obtain⟨⟨l,⟨elem,aC,m,lo,fl,cs,h1,h2,h3,_,_⟩,h4,_⟩,_⟩:=A;exact⟨elem,m,aC,lo,fl,cs,h4▸h1,h2,h3⟩
   obtain⟨elem,m,aC,lo,fl,cs,ho,Z,hgm⟩:=M;obtain⟨Fb,_,_,O⟩:=hR.obj f _ (hK f _ ⟨g,h,hh⟩ ho) g h hh;have k:=O Z hgm;obtain⟨c,fz,U,og⟩:=k.row;simp only[DW];refine⟨h.bG,h.off+q*es,cap,es,rfl,hl,Fb,⟨c,elem,fz,U,an⟩,?_⟩;have:=acj hR hK (f:=f) (g:=g) (es:=es) (h:=h) (elem:=elem) (n:=m) (fl:=fl) (cs:=cs) (aC:=aC) (lo:=lo) k ho (q:=q) (i:=0) L.2 (by simpa using A);exact this
  exact absurd (su h0) I
theorem acj(I:R ρ C w)(L:hJ ρ C H){f g es:Nat}{h:Hm}{elem n fl aC lo:Nat}{cs:RT}(k:HP ρ w h g elem es n fl cs)(ho:H.t.get f=some (.row elem es aC n lo fl cs)){q:Nat}:∀{i:Nat}{rows:ah},xJ rows=true→dF H X f g es (q+i) rows→BP w h.bG (h.off+q*es) es i rows
 |_,[],_,_=>trivial
 |i,r::rs,z,M=>by
  simp only[xJ,cU] at z;simp only[dF] at M;obtain⟨⟨l,⟨A,mr,m',Y,lV,Z,G,_,_,h4,h5⟩,h6,O⟩,h8⟩:=M;rw[ho] at G;simp only[eE,cX.row.injEq] at G;obtain⟨rfl,_,rfl,rfl,rfl,rfl,rfl⟩:=G;obtain⟨l',U,j2,j3⟩:=k.cell (q+i) h4;rw[h5] at U;cases U;simp only[BP];refine⟨by rw[←O.length];exact h6,?_,acj I L k ho z.2 (by rw[show q+(i+1)=q+i+1 by omega];exact h8)⟩;refine ack I L (l:=l) (o:=h.off+q*es+i*es) z.1 O fun j x hx=>?_
  obtain⟨_,cv,o1,o2⟩:=j3 j x hx;exact⟨cv,by rw[show h.off+q*es+i*es+j=h.off+(q+i)*es+j by rw[lq];omega];exact o1,o2⟩
theorem ack(I:R ρ C w)(L:hJ ρ C H){bG:Nat}:∀{row:List DC}{l:List ai}{o:Nat},kP row=true→bS H X row l→(∀j x,l[j]?=some x→∃cv,w.cell? ⟨bG,o+j,none⟩=some cv∧VR ρ x cv)→EA w bG o row
 |[],_,_,_,_,_=>trivial
 |d::r,l,o,z,M,O=>by
  simp only[kP,cU] at z;simp only[bS] at M;obtain⟨a,s,rfl,U,h2⟩:=M;obtain⟨cv,A,G⟩:=O 0 a rfl;simp only[EA]
  exact⟨⟨cv,by simpa using A,agN I L z.1 U G⟩,ack I L z.2 h2 fun j x Y=>by
   obtain⟨cv,A,G⟩:=O (j+1) x (by simpa using Y)
   exact⟨cv,by rw[show o+1+j=o+(j+1) by omega];exact A,G⟩⟩
end
end
mutual
def fb(el:Nat→Nat):DC→Nat→HT→Nat×HT×ai
 |.i k z,n,t=>(n,t,.int k z)
 |.b x,n,t=>(n,t,.bool x)
 |.s l s,n,t=>(n,t,.str l s)
 |.nil,n,t=>(n,t,.fV)
 |.raw f m es,n,t=>(n,t,.slice f m 0 m es)
 |.sl rows,n,t=>match kY el rows n t with
  |(n1,t1,ls)=>(n1+1,t1.set n1 (.row (el n1) (rows.headD []).length 0 rows.length rows.length 1 (gJ ls .emp 0)),.slice n1 rows.length 0 rows.length (rows.headD []).length)
def kY(el:Nat→Nat):ah→Nat→HT→Nat×HT×List (List ai)
 |[],n,t=>(n,t,[])
 |r::rs,n,t=>match d9 el r n t with
  |(n1,t1,l)=>match kY el rs n1 t1 with
   |(z,t2,ls)=>(z,t2,l::ls)
def d9(el:Nat→Nat):List DC→Nat→HT→Nat×HT×List ai
 |[],n,t=>(n,t,[])
 |d::r,n,t=>match fb el d n t with
  |(n1,t1,a)=>match d9 el r n1 t1 with
   |(z,t2,l)=>(z,t2,a::l)
end
mutual
theorem Ln{el:Nat→Nat}:∀(d:DC)(n:Nat)(t:HT),n≤(fb el d n t).1
 |.i _ _,n,t=>bd _
 |.b _,n,t=>bd _
 |.s _ _,n,t=>bd _
 |.nil,n,t=>bd _
 |.raw _ _ _,n,t=>bd _
 |.sl rows,n,t=>by
  have:=FN (el:=el) rows n t;simp only[fb];omega
theorem FN{el:Nat→Nat}:∀(rs:ah)(n:Nat)(t:HT),n≤(kY el rs n t).1
 |[],n,t=>bd _
 |r::rs,n,t=>by
  have z:=FO (el:=el) r n t;have h2:=FN (el:=el) rs (d9 el r n t).1 (d9 el r n t).2.1;exact eT z h2
theorem FO{el:Nat→Nat}:∀(r:List DC)(n:Nat)(t:HT),n≤(d9 el r n t).1
 |[],n,t=>bd _
 |d::r,n,t=>by
  have z:=Ln (el:=el) d n t;have h2:=FO (el:=el) r (fb el d n t).1 (fb el d n t).2.1;exact eT z h2
end
mutual
theorem QE{el lX:Nat→Nat}:∀(d:DC)(n:Nat)(t:HT),(∀m,n≤m→m<(fb el d n t).1→lX m=el m)→fb lX d n t=fb el d n t
 |.i _ _,n,t,_=>rfl
 |.b _,n,t,_=>rfl
 |.s _ _,n,t,_=>rfl
 |.nil,n,t,_=>rfl
 |.raw _ _ _,n,t,_=>rfl
 |.sl rows,n,t,h=>by
  simp only[fb] at h⊢;have e:=Qt (el:=el) (lX:=lX) rows n t fun m z h2=>h m z an
  rw[e,h (kY el rows n t).1 (FN rows n t) an]
theorem Qt{el lX:Nat→Nat}:∀(rs:ah)(n:Nat)(t:HT),(∀m,n≤m→m<(kY el rs n t).1→lX m=el m)→kY lX rs n t=kY el rs n t
 |[],n,t,_=>rfl
 |r::rs,n,t,h=>by
  simp only[kY] at h⊢;have hle:=FN (el:=el) rs (d9 el r n t).1 (d9 el r n t).2.1;have z:=FO (el:=el) r n t;have e:=Qu (el:=el) (lX:=lX) r n t fun m A h2=>h m A (jn h2 hle)
  rw[e];have G:=Qt (el:=el) (lX:=lX) rs (d9 el r n t).1 (d9 el r n t).2.1 fun m A h2=>h m (eT z A) h2
  rw[G]
theorem Qu{el lX:Nat→Nat}:∀(r:List DC)(n:Nat)(t:HT),(∀m,n≤m→m<(d9 el r n t).1→lX m=el m)→d9 lX r n t=d9 el r n t
 |[],n,t,_=>rfl
 |d::r,n,t,h=>by
  simp only[d9] at h⊢;have hle:=FO (el:=el) r (fb el d n t).1 (fb el d n t).2.1;have z:=Ln (el:=el) d n t;have e:=QE (el:=el) (lX:=lX) d n t fun m A h2=>h m A (jn h2 hle)
  rw[e];have G:=Qu (el:=el) (lX:=lX) r (fb el d n t).1 (fb el d n t).2.1 fun m A h2=>h m (eT z A) h2
  rw[G]
end
section
variable{P:Program}{w:World}
theorem RS.congr{n:Nat}{ρ:Ho}{t t2:HT}(h:RS P w n ρ t)(e:∀f,t2.get f=t.get f):RS P w n ρ t2:=by
 have:(fun f=>t2.get f)=fun f=>t.get f:=funext e
 exact⟨by rw[this];exact h.r,h.ro,h.gE,fun f z=>by rw[e];exact h.wf f z,h.ru⟩
theorem gr.congr{n n':Nat}{ρ ρ':Ho}{t t' t2:HT}(h:gr n ρ t n' ρ' t')(e:∀f,t2.get f=t'.get f):gr n ρ t n' ρ' t2:=⟨h.le,h.ho,fun f z=>by rw[e];exact h.same f z⟩
def Laid(P:Program)(w:World)(n:Nat)(ρ:Ho)(t:HT)(r:Nat×HT)(K:Ho→Prop):Prop:=∃ρ',gr n ρ t r.1 ρ' r.2∧RS P w r.1 ρ' r.2∧K ρ'
mutual
theorem acm:∀{d:DC}{v:Value}{n:Nat}{ρ:Ho}{t:HT}(z:Nat→Nat),oQ d=true→DW w d v→RS P w n ρ t→∃el,(∀m,m<n→el m=z m)∧Laid P w n ρ t ((fb el d n t).1,(fb el d n t).2.1) fun ρ'=>VR ρ' (fb el d n t).2.2 v∧eQ (fb el d n t).2.2=true
 |.i _ _,v,n,ρ,t,z,_,h,M=>⟨z,fun _ _=>rfl,ρ,gr.refl ..,M,by simpa only[DW,VR,fb] using h,rfl⟩
 |.b _,v,n,ρ,t,z,_,h,M=>⟨z,fun _ _=>rfl,ρ,gr.refl ..,M,by simpa only[DW,VR,fb] using h,rfl⟩
 |.s _ _,v,n,ρ,t,z,_,h,M=>⟨z,fun _ _=>rfl,ρ,gr.refl ..,M,by simpa only[DW,VR,fb] using h,rfl⟩
 |.nil,v,n,ρ,t,z,_,h,M=>⟨z,fun _ _=>rfl,ρ,gr.refl ..,M,by simpa only[DW,VR,fb] using h,rfl⟩
 |.raw _ _ _,v,n,ρ,t,z,Z,_,_=>by simp[oQ] at Z
 |.sl rows,v,n,ρ,t,z,Z,h,M=>by
  simp only[oQ,cU,gD] at Z;have fB:rows≠[]:=fun e=>by rw[e] at Z;simp at Z
  simp only[DW] at h;obtain⟨bG,off,cap,es,rfl,hl,Fb,⟨c,e,fz,O,og⟩,Y⟩:=h;obtain⟨G,ha,ρ1,k1,k2,k3⟩:=abl (i:=0) z Z.2 Y M;have I:(rows.headD []).length=es:=by
   cases rows with
   |nil=>exact absurd rfl fB
   |cons r rs=>simp only[BP] at Y;exact Y.1
  have o9:bG<w.heap.size:=(Array.getElem?_eq_some_iff.1 O).1;generalize hr:kY G rows n t=r at k1 k2 k3;obtain⟨n1,t1,ls⟩:=r
  let el:Nat→Nat:=fun m=>if m=n1 then e else G m
  have PL:n≤n1:=by have:=FN (el:=G) rows n t;rw[hr] at this;exact this
  have hlr:kY el rows n t=(n1,t1,ls):=by
   rw[←hr];exact Qt rows n t fun m h1 h2=>by rw[hr] at h2;show(if m=n1 then e else G m)=_;rw[aX (by have h2:m<n1:=h2;omega)]
  obtain⟨L,krow⟩:=k3;have L:ls.length=rows.length:=L
  obtain⟨ρ',t',h1,h2,h3,h4⟩:=RS.push k2 rows.length ⟨bG,off,cap*es,true,false⟩ rfl rfl o9 (some (.row e es 0 rows.length rows.length 1 (gJ ls .emp 0))) (fun x hx ρ' hle=>by
   cases hx
   refine⟨Fb,fun _=>rfl,bd _,fun _ _=>⟨⟨c,fz,O,og⟩,iZ _ hl,fun i hi=>?_,fun h=>(by cases h),fun h=>absurd rfl h,(fun h=>by rcases h with h|h<;>cases h),(fun h=>by rcases h with h|h<;>cases h)⟩⟩;have hi:i<ls.length:=by rw[L];exact hi
   obtain⟨q1,q2⟩:=krow i ls[i] (dx hi);refine⟨ls[i],?_,q1,fun j x hx=>?_⟩
   ·rw[uT,bg ⟨gL _,an⟩];exact dx hi
   obtain⟨q3,cv,q4,q5⟩:=q2 j x hx
   exact⟨q3,cv,by simpa using q4,q5.mono hle⟩)
  have A:fb el (.sl rows) n t=(n1+1,t1.set n1 (.row (el n1) (rows.headD []).length 0 rows.length rows.length 1 (gJ ls .emp 0)),.slice n1 rows.length 0 rows.length (rows.headD []).length):=by
   simp only[fb,hlr]
  have Xx:el n1=e:=bg rfl;have U:∀f,(t1.set n1 (.row (el n1) (rows.headD []).length 0 rows.length rows.length 1 (gJ ls .emp 0))).get f=t'.get f:=fun f=>by
   rw[GT.df]
   by_cases ef:f=n1
   ·subst ef;rw[bg rfl,Xx,I];exact h4.symm
   rw[aX ef]
   by_cases lt:f<n1
   ·exact(h1.same f lt).symm
   have a1:t'.get f=none:=h2.wf f (by show n1+1≤f;omega);have a2:t1.get f=none:=k2.wf f (by show n1≤f;omega);rw[a1,a2]
  refine⟨el,fun m hm=>?_,ρ',?_,?_,?_,?_⟩
  ·show(if m=n1 then e else G m)=_;rw[aX an];exact ha m hm
  ·rw[A];exact k1.trans (h1.congr U)
  ·rw[A];exact h2.congr U
  ·rw[A];simp only[VR];refine⟨_,_,cap,h3,rfl,⟨hl,by rw[e6,I];exact iZ _ hl⟩,.inl ⟨rfl,by rw[I];show 0+cap*es≤cap*es;omega⟩⟩
  rw[A];rfl
theorem abl:∀{rows:ah}{bG off es i n:Nat}{ρ:Ho}{t:HT}(G:Nat→Nat),xJ rows=true→BP w bG off es i rows→RS P w n ρ t→∃el,(∀m,m<n→el m=G m)∧Laid P w n ρ t ((kY el rows n t).1,(kY el rows n t).2.1) fun ρ'=>(kY el rows n t).2.2.length=rows.length∧∀k l,(kY el rows n t).2.2[k]?=some l→l.length=es∧∀(j:Nat)x,l[j]?=some x→eQ x=true∧∃cv,w.cell? ⟨bG,off+(i+k)*es+j,none⟩=some cv∧VR ρ' x cv
 |[],bG,off,es,i,n,ρ,t,G,_,_,M=>⟨G,fun _ _=>rfl,ρ,gr.refl ..,M,rfl,fun k l h=>by simp[kY] at h⟩
 |r::rs,bG,off,es,i,n,ρ,t,G,O,h,M=>by
  simp only[xJ,cU] at O;simp only[BP] at h;obtain⟨z,a1,ρ1,b1,c1,d1,e1⟩:=abm G O.1 h.2.1 M;obtain⟨A,a2,U,b2,c2,d2,e2⟩:=abl z O.2 h.2.2 c1;have hc:d9 A r n t=d9 z r n t:=Qu r n t fun m _ h2=>a2 m h2
  have I:kY A (r::rs) n t=((kY A rs (d9 z r n t).1 (d9 z r n t).2.1).1,(kY A rs (d9 z r n t).1 (d9 z r n t).2.1).2.1,(d9 z r n t).2.2::(kY A rs (d9 z r n t).1 (d9 z r n t).2.1).2.2):=by
   rw[←hc];rfl
  have hle:=FO (el:=z) r n t;refine⟨A,fun m hm=>by rw[a2 m (jn hm hle)];exact a1 m hm,U,?_,?_,?_,?_⟩
  ·rw[I];exact b1.trans b2
  ·rw[I];exact c2
  ·rw[I];exact congrArg Nat.succ d2
  rw[I];intro k l L
  cases k with
  |zero=>
   simp only[Mv,eE] at L;subst L;refine⟨by rw[d1];exact h.1,fun j x Y=>?_⟩;obtain⟨Z,cv,o2,o3⟩:=e1 j x Y;exact⟨Z,cv,by simpa using o2,o3.mono b2.ho⟩
  |succ k=>
   simp only[NJ] at L;obtain⟨Z,o2⟩:=e2 k l L;refine⟨Z,fun j x Y=>?_⟩;obtain⟨p1,cv,p2,p3⟩:=o2 j x Y;exact⟨p1,cv,by rw[show i+(k+1)=i+1+k by omega];exact p2,p3⟩
theorem abm:∀{r:List DC}{bG o n:Nat}{ρ:Ho}{t:HT}(G:Nat→Nat),kP r=true→EA w bG o r→RS P w n ρ t→∃el,(∀m,m<n→el m=G m)∧Laid P w n ρ t ((d9 el r n t).1,(d9 el r n t).2.1) fun ρ'=>(d9 el r n t).2.2.length=r.length∧∀(j:Nat)x,(d9 el r n t).2.2[j]?=some x→eQ x=true∧∃cv,w.cell? ⟨bG,o+j,none⟩=some cv∧VR ρ' x cv
 |[],bG,o,n,ρ,t,G,_,_,M=>⟨G,fun _ _=>rfl,ρ,gr.refl ..,M,rfl,fun k l h=>by simp[d9] at h⟩
 |d::r,bG,o,n,ρ,t,G,O,h,M=>by
  simp only[kP,cU] at O;simp only[EA] at h;obtain⟨⟨U,g1,g2⟩,g3⟩:=h;obtain⟨z,a1,ρ1,b1,c1,d1,e1⟩:=acm G O.1 g2 M;obtain⟨A,Z,Y,b2,c2,d2,e2⟩:=abm z O.2 g3 c1;have hc:fb A d n t=fb z d n t:=QE d n t fun m _ h2=>Z m h2
  have I:d9 A (d::r) n t=((d9 A r (fb z d n t).1 (fb z d n t).2.1).1,(d9 A r (fb z d n t).1 (fb z d n t).2.1).2.1,(fb z d n t).2.2::(d9 A r (fb z d n t).1 (fb z d n t).2.1).2.2):=by
   rw[←hc];rfl
  have hle:=Ln (el:=z) d n t;refine⟨A,fun m hm=>by rw[Z m (jn hm hle)];exact a1 m hm,Y,?_,?_,?_,?_⟩
  ·rw[I];exact b1.trans b2
  ·rw[I];exact c2
  ·rw[I];exact congrArg Nat.succ d2
  rw[I];intro j x L
  cases j with
  |zero=>
   simp only[Mv,eE] at L;subst L;exact⟨e1,U,by simpa using g1,d1.mono b2.ho⟩
  |succ j=>
   simp only[NJ] at L;obtain⟨p1,cv,p2,p3⟩:=e2 j x L;exact⟨p1,cv,by rw[show o+(j+1)=o+1+j by omega];exact p2,p3⟩
end
def VY(el:Nat→Nat)(z:List DC)(n:Nat):Nat×HT×List ai:=d9 el z n .emp
def OL(iM:Tr aQ)(iN:Tr Nat)(N n f:Nat)(z:List DC)(l s:Nat):Prop:=∀el:Nat→Nat,match VY el z n with
 |(n1,t1,A)=>∃H',sZ iM iN .leaf N N f [.agg A] (iL n1 t1)= .ok (.str l s) H'
open Classical in
def yk(iM:Tr aQ)(iN:Tr Nat)(N n f:Nat)(args:List ai)(H:ax):aD:=
 if h:∃(ls:Nat×Nat)(A:List ai)(z:List DC),args=[.agg A]∧bS H je z A∧kP z=true∧OL iM iN N n f z ls.1 ls.2∧aw (vV ls.1 ls.2)= .s ls.1 ls.2 then .ok (.str h.choose.1 h.choose.2) H else .err 96
theorem abn{iM:Tr aQ}{iN:Tr Nat}{N n f:Nat}{args:List ai}{H H':ax}{v:ai}(h:yk iM iN N n f args H= .ok v H'):∃l s A z,args=[.agg A]∧bS H je z A∧kP z=true∧OL iM iN N n f z l s∧v= .str l s∧H'=H:=by
 unfold yk at h
 split at h
 ·rename_i k
  cases h
  obtain⟨A,z,G,h2,I,L,_⟩:=k.choose_spec;exact⟨_,_,A,z,G,h2,I,L,rfl,rfl⟩
 cases h
theorem acn:∀{I:List DC}{vs:List Value}{n:Nat}{ρ:Ho}{t:HT}(G:Nat→Nat),kP I=true→(vs.length=I.length∧∀(i:Nat)d,I[i]?=some d→∃v,vs[i]?=some v∧DW w d v)→RS P w n ρ t→∃el,(∀m,m<n→el m=G m)∧Laid P w n ρ t ((d9 el I n t).1,(d9 el I n t).2.1) fun ρ'=>bR ρ' (d9 el I n t).2.2 vs∧(d9 el I n t).2.2.all eQ=true
 |[],vs,n,ρ,t,G,_,h,O=>by
  have:vs=[]:=su h.1;subst this;exact⟨G,fun _ _=>rfl,ρ,gr.refl ..,O,by simp only[d9,bR],rfl⟩
 |d::r,vs,n,ρ,t,G,U,h,O=>by
  simp only[kP,cU] at U;obtain⟨L,Z⟩:=h
  cases vs with
  |nil=>simp at L
  |cons v vs=>
   obtain⟨v',e0,g2⟩:=Z 0 d rfl;simp only[Mv,eE] at e0;subst e0;obtain⟨z,a1,ρ1,b1,c1,d1,e1⟩:=acm G U.1 g2 O;obtain⟨A,a2,Y,b2,c2,d2,e2⟩:=acn (vs:=vs) z U.2 ⟨by simpa using L,fun i d hd=>by simpa using Z (i+1) d (by simpa using hd)⟩ c1;have hc:fb A d n t=fb z d n t:=QE d n t fun m _ h2=>a2 m h2
   have M:d9 A (d::r) n t=((d9 A r (fb z d n t).1 (fb z d n t).2.1).1,(d9 A r (fb z d n t).1 (fb z d n t).2.1).2.1,(fb z d n t).2.2::(d9 A r (fb z d n t).1 (fb z d n t).2.1).2.2):=by
    rw[←hc];rfl
   have hle:=Ln (el:=z) d n t;refine⟨A,fun m hm=>by rw[a2 m (jn hm hle)];exact a1 m hm,Y,?_,?_,?_,?_⟩
   ·rw[M];exact b1.trans b2
   ·rw[M];exact c2
   ·rw[M];simp only[bR];exact⟨v,vs,rfl,d1.mono b2.ho,d2⟩
   rw[M];simp only[IS,e1,Bool.true_and];exact e2
theorem toldOkD{iM:Tr aQ}{iN:Tr Nat}{N n f:Nat}(M:P.follows .mixedOrders=true)(hT:Ga P iM)(hx:MH P iN)(hn:P.globals.size≤n):Sv P f (yk iM iN N n f):=by
 refine⟨fun args H hm v H' h=>?_,fun args H v H' ρ C w dc h hm oi hR hK hF hG O=>?_⟩
 ·obtain⟨l,s,az,z,_,_,_,_,rfl,rfl⟩:=abn h;exact eH.refl _
 obtain⟨l,s,az,z,rfl,hr,hf,U,rfl,rfl⟩:=abn h;have o9:xZ P w:=Sy hR hG;simp only[bR] at O;obtain⟨v,tl,e1,O,rfl⟩:=O;simp only[VR] at O;obtain⟨vs,rfl,Y,_⟩:=O;have G:vs.toList.length=z.length∧∀(i:Nat)d,z[i]?=some d→∃v,vs.toList[i]?=some v∧DW w d v:=by
  refine⟨by rw[Y.length,hr.length],fun i d hd=>?_⟩;obtain⟨a,I,h2⟩:=hr.get hd;obtain⟨cv,h3,h4⟩:=Y.get i a I;have hfd:oQ d=true:=by
   have:∀(l:List DC)(i:Nat),kP l=true→l[i]?=some d→oQ d=true:=fun l=>by
    induction l with
    |nil=>intro i _ h;simp at h
    |cons x r ih=>
     intro i h hi;simp only[kP,cU] at h
     cases i with
     |zero=>simp at hi;subst hi;exact h.1
     |succ i=>exact ih i h.2 (by simpa using hi)
   exact this z i hf hd
  exact⟨cv,h3,agN hR hK hfd h2 h4⟩
 obtain⟨el,_,A,_,Z,k3,k4⟩:=acn (P:=P) (n:=n) (t:=.emp) (fun _=>0) hf G (RS.start hn o9);obtain⟨H1,PG⟩:=U el;have post:∀{cv w'},c9 A (fun f=>(d9 el z n .emp).2.1.get f) w (iL (d9 el z n .emp).1 (d9 el z n .emp).2.1) (.str l s) H1 cv w'→c9 ρ C w H' (.str l s) H' cv w':=fun hp=>by
  have hk:=hp.Uj (fun f g h e=>Z.ro f g h e);obtain⟨_,Xp,_,_⟩:=hp;exact⟨ρ,by simpa only[VR] using Xp,hk.ext _ _ _,by rw[rU];exact hR.kept hk⟩
 have L:fI A (iL (d9 el z n .emp).1 (d9 el z n .emp).2.1).next H1.next:=fun f g I _=>by
  cases e:A f g with
  |none=>rfl
  |some h=>have:=Z.gE f g h e;have I:(d9 el z n .emp).1≤f:=I;have this:f<(d9 el z n .emp).1:=this;omega
 have hv2:bR A [.agg (d9 el z n .emp).2.2] dc.toList:=by
  rw[e1];simp only[bR,VR];exact⟨_,_,rfl,⟨vs,rfl,k3,k4⟩,rfl⟩
 rcases(LV M hT hx Zp N).sound f [.agg (d9 el z n .emp).2.2] (iL (d9 el z n .emp).1 (d9 el z n .emp).2.1) (.str l s) H1 A (fun f=>(d9 el z n .emp).2.1.get f) w dc PG (gL _) (fun x hx=>Z.wf x hx) Z.r (fun f o _ h=>h) L Z.ru hv2 with⟨I,h2⟩|⟨cv,w',I,h2⟩
 ·exact .inl ⟨I,Calls.mono h2 fun e w'⟨cv,he,hp⟩=>⟨cv,he,post hp⟩⟩
 exact .inr ⟨cv,w',I,post h2⟩
end
def Cq(t:HT)(z:Nat):Nat→ai→Option DC
 |_,.int k n=>some (.i k n)
 |_,.bool b=>some (.b b)
 |_,.str l s=>some (.s l s)
 |_,.fV=>some .nil
 |m+1,.slice f g off l es=>match t.get f with
  |some (.row _ c6 _ n lo _ cs)=>bif Nat.beq c6 es&&Nat.ble lo g&&Nat.ble g n&&Nat.beq (off/es*es) off&&Nat.ble 1 l&&Nat.blt f z then
    ((List.range l).mapM fun i=>match cs.get (off/es+i) with
     |some row=>bif Nat.beq row.length es&&Nat.blt (off/es+i) g then row.mapM (Cq t z m) else none
     |none=>none).map .sl else none
  |_=>none
 |_,_=>none
section
variable{H:ax}
theorem rep_mapM{X:Nat→Prop}{f:ai→Option DC}(z:∀a d,f a=some d→bA H X d a):∀{l:List ai}{r:List DC},l.mapM f=some r→bS H X r l:=by
 intro l
 induction l with
 |nil=>intro r h;simp at h;subst h;simp only[bS]
 |cons x s A=>
  intro r h;simp only[List.mapM_cons,Option.bind_eq_bind,Dy,Option.pure_def,eE] at h;obtain⟨d,G,I,h2,rfl⟩:=h;simp only[bS];exact⟨x,s,rfl,z _ _ G,A h2⟩
theorem aet:∀(m:Nat)(a:ai)(d:DC),Cq H.t H.next m a=some d→bA H je d a:=by
 intro m
 induction m with
 |zero=>
  intro a d h
  cases a<;>simp only[Cq,eE,reduceCtorEq] at h
  all_goals(subst h;simp only[bA])
 |succ m Z=>
  intro a d h
  cases a with
  |slice f g off l es=>
   simp only[Cq] at h
   split at h
   ·rename_i elem c6 aC n lo fl cs ho
    cases A:(Nat.beq c6 es&&Nat.ble lo g&&Nat.ble g n&&Nat.beq (off/es*es) off&&Nat.ble 1 l&&Nat.blt f H.next) with
    |false=>rw[A] at h;simp at h
    |true=>
     rw[A] at h;simp only[cU] at A;obtain⟨⟨⟨⟨⟨I,L⟩,M⟩,O⟩,b5⟩,b6⟩:=A;have I:=cW I;subst I;have L:=aV L;have M:=aV M;have O:=cW O;simp only[cond_true,HA] at h;obtain⟨rows,h1,rfl⟩:=h;obtain⟨k1,k2⟩:=Rd h1;have hlen:rows.length=l:=by rw[k1,Mz]
     simp only[bA];refine⟨f,g,off,c6,by rw[hlen],.inr ⟨fun h=>h,?_,off/c6,O.symm,dF.mW fun i row hi=>?_⟩⟩
     ·simpa[Nat.blt_eq] using b6
     have U:i<l:=by rw[←hlen];exact(List.getElem?_eq_some_iff.1 hi).1
     obtain⟨r',Y,z⟩:=k2 i i (by rw[T8 U]);rw[hi] at Y;cases Y
     split at z
     ·rename_i cells hc
      cases G:(Nat.beq cells.length c6&&Nat.blt (off/c6+i) g) with
      |false=>rw[G] at z;simp at z
      |true=>
       rw[G] at z;simp only[cU] at G;obtain⟨q1,q2⟩:=G;have q1:=cW q1;have q2:off/c6+i<g:=by simpa[Nat.blt_eq] using q2
       refine⟨cells,⟨elem,aC,n,lo,fl,cs,by rw[q1];exact ho,L,M,q2,hc⟩,q1,rep_mapM (fun a d h=>Z a d h) z⟩
     cases z
   cases h
  |_=>simp only[Cq,eE,reduceCtorEq] at h;try(subst h;simp only[bA])
end
section
variable{S:Nat→Bool}{H H1:ax}{X':Nat→Prop}
mutual
theorem RP(I:BN S H1)(A:∀f,H.next≤f→¬X' f):∀{d:DC}{a:ai},gx S a=true→oQ d=true→bA H1 je d a→bA (oP S H1 H) X' d (lE H.next a)
 |.i _ _,a,_,_,h=>by simp only[bA] at h⊢;subst h;rfl
 |.b _,a,_,_,h=>by simp only[bA] at h⊢;subst h;rfl
 |.s _ _,a,_,_,h=>by simp only[bA] at h⊢;subst h;rfl
 |.nil,a,_,_,h=>by simp only[bA] at h⊢;subst h;rfl
 |.raw f n es,a,_,z,_=>by simp[oQ] at z
 |.sl rows,a,G,z,h=>by
  simp only[oQ,cU] at z;simp only[bA] at h⊢;obtain⟨f,g,off,es,rfl,h⟩:=h;simp only[gx] at G;refine⟨f+H.next,g,off,es,rfl,h.imp id fun⟨_,L,q,ho,M⟩=>⟨A _ an,?_,q,ho,Zi I A G z.2 M⟩⟩;show f+H.next<H.next+H1.next;omega
theorem Zi(z:BN S H1)(M:∀f,H.next≤f→¬X' f){f g es:Nat}(A:S f=true):∀{q:Nat}{rows:ah},xJ rows=true→dF H1 je f g es q rows→dF (oP S H1 H) X' (f+H.next) g es q rows
 |_,[],_,_=>trivial
 |q,row::r,G,h=>by
  simp only[xJ,cU] at G;simp only[dF] at h⊢;obtain⟨⟨l,⟨elem,aC,m,lo,fl,cs,O,h2,Y,Z,h5⟩,h6,h7⟩,h8⟩:=h;obtain⟨_,o,ho,I⟩:=z f A;rw[O] at ho;cases ho;obtain⟨L,e,hc⟩:=abj (δ:=H.next) I;obtain⟨l',U,j2,j3⟩:=hc q an;rw[h5] at U;cases U;refine⟨⟨qY H.next l,⟨elem,aC,m,lo,fl,L,?_,h2,Y,Z,j3⟩,by rw[CH,pM];exact h6,Y1 z M j2 G.1 h7⟩,Zi z M A G.2 h8⟩;rw[zT z,bg ⟨an,by rw[show f+H.next-H.next=f by omega];exact A⟩,show f+H.next-H.next=f by omega,O,sw,e,CH,pM]
theorem Y1(G:BN S H1)(I:∀f,H.next≤f→¬X' f):∀{r:List DC}{l:List ai},rA S l=true→kP r=true→bS H1 je r l→bS (oP S H1 H) X' r (qY H.next l)
 |[],_,_,_,h=>by simp only[bS] at h⊢;subst h;rfl
 |d::r,l,z,A,h=>by
  simp only[bS] at h⊢;obtain⟨a,s,rfl,L,h2⟩:=h;simp only[rA,cU] at z;simp only[kP,cU] at A;exact⟨_,_,rfl,RP G I z.1 A.1 L,Y1 G I z.2 A.2 h2⟩
end
end
section
variable{T:aL}{iM:Tr aQ}{iN:Tr Nat}{N n f l s:Nat}
theorem sound_told(h1:T.ft.get f=none)(h2:T.xt.get f=none)(h3:T.zt.get f=some (told iM iN N n f)){H1:ax}{a b:ai}{z e:Int}(he:sZ iM iN .leaf N N f [.str l s] (H0 n)= .ok (.tuple [.agg [a,b],.int .i64 z,.int .i64 e]) H1)
  (U:jl H1 (.tuple [.agg [a,b],.int .i64 z,.int .i64 e]) n (reach H1.t 6 (BO (.tuple [.agg [a,b],.int .i64 z,.int .i64 e])))=true) {c o:DC} (Y:oQ c=true) (Z:oQ o=true) (hc:bA H1 je c a) (ho:bA H1 je o b):
  Sound T f [.d (.s l s)] fun r=>r= .tuple [.agg [.d c,.d o],.d (.i .i64 z),.d (.i .i64 e)]:=by
 intro G X H β ll hr hv;simp only[bc,aE,bA] at hv;obtain⟨_,_,rfl,rfl,rfl⟩:=hv;obtain⟨M,k2,O⟩:=Rk U;generalize hL:reach H1.t 6 (BO (.tuple [.agg [a,b],.int .i64 z,.int .i64 e]))=L at U M k2 O;have A:∀f,f<H.next→(oP (fun f=>L.contains f) H1 H).t.get f=H.t.get f:=fun f I=>by rw[zT O,aX (fun c=>by omega)]
 have hX:∀f,H.next≤f→¬XB X [] β f:=fun f I hx=>by have:=hr.x0 f (GH f hx);omega
 simp only[gx,rA,cU] at M;refine⟨1,.tuple [.agg [lE H.next a,lE H.next b],.int .i64 z,.int .i64 e],oP (fun f=>L.contains f) H1 H,fun lf m _ h=>?_,.tuple [.agg [.d c,.d o],.d (.i .i64 z),.d (.i .i64 e)],[],β,?_,hr.grow (MC _ _) A ?_,?_,by simp only[VV.nb,kH];exact⟨⟨trivial,trivial,trivial⟩,trivial,trivial,trivial⟩,rfl⟩
 ·obtain⟨m,rfl⟩:∃n',m=n'+1:=⟨m-1,an⟩;show ob (T.ft.get f) (ob (T.xt.get f) (ob (T.zt.get f) (.err (Nat.add 10000 f)) fun F=>F _ H) fun c=>vW c _ H) _=_;rw[h1,h2,h3];show told iM iN N n f [.str l s] H=_;simp only[told,he,hL];rw[U];rfl
 ·refine⟨rfl,MC _ _,fun f I=>.inl I,fun b s h=>(by cases h),fun f I _=>A f I⟩
 ·have:=hr.aS;show H.aS≤H.next+H1.next;omega
 simp only[aE,bc,bA];exact⟨_,rfl,_,_,rfl,⟨_,rfl,_,_,rfl,RP O hX M.1.1 Y hc,_,_,rfl,RP O hX M.1.2.1 Z ho,rfl⟩,_,_,rfl,rfl,_,_,rfl,rfl,rfl⟩
theorem sound_toldD(Y:T.ft.get f=none)(h2:T.xt.get f=none)(Z:T.zt.get f=some (yk iM iN N n f)){c o:DC}(hf:kP [c,o]=true)(A:OL iM iN N n f [c,o] l s)(I:aw (vV l s)= .s l s):
  Sound T f [.agg [.d c,.d o]] fun r=>∃st:List UInt8,r= .d (aw st):=by
 intro G X H β ll hr M;simp only[bc,aE] at M;obtain⟨_,_,rfl,⟨cs,rfl,x,t1,rfl,hx,y,t2,rfl,hy,rfl⟩,rfl⟩:=M;have O:eJ H (XB X [] β) H je:=⟨bd _,fun f _ _=>⟨fun k=>k,rfl⟩⟩;have z:∃(ls:Nat×Nat)(U:List ai)(L:List DC),([ai.agg [x,y]]:List ai)=[.agg U]∧bS H je L U∧kP L=true∧OL iM iN N n f L ls.1 ls.2∧aw (vV ls.1 ls.2)= .s ls.1 ls.2:=
  ⟨(l,s),[x,y],[c,o],rfl,by simp only[bS];exact⟨_,_,rfl,hx.lift O,_,_,rfl,hy.lift O,rfl⟩,hf,A,I⟩
 obtain⟨_,_,_,_,_,_,hs⟩:=z.choose_spec;refine⟨1,.str z.choose.1 z.choose.2,H,fun lf m _ h=>?_,.d (.s z.choose.1 z.choose.2),[],β,.refl,hr,by simp only[aE,bA],by simp only[VV.nb],vV z.choose.1 z.choose.2,by rw[hs]⟩;obtain⟨m,rfl⟩:∃n',m=n'+1:=⟨m-1,an⟩;show ob (T.ft.get f) (ob (T.xt.get f) (ob (T.zt.get f) (.err (Nat.add 10000 f)) fun F=>F _ H) fun c=>vW c _ H) _=_;rw[Y,h2,Z];show yk iM iN N n f [.agg [x,y]] H=_;unfold yk;rw[dif_pos z]
end
end Go.Ev
namespace Go.Ev.Pp
def Fc:Tr aQ:=HU [(120,i120),(152,aja),(164,i164),(165,i165),(166,i166),(212,i212),(213,i213),(214,i214),(215,i215),(216,i216),(217,i217),(218,i218),(219,i219),(220,i220),(245,i245),(246,i246),(247,i247),(248,i248),(249,i249),(250,i250),(251,i251),(252,i252),(253,i253),(254,i254),(255,i255),(256,i256),(257,i257),(258,i258),(272,i272),(273,i273),(274,i274),(275,i275),(276,i276),(277,i277),(278,i278),(279,i279),(280,i280),(281,i281),(282,i282),(283,i283),(286,i286),(287,i287),(288,i288),(289,i289),(290,i290),(291,i291),(292,i292),(293,i293),(294,i294),(295,i295),(296,i296),(297,i297),(298,i298),(299,i299),(300,i300),(301,i301)]
end Go.Ev.Pp
namespace Go.Ev.Rp
open Go Go.Ev.Pp
def VZ(l v:Nat):Bool:=Nat.beq (pack (vV l v)) v
theorem Rl:∀(l v:Nat),(vV l v).length=l
 |0,_=>rfl
 |l+1,v=>by simp only[vV,gB,Rl l]
theorem aco{l v:Nat}(h:VZ l v=true):aw (vV l v)= .s l v:=by
 unfold aw;rw[Rl,cW h]
mutual
def rO:Ty→DC→Bool
 |.i k lo hi,.i A z=>decide (k=A)&&decide (lo≤z)&&decide (z≤hi)
 |.b,.b _=>true
 |.s n,.s l v=>Nat.ble l n&&VZ l v
 |.l n row,.sl rows=>Nat.ble rows.length n&&rows.all fun r=>ux row r
 |.l _ _,.nil=>true
 |.x,_=>true
 |_,_=>false
def ux:List Ty→List DC→Bool
 |[],[]=>true
 |t::z,d::A=>rO t d&&ux z A
 |_,_=>false
end
mutual
theorem GP:∀{t:Ty}{d:DC},rO t d=true→t.ok d
 |.i k lo hi,d,h=>by
  cases d<;>simp only[rO,cU,eM,gA] at h
  obtain⟨⟨rfl,z⟩,h2⟩:=h;exact dV z h2
 |.b,d,h=>by
  cases d<;>simp only[rO,gA] at h
  exact eU
 |.s n,d,h=>by
  cases d<;>simp only[rO,cU,gA] at h
  rename_i l v;rw[←aco h.2];exact bH (by rw[Rl];exact aV h.1)
 |.l n row,d,h=>by
  cases d<;>simp only[rO,cU,gA,uf] at h
  ·exact gK
  exact aM (.inl aa) (aV h.1) fun r A=>CT (h.2 r A)
 |.e y,d,h=>by cases d<;>simp[rO] at h
 |.x,d,h=>cg
 |.q p,d,h=>by cases d<;>simp[rO] at h
theorem CT:∀{A:List Ty}{z:List DC},ux A z=true→fk A z
 |[],z,h=>by
  cases z with
  |nil=>exact bm
  |cons _ _=>simp[ux] at h
 |t::A,z,h=>by
  cases z with
  |nil=>simp[ux] at h
  |cons d z=>
   simp only[ux,cU] at h;exact aj (GP h.1) (CT h.2)
end
def A8:DC→Option (ah)
 |.sl r=>some r
 |.nil=>some []
 |_=>none
theorem FQ{d:DC}{w:ah}(h:A8 d=some w):au w d:=by
 cases d<;>simp only[A8,eE,reduceCtorEq] at h
 ·exact .inr ⟨h.symm,aa⟩
 exact .inl (by rw[h])
def agO:List DC→Bool
 |.i _ a::.i _ e::_=>decide (a=0→0≤e)
 |_=>false
def UC(two:Bool):List DC→Bool
 |[d0,d1,d2,d3,d4,d5,I]=>match A8 d1,A8 d2,A8 d3 with
  |some z,some A,some G=>rO .b d0&&Nat.ble z.length 30&&(!two||Nat.ble 1 z.length)&&(z.all fun r=>ux yf r)&&Nat.ble A.length 4&&(A.all fun r=>ux [.i .i64 0 4,.i .i64 (-1) ((z.length:Int) -1),.s 1000] r)&&(A.all agO)&&Nat.ble 1 G.length&&Nat.ble G.length 2&&(G.all fun r=>ux yg r)&&rO (.i .i64 (-1) 30) d4&&rO .b d5&&rO (.l 4 [.i .i64 0 ((z.length:Int) -1)]) I
  |_,_,_=>false
 |_=>false
theorem coreB_ok{two:Bool}{r:List DC}(h:UC two r=true):∃ne,ne≤30∧(two=true→1≤ne)∧fk (SG ne) r:=by
 unfold UC at h
 split at h
 ·rename_i d0 d1 d2 d3 d4 d5 d6
  split at h
  ·rename_i G I L M O U;simp only[cU,uf,oW,gD] at h;obtain⟨⟨⟨⟨⟨⟨⟨⟨⟨⟨⟨⟨Y,Z⟩,z⟩,a3⟩,a4⟩,a5⟩,a6⟩,a7⟩,a8⟩,a9⟩,b1⟩,b2⟩,b3⟩:=h;refine⟨G.length,aV Z,fun ht=>?_,aj (GP Y) (aj (bT ⟨G,FQ M,aa,fun r A=>CT (a3 r A)⟩) (aj (bT ⟨I,FQ O,aV a4,fun r A=>CT (a5 r A),fun q a e rest hg ha=>?_⟩) (aj (bT ⟨L,FQ U,aV a7,aV a8,fun r A=>CT (a9 r A)⟩) (aj (GP b1) (aj (GP b2) (aj (GP b3) bm))))))⟩
   ·rcases z with z|z
    ·rw[ht] at z;cases z
    exact aV z
   have:=a6 _ (rj hg);simp only[agO,eM] at this;exact this ha
  cases h
 cases h
def V0(c o:DC):Bool:=match A8 c,A8 o with
 |some w,some wo=>Nat.ble 1 w.length&&Nat.ble w.length 2&&(w.all fun r=>UC (Nat.ble 2 w.length) r)&&Nat.ble wo.length 2&&Nat.ble w.length (wo.length+1)&&(wo.all fun r=>ux bn r)
 |_,_=>false
theorem selB_ok{T:aL}{c o:DC}(h:V0 c o=true)(A:Sound T 166 [.agg [.d c,.d o]] fun r=>∃s:List UInt8,r=dS s):agE T c o:=by
 unfold V0 at h
 split at h
 ·rename_i w wo G I;simp only[cU,uf] at h;obtain⟨⟨⟨⟨⟨L,M⟩,O⟩,U⟩,Y⟩,a6⟩:=h;refine⟨w,wo,FQ G,aV L,aV M,fun r z=>?_,FQ I,aV U,aV Y,fun r z=>CT (a6 r z),A⟩;obtain⟨ne,Z,k2,k3⟩:=coreB_ok (O r z);exact⟨ne,Z,fun k=>k2 (fR k),k3⟩
 cases h
def ajs(el:Nat→Nat)(c o:DC)(l s:Nat):Bool:=match VY el [c,o] 100 with
 |(n1,t1,z)=>match sZ Fc .leaf .leaf 300 300 166 [.agg z] (iL n1 t1) with
  |.ok (.str A s') _=>Nat.beq A l&&Nat.beq s' s
  |_=>false
def PM(el:Nat→Nat)(l s:Nat):Bool:=match sZ Fc .leaf .leaf 300 300 120 [.str l s] (H0 100) with
 |.ok (.tuple [.agg [a,b],.int .i64 z,.int .i64 e]) H1=>_root_.Go.Ev.jl H1 (.tuple [.agg [a,b],.int .i64 z,.int .i64 e]) 100 (reach H1.t 6 (BO (.tuple [.agg [a,b],.int .i64 z,.int .i64 e])))&&decide (-9223372036854775808≤z∧z≤9223372036854775807)&&decide (-9223372036854775808≤e∧e≤9223372036854775807)&&(match Cq H1.t H1.next 6 a,Cq H1.t H1.next 6 b with
  |some c,some o=>kP [c,o]&&(!decide (e=0)||(VZ l s&&V0 c o&&ajs el c o l s))
  |_,_=>false)
 |_=>false
theorem txB_ok{T:aL}(p1:T.ft.get 120=none)(p2:T.xt.get 120=none)(p3:T.zt.get 120=some (told Fc .leaf 300 100 120))(q1:T.ft.get 166=none)(q2:T.xt.get 166=none)(q3:T.zt.get 166=some (yk Fc .leaf 300 100 166)){I:List UInt8}(Y:I.length≤1000)(h:∀el,PM el I.length (pack I)=true):xI T I:=by
 have h0:=h fun _=>0
 unfold PM at h0
 split at h0
 ·rename_i a b z e H1 O;simp only[cU,eM] at h0;obtain⟨⟨⟨Z,k2⟩,k3⟩,A⟩:=h0
  split at A
  ·rename_i c o U ho;simp only[cU,oW,gD,gQ] at A;obtain⟨A,k5⟩:=A;simp only[kP,cU] at A;have hs:=sound_told (T:=T) p1 p2 p3 O Z A.1 A.2.1 (aet _ _ _ U) (aet _ _ _ ho);refine⟨Y,hs.mono fun r hr=>⟨c,o,z,e,hr,k2,k3,fun h0=>?_⟩⟩;obtain⟨⟨s1,s2⟩,s3⟩:=k5.resolve_left (fun k=>k h0);refine selB_ok s2 (sound_toldD q1 q2 q3 (l:=I.length) (s:=pack I) (by simp only[kP,cU];exact A) (fun el=>?_) (aco s1));have L:=h el;unfold PM at L;rw[O] at L;simp only[U,ho,cU,oW,gD,gQ] at L;obtain⟨_,_,k6⟩:=L;obtain⟨_,G⟩:=k6.resolve_left (fun k=>k h0);unfold ajs at G;generalize VY el [c,o] 100=q at G⊢;obtain⟨n1,t1,az⟩:=q;simp only at G⊢
   split at G
   ·rename_i l' s' H' M;simp only[cU] at G;rw[←cW G.1,←cW G.2];exact⟨H',M⟩
   cases G
  cases A
 cases h0
end Go.Ev.Rp
namespace Go.Ev.Rp
open Go Go.Ev.Pp
def nS:List (List UInt8):=[[48],[49],[45,32,49],[78,85,76,76]]
def sS:List (List UInt8):=[[39,39],[39,97,39],[39,98,39,39,39]]
def tS:List (List UInt8):=[[116],[117]]
def uS:List (List UInt8):=[[117],[116]]
def tl(k a b c d:Nat):List UInt8:=((XU (nS.getD a []) (sS.getD b []) (tS.getD c []) (uS.getD d []))[k]?).getD []
def ck(el:Nat→Nat)(l:List UInt8):Bool:=Nat.ble l.length 1000&&PM el l.length (pack l)
end Go.Ev.Rp
namespace Go.Ev.Rp
open Go Go.Ev.Pp
theorem idxN{T:aL}(F:FT T){g:Nat}{z A a6 G I a9:DC}:bW T 58 [dN,.fn 34 [.vp 1003 0]] [(1004,.bK g (.one 29 96 [.d z,.d A,.d a6,.d G,.d I,.d a9])),(1003,.one 61 8 [.vp 1004 0])] fun r B=>r= .d (dJ (-1))∧B=[(1004,.bK g (.one 29 96 [.d z,.d A,.d a6,.d G,.d I,.d a9])),(1003,.one 61 8 [.vp 1004 0])]:=by
 refine gq F.q58 aa (bV 8 aa (Ad aa ?_));refine ro 3 aa (bh [8,7] [1003,1004] aa aa (fun e0 L k VE B=>k=0∧ak e0 VE∧ak L B) ?_ (k:=0) ⟨aa,⟨aa,aa,trivial⟩,⟨aa,aa,trivial⟩⟩);rintro _ VE B⟨rfl,M,O⟩;refine aT _ _ M O (rc 5 aa ?_);refine cF aa ?_ ?_<;>intro U
 ·exact absurd U ao
 exact rc 6 aa (⟨_,[(1004,.bK g (.one 29 96 [.d z,.d A,.d a6,.d G,.d I,.d a9])),(1003,.one 61 8 [.vp 1004 0])],aa,⟨aa,aa,trivial⟩,aa,aa⟩)
theorem delN{T:aL}(F:FT T){g:Nat}{z A a6 G I a9:DC}:bW T 33 [dN,.fn 34 [.vp 1003 0]] [(1004,.bK g (.one 29 96 [.d z,.d A,.d a6,.d G,.d I,.d a9])),(1003,.one 61 8 [.vp 1004 0])] fun r B=>r=dN∧B=[(1004,.bK g (.one 29 96 [.d z,.d A,.d a6,.d G,.d I,.d a9])),(1003,.one 61 8 [.vp 1004 0])]:=by
 refine gq F.q33 aa (bV 8 aa (iP (dc:=[dN,.fn 34 [.vp 1003 0]]) (Bi:=[(1004,.bK g (.one 29 96 [.d z,.d A,.d a6,.d G,.d I,.d a9])),(1003,.one 61 8 [.vp 1004 0])]) [(1004,1004),(1003,1003)] 3000 aa aa aa aa aa aa aa ⟨aa,aa,⟨aa,aa,trivial⟩⟩ (idxN F) ?_));rintro _ _⟨rfl,rfl⟩;exact ro 8 aa (eA aa aa (rc 6 aa (⟨_,[(1004,.bK g (.one 29 96 [.d z,.d A,.d a6,.d G,.d I,.d a9])),(1003,.one 61 8 [.vp 1004 0])],aa,⟨aa,aa,trivial⟩,aa,aa⟩)))
theorem delP{T:aL}(F:FT T){g:Nat}{G I a6 L a9:DC}{z:ah}(M:af gj z)(O:(z.length:Int)≤100000)(cb:tJ.ok G)(cq:tJ.ok I){ca:Int}(qf: -9223372036854775808≤ca)(qg:ca≤9223372036854775807){A:ah}(U:au A L)(Y:A.length≤20)(Z:af ga A):
  bW T 33 [.bs 1001 z.length 6,.fn 34 [.vp 1003 0]] [(1001,.arr 48 64 6 z.length z),(1004,.bK g (.one 29 96 [.d G,.d I,.d a6,.d (dJ ca),.d L,.d a9])),(1003,.one 61 8 [.vp 1004 0])] fun r B=>∃y0,r= .d y0∧au (z.filter (jl ca A)) y0∧B=[(1004,.bK g (.one 29 96 [.d G,.d I,.d a6,.d (dJ ca),.d L,.d a9])),(1004,.one 29 96 [.d G,.d I,.d a6,.d (dJ ca),.d L,.d a9]),(1003,.one 61 8 [.vp 1004 0])]:=by
 refine bW.pinned (c:=1004) (g:=g) (s:=.one 29 96 [.d G,.d I,.d a6,.d (dJ ca),.d L,.d a9]) aa aa trivial ((delF (a6:=a6) (a9:=a9) F M ae O cb cq cg qf qg U Y Z cg).sameB fun b=>?_) fun r B h=>?_
 ·simp only[cP]
  by_cases h1:1001=b
  ·subst h1;simp
  by_cases h2:1004=b
  ·subst h2;simp
  simp[h1,h2]
 obtain⟨y0,bt,rfl,rfl,hd, -, -, -,rfl⟩:=h;exact⟨_,aa,y0,aa,hd,aa⟩
theorem aar{T:aL}{VE:bb}{B:aK}{Q:VV→aK→Prop}{n m:Nat}{a x:aG}{b j o es elem aC lo f:Nat}{rows:ah}{row z:List DC}{v:VV}{new:List VV}(A:rows.length=m)(G:a.vv VE=some (.bp b m j o es))(I:aF B b=some (.bK f (.arr elem aC es lo rows)))(L:x.vv VE=some v)(M:v.cells=some new)(O:gG new=some z)(U:z.length=n)(h0:0<n)(Y:o+n≤es)
  (Z:rows[j]?=some row) (hq:Q .undef ((b,.bK f (.arr elem aC es m (rows.set j (jV row o z))))::B)):VI T (.store n a x) VE B [b] Q:=by
 subst A;exact vi_storePB G I L M O U h0 Y Z hq
def tD(z:Int)(L:ah)(r r':List DC):Prop:=∃A v v' k G f f' c I x y w,r=[A,v,k,f,c,x]∧r'=[A,v',G,f',I,y]∧
 (∃w w',au w v∧au w' v'∧lO A3 w w'∧af dX w')∧(∃w,au w k∧au w G)∧(∃w,au w f∧au w f')∧(∃w w',au w c∧au w' I∧lO Au w w'∧af dW w')∧au w x∧au (w.filter (jl z L)) y
theorem aeu{T:aL}(F:FT T){g G nv mv:Nat}{Z a1 a5:DC}{I A:ah}{mK:da}(hO:gg I A mK)(cY:I.length≤16)(bY:af (d8 nv mv) I)(cV:tJ.ok Z)(bX:tJ.ok a1){O:Int}(qf: -9223372036854775808≤O)(qg:O≤9223372036854775807){a4:DC}{L:ah}(dE:au L a4)(e9:L.length≤20)(dk:af ga L)(mL:mv≤100000):
  GK T 15 [.k (.ptr g 1 0)] (mK++[(G,.arr 43 136 6 A.length A)]++[(g,.one 29 96 [.d Z,.d a1,.d (.raw G A.length 6),.d (dJ O),.d a4,.d a5])]) fun r fs=>∃W,lO (tD O L) I W∧fs=[(g,.one 29 96 [.d Z,.d a1,.d (.raw G W.length 6),.d (dJ O),.d a4,.d a5]),(G,.arr 43 136 6 W.length W)]:=by
 refine QT F.q15 aa ?_;have hlen:=hO.len;refine kp (abc (cT:=(g,.one 29 96 [.d Z,.d a1,.d (.raw G A.length 6),.d (dJ O),.d a4,.d a5])::(G,.arr 43 136 6 A.length A)::mK) ?_ (nE 2000 aa aa (nE 2002 aa aa (tH (k:=0) (v':=.vp 2000 0) aa (fun H X β a Y h=>Dc (Y 2000 g (.one 29 96 [.d Z,.d a1,.d (.raw G A.length 6),.d (dJ O),.d a4,.d a5]) aa trivial) h) (gb ?_)))))
 ·refine(T' _ _).trans (.cons _ (T' _ _))
 refine gf (bZ 1 aa (gf (di 3 aa (aq (KD aa aa aa ?_)))));refine mS 7 (.bs 2002 A.length 6) aa (fun H X β a Y h=>Db (Y 2002 G (.arr 43 136 6 A.length A) aa trivial) h) (aq (Gc aa ?_));refine bZ 1 aa ?_;refine xz (R:=fun x VE B fs=>x= .normal∧∃W:ah,fs=[]∧W.length=A.length∧lO (tD O L) I W∧ak [(1,.one 61 8 [.vp 2000 0]),(2000,.bK g (.one 29 96 [.d Z,.d a1,.d (.raw G A.length 6),.d (dJ O),.d a4,.d a5])),(2002,.bK G (.arr 43 136 6 A.length W))] B) (Rh (ab8 (fun kk VE B fs=>∃(v9:Int)(W:ah),0≤v9∧v9≤(A.length:Int)∧W.length=A.length∧gg (I.drop v9.toNat) (A.drop v9.toNat) fs∧(∀q:Nat,v9≤q→W[q]?=A[q]?)∧(∀(q:Nat)r r',(q:Int)<v9→I[q]?=some r→W[q]?=some r'→tD O L r r')∧kk=((A.length:Int) -v9).toNat∧ak [(1,.vp 1 0),(8,.d (dJ (A.length:Int))),(9,.d (dJ v9))] VE∧ak [(1,.one 61 8 [.vp 2000 0]),(2000,.bK g (.one 29 96 [.d Z,.d a1,.d (.raw G A.length 6),.d (dJ O),.d a4,.d a5])),(2002,.bK G (.arr 43 136 6 A.length W))] B) ?_ (k:=((A.length:Int) -0).toNat) ⟨0,A,ae,ae,rfl,hO,fun _ _=>rfl,(fun q _ _ h=>by omega),rfl,⟨rfl,rfl,rfl,trivial⟩,⟨rfl,rfl,rfl,trivial⟩⟩)) ?_
 ·rintro _ VE B fs⟨v9,W,f0,f1,hW,hO,hR,hD,rfl,hV,hB⟩
  by_cases lT:v9<(A.length:Int)
  ·obtain⟨j,hj,kj⟩:=bx (z:=v9) (n:=A.length) f0 lT;subst hj;simp only[Ed] at hO;rw[Br (l:=I) (i:=j) an,Br (l:=A) (i:=j) kj] at hO;simp only[gg] at hO;obtain⟨l,cT,rfl,hc,hO'⟩:=hO;obtain⟨nm,v,v',k,k',f,f',c,c',x,x',er,er',cv,ck,cf,cc,hx⟩:=hc;have bQ:I[j]?=some [nm,v,k,f,c,x]:=by rw[←er];exact dx _
   have PN:W[j]?=some [nm,v',k',f',c',x']:=by rw[hR j (qR _),←er'];exact dx _
   have agP:∀r',tD O L [nm,v,k,f,c,x] r'→(W.set j r').length=A.length∧(∀q:Nat,((j:Nat):Int)+1≤q→(W.set j r')[q]?=A[q]?)∧(∀(q:Nat)r PO,(q:Int)<((j:Nat):Int)+1→I[q]?=some r→(W.set j r')[q]?=some PO→tD O L r PO):=fun r' om=>by
    refine⟨by rw[jA];exact hW,fun q hq=>?_,fun q r PO hq h1 h2=>?_⟩
    ·rw[MA an];exact hR q an
    by_cases e:q=j
    ·subst e;rw[HB an] at h2;rw[bQ] at h1
     cases h1;cases h2;exact om
    rw[MA (fun k=>e k.symm)] at h2;exact hD q r PO an h1 h2
   have Em:=lJ bY bQ;have Cr:(Ty.l mv gj).ok x:=by
    obtain⟨_,_,e_,_,hr⟩:=dw Em;cases e_;obtain⟨_,_,e_,_,hr⟩:=dw hr;cases e_;obtain⟨_,_,e_,_,hr⟩:=dw hr;cases e_;obtain⟨_,_,e_,_,hr⟩:=dw hr;cases e_;obtain⟨_,_,e_,_,hr⟩:=dw hr;cases e_;obtain⟨_,_,e_,h5,hr⟩:=dw hr;cases e_;exact h5
   obtain⟨M,mM,fo,lH⟩:=Ty.aM Cr;rcases hx with⟨rfl,rfl,rfl⟩|⟨w,gi,rfl,rfl,rfl⟩
   ·refine xz (R:=fun xx bj B' U=>U=cT∧(xx= .normal∧∃r',tD O L [nm,v,k,f,c,.nil] r'∧ak [(1,.vp 1 0),(8,.d (dJ (A.length:Int))),(9,.d (dJ (((j:Nat):Int)+1)))] bj∧ak [(1,.one 61 8 [.vp 2000 0]),(2000,.bK g (.one 29 96 [.d Z,.d a1,.d (.raw G A.length 6),.d (dJ O),.d a4,.d a5])),(2002,.bK G (.arr 43 136 6 A.length (W.set j r')))] B')) (mg ?_) ?_
    ·show VC T _ VE B _;refine aT _ _ hV hB (dq (bZ 1 aa (eR (eA aa (decide_eq_true lT) (jw (eR (jN (dq (bZ 2 aa ?_)))))))));refine dq (di 3 aa (aq (KD aa aa aa ?_)));refine mS 15 (.bs 2002 A.length 6) aa (fun H X β a Y h=>Db (Y 2002 G (.arr 43 136 6 A.length W) aa trivial) h) (di 1 aa (aq (eP aa aa kj ?_)));refine bZ 1 aa (iu (di 4 aa (aq (ZE (b:=2002) (rows:=W) aa aa (bd _) an kj PN aa ?_))));refine di 1 aa (aq (iP (dc:=[dN,.fn 34 [.vp 1003 0]]) (Bi:=[(1004,.bK g (.one 29 96 [.d Z,.d a1,.d (.raw G A.length 6),.d (dJ O),.d a4,.d a5])),(1003,.one 61 8 [.vp 1004 0])]) [(1004,2000),(1003,1)] 3000 aa aa aa aa aa aa aa ⟨aa,aa,⟨aa,aa,trivial⟩⟩ (delN F) (fun r1 B1 wX=>?_)));obtain⟨rfl,rfl⟩:=wX;refine di 2 aa (iT (aar (b:=2002) (rows:=W) hW aa aa aa aa aa aa ao ao PN ?_));refine mc (iu (aq (bB aa aa ae ae ?_)));exact bZ 1 aa (⟨aa,aa,[nm,v',k',f',c',.nil],⟨nm,v,v',k,k',f,f',c,c',_,.nil,_,aa,aa,cv,ck,cf,cc,(.inr ⟨aa,aa⟩:au [] .nil),.inr ⟨aa,aa⟩⟩,⟨aa,aa,aa,trivial⟩,⟨aa,aa,aa,trivial⟩⟩)
    rintro xx bj B' U⟨rfl,rfl,r',Y,kV,kB⟩;obtain⟨s1,s2,s3⟩:=agP r' Y;exact gb ⟨_,(by omega:((A.length:Int) -(((j:Nat):Int)+1)).toNat<_),((j:Nat):Int)+1,W.set j r',an,an,s1,(by rw[show(((j:Nat):Int)+1).toNat=j+1 by omega];exact hO'),s2,s3,rfl,kV,kB⟩
   obtain rfl:M=w:=au.uniq mM (.inl rfl);refine kp (iQ _ _ hV hB (nE 2001 aa aa (gb ?_)));refine xz (R:=fun xx bj B' U=>U=cT∧(xx= .normal∧∃r',tD O L [nm,v,k,f,c,.sl M] r'∧ak [(1,.vp 1 0),(8,.d (dJ (A.length:Int))),(9,.d (dJ (((j:Nat):Int)+1)))] bj∧ak [(1,.one 61 8 [.vp 2000 0]),(2000,.bK g (.one 29 96 [.d Z,.d a1,.d (.raw G A.length 6),.d (dJ O),.d a4,.d a5])),(2002,.bK G (.arr 43 136 6 A.length (W.set j r')))] B')) (mg ?_) ?_
   ·refine dq (bZ 1 aa (eR (eA aa (decide_eq_true lT) (jw (eR (jN (dq (bZ 2 aa (dq ?_)))))))));refine di 3 aa (aq (KD aa aa aa ?_));refine mS 15 (.bs 2002 A.length 6) aa (fun H X β a Y h=>Db (Y 2002 G (.arr 43 136 6 A.length W) aa trivial) h) (di 1 aa (aq (eP aa aa kj ?_)));refine bZ 1 aa (iu (di 4 aa (aq (ZE (b:=2002) (rows:=W) aa aa (bd _) an kj PN aa ?_))));refine mS 22 (.bs 2001 M.length 6) aa (fun H X β a Y h=>Db (Y 2001 gi (.arr 48 64 6 M.length M) aa trivial) h) (di 1 aa (tF 2001 aa (aq (iP (dc:=[.bs 1001 M.length 6,.fn 34 [.vp 1003 0]]) (Bi:=[(1001,.arr 48 64 6 M.length M),(1004,.bK g (.one 29 96 [.d Z,.d a1,.d (.raw G A.length 6),.d (dJ O),.d a4,.d a5])),(1003,.one 61 8 [.vp 1004 0])]) [(1001,2001),(1004,2000),(1003,1)] 3000 aa aa aa aa aa aa aa ⟨aa,aa,⟨aa,aa,⟨aa,aa,trivial⟩⟩⟩ (delP F lH ae cV bX qf qg dE e9 dk) (fun r1 B1 wX=>?_)))));obtain⟨y1,rfl,Kd,rfl⟩:=wX;refine di 2 aa (iT (aar (b:=2002) (rows:=W) hW aa aa aa aa aa aa ao ao PN ?_));refine mc (iu (aq (bB aa aa ae ae ?_)));exact bZ 1 aa (⟨aa,aa,[nm,v',k',f',c',y1],⟨nm,v,v',k,k',f,f',c,c',_,y1,_,aa,aa,cv,ck,cf,cc,(.inl aa:au M (.sl M)),Kd⟩,⟨aa,aa,aa,trivial⟩,⟨aa,aa,aa,trivial⟩⟩)
   rintro xx bj B' U⟨rfl,rfl,r',Y,kV,kB⟩;obtain⟨s1,s2,s3⟩:=agP r' Y;exact gb ⟨_,(by omega:((A.length:Int) -(((j:Nat):Int)+1)).toNat<_),((j:Nat):Int)+1,W.set j r',an,an,s1,(by rw[show(((j:Nat):Int)+1).toNat=j+1 by omega];exact hO'),s2,s3,rfl,kV,kB⟩
  refine mg (aT _ _ hV hB (dq (bZ 1 aa (eR (dn aa (decide_eq_false lT) (mQ ?_))))));refine⟨rfl,W,?_,hW,⟨an,fun q r r' h1 h2=>hD q r r' (by have:=(List.getElem?_eq_some_iff.1 h1).1;omega) h1 h2⟩,⟨rfl,rfl,rfl,trivial⟩⟩;rw[NI an,NI an] at hO;exact hO
 rintro xx VE B fs⟨rfl,W,rfl,hW,hr,hB⟩;refine iQ [] _ trivial hB (tG (t:=.one 29 96 [.d Z,.d a1,.d (.raw G A.length 6),.d (dJ O),.d a4,.d a5]) 2000 aa trivial (jy aa) aa (tG (t:=.arr 43 136 6 W.length W) 2002 aa trivial trivial aa (gb ?_)));exact⟨[],rfl,trivial,W,hr,by rw[hW];rfl⟩
end Go.Ev.Rp
namespace Go.Ev.Rp
open Go Go.Ev.Pp
theorem pruned_ok{I:Int}{U G W:ah}{nv mv:Nat}(h:lO (tD I U) G W)(Y:af (d8 nv mv) G):af (d8 nv mv) W:=fun r Z=>by
 obtain⟨q,hq,rfl⟩:=List.mem_iff_getElem.1 Z;have h0:G[q]?=some (G[q]'(by have:=h.1;omega)):=dx _;have h1:W[q]?=some W[q]:=dx hq;obtain⟨nm,v,v',kk,k',f,f',c,c',x,y,w,e,e',⟨w1,w2,m1,m2,m3,o1⟩,⟨w3,m4,m5⟩,⟨w4,m6,m7⟩,⟨w5,w6,m8,m9,L,o2⟩,M,O⟩:=h.2 q _ _ h0 h1;have z:=lJ Y h0;rw[e] at z;rw[e'];obtain⟨_,_,A,p1,z⟩:=dw z;cases A;obtain⟨_,_,A,p2,z⟩:=dw z;cases A;obtain⟨_,_,A,p3,z⟩:=dw z;cases A;obtain⟨_,_,A,p4,z⟩:=dw z;cases A;obtain⟨_,_,A,p5,z⟩:=dw z;cases A;obtain⟨_,_,A,p6,z⟩:=dw z;cases A;obtain⟨u2,i2,l2,_⟩:=Ty.aM p2;obtain rfl:=au.uniq i2 m1;obtain⟨u3,i3,l3,r3⟩:=Ty.aM p3;obtain rfl:=au.uniq i3 m4;obtain⟨u4,i4,l4,r4⟩:=Ty.aM p4;obtain rfl:=au.uniq i4 m6;obtain⟨u5,i5,l5,_⟩:=Ty.aM p5;obtain rfl:=au.uniq i5 m8;obtain⟨u6,i6,l6,r6⟩:=Ty.aM p6;obtain rfl:=au.uniq i6 M;exact aj p1 (aj (aM m2 (by have:=m3.1;omega) o1) (aj (aM m5 l3 r3) (aj (aM m7 l4 r4) (aj (aM m9 (by have:=L.1;omega) o2) (aj (aM O (eT (agl _ _) l6) (aap r6)) bm)))))
end Go.Ev.Rp
namespace Go.Ev.Rp
open Go Go.Ev.Pp
attribute [local irreducible] VC VO VQ VI Sound bW
theorem ajt{T:aL}(F:FT T){aI:Int}(A:(-9223372036854775808)≤aI)(G:aI≤9223372036854775807):Sound T 72 [.d (dJ aI)] fun r=>∃z,r=dB z∧(z=true↔False):=by
 exact bk F.q72 aa (r0x 12 aa (bN aa aa ⟨(!decide (aI=aI)),aa,bI⟩))
theorem aju{T:aL}(F:FT T){aI:Int}(Y:(-9223372036854775808)≤aI)(Z:aI≤9223372036854775807){aN:Int}(jJ:(-9223372036854775808)≤aN)(jK:aN≤9223372036854775807):Sound T 40 [.d (dJ aI),.d (dJ aN)] fun r=>∃G,r= .d (dJ G)∧((-1)≤G∧G≤1∧((G<0↔aI<aN)∧(G=0↔aI=aN))):=by
 refine bk F.q40 aa (bV 7 aa (aA aa (ajt (aI:=aI) F ae ae) ?_));rintro _ _⟨I,rfl,A⟩;refine aP 5 aa (aA aa (ajt (aI:=aN) F ae ae) ?_);rintro _ _⟨L,rfl,z⟩;refine ro 7 aa ?_;refine cF aa ?_ ?_<;>intro M
 ·have k3:=A.1 (by simpa using M);refine rc 5 aa ?_;refine cF aa ?_ ?_<;>intro O
  ·have k4:=z.1 (by simpa using O);exact W
  have k4:¬_:=fun p=>absurd (z.2 p) (by simpa using O)
  exact W
 have k3:¬_:=fun p=>absurd (A.2 p) (by simpa using M)
 refine rc 6 aa ?_;refine cF aa ?_ ?_<;>intro U
 ·have k5:=z.1 (by simpa using U);exact W
 have k5:¬_:=fun p=>absurd (z.2 p) (by simpa using U)
 exact W
theorem aev{T:aL}(F:FT T){O U:DC}{aI:Int}(jL:(-9223372036854775808)≤aI)(jf:aI≤9223372036854775807)(A:tJ.ok O)(G:tJ.ok U){aZ:Int}(ij:(-9223372036854775808)≤aZ)(ik:aZ≤9223372036854775807):Sound T 39 [.agg [.d (dJ aI),.d O,.d U],.d (dJ aZ)] fun r=>∃z,r= .d (dJ z)∧((-1)≤z∧z≤1∧((z<0↔aI<aZ)∧(z=0↔aI=aZ))):=by
 refine bk F.q39 aa ?_;rcases A,G with⟨⟨aN,rfl,Y,Z⟩,⟨bo,rfl,lA,lB⟩⟩
 refine bV 10 aa (aA aa (aju (aI:=aI) (aN:=aZ) F ae ae ae ae) ?_);rintro _ _⟨dG,rfl,I,L,M⟩;exact W
theorem norm1{T:aL}(F:FT T){M O:DC}{aI:Int}(jL:(-9223372036854775808)≤aI)(jf:aI≤9223372036854775807)(z:tJ.ok M){bo:Int}(nz:(-9223372036854775808)≤bo)(mI:bo≤9223372036854775807)(A:tJ.ok O):Sound T 74 [.agg [.d (dJ aI),.d M],.agg [.d (dJ bo),.d O]] fun r=>∃U,r= .d U∧(Ty.i .i64 (-1) 1).ok U:=by
 refine bk F.q74 aa ?_;rcases z,A with⟨⟨aN,rfl,Y,Z⟩,⟨aZ,rfl,kC,kD⟩⟩
 refine bV 12 aa (aA aa (aju (aI:=aI) (aN:=bo) F ae ae ae ae) ?_);rintro _ _⟨dG,rfl,G,I,L⟩;exact W
end Go.Ev.Rp
namespace Go.Ev.Rp
open Go Go.Ev.Pp
attribute [local irreducible] VC VO VQ VI Sound bW
def cutAt(w:ah)(t c:Int):Prop:=∀(q:Nat)(z:Int)(rest:List DC),w[q]?=some (.i .i64 z::rest)→(z<t↔(q:Int)<c)∧(z=t↔(q:Int)=c)
theorem bsP{T:aL}(F:FT T){cc:Int}{a0:DC}{G:ah}(I:au G a0)(cM:G.length≤20)(L:af ga G){aN:Int}(jJ:(-9223372036854775808)≤aN)(jK:aN≤9223372036854775807)(Xk:0≤cc)(zh:cc≤G.length)(Fe:cutAt G aN cc):Sound T 38 [.d a0,.d (dJ aN),.fn 39 []] fun r=>∃y0 y1,r= .tuple [.d (dJ y0),dB y1]∧(0≤y0∧y0≤20∧(y0=cc))∧(y1=true↔(cc<(G.length:Int))):=by
 refine bk F.q38 aa (bV 8 aa (aR aa I ?_));refine ro 10 aa (bh [8,7,6,2,1,0] [] aa aa (fun e0 b0 k VE B=>∃z A,ak ((9,.d (dJ z))::(10,.d (dJ A))::e0) VE∧ak b0 B∧k=(A-z).toNat∧(0≤z∧z≤cc)∧(cc≤A∧A≤(G.length:Int))) ?_ fin);rintro _ VE B⟨z,A,hV,hB,rfl,bU,cN⟩;refine aT _ _ hV hB (rc 7 aa ?_);refine ay aa ?_ ?_<;>intro g1
 ·refine aB 6 aa (bB aa aa ae ae ?_);refine aq (eO aa ao ae ae ?_);refine aq (vi_shr1 aa aa aa ae ?_);refine aq (eO aa ao ae ae ?_);refine ro 7 aa ?_;obtain⟨_,⟨M,rfl,qJ,sd⟩,fJ,O,fW,U,bQ⟩:=qI ((z+A)/2) L;refine aq (aH aa aa I ae bQ aa ?_);refine ro 2 aa ?_;have hcu1:=Fe _ _ _ dZ;refine aq (Rc aa aa (jy aa) (aev (aI:=M) (aZ:=aN) F ae ae O U ae ae) ?_);rintro _ _⟨jb,rfl,agQ,agR,nP⟩;exact W
 refine rc 8 aa ?_;refine bu aa ?_ ?_<;>intro g5
 ·refine ro 3 aa ?_;obtain⟨_,⟨Y,rfl,Ax,Ay⟩,yQ,Z,OM,DN,eX⟩:=qI z L;refine bw aa aa (aH aa aa I ae eX aa ?_);refine ro 2 aa ?_;have hcu1:=Fe _ _ _ dZ;refine bw aa aa (Rc aa aa (jy aa) (aev (aI:=Y) (aZ:=aN) F ae ae Z DN ae ae) ?_);rintro _ _⟨sL,rfl,ly7_0,uy7_0,oR⟩;refine eV 6 aa ?_;exact bN rfl rfl ⟨z,decide (sL=0),rfl,⟨ae,ae,ae⟩,(by first|omega|(simp only[eM,gA,false_iff,true_iff];omega))⟩
 refine ro 6 aa ?_;skip;refine rpx 7 aa ?_;exact bN rfl rfl ⟨z,false,rfl,⟨ae,ae,ae⟩,(by first|omega|(simp only[eM,gA,false_iff,true_iff];omega))⟩
theorem aew{T:aL}(F:FT T){cc:Int}{a0:DC}{z:ah}(A:au z a0)(cM:z.length≤20)(G:af ga z){aN:Int}(jJ:(-9223372036854775808)≤aN)(jK:aN≤9223372036854775807)(L:0≤cc)(M:cc≤z.length)(O:cutAt z aN cc):Sound T 19 [.d a0,.d (dJ aN)] fun r=>∃I y1,r= .tuple [.d (dJ I),dB y1]∧(0≤I∧I≤20∧(I=cc))∧(y1=true↔(cc<(z.length:Int))):=by
 refine bk F.q19 aa (bV 9 aa (aA aa (bsP (aN:=aN) (cc:=cc) F A ae G ae ae L M O) ?_));rintro _ _⟨dG,yR,rfl,⟨U,Y,Z⟩,DO⟩;exact W
end Go.Ev.Rp
namespace Go.Ev.Rp
open Go Go.Ev.Pp
attribute [local irreducible] VC VO VQ VI Sound bW
def ajv(now z:Int)(w:ah)(t:Int):Prop:=0≤t∧t≤now∧(z≤t∨jq w t (t+1))
theorem V1{b:Bool}{z t:Int}{H:Prop}(h:b=true↔H)(k:0≤t∧t<z):(!b)=true↔(0≤t∧t<z∧¬H):=by
 cases b<;>simp_all
theorem V2{b:Bool}{now z t:Int}{w:ah}(h:b=true↔(0≤t∧t<z∧¬jq w t (t+1)))(k:0≤t)(l:t≤now):(!b)=true↔ajv now z w t:=by
 have e:((!b)=true)↔¬(b=true):=by cases b<;>simp
 rw[e,h];refine⟨fun n=>⟨k,l,?_⟩,fun q p=>q.2.2.elim (fun a=>by omega) p.2.2⟩
 by_cases c:z≤t
 ·exact .inl c
 exact .inr (Dx fun m=>n ⟨k,an,m⟩)
theorem inclP{T:aL}(F:FT T){aI:Int}(I:(-9223372036854775808)≤aI)(L:aI≤9223372036854775807){aN:Int}(M:(-9223372036854775808)≤aN)(O:aN≤9223372036854775807){bo:Int}(U:(-9223372036854775808)≤bo)(Y:bo≤9223372036854775807):Sound T 48 [.agg [.d (dJ aI),.d (dJ aN)],.d (dJ bo)] fun r=>∃A,r=dB A∧(A=true↔fN bo (bo+1) aI aN):=by
 refine bk F.q48 aa (bV 8 aa (aA aa (Dd (aI:=aI) (aN:=aN) F ae ae ae ae) ?_));rintro _ _⟨G,rfl,z⟩;refine ro 1 aa ?_;refine bu aa ?_ ?_<;>intro h2
 ·have Z:=z.1 (by simpa using h2);refine ro 6 aa ?_;refine bu aa ?_ ?_<;>intro g3
  ·refine eV 8 aa ?_;exact bN rfl rfl ⟨decide (bo<aN),rfl,(by first|(simp only[eM,gA,false_iff,true_iff,fN] at*;omega)|(simp[fN] at*;omega)|(unfold fN;omega))⟩
  refine eV 8 aa ?_;exact bN rfl rfl ⟨false,rfl,(by first|(simp only[eM,gA,false_iff,true_iff,fN] at*;omega)|(simp[fN] at*;omega)|(unfold fN;omega))⟩
 have Z:¬_:=fun p=>absurd (z.2 p) (by simpa using h2)
 refine eV 14 aa ?_;exact bN rfl rfl ⟨false,rfl,(by first|(simp only[eM,gA,false_iff,true_iff,fN] at*;omega)|(simp[fN] at*;omega)|(unfold fN;omega))⟩
theorem clo76{T:aL}(F:FT T){G:DC}(z:tJ.ok G){aN:Int}(U:(-9223372036854775808)≤aN)(Y:aN≤9223372036854775807){bo:Int}(Z:(-9223372036854775808)≤bo)(mI:bo≤9223372036854775807){bF:Int}(oo:(-9223372036854775808)≤bF)(oq:bF≤9223372036854775807):bW T 47 [.agg [.d G,.d (dJ aN),.d (dJ bo)],.vp 1004 0] [(1004,.one 3 8 [.d (dJ bF)])] fun r B=>∃I,r=dB I∧B=[(1004,.one 3 8 [.d (dJ bF)])]∧(I=true↔fN bF (bF+1) aN bo):=by
 refine gq F.q47 aa ?_;obtain⟨aI,rfl,L,M⟩:=z;refine bV 10 aa (aA aa (inclP (aI:=aN) (aN:=bo) (bo:=bF) F ae ae ae ae ae ae) ?_);rintro _ _⟨O,rfl,A⟩;exact W
theorem idxI{T:aL}(F:FT T){a0:DC}{A:ah}(M:au A a0)(cM:A.length≤20)(U:af ga A){aZ:Int}(ij:(-9223372036854775808)≤aZ)(ik:aZ≤9223372036854775807):bW T 76 [.d a0,.fn 47 [.vp 1003 0]] [(1003,.one 3 8 [.d (dJ aZ)])] fun r B=>∃Y,r= .d (dJ Y)∧B=[(1003,.one 3 8 [.d (dJ aZ)])]∧((-1)≤Y∧Y≤(A.length:Int) -1∧((0≤Y→jq A aZ (aZ+1))∧(Y<0→¬jq A aZ (aZ+1)))):=by
 refine gq F.q76 aa (bV 8 aa (aR aa M ?_));refine ro 3 aa (bh [7,4,1,0] [1003] aa aa (fun e0 b0 k VE B=>∃z,ak ((8,.d (dJ z))::e0) VE∧ak b0 B∧k=((A.length:Int) -z).toNat∧(0≤z∧(z≤(A.length:Int)∨z=0))∧(js z A aZ (aZ+1))) ?_ fin);rintro _ VE B⟨z,hV,hB,rfl,bU,cN⟩;refine aT _ _ hV hB (rc 5 aa ?_);refine ay aa ?_ ?_<;>intro g1
 ·refine rc 13 aa ?_;obtain⟨Z,O,_,⟨G,rfl,tU,oG⟩,_,⟨I,rfl,vt,vu⟩,bQ⟩:=qI z U;refine aq (aH aa aa M ae bQ aa ?_);refine aP 1 aa (KL (dc:=[.agg [.d Z,.d (dJ G),.d (dJ I)],.vp 1004 0]) (Bi:=[(1004,.one 3 8 [.d (dJ aZ)])]) [(1004,1003)] 2000 aa aa aa aa aa aa aa aa aa ⟨aa,aa,trivial⟩ (clo76 (aN:=G) (bo:=I) (bF:=aZ) F O ae ae ae ae ae ae) ?_);rintro _ _⟨jb,rfl,rfl,L⟩;refine ro 1 aa ?_;refine cF aa ?_ ?_<;>intro h4
  ·have k4:=L.1 (by simpa using h4);refine rc 6 aa ?_;exact⟨_,[(1003,.one 3 8 [.d (dJ aZ)])],rfl,⟨rfl,trivial⟩,⟨z,rfl,rfl,⟨ae,ae,(by first|exact⟨fun _=>jq.mk (by assumption) rfl rfl (by assumption),fun h=>absurd h an⟩|exact⟨fun h=>absurd h ao,fun _=>js.all (by assumption) ae⟩)⟩⟩⟩
  have k4:¬_:=fun p=>absurd (L.2 p) (by simpa using h4)
  refine aB 2 aa (bB aa aa ae ae ?_);refine dC 2 aa ?_;exact⟨((A.length:Int) -((z+1))).toNat,ae,(z+1),⟨rfl,rfl,rfl,rfl,rfl,trivial⟩,⟨rfl,trivial⟩,rfl,ae,(by first|assumption|exact MT|exact js.step (by assumption) ae (by assumption) rfl rfl (by assumption))⟩
 refine rc 6 aa ?_;exact⟨_,[(1003,.one 3 8 [.d (dJ aZ)])],rfl,⟨rfl,trivial⟩,⟨(-1),rfl,rfl,⟨ae,ae,(by first|exact⟨fun _=>jq.mk (by assumption) rfl rfl (by assumption),fun h=>absurd h an⟩|exact⟨fun h=>absurd h ao,fun _=>js.all (by assumption) ae⟩)⟩⟩⟩
theorem contI{T:aL}(F:FT T){L:DC}{z:ah}(A:au z L)(Y:z.length≤20)(G:af ga z){aZ:Int}(ij:(-9223372036854775808)≤aZ)(ik:aZ≤9223372036854775807):bW T 46 [.d L,.fn 47 [.vp 1003 0]] [(1003,.one 3 8 [.d (dJ aZ)])] fun r B=>∃Z,r=dB Z∧B=[(1003,.one 3 8 [.d (dJ aZ)])]∧(Z=true↔jq z aZ (aZ+1)):=by
 refine gq F.q46 aa (bV 8 aa (iP (dc:=[.d L,.fn 47 [.vp 1003 0]]) (Bi:=[(1003,.one 3 8 [.d (dJ aZ)])]) [(1003,1003)] 2000 aa aa aa aa aa aa aa ⟨aa,aa,trivial⟩ (idxI (aZ:=aZ) F A ae G ae ae) ?_));rintro _ _⟨I,rfl,rfl,M,O,U⟩;refine ro 4 aa ?_;exact⟨_,[(1003,.one 3 8 [.d (dJ aZ)])],rfl,⟨rfl,trivial⟩,⟨decide (0≤I),rfl,rfl,(by simp only[eM];exact abh (by assumption))⟩⟩
theorem fgtP{T:aL}(F:FT T){O U Y L Z:DC}(cV:(Ty.x).ok O)(bX:(Ty.x).ok U)(cK:(Ty.x).ok Y){aZ:Int}(ij:(-9223372036854775808)≤aZ)(ik:aZ≤9223372036854775807){z:ah}(A:au z L)(e9:z.length≤20)(G:af ga z)(cq:(Ty.x).ok Z){bE:Int}(ot:(-9223372036854775808)≤bE)(ou:bE≤9223372036854775807):Sound T 23 [.agg [.d O,.d U,.d Y,.d (dJ aZ),.d L,.d Z],.d (dJ bE)] fun r=>∃y0,r=dB y0∧(y0=true↔(0≤bE∧bE<aZ∧¬jq z bE (bE+1))):=by
 refine bk F.q23 aa (r0 12 aa ?_);refine bu aa ?_ ?_<;>intro g1
 ·refine ro 6 aa (eA aa aa (fE 5 aa ?_));exact bN rfl rfl ⟨false,rfl,(by first|exact V1 (by assumption) ae|exact iff_of_false ao (fun h=>by omega))⟩
 refine ro 6 aa ?_;refine ay aa ?_ ?_<;>intro g2
 ·refine fE 5 aa ?_;exact bN rfl rfl ⟨false,rfl,(by first|exact V1 (by assumption) ae|exact iff_of_false ao (fun h=>by omega))⟩
 refine aB 6 aa (iP (dc:=[.d L,.fn 47 [.vp 1003 0]]) (Bi:=[(1003,.one 3 8 [.d (dJ bE)])]) [(1003,3)] 2000 aa aa aa aa aa aa aa ⟨aa,aa,trivial⟩ (contI (aZ:=bE) F A ae G ae ae) ?_);rintro _ _⟨I,rfl,rfl,M⟩;refine eV 4 aa ?_;exact bN rfl rfl ⟨(!I),rfl,(by first|exact V1 (by assumption) ae|exact iff_of_false ao (fun h=>by omega))⟩
theorem V3{T:aL}(F:FT T){M O U Y:DC}{aI:Int}(jL:(-9223372036854775808)≤aI)(jf:aI≤9223372036854775807)(bX:(Ty.x).ok M)(cK:(Ty.x).ok O){aZ:Int}(ij:(-9223372036854775808)≤aZ)(ik:aZ≤9223372036854775807){z:ah}(A:au z U)(Z:z.length≤20)(G:af ga z)(cq:(Ty.x).ok Y){bE:Int}(ot:(-9223372036854775808)≤bE)(ou:bE≤9223372036854775807):Sound T 10 [.agg [.d (dJ aI),.d M,.d O,.d (dJ aZ),.d U,.d Y],.d (dJ bE)] fun r=>∃y0,r=dB y0∧(y0=true↔ajv aI aZ z bE):=by
 refine bk F.q10 aa (r0 10 aa ?_);refine bu aa ?_ ?_<;>intro g1
 ·refine ro 6 aa ?_;refine bu aa ?_ ?_<;>intro g2
  ·refine ro 2 aa (bw aa aa (aA aa (fgtP (aZ:=aZ) (bE:=bE) F cg cg cg ae ae A ae G cg ae ae) ?_));rintro _ _⟨I,rfl,L⟩;refine eV 5 aa ?_;exact bN rfl rfl ⟨(!I),rfl,(by first|exact V2 (by assumption) ae ae|exact iff_of_false ao (fun h=>by have:=h.1;have:=h.2.1;omega))⟩
  refine eV 8 aa ?_;exact bN rfl rfl ⟨false,rfl,(by first|exact V2 (by assumption) ae ae|exact iff_of_false ao (fun h=>by have:=h.1;have:=h.2.1;omega))⟩
 refine eV 14 aa ?_;exact bN rfl rfl ⟨false,rfl,(by first|exact V2 (by assumption) ae ae|exact iff_of_false ao (fun h=>by have:=h.1;have:=h.2.1;omega))⟩
end Go.Ev.Rp
