/- Part 5 of rules for walks through the code of a program, and of such walks; what each part proves is said by its theorems. -/
import Derived.Test.YtijnechfhdlgiaaGreatDoorS4
import Derived.DeepKeys
import Derived.OpenShut
import Derived.Laws.StructEq
set_option linter.unusedVariables false
set_option linter.unusedSimpArgs false
noncomputable section
set_option maxRecDepth 100000
set_option maxHeartbeats 4000000
namespace Go.Ev
section
variable{P:Program}{ρ:Ho}{nt:Nat}{E:Env}{a:Act}{C:Nat→Option et}{w:World}{H H':aE}{v:ax}{o:Oper}{call:fc}
def jU:Value→Lit
 |.bool b=>.bool b
 |.int k n=>.int k n
 |.string s=>.string s.data.toList
 |_=>.bool false
inductive vF:Nat→Value→Prop
 |int {q:IntKind} {n:Int}:vF (dO q) (.int q n)
 |bool {b:Bool}:vF 100 (.bool b)
 |str {s:ByteArray}:vF 101 (.string s)
def lG:List Nat→List Value→Prop
 |[],[]=>True
 |k::r,c::s=>vF k c∧lG r s
 |_,_=>False
theorem lG.split:∀{k l:List Nat}{cs:List Value},lG (k++l) cs→lG k (cs.take k.length)∧lG l (cs.drop k.length)
 |[],l,cs,h=>by simpa[lG] using h
 |x::k,l,[],h=>by simp[lG] at h
 |x::k,l,c::cs,h=>by
  have h:vF x c∧lG (k++l) cs:=h
  obtain⟨z,h2⟩:=lG.split h.2
  exact⟨by simpa[lG] using⟨h.1,z⟩,by simpa using h2⟩
theorem lG.length:∀{k:List Nat}{cs:List Value},lG k cs→cs.length=k.length
 |[],[],_=>rfl
 |[],_::_,h=>h.elim
 |_::_,[],h=>h.elim
 |_::k,_::cs,h=>by have:=lG.length h.2;simp[this]
def C2(P:Program)(t:TypeId)(x:Value)(l:List Value):Prop:=(P.plainKey t=true∧l=[x])∨∃z xs,P.underlying t=some (.struct z)∧x= .agg xs∧xs.toList=l
def Rc(P:Program)(d:Nat)(t:TypeId)(ks:List Nat):Prop:=∀(w:World)x y z A,C2 P t x z→C2 P t y A→lG ks z→lG ks A→∃r:Bool,(Op.equalIn d t x y).run P w= .ok r w∧(r=true↔z.map jU=A.map jU)
theorem LG(w:World){D:Nat}{e:TypeId}{k:List Nat}{xs:Array Value}{off:Nat}(hk:uU P D e=some k)(G:k.length=P.cellsOf e)(I:lG k ((xs.toList.drop off).take k.length)):
  ∃a,(part e xs off).run P w= .ok a w∧C2 P e a ((xs.toList.drop off).take k.length):=by
 cases D with
 |zero=>cases hk
 |succ D=>
  unfold uU at hk
  have plain:P.plainKey e=true→k.length=1→∃a,(part e xs off).run P w= .ok a w∧C2 P e a ((xs.toList.drop off).take k.length):=fun hp J=>by
   have h2:=I.length
   rw[J] at h2⊢
   obtain⟨a,A⟩:∃a,(xs.toList.drop off).take 1=[a]:=by
    match U:(xs.toList.drop off).take 1,h2 with
    |[a],_=>exact⟨a,rfl⟩
   exact⟨a,run_part_plain w hp (getElem?_of_chunk A),.inl ⟨hp,A⟩⟩
  split at hk
  ·rename_i z;cases hk;exact plain (by simp[Program.plainKey,z]) rfl
  ·rename_i z;cases hk;exact plain (by simp[Program.plainKey,z]) rfl
  ·rename_i z;cases hk;exact plain (by simp[Program.plainKey,z]) rfl
  ·rename_i K z
   obtain⟨i,hi⟩:=info_of_underlying z
   have O:(xs.extract off (off+P.cellsOf e)).toList=(xs.toList.drop off).take (P.cellsOf e):=by
    rw[Jc];simp[List.extract]
   exact⟨.agg (xs.extract off (off+P.cellsOf e)),by simp[part,isAgg,run_underlying z,run_sizeOf w hi],.inr ⟨K,_,z,rfl,by rw[O,G]⟩⟩
  cases hk
theorem KY{D dd:Nat}(U:∀t ks,uU P D t=some ks→P.keyTypeAt D t=true→Rc P dd t ks)(w:World)(xs ys:Array Value):∀(A:List Field)(off:Nat)(ks:List Nat),Ea P (uU P D) off A=some ks→
  (∀f,f∈A→f.name≠ "_"∧P.keyTypeAt D f.type=true)→lG ks (xs.toList.drop off)→lG ks (ys.toList.drop off)→
  ∃r:Bool,(Op.eqFields dd xs ys A).run P w= .ok r w∧(r=true↔(xs.toList.drop off).map jU=(ys.toList.drop off).map jU)
 |[],off,ks,h,_,G,I=>by
  cases h
  refine⟨true,by simp[Op.eqFields],?_⟩
  rw[um G.length,um I.length];simp
 |f::r,off,ks,h,Y,G,I=>by
  unfold Ea at h
  split at h
  ·rename_i k hk
   split at h
   ·rename_i J
    split at h
    ·rename_i l K
     cases h
     obtain⟨x1,x2⟩:=G.split
     obtain⟨O,y2⟩:=I.split
     have lx:=x1.length;have ly:=O.length
     rw[F5] at x2 y2
     obtain⟨h1,h2⟩:=Y f (by simp)
     obtain⟨a,Z,i1⟩:=LG w hk J.2 x1
     obtain⟨b,p2,i2⟩:=LG w hk J.2 O
     obtain⟨q,p3,e1⟩:=U _ _ hk h2 w a b _ _ i1 i2 x1 O
     obtain⟨q',p4,e2⟩:=KY U w xs ys r (off+k.length) l K (fun f hf=>Y f (by simp[hf])) x2 y2
     have sx:(xs.toList.drop off).map jU=((xs.toList.drop off).take k.length).map jU++(xs.toList.drop (off+k.length)).map jU:=by rw[←dx,←F5,FQ]
     have sy:(ys.toList.drop off).map jU=((ys.toList.drop off).take k.length).map jU++(ys.toList.drop (off+k.length)).map jU:=by rw[←dx,←F5,FQ]
     have z:(xs.toList.drop off).map jU=(ys.toList.drop off).map jU↔((xs.toList.drop off).take k.length).map jU=((ys.toList.drop off).take k.length).map jU∧(xs.toList.drop (off+k.length)).map jU=(ys.toList.drop (off+k.length)).map jU:=by
      rw[sx,sy]
      exact⟨fun e=>List.append_inj e (by rw[ca,ca,lx,ly]),fun e=>by rw[e.1,e.2]⟩
     rw[←J.1] at Z p2
     simp only[Op.eqFields,h1,ne_eq,not_false_eq_true,if_true,Sem.run_bind,Z,p2,p3,Result.andThen_ok]
     cases q
     ·exact⟨false,by simp,by rw[z];exact⟨fun h=>(by cases h),fun e=>absurd (e1.2 e.1) (by simp)⟩⟩
     exact⟨q',by simpa using p4,by rw[z,e2];simp[e1.1 rfl]⟩
    cases h
   cases h
  cases h
theorem Nb(dd:Nat):∀(D:Nat)(t:TypeId)(ks:List Nat),uU P D t=some ks→P.keyTypeAt D t=true→Rc P (dd+D) t ks
 |0,_,_,h,_=>by cases h
 |D+1,t,ks,h,hk=>by
  intro w x y lx ly ix iy O U
  have one:∀{k:Nat},lG [k] lx→lG [k] ly→P.plainKey t=true→lx=[x]∧ly=[y]∧vF k x∧vF k y:=fun{k}Z h2 hp=>by
   have no:∀K,P.underlying t=some (.struct K)→False:=fun K A=>by simp[Program.plainKey,A] at hp
   rcases ix with⟨_,rfl⟩|⟨K,_,A,_⟩
   ·rcases iy with⟨_,rfl⟩|⟨K,_,A,_⟩
    ·exact⟨rfl,rfl,Z.1,h2.1⟩
    exact(no K A).elim
   exact(no K A).elim
  unfold uU at h
  split at h
  ·rename_i A
   cases h
   obtain⟨rfl,rfl,l1,J⟩:=one O U (by simp[Program.plainKey,A])
   generalize G:(100:Nat)=kk at l1 J
   cases l1 with
   |int=>rename_i q _;cases q<;>simp[dO] at G
   |str=>simp at G
   |bool=>
    generalize I:(100:Nat)=k2 at J
    cases J with
    |int=>rename_i q _;cases q<;>simp[dO] at I
    |str=>simp at I
    |bool=>exact⟨_,run_equalIn_bool' w _ t _ _ A,by simp[jU]⟩
  ·rename_i k A
   cases h
   obtain⟨rfl,rfl,l1,J⟩:=one O U (by simp[Program.plainKey,A])
   generalize G:dO k=kk at l1 J
   cases l1 with
   |bool=>cases k<;>simp[dO] at G
   |str=>cases k<;>simp[dO] at G
   |int=>
    rename_i q n
    obtain rfl:k=q:=Ef (by rw[G];exact jl _)
    generalize I:dO k=k2 at J
    cases J with
    |bool=>cases k<;>simp[dO] at I
    |str=>cases k<;>simp[dO] at I
    |int=>
     rename_i q' m
     obtain rfl:k=q':=Ef (by rw[I];exact jl _)
     exact⟨_,run_equalIn_int w _ t k k n m A,by simp[jU]⟩
  ·rename_i A
   cases h
   obtain⟨rfl,rfl,l1,J⟩:=one O U (by simp[Program.plainKey,A])
   generalize G:(101:Nat)=kk at l1 J
   cases l1 with
   |int=>rename_i q _;cases q<;>simp[dO] at G
   |bool=>simp at G
   |str=>
    generalize I:(101:Nat)=k2 at J
    cases J with
    |int=>rename_i q _;cases q<;>simp[dO] at I
    |bool=>simp at I
    |str=>
     refine⟨_,run_equalIn_string w _ t _ _ A,?_⟩
     simp only[jU,e7,gj,Aa,and_true,Lit.string.injEq,beq_iff_eq]
     rw[ByteArray.toList_eq,ByteArray.toList_eq]
  ·rename_i K A
   split at h
   ·rename_i ks' JV
    split at h
    ·cases h
     have hP:P.fieldsOf t=K:=by unfold Program.fieldsOf;rw[A]
     unfold Program.keyTypeAt at hk
     simp only[A,fE,Jn,Array.all_eq_true_iff_forall_mem,bne_iff_ne,ne_eq] at hk
     have ag:∀{z l},C2 P t z l→∃Y,z= .agg Y∧Y.toList=l:=fun{z l}iz=>by
      rcases iz with⟨hp,_⟩|⟨_,Y,_,Z,h2⟩
      ·simp[Program.plainKey,A] at hp
      exact⟨Y,Z,h2⟩
     obtain⟨xs,rfl,rfl⟩:=ag ix
     obtain⟨ys,rfl,rfl⟩:=ag iy
     obtain⟨r,hr,hi⟩:=KY (fun t ks=>Nb dd D t ks) w xs ys K.toList 0 ks JV (fun f hf=>hk.1.1 f (Array.mem_toList_iff.1 hf)) O U
     refine⟨r,?_,hi⟩
     rw[show dd+(D+1)=(dd+D)+1 from rfl,run_equalIn_agg w _ t xs ys (by rw[hP];exact A) hk.2,hP]
     exact hr
    cases h
   cases h
  cases h
theorem VF{c:Nat}{x:ax}{cv:Value}(h:tw c x=true)(z:VR ρ x cv):vF c cv:=by
 unfold tw at h
 split at h
 ·have A:=eH h
  simp only[VR] at z
  subst z;subst A
  exact .int
 ·have A:=eH h
  simp only[VR] at z
  subst z;subst A
  exact .bool
 ·have A:=eH h
  simp only[VR] at z
  obtain⟨b,rfl,rfl,_⟩:=z
  subst A
  exact .str
 cases h
theorem Hk:∀{ks:List Nat}{l:List ax}{cs:List Value},lE ks l=true→cP ρ l cs→lG ks cs
 |[],[],_,_,z=>by simp only[cP] at z;subst z;trivial
 |c::r,x::s,_,h,z=>by
  simp only[lE,fE] at h
  simp only[cP] at z
  obtain⟨cv,t,rfl,A,h2⟩:=z
  exact⟨VF h.1 A,Hk h.2 h2⟩
 |[],_::_,_,h,_=>by simp[lE] at h
 |_::_,[],_,h,_=>by simp[lE] at h
theorem KZ{x y:ax}{G cy:Value}{r:Bool}(h:x8 x y=some r)(z:VR ρ x G)(A:VR ρ y cy):r=true↔jU G=jU cy:=by
 unfold x8 at h
 split at h
 ·rename_i k a' J K
  split at h
  ·rename_i hk
   cases h
   have:=Ef hk
   subst this
   simp only[VR] at z A
   subst z;subst A
   simp[jU,ve]
  cases h
 ·cases h
  simp only[VR] at z A
  subst z;subst A
  simp[jU]
 ·cases h
  simp only[VR] at z A
  obtain⟨b1,rfl,rfl,rfl⟩:=z
  obtain⟨b2,rfl,rfl,rfl⟩:=A
  have I:b1.size=b1.data.toList.length:=Array.length_toList.symm
  have h2:b2.size=b2.data.toList.length:=Array.length_toList.symm
  rw[I,h2,DD]
  simp[jU]
 cases h
theorem Lh:∀{x y:List ax}{J cy:List Value}{r:Bool},ra x y=some r→cP ρ x J→cP ρ y cy→(r=true↔J.map jU=cy.map jU)
 |[],[],_,_,r,h,A,G=>by
  cases h
  simp only[cP] at A G
  subst A;subst G
  simp
 |x::s,y::t,_,_,r,h,A,G=>by
  simp only[cP] at A G
  obtain⟨cv,Z,rfl,K,h2⟩:=A
  obtain⟨dv,dt,rfl,O,Y⟩:=G
  unfold ra at h
  split at h
  ·rename_i e
   have I:=KZ e K O
   have U:=Lh h h2 Y
   simp only[e7,Aa]
   exact⟨fun z=>⟨I.1 rfl,U.1 z⟩,fun z=>U.2 z.2⟩
  ·rename_i e
   have I:=KZ e K O
   split at h
   ·cases h
    simp only[e7,Aa]
    exact⟨fun z=>(by cases z),fun z=>absurd (I.2 z.1) (by simp)⟩
   cases h
  cases h
 |[],_::_,_,_,_,h,_,_=>by cases h
 |_::_,[],_,_,_,h,_,_=>by cases h
theorem SL(hA:AR P ρ nt E a)(hR:R ρ C w){op:BinOp}{t t':TypeId}{fs:Array Field}{x z:Operand}{x' z':aI}{io:bP}(ho:o.op= .binOp op t x z t')(hx:dH P x=some x')(hz:dH P z=some z')(hu:P.underlying t=some (.struct fs))
  (A:IX P op t x' z'=some io) (h:io.ev call E H= .ok v H'):fP P o a w (ez ρ C w H v H'):=by
 unfold IX at A
 split at A
 ·rename_i ks JV
  split at A
  ·rename_i hc
   have key:∀neg,(op= .eql∧neg=false)∨(op= .neq∧neg=true)→Au (.agg ks) neg x' z' E H= .ok v H'→fP P o a w (ez ρ C w H v H'):=by
    intro neg wi h
    replace h:=fS h;obtain⟨u,hu1,h⟩:=h
    replace h:=fS h;obtain⟨u2,hu2,h⟩:=h
    replace h:=jP h;obtain⟨r,G,h⟩:=h
    rw[Hb] at h
    cases h
    have J:=hA.ch hx hu1
    have K:=hA.ch hz hu2
    cases u<;>try(cases G;done)
    rename_i la
    cases u2<;>try(cases G;done)
    rename_i lb
    have G:aJ (lE ks la) (aJ (lE ks lb) (ra la lb) none) none=some r:=G
    cases g1:lE ks la
    ·rw[g1] at G;cases G
    rw[g1,gi] at G
    cases g2:lE ks lb
    ·rw[g2] at G;cases G
    rw[g2,gi] at G
    simp only[VR] at J K
    obtain⟨O,e1,U,_⟩:=J
    obtain⟨Y,e2,Z,_⟩:=K
    have hla:=Hk g1 U
    have hlb:=Hk g2 Z
    obtain⟨r',I,YV⟩:=Nb 9988 12 t ks JV hc.1 w (.agg O) (.agg Y) _ _ (.inr ⟨fs,O,hu,rfl,rfl⟩) (.inr ⟨fs,Y,hu,rfl,rfl⟩) hla hlb
    have hrr:r'=r:=by
     have k:=Lh G U Z
     exact Bool.eq_iff_iff.2 (YV.trans k.symm)
    subst hrr
    have hg:=run_eqGuard_agg (P:=P) w op t x z O Y hc.2
    refine hM (cv:=.bool (Bool.xor neg r')) ?_ hR (by simp only[VR])
    simp only[execOp,ho,Sem.run_bind,e1,e2,hg,Result.andThen_ok]
    have I:(Op.equalIn 10000 t (.agg O) (.agg Y)).run P w= .ok r' w:=I
    have he:(Op.equal t (.agg O) (.agg Y)).run P w= .ok r' w:=I
    rcases wi with⟨rfl,rfl⟩|⟨rfl,rfl⟩
    ·simp only[binOp];simp[he]
    simp only[binOp];simp[he]
   cases op<;>simp only[ia,reduceCtorEq] at A
   ·subst A;exact key false (.inl ⟨rfl,rfl⟩) h
   subst A;exact key true (.inr ⟨rfl,rfl⟩) h
  cases A
 cases A
end
section
variable{P:Program}{ρ:Ho}{nt:Nat}{E:Env}{a:Act}{C:Nat→Option et}{w:World}{H H':aE}{v:ax}{o:Oper}{call:fc}
theorem SM(w:World)(b n:Nat)(z:n≠0)(k:Nat):(w.freeze ⟨b,0,none⟩ n).heap[k]?=(w.heap[k]?).map fun ob=>if k=b then(match ob with
   |.cells c elem (lo,hi)=>.cells c elem (if lo==hi then(0,0+n) else(min lo 0,max hi (0+n)))
   |o=>o) else ob:=by
 unfold World.freeze
 rw[al z]
 show(w.heap.modify b _)[k]?=_
 rw[Jd]
 by_cases h:k=b
 ·subst h
  rw[az rfl]
  congr 1
  funext ob
  rw[az rfl]
  cases ob<;>rfl
 rw[al (fun e=>h e.symm)]
 cases w.heap[k]?<;>simp[h]
theorem R.freeze(hR:R ρ C w){f g n m lo fl elem aV:Nat}{cs:RT}{z:Hm}(hC:C f=some (.row elem 1 aV m lo fl cs))(hh:ρ f g=some z)(uu:lo≤g)(hgm:g≤m)(hn:n≠0)(Re:n≤g)(U:fl=0∨fl=2)
  (W:Nat→Prop) (hW:W f) (n0:Nat):Ext W n0 n0 ρ ρ w (w.freeze ⟨z.ct,0,none⟩ n)∧R ρ (fun x=>if x=f then some (.row elem 1 aV m lo 2 cs) else C x) (w.freeze ⟨z.ct,0,none⟩ n):=by
 obtain⟨he,o6,_,A⟩:=hR.obj f _ hC g z hh
 have A:=A uu hgm
 have Qp:z.ro=false:=by
  cases h:z.ro
  ·rfl
  have:=o6 h;omega
 have F6:=A.t8 U
 obtain⟨c,fz,I,n9⟩:=A.row
 have Az:=A.Aw U _ _ _ I
 have Y:=SM w z.ct n hn
 have J:∀k,k≠z.ct→(w.freeze ⟨z.ct,0,none⟩ n).heap[k]?=w.heap[k]?:=fun k hk=>by
  rw[Y k]
  cases w.heap[k]?<;>simp[hk]
 obtain⟨Z,K,YW⟩:∃Z,(w.freeze ⟨z.ct,0,none⟩ n).heap[z.ct]?=some (.cells c elem Z)∧Z.2≤m:=by
  rw[Y z.ct,I]
  obtain⟨l1,h1⟩:=fz
  simp only[tU,if_true]
  by_cases G:l1=h1
  ·subst G
   exact⟨(0,0+n),by simp,by simp;omega⟩
  refine⟨(min l1 0,max h1 (0+n)),by simp[G],?_⟩
  have:h1≤m:=by
   rcases Az with h|h
   ·exact absurd h G
   simpa using h
  simp only
  omega
 have Fw:∀ad:Addr,(w.freeze ⟨z.ct,0,none⟩ n).cell? ad=w.cell? ad:=fun ad=>by
  by_cases G:ad.block=z.ct
  ·simp only[World.cell?,G,K,I]
  exact cell_of_heap (w:=w) (J _ G)
 have IZ:(w.freeze ⟨z.ct,0,none⟩ n).heap.size=w.heap.size:=by
  unfold World.freeze
  rw[al hn]
  simp
 refine⟨⟨Ho.le_refl _,fun f' g' h' e=>.inl ⟨g',h',e⟩,fun _ _ _ e=>.inl e,fun b _ G=>J b fun e=>G f g z hh Qp hW e.symm,by rw[IZ];exact bR _,bR _,?_,?_,?_⟩,⟨?_,hR.oV,fun f' g' h' e=>by rw[IZ];exact hR.kB f' g' h' e,hR.uniq,fun f' g' h' e a b=>(hR.nf f' g' h' e a b).jo (Fw _)⟩⟩
 ·unfold World.freeze;rw[al hn]
 ·unfold World.freeze;rw[al hn]
 ·unfold World.freeze;rw[al hn]
 intro f' o' uw g' h' hx
 have oa:(if f'=f then some (et.row elem 1 aV m lo 2 cs) else C f')=some o':=uw
 clear uw
 by_cases e:f'=f
 ·rw[az e] at oa
  subst e
  cases oa
  obtain⟨_,r1,r2,r3⟩:=hR.obj f' _ hC g' h' hx
  refine⟨he,fun h=>by have:=r1 h;omega,r2,fun a1 a2=>?_⟩
  have r:=r3 a1 a2
  have O:∀i,i<g'→∃l,cs.get i=some l∧l.length=1∧∀j x,l[j]?=some x→iB x=true∧∃cv,(w.freeze ⟨z.ct,0,none⟩ n).cell? ⟨h'.ct,h'.off+i*1+j,none⟩=some cv∧VR ρ x cv:=fun i hi=>by
   obtain⟨l,l1,l2,l3⟩:=r.cell i hi
   exact⟨l,l1,l2,fun j x hj=>by rw[Fw];exact l3 j x hj⟩
  by_cases G:h'.ct=z.ct
  ·obtain⟨c1,uq,q1,q2⟩:=r.row
   rw[G,I] at q1
   cases q1
   refine⟨⟨c,Z,by rw[G];exact K,q2⟩,r.fits,O,fun h=>by omega,fun _ i hi _=>?_,fun _=>r.t8 U,fun _ c1 e1 uq jC=>?_⟩
   ·simp only[World.frozen?,G,K]
    obtain⟨l1,h1⟩:=Z
    simp only at YW⊢
    simp
    omega
   rw[G,K] at jC
   cases jC
   right;omega
  have hw:=J _ G
  refine⟨by rw[hw];exact r.row,r.fits,O,fun h=>by omega,fun _ i hi nD=>by rw[frozen_of_heap (w:=w) hw];exact r.zN ah i hi nD,fun _=>r.t8 U,fun _ c1 e1 uq jC=>r.Aw U c1 e1 uq (by rw[←hw];exact jC)⟩
 rw[al e] at oa
 refine(hR.obj f' o' oa g' h' hx).jo (Ho.le_refl _) (J _ fun G=>?_)
 have:=(hR.oV _ _ _ _ _ _ hx hh e G).2
 rw[Qp] at this;cases this
theorem W3{f e:Nat}{k:aE→aH}(h:nd f e H k= .ok v H'):∃aV m lo fl cs,H.t.get f=some (.row e 1 aV m lo fl cs)∧(fl=0∨fl=2)∧k ⟨H.next,H.bj,wrote f H.bj H.ws,H.t.set f (.row e 1 aV m lo 2 cs)⟩= .ok v H':=by
 cases H with
 |mk next bj ws t=>
  have h:jt (t.get f) (aH.err 46) (fun elem es aV m lo fl cs=>
   aJ (Nat.beq elem e) (aJ (Nat.beq es 1) (aJ (aJ (Nat.beq fl 0) true (Nat.beq fl 2)) (t.gV f (.row elem es aV m lo 2 cs) fun t=>k ⟨next,bj,wrote f bj ws,t⟩) (.err 46)) (.err 46)) (.err 46))= .ok v H':=h
  cases z:t.get f with
  |none=>rw[z] at h;cases h
  |some ob=>cases ob with
   |map=>rw[z] at h;cases h
   |row elem es aV m lo fl cs=>
    rw[z] at h
    have h:aJ (Nat.beq elem e) (aJ (Nat.beq es 1) (aJ (aJ (Nat.beq fl 0) true (Nat.beq fl 2)) (t.gV f (.row elem es aV m lo 2 cs) fun t=>k ⟨next,bj,wrote f bj ws,t⟩) (.err 46)) (.err 46)) (.err 46)= .ok v H':=h
    replace h:=gp h;obtain⟨b1,h⟩:=h
    replace h:=gp h;obtain⟨b2,h⟩:=h
    replace h:=gp h;obtain⟨A,h⟩:=h
    rw[GT.kG] at h
    have b1:=eH b1
    have b2:=eH b2
    have I:=h
    subst b1;subst b2
    have J:({next:=next,bj:=bj,ws:=ws,t:=t}:aE).t.get f=some (et.row elem 1 aV m lo fl cs):=z
    refine⟨aV,m,lo,fl,cs,rfl,?_,I⟩
    cases G:Nat.beq fl 0
    ·rw[G] at A;exact .inr (eH A)
    exact .inl (eH G)
theorem Tf(hA:AR P ρ nt E a)(hR:R ρ C w){c:Call}{x y:Operand}{x' y':aI}{pt it e:TypeId}(ho:o.op= .call c)(hc:c.callee= .builtin .unsafeString)(A:c.args=#[x,y])(hx:dH P x=some x')(hy:dH P y=some y')
  (C3:c.argTypes=#[pt,it]) (hp:P.underlying pt=some (.pointer e)) (JW:P.cellsOf e=1) (hC:∀f o,f∈ju (x'.ev E)→(∃g h,ρ f g=some h)→H.t.get f=some o→C f=some o)
  (h:xg e x' y' E H= .ok v H'):fP P o a w (ez ρ C w H v H'):=by
 replace h:=fS h;obtain⟨u,hu,h⟩:=h
 cases G:yE u with
 |true=>
  rw[G,gi] at h
  have hun:u= .iN:=by cases u<;>first|rfl|cases G
  subst hun
  replace h:=fS h;obtain⟨u2,Z,h⟩:=h
  replace h:=ta h;obtain⟨k,l0,rfl,h⟩:=h
  replace h:=wI h;obtain⟨l,rfl,h⟩:=h
  replace h:=gp h;obtain⟨b2,h⟩:=h
  replace h:=gp h;obtain⟨K,h⟩:=h
  cases h
  have b2:=eH b2
  have K:=eH K
  have hk:k= .i64:=by cases k<;>simp[dO] at b2<;>rfl
  subst hk;subst K
  have O:=hA.ch hx hu
  have h2:=hA.ch hy Z
  simp only[VR] at O h2
  have I:(Builtin.unsafeString_ #[pt,it] o.type #[.pointer none,.int .i64 0]).run P w= .ok (.string .empty) w:=rfl
  refine .inl ⟨.string .empty,w,?_,ρ,?_,Ext.refl _ _ _ _,?_⟩
  ·have h2:a.eval y= .int .i64 0:=h2
   simp[execOp,ho,resolve,hc,A,invoke,builtin,O,h2,C3,I]
  ·simp only[VR]
   exact⟨_,rfl,rfl,rfl⟩
  rw[qe];exact hR
 |false=>
 rw[G,show∀a b:aH,aJ false a b=b from fun _ _=>rfl] at h
 replace h:=wH h;obtain⟨f,g,off,rfl,h⟩:=h
 replace h:=fS h;obtain⟨u2,Z,h⟩:=h
 replace h:=ta h;obtain⟨k,l0,rfl,h⟩:=h
 replace h:=wI h;obtain⟨l,rfl,h⟩:=h
 replace h:=gp h;obtain⟨b1,h⟩:=h
 replace h:=gp h;obtain⟨b2,h⟩:=h
 replace h:=gp h;obtain⟨K,h⟩:=h
 replace h:=gp h;obtain⟨b4,h⟩:=h
 replace h:=jP h;obtain⟨L,hL,h⟩:=h
 replace h:=jP h;obtain⟨s,hs,h⟩:=h
 rw[iG] at h
 obtain⟨aV,m,lo,fl,cs,hg,wc,h⟩:=W3 h
 cases h
 have b1:=eH b1
 have b2:=eH b2
 have K:=b0 K
 have b4:=b0 b4
 have hk:k= .i64:=by cases k<;>simp[dO] at b2<;>rfl
 subst hk;subst b1
 have O:=hA.ch hx hu
 have h2:=hA.ch hy Z
 simp only[VR] at O h2
 obtain⟨hm,hh,O⟩:=O
 obtain⟨hlen,GC⟩:=DY hL
 obtain⟨U,g1,g2,g3⟩:=Hc hs
 have C1:U.length=l:=g1.trans hlen
 subst C1
 have J:=hC f _ (by rw[hu];simp[ju]) ⟨_,_,hh⟩ hg
 have X5:=GC (U.length-1) _ (fe ah)
 obtain⟨elem',fA,na,m',AE,fl',cs',x1,Rf,q1,q2,q3,q4,q5,_⟩:=X5
 rw[hg] at Rf
 cases Rf
 have Re:U.length≤g:=by simp at q4;omega
 obtain⟨_,_,_,z⟩:=hR.obj f _ J g hm hh
 have z:=z q1 q2
 have Y:=z.t8 wc
 obtain⟨cc,fz,Ag,n9⟩:=z.row
 have Js:=z.fits
 have hsh:w.shape? hm.ct=some (e,cc.size):=by simp[World.shape?,Ag]
 have I:=Lib.run_unsafeString_row (P:=P) w pt it o.type e hp JW hm.ct cc.size hsh U (by intro e0;rw[e0] at K;simp at K) ah ah (fun j b hj=>by
  have qW:=GC j _ (g3 j b hj)
  obtain⟨_,_,sN⟩:=hR.rd qW (J.trans hg.symm) hh ah
  obtain⟨cv,jC,sO⟩:=sN 0 _ rfl
  simp only[VR] at sO
  subst sO
  rw[Addr.add_lit]
  simpa[Y] using jC)
 obtain⟨r1,r2⟩:=hR.freeze (n:=U.length) J hh q1 q2 ah Re wc (Wr ⟨H.next,H.bj,wrote f H.bj H.ws,H.t.set f (.row e 1 aV m lo 2 cs)⟩) (HA _ _ _) H.next
 refine .inl ⟨.string ⟨U.toArray⟩,w.freeze ⟨hm.ct,0,none⟩ U.length,?_,ρ,?_,r1,?_⟩
 ·rw[Y] at O
  have h2:a.eval y= .int .i64 U.length:=h2
  simp[execOp,ho,resolve,hc,A,invoke,builtin,O,h2,C3,I]
 ·simp only[VR]
  exact⟨_,rfl,rfl,by rw[g2]⟩
 rw[Hj (J.trans hg.symm) hg]
 exact r2
end
section
variable{P:Program}{ρ:Ho}{nt:Nat}{E:Env}{a:Act}{C:Nat→Option et}{w:World}{H H':aE}{v:ax}{o:Oper}
theorem N'{mx:Bool}{k:IntKind}:∀{vs:List ax}{oc:List Value}{n:Int}{r:ax},cP ρ vs oc→Gu mx k vs n=some r→
  ∃m,r= .int k m∧(oc.foldlM (if mx=true then Builtin.max2 else Builtin.min2) (.int k n)).run P w= .ok (.int k m) w
 |[],oc,n,r,z,h=>by
  simp only[cP] at z
  subst z
  cases h
  exact⟨n,rfl,rfl⟩
 |x::vs,oc,n,r,z,h=>by
  simp only[cP] at z
  obtain⟨cv,t,rfl,A,h2⟩:=z
  replace h:N1 x none (fun _ b=>lR (aJ (aJ mx (lN n b) (lN b n)) b n) (Gu mx k vs))=some r:=h
  cases x<;>try(cases h;done)
  rename_i G b
  replace h:lR (aJ (aJ mx (lN n b) (lN b n)) b n) (Gu mx k vs)=some r:=h
  rw[sZ] at h
  simp only[VR] at A
  subst A
  obtain⟨m,I,J⟩:=N' (oc:=t) h2 h
  refine⟨m,I,?_⟩
  rw[List.foldlM_cons]
  have e:((if mx=true then Builtin.max2 else Builtin.min2) (.int k n) (.int G b)).run P w= .ok (.int k (aJ (aJ mx (lN n b) (lN b n)) b n)) w:=by
   cases mx
   ·simp only[qN,if_false,TG,pG,r4,fx];rfl
   simp only[if_true,gi,pG,r4,fx];rfl
  simp only[Sem.run_bind,e]
  exact J
theorem KM(U:AR P ρ nt E a)(hR:R ρ C w){mx:Bool}{c:Call}{x:Operand}{r:List Operand}{Y:aI}{Z:List aI}(ho:o.op= .call c)(J:c.callee= .builtin (if mx=true then .max else .min))(G:c.args.toList=x::r)(hx:dH P x=some Y)(hr:lS P r=some Z)
  (h:Bh mx Y Z E H= .ok v H'):fP P o a w (ez ρ C w H v H'):=by
 replace h:=fS h;obtain⟨u,hu,h⟩:=h
 replace h:=ta h;obtain⟨k,n,rfl,h⟩:=h
 replace h:=jP h;obtain⟨vs,K,h⟩:=h
 replace h:=jP h;obtain⟨res,I,h⟩:=h
 cases h
 have O:=U.ch hx hu
 have h2:=U.dX hr K
 simp only[VR] at O
 obtain⟨m,rfl,z⟩:=N' (P:=P) (w:=w) h2 I
 have A:c.args=(x::r).toArray:=by rw[←G]
 refine hM (cv:=.int k m) ?_ hR (by simp only[VR])
 cases mx
 ·simp only[qN,if_false] at J z
  simp[execOp,ho,resolve,J,A,invoke,builtin,Builtin.min_,O,z]
 simp only[if_true] at J z
 simp[execOp,ho,resolve,J,A,invoke,builtin,Builtin.max_,O,z]
end
section
variable{P:Program}{ρ:Ho}{nt:Nat}{E:Env}{a:Act}{C:Nat→Option et}{w:World}{H H':aE}{v:ax}{o:Oper}{call:fc}{io:bP}
def Nc(io:bP)(E:Env)(ρ:Ho)(C:Nat→Option et)(H:aE):Prop:=
 ∀f o,(∀l,io.reads E=some l→f∈l)→(∃g h,ρ f g=some h)→H.t.get f=some o→C f=some o
theorem DE{l:List Operand}{G:aI}(h:lS P l=some [G]):∃x,l=[x]∧dH P x=some G:=by
 cases l with
 |nil=>simp[lS] at h
 |cons x r=>
  simp only[lS] at h
  split at h
  ·rename_i y l I A
   cases h
   cases r with
   |nil=>exact⟨x,rfl,I⟩
   |cons z s=>
    simp only[lS] at A
    split at A<;>cases A
  cases h
theorem Dy{l:List Operand}{z:aI}{A:List aI}(h:lS P l=some (z::A)):∃x r,l=x::r∧dH P x=some z∧lS P r=some A:=by
 cases l with
 |nil=>simp[lS] at h
 |cons x r=>
  simp only[lS] at h
  split at h
  ·rename_i y l G I
   cases h
   exact⟨x,r,rfl,G,I⟩
  cases h
theorem Dw{c:Array Operand}{l:List Operand}(h:c.toList=l):c=l.toArray:=by rw[←h]
theorem Sx(U:AR P ρ nt E a)(O:R ρ C w)(hF:iQ ρ H.next H'.next)(hK:Nc io E ρ C H)(hm:H.bj≤H.next)(od:∀x,H.next≤x→H.t.get x=none)(hc:kZ P call){c:Call}
  (ho:o.op= .call c) (A:Il P c=some io) (h:io.ev call E H= .ok v H'):fP P o a w (ez ρ C w H v H'):=by
 unfold Il at A
 split at A
 ·rename_i f args I G
  split at A
  ·rename_i f
   cases A
   exact Td U O hF (fun f Y=>hK f Y (fun l e=>by cases e)) hm od hc ho I G h
  split at A
  ·rename_i y hy
   cases A
   exact SH U O hF (fun f Y=>hK f Y (fun l e=>by cases e)) hm od hc ho I hy G h
  cases A
 ·rename_i x' I G
  obtain⟨x,J,K⟩:=DE G
  have J:=Dw J
  split at A
  ·rename_i t ht
   split at A
   ·rename_i Z
    cases A
    exact S' U O ho I J K ht Z h
   ·rename_i e Z
    cases A
    exact TN U O ho I J K ht Z h
   ·rename_i n e Z
    cases A
    exact S9 (E:=E) O ho I J ht Z h
   cases A
  cases A
 ·rename_i x' y' I G
  obtain⟨x,r,J,K,hr⟩:=Dy G
  obtain⟨y,kC,hy⟩:=DE hr
  subst kC
  have J:=Dw J
  split at A
  ·rename_i t u ht Z
   split at A
   ·rename_i e e2 JX JY
    split at A
    ·rename_i i z hi hz
     split at A
     ·rename_i hb
      cases A
      exact TR U O hF ho I J K hy ht Z JX JY hi hz hb (fun f Y hf=>hK f Y (fun l e=>by cases e;exact hf)) h
     cases A
    cases A
   ·rename_i e JX JY
    split at A
    ·rename_i i z hi hz
     split at A
     ·rename_i hb
      cases A
      exact Su U O hF ho I J K hy ht Z JX JY hi hz hb.1 hb.2 (fun f Y hf=>hK f Y (fun l e=>by cases e;exact hf)) h
     cases A
    cases A
   cases A
  cases A
 ·rename_i x' I G
  obtain⟨x,J,K⟩:=DE G
  have J:=Dw J
  cases A
  exact TV U O ho I J K h
 ·rename_i x' y' I G
  obtain⟨x,r,J,K,hr⟩:=Dy G
  obtain⟨y,kC,hy⟩:=DE hr
  subst kC
  have J:=Dw J
  split at A
  ·rename_i pt it JZ
   have JZ:c.argTypes=#[pt,it]:=Array.ext' JZ
   split at A
   ·rename_i e hp
    split at A
    ·rename_i he
     cases A
     exact Tf U O ho I J K hy JZ hp he (fun f Y hf=>hK f Y (fun l e=>by cases e;exact hf)) h
    cases A
   cases A
  cases A
 ·rename_i l I G
  cases l with
  |nil=>cases A
  |cons x' r'=>
   obtain⟨x,r,J,K,hr⟩:=Dy G
   cases A
   exact KM (mx:=false) U O ho I J K hr h
 ·rename_i l I G
  cases l with
  |nil=>cases A
  |cons x' r'=>
   obtain⟨x,r,J,K,hr⟩:=Dy G
   cases A
   exact KM (mx:=true) U O ho I J K hr h
 cases A
theorem LH(A:CG P o.op=some io)(K:AR P ρ nt E a)(J:R ρ C w)(hF:iQ ρ H.next H'.next)(hK:Nc io E ρ C H)(hm:H.bj≤H.next)(od:∀x,H.next≤x→H.t.get x=none)(hc:kZ P call)
  (h:io.ev call E H= .ok v H'):fP P o a w (ez ρ C w H v H'):=by
 generalize G:o.op=op at A
 unfold CG at A
 split at A
 ·split at A
  ·rename_i y I;cases A;exact LB K J (.inl G) I h
  cases A
 ·split at A
  ·rename_i y I;cases A;exact LB K J (.inr G) I h
  cases A
 ·split at A
  ·rename_i c' a' b' h1 h2 h3;cases A;exact S2 K J G h1 h2 h3 h
  cases A
 ·split at A
  ·rename_i z i hz hi;cases A;exact Tb (E:=E) J hF G hz hi h
  cases A
 ·split at A
  ·rename_i n i y U hi I;cases A;exact TO K J hF G I U h
  cases A
 ·exact SI K J G A h
 ·exact Si K J hF G A h
 ·split at A
  ·rename_i n y U I;cases A;exact Tc K J G I U (fun f o' Z=>hK f o' (fun l e=>by cases e;exact Z)) h
  cases A
 ·split at A
  ·rename_i n y z U I hz;cases A;exact SF K J G I hz U (fun f o' Z=>hK f o' (fun l e=>by cases e;exact Z)) h
  cases A
 ·split at A
  ·rename_i y I;cases A;exact SC K J G I h
  cases A
 ·split at A
  ·rename_i x' y' O I
   unfold PH at A
   split at A
   ·cases A;exact LC K J G O I h
   ·cases A;exact LC K J G O I h
   ·rename_i fs hu;exact SL K J G O I hu A h
   ·rename_i d _ _ _ hu;exact TU K J G O I hu A h
   cases A
  cases A
 ·split at A
  ·rename_i y I;cases A;exact Ux K J G I h
  cases A
 ·split at A
  ·rename_i y I
   unfold N3 at A
   split at A
   ·rename_i hs hd;cases A;exact Ta K J G I hs hd h
   exact SK K J hF G I A (fun f o' hl=>hK f o' hl) h
  cases A
 ·split at A
  ·cases A
  ·rename_i d y l8 hd I;cases A;exact S7 K J G hd (fun ms e=>l8 ms (e▸rfl)) I h
  cases A
 ·split at A
  ·rename_i fs l hfs hl;cases A;exact S5 K J G hfs hl h
  cases A
 ·split at A
  ·rename_i x' y' O I;exact Te K J hF G O I A h
  cases A
 ·split at A
  ·rename_i x' AE wg Y O uu J0;cases A;exact SE K J G O uu J0 Y h
  ·rename_i e x' AE wg Y O uu J0
   split at A
   ·rename_i n U;cases A;exact S8 K J G O uu J0 Y U h
   cases A
  ·cases A
  cases A
 ·split at A
  ·rename_i fs y hs I
   split at A
   ·rename_i fd Z
    split at A
    ·rename_i n U
     cases A
     obtain⟨i,d,hi,_,e,h0⟩:=uQ U
     exact S3 K J G I hs Z hi ah h
    cases A
   cases A
  cases A
 ·split at A
  ·rename_i fs y hs I
   split at A
   ·rename_i fd Z
    split at A
    ·rename_i n U;cases A;exact TL K J G I hs Z U h
    cases A
   cases A
  cases A
 ·split at A
  ·rename_i k e x' i' Y O hi
   split at A
   ·rename_i n U
    split at A
    ·cases A;exact Sp K J G O hi Y U h
    cases A
   cases A
  ·rename_i e x' i' Y O hi
   split at A
   ·rename_i n U;cases A;exact SD K J G O hi Y U h
   cases A
  cases A
 ·split at A
  ·rename_i k e x' i' Y O hi
   split at A
   ·rename_i n U;cases A;exact Sq K J G O hi Y U h
   cases A
  ·rename_i x' i' Y O hi
   cases A
   exact Sr K J G O hi Y h
  cases A
 ·split at A
  ·rename_i y I;cases A;exact S4 K J G I h
  cases A
 ·exact Sx K J hF hK hm od hc G A h
 cases A
end
def kP(E:Env)(d:Option Key)(v:ax):Env:=match d with|some d=>E.set d v|none=>E
theorem EL{dst:Option Key}{E E':Env}{H':aE}{k:Env→aE→e9}{r:aH}(h:fin dst E k r= .ok E' H'):∃v H1,r= .ok v H1∧k (kP E dst v) H1= .ok E' H':=by
 cases r with
 |err n=>cases h
 |ok v H1=>
  refine⟨v,H1,rfl,?_⟩
  cases dst with
  |none=>exact h
  |some d=>
   have h:E.Ab d v (fun E=>k E H1)= .ok E' H':=h
   rw[T4.Bc] at h
   exact h
theorem wK(dst:Option Key)(E:Env)(H:aE)(k:Env→aE→e9):k9 dst E H k=k (kP E dst .undef) H:=by
 cases dst with
 |none=>rfl
 |some d=>show E.Ab d .undef (fun E=>k E H)=_;rw[T4.Bc];rfl
inductive nw(E:Env):Option (Key×Bool)→Bool→Prop
 |none:nw E none true
 |slot {t:Key} {want b:Bool}:E.get t=some (.bool b)→nw E (some (t,want)) (b==want)
 |off {t:Key} {want:Bool}:E.get t=some .undef→nw E (some (t,want)) false
theorem uV{call:fc}{o:bA}{E E':Env}{H H':aE}{k:Env→aE→e9}(h:o.step call E H k= .ok E' H'):
  (nw E o.g true∧∃v H1,o.op.ev call E H= .ok v H1∧k (kP E o.dst v) H1= .ok E' H')∨(nw E o.g false∧k (kP E o.dst .undef) H= .ok E' H'):=by
 obtain⟨dst,g,q,op⟩:=o
 cases g with
 |none=>exact .inl ⟨.none,EL h⟩
 |some G=>
  obtain⟨t,want⟩:=G
  have h:ob (E.get t) (e9.err 51) (fun v=>xq v (k9 dst E H k) fun b=>aJ (Bool.xor b want) (k9 dst E H k) (bA.run call ⟨dst,some (t,want),q,op⟩ E H k))= .ok E' H':=h
  cases z:E.get t with
  |none=>rw[z] at h;cases h
  |some v=>
   rw[z] at h
   cases v<;>try(cases h;done)
   case undef=>
    have h:k9 dst E H k= .ok E' H':=h
    rw[wK] at h
    exact .inr ⟨.off z,h⟩
   rename_i b
   have h:aJ (Bool.xor b want) (k9 dst E H k) (bA.run call ⟨dst,some (t,want),q,op⟩ E H k)= .ok E' H':=h
   have A:=nw.slot (E:=E) (want:=want) z
   cases b<;>cases want
   ·exact .inl ⟨A,EL h⟩
   ·rw[show Bool.xor false true=true from rfl,gi,wK] at h;exact .inr ⟨A,h⟩
   ·rw[show Bool.xor true false=true from rfl,gi,wK] at h;exact .inr ⟨A,h⟩
   exact .inl ⟨A,EL h⟩
structure Ah(P:Program)(nt:Nat)(ops:Array Oper)(o:Oper)(io:bA):Prop where
 dst:o.dst=io.dst.map Key.n
 lt:∀d,io.dst=some d→d.n<nt
 g:(o.guard=none∧io.g=none)∨∃j want d,o.guard=some (j,want)∧(ops[j]?).bind (·.dst)=some d.n∧io.g=some (d,want)
 op:CG P o.op=some io.op∨io.op=bad
theorem Nd{call:fc}{E:Env}{H H':aE}{v:ax}(h:bad.ev call E H= .ok v H'):False:=by cases h
section
variable{P:Program}{ρ:Ho}{nt:Nat}{E:Env}{a:Act}{C:Nat→Option et}{w:World}{H H':aE}{v:ax}{call:fc}{ops:Array Oper}{Q:Exit→Act→World→Prop}
theorem Hl{o:Oper}{io:bA}{b:Bool}(ho:Ah P nt ops o io)(A:nw E io.g b)(K:∀t v,E.get t=some v→∃cv,a.tmps[t.n]?=some cv∧VR ρ v cv):Region.wanted o (yielded ops a.tmps)=b:=by
 unfold Region.wanted
 rcases ho.g with⟨G,h2⟩|⟨j,want,d,G,h2,O⟩
 ·rw[h2] at A
  rw[G]
  cases A
  rfl
 rw[O] at A
 rw[G]
 cases A with
 |slot I=>
  obtain⟨cv,J,z⟩:=K _ _ I
  simp only[VR] at z
  subst z
  simp only[yielded,h2,Option.bind_some,J]
  rename_i b
  cases b<;>cases want<;>rfl
 |off I=>
  obtain⟨cv,J,z⟩:=K _ _ I
  simp only[VR] at z
  subst z
  simp only[yielded,h2,Option.bind_some,J,undef]
  cases want<;>rfl
theorem DM(A:kH ρ C H){ρ':Ho}(G:∀f g h,ρ' f g=some h→(∃g0 h0,ρ f g0=some h0)∨(H.next≤f∧f<H'.next)):kH ρ' (gY C H H') H':=by
 intro f o z ho
 obtain⟨g,h,z⟩:=z
 unfold gY
 split
 ·exact ho
 rename_i I
 split
 ·rename_i he
  refine A f o ?_ (he▸ho)
  rcases G f g h z with k|k
  ·exact k
  exact absurd k I
 exact ho
theorem iQ.sub(h:iQ ρ H.next H'.next){ρ':Ho}{n1:Nat}(z:∀f g h,ρ' f g=some h→(∃g0 h0,ρ f g0=some h0)∨(H.next≤f∧f<n1))(I:H.next≤n1):iQ ρ' n1 H'.next:=by
 intro f g h2 A
 cases G:ρ' f g with
 |none=>rfl
 |some x=>
  rcases z f g x G with⟨g0,h0,e⟩|e
  ·rw[h f g0 ah A] at e;cases e
  omega
theorem iQ.le{n0 n1 z:Nat}(h:iQ ρ n0 z)(A:n1≤z):iQ ρ n0 n1:=fun f g a b=>h f g a ah
theorem AR.F8(h:AR P ρ nt E a){d:Option Key}(z:∀x,d=some x→x.n<nt){v:ax}{cv:Value}(A:VR ρ v cv):AR P ρ nt (kP E d v) (a.put (d.map Key.n) cv):=by
 cases d with
 |none=>exact h
 |some d=>exact h.put (z d rfl) A
theorem DF(A:kZ P call):∀(l:List bA)(E:Env)(H:aE)(E':Env)(H':aE),H.bj≤H.next→nu call l E H= .ok E' H'→gO H H'
 |[],E,H,E',H',_,h=>by cases h;exact gO.refl _
 |o::r,E,H,E',H',z,h=>by
  rcases uV (show o.step call E H (nu call r)= .ok E' H' from h) with⟨_,v,H1,G,h2⟩|⟨_,h2⟩
  ·have t1:=TM.ins z (fun f a=>A.nc f a H z) E o.op v H1 G
   exact t1.trans (DF A r _ _ _ _ (by rw[t1.bj];exact kx z t1.next) h2)
  exact DF A r _ _ _ _ z h2
def WF(H:aE):Prop:=∀x,H.next≤x→H.t.get x=none
theorem HS{H1 A:aE}(h:gO H1 A)(f:Nat)(z:Wr H1 f):Wr A f:=by
 rcases z with z|z
 ·exact .inl (h.ws f z)
 exact .inr (by rw[h.bj];exact z)
def rD(P:Program)(nt:Nat)(E':Env)(H H':aE)(C:Nat→Option et)(ρ:Ho)(w:World)(K:Act→World→Prop):Prop:=
 ∀a' w' ρ',AR P ρ' nt E' a'→Ext (Wr H') H.next H'.next ρ ρ' w w'→R ρ' (gY C H H') w'→kH ρ' (gY C H H') H'→K a' w'
theorem LJ{ρ:Ho}(hK:kH ρ C H){H1 z:aE}(h1:H.next≤H1.next)(h2:H1.next≤z.next)(A:∀f,H1.t.get f≠none→z.t.get f≠none){ρ':Ho}(hd:∀f g h,ρ' f g=some h→(∃g0 h0,ρ f g0=some h0)∨(H.next≤f∧f<z.next))
  (f:Nat) (o:et) (h:gY C H z f=some o) (I:∃g x,ρ' f g=some x):gY (gY C H H1) H1 z f=some o:=by
 obtain⟨g,x,I⟩:=I
 unfold gY at h⊢
 by_cases J:H1.next≤f∧f<z.next
 ·rw[az ⟨ah,J.2⟩] at h
  rw[az J]
  exact h
 rw[al J]
 by_cases K:H.next≤f∧f<H1.next
 ·rw[az ⟨K.1,ah⟩] at h
  rw[az K]
  split
  ·rename_i e;rw[←e];exact h
  exact h
 have Z:¬(H.next≤f∧f<z.next):=by omega
 rw[al K]
 rw[al Z] at h
 have G:∃g0 h0,ρ f g0=some h0:=(hd f g x I).resolve_right Z
 have O:=fun U=>hK f U G
 split
 ·rename_i e
  split
  ·rename_i e1
   rw[az (e.trans e1)] at h
   exact h
  rename_i e1
  rw[al (by rw[e];exact e1),e] at h
  exact h
 rename_i e
 split at h
 ·rename_i e2
  rw[e2]
  cases Y:H.t.get f with
  |none=>
   have h3:H1.t.get f≠none:=fun e3=>e (by rw[e2,Y,e3])
   exact absurd (e2.trans Y) (A f h3)
  |some U=>
   rw[O U Y] at h
   exact h
 exact h
theorem VG{o:Oper}{io:bA}{H1:aE}{E':Env}{K:Act→World→Prop}(ho:Ah P nt ops o io)(hA:AR P ρ nt E a)(U:kH ρ C H)(Y:gO H H1)(I:gO H1 H')
  (J:rD P nt E' H H' C ρ w K) {cv:Value} {w':World} (hp:ez ρ C w H v H1 cv w') {K':Act→World→Prop}
  (hk:∀ρ' Z,AR P ρ' nt (kP E io.dst v) (a.put o.dst cv)→R ρ' Z w'→kH ρ' Z H1→(∀f g h,ρ' f g=some h→(∃g0 h0,ρ f g0=some h0)∨(H.next≤f∧f<H1.next))→vE P ρ'→rD P nt E' H1 H' Z ρ' w' K→K' (a.put o.dst cv) w'):
  K' (a.put o.dst cv) w':=by
 obtain⟨ρ',hv,A,C4⟩:=hp
 have G:AR P ρ' nt (kP E io.dst v) (a.put o.dst cv):=by
  rw[ho.dst]
  exact(hA.mono A.le).F8 ho.lt hv
 refine hk ρ' (gY C H H1) G C4 (DM U A.jL) A.jL G.sG fun a2 w2 O G GD hR2 hK2=>?_
 have z:Ext (Wr H') H.next H'.next ρ O w w2:=(A.mono (HS I)).trans GD
 refine J a2 w2 O G z ?_ (DM U z.jL)
 exact hR2.weaken fun f o h hf=>LJ U Y.next I.next I.jo z.jL f o h hf
theorem K0(hc:kZ P call){K:Act→World→Prop}:∀(l:List bA)(os:List Oper)(k:Nat),os.length=l.length→(∀(i:Nat)(o:Oper)(io:bA),os[i]?=some o→l[i]?=some io→Ah P nt ops o io)→(∀(i:Nat)(o:Oper),os[i]?=some o→ops[k+i]?=some o)→
  ∀(E:Env)(H:aE)(E':Env)(H':aE)(ρ:Ho)(C:Nat→Option et)(a:Act)(w:World),nu call l E H= .ok E' H'→AR P ρ nt E a→R ρ C w→kH ρ C H→iQ ρ H.next H'.next→H.bj≤H.next→WF H→
  rD P nt E' H H' C ρ w K→(∀a w,K a w→Q .normal a w)→wpOps P ops Q ((List.range' k l.length)) a w
 |[],os,k,hl,O,U,E,H,E',H',ρ,C,a,w,h,Y,hR,hK,hF,hm,I,z,hQ=>by
  cases h
  refine hQ _ _ (z a w ρ Y (Ext.refl _ _ _ _) ?_ ?_)
  ·rw[qe];exact hR
  rw[qe];exact hK
 |io::r,[],k,hl,_,_,_,_,_,_,_,_,_,_,_,_,_,_,_,_,_,_,_=>by simp at hl
 |io::r,o::os,k,hl,O,U,E,H,E',H',ρ,C,a,w,h,Y,hR,hK,hF,hm,I,z,hQ=>by
  have ho:=O 0 o io rfl rfl
  have C5:ops[k]?=some o:=by simpa using U 0 o rfl
  have A:=K0 hc (K:=K) r os (k+1) (by simpa using hl) (fun i o io J h2=>O (i+1) o io (by simpa using J) (by simpa using h2)) (fun i o J=>by
   have:=U (i+1) o (by simpa using J);rwa [show k+(i+1)=k+1+i by omega] at this)
  rw[cV,List.range'_succ,wpOps_cons]
  unfold wpOp
  simp only[C5]
  rcases uV (show io.step call E H (nu call r)= .ok E' H' from h) with⟨hw,v,H1,J,h2⟩|⟨hw,h2⟩
  ·rw[Hl ho hw Y.tmp,az rfl]
   left
   have G:=TM.ins hm (fun f a=>hc.nc f a H hm) E io.op v H1 J
   have ux:H1.bj≤H1.next:=by rw[G.bj];exact kx hm G.next
   have Rg:=DF hc r _ _ _ _ ux h2
   rcases ho.op with C6|Ju
   case inr=>rw[Ju] at J;exact(Nd J).elim
   have YX:=LH (o:=o) C6 Y hR (hF.le Rg.next) (fun f o' _ hf uw=>hK f o' hf uw) hm I hc J
   refine Lb YX fun cv w' hp=>?_
   refine VG ho Y hK G Rg z hp (K':=wpOps P ops Q (List.range' (k+1) r.length)) fun ρ' C' Z C4 hK' hd hg ht=>?_
   exact A _ H1 E' H' ρ' C' _ w' h2 Z C4 hK' (hF.sub hd G.next) ux (G.wf I) ht hQ
  rw[Hl ho hw Y.tmp,al (by simp)]
  have Z:AR P ρ nt (kP E io.dst .undef) (a.put o.dst undef):=by
   rw[ho.dst]
   exact Y.F8 ho.lt (by simp only[VR])
  exact A _ H E' H' ρ C _ w h2 Z hR hK hF hm I z hQ
end
def aE.mark(H:aE):aE:=⟨H.next,H.next,[],H.t⟩
def yH(H H1:aE):aE:=⟨H1.next,H.bj,pz H.bj H.ws H1.ws,H1.t⟩
theorem AQ(bj:Nat)(ws:List Nat):∀(new:List Nat)(x:Nat),x∈pz bj ws new↔x∈ws∨(x∈new∧x<bj)
 |[],x=>by show x∈ws↔_;simp
 |f::r,x=>by
  show x∈wrote f bj (pz bj ws r)↔_
  rw[AZ,AQ bj ws r]
  simp only[qO]
  constructor
  ·rintro((h|⟨h,k⟩)|⟨rfl,k⟩)
   ·exact .inl h
   ·exact .inr ⟨.inr h,k⟩
   exact .inr ⟨.inl rfl,k⟩
  rintro(h|⟨rfl|h,k⟩)
  ·exact .inl (.inl h)
  ·exact .inr ⟨rfl,k⟩
  exact .inl (.inr ⟨h,k⟩)
theorem gO.yH{H H1:aE}(G:H.bj≤H.next)(h:gO H.mark H1):gO H (yH H H1):=
 ⟨h.next,rfl,fun f z=>(AQ _ _ _ _).2 (.inl z),fun f z A=>h.same f (by show f<H.next;omega) (fun e=>A ((AQ _ _ _ _).2 (.inr ⟨e,z⟩))),h.wf,h.jo⟩
theorem LK{l m:List Nat}(h:zM l m=true):∀x,x∈l→x∉m:=by
 induction l with
 |nil=>intro x z;cases z
 |cons y r I=>
  have h:aJ (qP y m) false (zM r m)=true:=h
  intro x z G
  cases A:qP y m
  ·rw[A] at h
   cases z with
   |head=>rw[(Hz _ _).2 G] at A;cases A
   |tail _ z=>exact I h x z G
  rw[A] at h;cases h
theorem LL{l:List Nat}{r:Option (List Nat)}(h:Cb l r=true){x:Nat}(z:x∈l):∃m,r=some m∧x∉m:=by
 cases l with
 |nil=>cases z
 |cons y s=>
  cases r with
  |none=>cases h
  |some m=>exact⟨m,rfl,LK (l:=y::s) h x z⟩
theorem UA{l:List Nat}{lo hi:Nat}(h:vU l lo hi=true):∀x,x∈l→¬(lo≤x∧x<hi):=by
 induction l with
 |nil=>intro x z;cases z
 |cons y r J=>
  have h:aJ (Nat.ble lo y) (aJ (Nat.ble hi y) (vU r lo hi) false) (vU r lo hi)=true:=h
  intro x z⟨G,h2⟩
  cases A:Nat.ble lo y
  ·rw[A] at h
   cases z with
   |head=>rw[jy G] at A;cases A
   |tail _ z=>exact J h x z ⟨G,h2⟩
  rw[A] at h
  have h:aJ (Nat.ble hi y) (vU r lo hi) false=true:=h
  cases I:Nat.ble hi y
  ·rw[I] at h;cases h
  rw[I] at h
  cases z with
  |head=>have:=b0 I;omega
  |tail _ z=>exact J h x z ⟨G,h2⟩
structure yn(a b:FP):Prop where
 ab:∀x,x∈a.ws→∃m,b.rd=some m∧x∉m
 ba:∀x,x∈b.ws→∃m,a.rd=some m∧x∉m
 ww:∀x,x∈a.ws→x∉b.ws
 out:∀x,x∈a.ws→¬(b.lo≤x∧x<b.hi)
theorem Tg{a b:FP}(h:tl a b=true):yn a b:=by
 unfold tl at h
 have z:∀{p:Bool}{q:Bool},aJ p q false=true→p=true∧q=true:=by intro p q h;cases p;cases h;exact⟨rfl,h⟩
 obtain⟨A,h⟩:=z h
 obtain⟨h2,h⟩:=z h
 obtain⟨G,h⟩:=z h
 exact⟨fun x=>LL A,fun x=>LL h2,LK G,UA h⟩
theorem K1{a:FP}{b9:List FP}:∀{l:List Nat},qd a b9 l=true→∀k,k∈l→∃b,b9[k]?=some b∧yn a b
 |[],_,k,hk=>by cases hk
 |i::r,h,k,hk=>by
  have h:ob (b9[i]?) false (fun b=>aJ (tl a b) (qd a b9 r) false)=true:=h
  cases z:b9[i]?with
  |none=>rw[z] at h;cases h
  |some b=>
   rw[z] at h
   have h:aJ (tl a b) (qd a b9 r) false=true:=h
   cases hp:tl a b
   ·rw[hp] at h;cases h
   rw[hp] at h
   cases hk with
   |head=>exact⟨b,z,Tg hp⟩
   |tail _ hk=>exact K1 h k hk
inductive qH(call:fc)(o:bA)(E:Env)(H:aE)(b9:List FP):Bool→ax→FP→aE→Prop
 |skip {fp:FP}:nw E o.g false→(o.q.isSome=true→fp=⟨some [],[],0,0⟩)→qH call o E H b9 false .undef fp H
 |plain {v:ax} {fp:FP} {H1:aE}:nw E o.g true→o.q=none→o.op.ev call E H= .ok v H1→qH call o E H b9 true v fp H1
 |marked {v:ax} {q:List Nat} {H1:aE}:nw E o.g true→o.q=some q→o.op.ev call E H.mark= .ok v H1→qd ⟨o.op.reads E,H1.ws,H.next,H1.next⟩ b9 q=true→
   qH call o E H b9 true v ⟨o.op.reads E,H1.ws,H.next,H1.next⟩ (yH H H1)
def A5(o:bA)(fp:FP)(b9:List FP):List FP:=match o.q with|some _=>fp::b9|none=>b9
theorem VH{rs:Option (List Nat)}{l:List Nat}{next bj:Nat}{ws:List Nat}{b9:List FP}{dst:Option Key}{E E':Env}{H':aE}{k:Env→aE→List FP→e9}{v:ax}{next' A:Nat}{z:List Nat}{t':HT}
  (h:Ad rs l next bj ws b9 dst E k (.ok v ⟨next',A,z,t'⟩)= .ok E' H'):
  qd ⟨rs,z,next,next'⟩ b9 l=true∧k (kP E dst v) ⟨next',bj,pz bj ws z,t'⟩ (⟨rs,z,next,next'⟩::b9)= .ok E' H':=by
 unfold Ad at h
 dsimp only at h
 cases G:qd ⟨rs,z,next,next'⟩ b9 l
 ·rw[G] at h;cases h
 rw[G,gi] at h
 refine⟨rfl,?_⟩
 cases dst with
 |none=>exact h
 |some d=>
  dsimp only at h
  rw[T4.Bc] at h
  exact h
theorem Ms{call:fc}{o:bA}{E E':Env}{H H':aE}{b9:List FP}{k:Env→aE→List FP→e9}(h:o.nT call E H b9 k= .ok E' H'):
  ∃b v fp H1,qH call o E H b9 b v fp H1∧k (kP E o.dst v) H1 (A5 o fp b9)= .ok E' H':=by
 have run:nw E o.g true→o.qQ call E H b9 k= .ok E' H'→∃b v fp H1,qH call o E H b9 b v fp H1∧k (kP E o.dst v) H1 (A5 o fp b9)= .ok E' H':=by
  intro z h
  obtain⟨dst,g,q,op⟩:=o
  cases q with
  |none=>
   obtain⟨v,H1,K,h2⟩:=EL (k:=fun E H=>k E H b9) h
   exact⟨true,v,⟨none,[],0,0⟩,H1,.plain z rfl K,h2⟩
  |some q=>
   cases H with
   |mk next bj ws t=>
    have h:dz next (fun next=>Ad (op.reads E) q next bj ws b9 dst E k (op.ev call E ⟨next,next,[],t⟩))= .ok E' H':=h
    rw[iG] at h
    cases J:op.ev call E ⟨next,next,[],t⟩ with
    |err n=>rw[J] at h;cases h
    |ok v H1=>
     rw[J] at h
     cases H1 with
     |mk next' A G t'=>
      obtain⟨O,h⟩:=VH h
      exact⟨true,v,⟨op.reads E,G,next,next'⟩,yH ⟨next,bj,ws,t⟩ ⟨next',A,G,t'⟩,.marked (q:=q) (H1:=⟨next',A,G,t'⟩) z rfl J O,h⟩
 have skip:nw E o.g false→k9 o.dst E H (fun E H=>k E H (su o.q b9))= .ok E' H'→∃b v fp H1,qH call o E H b9 b v fp H1∧k (kP E o.dst v) H1 (A5 o fp b9)= .ok E' H':=by
  intro z h
  rw[wK] at h
  obtain⟨dst,g,q,op⟩:=o
  refine⟨false,.undef,⟨some [],[],0,0⟩,H,.skip z (fun _=>rfl),?_⟩
  cases q<;>exact h
 obtain⟨dst,g,q,op⟩:=o
 cases g with
 |none=>exact run .none h
 |some U=>
  obtain⟨t,want⟩:=U
  have h:ob (E.get t) (e9.err 51) (fun v=>xq v (k9 dst E H fun E H=>k E H (su q b9)) fun b=>aJ (Bool.xor b want) (k9 dst E H fun E H=>k E H (su q b9)) (bA.qQ call ⟨dst,some (t,want),q,op⟩ E H b9 k))= .ok E' H':=h
  cases I:E.get t with
  |none=>rw[I] at h;cases h
  |some v=>
   rw[I] at h
   cases v<;>try(cases h;done)
   case undef=>exact skip (.off I) h
   rename_i b
   have h:aJ (Bool.xor b want) (k9 dst E H fun E H=>k E H (su q b9)) (bA.qQ call ⟨dst,some (t,want),q,op⟩ E H b9 k)= .ok E' H':=h
   have z:=nw.slot (E:=E) (want:=want) I
   cases b<;>cases want
   ·exact run z h
   ·exact skip z h
   ·exact skip z h
   exact run z h
structure Trace(call:fc)(l:List bA)(E:Env)(H:aE)(b9:List FP)(E':Env)(H':aE)(Es:Nat→Env)(Hs:Nat→aE)(Rs:Nat→List FP)(Wn:Nat→Bool)(Vs:Nat→ax)(Fp:Nat→FP):Prop where
 e0:Es 0=E
 h0:Hs 0=H
 r0:Rs 0=b9
 eN:Es l.length=E'
 hN:Hs l.length=H'
 step:∀i o,l[i]?=some o→qH call o (Es i) (Hs i) (Rs i) (Wn i) (Vs i) (Fp i) (Hs (i+1))∧Es (i+1)=kP (Es i) o.dst (Vs i)∧Rs (i+1)=A5 o (Fp i) (Rs i)
theorem Mt{call:fc}:∀(l:List bA)(E:Env)(H:aE)(b9:List FP)(E':Env)(H':aE),mz call l E H b9= .ok E' H'→
  ∃Es Hs Rs Wn Vs Fp,Trace call l E H b9 E' H' Es Hs Rs Wn Vs Fp
 |[],E,H,b9,E',H',h=>by
  cases h
  exact⟨fun _=>E,fun _=>H,fun _=>b9,fun _=>true,fun _=>.undef,fun _=>⟨none,[],0,0⟩,rfl,rfl,rfl,rfl,rfl,fun i o h=>by simp at h⟩
 |o::r,E,H,b9,E',H',h=>by
  obtain⟨b,v,fp,H1,A,h2⟩:=Ms (show o.nT call E H b9 (mz call r)= .ok E' H' from h)
  obtain⟨Es,Hs,Rs,Wn,Vs,Fp,t⟩:=Mt r _ _ _ _ _ h2
  refine⟨fun|0=>E|i+1=>Es i,fun|0=>H|i+1=>Hs i,fun|0=>b9|i+1=>Rs i,fun|0=>b|i+1=>Wn i,fun|0=>v|i+1=>Vs i,fun|0=>fp|i+1=>Fp i,rfl,rfl,rfl,t.eN,t.hN,fun i x z=>?_⟩
  cases i with
  |zero=>
   simp at z
   subst z
   simp only[t.e0,t.h0,t.r0]
   exact⟨A,True.intro,True.intro⟩
  |succ i=>exact t.step i x (by simpa using z)
def PS(H:aE)(r:aH):Prop:=∀v H',r= .ok v H'→H'=H
theorem PS.err{H:aE}{n:Nat}:PS H (.err n):=fun _ _ h=>by cases h
theorem PS.ok{H:aE}{v:ax}:PS H (.ok v H):=fun _ _ h=>by cases h;rfl
theorem PS.aJ{H:aE}{b:Bool}{k e:aH}(h:PS H k)(h':PS H e):PS H (aJ b k e):=by cases b;exact h';exact h
theorem PS.ob{H:aE}{α:Type}{o:Option α}{e:aH}{k:α→aH}(h:∀x,PS H (k x))(h':PS H e):PS H (ob o e k):=by cases o;exact h';exact h _
theorem PS.bI{H:aE}{x:aI}{E:Env}{e:aH}{k:ax→aH}(h:∀x,PS H (k x))(h':PS H e):PS H (bI x E e k):=by
 cases x with
 |t i=>exact PS.ob (o:=E.get i) h h'
 |c a=>exact h a
theorem PS.tv{H:aE}{a:ax}{e:aH}{k:Bool→aH}(h:∀x,PS H (k x))(h':PS H e):PS H (tv a e k):=by cases a<;>first|exact h'|exact h _
theorem PS.gU{H:aE}{a:ax}{e:aH}{k:IntKind→Int→aH}(h:∀x y,PS H (k x y))(h':PS H e):PS H (gU a e k):=by cases a<;>first|exact h'|exact h _ _
theorem PS.j7{H:aE}{a:ax}{e:aH}{k:Nat→Nat→aH}(h:∀x y,PS H (k x y))(h':PS H e):PS H (j7 a e k):=by cases a<;>first|exact h'|exact h _ _
theorem PS.iW{H:aE}{a:ax}{e:aH}{k:Nat→Nat→Nat→aH}(h:∀x y z,PS H (k x y z))(h':PS H e):PS H (iW a e k):=by cases a<;>first|exact h'|exact h _ _ _
theorem PS.hO{H:aE}{a:ax}{e e2:aH}{k:Nat→Nat→Nat→Nat→Nat→aH}(h:∀x y z u w,PS H (k x y z u w))(h2:PS H e2)(h':PS H e):PS H (hO a e e2 k):=by cases a<;>first|exact h'|exact h2|exact h _ _ _ _ _
theorem PS.pN{H:aE}{a:ax}{e:aH}{k:List ax→aH}(h:∀x,PS H (k x))(h':PS H e):PS H (pN a e k):=by cases a<;>first|exact h'|exact h _
theorem PS.th{H:aE}{a:ax}{e:aH}{k:List ax→aH}(h:∀x,PS H (k x))(h':PS H e):PS H (th a e k):=by cases a<;>first|exact h'|exact h _
theorem PS.vc{H:aE}{a:ax}{e:aH}{k:Nat→List ax→List ax→aH}(h:∀x y z,PS H (k x y z))(h':PS H e):PS H (vc a e k):=by cases a<;>first|exact h'|exact h _ _ _
theorem PS.jc{H:aE}{i:Int}{e:aH}{k:Nat→aH}(h:∀x,PS H (k x))(h':PS H e):PS H (jc i e k):=by cases i;exact h _;exact h'
theorem PS.idx{H:aE}{a:ax}{n:Nat}{e:aH}{k:Nat→aH}(h:∀x,PS H (k x))(h':PS H e):PS H (idx a n e k):=PS.gU (fun _ _=>PS.jc (fun _=>PS.aJ (h _) h') h') h'
theorem PS.gH{H:aE}{E:Env}{x:Option aI}{d y:Nat}{e:aH}{k:Nat→aH}(h:∀x,PS H (k x))(h':PS H e):PS H (gH E x d y e k):=by
 cases x with
 |none=>exact h _
 |some z=>exact PS.ob (fun _=>PS.gU (fun _ _=>PS.jc (fun _=>PS.aJ (h _) h') h') h') h'
theorem PS.jt{H:aE}{o:Option et}{e:aH}{k:Nat→Nat→Nat→Nat→Nat→Nat→RT→aH}(h:∀a b c d e f g,PS H (k a b c d e f g))(h':PS H e):PS H (jt o e k):=by
 cases o with
 |none=>exact h'
 |some o=>cases o with
  |row=>exact h _ _ _ _ _ _ _
  |map=>exact h'
theorem PS.jf{H:aE}{agg:Bool}{l:List ax}{e:aH}{k:ax→aH}(h:∀x,PS H (k x))(h':PS H e):PS H (jf agg l e k):=by
 refine PS.aJ (h _) ?_
 cases l with
 |nil=>exact h'
 |cons x r=>cases r with
  |nil=>exact h _
  |cons=>exact h'
theorem PS.dz{H:aE}{n:Nat}{k:Nat→aH}(h:∀x,PS H (k x)):PS H (dz n k):=by rw[iG];exact h _
theorem PS.lR{H:aE}{n:Int}{k:Int→aH}(h:∀x,PS H (k x)):PS H (lR n k):=by rw[sZ];exact h _
theorem PS.nj{H:aE}{n:ax}{k:ax→aH}(h:∀x,PS H (k x)):PS H (nj n k):=by rw[uJ];exact h _
theorem PS.nM{H:aE}{n:Bool}{k:Bool→aH}(h:∀x,PS H (k x)):PS H (nM n k):=by cases n<;>exact h _
theorem TW{call:fc}{H:aE}{E:Env}{o:bP}(hp:nk o=true):PS H (o.ev call E H):=by
 cases o with
 |o4 x=>exact PS.bI (fun _=>PS.ok) PS.err
 |pick c a b=>exact PS.bI (fun _=>PS.tv (fun _=>PS.aJ (PS.bI (fun _=>PS.ok) PS.err) (PS.bI (fun _=>PS.ok) PS.err)) PS.err) PS.err
 |cw a b c d=>cases hp
 |box a b c d=>cases hp
 |load a b c=>cases hp
 |store a b c=>cases hp
 |bin op x y=>exact PS.bI (fun _=>PS.bI (fun _=>by rw[Ee];exact PS.ob (fun _=>PS.nj fun _=>PS.ok) PS.err) PS.err) PS.err
 |eqv c n x y=>exact PS.bI (fun _=>PS.bI (fun _=>PS.ob (fun _=>PS.nM fun _=>PS.ok) PS.err) PS.err) PS.err
 |un op x=>exact PS.bI (fun _=>PS.ob (fun _=>PS.nj fun _=>PS.ok) PS.err) PS.err
 |oT x k=>exact PS.bI (fun _=>PS.iW (fun _ _ _=>PS.dz fun _=>PS.ok) PS.err) PS.err
 |sub x a b c=>exact PS.bI (fun _=>PS.pN (fun _=>PS.aJ (PS.jf (fun _=>PS.ok) PS.err) PS.err) PS.err) PS.err
 |eb a b x i=>exact PS.bI (fun _=>PS.iW (fun _ _ _=>PS.bI (fun _=>PS.idx (fun _=>PS.dz fun _=>PS.ok) PS.err) PS.err) PS.err) PS.err
 |dV a x i=>exact PS.bI (fun _=>PS.hO (fun _ _ _ _ _=>PS.bI (fun _=>PS.idx (fun _=>PS.dz fun _=>PS.ok) PS.err) PS.err) PS.err PS.err) PS.err
 |BA a b c x i=>exact PS.bI (fun _=>PS.pN (fun _=>PS.bI (fun _=>PS.idx (fun _=>PS.aJ (PS.jf (fun _=>PS.ok) PS.err) PS.err) PS.err) PS.err) PS.err) PS.err
 |tu x i=>exact PS.bI (fun _=>PS.j7 (fun _ _=>PS.bI (fun _=>PS.idx (fun _=>PS.dz fun _=>PS.ok) PS.err) PS.err) PS.err) PS.err
 |js x a b=>exact PS.bI (fun _=>PS.j7 (fun _ _=>PS.gH (fun _=>PS.gH (fun _=>PS.dz fun _=>PS.dz fun _=>PS.ok) PS.err) PS.err) PS.err) PS.err
 |pS n x a b=>exact PS.bI (fun _=>PS.hO (fun _ _ _ _ _=>PS.aJ (PS.gH (fun _=>PS.gH (fun _=>PS.dz fun _=>PS.dz fun _=>PS.ok) PS.err) PS.err) PS.err) (PS.gH (fun _=>PS.gH (fun _=>PS.ok) PS.err) PS.err) PS.err) PS.err
 |xe k n x a b=>cases hp
 |sF x i=>exact PS.bI (fun _=>PS.th (fun _=>PS.ob (fun _=>PS.ok) PS.err) PS.err) PS.err
 |pM x=>exact PS.bI (fun _=>PS.aJ PS.ok PS.err) PS.err
 |oU f z l=>exact PS.ob (fun _=>PS.ob (fun _=>PS.ok) PS.err) PS.err
 |vT t x=>exact PS.bI (fun _=>PS.ok) PS.err
 |tZ a b c d e f=>cases hp
 |build a b=>exact PS.ob (fun _=>PS.ok) PS.err
 |cG a b c d e f=>cases hp
 |len x=>exact PS.bI (fun _=>PS.hO (fun _ _ _ _ _=>PS.ok) PS.ok PS.err) PS.err
 |Cx n=>exact PS.ok
 |pT x=>exact PS.bI (fun _=>PS.j7 (fun _ _=>PS.ok) PS.err) PS.err
 |app a b c x y=>cases hp
 |rY a x y=>cases hp
 |copy a b c=>cases hp
 |BB a b c=>exact PS.bI (fun _=>PS.gU (fun _ _=>PS.ob (fun _=>PS.ob (fun _=>PS.ok) PS.err) PS.err) PS.err) PS.err
 |conv k x=>exact PS.bI (fun _=>PS.gU (fun _ _=>PS.lR fun _=>PS.ok) PS.err) PS.err
 |EC x=>exact PS.bI (fun _=>PS.ok) PS.err
 |yB e x=>cases hp
 |nN x=>cases hp
 |call f l=>cases hp
 |ns x l=>cases hp
 |rl t n x=>cases hp
 |wa x=>exact PS.bI (fun _=>PS.hO (fun _ _ _ _ _=>PS.aJ PS.err PS.ok) PS.ok PS.err) PS.err
 |rA e x n=>cases hp
theorem Th{E:Env}{o:bP}(hp:nk o=true):o.reads E=some []:=by
 cases o<;>first|rfl|cases hp
inductive lT(ops:Array Oper):Nat→Nat→Prop
 |F9 {j:Nat} {o:Oper} {e:Edge}:ops[j]?=some o→e∈o.after→Region.binds .any e=true→lT ops e.on j
 |step {i k j:Nat}:lT ops i k→lT ops k j→lT ops i j
def EM(ops:Array Oper)(S:Nat→Bool):Prop:=∀j o e,ops[j]?=some o→e∈o.after→Region.binds .any e=true→S j=true→S e.on=true
def I0(ops:Array Oper)(S:Nat→Bool)(j:Nat):Prop:=∀o e,ops[j]?=some o→e∈o.after→Region.binds .any e=true→S e.on=true
theorem lT.closed{ops:Array Oper}{S:Nat→Bool}(G:EM ops S){i j:Nat}(h:lT ops i j):S j=true→S i=true:=by
 induction h with
 |F9 I h2 J=>exact fun h=>G _ _ _ I h2 J h
 |step _ _ z A=>exact fun h=>z (A h)
theorem lT.ready{ops:Array Oper}{S:Nat→Bool}(G:EM ops S){i j:Nat}(h:lT ops i j):I0 ops S j→S i=true:=by
 induction h with
 |F9 z h2 I=>exact fun h=>h _ _ z h2 I
 |step z _ _ A=>exact fun h=>z.closed G (A h)
def AF(ms:List Nat):List Edge→Nat
 |[]=>0
 |e::r=>if Region.binds .any e=true then 2^e.on|||ms.getD e.on 0|||AF ms r else AF ms r
def xY:List Oper→List Nat→List Nat
 |[],ms=>ms
 |o::r,ms=>xY r (ms++[AF ms o.after.toList])
def DZ:Nat→List Oper→Bool
 |_,[]=>true
 |k,o::r=>(o.after.toList.all fun e=>!Region.binds .any e||decide (e.on<k))&&DZ (k+1) r
theorem Oa{ops:Array Oper}{ms:List Nat}(z:∀j i,(ms.getD j 0).testBit i=true→lT ops i j){j:Nat}{o:Oper}(ho:ops[j]?=some o):
  ∀(l:List Edge),(∀e,e∈l→e∈o.after)→∀i,(AF ms l).testBit i=true→lT ops i j
 |[],_,i,h=>by simp[AF] at h
 |e::r,A,i,h=>by
  have G:=Oa z ho r (fun e he=>A e (oR _ he)) i
  unfold AF at h
  split at h
  ·rename_i I
   rw[Nat.testBit_or,Nat.testBit_or] at h
   simp only[vS] at h
   rcases h with(h|h)|h
   ·rw[Nat.testBit_two_pow] at h
    have:e.on=i:=by simpa using h
    subst this
    exact .F9 ho (A e (lh ..)) I
   ·exact .step (z _ _ h) (.F9 ho (A e (lh ..)) I)
   exact G h
  exact G h
theorem KN{ops:Array Oper}:∀(l:List Oper)(ms:List Nat),(∀n,l[n]?=ops[ms.length+n]?)→(∀j i,(ms.getD j 0).testBit i=true→lT ops i j)→
  ∀j i,((xY l ms).getD j 0).testBit i=true→lT ops i j
 |[],ms,_,h=>h
 |o::r,ms,A,h=>by
  refine KN r _ (fun n=>?_) fun j i z=>?_
  ·have:=A (n+1)
   simp only[Jh] at this
   rw[this];simp only[bE,cV,dL];congr 1;omega
  have ho:ops[ms.length]?=some o:=by have:=A 0;simpa using this.symm
  rcases Jb j ms.length with ew|rfl|G
  ·rw[E3,rz ew,←E3] at z
   exact h j i z
  ·rw[E3,xm (bR _)] at z
   simp only[Nat.sub_self,List.getElem?_cons_zero,Option.getD_some] at z
   exact Oa h ho _ (fun e he=>by simpa using he) i z
  rw[E3,FY (by simp;omega)] at z
  simp at z
theorem K2:∀(l:List Oper)(k:Nat),DZ k l=true→∀n o e,l[n]?=some o→e∈o.after→Region.binds .any e=true→e.on<k+n
 |[],_,_,n,o,e,h,_,_=>by simp at h
 |x::r,k,h,n,o,e,z,he,A=>by
  unfold DZ at h
  simp only[fE,FR] at h
  cases n with
  |zero=>
   simp at z;subst z
   have:=h.1 e (by simpa using he)
   simpa[A] using this
  |succ n=>
   have:=K2 r (k+1) h.2 n o e (by simpa using z) he A
   omega
def W4:aI→Option Key
 |.t n=>some n
 |_=>none
def tz(o:bA):List Key:=o.op.dX.filterMap W4++(match o.g with|some (t,_)=>[t]|none=>[])
def Ce(d:Option Key)(l:List Key):Bool:=match d with|some d=>!(l.contains d)|none=>true
def Im(x y:bA):Bool:=Ce x.dst (tz y)&&Ce x.dst y.dst.toList&&Ce y.dst (tz x)
def Ob(ms:List Nat)(l:List bA):Bool:=
 (List.range l.length).all fun j=>(List.range j).all fun i=>(ms.getD j 0).testBit i||(match l[i]?,l[j]?with|some x,some y=>Im x y|_,_=>false)
theorem HB{d:Option Key}{l:List Key}(h:Ce d l=true):∀t,t∈l→d≠some t:=by
 intro t z he
 subst he
 simp[Ce] at h
 exact h z
structure Io(x y:bA):Prop where
 xy:∀t,t∈tz y→x.dst≠some t
 dd:∀t,y.dst=some t→x.dst≠some t
 yx:∀t,t∈tz x→y.dst≠some t
theorem TX{x y:bA}(h:Im x y=true):Io x y:=by
 unfold Im at h
 simp only[fE] at h
 exact⟨HB h.1.1,fun t z=>HB h.1.2 t (by simp[z]),HB h.2⟩
theorem TY{ms:List Nat}{l:List bA}(h:Ob ms l=true){i j:Nat}{x y:bA}(A:i<j)(I:l[i]?=some x)(G:l[j]?=some y):(ms.getD j 0).testBit i=true∨Io x y:=by
 have J:j<l.length:=(List.getElem?_eq_some_iff.1 G).1
 have z:=List.all_eq_true.1 (List.all_eq_true.1 h j (List.mem_range.2 J)) i (List.mem_range.2 A)
 rw[I,G] at z
 rcases vS _ _|>.mp z with z|z
 ·exact .inl z
 exact .inr (TX z)
theorem LM{E E':Env}{o:bA}(h:∀t,t∈tz o→E.get t=E'.get t):∀x∈o.op.dX,x.ev E=x.ev E':=by
 intro x z
 cases x with
 |t n=>exact h n (Qa _ (List.mem_filterMap.2 ⟨.t n,z,rfl⟩))
 |c v=>rfl
theorem SN{E E':Env}{o:bA}(h:∀t,t∈tz o→E.get t=E'.get t){b:Bool}(z:nw E o.g b):nw E' o.g b:=by
 generalize A:o.g=g at z
 cases z with
 |none=>exact .none
 |slot k=>
  rename_i t want b
  refine .slot ?_
  rw[←h t (Jk _ (by rw[A];simp))]
  exact k
 |off k=>
  rename_i t want
  refine .off ?_
  rw[←h t (Jk _ (by rw[A];simp))]
  exact k
def xZ(m:Nat):Nat→List Nat→List Nat
 |_,[]=>[]
 |k,j::r=>if m.testBit j then xZ m (k+1) r else k::xZ m (k+1) r
def pO(ms:List Nat):Nat→List Nat→List bA→List bA
 |_,_,[]=>[]
 |i,seen,o::r=>if nk o.op then{o with q:=none}::pO ms (i+1) seen r else{o with q:=some (xZ (ms.getD i 0) 0 seen)}::pO ms (i+1) (i::seen) r
def seenAt(L:List bA):Nat→List Nat
 |0=>[]
 |n+1=>match L[n]?with
  |some o=>if nk o.op then seenAt L n else n::seenAt L n
  |none=>seenAt L n
theorem KO{m j:Nat}(z:m.testBit j=false):∀(seen:List Nat)(k n:Nat),seen[n]?=some j→k+n∈xZ m k seen
 |[],_,_,h=>by simp at h
 |x::r,k,n,h=>by
  unfold xZ
  cases n with
  |zero=>simp at h;subst h;rw[al (by simp[z])];exact lh ..
  |succ n=>
   have:=KO z r (k+1) n (by simpa using h)
   rw[show k+(n+1)=k+1+n by omega]
   split
   ·exact this
   exact oR _ this
theorem A6{ms:List Nat}{L:List bA}:∀(l:List bA)(i:Nat),(∀n,l[n]?=L[i+n]?)→∀n io,(pO ms i (seenAt L i) l)[n]?=some io→
  ∃z,L[i+n]?=some z∧io.dst=z.dst∧io.g=z.g∧io.op=z.op∧io.q=if nk z.op then none else some (xZ (ms.getD (i+n) 0) 0 (seenAt L (i+n)))
 |[],i,_,n,io,h=>by simp[pO] at h
 |o::r,i,A,n,io,h=>by
  have h0:L[i]?=some o:=by have:=A 0;simpa using this.symm
  have G:∀n,r[n]?=L[i+1+n]?:=fun n=>by have:=A (n+1);rw[show i+1+n=i+(n+1) by omega];simpa using this
  have I:=A6 (ms:=ms) r (i+1) G
  have J:seenAt L (i+1)=if nk o.op then seenAt L i else i::seenAt L i:=by simp only[seenAt,h0]
  unfold pO at h
  cases n with
  |zero=>
   refine⟨o,h0,?_⟩
   split at h
   ·rename_i hp;simp at h;subst h;exact⟨rfl,rfl,rfl,by rw[az hp]⟩
   rename_i hp;simp at h;subst h;exact⟨rfl,rfl,rfl,by rw[al hp];rfl⟩
  |succ n=>
   rw[show i+(n+1)=i+1+n by omega]
   refine I n io ?_
   rw[J]
   split at h
   ·rename_i hp;rw[az hp];simpa using h
   rename_i hp;rw[al hp];simpa using h
theorem KP{ms:List Nat}:∀(l:List bA)(i:Nat)(s:List Nat),(pO ms i s l).length=l.length
 |[],_,_=>rfl
 |o::r,i,s=>by
  unfold pO
  split<;>simp[KP r]
theorem Li{L:List bA}{i:Nat}{o:bA}(h:L[i]?=some o)(hp:nk o.op=false):∀n,i<n→i∈seenAt L n
 |0,h=>by omega
 |n+1,z=>by
  unfold seenAt
  rcases BU (w8 z) with ew|rfl
  ·have:=Li h hp n ew
   split
   ·split
    ·exact this
    exact oR _ this
   exact this
  simp[h,hp]
end Go.Ev
