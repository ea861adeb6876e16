/- Part 8 of rules for walks through the code of a program, and of such walks; what each part proves is said by its theorems. -/
import Derived.Test.YtmpoloiempjdpaaGreatR6
import Derived.Test.YtmpoloiempjdpaaGreatR7
import Derived.DeepKeys
import Derived.OpenShut
import Derived.Laws.StructEq
set_option linter.unusedVariables false
set_option linter.unusedSimpArgs false
noncomputable section
set_option maxRecDepth 100000
set_option maxHeartbeats 4000000
namespace Go.Ev
section
variable{P:Program}{ρ:Ho}{nt:Nat}{E:Env}{a:Act}{C:Nat→Option cV}{w:World}{H H':ax}{v:aj}{o:Oper}{call:dO}
def ia:Value→Lit
 |.bool b=>.bool b
 |.int k n=>.int k n
 |.string s=>.string s.data.toList
 |_=>.bool false
inductive xP:Nat→Value→Prop
 |int {q:IntKind} {n:Int}:xP (cK q) (.int q n)
 |bool {b:Bool}:xP 100 (.bool b)
 |str {s:ByteArray}:xP 101 (.string s)
def jL:List Nat→List Value→Prop
 |[],[]=>True
 |k::r,c::s=>xP k c∧jL r s
 |_,_=>False
theorem jL.split:∀{k l:List Nat}{cs:List Value},jL (k++l) cs→jL k (cs.take k.length)∧jL l (cs.drop k.length)
 |[],l,cs,h=>by simpa[jL] using h
 |x::k,l,[],h=>by simp[jL] at h
 |x::k,l,c::cs,h=>by
  have h:xP x c∧jL (k++l) cs:=h;obtain⟨z,h2⟩:=jL.split h.2;exact⟨by simpa[jL] using⟨h.1,z⟩,by simpa using h2⟩
theorem jL.length:∀{k:List Nat}{cs:List Value},jL k cs→cs.length=k.length
 |[],[],_=>rfl
 |[],_::_,h=>h.elim
 |_::_,[],h=>h.elim
 |_::k,_::cs,h=>by have:=jL.length h.2;simp[this]
def JI(P:Program)(t:TypeId)(x:Value)(l:List Value):Prop:=(P.plainKey t=true∧l=[x])∨∃fs z,P.underlying t=some (.struct fs)∧x= .agg z∧z.toList=l
def EqV(P:Program)(d:Nat)(t:TypeId)(ks:List Nat):Prop:=∀(w:World)x y z A,JI P t x z→JI P t y A→jL ks z→jL ks A→∃r:Bool,(Op.equalIn d t x y).run P w= .ok r w∧(r=true↔z.map ia=A.map ia)
theorem Z0(w:World){D:Nat}{e:TypeId}{k:List Nat}{z:Array Value}{off:Nat}(G:xi P D e=some k)(M:k.length=P.cellsOf e)(O:jL k ((z.toList.drop off).take k.length)):
  ∃a,(part e z off).run P w= .ok a w∧JI P e a ((z.toList.drop off).take k.length):=by
 cases D with
 |zero=>cases G
 |succ D=>
  unfold xi at G;have plain:P.plainKey e=true→k.length=1→∃a,(part e z off).run P w= .ok a w∧JI P e a ((z.toList.drop off).take k.length):=fun I U=>by
   have h2:=O.length;rw[U] at h2⊢;obtain⟨a,L⟩:∃a,(z.toList.drop off).take 1=[a]:=by
    match Z:(z.toList.drop off).take 1,h2 with
    |[a],_=>exact⟨a,rfl⟩
   exact⟨a,run_part_plain w I (getElem?_of_chunk L),.inl ⟨I,L⟩⟩
  split at G
  ·rename_i A;cases G;exact plain (by simp[Program.plainKey,A]) rfl
  ·rename_i A;cases G;exact plain (by simp[Program.plainKey,A]) rfl
  ·rename_i A;cases G;exact plain (by simp[Program.plainKey,A]) rfl
  ·rename_i fs A;obtain⟨i,hi⟩:=info_of_underlying A;have Y:(z.extract off (off+P.cellsOf e)).toList=(z.toList.drop off).take (P.cellsOf e):=by
    rw[Vt];simp[List.extract]
   exact⟨.agg (z.extract off (off+P.cellsOf e)),by simp[part,isAgg,run_underlying A,run_sizeOf w hi],.inr ⟨fs,_,A,rfl,by rw[Y,M]⟩⟩
  cases G
theorem Zd{D dd:Nat}(Y:∀t ks,xi P D t=some ks→P.keyTypeAt D t=true→EqV P dd t ks)(w:World)(z ys:Array Value):∀(fs:List Field)(off:Nat)(ks:List Nat),KP P (xi P D) off fs=some ks→
  (∀f,f∈fs→f.name≠ "_"∧P.keyTypeAt D f.type=true)→jL ks (z.toList.drop off)→jL ks (ys.toList.drop off)→
  ∃r:Bool,(Op.eqFields dd z ys fs).run P w= .ok r w∧(r=true↔(z.toList.drop off).map ia=(ys.toList.drop off).map ia)
 |[],off,ks,h,_,G,I=>by
  cases h
  refine⟨true,by simp[Op.eqFields],?_⟩;rw[sb G.length,sb I.length];simp
 |f::r,off,ks,h,Z,G,I=>by
  unfold KP at h
  split at h
  ·rename_i k L
   split at h
   ·rename_i M
    split at h
    ·rename_i l O
     cases h
     obtain⟨x1,x2⟩:=G.split;obtain⟨U,y2⟩:=I.split;have lx:=x1.length;have ly:=U.length;rw[Nt] at x2 y2;obtain⟨h1,h2⟩:=Z f (by simp);obtain⟨a,p1,i1⟩:=Z0 w L M.2 x1;obtain⟨b,p2,i2⟩:=Z0 w L M.2 U;obtain⟨q,p3,e1⟩:=Y _ _ L h2 w a b _ _ i1 i2 x1 U;obtain⟨q',p4,e2⟩:=Zd Y w z ys r (off+k.length) l O (fun f hf=>Z f (by simp[hf])) x2 y2;have sx:(z.toList.drop off).map ia=((z.toList.drop off).take k.length).map ia++(z.toList.drop (off+k.length)).map ia:=by rw[←oO,←Nt,yn]
     have sy:(ys.toList.drop off).map ia=((ys.toList.drop off).take k.length).map ia++(ys.toList.drop (off+k.length)).map ia:=by rw[←oO,←Nt,yn]
     have A:(z.toList.drop off).map ia=(ys.toList.drop off).map ia↔((z.toList.drop off).take k.length).map ia=((ys.toList.drop off).take k.length).map ia∧(z.toList.drop (off+k.length)).map ia=(ys.toList.drop (off+k.length)).map ia:=by
      rw[sx,sy];exact⟨fun e=>List.append_inj e (by rw[pH,pH,lx,ly]),fun e=>by rw[e.1,e.2]⟩
     rw[←M.1] at p1 p2;simp only[Op.eqFields,h1,ne_eq,not_false_eq_true,if_true,Sem.run_bind,p1,p2,p3,Result.andThen_ok]
     cases q
     ·exact⟨false,by simp,by rw[A];exact⟨fun h=>(by cases h),fun e=>absurd (e1.2 e.1) (by simp)⟩⟩
     exact⟨q',by simpa using p4,by rw[A,e2];simp[e1.1 rfl]⟩
    cases h
   cases h
  cases h
theorem abF(dd:Nat):∀(D:Nat)(t:TypeId)(ks:List Nat),xi P D t=some ks→P.keyTypeAt D t=true→EqV P (dd+D) t ks
 |0,_,_,h,_=>by cases h
 |D+1,t,ks,h,O=>by
  intro w x y lx ly ix iy U Y;have one:∀{k:Nat},jL [k] lx→jL [k] ly→P.plainKey t=true→lx=[x]∧ly=[y]∧xP k x∧xP k y:=fun{k}h1 h2 hp=>by
   have no:∀fs,P.underlying t=some (.struct fs)→False:=fun fs A=>by simp[Program.plainKey,A] at hp
   rcases ix with⟨_,rfl⟩|⟨fs,_,A,_⟩
   ·rcases iy with⟨_,rfl⟩|⟨fs,_,A,_⟩
    ·exact⟨rfl,rfl,h1.1,h2.1⟩
    exact(no fs A).elim
   exact(no fs A).elim
  unfold xi at h
  split at h
  ·rename_i A
   cases h
   obtain⟨rfl,rfl,M,L⟩:=one U Y (by simp[Program.plainKey,A]);generalize G:(100:Nat)=kk at M L
   cases M with
   |int=>rename_i q _;cases q<;>simp[cK] at G
   |str=>simp at G
   |bool=>
    generalize I:(100:Nat)=k2 at L
    cases L with
    |int=>rename_i q _;cases q<;>simp[cK] at I
    |str=>simp at I
    |bool=>exact⟨_,run_equalIn_bool' w _ t _ _ A,by simp[ia]⟩
  ·rename_i k A
   cases h
   obtain⟨rfl,rfl,M,L⟩:=one U Y (by simp[Program.plainKey,A]);generalize G:cK k=kk at M L
   cases M with
   |bool=>cases k<;>simp[cK] at G
   |str=>cases k<;>simp[cK] at G
   |int=>
    rename_i q n;obtain rfl:k=q:=KT (by rw[G];exact gG _);generalize I:cK k=k2 at L
    cases L with
    |bool=>cases k<;>simp[cK] at I
    |str=>cases k<;>simp[cK] at I
    |int=>
     rename_i q' m;obtain rfl:k=q':=KT (by rw[I];exact gG _);exact⟨_,run_equalIn_int w _ t k k n m A,by simp[ia]⟩
  ·rename_i A
   cases h
   obtain⟨rfl,rfl,M,L⟩:=one U Y (by simp[Program.plainKey,A]);generalize G:(101:Nat)=kk at M L
   cases M with
   |int=>rename_i q _;cases q<;>simp[cK] at G
   |bool=>simp at G
   |str=>
    generalize I:(101:Nat)=k2 at L
    cases L with
    |int=>rename_i q _;cases q<;>simp[cK] at I
    |bool=>simp at I
    |str=>
     refine⟨_,run_equalIn_string w _ t _ _ A,?_⟩;simp only[ia,jv,D7,Di,and_true,Lit.string.injEq,beq_iff_eq];rw[ByteArray.toList_eq,ByteArray.toList_eq]
  ·rename_i fs A
   split at h
   ·rename_i ks' XD
    split at h
    ·cases h
     have hP:P.fieldsOf t=fs:=by unfold Program.fieldsOf;rw[A]
     unfold Program.keyTypeAt at O;simp only[A,cN,gx,Array.all_eq_true_iff_forall_mem,bne_iff_ne,ne_eq] at O;have ag:∀{z l},JI P t z l→∃Z,z= .agg Z∧Z.toList=l:=fun{z l}iz=>by
      rcases iz with⟨hp,_⟩|⟨_,Z,_,h1,h2⟩
      ·simp[Program.plainKey,A] at hp
      exact⟨Z,h1,h2⟩
     obtain⟨xs,rfl,rfl⟩:=ag ix;obtain⟨ys,rfl,rfl⟩:=ag iy;obtain⟨r,hr,hi⟩:=Zd (fun t ks=>abF dd D t ks) w xs ys fs.toList 0 ks XD (fun f hf=>O.1.1 f (Array.mem_toList_iff.1 hf)) U Y;refine⟨r,?_,hi⟩;rw[show dd+(D+1)=(dd+D)+1 from rfl,run_equalIn_agg w _ t xs ys (by rw[hP];exact A) O.2,hP];exact hr
    cases h
   cases h
  cases h
theorem leaf_ok{c:Nat}{x:aj}{cv:Value}(h:Gl c x=true)(z:VR ρ x cv):xP c cv:=by
 unfold Gl at h
 split at h
 ·have A:=cU h;simp only[VR] at z;subst z;subst A;exact .int
 ·have A:=cU h;simp only[VR] at z;subst z;subst A;exact .bool
 ·have A:=cU h;simp only[VR] at z;obtain⟨b,rfl,rfl,_⟩:=z;subst A;exact .str
 cases h
theorem Qh:∀{ks:List Nat}{l:List aj}{cs:List Value},kC ks l=true→bO ρ l cs→jL ks cs
 |[],[],_,_,z=>by simp only[bO] at z;subst z;trivial
 |c::r,x::s,_,h,z=>by
  simp only[kC,cN] at h;simp only[bO] at z;obtain⟨cv,t,rfl,A,h2⟩:=z;exact⟨leaf_ok h.1 A,Qh h.2 h2⟩
 |[],_::_,_,h,_=>by simp[kC] at h
 |_::_,[],_,h,_=>by simp[kC] at h
theorem Ze{x y:aj}{G cy:Value}{r:Bool}(h:Fu x y=some r)(z:VR ρ x G)(A:VR ρ y cy):r=true↔ia G=ia cy:=by
 unfold Fu at h
 split at h
 ·rename_i k U Y Z
  split at h
  ·rename_i M
   cases h
   have:=KT M;subst this;simp only[VR] at z A;subst z;subst A;simp[ia,tm]
  cases h
 ·cases h
  simp only[VR] at z A;subst z;subst A;simp[ia]
 ·cases h
  simp only[VR] at z A;obtain⟨I,rfl,rfl,rfl⟩:=z;obtain⟨L,rfl,rfl,rfl⟩:=A;have O:I.size=I.data.toList.length:=Array.length_toList.symm;have h2:L.size=L.data.toList.length:=Array.length_toList.symm;rw[O,h2,Ki];simp[ia]
 cases h
theorem Zy:∀{x y:List aj}{L cy:List Value}{r:Bool},tc x y=some r→bO ρ x L→bO ρ y cy→(r=true↔L.map ia=cy.map ia)
 |[],[],_,_,r,h,A,G=>by
  cases h
  simp only[bO] at A G;subst A;subst G;simp
 |x::s,y::t,_,_,r,h,A,G=>by
  simp only[bO] at A G;obtain⟨cv,Z,rfl,M,h2⟩:=A;obtain⟨dv,dt,rfl,O,Y⟩:=G;unfold tc at h
  split at h
  ·rename_i e;have I:=Ze e M O;have U:=Zy h h2 Y;simp only[jv,Di];exact⟨fun z=>⟨I.1 rfl,U.1 z⟩,fun z=>U.2 z.2⟩
  ·rename_i e;have I:=Ze e M O
   split at h
   ·cases h
    simp only[jv,Di];exact⟨fun z=>(by cases z),fun z=>absurd (I.2 z.1) (by simp)⟩
   cases h
  cases h
 |[],_::_,_,_,_,h,_,_=>by cases h
 |_::_,[],_,_,_,h,_,_=>by cases h
theorem eqAgg_sound(hA:AR P ρ nt E a)(hR:R ρ C w){op:BinOp}{t t':TypeId}{fs:Array Field}{x z:Operand}{x' z':aG}{io:bq}(ho:o.op= .binOp op t x z t')(hx:cB P x=some x')(hz:cB P z=some z')(hu:P.underlying t=some (.struct fs))
  (A:Ue P op t x' z'=some io) (h:io.ev call E H= .ok v H'):eF P o a w (cZ ρ C w H v H'):=by
 unfold Ue at A
 split at A
 ·rename_i ks XD
  split at A
  ·rename_i hc;have key:∀neg,(op= .eql∧neg=false)∨(op= .neq∧neg=true)→EH (.agg ks) neg x' z' E H= .ok v H'→eF P o a w (cZ ρ C w H v H'):=by
    intro neg zc h;replace h:=eG h;obtain⟨u,hu1,h⟩:=h;replace h:=eG h;obtain⟨u2,hu2,h⟩:=h;replace h:=iO h;obtain⟨r,G,h⟩:=h;rw[P8] at h
    cases h
    have L:=hA.bI hx hu1;have M:=hA.bI hz hu2
    cases u<;>try(cases G;done)
    rename_i la
    cases u2<;>try(cases G;done)
    rename_i lb;have G:aI (kC ks la) (aI (kC ks lb) (tc la lb) none) none=some r:=G
    cases g1:kC ks la
    ·rw[g1] at G;cases G
    rw[g1,dX] at G
    cases g2:kC ks lb
    ·rw[g2] at G;cases G
    rw[g2,dX] at G;simp only[VR] at L M;obtain⟨O,e1,U,_⟩:=L;obtain⟨Y,e2,Z,_⟩:=M;have hla:=Qh g1 U;have hlb:=Qh g2 Z;obtain⟨r',I,hiff⟩:=abF 9988 12 t ks XD hc.1 w (.agg O) (.agg Y) _ _ (.inr ⟨fs,O,hu,rfl,rfl⟩) (.inr ⟨fs,Y,hu,rfl,rfl⟩) hla hlb;have hrr:r'=r:=by
     have k:=Zy G U Z;exact Bool.eq_iff_iff.2 (hiff.trans k.symm)
    subst hrr;have hg:=run_eqGuard_agg (P:=P) w op t x z O Y hc.2;refine fM (cv:=.bool (Bool.xor neg r')) ?_ hR (by simp only[VR]);simp only[execOp,ho,Sem.run_bind,e1,e2,hg,Result.andThen_ok];have I:(Op.equalIn 10000 t (.agg O) (.agg Y)).run P w= .ok r' w:=I;have he:(Op.equal t (.agg O) (.agg Y)).run P w= .ok r' w:=I;rcases zc with⟨rfl,rfl⟩|⟨rfl,rfl⟩
    ·simp only[binOp];simp[he]
    simp only[binOp];simp[he]
   cases op<;>simp only[eC,reduceCtorEq] at A
   ·subst A;exact key false (.inl ⟨rfl,rfl⟩) h
   subst A;exact key true (.inr ⟨rfl,rfl⟩) h
  cases A
 cases A
end
section
variable{P:Program}{ρ:Ho}{nt:Nat}{E:Env}{a:Act}{C:Nat→Option cV}{w:World}{H H':ax}{v:aj}{o:Oper}{call:dO}
end
section
variable{P:Program}{ρ:Ho}{nt:Nat}{E:Env}{a:Act}{C:Nat→Option cV}{w:World}{H H':ax}{v:aj}{o:Oper}
theorem ad1{mx:Bool}{k:IntKind}:∀{vs:List aj}{nZ:List Value}{n:Int}{r:aj},bO ρ vs nZ→EI mx k vs n=some r→
  ∃m,r= .int k m∧(nZ.foldlM (if mx=true then Builtin.max2 else Builtin.min2) (.int k n)).run P w= .ok (.int k m) w
 |[],nZ,n,r,z,h=>by
  simp only[bO] at z;subst z
  cases h
  exact⟨n,rfl,rfl⟩
 |x::vs,nZ,n,r,z,h=>by
  simp only[bO] at z;obtain⟨cv,t,rfl,A,h2⟩:=z;replace h:adU x none (fun _ b=>lS (aI (aI mx (fv n b) (fv b n)) b n) (EI mx k vs))=some r:=h
  cases x<;>try(cases h;done)
  rename_i G b;replace h:lS (aI (aI mx (fv n b) (fv b n)) b n) (EI mx k vs)=some r:=h;rw[wW] at h;simp only[VR] at A;subst A;obtain⟨m,I,L⟩:=ad1 (nZ:=t) h2 h;refine⟨m,I,?_⟩;rw[List.foldlM_cons];have e:((if mx=true then Builtin.max2 else Builtin.min2) (.int k n) (.int G b)).run P w= .ok (.int k (aI (aI mx (fv n b) (fv b n)) b n)) w:=by
   cases mx
   ·simp only[gU,if_false,chk_false,ou,th,eW];rfl
   simp only[if_true,dX,ou,th,eW];rfl
  simp only[Sem.run_bind,e];exact L
theorem Y1(U:AR P ρ nt E a)(Z:R ρ C w){mx:Bool}{c:Call}{x:Operand}{r:List Operand}{Y:aG}{r':List aG}(ho:o.op= .call c)(L:c.callee= .builtin (if mx=true then .max else .min))(G:c.args.toList=x::r)(hx:cB P x=some Y)(hr:jX P r=some r')
  (h:FU mx Y r' E H= .ok v H'):eF P o a w (cZ ρ C w H v H'):=by
 replace h:=eG h;obtain⟨u,hu,h⟩:=h;replace h:=Ct h;obtain⟨k,n,rfl,h⟩:=h;replace h:=iO h;obtain⟨vs,M,h⟩:=h;replace h:=iO h;obtain⟨res,I,h⟩:=h
 cases h
 have O:=U.bI hx hu;have h2:=U.dc hr M;simp only[VR] at O;obtain⟨m,rfl,z⟩:=ad1 (P:=P) (w:=w) h2 I;have A:c.args=(x::r).toArray:=by rw[←G]
 refine fM (cv:=.int k m) ?_ Z (by simp only[VR])
 cases mx
 ·simp only[gU,if_false] at L z;simp[execOp,ho,resolve,L,A,invoke,builtin,Builtin.min_,O,z]
 simp only[if_true] at L z;simp[execOp,ho,resolve,L,A,invoke,builtin,Builtin.max_,O,z]
end
section
variable{P:Program}{ρ:Ho}{nt:Nat}{E:Env}{a:Act}{C:Nat→Option cV}{w:World}{H H':ax}{v:aj}{o:Oper}
def my(z:List Value):Nat→List Value
 |0=>[]
 |n+1=>z++my z n
theorem P9(z:List Value):∀n,(my z n).length=n*z.length
 |0=>by simp[my]
 |n+1=>by rw[my,eT,P9 z n,vE,Nat.add_comm]
theorem abG{z:List Value}{x:Value}:∀{n},x∈my z n→x∈z
 |0,h=>by cases h
 |n+1,h=>(List.mem_append.1 h).elim id abG
theorem abH(z:List Value):∀(n i:Nat),i<n*z.length→(my z n)[i]?=z[i % z.length]?
 |0,i,h=>by simp at h
 |n+1,i,h=>by
  rw[vE] at h
  by_cases hi:i<z.length
  ·rw[my,sg hi,D3 hi]
  have A:=Nat.mod_eq_sub_mod (show z.length≤i by omega);rw[my,qR al,abH z n _ al,←A]
theorem zeroCells_eq(z:Array Value)(n:Nat):(Builtin.zeroCells z n).toList=my z.toList n:=by
 apply List.ext_getElem?;intro i
 by_cases hi:i<n*z.size
 ·rw[abH _ _ _ (by simpa using hi)];have A:0<z.size:=by
   rcases Nat.eq_zero_or_pos z.size with h|h
   ·rw[h] at hi;omega
   exact h
  have G:i % z.size<z.size:=A8 _ A;simp[Builtin.zeroCells,hi,G]
 rw[yp (by simp[Builtin.zeroCells];omega),yp (by rw[P9];simpa using hi)]
theorem Y2(b:Nat):∀(x y:List Value)(k:Nat)(w:World),w.setCells b k (x++y)=(w.setCells b k x).setCells b (k+x.length) y
 |[],y,k,w=>by simp[World.setCells]
 |v::r,y,k,w=>by
  simp only[A9,World.setCells,gF];rw[Y2 b r y];congr 1;omega
theorem upd_chain{H1:ax}{f:Nat}(I:H1.next=H.next)(h2:H'.next=H.next)(M:C f=H.t.get f)(A:∀x,x≠f→H1.t.get x=H.t.get x)(G:∀x,x≠f→H'.t.get x=H1.t.get x):eg (eg C H H1) H1 H'=eg C H H':=by
 funext x
 unfold eg;have L:¬(H.next≤x∧x<H.next):=by omega
 simp only[I,h2,aZ L]
 by_cases z:x=f
 ·subst z
  by_cases O:H'.t.get x=H1.t.get x<;>by_cases U:H1.t.get x=H.t.get x<;>by_cases Y:H'.t.get x=H.t.get x<;>simp_all
 rw[bg (G x z),bg (A x z),bg ((G x z).trans (A x z))]
theorem Z1{f g es:Nat}{z:List aj}{Y:List Value}{h:Hm}(hh:ρ f g=some h)(he:0<es)(Z:bO ρ z Y)(hz:z.length=es)(hk:z.all eM=true):∀{n off:Nat}{H:ax}{C:Nat→Option cV}{w:World},R ρ C w→C f=H.t.get f→qT f g es z n off H= .ok v H'→
  v= .tuple []∧H'.next=H.next∧H'.aR=H.aR∧(∀x,x∈H.ws→x∈H'.ws)∧(∀x,x≠f→H'.t.get x=H.t.get x)∧
  (∀j,j<n*es→(w.cell? ⟨h.bE,h.off+off+j,none⟩).isSome=true)∧(∀j,j<n*es→w.frozen? ⟨h.bE,h.off+off+j,none⟩=false)∧(0<n→h.ro=false∧(f<H.aR→f∈H'.ws))∧
  R ρ (eg C H H') (w.setCells h.bE (h.off+off) (my Y n))
 |0,off,H,C,w,hR,U,A=>by
  cases A
  exact⟨rfl,rfl,rfl,fun _ h=>h,fun _ _=>rfl,fun j M=>by omega,fun j M=>by omega,fun h=>by omega,by rw[rH];exact hR⟩
 |n+1,off,H,C,w,hR,U,A=>by
  have A:Go.Ev.wr H f g off es z (aC.err 28) (fun H=>Go.Ev.cm (Nat.add off es) fun off=>qT f g es z n off H)=aC.ok v H':=A;obtain⟨H1,hw,A⟩:=AM A;rw[fy] at A;obtain⟨k1,k2,k3,k4⟩:=hR.write hw U hh he Z hk;have rf:Y.length=es:=Z.length.trans hz;obtain⟨elem,cW,aD,lo,cs,x,hg,_,_,_,_,_,O⟩:=hw;have n1:H1.next=H.next:=by rw[O]
  have m1:H1.aR=H.aR:=by rw[O]
  have w1:∀y,y∈H.ws→y∈H1.ws:=fun y G=>by rw[O];exact(wY _ _ _ _).2 (.inl G)
  have w2:f<H.aR→f∈H1.ws:=fun I=>by rw[O];exact(wY _ _ _ _).2 (.inr ⟨rfl,I⟩)
  have s5:∀y,y≠f→H1.t.get y=H.t.get y:=fun y G=>by rw[O];show(H.t.set f _).get y=_;rw[GT.da,aZ G]
  have hC1:eg C H H1 f=H1.t.get f:=by
   unfold eg;rw[n1,aZ al]
   by_cases e:H1.t.get f=H.t.get f
   ·rw[bg e,U,e]
   rw[aZ e]
  obtain⟨r1,r2,r3,r4,r5,r6,r7,r8,r9⟩:=Z1 hh he Z hz hk (n:=n) k4 hC1 A;refine⟨r1,r2.trans n1,r3.trans m1,fun y G=>r4 y (w1 y G),fun y G=>(r5 y G).trans (s5 y G),fun j M=>?_,fun j M=>?_,fun _=>⟨k3,fun I=>r4 f (w2 I)⟩,?_⟩
  ·by_cases L:j<es
   ·exact k1 j L
   have:=r6 (j-es) (by rw[vE] at M;omega);rw[show h.off+Nat.add off es+(j-es)=h.off+off+j by show h.off+(off+es)+(j-es)=_;omega,World.cell?_setCells_out _ _ _ _ _ (fun _ _=>by right;simp only;omega)] at this;exact this
  ·by_cases L:j<es
   ·exact k2 j L
   have:=r7 (j-es) (by rw[vE] at M;omega);rw[World.frozen?_setCells,show h.off+Nat.add off es+(j-es)=h.off+off+j by show h.off+(off+es)+(j-es)=_;omega] at this;exact this
  rw[upd_chain (C:=C) (H:=H) (H1:=H1) (f:=f) n1 (r2.trans n1) U s5 r5] at r9;rw[my,Y2,rf,show h.off+off+es=h.off+Nat.add off es by show _=h.off+(off+es);omega];exact r9
theorem clear_sound(hA:AR P ρ nt E a)(hR:R ρ C w){c:Call}{x:Operand}{x':aG}{t e:TypeId}{i:TypeInfo}{z:List aj}
  (ho:o.op= .call c) (hc:c.callee= .builtin .clear) (G:c.args=#[x]) (hx:cB P x=some x') (h0:c.argTypes[0]?=some t) (ht:P.underlying t=some (.slice e)) (hi:P.info? e=some i) (hz:zeroOf P e=some z)
  (hC:∀f o,f∈im (x'.ev E)→(∃g h,ρ f g=some h)→H.t.get f=some o→C f=some o)
  (h:Hv i.size x' (.c (.agg z)) E H= .ok v H'):eF P o a w (cZ ρ C w H v H'):=by
 replace h:=eG h;obtain⟨xa,U,h⟩:=h;have I:=hA.bI hx U;obtain⟨i',O,Y,rf,Z,hzk,BX,yz,zb⟩:=wZ hz;rw[hi] at Y
 cases Y
 replace h:=wT h;rcases h with⟨rfl,h⟩|⟨f,g,off,l,es,rfl,h⟩
 ·cases h
  simp only[VR] at I;refine .inl ⟨.tuple #[],w,?_,ρ,by simp only[VR];exact⟨#[],rfl,by simp[bO]⟩,Ext.refl _ _ _ _,by rw[rH];exact hR⟩;have A:(Builtin.clear_ c.argTypes o.type #[.slice none 0 0]).run P w= .ok (.tuple #[]) w:=by
   simp[Builtin.clear_,h0,run_underlying ht]
  simp[execOp,ho,resolve,hc,G,invoke,builtin,I,A]
 replace h:=eG h;obtain⟨zz,M,h⟩:=h;have M:zz= .agg z:=by
  have:some (aj.agg z)=some zz:=M
  cases this;rfl
 subst M;have h2:aI (Nat.beq es i.size) (aI (Nat.ble 1 i.size) (qT f g i.size z l off H) (.err 28)) (.err 28)= .ok v H':=h;clear h;obtain⟨b1,h3⟩:=fN h2;obtain⟨b2,h⟩:=fN h3;clear h2 h3;have b1:=cU b1;subst b1;simp only[VR] at I;obtain⟨L,ad,cap,hh,I,JB,rh⟩:=I
 cases l with
 |zero=>
  have h:aC.ok (aj.tuple []) H= .ok v H':=h
  cases h
  refine .inl ⟨.tuple #[],w,?_,ρ,by simp only[VR];exact⟨#[],rfl,by simp[bO]⟩,Ext.refl _ _ _ _,by rw[rH];exact hR⟩;have A:(Builtin.clear_ c.argTypes o.type #[.slice (some ad) 0 cap]).run P w= .ok (.tuple #[]) w:=by
   simp[Builtin.clear_,h0,run_underlying ht]
  simp[execOp,ho,resolve,hc,G,invoke,builtin,I,A]
 |succ n=>
  rcases rh with⟨rfl,_⟩|⟨h0,_⟩
  ·obtain⟨H1,hw,_⟩:=AM (show Go.Ev.wr H f g off i.size z (aC.err 28) (fun H=>Go.Ev.cm (Nat.add off i.size) fun off=>qT f g i.size z n off H)=aC.ok v H' from h);obtain⟨_,_,_,_,_,_,hg,_⟩:=hw;have sI:C f=H.t.get f:=(hC f _ (by rw[U];simp[im]) ⟨_,_,hh⟩ hg).trans hg.symm;obtain⟨r1,r2,r3,r4,r5,r6,r7,r8,r9⟩:=Z1 hh yz (Z ρ) BX hzk hR sI h;obtain⟨ro,rw1⟩:=r8 (Nr n);subst r1;obtain⟨s1,s2,s3,s4,s5,s6⟩:=Ch L.bE (my O.cells.toList (n+1)) (L.off+off) w;have hlen:(my O.cells.toList (n+1)).length=(n+1)*i.size:=by rw[P9,qP,zb]
   have h1:∀x∈my O.cells.toList (n+1),x.oneCell'=true:=fun x hx=>(Z ρ).QB hzk x (abG hx)
   have ER:=run_storeCells_cells (P:=P) L.bE (L.off+off) (my O.cells.toList (n+1)) 0 w (by rw[hlen];simpa using r6) (by rw[hlen];simpa using r7) h1;simp only[tR] at ER;have A:(Builtin.clear_ c.argTypes o.type #[.slice (some ⟨L.bE,L.off+off,none⟩) (n+1) cap]).run P w= .ok (.tuple #[]) (w.setCells L.bE (L.off+off) (my O.cells.toList (n+1))):=by
    simp[Builtin.clear_,h0,run_underlying ht,zeroValue,typeInfo,hi,rf,zeroCells_eq,ER]
   refine .inl ⟨.tuple #[],w.setCells L.bE (L.off+off) (my O.cells.toList (n+1)),?_,ρ,by simp only[VR];exact⟨#[],rfl,by simp[bO]⟩,?_,r9⟩
   ·simp[execOp,ho,resolve,hc,G,invoke,builtin,I,A]
   refine⟨Ho.le_refl _,fun f g h e=>.inl ⟨g,h,e⟩,fun _ _ _ e=>.inl e,fun b hb hf=>?_,by rw[s1];exact bf _,by rw[r2];exact bf _,s4,s5,s6⟩;refine s2 b fun e=>?_
   refine hf f g L hh ro ?_ e.symm;unfold Wr;rw[r3]
   by_cases lJ:f<H.aR
   ·exact .inl (rw1 lJ)
   exact .inr al
  omega
end
section
variable{P:Program}{ρ:Ho}{nt:Nat}{E:Env}{a:Act}{C:Nat→Option cV}{w:World}{H H':ax}{v:aj}{o:Oper}{call:dO}{io:bq}
def abI(io:bq)(E:Env)(ρ:Ho)(C:Nat→Option cV)(H:ax):Prop:=
 ∀f o,(∀l,io.reads E=some l→f∈l)→(∃g h,ρ f g=some h)→H.t.get f=some o→C f=some o
theorem P'{l:List Operand}{G:aG}(h:jX P l=some [G]):∃x,l=[x]∧cB P x=some G:=by
 cases l with
 |nil=>simp[jX] at h
 |cons x r=>
  simp only[jX] at h
  split at h
  ·rename_i y l I A
   cases h
   cases r with
   |nil=>exact⟨x,rfl,I⟩
   |cons z s=>
    simp only[jX] at A
    split at A<;>cases A
  cases h
theorem PV{l:List Operand}{z:aG}{r':List aG}(h:jX P l=some (z::r')):∃x r,l=x::r∧cB P x=some z∧jX P r=some r':=by
 cases l with
 |nil=>simp[jX] at h
 |cons x r=>
  simp only[jX] at h
  split at h
  ·rename_i y l A G
   cases h
   exact⟨x,r,rfl,A,G⟩
  cases h
theorem PQ{c:Array Operand}{l:List Operand}(h:c.toList=l):c=l.toArray:=by rw[←h]
theorem callOf_sound(U:AR P ρ nt E a)(Y:R ρ C w)(hF:fC ρ H.next H'.next)(hK:abI io E ρ C H)(hm:H.aR≤H.next)(n5:∀x,H.next≤x→H.t.get x=none)(hc:jn P call){c:Call}
  (ho:o.op= .call c) (A:Sa P c=some io) (h:io.ev call E H= .ok v H'):eF P o a w (cZ ρ C w H v H'):=by
 unfold Sa at A
 split at A
 ·rename_i f args I G
  split at A
  ·rename_i f
   cases A
   exact call_sound U Y hF (fun f Z=>hK f Z (fun l e=>by cases e)) hm n5 hc ho I G h
  split at A
  ·rename_i y hy
   cases A
   exact callv_sound U Y hF (fun f Z=>hK f Z (fun l e=>by cases e)) hm n5 hc ho I hy G h
  cases A
 ·rename_i x' I G;obtain⟨x,L,M⟩:=P' G;have L:=PQ L
  split at A
  ·rename_i t ht
   split at A
   ·rename_i hu
    cases A
    exact lenS_sound U Y ho I L M ht hu h
   ·rename_i e hu
    cases A
    exact len_sound U Y ho I L M ht hu h
   cases A
  cases A
 ·rename_i x' y' I G;obtain⟨x,r,L,M,hr⟩:=PV G;obtain⟨y,ES,hy⟩:=P' hr;subst ES;have L:=PQ L
  split at A
  ·rename_i t u ht hu
   split at A
   ·rename_i e e2 O XE
    split at A
    ·rename_i i z hi hz
     split at A
     ·rename_i hb
      cases A
      exact app_sound U Y hF ho I L M hy ht hu O XE hi hz hb (fun f Z hf=>hK f Z (fun l e=>by cases e;exact hf)) h
     cases A
    cases A
   ·rename_i e O XE
    split at A
    ·rename_i i z hi hz
     split at A
     ·rename_i hb
      cases A
      exact appStr_sound U Y hF ho I L M hy ht hu O XE hi hz hb.1 hb.2 (fun f Z hf=>hK f Z (fun l e=>by cases e;exact hf)) h
     cases A
    cases A
   cases A
  cases A
 ·rename_i x' I G;obtain⟨x,L,M⟩:=P' G;have L:=PQ L
  split at A
  ·rename_i t ht
   split at A
   ·rename_i e O
    split at A
    ·rename_i i z hi hz
     cases A
     exact clear_sound U Y ho I L M ht O hi hz (fun f Z hf=>hK f Z (fun l e=>by cases e)) h
    cases A
   cases A
  cases A
 ·rename_i l I G
  cases l with
  |nil=>cases A
  |cons x' r'=>
   obtain⟨x,r,L,M,hr⟩:=PV G
   cases A
   exact Y1 (mx:=false) U Y ho I L M hr h
 ·rename_i l I G
  cases l with
  |nil=>cases A
  |cons x' r'=>
   obtain⟨x,r,L,M,hr⟩:=PV G
   cases A
   exact Y1 (mx:=true) U Y ho I L M hr h
 cases A
theorem Z2(A:ID P o.op=some io)(L:AR P ρ nt E a)(I:R ρ C w)(hF:fC ρ H.next H'.next)(hK:abI io E ρ C H)(hm:H.aR≤H.next)(n5:∀x,H.next≤x→H.t.get x=none)(hc:jn P call)
  (h:io.ev call E H= .ok v H'):eF P o a w (cZ ρ C w H v H'):=by
 generalize G:o.op=op at A;unfold ID at A
 split at A
 ·split at A
  ·rename_i y M;cases A;exact ZV L I (.inl G) M h
  cases A
 ·split at A
  ·rename_i y M;cases A;exact ZV L I (.inr G) M h
  cases A
 ·split at A
  ·rename_i c' a' b' h1 h2 h3;cases A;exact pick_sound L I G h1 h2 h3 h
  cases A
 ·split at A
  ·rename_i z i hz hi;cases A;exact boxz_sound (E:=E) I hF G hz hi h
  cases A
 ·split at A
  ·rename_i n i y U hi M;cases A;exact box_sound L I hF G M U h
  cases A
 ·exact build_sound L I G A h
 ·exact buildSl_sound L I hF G A h
 ·split at A
  ·rename_i n y U M;cases A;exact load_sound L I G M U (fun f o' hf=>hK f o' (fun l e=>by cases e;exact hf)) h
  cases A
 ·split at A
  ·rename_i n y z U M hz;cases A;exact store_sound L I G M hz U (fun f o' hf=>hK f o' (fun l e=>by cases e;exact hf)) h
  cases A
 ·split at A
  ·rename_i y M;cases A;exact nilck_sound L I G M h
  cases A
 ·split at A
  ·rename_i x' y' O M;unfold agG at A
   split at A
   ·cases A;exact ZW L I G O M h
   ·cases A;exact ZW L I G O M h
   ·rename_i fs hu;exact eqAgg_sound L I G O M hu A h
   ·rename_i d _ _ _ hu;exact eqv_sound L I G O M hu A h
   cases A
  cases A
 ·split at A
  ·rename_i y M;cases A;exact un_sound L I G M h
  cases A
 ·split at A
  ·rename_i y M;unfold adV at A
   split at A
   ·rename_i hs hd;cases A;exact conv_sound L I G M hs hd h
   exact conv2_sound L I hF G M A (fun f o' hl=>hK f o' hl) h
  cases A
 ·cases A
 ·split at A
  ·rename_i fs l hfs hl;cases A;exact mkfn_sound L I G hfs hl h
  cases A
 ·split at A
  ·rename_i x' y' O M;exact mksl_sound L I hF G O M A h
  cases A
 ·split at A
  ·rename_i x' sK wH Y O Z BV;cases A;exact slStr_sound L I G O Z BV Y h
  ·rename_i e x' sK wH Y O Z BV
   split at A
   ·rename_i n U;cases A;exact slSl_sound L I G O Z BV Y U h
   cases A
  ·cases A
  cases A
 ·split at A
  ·rename_i e x' sK wH mx' Y O Z BV Xq
   split at A
   ·rename_i n U;cases A;exact sl3_sound L I G O Z BV Xq Y U h
   cases A
  cases A
 ·split at A
  ·rename_i fs y hs M
   split at A
   ·rename_i fd hf
    split at A
    ·rename_i n U
     cases A
     obtain⟨i,d,hi,_,e,h0⟩:=uM U;exact offs_sound L I G M hs hf hi al h
    cases A
   cases A
  cases A
 ·split at A
  ·rename_i fs y hs M
   split at A
   ·rename_i fd hf
    split at A
    ·rename_i n U;cases A;exact sub_sound L I G M hs hf U h
    cases A
   cases A
  cases A
 ·split at A
  ·rename_i k e x' i' Y O hi
   split at A
   ·rename_i n U
    split at A
    ·cases A;exact idxArr_sound L I G O hi Y U h
    cases A
   cases A
  ·rename_i e x' i' Y O hi
   split at A
   ·rename_i n U;cases A;exact idxSl_sound L I G O hi Y U h
   cases A
  cases A
 ·split at A
  ·rename_i k e x' i' Y O hi
   split at A
   ·rename_i n U;cases A;exact idxVal_sound L I G O hi Y U h
   cases A
  ·rename_i x' i' Y O hi
   cases A
   exact idxStr_sound L I G O hi Y h
  cases A
 ·split at A
  ·rename_i y M;cases A;exact extr_sound L I G M h
  cases A
 ·exact callOf_sound L I hF hK hm n5 hc G A h
 cases A
end
end Go.Ev
