/- Part 5 of rules for walks through the code of a program, and of such walks; what each part proves is said by its theorems. -/
import Derived.Test.YtmpoloiempjdpaaGreatS4
import Derived.DeepKeys
import Derived.OpenShut
import Derived.Laws.StructEq
set_option linter.unusedVariables false
set_option linter.unusedSimpArgs false
noncomputable section
set_option maxRecDepth 100000
set_option maxHeartbeats 4000000
namespace Go.Ev
section
variable{P:Program}{ρ:Ho}{nt:Nat}{E:Env}{a:Act}{C:Nat→Option cX}{w:World}{H H':ax}{v:ai}{o:Oper}{call:dQ}
def ic:Value→Lit
 |.bool b=>.bool b
 |.int k n=>.int k n
 |.string s=>.string s.data.toList
 |_=>.bool false
inductive x7:Nat→Value→Prop
 |int {q:IntKind} {n:Int}:x7 (cS q) (.int q n)
 |bool {b:Bool}:x7 100 (.bool b)
 |str {s:ByteArray}:x7 101 (.string s)
def jR:List Nat→List Value→Prop
 |[],[]=>True
 |k::r,c::s=>x7 k c∧jR r s
 |_,_=>False
theorem jR.split:∀{k l:List Nat}{cs:List Value},jR (k++l) cs→jR k (cs.take k.length)∧jR l (cs.drop k.length)
 |[],l,cs,h=>by simpa[jR] using h
 |x::k,l,[],h=>by simp[jR] at h
 |x::k,l,c::cs,h=>by
  have h:x7 x c∧jR (k++l) cs:=h;obtain⟨z,h2⟩:=jR.split h.2;exact⟨by simpa[jR] using⟨h.1,z⟩,by simpa using h2⟩
theorem jR.length:∀{k:List Nat}{cs:List Value},jR k cs→cs.length=k.length
 |[],[],_=>rfl
 |[],_::_,h=>h.elim
 |_::_,[],h=>h.elim
 |_::k,_::cs,h=>by have:=jR.length h.2;simp[this]
def J0(P:Program)(t:TypeId)(x:Value)(l:List Value):Prop:=(P.plainKey t=true∧l=[x])∨∃fs z,P.underlying t=some (.struct fs)∧x= .agg z∧z.toList=l
def EqV(P:Program)(d:Nat)(t:TypeId)(ks:List Nat):Prop:=∀(w:World)x y z A,J0 P t x z→J0 P t y A→jR ks z→jR ks A→∃r:Bool,(Op.equalIn d t x y).run P w= .ok r w∧(r=true↔z.map ic=A.map ic)
theorem ZR(w:World){D:Nat}{e:TypeId}{k:List Nat}{z:Array Value}{off:Nat}(G:xv P D e=some k)(M:k.length=P.cellsOf e)(O:jR k ((z.toList.drop off).take k.length)):
  ∃a,(part e z off).run P w= .ok a w∧J0 P e a ((z.toList.drop off).take k.length):=by
 cases D with
 |zero=>cases G
 |succ D=>
  unfold xv at G;have plain:P.plainKey e=true→k.length=1→∃a,(part e z off).run P w= .ok a w∧J0 P e a ((z.toList.drop off).take k.length):=fun I U=>by
   have h2:=O.length;rw[U] at h2⊢;obtain⟨a,L⟩:∃a,(z.toList.drop off).take 1=[a]:=by
    match Z:(z.toList.drop off).take 1,h2 with
    |[a],_=>exact⟨a,rfl⟩
   exact⟨a,run_part_plain w I (getElem?_of_chunk L),.inl ⟨I,L⟩⟩
  split at G
  ·rename_i A;cases G;exact plain (by simp[Program.plainKey,A]) rfl
  ·rename_i A;cases G;exact plain (by simp[Program.plainKey,A]) rfl
  ·rename_i A;cases G;exact plain (by simp[Program.plainKey,A]) rfl
  ·rename_i fs A;obtain⟨i,hi⟩:=info_of_underlying A;have Y:(z.extract off (off+P.cellsOf e)).toList=(z.toList.drop off).take (P.cellsOf e):=by
    rw[Vn];simp[List.extract]
   exact⟨.agg (z.extract off (off+P.cellsOf e)),by simp[part,isAgg,run_underlying A,run_sizeOf w hi],.inr ⟨fs,_,A,rfl,by rw[Y,M]⟩⟩
  cases G
theorem Y7{D dd:Nat}(Y:∀t ks,xv P D t=some ks→P.keyTypeAt D t=true→EqV P dd t ks)(w:World)(z ys:Array Value):∀(fs:List Field)(off:Nat)(ks:List Nat),K5 P (xv P D) off fs=some ks→
  (∀f,f∈fs→f.name≠ "_"∧P.keyTypeAt D f.type=true)→jR ks (z.toList.drop off)→jR ks (ys.toList.drop off)→
  ∃r:Bool,(Op.eqFields dd z ys fs).run P w= .ok r w∧(r=true↔(z.toList.drop off).map ic=(ys.toList.drop off).map ic)
 |[],off,ks,h,_,G,I=>by
  cases h
  refine⟨true,by simp[Op.eqFields],?_⟩;rw[su G.length,su I.length];simp
 |f::r,off,ks,h,Z,G,I=>by
  unfold K5 at h
  split at h
  ·rename_i k L
   split at h
   ·rename_i M
    split at h
    ·rename_i l O
     cases h
     obtain⟨x1,x2⟩:=G.split;obtain⟨U,y2⟩:=I.split;have lx:=x1.length;have ly:=U.length;rw[NN] at x2 y2;obtain⟨h1,h2⟩:=Z f (by simp);obtain⟨a,p1,i1⟩:=ZR w L M.2 x1;obtain⟨b,p2,i2⟩:=ZR w L M.2 U;obtain⟨q,p3,e1⟩:=Y _ _ L h2 w a b _ _ i1 i2 x1 U;obtain⟨q',p4,e2⟩:=Y7 Y w z ys r (off+k.length) l O (fun f hf=>Z f (by simp[hf])) x2 y2;have sx:(z.toList.drop off).map ic=((z.toList.drop off).take k.length).map ic++(z.toList.drop (off+k.length)).map ic:=by rw[←vP,←NN,Ea]
     have sy:(ys.toList.drop off).map ic=((ys.toList.drop off).take k.length).map ic++(ys.toList.drop (off+k.length)).map ic:=by rw[←vP,←NN,Ea]
     have A:(z.toList.drop off).map ic=(ys.toList.drop off).map ic↔((z.toList.drop off).take k.length).map ic=((ys.toList.drop off).take k.length).map ic∧(z.toList.drop (off+k.length)).map ic=(ys.toList.drop (off+k.length)).map ic:=by
      rw[sx,sy];exact⟨fun e=>List.append_inj e (by rw[pM,pM,lx,ly]),fun e=>by rw[e.1,e.2]⟩
     rw[←M.1] at p1 p2;simp only[Op.eqFields,h1,ne_eq,not_false_eq_true,if_true,Sem.run_bind,p1,p2,p3,Result.andThen_ok]
     cases q
     ·exact⟨false,by simp,by rw[A];exact⟨fun h=>(by cases h),fun e=>absurd (e1.2 e.1) (by simp)⟩⟩
     exact⟨q',by simpa using p4,by rw[A,e2];simp[e1.1 rfl]⟩
    cases h
   cases h
  cases h
theorem abG(dd:Nat):∀(D:Nat)(t:TypeId)(ks:List Nat),xv P D t=some ks→P.keyTypeAt D t=true→EqV P (dd+D) t ks
 |0,_,_,h,_=>by cases h
 |D+1,t,ks,h,O=>by
  intro w x y lx ly ix iy U Y;have one:∀{k:Nat},jR [k] lx→jR [k] ly→P.plainKey t=true→lx=[x]∧ly=[y]∧x7 k x∧x7 k y:=fun{k}h1 h2 hp=>by
   have no:∀fs,P.underlying t=some (.struct fs)→False:=fun fs A=>by simp[Program.plainKey,A] at hp
   rcases ix with⟨_,rfl⟩|⟨fs,_,A,_⟩
   ·rcases iy with⟨_,rfl⟩|⟨fs,_,A,_⟩
    ·exact⟨rfl,rfl,h1.1,h2.1⟩
    exact(no fs A).elim
   exact(no fs A).elim
  unfold xv at h
  split at h
  ·rename_i A
   cases h
   obtain⟨rfl,rfl,M,L⟩:=one U Y (by simp[Program.plainKey,A]);generalize G:(100:Nat)=kk at M L
   cases M with
   |int=>rename_i q _;cases q<;>simp[cS] at G
   |str=>simp at G
   |bool=>
    generalize I:(100:Nat)=k2 at L
    cases L with
    |int=>rename_i q _;cases q<;>simp[cS] at I
    |str=>simp at I
    |bool=>exact⟨_,run_equalIn_bool' w _ t _ _ A,by simp[ic]⟩
  ·rename_i k A
   cases h
   obtain⟨rfl,rfl,M,L⟩:=one U Y (by simp[Program.plainKey,A]);generalize G:cS k=kk at M L
   cases M with
   |bool=>cases k<;>simp[cS] at G
   |str=>cases k<;>simp[cS] at G
   |int=>
    rename_i q n;obtain rfl:k=q:=K9 (by rw[G];exact gu _);generalize I:cS k=k2 at L
    cases L with
    |bool=>cases k<;>simp[cS] at I
    |str=>cases k<;>simp[cS] at I
    |int=>
     rename_i q' m;obtain rfl:k=q':=K9 (by rw[I];exact gu _);exact⟨_,run_equalIn_int w _ t k k n m A,by simp[ic]⟩
  ·rename_i A
   cases h
   obtain⟨rfl,rfl,M,L⟩:=one U Y (by simp[Program.plainKey,A]);generalize G:(101:Nat)=kk at M L
   cases M with
   |int=>rename_i q _;cases q<;>simp[cS] at G
   |bool=>simp at G
   |str=>
    generalize I:(101:Nat)=k2 at L
    cases L with
    |int=>rename_i q _;cases q<;>simp[cS] at I
    |bool=>simp at I
    |str=>
     refine⟨_,run_equalIn_string w _ t _ _ A,?_⟩;simp only[ic,lM,IT,Eg,and_true,Lit.string.injEq,beq_iff_eq];rw[ByteArray.toList_eq,ByteArray.toList_eq]
  ·rename_i fs A
   split at h
   ·rename_i ks' Xy
    split at h
    ·cases h
     have hP:P.fieldsOf t=fs:=by unfold Program.fieldsOf;rw[A]
     unfold Program.keyTypeAt at O;simp only[A,cU,gD,Array.all_eq_true_iff_forall_mem,bne_iff_ne,ne_eq] at O;have ag:∀{z l},J0 P t z l→∃Z,z= .agg Z∧Z.toList=l:=fun{z l}iz=>by
      rcases iz with⟨hp,_⟩|⟨_,Z,_,h1,h2⟩
      ·simp[Program.plainKey,A] at hp
      exact⟨Z,h1,h2⟩
     obtain⟨xs,rfl,rfl⟩:=ag ix;obtain⟨ys,rfl,rfl⟩:=ag iy;obtain⟨r,hr,hi⟩:=Y7 (fun t ks=>abG dd D t ks) w xs ys fs.toList 0 ks Xy (fun f hf=>O.1.1 f (Array.mem_toList_iff.1 hf)) U Y;refine⟨r,?_,hi⟩;rw[show dd+(D+1)=(dd+D)+1 from rfl,run_equalIn_agg w _ t xs ys (by rw[hP];exact A) O.2,hP];exact hr
    cases h
   cases h
  cases h
theorem leaf_ok{c:Nat}{x:ai}{cv:Value}(h:Gx c x=true)(z:VR ρ x cv):x7 c cv:=by
 unfold Gx at h
 split at h
 ·have A:=cW h;simp only[VR] at z;subst z;subst A;exact .int
 ·have A:=cW h;simp only[VR] at z;subst z;subst A;exact .bool
 ·have A:=cW h;simp only[VR] at z;obtain⟨b,rfl,rfl,_⟩:=z;subst A;exact .str
 cases h
theorem QI:∀{ks:List Nat}{l:List ai}{cs:List Value},kK ks l=true→bR ρ l cs→jR ks cs
 |[],[],_,_,z=>by simp only[bR] at z;subst z;trivial
 |c::r,x::s,_,h,z=>by
  simp only[kK,cU] at h;simp only[bR] at z;obtain⟨cv,t,rfl,A,h2⟩:=z;exact⟨leaf_ok h.1 A,QI h.2 h2⟩
 |[],_::_,_,h,_=>by simp[kK] at h
 |_::_,[],_,h,_=>by simp[kK] at h
theorem Y8{x y:ai}{G cy:Value}{r:Bool}(h:FD x y=some r)(z:VR ρ x G)(A:VR ρ y cy):r=true↔ic G=ic cy:=by
 unfold FD at h
 split at h
 ·rename_i k U Y Z
  split at h
  ·rename_i M
   cases h
   have:=K9 M;subst this;simp only[VR] at z A;subst z;subst A;simp[ic,vo]
  cases h
 ·cases h
  simp only[VR] at z A;subst z;subst A;simp[ic]
 ·cases h
  simp only[VR] at z A;obtain⟨I,rfl,rfl,rfl⟩:=z;obtain⟨L,rfl,rfl,rfl⟩:=A;have O:I.size=I.data.toList.length:=Array.length_toList.symm;have h2:L.size=L.data.toList.length:=Array.length_toList.symm;rw[O,h2,KA];simp[ic]
 cases h
theorem Zr:∀{x y:List ai}{L cy:List Value}{r:Bool},tL x y=some r→bR ρ x L→bR ρ y cy→(r=true↔L.map ic=cy.map ic)
 |[],[],_,_,r,h,A,G=>by
  cases h
  simp only[bR] at A G;subst A;subst G;simp
 |x::s,y::t,_,_,r,h,A,G=>by
  simp only[bR] at A G;obtain⟨cv,Z,rfl,M,h2⟩:=A;obtain⟨dv,dt,rfl,O,Y⟩:=G;unfold tL at h
  split at h
  ·rename_i e;have I:=Y8 e M O;have U:=Zr h h2 Y;simp only[lM,Eg];exact⟨fun z=>⟨I.1 rfl,U.1 z⟩,fun z=>U.2 z.2⟩
  ·rename_i e;have I:=Y8 e M O
   split at h
   ·cases h
    simp only[lM,Eg];exact⟨fun z=>(by cases z),fun z=>absurd (I.2 z.1) (by simp)⟩
   cases h
  cases h
 |[],_::_,_,_,_,h,_,_=>by cases h
 |_::_,[],_,_,_,h,_,_=>by cases h
theorem eqAgg_sound(hA:AR P ρ nt E a)(hR:R ρ C w){op:BinOp}{t t':TypeId}{fs:Array Field}{x z:Operand}{x' z':aG}{io:br}(ho:o.op= .binOp op t x z t')(hx:cG P x=some x')(hz:cG P z=some z')(hu:P.underlying t=some (.struct fs))
  (A:Ue P op t x' z'=some io) (h:io.ev call E H= .ok v H'):eI P o a w (c9 ρ C w H v H'):=by
 unfold Ue at A
 split at A
 ·rename_i ks Xy
  split at A
  ·rename_i hc;have key:∀neg,(op= .eql∧neg=false)∨(op= .neq∧neg=true)→ES (.agg ks) neg x' z' E H= .ok v H'→eI P o a w (c9 ρ C w H v H'):=by
    intro neg zk h;replace h:=eK h;obtain⟨u,hu1,h⟩:=h;replace h:=eK h;obtain⟨u2,hu2,h⟩:=h;replace h:=iV h;obtain⟨r,G,h⟩:=h;rw[Qy] at h
    cases h
    have L:=hA.bC hx hu1;have M:=hA.bC hz hu2
    cases u<;>try(cases G;done)
    rename_i la
    cases u2<;>try(cases G;done)
    rename_i lb;have G:aJ (kK ks la) (aJ (kK ks lb) (tL la lb) none) none=some r:=G
    cases g1:kK ks la
    ·rw[g1] at G;cases G
    rw[g1,dM] at G
    cases g2:kK ks lb
    ·rw[g2] at G;cases G
    rw[g2,dM] at G;simp only[VR] at L M;obtain⟨O,e1,U,_⟩:=L;obtain⟨Y,e2,Z,_⟩:=M;have hla:=QI g1 U;have hlb:=QI g2 Z;obtain⟨r',I,hiff⟩:=abG 9988 12 t ks Xy hc.1 w (.agg O) (.agg Y) _ _ (.inr ⟨fs,O,hu,rfl,rfl⟩) (.inr ⟨fs,Y,hu,rfl,rfl⟩) hla hlb;have hrr:r'=r:=by
     have k:=Zr G U Z;exact Bool.eq_iff_iff.2 (hiff.trans k.symm)
    subst hrr;have hg:=run_eqGuard_agg (P:=P) w op t x z O Y hc.2;refine fP (cv:=.bool (Bool.xor neg r')) ?_ hR (by simp only[VR]);simp only[execOp,ho,Sem.run_bind,e1,e2,hg,Result.andThen_ok];have I:(Op.equalIn 10000 t (.agg O) (.agg Y)).run P w= .ok r' w:=I;have he:(Op.equal t (.agg O) (.agg Y)).run P w= .ok r' w:=I;rcases zk with⟨rfl,rfl⟩|⟨rfl,rfl⟩
    ·simp only[binOp];simp[he]
    simp only[binOp];simp[he]
   cases op<;>simp only[eE,reduceCtorEq] at A
   ·subst A;exact key false (.inl ⟨rfl,rfl⟩) h
   subst A;exact key true (.inr ⟨rfl,rfl⟩) h
  cases A
 cases A
end
section
variable{P:Program}{ρ:Ho}{nt:Nat}{E:Env}{a:Act}{C:Nat→Option cX}{w:World}{H H':ax}{v:ai}{o:Oper}{call:dQ}
end
section
variable{P:Program}{ρ:Ho}{nt:Nat}{E:Env}{a:Act}{C:Nat→Option cX}{w:World}{H H':ax}{v:ai}{o:Oper}
theorem adW{mx:Bool}{k:IntKind}:∀{vs:List ai}{oh:List Value}{n:Int}{r:ai},bR ρ vs oh→ET mx k vs n=some r→
  ∃m,r= .int k m∧(oh.foldlM (if mx=true then Builtin.max2 else Builtin.min2) (.int k n)).run P w= .ok (.int k m) w
 |[],oh,n,r,z,h=>by
  simp only[bR] at z;subst z
  cases h
  exact⟨n,rfl,rfl⟩
 |x::vs,oh,n,r,z,h=>by
  simp only[bR] at z;obtain⟨cv,t,rfl,A,h2⟩:=z;replace h:adP x none (fun _ b=>mb (aJ (aJ mx (fu n b) (fu b n)) b n) (ET mx k vs))=some r:=h
  cases x<;>try(cases h;done)
  rename_i G b;replace h:mb (aJ (aJ mx (fu n b) (fu b n)) b n) (ET mx k vs)=some r:=h;rw[xj] at h;simp only[VR] at A;subst A;obtain⟨m,I,L⟩:=adW (oh:=t) h2 h;refine⟨m,I,?_⟩;rw[List.foldlM_cons];have e:((if mx=true then Builtin.max2 else Builtin.min2) (.int k n) (.int G b)).run P w= .ok (.int k (aJ (aJ mx (fu n b) (fu b n)) b n)) w:=by
   cases mx
   ·simp only[gA,if_false,chk_false,oF,tQ,eM];rfl
   simp only[if_true,dM,oF,tQ,eM];rfl
  simp only[Sem.run_bind,e];exact L
theorem YU(U:AR P ρ nt E a)(Z:R ρ C w){mx:Bool}{c:Call}{x:Operand}{r:List Operand}{Y:aG}{r':List aG}(ho:o.op= .call c)(L:c.callee= .builtin (if mx=true then .max else .min))(G:c.args.toList=x::r)(hx:cG P x=some Y)(hr:ke P r=some r')
  (h:F6 mx Y r' E H= .ok v H'):eI P o a w (c9 ρ C w H v H'):=by
 replace h:=eK h;obtain⟨u,hu,h⟩:=h;replace h:=CK h;obtain⟨k,n,rfl,h⟩:=h;replace h:=iV h;obtain⟨vs,M,h⟩:=h;replace h:=iV h;obtain⟨res,I,h⟩:=h
 cases h
 have O:=U.bC hx hu;have h2:=U.dg hr M;simp only[VR] at O;obtain⟨m,rfl,z⟩:=adW (P:=P) (w:=w) h2 I;have A:c.args=(x::r).toArray:=by rw[←G]
 refine fP (cv:=.int k m) ?_ Z (by simp only[VR])
 cases mx
 ·simp only[gA,if_false] at L z;simp[execOp,ho,resolve,L,A,invoke,builtin,Builtin.min_,O,z]
 simp only[if_true] at L z;simp[execOp,ho,resolve,L,A,invoke,builtin,Builtin.max_,O,z]
end
section
variable{P:Program}{ρ:Ho}{nt:Nat}{E:Env}{a:Act}{C:Nat→Option cX}{w:World}{H H':ax}{v:ai}{o:Oper}
def mH(z:List Value):Nat→List Value
 |0=>[]
 |n+1=>z++mH z n
theorem Qz(z:List Value):∀n,(mH z n).length=n*z.length
 |0=>by simp[mH]
 |n+1=>by rw[mH,e7,Qz z n,vO,Nat.add_comm]
theorem abH{z:List Value}{x:Value}:∀{n},x∈mH z n→x∈z
 |0,h=>by cases h
 |n+1,h=>(List.mem_append.1 h).elim id abH
theorem abI(z:List Value):∀(n i:Nat),i<n*z.length→(mH z n)[i]?=z[i % z.length]?
 |0,i,h=>by simp at h
 |n+1,i,h=>by
  rw[vO] at h
  by_cases hi:i<z.length
  ·rw[mH,sA hi,Eb hi]
  have A:=Nat.mod_eq_sub_mod (show z.length≤i by omega);rw[mH,rl an,abI z n _ an,←A]
theorem zeroCells_eq(z:Array Value)(n:Nat):(Builtin.zeroCells z n).toList=mH z.toList n:=by
 apply List.ext_getElem?;intro i
 by_cases hi:i<n*z.size
 ·rw[abI _ _ _ (by simpa using hi)];have A:0<z.size:=by
   rcases Nat.eq_zero_or_pos z.size with h|h
   ·rw[h] at hi;omega
   exact h
  have G:i % z.size<z.size:=yy _ A;simp[Builtin.zeroCells,hi,G]
 rw[yB (by simp[Builtin.zeroCells];omega),yB (by rw[Qz];simpa using hi)]
theorem YV(b:Nat):∀(x y:List Value)(k:Nat)(w:World),w.setCells b k (x++y)=(w.setCells b k x).setCells b (k+x.length) y
 |[],y,k,w=>by simp[World.setCells]
 |v::r,y,k,w=>by
  simp only[Bo,World.setCells,gB];rw[YV b r y];congr 1;omega
theorem upd_chain{H1:ax}{f:Nat}(I:H1.next=H.next)(h2:H'.next=H.next)(M:C f=H.t.get f)(A:∀x,x≠f→H1.t.get x=H.t.get x)(G:∀x,x≠f→H'.t.get x=H1.t.get x):ep (ep C H H1) H1 H'=ep C H H':=by
 funext x
 unfold ep;have L:¬(H.next≤x∧x<H.next):=by omega
 simp only[I,h2,aX L]
 by_cases z:x=f
 ·subst z
  by_cases O:H'.t.get x=H1.t.get x<;>by_cases U:H1.t.get x=H.t.get x<;>by_cases Y:H'.t.get x=H.t.get x<;>simp_all
 rw[bg (G x z),bg (A x z),bg ((G x z).trans (A x z))]
theorem ZS{f g es:Nat}{z:List ai}{Y:List Value}{h:Hm}(hh:ρ f g=some h)(he:0<es)(Z:bR ρ z Y)(hz:z.length=es)(hk:z.all eQ=true):∀{n off:Nat}{H:ax}{C:Nat→Option cX}{w:World},R ρ C w→C f=H.t.get f→rn f g es z n off H= .ok v H'→
  v= .tuple []∧H'.next=H.next∧H'.aS=H.aS∧(∀x,x∈H.ws→x∈H'.ws)∧(∀x,x≠f→H'.t.get x=H.t.get x)∧
  (∀j,j<n*es→(w.cell? ⟨h.bG,h.off+off+j,none⟩).isSome=true)∧(∀j,j<n*es→w.frozen? ⟨h.bG,h.off+off+j,none⟩=false)∧(0<n→h.ro=false∧(f<H.aS→f∈H'.ws))∧
  R ρ (ep C H H') (w.setCells h.bG (h.off+off) (mH Y n))
 |0,off,H,C,w,hR,U,A=>by
  cases A
  exact⟨rfl,rfl,rfl,fun _ h=>h,fun _ _=>rfl,fun j M=>by omega,fun j M=>by omega,fun h=>by omega,by rw[rU];exact hR⟩
 |n+1,off,H,C,w,hR,U,A=>by
  have A:Go.Ev.wr H f g off es z (aD.err 28) (fun H=>Go.Ev.ch (Nat.add off es) fun off=>rn f g es z n off H)=aD.ok v H':=A;obtain⟨H1,hw,A⟩:=A1 A;rw[fc] at A;obtain⟨k1,k2,k3,k4⟩:=hR.write hw U hh he Z hk;have rK:Y.length=es:=Z.length.trans hz;obtain⟨elem,c6,aC,lo,cs,x,hg,_,_,_,_,_,O⟩:=hw;have n1:H1.next=H.next:=by rw[O]
  have m1:H1.aS=H.aS:=by rw[O]
  have w1:∀y,y∈H.ws→y∈H1.ws:=fun y G=>by rw[O];exact(xl _ _ _ _).2 (.inl G)
  have w2:f<H.aS→f∈H1.ws:=fun I=>by rw[O];exact(xl _ _ _ _).2 (.inr ⟨rfl,I⟩)
  have s5:∀y,y≠f→H1.t.get y=H.t.get y:=fun y G=>by rw[O];show(H.t.set f _).get y=_;rw[GT.df,aX G]
  have hC1:ep C H H1 f=H1.t.get f:=by
   unfold ep;rw[n1,aX an]
   by_cases e:H1.t.get f=H.t.get f
   ·rw[bg e,U,e]
   rw[aX e]
  obtain⟨r1,r2,r3,r4,r5,r6,r7,r8,r9⟩:=ZS hh he Z hz hk (n:=n) k4 hC1 A;refine⟨r1,r2.trans n1,r3.trans m1,fun y G=>r4 y (w1 y G),fun y G=>(r5 y G).trans (s5 y G),fun j M=>?_,fun j M=>?_,fun _=>⟨k3,fun I=>r4 f (w2 I)⟩,?_⟩
  ·by_cases L:j<es
   ·exact k1 j L
   have:=r6 (j-es) (by rw[vO] at M;omega);rw[show h.off+Nat.add off es+(j-es)=h.off+off+j by show h.off+(off+es)+(j-es)=_;omega,World.cell?_setCells_out _ _ _ _ _ (fun _ _=>by right;simp only;omega)] at this;exact this
  ·by_cases L:j<es
   ·exact k2 j L
   have:=r7 (j-es) (by rw[vO] at M;omega);rw[World.frozen?_setCells,show h.off+Nat.add off es+(j-es)=h.off+off+j by show h.off+(off+es)+(j-es)=_;omega] at this;exact this
  rw[upd_chain (C:=C) (H:=H) (H1:=H1) (f:=f) n1 (r2.trans n1) U s5 r5] at r9;rw[mH,YV,rK,show h.off+off+es=h.off+Nat.add off es by show _=h.off+(off+es);omega];exact r9
theorem clear_sound(hA:AR P ρ nt E a)(hR:R ρ C w){c:Call}{x:Operand}{x':aG}{t e:TypeId}{i:TypeInfo}{z:List ai}
  (ho:o.op= .call c) (hc:c.callee= .builtin .clear) (G:c.args=#[x]) (hx:cG P x=some x') (h0:c.argTypes[0]?=some t) (ht:P.underlying t=some (.slice e)) (hi:P.info? e=some i) (hz:zeroOf P e=some z)
  (hC:∀f o,f∈iB (x'.ev E)→(∃g h,ρ f g=some h)→H.t.get f=some o→C f=some o)
  (h:HL i.size x' (.c (.agg z)) E H= .ok v H'):eI P o a w (c9 ρ C w H v H'):=by
 replace h:=eK h;obtain⟨xa,U,h⟩:=h;have I:=hA.bC hx U;obtain⟨i',O,Y,rK,Z,hzk,Ch,yI,zi⟩:=xm hz;rw[hi] at Y
 cases Y
 replace h:=xi h;rcases h with⟨rfl,h⟩|⟨f,g,off,l,es,rfl,h⟩
 ·cases h
  simp only[VR] at I;refine .inl ⟨.tuple #[],w,?_,ρ,by simp only[VR];exact⟨#[],rfl,by simp[bR]⟩,Ext.refl _ _ _ _,by rw[rU];exact hR⟩;have A:(Builtin.clear_ c.argTypes o.type #[.slice none 0 0]).run P w= .ok (.tuple #[]) w:=by
   simp[Builtin.clear_,h0,run_underlying ht]
  simp[execOp,ho,resolve,hc,G,invoke,builtin,I,A]
 replace h:=eK h;obtain⟨zz,M,h⟩:=h;have M:zz= .agg z:=by
  have:some (ai.agg z)=some zz:=M
  cases this;rfl
 subst M;have h2:aJ (Nat.beq es i.size) (aJ (Nat.ble 1 i.size) (rn f g i.size z l off H) (.err 28)) (.err 28)= .ok v H':=h;clear h;obtain⟨b1,h3⟩:=fQ h2;obtain⟨b2,h⟩:=fQ h3;clear h2 h3;have b1:=cW b1;subst b1;simp only[VR] at I;obtain⟨L,ad,cap,hh,I,JU,rL⟩:=I
 cases l with
 |zero=>
  have h:aD.ok (ai.tuple []) H= .ok v H':=h
  cases h
  refine .inl ⟨.tuple #[],w,?_,ρ,by simp only[VR];exact⟨#[],rfl,by simp[bR]⟩,Ext.refl _ _ _ _,by rw[rU];exact hR⟩;have A:(Builtin.clear_ c.argTypes o.type #[.slice (some ad) 0 cap]).run P w= .ok (.tuple #[]) w:=by
   simp[Builtin.clear_,h0,run_underlying ht]
  simp[execOp,ho,resolve,hc,G,invoke,builtin,I,A]
 |succ n=>
  rcases rL with⟨rfl,_⟩|⟨h0,_⟩
  ·obtain⟨H1,hw,_⟩:=A1 (show Go.Ev.wr H f g off i.size z (aD.err 28) (fun H=>Go.Ev.ch (Nat.add off i.size) fun off=>rn f g i.size z n off H)=aD.ok v H' from h);obtain⟨_,_,_,_,_,_,hg,_⟩:=hw;have s0:C f=H.t.get f:=(hC f _ (by rw[U];simp[iB]) ⟨_,_,hh⟩ hg).trans hg.symm;obtain⟨r1,r2,r3,r4,r5,r6,r7,r8,r9⟩:=ZS hh yI (Z ρ) Ch hzk hR s0 h;obtain⟨ro,rw1⟩:=r8 (NL n);subst r1;obtain⟨s1,s2,s3,s4,s5,s6⟩:=CA L.bG (mH O.cells.toList (n+1)) (L.off+off) w;have hlen:(mH O.cells.toList (n+1)).length=(n+1)*i.size:=by rw[Qz,rh,zi]
   have h1:∀x∈mH O.cells.toList (n+1),x.oneCell'=true:=fun x hx=>(Z ρ).Q0 hzk x (abH hx)
   have E3:=run_storeCells_cells (P:=P) L.bG (L.off+off) (mH O.cells.toList (n+1)) 0 w (by rw[hlen];simpa using r6) (by rw[hlen];simpa using r7) h1;simp only[ug] at E3;have A:(Builtin.clear_ c.argTypes o.type #[.slice (some ⟨L.bG,L.off+off,none⟩) (n+1) cap]).run P w= .ok (.tuple #[]) (w.setCells L.bG (L.off+off) (mH O.cells.toList (n+1))):=by
    simp[Builtin.clear_,h0,run_underlying ht,zeroValue,typeInfo,hi,rK,zeroCells_eq,E3]
   refine .inl ⟨.tuple #[],w.setCells L.bG (L.off+off) (mH O.cells.toList (n+1)),?_,ρ,by simp only[VR];exact⟨#[],rfl,by simp[bR]⟩,?_,r9⟩
   ·simp[execOp,ho,resolve,hc,G,invoke,builtin,I,A]
   refine⟨Ho.le_refl _,fun f g h e=>.inl ⟨g,h,e⟩,fun _ _ _ e=>.inl e,fun b hb hf=>?_,by rw[s1];exact bd _,by rw[r2];exact bd _,s4,s5,s6⟩;refine s2 b fun e=>?_
   refine hf f g L hh ro ?_ e.symm;unfold Wr;rw[r3]
   by_cases lT:f<H.aS
   ·exact .inl (rw1 lT)
   exact .inr an
  omega
end
section
variable{P:Program}{ρ:Ho}{nt:Nat}{E:Env}{a:Act}{C:Nat→Option cX}{w:World}{H H':ax}{v:ai}{o:Oper}{call:dQ}{io:br}
def abJ(io:br)(E:Env)(ρ:Ho)(C:Nat→Option cX)(H:ax):Prop:=
 ∀f o,(∀l,io.reads E=some l→f∈l)→(∃g h,ρ f g=some h)→H.t.get f=some o→C f=some o
theorem QA{l:List Operand}{G:aG}(h:ke P l=some [G]):∃x,l=[x]∧cG P x=some G:=by
 cases l with
 |nil=>simp[ke] at h
 |cons x r=>
  simp only[ke] at h
  split at h
  ·rename_i y l I A
   cases h
   cases r with
   |nil=>exact⟨x,rfl,I⟩
   |cons z s=>
    simp only[ke] at A
    split at A<;>cases A
  cases h
theorem Qp{l:List Operand}{z:aG}{r':List aG}(h:ke P l=some (z::r')):∃x r,l=x::r∧cG P x=some z∧ke P r=some r':=by
 cases l with
 |nil=>simp[ke] at h
 |cons x r=>
  simp only[ke] at h
  split at h
  ·rename_i y l A G
   cases h
   exact⟨x,r,rfl,A,G⟩
  cases h
theorem Ql{c:Array Operand}{l:List Operand}(h:c.toList=l):c=l.toArray:=by rw[←h]
theorem callOf_sound(U:AR P ρ nt E a)(Y:R ρ C w)(hF:fI ρ H.next H'.next)(hK:abJ io E ρ C H)(hm:H.aS≤H.next)(oi:∀x,H.next≤x→H.t.get x=none)(hc:jx P call){c:Call}
  (ho:o.op= .call c) (A:Su P c=some io) (h:io.ev call E H= .ok v H'):eI P o a w (c9 ρ C w H v H'):=by
 unfold Su at A
 split at A
 ·rename_i f args I G
  split at A
  ·rename_i f
   cases A
   exact call_sound U Y hF (fun f Z=>hK f Z (fun l e=>by cases e)) hm oi hc ho I G h
  split at A
  ·rename_i y hy
   cases A
   exact callv_sound U Y hF (fun f Z=>hK f Z (fun l e=>by cases e)) hm oi hc ho I hy G h
  cases A
 ·rename_i x' I G;obtain⟨x,L,M⟩:=QA G;have L:=Ql L
  split at A
  ·rename_i t ht
   split at A
   ·rename_i hu
    cases A
    exact lenS_sound U Y ho I L M ht hu h
   ·rename_i e hu
    cases A
    exact len_sound U Y ho I L M ht hu h
   cases A
  cases A
 ·rename_i x' y' I G;obtain⟨x,r,L,M,hr⟩:=Qp G;obtain⟨y,zl,hy⟩:=QA hr;subst zl;have L:=Ql L
  split at A
  ·rename_i t u ht hu
   split at A
   ·rename_i e e2 O Xz
    split at A
    ·rename_i i z hi hz
     split at A
     ·rename_i hb
      cases A
      exact app_sound U Y hF ho I L M hy ht hu O Xz hi hz hb (fun f Z hf=>hK f Z (fun l e=>by cases e;exact hf)) h
     cases A
    cases A
   ·rename_i e O Xz
    split at A
    ·rename_i i z hi hz
     split at A
     ·rename_i hb
      cases A
      exact appStr_sound U Y hF ho I L M hy ht hu O Xz hi hz hb.1 hb.2 (fun f Z hf=>hK f Z (fun l e=>by cases e;exact hf)) h
     cases A
    cases A
   cases A
  cases A
 ·rename_i x' I G;obtain⟨x,L,M⟩:=QA G;have L:=Ql L
  split at A
  ·rename_i t ht
   split at A
   ·rename_i e O
    split at A
    ·rename_i i z hi hz
     cases A
     exact clear_sound U Y ho I L M ht O hi hz (fun f Z hf=>hK f Z (fun l e=>by cases e)) h
    cases A
   cases A
  cases A
 ·rename_i l I G
  cases l with
  |nil=>cases A
  |cons x' r'=>
   obtain⟨x,r,L,M,hr⟩:=Qp G
   cases A
   exact YU (mx:=false) U Y ho I L M hr h
 ·rename_i l I G
  cases l with
  |nil=>cases A
  |cons x' r'=>
   obtain⟨x,r,L,M,hr⟩:=Qp G
   cases A
   exact YU (mx:=true) U Y ho I L M hr h
 cases A
theorem ZU(A:I1 P o.op=some io)(L:AR P ρ nt E a)(I:R ρ C w)(hF:fI ρ H.next H'.next)(hK:abJ io E ρ C H)(hm:H.aS≤H.next)(oi:∀x,H.next≤x→H.t.get x=none)(hc:jx P call)
  (h:io.ev call E H= .ok v H'):eI P o a w (c9 ρ C w H v H'):=by
 generalize G:o.op=op at A;unfold I1 at A
 split at A
 ·split at A
  ·rename_i y M;cases A;exact ZM L I (.inl G) M h
  cases A
 ·split at A
  ·rename_i y M;cases A;exact ZM L I (.inr G) M h
  cases A
 ·split at A
  ·rename_i c' a' b' h1 h2 h3;cases A;exact pick_sound L I G h1 h2 h3 h
  cases A
 ·split at A
  ·rename_i z i hz hi;cases A;exact boxz_sound (E:=E) I hF G hz hi h
  cases A
 ·split at A
  ·rename_i n i y U hi M;cases A;exact box_sound L I hF G M U h
  cases A
 ·exact build_sound L I G A h
 ·exact buildSl_sound L I hF G A h
 ·split at A
  ·rename_i n y U M;cases A;exact load_sound L I G M U (fun f o' hf=>hK f o' (fun l e=>by cases e;exact hf)) h
  cases A
 ·split at A
  ·rename_i n y z U M hz;cases A;exact store_sound L I G M hz U (fun f o' hf=>hK f o' (fun l e=>by cases e;exact hf)) h
  cases A
 ·split at A
  ·rename_i y M;cases A;exact nilck_sound L I G M h
  cases A
 ·split at A
  ·rename_i x' y' O M;unfold ags at A
   split at A
   ·cases A;exact ZN L I G O M h
   ·cases A;exact ZN L I G O M h
   ·rename_i fs hu;exact eqAgg_sound L I G O M hu A h
   ·rename_i d _ _ _ hu;exact eqv_sound L I G O M hu A h
   cases A
  cases A
 ·split at A
  ·rename_i y M;cases A;exact un_sound L I G M h
  cases A
 ·split at A
  ·rename_i y M;unfold adQ at A
   split at A
   ·rename_i hs hd;cases A;exact conv_sound L I G M hs hd h
   exact conv2_sound L I hF G M A (fun f o' hl=>hK f o' hl) h
  cases A
 ·cases A
 ·split at A
  ·rename_i fs l hfs hl;cases A;exact mkfn_sound L I G hfs hl h
  cases A
 ·split at A
  ·rename_i x' y' O M;exact mksl_sound L I hF G O M A h
  cases A
 ·split at A
  ·rename_i x' qe wS Y O Z Cf;cases A;exact slStr_sound L I G O Z Cf Y h
  ·rename_i e x' qe wS Y O Z Cf
   split at A
   ·rename_i n U;cases A;exact slSl_sound L I G O Z Cf Y U h
   cases A
  ·cases A
  cases A
 ·split at A
  ·rename_i e x' qe wS mx' Y O Z Cf Xl
   split at A
   ·rename_i n U;cases A;exact sl3_sound L I G O Z Cf Xl Y U h
   cases A
  cases A
 ·split at A
  ·rename_i fs y hs M
   split at A
   ·rename_i fd hf
    split at A
    ·rename_i n U
     cases A
     obtain⟨i,d,hi,_,e,h0⟩:=u7 U;exact offs_sound L I G M hs hf hi an h
    cases A
   cases A
  cases A
 ·split at A
  ·rename_i fs y hs M
   split at A
   ·rename_i fd hf
    split at A
    ·rename_i n U;cases A;exact sub_sound L I G M hs hf U h
    cases A
   cases A
  cases A
 ·split at A
  ·rename_i k e x' i' Y O hi
   split at A
   ·rename_i n U
    split at A
    ·cases A;exact idxArr_sound L I G O hi Y U h
    cases A
   cases A
  ·rename_i e x' i' Y O hi
   split at A
   ·rename_i n U;cases A;exact idxSl_sound L I G O hi Y U h
   cases A
  cases A
 ·split at A
  ·rename_i k e x' i' Y O hi
   split at A
   ·rename_i n U;cases A;exact idxVal_sound L I G O hi Y U h
   cases A
  ·rename_i x' i' Y O hi
   cases A
   exact idxStr_sound L I G O hi Y h
  cases A
 ·split at A
  ·rename_i y M;cases A;exact extr_sound L I G M h
  cases A
 ·exact callOf_sound L I hF hK hm oi hc G A h
 cases A
end
def ja(E:Env)(d:Option Key)(v:ai):Env:=match d with|some d=>E.set d v|none=>E
theorem LP{dst:Option Key}{E E':Env}{H':ax}{k:Env→ax→dO}{r:aD}(h:fin dst E k r= .ok E' H'):∃v H1,r= .ok v H1∧k (ja E dst v) H1= .ok E' H':=by
 cases r with
 |err n=>cases h
 |ok v H1=>
  refine⟨v,H1,rfl,?_⟩
  cases dst with
  |none=>exact h
  |some d=>
   have h:E.Eh d v (fun E=>k E H1)= .ok E' H':=h;rw[T4.FZ] at h;exact h
theorem xp(dst:Option Key)(E:Env)(H:ax)(k:Env→ax→dO):iA dst E H k=k (ja E dst .undef) H:=by
 cases dst with
 |none=>rfl
 |some d=>show E.Eh d .undef (fun E=>k E H)=_;rw[T4.FZ];rfl
inductive nd(E:Env):Option (Key×Bool)→Bool→Prop
 |none:nd E none true
 |slot {t:Key} {want b:Bool}:E.get t=some (.bool b)→nd E (some (t,want)) (b==want)
 |off {t:Key} {want:Bool}:E.get t=some .undef→nd E (some (t,want)) false
theorem abK{call:dQ}{o:bl}{E E':Env}{H H':ax}{k:Env→ax→dO}(h:o.step call E H k= .ok E' H'):
  (nd E o.g true∧∃v H1,o.op.ev call E H= .ok v H1∧k (ja E o.dst v) H1= .ok E' H')∨(nd E o.g false∧k (ja E o.dst .undef) H= .ok E' H'):=by
 obtain⟨dst,g,q,op⟩:=o
 cases g with
 |none=>exact .inl ⟨.none,LP h⟩
 |some G=>
  obtain⟨t,want⟩:=G;have h:ob (E.get t) (dO.err 51) (fun v=>yG v (iA dst E H k) fun b=>aJ (Bool.xor b want) (iA dst E H k) (bl.run call ⟨dst,some (t,want),q,op⟩ E H k))= .ok E' H':=h
  cases z:E.get t with
  |none=>rw[z] at h;cases h
  |some v=>
   rw[z] at h
   cases v<;>try(cases h;done)
   case undef=>
    have h:iA dst E H k= .ok E' H':=h;rw[xp] at h;exact .inr ⟨.off z,h⟩
   rename_i b;have h:aJ (Bool.xor b want) (iA dst E H k) (bl.run call ⟨dst,some (t,want),q,op⟩ E H k)= .ok E' H':=h;have A:=nd.slot (E:=E) (want:=want) z
   cases b<;>cases want
   ·exact .inl ⟨A,LP h⟩
   ·rw[show Bool.xor false true=true from rfl,dM,xp] at h;exact .inr ⟨A,h⟩
   ·rw[show Bool.xor true false=true from rfl,dM,xp] at h;exact .inr ⟨A,h⟩
   exact .inl ⟨A,LP h⟩
structure En(P:Program)(nt:Nat)(ops:Array Oper)(o:Oper)(io:bl):Prop where
 dst:o.dst=io.dst.map Key.n
 lt:∀d,io.dst=some d→d.n<nt
 g:(o.guard=none∧io.g=none)∨∃j want d,o.guard=some (j,want)∧(ops[j]?).bind (·.dst)=some d.n∧io.g=some (d,want)
 op:I1 P o.op=some io.op∨io.op=JS
theorem abL{call:dQ}{E:Env}{H H':ax}{v:ai}(h:JS.ev call E H= .ok v H'):False:=by cases h
section
variable{P:Program}{ρ:Ho}{nt:Nat}{E:Env}{a:Act}{C:Nat→Option cX}{w:World}{H H':ax}{v:ai}{call:dQ}{ops:Array Oper}{Q:Exit→Act→World→Prop}
theorem QJ{o:Oper}{io:bl}{b:Bool}(ho:En P nt ops o io)(A:nd E io.g b)(M:∀t v,E.get t=some v→∃cv,a.tmps[t.n]?=some cv∧VR ρ v cv):Region.wanted o (yielded ops a.tmps)=b:=by
 unfold Region.wanted;rcases ho.g with⟨G,h2⟩|⟨j,want,d,G,h2,O⟩
 ·rw[h2] at A;rw[G]
  cases A
  rfl
 rw[O] at A;rw[G]
 cases A with
 |slot I=>
  obtain⟨cv,L,z⟩:=M _ _ I;simp only[VR] at z;subst z;simp only[yielded,h2,Option.bind_some,L];rename_i b
  cases b<;>cases want<;>rfl
 |off I=>
  obtain⟨cv,L,z⟩:=M _ _ I;simp only[VR] at z;subst z;simp only[yielded,h2,Option.bind_some,L,undef]
  cases want<;>rfl
theorem KF(A:hJ ρ C H){ρ':Ho}(G:∀f g h,ρ' f g=some h→(∃g0 h0,ρ f g0=some h0)∨(H.next≤f∧f<H'.next)):hJ ρ' (ep C H H') H':=by
 intro f o z ho;obtain⟨g,h,z⟩:=z;unfold ep
 split
 ·exact ho
 rename_i I
 split
 ·rename_i L;refine A f o ?_ (L▸ho);rcases G f g h z with k|k
  ·exact k
  exact absurd k I
 exact ho
theorem fI.sub(h:fI ρ H.next H'.next){ρ':Ho}{n1:Nat}(z:∀f g h,ρ' f g=some h→(∃g0 h0,ρ f g0=some h0)∨(H.next≤f∧f<n1))(I:H.next≤n1):fI ρ' n1 H'.next:=by
 intro f g h2 A
 cases G:ρ' f g with
 |none=>rfl
 |some x=>
  rcases z f g x G with⟨g0,h0,e⟩|e
  ·rw[h f g0 an A] at e;cases e
  omega
theorem fI.le{n0 n1 z:Nat}(h:fI ρ n0 z)(A:n1≤z):fI ρ n0 n1:=fun f g a b=>h f g a an
theorem AR.Ow(h:AR P ρ nt E a){d:Option Key}(z:∀x,d=some x→x.n<nt){v:ai}{cv:Value}(A:VR ρ v cv):AR P ρ nt (ja E d v) (a.put (d.map Key.n) cv):=by
 cases d with
 |none=>exact h
 |some d=>exact h.put (z d rfl) A
theorem KB(A:jx P call):∀(l:List bl)(E:Env)(H:ax)(E':Env)(H':ax),H.aS≤H.next→nc call l E H= .ok E' H'→eH H H'
 |[],E,H,E',H',_,h=>by cases h;exact eH.refl _
 |o::r,E,H,E',H',z,h=>by
  rcases abK (show o.step call E H (nc call r)= .ok E' H' from h) with⟨_,v,H1,G,h2⟩|⟨_,h2⟩
  ·have t1:=TM.ins z (fun f a=>A.lr f a H z) E o.op v H1 G;exact t1.trans (KB A r _ _ _ _ (by rw[t1.aS];exact eT z t1.next) h2)
  exact KB A r _ _ _ _ z h2
def WF(H:ax):Prop:=∀x,H.next≤x→H.t.get x=none
theorem RE{H1 A:ax}(h:eH H1 A)(f:Nat)(z:Wr H1 f):Wr A f:=by
 rcases z with z|z
 ·exact .inl (h.ws f z)
 exact .inr (by rw[h.aS];exact z)
def sF(P:Program)(nt:Nat)(E':Env)(H H':ax)(C:Nat→Option cX)(ρ:Ho)(w:World)(K:Act→World→Prop):Prop:=
 ∀z w' ρ',AR P ρ' nt E' z→Ext (Wr H') H.next H'.next ρ ρ' w w'→R ρ' (ep C H H') w'→hJ ρ' (ep C H H') H'→K z w'
theorem ZV{ρ:Ho}(hK:hJ ρ C H){H1 z:ax}(h1:H.next≤H1.next)(h2:H1.next≤z.next)(A:∀f,H1.t.get f≠none→z.t.get f≠none){ρ':Ho}(hd:∀f g h,ρ' f g=some h→(∃g0 h0,ρ f g0=some h0)∨(H.next≤f∧f<z.next))
  (f:Nat) (o:cX) (h:ep C H z f=some o) (I:∃g x,ρ' f g=some x):ep (ep C H H1) H1 z f=some o:=by
 obtain⟨g,x,I⟩:=I;unfold ep at h⊢
 by_cases L:H1.next≤f∧f<z.next
 ·rw[bg ⟨an,L.2⟩] at h;rw[bg L];exact h
 rw[aX L]
 by_cases M:H.next≤f∧f<H1.next
 ·rw[bg ⟨M.1,an⟩] at h;rw[bg M]
  split
  ·rename_i e;rw[←e];exact h
  exact h
 have c3:¬(H.next≤f∧f<z.next):=by omega
 rw[aX M];rw[aX c3] at h;have G:∃g0 h0,ρ f g0=some h0:=(hd f g x I).resolve_right c3;have O:=fun U=>hK f U G
 split
 ·rename_i e
  split
  ·rename_i Y;rw[bg (e.trans Y)] at h;exact h
  rename_i Y;rw[aX (by rw[e];exact Y),e] at h;exact h
 rename_i e
 split at h
 ·rename_i Z;rw[Z]
  cases hg:H.t.get f with
  |none=>
   have h3:H1.t.get f≠none:=fun e3=>e (by rw[Z,hg,e3])
   exact absurd (Z.trans hg) (A f h3)
  |some U=>
   rw[O U hg] at h;exact h
 exact h
theorem rest_ok{o:Oper}{io:bl}{H1:ax}{E':Env}{K:Act→World→Prop}(ho:En P nt ops o io)(hA:AR P ρ nt E a)(O:hJ ρ C H)(U:eH H H1)(I:eH H1 H')
  (L:sF P nt E' H H' C ρ w K) {cv:Value} {w':World} (hp:c9 ρ C w H v H1 cv w') {K':Act→World→Prop}
  (hk:∀ρ' Y,AR P ρ' nt (ja E io.dst v) (a.put o.dst cv)→R ρ' Y w'→hJ ρ' Y H1→(∀f g h,ρ' f g=some h→(∃g0 h0,ρ f g0=some h0)∨(H.next≤f∧f<H1.next))→vE P ρ'→sF P nt E' H1 H' Y ρ' w' K→K' (a.put o.dst cv) w'):
  K' (a.put o.dst cv) w':=by
 obtain⟨ρ',hv,A,Z⟩:=hp;have G:AR P ρ' nt (ja E io.dst v) (a.put o.dst cv):=by
  rw[ho.dst];exact(hA.mono A.le).Ow ho.lt hv
 refine hk ρ' (ep C H H1) G Z (KF O A.gE) A.gE G.ru fun a2 w2 M G XA hR2 hK2=>?_
 have z:Ext (Wr H') H.next H'.next ρ M w w2:=(A.mono (RE I)).trans XA;refine L a2 w2 M G z ?_ (KF O z.gE);exact hR2.weaken fun f o h hf=>ZV O U.next I.next I.gN z.gE f o h hf
theorem Y9(hc:jx P call){K:Act→World→Prop}:∀(l:List bl)(os:List Oper)(k:Nat),os.length=l.length→(∀(i:Nat)(o:Oper)(io:bl),os[i]?=some o→l[i]?=some io→En P nt ops o io)→(∀(i:Nat)(o:Oper),os[i]?=some o→ops[k+i]?=some o)→
  ∀(E:Env)(H:ax)(E':Env)(H':ax)(ρ:Ho)(C:Nat→Option cX)(a:Act)(w:World),nc call l E H= .ok E' H'→AR P ρ nt E a→R ρ C w→hJ ρ C H→fI ρ H.next H'.next→H.aS≤H.next→WF H→
  sF P nt E' H H' C ρ w K→(∀a w,K a w→Q .normal a w)→wpOps P ops Q ((List.range' k l.length)) a w
 |[],os,k,hl,M,O,E,H,E',H',ρ,C,a,w,h,U,hR,hK,hF,Z,I,z,hQ=>by
  cases h
  refine hQ _ _ (z a w ρ U (Ext.refl _ _ _ _) ?_ ?_)
  ·rw[rU];exact hR
  rw[rU];exact hK
 |io::r,[],k,hl,_,_,_,_,_,_,_,_,_,_,_,_,_,_,_,_,_,_,_=>by simp at hl
 |io::r,o::os,k,hl,M,O,E,H,E',H',ρ,C,a,w,h,U,hR,hK,hF,Z,I,z,hQ=>by
  have ho:=M 0 o io rfl rfl;have XC:ops[k]?=some o:=by simpa using O 0 o rfl
  have A:=Y9 hc (K:=K) r os (k+1) (by simpa using hl) (fun i o io L h2=>M (i+1) o io (by simpa using L) (by simpa using h2)) (fun i o L=>by
   have:=O (i+1) o (by simpa using L);rwa [show k+(i+1)=k+1+i by omega] at this)
  rw[gB,List.range'_succ,wpOps_cons];unfold wpOp;simp only[XC];rcases abK (show io.step call E H (nc call r)= .ok E' H' from h) with⟨hw,v,H1,L,h2⟩|⟨hw,h2⟩
  ·rw[QJ ho hw U.tmp,bg rfl];left;have G:=TM.ins Z (fun f a=>hc.lr f a H Z) E io.op v H1 L;have rI:H1.aS≤H1.next:=by rw[G.aS];exact eT Z G.next
   have ht2:=KB hc r _ _ _ _ rI h2;rcases ho.op with J1|VH
   case inr=>rw[VH] at L;exact(abL L).elim
   have hok2:=ZU (o:=o) J1 U hR (hF.le ht2.next) (fun f o' _ hf pb=>hK f o' hf pb) Z I hc L;refine Zj hok2 fun cv w' hp=>?_
   refine rest_ok ho U hK G ht2 z hp (K':=wpOps P ops Q (List.range' (k+1) r.length)) fun ρ' C' Y XD hK' hd hg ht=>?_
   exact A _ H1 E' H' ρ' C' _ w' h2 Y XD hK' (hF.sub hd G.next) rI (G.wf I) ht hQ
  rw[QJ ho hw U.tmp,aX (by simp)];have Y:AR P ρ nt (ja E io.dst .undef) (a.put o.dst undef):=by
   rw[ho.dst];exact U.Ow ho.lt (by simp only[VR])
  exact A _ H E' H' ρ C _ w h2 Y hR hK hF Z I z hQ
end
def ax.mark(H:ax):ax:=⟨H.next,H.next,[],H.t⟩
def C5(H H1:ax):ax:=⟨H1.next,H.aS,pr H.aS H.ws H1.ws,H1.t⟩
theorem Fu(aS:Nat)(ws:List Nat):∀(new:List Nat)(x:Nat),x∈pr aS ws new↔x∈ws∨(x∈new∧x<aS)
 |[],x=>by show x∈ws↔_;simp
 |f::r,x=>by
  show x∈wrote f aS (pr aS ws r)↔_;rw[xl,Fu aS ws r];simp only[sv];constructor
  ·rintro((h|⟨h,k⟩)|⟨rfl,k⟩)
   ·exact .inl h
   ·exact .inr ⟨.inr h,k⟩
   exact .inr ⟨.inl rfl,k⟩
  rintro(h|⟨rfl|h,k⟩)
  ·exact .inl (.inl h)
  ·exact .inr ⟨rfl,k⟩
  exact .inl (.inr ⟨h,k⟩)
theorem eH.C5{H H1:ax}(G:H.aS≤H.next)(h:eH H.mark H1):eH H (C5 H H1):=
 ⟨h.next,rfl,fun f z=>(Fu _ _ _ _).2 (.inl z),fun f z A=>h.same f (by show f<H.next;omega) (fun e=>A ((Fu _ _ _ _).2 (.inr ⟨e,z⟩))),h.wf,h.gN⟩
theorem ZW{l m:List Nat}(h:Dz l m=true):∀x,x∈l→x∉m:=by
 induction l with
 |nil=>intro x z;cases z
 |cons y r I=>
  have h:aJ (pO y m) false (Dz r m)=true:=h;intro x z G
  cases A:pO y m
  ·rw[A] at h
   cases z with
   |head=>rw[(KT _ _).2 G] at A;cases A
   |tail _ z=>exact I h x z G
  rw[A] at h;cases h
theorem ZX{l:List Nat}{r:Option (List Nat)}(h:HO l r=true){x:Nat}(z:x∈l):∃m,r=some m∧x∉m:=by
 cases l with
 |nil=>cases z
 |cons y s=>
  cases r with
  |none=>cases h
  |some m=>exact⟨m,rfl,ZW (l:=y::s) h x z⟩
theorem outN_mem{l:List Nat}{lo hi:Nat}(h:yH l lo hi=true):∀x,x∈l→¬(lo≤x∧x<hi):=by
 induction l with
 |nil=>intro x z;cases z
 |cons y r L=>
  have h:aJ (Nat.ble lo y) (aJ (Nat.ble hi y) (yH r lo hi) false) (yH r lo hi)=true:=h;intro x z⟨G,h2⟩
  cases A:Nat.ble lo y
  ·rw[A] at h
   cases z with
   |head=>rw[fR G] at A;cases A
   |tail _ z=>exact L h x z ⟨G,h2⟩
  rw[A] at h;have h:aJ (Nat.ble hi y) (yH r lo hi) false=true:=h
  cases I:Nat.ble hi y
  ·rw[I] at h;cases h
  rw[I] at h
  cases z with
  |head=>have:=aV I;omega
  |tail _ z=>exact L h x z ⟨G,h2⟩
structure CS(a b:FP):Prop where
 ab:∀x,x∈a.ws→∃m,b.rd=some m∧x∉m
 ba:∀x,x∈b.ws→∃m,a.rd=some m∧x∉m
 ww:∀x,x∈a.ws→x∉b.ws
 out:∀x,x∈a.ws→¬(b.lo≤x∧x<b.hi)
theorem apartFP_ok{a b:FP}(h:nG a b=true):CS a b:=by
 unfold nG at h;have z:∀{p:Bool}{q:Bool},aJ p q false=true→p=true∧q=true:=by intro p q h;cases p;cases h;exact⟨rfl,h⟩
 obtain⟨A,h⟩:=z h;obtain⟨h2,h⟩:=z h;obtain⟨G,h⟩:=z h;exact⟨fun x=>ZX A,fun x=>ZX h2,ZW G,outN_mem h⟩
theorem Y'{a:FP}{bf:List FP}:∀{l:List Nat},mO a bf l=true→∀k,k∈l→∃b,bf[k]?=some b∧CS a b
 |[],_,k,z=>by cases z
 |i::r,h,k,z=>by
  have h:ob (bf[i]?) false (fun b=>aJ (nG a b) (mO a bf r) false)=true:=h
  cases A:bf[i]?with
  |none=>rw[A] at h;cases h
  |some b=>
   rw[A] at h;have h:aJ (nG a b) (mO a bf r) false=true:=h
   cases G:nG a b
   ·rw[G] at h;cases h
   rw[G] at h
   cases z with
   |head=>exact⟨b,A,apartFP_ok G⟩
   |tail _ z=>exact Y' h k z
inductive qS(call:dQ)(o:bl)(E:Env)(H:ax)(bf:List FP):Bool→ai→FP→ax→Prop
 |skip {fp:FP}:nd E o.g false→(o.q.isSome=true→fp=⟨some [],[],0,0⟩)→qS call o E H bf false .undef fp H
 |plain {v:ai} {fp:FP} {H1:ax}:nd E o.g true→o.q=none→o.op.ev call E H= .ok v H1→qS call o E H bf true v fp H1
 |marked {v:ai} {q:List Nat} {H1:ax}:nd E o.g true→o.q=some q→o.op.ev call E H.mark= .ok v H1→mO ⟨o.op.reads E,H1.ws,H.next,H1.next⟩ bf q=true→
   qS call o E H bf true v ⟨o.op.reads E,H1.ws,H.next,H1.next⟩ (C5 H H1)
def FG(o:bl)(fp:FP)(bf:List FP):List FP:=match o.q with|some _=>fp::bf|none=>bf
theorem finQ_ok{rs:Option (List Nat)}{l:List Nat}{next aS:Nat}{ws:List Nat}{bf:List FP}{dst:Option Key}{E E':Env}{H':ax}{k:Env→ax→List FP→dO}{v:ai}{next' A:Nat}{z:List Nat}{t':HT}
  (h:Ek rs l next aS ws bf dst E k (.ok v ⟨next',A,z,t'⟩)= .ok E' H'):
  mO ⟨rs,z,next,next'⟩ bf l=true∧k (ja E dst v) ⟨next',aS,pr aS ws z,t'⟩ (⟨rs,z,next,next'⟩::bf)= .ok E' H':=by
 unfold Ek at h;dsimp only at h
 cases G:mO ⟨rs,z,next,next'⟩ bf l
 ·rw[G] at h;cases h
 rw[G,dM] at h;refine⟨rfl,?_⟩
 cases dst with
 |none=>exact h
 |some d=>
  dsimp only at h;rw[T4.FZ] at h;exact h
theorem aaH{call:dQ}{o:bl}{E E':Env}{H H':ax}{bf:List FP}{k:Env→ax→List FP→dO}(h:o.jB call E H bf k= .ok E' H'):
  ∃b v fp H1,qS call o E H bf b v fp H1∧k (ja E o.dst v) H1 (FG o fp bf)= .ok E' H':=by
 have run:nd E o.g true→o.pP call E H bf k= .ok E' H'→∃b v fp H1,qS call o E H bf b v fp H1∧k (ja E o.dst v) H1 (FG o fp bf)= .ok E' H':=by
  intro z h;obtain⟨dst,g,q,op⟩:=o
  cases q with
  |none=>
   obtain⟨v,H1,M,h2⟩:=LP (k:=fun E H=>k E H bf) h;exact⟨true,v,⟨none,[],0,0⟩,H1,.plain z rfl M,h2⟩
  |some q=>
   cases H with
   |mk next aS ws t=>
    have h:ch next (fun next=>Ek (op.reads E) q next aS ws bf dst E k (op.ev call E ⟨next,next,[],t⟩))= .ok E' H':=h;rw[fc] at h
    cases L:op.ev call E ⟨next,next,[],t⟩ with
    |err n=>rw[L] at h;cases h
    |ok v H1=>
     rw[L] at h
     cases H1 with
     |mk next' A G t'=>
      obtain⟨O,h⟩:=finQ_ok h;exact⟨true,v,⟨op.reads E,G,next,next'⟩,C5 ⟨next,aS,ws,t⟩ ⟨next',A,G,t'⟩,.marked (q:=q) (H1:=⟨next',A,G,t'⟩) z rfl L O,h⟩
 have skip:nd E o.g false→iA o.dst E H (fun E H=>k E H (oJ o.q bf))= .ok E' H'→∃b v fp H1,qS call o E H bf b v fp H1∧k (ja E o.dst v) H1 (FG o fp bf)= .ok E' H':=by
  intro z h;rw[xp] at h;obtain⟨dst,g,q,op⟩:=o;refine⟨false,.undef,⟨some [],[],0,0⟩,H,.skip z (fun _=>rfl),?_⟩
  cases q<;>exact h
 obtain⟨dst,g,q,op⟩:=o
 cases g with
 |none=>exact run .none h
 |some U=>
  obtain⟨t,want⟩:=U;have h:ob (E.get t) (dO.err 51) (fun v=>yG v (iA dst E H fun E H=>k E H (oJ q bf)) fun b=>aJ (Bool.xor b want) (iA dst E H fun E H=>k E H (oJ q bf)) (bl.pP call ⟨dst,some (t,want),q,op⟩ E H bf k))= .ok E' H':=h
  cases I:E.get t with
  |none=>rw[I] at h;cases h
  |some v=>
   rw[I] at h
   cases v<;>try(cases h;done)
   case undef=>exact skip (.off I) h
   rename_i b;have h:aJ (Bool.xor b want) (iA dst E H fun E H=>k E H (oJ q bf)) (bl.pP call ⟨dst,some (t,want),q,op⟩ E H bf k)= .ok E' H':=h;have z:=nd.slot (E:=E) (want:=want) I
   cases b<;>cases want
   ·exact run z h
   ·exact skip z h
   ·exact skip z h
   exact run z h
structure Trace(call:dQ)(l:List bl)(E:Env)(H:ax)(bf:List FP)(E':Env)(H':ax)(Es:Nat→Env)(Hs:Nat→ax)(Rs:Nat→List FP)(Wn:Nat→Bool)(Vs:Nat→ai)(Fp:Nat→FP):Prop where
 e0:Es 0=E
 h0:Hs 0=H
 r0:Rs 0=bf
 eN:Es l.length=E'
 hN:Hs l.length=H'
 step:∀i o,l[i]?=some o→qS call o (Es i) (Hs i) (Rs i) (Wn i) (Vs i) (Fp i) (Hs (i+1))∧Es (i+1)=ja (Es i) o.dst (Vs i)∧Rs (i+1)=FG o (Fp i) (Rs i)
theorem aaI{call:dQ}:∀(l:List bl)(E:Env)(H:ax)(bf:List FP)(E':Env)(H':ax),iS call l E H bf= .ok E' H'→
  ∃Es Hs Rs Wn Vs Fp,Trace call l E H bf E' H' Es Hs Rs Wn Vs Fp
 |[],E,H,bf,E',H',h=>by
  cases h
  exact⟨fun _=>E,fun _=>H,fun _=>bf,fun _=>true,fun _=>.undef,fun _=>⟨none,[],0,0⟩,rfl,rfl,rfl,rfl,rfl,fun i o h=>by simp at h⟩
 |o::r,E,H,bf,E',H',h=>by
  obtain⟨b,v,fp,H1,A,h2⟩:=aaH (show o.jB call E H bf (iS call r)= .ok E' H' from h);obtain⟨Es,Hs,Rs,Wn,Vs,Fp,t⟩:=aaI r _ _ _ _ _ h2;refine⟨fun|0=>E|i+1=>Es i,fun|0=>H|i+1=>Hs i,fun|0=>bf|i+1=>Rs i,fun|0=>b|i+1=>Wn i,fun|0=>v|i+1=>Vs i,fun|0=>fp|i+1=>Fp i,rfl,rfl,rfl,t.eN,t.hN,fun i x z=>?_⟩
  cases i with
  |zero=>
   simp at z;subst z;simp only[t.e0,t.h0,t.r0];exact⟨A,True.intro,True.intro⟩
  |succ i=>exact t.step i x (by simpa using z)
def PS(H:ax)(r:aD):Prop:=∀v H',r= .ok v H'→H'=H
theorem PS.err{H:ax}{n:Nat}:PS H (.err n):=fun _ _ h=>by cases h
theorem PS.ok{H:ax}{v:ai}:PS H (.ok v H):=fun _ _ h=>by cases h;rfl
theorem PS.aJ{H:ax}{b:Bool}{k e:aD}(h:PS H k)(h':PS H e):PS H (aJ b k e):=by cases b;exact h';exact h
theorem PS.ob{H:ax}{α:Type}{o:Option α}{e:aD}{k:α→aD}(h:∀x,PS H (k x))(h':PS H e):PS H (ob o e k):=by cases o;exact h';exact h _
theorem PS.bq{H:ax}{x:aG}{E:Env}{e:aD}{k:ai→aD}(h:∀x,PS H (k x))(h':PS H e):PS H (bq x E e k):=by
 cases x with
 |t i=>exact PS.ob (o:=E.get i) h h'
 |c a=>exact h a
theorem PS.vm{H:ax}{a:ai}{e:aD}{k:Bool→aD}(h:∀x,PS H (k x))(h':PS H e):PS H (vm a e k):=by cases a<;>first|exact h'|exact h _
theorem PS.fG{H:ax}{a:ai}{e:aD}{k:IntKind→Int→aD}(h:∀x y,PS H (k x y))(h':PS H e):PS H (fG a e k):=by cases a<;>first|exact h'|exact h _ _
theorem PS.kT{H:ax}{a:ai}{e:aD}{k:Nat→Nat→aD}(h:∀x y,PS H (k x y))(h':PS H e):PS H (kT a e k):=by cases a<;>first|exact h'|exact h _ _
theorem PS.jk{H:ax}{a:ai}{e:aD}{k:Nat→Nat→Nat→aD}(h:∀x y z,PS H (k x y z))(h':PS H e):PS H (jk a e k):=by cases a<;>first|exact h'|exact h _ _ _
theorem PS.fy{H:ax}{a:ai}{e A:aD}{k:Nat→Nat→Nat→Nat→Nat→aD}(h:∀x y z u w,PS H (k x y z u w))(h2:PS H A)(h':PS H e):PS H (fy a e A k):=by cases a<;>first|exact h'|exact h2|exact h _ _ _ _ _
theorem PS.na{H:ax}{a:ai}{e:aD}{k:List ai→aD}(h:∀x,PS H (k x))(h':PS H e):PS H (na a e k):=by cases a<;>first|exact h'|exact h _
theorem PS.vd{H:ax}{a:ai}{e:aD}{k:List ai→aD}(h:∀x,PS H (k x))(h':PS H e):PS H (vd a e k):=by cases a<;>first|exact h'|exact h _
theorem PS.xF{H:ax}{a:ai}{e:aD}{k:Nat→List ai→List ai→aD}(h:∀x y z,PS H (k x y z))(h':PS H e):PS H (xF a e k):=by cases a<;>first|exact h'|exact h _ _ _
theorem PS.iU{H:ax}{i:Int}{e:aD}{k:Nat→aD}(h:∀x,PS H (k x))(h':PS H e):PS H (iU i e k):=by cases i;exact h _;exact h'
theorem PS.idx{H:ax}{a:ai}{n:Nat}{e:aD}{k:Nat→aD}(h:∀x,PS H (k x))(h':PS H e):PS H (idx a n e k):=PS.fG (fun _ _=>PS.iU (fun _=>PS.aJ (h _) h') h') h'
theorem PS.dT{H:ax}{E:Env}{x:Option aG}{d y:Nat}{e:aD}{k:Nat→aD}(h:∀x,PS H (k x))(h':PS H e):PS H (dT E x d y e k):=by
 cases x with
 |none=>exact h _
 |some z=>exact PS.ob (fun _=>PS.fG (fun _ _=>PS.iU (fun _=>PS.aJ (h _) h') h') h') h'
theorem PS.kU{H:ax}{o:Option cX}{e:aD}{k:Nat→Nat→Nat→Nat→Nat→Nat→RT→aD}(h:∀a b c d e f g,PS H (k a b c d e f g))(h':PS H e):PS H (kU o e k):=by
 cases o with
 |none=>exact h'
 |some o=>cases o with
  |row=>exact h _ _ _ _ _ _ _
  |map=>exact h'
theorem PS.fT{H:ax}{agg:Bool}{l:List ai}{e:aD}{k:ai→aD}(h:∀x,PS H (k x))(h':PS H e):PS H (fT agg l e k):=by
 refine PS.aJ (h _) ?_
 cases l with
 |nil=>exact h'
 |cons x r=>cases r with
  |nil=>exact h _
  |cons=>exact h'
theorem PS.ch{H:ax}{n:Nat}{k:Nat→aD}(h:∀x,PS H (k x)):PS H (ch n k):=by rw[fc];exact h _
theorem PS.mb{H:ax}{n:Int}{k:Int→aD}(h:∀x,PS H (k x)):PS H (mb n k):=by rw[xj];exact h _
theorem PS.mU{H:ax}{n:ai}{k:ai→aD}(h:∀x,PS H (k x)):PS H (mU n k):=by rw[xk];exact h _
theorem PS.po{H:ax}{n:Bool}{k:Bool→aD}(h:∀x,PS H (k x)):PS H (po n k):=by cases n<;>exact h _
theorem pure_same{call:dQ}{H:ax}{E:Env}{o:br}(z:mV o=true):PS H (o.ev call E H):=by
 cases o with
 |eb x=>exact PS.bq (fun _=>PS.ok) PS.err
 |pick c a b=>exact PS.bq (fun _=>PS.vm (fun _=>PS.aJ (PS.bq (fun _=>PS.ok) PS.err) (PS.bq (fun _=>PS.ok) PS.err)) PS.err) PS.err
 |pN a b c d=>cases z
 |box a b c d=>cases z
 |load a b c=>cases z
 |store a b c=>cases z
 |bin op x y=>exact PS.bq (fun _=>PS.bq (fun _=>by rw[K8];exact PS.ob (fun _=>PS.mU fun _=>PS.ok) PS.err) PS.err) PS.err
 |eqv c n x y=>exact PS.bq (fun _=>PS.bq (fun _=>PS.ob (fun _=>PS.po fun _=>PS.ok) PS.err) PS.err) PS.err
 |un op x=>exact PS.bq (fun _=>PS.ob (fun _=>PS.mU fun _=>PS.ok) PS.err) PS.err
 |eY x k=>exact PS.bq (fun _=>PS.jk (fun _ _ _=>PS.ch fun _=>PS.ok) PS.err) PS.err
 |sub x a b c=>exact PS.bq (fun _=>PS.na (fun _=>PS.aJ (PS.fT (fun _=>PS.ok) PS.err) PS.err) PS.err) PS.err
 |An a b x i=>exact PS.bq (fun _=>PS.jk (fun _ _ _=>PS.bq (fun _=>PS.idx (fun _=>PS.ch fun _=>PS.ok) PS.err) PS.err) PS.err) PS.err
 |kr a x i=>exact PS.bq (fun _=>PS.fy (fun _ _ _ _ _=>PS.bq (fun _=>PS.idx (fun _=>PS.ch fun _=>PS.ok) PS.err) PS.err) PS.err PS.err) PS.err
 |C2 a b c x i=>exact PS.bq (fun _=>PS.na (fun _=>PS.bq (fun _=>PS.idx (fun _=>PS.aJ (PS.fT (fun _=>PS.ok) PS.err) PS.err) PS.err) PS.err) PS.err) PS.err
 |Ao x i=>exact PS.bq (fun _=>PS.kT (fun _ _=>PS.bq (fun _=>PS.idx (fun _=>PS.ch fun _=>PS.ok) PS.err) PS.err) PS.err) PS.err
 |HC x a b=>exact PS.bq (fun _=>PS.kT (fun _ _=>PS.dT (fun _=>PS.dT (fun _=>PS.ch fun _=>PS.ch fun _=>PS.ok) PS.err) PS.err) PS.err) PS.err
 |sE n x a b=>exact PS.bq (fun _=>PS.fy (fun _ _ _ _ _=>PS.aJ (PS.dT (fun _=>PS.dT (fun _=>PS.ch fun _=>PS.ch fun _=>PS.ok) PS.err) PS.err) PS.err) (PS.dT (fun _=>PS.dT (fun _=>PS.ok) PS.err) PS.err) PS.err) PS.err
 |ER n x a b c=>exact PS.bq (fun _=>PS.fy (fun _ _ _ _ _=>PS.aJ (PS.dT (fun _=>PS.aJ (PS.dT (fun _=>PS.dT (fun _=>PS.ch fun _=>PS.ch fun _=>PS.ok) PS.err) PS.err) PS.err) PS.err) PS.err) PS.err PS.err) PS.err
 |vS x i=>exact PS.bq (fun _=>PS.vd (fun _=>PS.ob (fun _=>PS.ok) PS.err) PS.err) PS.err
 |sj x=>exact PS.bq (fun _=>PS.aJ PS.ok PS.err) PS.err
 |yF f fs l=>exact PS.ob (fun _=>PS.ob (fun _=>PS.ok) PS.err) PS.err
 |vT a b c d e f=>cases z
 |build a b=>exact PS.ob (fun _=>PS.ok) PS.err
 |tK a b c d e f=>cases z
 |len x=>exact PS.bq (fun _=>PS.fy (fun _ _ _ _ _=>PS.ok) PS.ok PS.err) PS.err
 |um x=>exact PS.bq (fun _=>PS.kT (fun _ _=>PS.ok) PS.err) PS.err
 |app a b c x y=>cases z
 |xC a x y=>cases z
 |copy a b c=>cases z
 |xD a b c=>exact PS.bq (fun _=>PS.fG (fun _ _=>PS.ob (fun _=>PS.ob (fun _=>PS.ok) PS.err) PS.err) PS.err) PS.err
 |conv k x=>exact PS.bq (fun _=>PS.fG (fun _ _=>PS.mb fun _=>PS.ok) PS.err) PS.err
 |xE x=>cases z
 |call f l=>cases z
 |sk x l=>cases z
theorem pure_reads{E:Env}{o:br}(z:mV o=true):o.reads E=some []:=by
 cases o<;>first|rfl|cases z
inductive kg(ops:Array Oper):Nat→Nat→Prop
 |Ox {j:Nat} {o:Oper} {e:Edge}:ops[j]?=some o→e∈o.after→Region.binds .any e=true→kg ops e.on j
 |step {i k j:Nat}:kg ops i k→kg ops k j→kg ops i j
def LQ(ops:Array Oper)(S:Nat→Bool):Prop:=∀j o e,ops[j]?=some o→e∈o.after→Region.binds .any e=true→S j=true→S e.on=true
def Ug(ops:Array Oper)(S:Nat→Bool)(j:Nat):Prop:=∀o e,ops[j]?=some o→e∈o.after→Region.binds .any e=true→S e.on=true
theorem kg.closed{ops:Array Oper}{S:Nat→Bool}(G:LQ ops S){i j:Nat}(h:kg ops i j):S j=true→S i=true:=by
 induction h with
 |Ox I h2 L=>exact fun h=>G _ _ _ I h2 L h
 |step _ _ z A=>exact fun h=>z (A h)
theorem kg.ready{ops:Array Oper}{S:Nat→Bool}(G:LQ ops S){i j:Nat}(h:kg ops i j):Ug ops S j→S i=true:=by
 induction h with
 |Ox z h2 I=>exact fun h=>h _ _ z h2 I
 |step z _ _ A=>exact fun h=>z.closed G (A h)
def E4(ms:List Nat):List Edge→Nat
 |[]=>0
 |e::r=>if Region.binds .any e=true then 2^e.on|||ms.getD e.on 0|||E4 ms r else E4 ms r
def CE:List Oper→List Nat→List Nat
 |[],ms=>ms
 |o::r,ms=>CE r (ms++[E4 ms o.after.toList])
def KV:Nat→List Oper→Bool
 |_,[]=>true
 |k,o::r=>(o.after.toList.all fun e=>!Region.binds .any e||decide (e.on<k))&&KV (k+1) r
theorem adX{ops:Array Oper}{ms:List Nat}(z:∀j i,(ms.getD j 0).testBit i=true→kg ops i j){j:Nat}{o:Oper}(ho:ops[j]?=some o):
  ∀(l:List Edge),(∀e,e∈l→e∈o.after)→∀i,(E4 ms l).testBit i=true→kg ops i j
 |[],_,i,h=>by simp[E4] at h
 |e::r,A,i,h=>by
  have G:=adX z ho r (fun e L=>A e (oV _ L)) i;unfold E4 at h
  split at h
  ·rename_i I;rw[Nat.testBit_or,Nat.testBit_or] at h;simp only[oW] at h;rcases h with(h|h)|h
   ·rw[Nat.testBit_two_pow] at h;have:e.on=i:=by simpa using h
    subst this;exact .Ox ho (A e (jo ..)) I
   ·exact .step (z _ _ h) (.Ox ho (A e (jo ..)) I)
   exact G h
  exact G h
theorem YW{ops:Array Oper}:∀(l:List Oper)(ms:List Nat),(∀n,l[n]?=ops[ms.length+n]?)→(∀j i,(ms.getD j 0).testBit i=true→kg ops i j)→
  ∀j i,((CE l ms).getD j 0).testBit i=true→kg ops i j
 |[],ms,_,h=>h
 |o::r,ms,G,h=>by
  refine YW r _ (fun n=>?_) fun j i z=>?_
  ·have:=G (n+1);simp only[NJ] at this;rw[this];simp only[e7,gB,jQ];congr 1;omega
  have ho:ops[ms.length]?=some o:=by have:=G 0;simpa using this.symm
  rcases Vm j ms.length with A|rfl|I
  ·rw[Mu,sA A,←Mu] at z;exact h j i z
  ·rw[Mu,rl (bd _)] at z;simp only[Nat.sub_self,Mv,TY] at z;exact adX h ho _ (fun e L=>by simpa using L) i z
  rw[Mu,yB (by simp;omega)] at z;simp at z
theorem Za:∀(l:List Oper)(k:Nat),KV k l=true→∀n o e,l[n]?=some o→e∈o.after→Region.binds .any e=true→e.on<k+n
 |[],_,_,n,o,e,h,_,_=>by simp at h
 |x::r,k,h,n,o,e,z,A,G=>by
  unfold KV at h;simp only[cU,uf] at h
  cases n with
  |zero=>
   simp at z;subst z;have:=h.1 e (by simpa using A);simpa[G] using this
  |succ n=>
   have:=Za r (k+1) h.2 n o e (by simpa using z) A G;omega
def slotOf:aG→Option Key
 |.t n=>some n
 |_=>none
def vq(o:bl):List Key:=o.op.dg.filterMap slotOf++(match o.g with|some (t,_)=>[t]|none=>[])
def HR(d:Option Key)(l:List Key):Bool:=match d with|some d=>!(l.contains d)|none=>true
def Sw(x y:bl):Bool:=HR x.dst (vq y)&&HR x.dst y.dst.toList&&HR y.dst (vq x)
def adY(ms:List Nat)(l:List bl):Bool:=
 (List.range l.length).all fun j=>(List.range j).all fun i=>(ms.getD j 0).testBit i||(match l[i]?,l[j]?with|some x,some y=>Sw x y|_,_=>false)
theorem Q4{d:Option Key}{l:List Key}(h:HR d l=true):∀t,t∈l→d≠some t:=by
 intro t z A;subst A;simp[HR] at h;exact h z
structure Sx(x y:bl):Prop where
 xy:∀t,t∈vq y→x.dst≠some t
 dd:∀t,y.dst=some t→x.dst≠some t
 yx:∀t,t∈vq x→y.dst≠some t
theorem apartI_ok{x y:bl}(h:Sw x y=true):Sx x y:=by
 unfold Sw at h;simp only[cU] at h;exact⟨Q4 h.1.1,fun t z=>Q4 h.1.2 t (by simp[z]),Q4 h.2⟩
theorem tmpsOk_ok{ms:List Nat}{l:List bl}(h:adY ms l=true){i j:Nat}{x y:bl}(A:i<j)(I:l[i]?=some x)(G:l[j]?=some y):(ms.getD j 0).testBit i=true∨Sx x y:=by
 have L:j<l.length:=(List.getElem?_eq_some_iff.1 G).1;have z:=List.all_eq_true.1 (List.all_eq_true.1 h j (List.mem_range.2 L)) i (List.mem_range.2 A);rw[I,G] at z;rcases oW _ _|>.mp z with z|z
 ·exact .inl z
 exact .inr (apartI_ok z)
theorem ZY{E E':Env}{o:bl}(h:∀t,t∈vq o→E.get t=E'.get t):∀x∈o.op.dg,x.ev E=x.ev E':=by
 intro x z
 cases x with
 |t n=>exact h n (Vt _ (List.mem_filterMap.2 ⟨.t n,z,rfl⟩))
 |c v=>rfl
theorem looks_wants{E E':Env}{o:bl}(h:∀t,t∈vq o→E.get t=E'.get t){b:Bool}(z:nd E o.g b):nd E' o.g b:=by
 generalize A:o.g=g at z
 cases z with
 |none=>exact .none
 |slot k=>
  rename_i t want b;refine .slot ?_;rw[←h t (NM _ (by rw[A];simp))];exact k
 |off k=>
  rename_i t want;refine .off ?_;rw[←h t (NM _ (by rw[A];simp))];exact k
def CF(m:Nat):Nat→List Nat→List Nat
 |_,[]=>[]
 |k,j::r=>if m.testBit j then CF m (k+1) r else k::CF m (k+1) r
def pF(ms:List Nat):Nat→List Nat→List bl→List bl
 |_,_,[]=>[]
 |i,seen,o::r=>if mV o.op then{o with q:=none}::pF ms (i+1) seen r else{o with q:=some (CF (ms.getD i 0) 0 seen)}::pF ms (i+1) (i::seen) r
def seenAt(L:List bl):Nat→List Nat
 |0=>[]
 |n+1=>match L[n]?with
  |some o=>if mV o.op then seenAt L n else n::seenAt L n
  |none=>seenAt L n
theorem YX{m j:Nat}(z:m.testBit j=false):∀(seen:List Nat)(k n:Nat),seen[n]?=some j→k+n∈CF m k seen
 |[],_,_,h=>by simp at h
 |x::r,k,n,h=>by
  unfold CF
  cases n with
  |zero=>simp at h;subst h;rw[aX (by simp[z])];exact jo ..
  |succ n=>
   have:=YX z r (k+1) n (by simpa using h);rw[show k+(n+1)=k+1+n by omega]
   split
   ·exact this
   exact oV _ this
theorem FH{ms:List Nat}{L:List bl}:∀(l:List bl)(i:Nat),(∀n,l[n]?=L[i+n]?)→∀n io,(pF ms i (seenAt L i) l)[n]?=some io→
  ∃z,L[i+n]?=some z∧io.dst=z.dst∧io.g=z.g∧io.op=z.op∧io.q=if mV z.op then none else some (CF (ms.getD (i+n) 0) 0 (seenAt L (i+n)))
 |[],i,_,n,io,h=>by simp[pF] at h
 |o::r,i,G,n,io,h=>by
  have h0:L[i]?=some o:=by have:=G 0;simpa using this.symm
  have I:∀n,r[n]?=L[i+1+n]?:=fun n=>by have:=G (n+1);rw[show i+1+n=i+(n+1) by omega];simpa using this
  have M:=FH (ms:=ms) r (i+1) I;have O:seenAt L (i+1)=if mV o.op then seenAt L i else i::seenAt L i:=by simp only[seenAt,h0]
  unfold pF at h
  cases n with
  |zero=>
   refine⟨o,h0,?_⟩
   split at h
   ·rename_i A;simp at h;subst h;exact⟨rfl,rfl,rfl,by rw[bg A]⟩
   rename_i A;simp at h;subst h;exact⟨rfl,rfl,rfl,by rw[aX A];rfl⟩
  |succ n=>
   rw[show i+(n+1)=i+1+n by omega];refine M n io ?_;rw[O]
   split at h
   ·rename_i A;rw[bg A];simpa using h
   rename_i A;rw[aX A];simpa using h
theorem YY{ms:List Nat}:∀(l:List bl)(i:Nat)(s:List Nat),(pF ms i s l).length=l.length
 |[],_,_=>rfl
 |o::r,i,s=>by
  unfold pF
  split<;>simp[YY r]
theorem Zs{L:List bl}{i:Nat}{o:bl}(h:L[i]?=some o)(A:mV o.op=false):∀n,i<n→i∈seenAt L n
 |0,h=>by omega
 |n+1,G=>by
  unfold seenAt;rcases Mw (Nat.le_of_lt_succ G) with z|rfl
  ·have:=Zs h A n z
   split
   ·split
    ·exact this
    exact oV _ this
   exact this
  simp[h,A]
end Go.Ev
