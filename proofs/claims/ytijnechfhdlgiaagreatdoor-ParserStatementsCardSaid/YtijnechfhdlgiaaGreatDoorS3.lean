/- Part 3 of rules for walks through the code of a program, and of such walks; what each part proves is said by its theorems. -/
import Derived.Test.YtijnechfhdlgiaaGreatDoorS2
import Derived.Laws.Strings
set_option linter.unusedVariables false
set_option linter.unusedSimpArgs false
noncomputable section
set_option maxRecDepth 100000
set_option maxHeartbeats 4000000
namespace Go.Ev
section
variable{P:Program}{ρ:Ho}{nt:Nat}{E:Env}{a:Act}{C:Nat→Option et}{w:World}{H H':aE}{v:ax}{o:Oper}
theorem hM{cv:Value}(h:(execOp a.eval o).run P w= .ok (.value cv) w)(z:R ρ C w)(A:VR ρ v cv):fP P o a w (ez ρ C w H v H):=
 .inl ⟨cv,w,h,ez.pure z A⟩
theorem LB(z:AR P ρ nt E a)(A:R ρ C w){x:Operand}{y:aI}(ho:o.op= .move x∨o.op= .assign x)(G:dH P x=some y)
  (h:mG y E H= .ok v H'):fP P o a w (ez ρ C w H v H'):=by
 replace h:=fS h;obtain⟨u,I,h⟩:=h
 cases h
 exact hM (by rcases ho with ho|ho<;>simp[execOp,ho]) A (z.ch G I)
theorem S2(I:AR P ρ nt E a)(O:R ρ C w){c x z:Operand}{U J K:aI}(ho:o.op= .pick c x z)(Y:dH P c=some U)(Z:dH P x=some J)(hz:dH P z=some K)
  (h:B0 U J K E H= .ok v H'):fP P o a w (ez ρ C w H v H'):=by
 replace h:=fS h;obtain⟨u,hu,h⟩:=h
 replace h:=TH h;obtain⟨b,rfl,h⟩:=h
 have A:=I.ch Y hu
 simp only[VR] at A
 cases b with
 |true=>
  obtain⟨u2,G,h⟩:=fS (show bI J E (.err 1) (fun v=>.ok v H)= .ok v H' from h)
  cases h
  exact hM (by simp[execOp,ho,A,asBool]) O (I.ch Z G)
 |false=>
  obtain⟨u2,G,h⟩:=fS (show bI K E (.err 1) (fun v=>.ok v H)= .ok v H' from h)
  cases h
  exact hM (by simp[execOp,ho,A,asBool]) O (I.ch hz G)
theorem Sd(op:BinOp)(t:TypeId)(x y:Operand)(k z:IntKind)(m n:Int):(eqGuard op t x y (.int k m) (.int z n)).run P w= .ok () w:=by
 unfold eqGuard
 cases op<;>simp
theorem Se(op:BinOp)(t:TypeId)(x y:Operand)(k z:ByteArray):(eqGuard op t x y (.string k) (.string z)).run P w= .ok () w:=by
 unfold eqGuard
 cases op<;>simp
theorem AU{op:BinOp}{k:IntKind}{m n r:Int}(h:intBits op k m n=some r):(Op.intBits op k m n).run P w= .ok (.int k r) w:=by
 unfold intBits at h
 unfold Op.intBits
 cases op<;>simp_all
theorem nK{k z:IntKind}{r:Option ax}{u:ax}(h:aJ (Nat.beq (dO k) (dO z)) r none=some u):k=z∧r=some u:=by
 rw[r4] at h
 split at h
 ·rename_i hk
  exact⟨Ef hk,h⟩
 cases h
theorem EK{b:Bool}{r:Option ax}{u:ax}(h:aJ b none r=some u):b=false∧r=some u:=by
 cases b
 ·exact⟨rfl,h⟩
 cases h
theorem yG{α β:Type}{x:Option α}{k:α→Option β}{u:β}(h:ob x none k=some u):∃y,x=some y∧k y=some u:=by
 cases x with
 |none=>cases h
 |some y=>exact⟨y,rfl,h⟩
theorem TJ{op:BinOp}{k I:IntKind}{m n:Int}{u:ax}(t:TypeId)(h:jr op k m I n=some u):
  ∃cv,(binOp op t (.int k m) (.int I n)).run P w= .ok cv w∧VR ρ u cv:=by
 cases op with
 |shl=>
  simp only[jr] at h
  obtain⟨A,h⟩:=EK h
  rw[pG,f6] at A
  cases h
  refine⟨.int k (k.wrap (m*2^(min n.toNat k.bits))),?_,by simp only[VR,nJ]⟩
  simp only[binOp,Op.shift,al A]
  rfl
 |shr=>
  simp only[jr] at h
  obtain⟨A,h⟩:=EK h
  rw[pG,f6] at A
  cases h
  refine⟨.int k (m.fdiv (2^(min n.toNat k.bits))),?_,by simp only[VR]⟩
  simp only[binOp,Op.shift,al A]
  rfl
 |quo=>
  simp only[jr] at h
  have z:=nK h;clear h;obtain⟨rfl,h⟩:=z
  obtain⟨A,h⟩:=EK h
  rw[ve,f6] at A
  cases h
  exact⟨.int k (k.wrap (m.tdiv n)),by simp[binOp,Op.intDiv,A],by simp only[VR,nJ]⟩
 |rem=>
  simp only[jr] at h
  have z:=nK h;clear h;obtain⟨rfl,h⟩:=z
  obtain⟨A,h⟩:=EK h
  rw[ve,f6] at A
  cases h
  exact⟨.int k (m.tmod n),by simp[binOp,Op.intDiv,A],by simp only[VR]⟩
 |and=>
  simp only[jr] at h
  have z:=nK h;clear h;obtain⟨rfl,h⟩:=z
  obtain⟨r,G,h⟩:=yG h
  cases h
  exact⟨_,by simp only[binOp,ne_eq,not_true_eq_false,if_false];exact AU G,by simp only[VR]⟩
 |or=>
  simp only[jr] at h
  have z:=nK h;clear h;obtain⟨rfl,h⟩:=z
  obtain⟨r,G,h⟩:=yG h
  cases h
  exact⟨_,by simp only[binOp,ne_eq,not_true_eq_false,if_false];exact AU G,by simp only[VR]⟩
 |xor=>
  simp only[jr] at h
  have z:=nK h;clear h;obtain⟨rfl,h⟩:=z
  obtain⟨r,G,h⟩:=yG h
  cases h
  exact⟨_,by simp only[binOp,ne_eq,not_true_eq_false,if_false];exact AU G,by simp only[VR]⟩
 |andNot=>
  simp only[jr] at h
  have z:=nK h;clear h;obtain⟨rfl,h⟩:=z
  obtain⟨r,G,h⟩:=yG h
  cases h
  exact⟨_,by simp only[binOp,ne_eq,not_true_eq_false,if_false];exact AU G,by simp only[VR]⟩
 |add=>
  simp only[jr] at h
  have z:=nK h;clear h;obtain⟨rfl,h⟩:=z
  cases h
  exact⟨.int k (k.wrap (m+n)),by simp[binOp,Op.intArith],by simp only[VR,nJ]⟩
 |sub=>
  simp only[jr] at h
  have z:=nK h;clear h;obtain⟨rfl,h⟩:=z
  cases h
  exact⟨.int k (k.wrap (m-n)),by simp[binOp,Op.intArith],by simp only[VR,nJ]⟩
 |mul=>
  simp only[jr] at h
  have z:=nK h;clear h;obtain⟨rfl,h⟩:=z
  cases h
  exact⟨.int k (k.wrap (m*n)),by simp[binOp,Op.intArith],by simp only[VR,nJ]⟩
 |eql=>
  simp only[jr] at h
  have z:=nK h;clear h;obtain⟨rfl,h⟩:=z
  cases h
  exact⟨.bool (m==n),by simp[binOp,Op.intCmp],by simp only[VR,ve];rfl⟩
 |neq=>
  simp only[jr] at h
  have z:=nK h;clear h;obtain⟨rfl,h⟩:=z
  cases h
  exact⟨.bool (m !=n),by simp[binOp,Op.intCmp],by simp only[VR,ve];rfl⟩
 |lss=>
  simp only[jr] at h
  have z:=nK h;clear h;obtain⟨rfl,h⟩:=z
  cases h
  exact⟨.bool (decide (m<n)),by simp[binOp,Op.intCmp],by simp only[VR,pG]⟩
 |gtr=>
  simp only[jr] at h
  have z:=nK h;clear h;obtain⟨rfl,h⟩:=z
  cases h
  exact⟨.bool (decide (m>n)),by simp[binOp,Op.intCmp],by simp only[VR,pG]⟩
 |leq=>
  simp only[jr] at h
  have z:=nK h;clear h;obtain⟨rfl,h⟩:=z
  cases h
  refine⟨.bool (decide (m≤n)),by simp[binOp,Op.intCmp],?_⟩
  simp only[VR,pG,Value.bool.injEq]
  rw[gE]
  simp
 |geq=>
  simp only[jr] at h
  have z:=nK h;clear h;obtain⟨rfl,h⟩:=z
  cases h
  refine⟨.bool (decide (m≥n)),by simp[binOp,Op.intCmp],?_⟩
  simp only[VR,pG,Value.bool.injEq]
  rw[gE]
  simp
theorem GU:∀(a b:List UInt8),(!(Op.bytesLess a b||a==b))=Op.bytesLess b a
 |[],[]=>rfl
 |[],_::_=>rfl
 |_::_,[]=>rfl
 |x::r,y::s=>by
  simp only[Op.bytesLess,List.cons_beq_cons]
  rw[←GU r s]
  rcases Jb x.toNat y.toNat with h|h|h
  ·have A:x<y:=UInt8.lt_iff_toNat_lt.2 h
   have h2:¬y<x:=by rw[Ct];omega
   have z:x≠y:=fun e=>by subst e;omega
   have G:y≠x:=fun e=>z e.symm
   simp[A,h2,z,G]
  ·have h0:x=y:=UInt8.toNat_inj.1 h
   subst h0
   have h2:¬x<x:=by rw[Ct];omega
   simp[h2]
  have A:y<x:=UInt8.lt_iff_toNat_lt.2 h
  have h2:¬x<y:=by rw[Ct];omega
  have z:x≠y:=fun e=>by subst e;omega
  have G:y≠x:=fun e=>z e.symm
  simp[A,h2,z,G]
theorem TK{op:BinOp}{s t:ByteArray}{u:ax}(ty:TypeId)(h:Ii op s.size (pack s.data.toList) t.size (pack t.data.toList)=some u):
  ∃cv,(binOp op ty (.string s) (.string t)).run P w= .ok cv w∧VR ρ u cv:=by
 have G:s.size=s.data.toList.length:=by rw[nW];rfl
 have I:t.size=t.data.toList.length:=by rw[nW];rfl
 have z:s.toList=s.data.toList:=ByteArray.toList_eq s
 have ew:t.toList=t.data.toList:=ByteArray.toList_eq t
 unfold Ii at h
 cases op<;>simp only[reduceCtorEq] at h
 case add=>
  rw[r4] at h
  split at h
  ·rename_i A
   have A:=b0 A
   cases h
   refine⟨.string (s++t),?_,?_⟩
   ·have J:¬(IntKind.i64.max<((s.size+t.size:Nat):Int)):=by
     have:IntKind.i64.max=9223372036854775807:=rfl
     rw[this]
     have:s.size+t.size≤4611686018427387904:=A
     omega
    simp only[binOp,Op.stringOp]
    rw[al (by simpa using J)]
    rfl
   simp only[VR]
   refine⟨s++t,rfl,by simp,?_⟩
   have e:(s++t).data.toList=s.data.toList++t.data.toList:=by simp
   rw[e,←Dx,G]
  cases h
 all_goals
  cases h
  rw[G,I]
  simp only[DD,Lc]
 case eql=>exact⟨.bool (s.data.toList==t.data.toList),by simp[binOp,Op.stringOp,z,ew],by simp only[VR,Value.bool.injEq];rw[gE];simp⟩
 case neq=>exact⟨.bool (!(s.data.toList==t.data.toList)),by simp[binOp,Op.stringOp,z,ew],by simp only[VR,Value.bool.injEq];rw[gE];simp⟩
 case lss=>exact⟨.bool (Op.bytesLess s.data.toList t.data.toList),by simp[binOp,Op.stringOp,z,ew],by simp only[VR]⟩
 case geq=>exact⟨.bool (!Op.bytesLess s.data.toList t.data.toList),by simp[binOp,Op.stringOp,z,ew],by simp only[VR]⟩
 case gtr=>
  refine⟨.bool (!(Op.bytesLess s.data.toList t.data.toList||s.data.toList==t.data.toList)),by simp[binOp,Op.stringOp,z,ew],?_⟩
  simp only[VR,Value.bool.injEq]
  exact GU _ _
 case leq=>
  refine⟨.bool (Op.bytesLess s.data.toList t.data.toList||s.data.toList==t.data.toList),by simp[binOp,Op.stringOp,z,ew],?_⟩
  simp only[VR,Value.bool.injEq]
  have:=GU s.data.toList t.data.toList
  rw[←this,Bool.not_not]
theorem LC(O:AR P ρ nt E a)(U:R ρ C w){op:BinOp}{t t':TypeId}{x z:Operand}{Y Z:aI}(ho:o.op= .binOp op t x z t')(hx:dH P x=some Y)(hz:dH P z=some Z)
  (h:CA op Y Z E H= .ok v H'):fP P o a w (ez ρ C w H v H'):=by
 replace h:=fS h;obtain⟨u,hu,h⟩:=h
 replace h:=fS h;obtain⟨u2,I,h⟩:=h
 rw[Ee] at h
 replace h:=jP h;obtain⟨r,A,h⟩:=h
 rw[uJ] at h
 cases h
 have G:=O.ch hx hu
 have h2:=O.ch hz I
 unfold Cy at A
 split at A
 ·simp only[VR] at G h2
  obtain⟨cv,J,K⟩:=TJ (P:=P) (ρ:=ρ) (w:=w) t A
  exact hM (by simp[execOp,ho,G,h2,Sd,J]) U K
 ·simp only[VR] at G h2
  obtain⟨s1,e1,rfl,rfl⟩:=G
  obtain⟨s2,e2,rfl,rfl⟩:=h2
  obtain⟨cv,J,K⟩:=TK (P:=P) (ρ:=ρ) (w:=w) t A
  exact hM (by simp[execOp,ho,e1,e2,Se,J]) U K
 cases A
theorem Ux(K:AR P ρ nt E a)(G:R ρ C w){op:UnOp}{t:TypeId}{x:Operand}{J:aI}(ho:o.op= .unOp op t x)(O:dH P x=some J)
  (h:CV op J E H= .ok v H'):fP P o a w (ez ρ C w H v H'):=by
 replace h:=fS h;obtain⟨u,U,h⟩:=h
 replace h:=jP h;obtain⟨r,z,h⟩:=h
 rw[uJ] at h
 cases h
 have A:=K.ch O U
 unfold Gt at z
 split at z
 ·rename_i k n
  simp only[VR] at A
  cases z
  exact hM (cv:=.int k (IntKind.wrap k (0-n))) (by simp[execOp,ho,A,Op.unary,Op.intArith]) G (by simp only[VR,nJ])
 ·simp only[VR] at A
  obtain⟨Y,I,z⟩:=yG z
  cases z
  exact hM (by simp only[execOp,ho,A,Op.unary,Sem.run_bind,AU I,Result.andThen_ok];rfl) G (by simp only[VR])
 ·simp only[VR] at A
  cases z
  exact hM (by simp[execOp,ho,A,Op.unary];rfl) G (by simp only[VR])
 cases z
theorem S3(K:AR P ρ nt E a)(O:R ρ C w){s:TypeId}{x:Operand}{f:Nat}{I:aI}{J:Array Field}{z:Field}{i:TypeInfo}(ho:o.op= .fieldAddr s x f)(U:dH P x=some I)
  (Y:P.underlying s=some (.struct J)) (Z:J[f]?=some z) (hi:P.info? z.type=some i) (h0:i.size≠0) (h:B2 I z.offset E H= .ok v H'):fP P o a w (ez ρ C w H v H'):=by
 replace h:=fS h;obtain⟨u,hu,h⟩:=h
 replace h:=wH h;obtain⟨f1,g1,o1,rfl,h⟩:=h
 rw[iG] at h
 cases h
 have A:=K.ch U hu
 simp only[VR] at A
 obtain⟨G,hh,A⟩:=A
 refine hM (cv:=.pointer (some ⟨G.ct,G.off+(o1+z.offset),none⟩)) ?_ O ?_
 ·simp[execOp,ho,A,Instr.fieldAt,run_underlying Y,Z,Instr.sureAddr,fieldPlace,sizeOf,typeInfo,hi,h0,Addr.add_lit,nx]
 simp only[VR]
 exact⟨G,hh,rfl⟩
theorem S4(J:AR P ρ nt E a)(K:R ρ C w){x:Operand}{i:Nat}{I:aI}(ho:o.op= .extract x i)(O:dH P x=some I)
  (h:B4 I i E H= .ok v H'):fP P o a w (ez ρ C w H v H'):=by
 replace h:=fS h;obtain⟨u,U,h⟩:=h
 replace h:=S1 h;obtain⟨l,rfl,h⟩:=h
 replace h:=jP h;obtain⟨r,Y,h⟩:=h
 cases h
 have z:=J.ch O U
 simp only[VR] at z
 obtain⟨vs,z,A⟩:=z
 obtain⟨y,Z,A⟩:=A.get i _ Y
 have G:vs[i]?=some y:=by simpa using Z
 exact hM (by simp[execOp,ho,z,Instr.extract,G]) K A
theorem SC(I:AR P ρ nt E a)(A:R ρ C w){x:Operand}{G:aI}(ho:o.op= .nilCheck x)(J:dH P x=some G)
  (h:BF G E H= .ok v H'):fP P o a w (ez ρ C w H v H'):=by
 replace h:=fS h;obtain⟨u,K,h⟩:=h
 replace h:=gp h;obtain⟨O,h⟩:=h
 cases h
 have z:=I.ch J K
 cases v<;>simp only[yl,qN] at O
 ·have h2:=z
  simp only[VR] at z
  obtain⟨U,_,z⟩:=z
  exact hM (by simp[execOp,ho,z];rfl) A (by rw[←z];exact h2)
 have h2:=z
 simp only[VR] at z
 obtain⟨_,vs,z,_⟩:=z
 exact hM (by simp[execOp,ho,z];rfl) A (by rw[←z];exact h2)
theorem S5(I:AR P ρ nt E a)(J:R ρ C w){f:Nat}{first ff:Array Operand}{z A:List aI}(ho:o.op= .makeFunc (.func f) first ff)(K:lS P first.toList=some z)(O:lS P ff.toList=some A)
  (h:B5 f z A E H= .ok v H'):fP P o a w (ez ρ C w H v H'):=by
 replace h:=jP h;obtain⟨Z,G,h⟩:=h
 replace h:=jP h;obtain⟨vs,U,h⟩:=h
 cases h
 have h0:=I.dX K G
 have Y:=I.dX O U
 refine hM (cv:=.func (.func f) (first.map a.eval) (ff.map a.eval)) (by simp[execOp,ho,Instr.makeFunc]) J ?_
 simp only[VR]
 exact⟨_,_,rfl,by simpa using h0,by simpa using Y⟩
theorem S7(A:AR P ρ nt E a)(G:R ρ C w){t:TypeId}{x:Operand}{z:aI}{d:TypeDesc}(ho:o.op= .makeInterface t x)(I:P.underlying t=some d)(J:∀ms,d≠.interface ms)(K:dH P x=some z)
  (h:B6 t z E H= .ok v H'):fP P o a w (ez ρ C w H v H'):=by
 replace h:=fS h;obtain⟨u,O,h⟩:=h
 cases h
 have U:=A.ch K O
 refine hM (cv:=.iface t (a.eval x)) ?_ G ?_
 ·cases d<;>first|exact absurd rfl (J _)|simp[execOp,ho,Instr.makeInterface,run_underlying I]
 simp only[VR]
 exact⟨_,rfl,U⟩
end
section
variable{P:Program}{ρ:Ho}{nt:Nat}{E:Env}{a:Act}{C:Nat→Option et}{w:World}{H H':aE}{v:ax}{o:Oper}
theorem uQ{t:TypeId}{n:Nat}(h:j8 P t=some n):∃i d,P.info? t=some i∧P.underlying t=some d∧i.size=n∧n≠0:=by
 unfold j8 at h
 split at h
 ·rename_i i d hi z
  split at h
  ·rename_i A
   cases h
   exact⟨i,d,hi,z,rfl,A⟩
  cases h
 cases h
theorem uK{t:TypeId}{n:Nat}(h:j8 P t=some n)(w:World):(sizeOf t).run P w= .ok n w:=by
 obtain⟨i,d,hi,_,e,_⟩:=uQ h
 simp[sizeOf,typeInfo,hi,e]
theorem G8{t:TypeId}{n:Nat}(h:j8 P t=some n)(w:World):(isAgg t).run P w= .ok (qu P t) w:=by
 obtain⟨i,d,_,z,_,_⟩:=uQ h
 unfold isAgg qu
 rw[z]
 cases d<;>simp[run_underlying z]
theorem M8{t:TypeId}{n off e:Nat}{l:List ax}{cs:Array Value}(U:j8 P t=some n)(Y:cP ρ l cs.toList)(A:l.all iB=true)(hle:off+n≤l.length)
  (h:jf (qu P t) ((l.drop off).take n) (.err e) (fun v=>.ok v H)= .ok v H'):H'=H∧∃cv,(part t cs off).run P w= .ok cv w∧VR ρ v cv:=by
 replace h:=HR h
 have I:=uK U w
 have z:=G8 U w
 rcases h with⟨J,h⟩|⟨x,J,Z,h⟩
 ·cases h
  refine⟨rfl,.agg (cs.extract off (off+n)),?_,?_⟩
  ·rw[J] at z
   simp[part,z,I]
  simp only[VR]
  refine⟨_,rfl,?_,?_⟩
  ·have e1:(cs.extract off (off+n)).toList=(cs.toList.drop off).take n:=by
    rw[Jc,P9,show off+n-off=n by omega]
   rw[e1]
   exact(Y.drop off).take n
  rw[FR] at A⊢
  exact fun x K=>A x (FU (Cu K))
 cases h
 have K:l[off]?=some v:=by
  have G:((l.drop off).take n)[0]?=some v:=by rw[Z];rfl
  rw[CS] at G
  split at G
  ·rw[tR] at G
   simpa using G
  cases G
 obtain⟨y,hy,k⟩:=Y.get off v K
 have O:cs[off]?=some y:=by simpa using hy
 refine⟨rfl,y,?_,k⟩
 rw[J] at z
 simp[part,z,O]
theorem TL(U:AR P ρ nt E a)(Y:R ρ C w){s:TypeId}{x:Operand}{f n:Nat}{K:aI}{O:Array Field}{z:Field}(ho:o.op= .field s x f)(Z:dH P x=some K)
  (hs:P.underlying s=some (.struct O)) (hf:O[f]?=some z) (hn:j8 P z.type=some n) (h:CB K z.offset n (qu P z.type) E H= .ok v H'):fP P o a w (ez ρ C w H v H'):=by
 replace h:=fS h;obtain⟨u,hu,h⟩:=h
 replace h:=Mn h;obtain⟨l,rfl,h⟩:=h
 replace h:=gp h;obtain⟨A,h⟩:=h
 rw[pA] at A
 have A:=b0 A
 have G:=U.ch Z hu
 simp only[VR] at G
 obtain⟨vs,G,hv,I⟩:=G
 obtain⟨rfl,cv,hc,J⟩:=M8 (P:=P) (ρ:=ρ) (w:=w) hn hv I A h
 exact hM (by simp[execOp,ho,G,Instr.field,run_underlying hs,hf,asAgg,hc]) Y J
theorem Sp(J:AR P ρ nt E a)(U:R ρ C w){t e:TypeId}{x i:Operand}{K O:aI}{k n:Nat}(ho:o.op= .indexAddr t x i)(Y:dH P x=some K)(hi:dH P i=some O)
  (Z:P.underlying t=some (.array k e)) (hn:j8 P e=some n) (h:Bd k n K O E H= .ok v H'):fP P o a w (ez ρ C w H v H'):=by
 replace h:=fS h;obtain⟨u,hu,h⟩:=h
 replace h:=wH h;obtain⟨f1,g1,o1,rfl,h⟩:=h
 replace h:=fS h;obtain⟨u2,A,h⟩:=h
 replace h:=EH h;obtain⟨kd,j,rfl,hj,h⟩:=h
 rw[iG] at h
 cases h
 have z:=J.ch Y hu
 have h2:=J.ch hi A
 simp only[VR] at z h2
 obtain⟨G,hh,z⟩:=z
 have I:(j:Int)<(k:Int):=by omega
 refine hM (cv:=.pointer (some ⟨G.ct,G.off+(o1+j*n),none⟩)) ?_ U ?_
 ·simp[execOp,ho,z,h2,Instr.indexAt,run_underlying Z,asIntOf,Instr.sureAddr,uK hn,Addr.add_lit,nx,I,hj]
 simp only[VR]
 exact⟨G,hh,rfl⟩
theorem SD(J:AR P ρ nt E a)(Y:R ρ C w){t e:TypeId}{x i:Operand}{K O:aI}{n:Nat}(ho:o.op= .indexAddr t x i)(Z:dH P x=some K)(hi:dH P i=some O)
  (ht:P.underlying t=some (.slice e)) (hn:j8 P e=some n) (h:BD n K O E H= .ok v H'):fP P o a w (ez ρ C w H v H'):=by
 replace h:=fS h;obtain⟨u,hu,h⟩:=h
 replace h:=xT h
 rcases h with⟨_,h⟩|⟨f1,g1,o1,l1,es,rfl,h⟩
 ·cases h
 replace h:=fS h;obtain⟨u2,A,h⟩:=h
 replace h:=EH h;obtain⟨kd,j,rfl,hj,h⟩:=h
 rw[iG] at h
 cases h
 have z:=J.ch Z hu
 have h2:=J.ch hi A
 simp only[VR] at z h2
 obtain⟨G,ad,cap,hh,z,wb,U⟩:=z
 rcases U with⟨rfl,U⟩|⟨hz,_⟩
 ·have I:(j:Int)<(l1:Int):=by omega
  refine hM (cv:=.pointer (some ⟨G.ct,G.off+(o1+j*n),none⟩)) ?_ Y ?_
  ·simp[execOp,ho,z,h2,Instr.indexAt,run_underlying ht,asIntOf,Instr.sureAddr,uK hn,Addr.add_lit,nx,I,hj]
  simp only[VR]
  exact⟨G,hh,rfl⟩
 omega
theorem Sq(U:AR P ρ nt E a)(hR:R ρ C w){t e:TypeId}{x i:Operand}{Y Z:aI}{k n:Nat}(ho:o.op= .index t x i)(hx:dH P x=some Y)(hi:dH P i=some Z)
  (ht:P.underlying t=some (.array k e)) (hn:j8 P e=some n) (h:Be k n (qu P e) Y Z E H= .ok v H'):fP P o a w (ez ρ C w H v H'):=by
 replace h:=fS h;obtain⟨u,hu,h⟩:=h
 replace h:=Mn h;obtain⟨l,rfl,h⟩:=h
 replace h:=fS h;obtain⟨u2,G,h⟩:=h
 replace h:=EH h;obtain⟨kd,j,rfl,hj,h⟩:=h
 replace h:=gp h;obtain⟨z,h⟩:=h
 rw[pA] at z
 have z:=b0 z
 have A:=U.ch hx hu
 have h2:=U.ch hi G
 simp only[VR] at A h2
 obtain⟨vs,A,hv,I⟩:=A
 have J:(j:Int)<(k:Int):=by omega
 obtain⟨rfl,cv,hc,K⟩:=M8 (P:=P) (ρ:=ρ) (w:=w) hn hv I z h
 have O:(part e vs (j*n)).run P w= .ok cv w:=hc
 exact hM (by simp[execOp,ho,A,h2,Instr.index,asIntOf,run_underlying ht,uK hn,J,hj,O]) hR K
theorem Sr(I:AR P ρ nt E a)(O:R ρ C w){t:TypeId}{x i:Operand}{J K:aI}(ho:o.op= .index t x i)(U:dH P x=some J)(hi:dH P i=some K)
  (Y:P.underlying t=some .string) (h:Bf J K E H= .ok v H'):fP P o a w (ez ρ C w H v H'):=by
 replace h:=fS h;obtain⟨u,Z,h⟩:=h
 replace h:=yb h;obtain⟨l,s,rfl,h⟩:=h
 replace h:=fS h;obtain⟨u2,A,h⟩:=h
 replace h:=EH h;obtain⟨kd,j,rfl,hj,h⟩:=h
 rw[iG] at h
 cases h
 have z:=I.ch U Z
 have h2:=I.ch hi A
 simp only[VR] at z h2
 obtain⟨b,z,rfl,rfl⟩:=z
 have n9:b.size=b.data.toList.length:=by rw[nW];rfl
 have G:j<b.data.toList.length:=by omega
 have hb:b[j]?=some (b.data.toList[j]):=by
  rw[getElem?_pos b j ah]
  rfl
 refine hM (cv:=.int .u8 (wZ (pack b.data.toList) j)) ?_ O (by simp only[VR];rfl)
 rw[KT _ _ G]
 have h3:(0:Int)≤(j:Int):=by omega
 simp only[execOp,ho,z,h2,Instr.index,asIntOf,Sem.run_bind,Sem.run_pure,Result.andThen_ok,run_underlying Y,az h3,FV,hb]
end
section
variable{P:Program}{ρ:Ho}{nt:Nat}{E:Env}{a:Act}{C:Nat→Option et}{w:World}{H H':aE}{v:ax}{o:Oper}
theorem M9(K:AR P ρ nt E a){x:Option Operand}{I:Option aI}{d y n:Nat}{k:Nat→aH}(A:qv P x=some I)(h:gH E I d y (.err n) k= .ok v H')(O:d≤y):
  ∃i:Nat,i≤y∧k i= .ok v H'∧((x=none∧i=d)∨∃z G,x=some z∧a.eval z= .int G i):=by
 replace h:=WZ h
 rcases h with⟨rfl,h⟩|⟨z,G,i,rfl,U,hi,h⟩
 ·refine⟨d,O,h,.inl ⟨?_,rfl⟩⟩
  cases x with
  |none=>rfl
  |some u=>simp only[qv] at A;split at A<;>cases A
 cases x with
 |none=>simp[qv] at A
 |some u=>
  simp only[qv] at A
  split at A
  ·rename_i Z Y
   cases A
   have J:=K.ch Y U
   simp only[VR] at J
   exact⟨i,hi,h,.inr ⟨u,G,rfl,J⟩⟩
  cases A
theorem Du{z:IntKind}{i y:Nat}(h:i≤y)(code:BoundsCode):(Instr.sliceBound (.int z i) y code).run P w= .ok i w:=by
 have A:(i:Int)≤(y:Int):=by omega
 simp[Instr.sliceBound,asIntOf,h]
theorem G9(Y:AR P ρ nt E a){lo hi:Option Operand}{A G:Option aI}{I cap n:Nat}{k:Nat→Nat→aH}{Gv:Bool}(K:qv P lo=some A)(O:qv P hi=some G)(hc:I≤cap)
  (h:(gH E G I I (.err n) fun h=>gH E A 0 h (.err n) fun l=>k h l)= .ok v H'):
  ∃l h:Nat,l≤h∧h≤I∧k h l= .ok v H'∧(Instr.sliceBounds Gv I cap (lo.map a.eval) (hi.map a.eval) none).run P w= .ok (l,h,cap) w:=by
 obtain⟨Z,h1,h,hx⟩:=M9 Y O h (bR _)
 obtain⟨l,h2,h,hy⟩:=M9 Y K h (dp _)
 refine⟨l,Z,h2,h1,h,?_⟩
 rcases hx with⟨rfl,rfl⟩|⟨z,kd,rfl,e⟩
 ·rcases hy with⟨rfl,rfl⟩|⟨z2,U,rfl,e2⟩
  ·simp[Instr.sliceBounds]
  simp[Instr.sliceBounds,e2,Du h2]
 have J:Z≤cap:=by omega
 rcases hy with⟨rfl,rfl⟩|⟨z2,U,rfl,e2⟩
 ·simp[Instr.sliceBounds,e,Du J]
 simp[Instr.sliceBounds,e,e2,Du J,Du h2]
theorem SE(O:AR P ρ nt E a)(hR:R ρ C w){t:TypeId}{x:Operand}{U:aI}{lo hi:Option Operand}{z A:Option aI}(ho:o.op= .slice t x lo hi none)(hx:dH P x=some U)
  (J:qv P lo=some z) (K:qv P hi=some A) (ht:P.underlying t=some .string) (h:BE U z A E H= .ok v H'):fP P o a w (ez ρ C w H v H'):=by
 replace h:=fS h;obtain⟨u,hu,h⟩:=h
 replace h:=yb h;obtain⟨l,s,rfl,h⟩:=h
 have I:=O.ch hx hu
 simp only[VR] at I
 obtain⟨b,I,rfl,rfl⟩:=I
 obtain⟨l,Y,hle,Z,h,G⟩:=G9 (w:=w) (Gv:=false) O J K (bR _) h
 rw[iG,iG] at h
 cases h
 have n9:b.size=b.data.toList.length:=by rw[nW];rfl
 refine hM (cv:=.string (b.extract l Y)) ?_ hR ?_
 ·simp[execOp,ho,I,Instr.sliceAt,Instr.slice,run_underlying ht,G]
 simp only[VR]
 refine⟨_,rfl,?_,?_⟩
 ·rw[ByteArray.size_extract]
  show Y-l=_
  omega
 rw[KU]
 congr 1
 rw[ByteArray.data_extract,Jc,P9]
theorem S8(hA:AR P ρ nt E a)(hR:R ρ C w){t e:TypeId}{x:Operand}{x':aI}{n:Nat}{lo hi:Option Operand}{I J:Option aI}(ho:o.op= .slice t x lo hi none)(hx:dH P x=some x')
  (K:qv P lo=some I) (O:qv P hi=some J) (ht:P.underlying t=some (.slice e)) (hn:j8 P e=some n) (h:B3 n x' I J E H= .ok v H'):fP P o a w (ez ρ C w H v H'):=by
 replace h:=fS h;obtain⟨u,hu,h⟩:=h
 replace h:=xT h
 have A:=hA.ch hx hu
 rcases h with⟨rfl,h⟩|⟨f1,g1,o1,l1,es,rfl,h⟩
 ·simp only[VR] at A
  obtain⟨l,U,hle,Y,h,z⟩:=G9 (w:=w) (Gv:=true) hA K O (bR _) h
  cases h
  have:l=0:=by omega
  subst this
  have:U=0:=by omega
  subst this
  refine hM (cv:=.slice none 0 0) ?_ hR (by simp only[VR])
  simp[execOp,ho,A,Instr.sliceAt,Instr.slice,run_underlying ht,z,uK hn]
 replace h:=gp h;obtain⟨hb,h⟩:=h
 have:=eH hb
 subst this
 simp only[VR] at A
 obtain⟨hm,ad,cap,Q5,A,wb,G⟩:=A
 obtain⟨l,U,hle,Y,h,z⟩:=G9 (w:=w) (Gv:=true) hA K O wb h
 rw[iG,iG] at h
 cases h
 have Z:=(uQ hn)
 obtain⟨_,_,_,_,_,Z⟩:=Z
 refine hM (cv:=.slice (some (if cap=l then ad else ad.add (l*n))) (U-l) (cap-l)) ?_ hR ?_
 ·simp only[execOp,ho,A,Instr.sliceAt,Instr.slice,Sem.run_bind,run_underlying ht,Result.andThen_ok,z,uK hn,Option.map_none,Sem.run_pure,tU]
  by_cases hc:cap=l<;>simp[hc]
 simp only[VR]
 refine⟨hm,_,_,Q5,rfl,by show U-l≤cap-l;omega,?_⟩
 show Jp hm (if cap=l then ad else ad.add (l*n)) (U-l) (cap-l) (o1+l*n) n
 unfold Jp at G⊢
 rcases G with⟨rfl,G⟩|⟨hz,hc0,ho0⟩
 ·by_cases hc:cap=l
  ·rw[az hc]
   by_cases o5:l=0
   ·left
    subst o5
    refine⟨by simp,?_⟩
    rw[hc] at G⊢
    simpa using G
   right
   refine⟨ah,ah,?_⟩
   have:0<l*n:=Nat.mul_pos ah ah
   omega
  rw[al hc]
  left
  refine⟨by simp[Addr.add_lit,nx],?_⟩
  rw[nx,←nX,show l+(cap-l)=cap by omega]
  exact G
 right
 refine⟨ah,ah,ah⟩
theorem S9(z:R ρ C w){c:Call}{x:Operand}{t e:TypeId}{n:Nat}(ho:o.op= .call c)(A:c.callee= .builtin .len)(G:c.args=#[x])(I:c.argTypes[0]?=some t)(J:P.underlying t=some (.array n e))
  (h:PG n E H= .ok v H'):fP P o a w (ez ρ C w H v H'):=by
 cases h
 exact hM (cv:=.int .i64 n) (by simp[execOp,ho,resolve,A,G,invoke,builtin,Builtin.len_,I,run_underlying J,goInt]) z (by simp only[VR];rfl)
theorem S'(J:AR P ρ nt E a)(K:R ρ C w){c:Call}{x:Operand}{I:aI}{t:TypeId}(ho:o.op= .call c)(O:c.callee= .builtin .len)(U:c.args=#[x])(A:dH P x=some I)
  (Y:c.argTypes[0]?=some t) (Z:P.underlying t=some .string) (h:B8 I E H= .ok v H'):fP P o a w (ez ρ C w H v H'):=by
 replace h:=fS h;obtain⟨u,G,h⟩:=h
 have z:=J.ch A G
 replace h:=yb h;obtain⟨l,s,rfl,h⟩:=h
 cases h
 simp only[VR] at z
 obtain⟨b,z,rfl,rfl⟩:=z
 exact hM (cv:=.int .i64 b.size) (by simp[execOp,ho,resolve,O,U,invoke,builtin,Builtin.len_,Y,run_underlying Z,goInt,z]) K (by simp only[VR];rfl)
theorem TN(Z:AR P ρ nt E a)(I:R ρ C w){c:Call}{x:Operand}{J:aI}{t e:TypeId}(ho:o.op= .call c)(K:c.callee= .builtin .len)(O:c.args=#[x])(A:dH P x=some J)
  (U:c.argTypes[0]?=some t) (Y:P.underlying t=some (.slice e)) (h:CC J E H= .ok v H'):fP P o a w (ez ρ C w H v H'):=by
 replace h:=fS h;obtain⟨u,G,h⟩:=h
 have z:=Z.ch A G
 replace h:=xT h
 rcases h with⟨rfl,h⟩|⟨f,g,o1,l,es,rfl,h⟩
 ·cases h
  simp only[VR] at z
  exact hM (cv:=.int .i64 0) (by simp[execOp,ho,resolve,K,O,invoke,builtin,Builtin.len_,U,run_underlying Y,goInt,z]) I (by simp only[VR];rfl)
 cases h
 simp only[VR] at z
 obtain⟨hm,ad,cap,Q5,z,wb,hs⟩:=z
 exact hM (cv:=.int .i64 l) (by simp[execOp,ho,resolve,K,O,invoke,builtin,Builtin.len_,U,run_underlying Y,goInt,z]) I (by simp only[VR];rfl)
theorem Ta(G:AR P ρ nt E a)(I:R ρ C w){src dst:TypeId}{k J:IntKind}{x:Operand}{z:aI}(ho:o.op= .convert src dst x)(K:dH P x=some z)(O:P.underlying src=some (.int J))(U:P.underlying dst=some (.int k))
  (h:B9 k z E H= .ok v H'):fP P o a w (ez ρ C w H v H'):=by
 replace h:=fS h;obtain⟨u,Y,h⟩:=h
 replace h:=ta h;obtain⟨Z,n,rfl,h⟩:=h
 rw[sZ] at h
 cases h
 have A:=G.ch K Y
 simp only[VR] at A
 exact hM (cv:=.int k (k.wrap n)) (by simp[execOp,ho,A,convert,run_underlying O,run_underlying U,Conv.intToInt]) I (by simp only[VR,nJ])
end
section
variable{P:Program}{ρ:Ho}{nt:Nat}{E:Env}{a:Act}{C:Nat→Option et}{w:World}{H H':aE}{v:ax}{o:Oper}
theorem Dv(b:Nat):∀(vs:List Value)(o:Nat)(w:World),
  (w.setCells b o vs).heap.size=w.heap.size∧(∀k,k≠b→(w.setCells b o vs).heap[k]?=w.heap[k]?)∧
  (∀c e fz,w.heap[b]?=some (.cells c e fz)→∃z,(w.setCells b o vs).heap[b]?=some (.cells z e fz)∧z.size=c.size)∧
  (w.setCells b o vs).os=w.os∧(w.setCells b o vs).tape=w.tape∧(w.setCells b o vs).output=w.output
 |[],_,_=>⟨rfl,fun _ _=>rfl,fun c e fz h=>⟨c,h,rfl⟩,rfl,rfl,rfl⟩
 |v::r,o,w=>by
  obtain⟨G,h2,I,J,K,O⟩:=Dv b r (o+1) (w.setCell ⟨b,o,none⟩ v)
  simp only[World.setCells]
  refine⟨G.trans (by simp[World.setCell]),fun k hk=>(h2 k hk).trans ?_,fun c e fz h=>?_,J,K,O⟩
  ·simp only[World.setCell,Jd]
   rw[al (fun e=>hk e.symm)]
  obtain⟨z,A,U⟩:=I (c.setIfInBounds o v) e fz (by simp[World.setCell,Jd,h])
  exact⟨z,A,by simpa using U⟩
def Ho.add(ρ:Ho)(f g:Nat)(h:Hm):Ho:=fun f' g'=>if f'=f∧g'=g then some h else ρ f' g'
theorem Ho.add_same(ρ:Ho)(f g:Nat)(h:Hm):ρ.add f g h f g=some h:=by simp[Ho.add]
theorem Ho.N5{ρ:Ho}{f g:Nat}{h:Hm}(A:∀x,ρ f g=some x→x=h):ρ.le (ρ.add f g h):=by
 intro f' g' x z
 unfold Ho.add
 split
 ·rename_i e
  obtain⟨rfl,rfl⟩:=e
  rw[A x z]
 exact z
theorem Ho.kX{ρ:Ho}{f g f' g':Nat}{h x:Hm}(e:ρ.add f g h f' g'=some x):(f'=f∧g'=g∧x=h)∨ρ f' g'=some x:=by
 unfold Ho.add at e
 split at e
 ·rename_i k;cases e;exact .inl ⟨k.1,k.2,rfl⟩
 exact .inr e
theorem R.heap{w':World}(z:R ρ C w)(h:w'.heap=w.heap):R ρ C w':=
 ⟨fun f o e g x A=>(z.obj f o e g x A).jo (Ho.le_refl _) (by rw[h]),z.oV,fun f g x A=>by rw[h];exact z.kB f g x A,z.uniq,fun f g x A a b=>(z.nf f g x A a b).jo (cell_of_heap (w:=w) (by rw[h]))⟩
theorem R.N6(fl:Nat)(fz:Nat×Nat)(J:R ρ C w){f elem es aV n:Nat}{cs:RT}{cells:Array Value}(W:Nat→Prop)(A:∀g,ρ f g=none)(he:0<es)(n9:n*es≤cells.size)
  (Gw:∀i,i<n→∃l,cs.get i=some l∧l.length=es∧∀j x,l[j]?=some x→iB x=true∧∃cv,cells[i*es+j]?=some cv∧VR ρ x cv) {w':World}
  (U:w'.heap=w.heap.push (.cells cells elem fz)) (Y:∀i,i<cells.size→¬(fz.1≤i∧i<fz.2)) (Z:fl=0∨fl=2→fz.1=fz.2) (h1:w'.os=w.os) (h2:w'.tape=w.tape) (h3:w'.output=w.output):
  ∃ρ',ρ' f n=some ⟨w.heap.size,0,cells.size,false,false⟩∧Ext W f (f+1) ρ ρ' w w'∧R ρ' (fun x=>if x=f then some (.row elem es aV n n fl cs) else C x) w':=by
 have hle:ρ.le (ρ.add f n ⟨w.heap.size,0,cells.size,false,false⟩):=Ho.N5 fun x z=>by rw[A] at z;cases z
 have hold:∀b,b<w.heap.size→w'.heap[b]?=w.heap[b]?:=fun b I=>by rw[U,Je,al ah]
 have G:w'.heap[w.heap.size]?=some (.cells cells elem fz):=by rw[U];simp
 refine⟨_,Ho.add_same _ _ _ _,⟨hle,?_,?_,fun b I _=>hold b I,by rw[U];simp,tS _,h1,h2,h3⟩,⟨?_,?_,?_,?_,?_⟩⟩
 ·intro f' g' x z
  rcases Ho.kX z with⟨rfl,_,_⟩|z
  ·exact .inr ⟨bR _,gG _⟩
  exact .inl ⟨g',x,z⟩
 ·intro f' g' x z
  rcases Ho.kX z with⟨rfl,_,rfl⟩|z
  ·exact .inr (.inl ⟨bR _,rfl⟩)
  exact .inl z
 ·intro f' o hf g x z
  have K:(if f'=f then some (et.row elem es aV n n fl cs) else C f')=some o:=hf
  clear hf
  by_cases e:f'=f
  ·rw[az e] at K
   subst e
   cases K
   rcases Ho.kX z with⟨_,rfl,rfl⟩|z
   ·refine⟨he,fun h=>(by cases h),bR _,fun _ _=>⟨⟨cells,fz,G,by simp⟩,n9,fun i hi=>?_,fun _ i hi=>?_,fun _ i _ hi=>?_,fun _=>rfl,fun e c t fz' hc=>by rw[G] at hc;cases hc;exact .inl (Z e)⟩⟩
    ·obtain⟨l,a1,a2,a3⟩:=Gw i hi
     refine⟨l,a1,a2,fun j y hy=>?_⟩
     obtain⟨b1,cv,b2,b3⟩:=a3 j y hy
     refine⟨b1,cv,?_,b3.mono hle⟩
     simp only[World.cell?,G]
     simpa using b2
    ·simp only[World.frozen?,G];have:=Y i (by simpa using‹_›);simp at this⊢;omega
    simp only[World.frozen?,G];have:=Y i (by simpa using‹_›);simp at this⊢;omega
   rw[A] at z;cases z
  rw[al e] at K
  rcases Ho.kX z with⟨e',_,_⟩|z
  ·exact absurd e' e
  exact(J.obj f' o K g x z).jo hle (hold _ (J.kB _ _ _ z))
 ·intro f1 g1 x1 f2 g2 x2 e1 e2 l8 I
  have c1:=Ho.kX e1
  have c2:=Ho.kX e2
  clear e1 e2
  rcases c1 with⟨e,_,rfl⟩|e1<;>rcases c2 with⟨e',_,rfl⟩|e2
  ·exact absurd (e.trans e'.symm) l8
  ·have:=J.kB _ _ _ e2
   have I:w.heap.size=x2.ct:=I
   omega
  ·have:=J.kB _ _ _ e1
   have I:x1.ct=w.heap.size:=I
   omega
  exact J.oV _ _ _ _ _ _ e1 e2 l8 I
 ·intro f' g' x z
  rw[U,Array.size_push]
  rcases Ho.kX z with⟨_,_,rfl⟩|z
  ·simp
  have:=J.kB _ _ _ z
  omega
 ·intro f' g1 x1 g2 x2 e1 e2 I
  have c1:=Ho.kX e1
  have c2:=Ho.kX e2
  clear e1 e2
  rcases c1 with⟨rfl,_,rfl⟩|e1<;>rcases c2 with⟨e',_,rfl⟩|e2
  ·rfl
  ·rw[A] at e2;cases e2
  ·subst e';rw[A] at e1;cases e1
  exact J.uniq _ _ _ _ _ e1 e2 I
 intro f' g' x z o6 JQ
 rcases Ho.kX z with⟨_,_,rfl⟩|O
 ·cases o6
 have k:=J.nf _ _ _ O o6 JQ
 refine Ax.jo ⟨fun g2 x2 e2=>?_,k.2⟩ (cell_of_heap (w:=w) ?_)
 ·rcases Ho.kX e2 with⟨rfl,_,_⟩|e2
  ·rw[A] at O;cases O
  exact k.1 _ _ e2
 have:=J.kB _ _ _ O
 show w'.heap[x.ct]?=_
 rw[U,Je,al ah]
theorem R.alloc(I:R ρ C w){f elem es aV n:Nat}{cs:RT}{cells:Array Value}(W:Nat→Prop)(z:∀g,ρ f g=none)(he:0<es)(A:n*es≤cells.size)
  (G:∀i,i<n→∃l,cs.get i=some l∧l.length=es∧∀j x,l[j]?=some x→iB x=true∧∃cv,cells[i*es+j]?=some cv∧VR ρ x cv) {w':World}
  (J:w'.heap=w.heap.push (.cells cells elem)) (K:w'.os=w.os) (h2:w'.tape=w.tape) (O:w'.output=w.output):
  ∃ρ',ρ' f n=some ⟨w.heap.size,0,cells.size,false,false⟩∧Ext W f (f+1) ρ ρ' w w'∧R ρ' (fun x=>if x=f then some (.row elem es aV n n 0 cs) else C x) w':=by
 exact I.N6 0 (0,0) W z he A G J (fun i _ h=>by simp at h) (fun _=>rfl) K h2 O
theorem DK(C:Nat→Option et)(H:aE)(o:et):gY C H ⟨H.next+1,H.bj,H.ws,H.t.set H.next o⟩=fun x=>if x=H.next then some o else C x:=by
 funext x
 unfold gY
 simp only[GT.eY]
 by_cases h:x=H.next
 ·subst h
  simp
 have h2:¬(H.next≤x∧x<H.next+1):=by omega
 have z:(H.t.set H.next o).get x=H.t.get x:=by rw[GT.eY,al h]
 simp[h2,h,z]
theorem R.rd(hR:R ρ C w){f g off n:Nat}{l:List ax}(hr:Jq H f g off n l)(hC:C f=H.t.get f){h:Hm}(hh:ρ f g=some h)(hn:0<n):
  l.length=n∧l.all iB=true∧∀j x,l[j]?=some x→∃cv,w.cell? ⟨h.ct,h.off+off+j,none⟩=some cv∧VR ρ x cv:=by
 obtain⟨elem,es,aV,m,lo,fl,cs,x,hg,h1,h2,h3,h4,hx,Z⟩:=hr
 have J:=hR.obj f _ (hC.trans hg) g h hh
 obtain⟨he,o6,_,A⟩:=J
 have A:=A h1 h2
 obtain⟨y,hy,K,O⟩:=A.cell _ h4
 have U:y=x:=by
  have:some y=some x:=hy.symm.trans hx
  cases this
  rfl
 subst U
 have F6:off/es*es+off % es=off:=by rw[ny];exact FW off es
 have hlen:l.length=n:=by
  rcases Z with⟨rfl,rfl⟩|rfl
  ·exact K
  simp[K];omega
 have I:∀j z,l[j]?=some z→y[off % es+j]?=some z:=by
  intro j z G
  rcases Z with⟨rfl,rfl⟩|rfl
  ·have:off % n=0:=by omega
   rw[this,jR];exact G
  rw[CS] at G
  split at G
  ·rwa [tR] at G
  cases G
 refine⟨hlen,?_,fun j z G=>?_⟩
 ·rw[FR]
  intro z G
  obtain⟨j,hj⟩:=Jf G
  exact(O _ z (I j z hj)).1
 obtain⟨_,cv,Y,hv⟩:=O _ z (I j z G)
 refine⟨cv,?_,hv⟩
 rw[show h.off+off+j=h.off+off/es*es+(off % es+j) by omega]
 exact Y
end
section
variable{P:Program}{ρ:Ho}{nt:Nat}{E:Env}{a:Act}{C:Nat→Option et}{w:World}{H H':aE}{v:ax}{o:Oper}
def iQ(ρ:Ho)(n0 n1:Nat):Prop:=∀f g,n0≤f→f<n1→ρ f g=none
theorem Ld{x:ax}{l:List ax}(h:cellsOf x=some l):kq x=some l:=by
 cases x<;>simp only[cellsOf,kq,reduceCtorEq] at h⊢<;>exact h
theorem A0{l:List ax}{vs:Array Value}(A:cP ρ l vs.toList)(hk:l.all iB=true)(j:Nat)(x:ax)(z:l[j]?=some x):iB x=true∧∃cv,vs[j]?=some cv∧VR ρ x cv:=by
 obtain⟨y,G,k⟩:=A.get j x z
 exact⟨(List.all_eq_true.1 hk) x (lJ z),y,by simpa using G,k⟩
theorem N7(G:R ρ C w)(I:iQ ρ H.next H'.next){elem es aV:Nat}{l:List ax}{vs:Array Value}(he:0<es)(J:l.length=es)(A:cP ρ l vs.toList)(hk:l.all iB=true)
  (z:(execOp a.eval o).run P w= .ok (.value (.pointer (some ⟨w.heap.size,0,none⟩))) {w with heap:=w.heap.push (.cells vs elem)})
  (h:xf elem es aV l E H= .ok v H'):fP P o a w (ez ρ C w H v H'):=by
 have h:=yd h
 cases h
 have K:vs.size=es:=by have:=A.length;rw[nW] at this;omega
 obtain⟨ρ',O,h2,U⟩:=G.alloc (f:=H.next) (elem:=elem) (es:=es) (aV:=aV) (n:=1) (cs:=.one l) (cells:=vs) (w':={w with heap:=w.heap.push (.cells vs elem)})
  (Wr ⟨H.next+1,H.bj,H.ws,H.t.set H.next (.row elem es aV 1 1 0 (.one l))⟩) (fun g=>I _ g (bR _) (gG _)) he ah
  (fun i hi=>by
   have:i=0:=by omega
   subst this
   exact⟨l,rfl,J,fun j x Y=>by simpa using A0 A hk j x Y⟩) rfl rfl rfl rfl
 refine .inl ⟨_,_,z,ρ',?_,h2,?_⟩
 ·simp only[VR]
  exact⟨_,O,rfl⟩
 rw[DK]
 exact U
theorem Tb(O:R ρ C w)(U:iQ ρ H.next H'.next){t:TypeId}{z:List ax}{i:TypeInfo}(ho:o.op= .alloc t)(A:zeroOf P t=some z)(hi:P.info? t=some i)
  (h:xf t i.size i.bytes z E H= .ok v H'):fP P o a w (ez ρ C w H v H'):=by
 unfold zeroOf at A
 rw[hi] at A
 simp only at A
 split at A
 ·rename_i Z I
  split at A
  ·rename_i av J
   split at A
   ·rename_i l Y
    split at A
    ·rename_i G
     cases A
     have K:=(DX ρ _ _ J).cells (Ld Y)
     refine N7 O U G.2 G.1 K.1 K.2 ?_ h
     simp[execOp,ho,Instr.alloc,zeroValue,typeInfo,hi,I,newVar,newRow]
    cases A
   cases A
  cases A
 cases A
theorem TO(I:AR P ρ nt E a)(J:R ρ C w)(K:iQ ρ H.next H'.next){t:TypeId}{x:Operand}{A:aI}{n b:Nat}(ho:o.op= .box t x)(O:dH P x=some A)(U:j8 P t=some n)
  (h:Cz t n b A E H= .ok v H'):fP P o a w (ez ρ C w H v H'):=by
 replace h:=fS h;obtain⟨u,Y,h⟩:=h
 replace h:=jP h;obtain⟨l,Z,h⟩:=h
 replace h:=gp h;obtain⟨z,h⟩:=h
 rw[pA] at z
 have z:=eH z
 have G:=(I.ch O Y).cells Z
 obtain⟨_,_,_,_,_,rI⟩:=uQ U
 exact N7 J K ah z G.1 G.2 (by simp[execOp,ho,Instr.box,newVar,newRow]) h
theorem KV{t:TypeId}{n:Nat}(I:j8 P t=some n){l:List ax}{ad:Addr}(Y:l.length=n)(hk:l.all iB=true)(J:∀j x,l[j]?=some x→∃cv,w.cell? (ad.add j)=some cv∧VR ρ x cv)
  {e:Nat} (h:jf (qu P t) l (.err e) (fun v=>.ok v H)= .ok v H'):H'=H∧∃cv,(loadVar t ad).run P w= .ok cv w∧VR ρ v cv:=by
 obtain⟨vs,O⟩:∃vs:List Value,cP ρ l vs∧∀j x,vs[j]?=some x→w.cell? (ad.add j)=some x:=by
  clear h hk Y I
  have:∀(l:List ax)(k:Nat),(∀j x,l[j]?=some x→∃cv,w.cell? (ad.add (k+j))=some cv∧VR ρ x cv)→∃vs:List Value,cP ρ l vs∧∀j x,vs[j]?=some x→w.cell? (ad.add (k+j))=some x:=by
   intro l
   induction l with
   |nil=>intro k _;exact⟨[],rfl,fun j x A=>by simp at A⟩
   |cons y r Z=>
    intro k J
    obtain⟨cv,G,h2⟩:=J 0 y rfl
    obtain⟨vs,h3,h4⟩:=Z (k+1) (fun j x A=>by have:=J (j+1) x (by simpa using A);rwa [show k+(j+1)=k+1+j by omega] at this)
    refine⟨cv::vs,⟨cv,vs,rfl,h2,h3⟩,fun j x A=>?_⟩
    cases j with
    |zero=>simp at A;subst A;simpa using G
    |succ j=>rw[show k+(j+1)=k+1+j by omega];exact h4 j x (by simpa using A)
  obtain⟨vs,G,h2⟩:=this l 0 (by simpa using J)
  exact⟨vs,G,by simpa using h2⟩
 obtain⟨K,z⟩:=O
 have hlen:vs.length=n:=K.length.trans Y
 replace h:=HR h
 rcases h with⟨U,h⟩|⟨x,U,A,h⟩
 ·cases h
  refine⟨rfl,.agg vs.toArray,?_,?_⟩
  ·have G:=G8 I w
   rw[U] at G
   have h2:=run_loadCells_list (P:=P) w ad vs z
   rw[hlen] at h2
   simp[loadVar,G,uK I,h2]
  simp only[VR]
  exact⟨_,rfl,K,hk⟩
 cases h
 subst A
 simp only[cP] at K
 obtain⟨y,t',rfl,hy,rfl⟩:=K
 refine⟨rfl,y,?_,hy⟩
 have G:=G8 I w
 rw[U] at G
 have h2:w.cell? ad=some y:=by have:=z 0 y rfl;simpa[Addr.add] using this
 simp[loadVar,G,h2]
theorem Tc(hA:AR P ρ nt E a)(O:R ρ C w){t:TypeId}{x:Operand}{G:aI}{n:Nat}(ho:o.op= .load t x)(I:dH P x=some G)(U:j8 P t=some n)
  (hC:∀f o,f∈ju (G.ev E)→(∃g h,ρ f g=some h)→H.t.get f=some o→C f=some o) (h:B1 n (qu P t) G E H= .ok v H'):fP P o a w (ez ρ C w H v H'):=by
 replace h:=fS h;obtain⟨u,Y,h⟩:=h
 replace h:=wH h;obtain⟨f,g,off,rfl,h⟩:=h
 obtain⟨l,Z,h⟩:=IY h (by simp)
 have A:=hA.ch I Y
 simp only[VR] at A
 obtain⟨hm,hh,A⟩:=A
 obtain⟨_,_,_,_,_,rI⟩:=uQ U
 have J:C f=H.t.get f:=by
  obtain⟨_,_,_,_,_,_,_,_,hg,_⟩:=Z
  exact(hC f _ (by rw[Y];simp[ju]) ⟨_,_,hh⟩ hg).trans hg.symm
 obtain⟨hlen,hk,hc⟩:=O.rd Z J hh ah
 obtain⟨rfl,cv,z,K⟩:=KV (P:=P) (ρ:=ρ) (w:=w) (ad:=⟨hm.ct,hm.off+off,none⟩) U hlen hk (fun j x I=>by rw[Addr.add_lit];exact hc j x I) h
 exact hM (by simp[execOp,ho,A,Instr.loadAt,Instr.sureAddr,z]) O K
theorem KG{l new:List ax}{r n:Nat}(z:r+n≤l.length)(A:new.length=n):(gR l r new).length=l.length:=by
 unfold gR
 simp
 omega
theorem Le{l new:List ax}{r n:Nat}(J:r+n≤l.length)(z:new.length=n)(j:Nat):(gR l r new)[j]?=if r≤j∧j<r+n then new[j-r]?else l[j]?:=by
 unfold gR
 have A:(l.take r).length=r:=by simp;omega
 by_cases G:j<r
 ·rw[rz ah,CS,az G,al ah]
 rw[xm ah,A]
 by_cases I:j<r+n
 ·rw[rz ah,az ah]
 rw[xm ah,tR,al ah,z]
 congr 1
 omega
theorem R.write(U:R ρ C w){f g off n:Nat}{new:List ax}{nv:List Value}(hw:Qh H f g off n new H')(hC:C f=H.t.get f){h:Hm}(hh:ρ f g=some h)(hn:0<n)
  (hv:cP ρ new nv) (hk:new.all iB=true):
  (∀j,j<n→(w.cell? ⟨h.ct,h.off+off+j,none⟩).isSome=true)∧(∀j,j<n→w.frozen? ⟨h.ct,h.off+off+j,none⟩=false)∧h.ro=false∧
  R ρ (gY C H H') (w.setCells h.ct (h.off+off) nv):=by
 obtain⟨elem,es,aV,lo,cs,x,hg,h6,h3,h4,Z,hx,rfl⟩:=hw
 have YS:=U.obj f _ (hC.trans hg) g h hh
 obtain⟨he,o6,_,A⟩:=YS
 have A:=A h6 (bR _)
 have F6:off/es*es+off % es=off:=by rw[ny];exact FW off es
 generalize hq:off/es=q at*
 generalize hr:off % es=r at*
 have J:h.ro=false:=by
  cases hr:h.ro
  ·rfl
  exact absurd (o6 hr) (by simp)
 have hnv:nv.length=n:=hv.length.trans Z
 have hqg:(q+1)*es≤g*es:=lK es h4
 have hqe:(q+1)*es=q*es+es:=by rw[nX,tT]
 have Js:=A.fits
 obtain⟨y,hy,hyl,Q6⟩:=A.cell q h4
 have hxy:y=x:=by
  have:some y=some x:=hy.symm.trans hx
  cases this
  rfl
 subst hxy
 have K:∀j,j<n→(w.cell? ⟨h.ct,h.off+off+j,none⟩).isSome=true:=by
  intro j hj
  have ew:r+j<y.length:=by omega
  obtain⟨_,cv,uo,_⟩:=Q6 (r+j) (y[r+j]) (fe ew)
  rw[show h.off+off+j=h.off+q*es+(r+j) by omega,uo]
  rfl
 have YT:∀j,j<n→w.frozen? ⟨h.ct,h.off+off+j,none⟩=false:=by
  intro j hj
  rw[nx]
  exact A.Cc rfl (off+j) ah
 obtain⟨s1,s2,s3,_,_,_⟩:=Dv h.ct nv (h.off+off) w
 refine⟨K,YT,J,⟨fun f' o' G g' h' I=>?_,U.oV,fun f' g' h' I=>by rw[s1];exact U.kB f' g' h' I,U.uniq,fun f' g' x hx a b=>(U.nf f' g' x hx a b).jo (cell_of_heap (w:=w) (s2 _ fun e=>?_))⟩⟩
 rotate_left
 ·by_cases hf:f'=f
  ·subst hf
   have:=(U.nf _ _ _ hx a b).1 _ _ hh
   rw[J] at this;cases this
  have:=(U.oV _ _ _ _ _ _ hx hh hf e).2
  rw[J] at this;cases this
 have xw:∀z,(if n=es then new else gR y r new)=z→z.length=es∧∀j,z[j]?=if r≤j∧j<r+n then new[j-r]?else y[j]?:=by
  intro z hz
  have JR:(if n=es then new else gR y r new)=gR y r new:=by
   split
   ·rename_i e
    have hr0:r=0:=by omega
    subst hr0
    unfold gR
    rw[Jg,Cv,List.drop_of_length_le ah,z8]
   rfl
  rw[JR] at hz
  subst hz
  exact⟨(KG ah Z).trans hyl,Le ah Z⟩
 obtain⟨CX,hzg⟩:=xw _ rfl
 generalize (if n=es then new else gR y r new)=z at*
 by_cases hf:f'=f
 ·subst hf
  have oa:o'= .row elem es aV g g 0 (cs.set q z):=by
   have h0:(H.t.set f' (et.row elem es aV g g 0 (cs.set q z))).get f'=some (.row elem es aV g g 0 (cs.set q z)):=by rw[GT.eY,az rfl]
   unfold gY at G
   simp only at G
   rw[al ah,h0] at G
   split at G
   ·rename_i e
    rw[hC,←e] at G
    cases G
    rfl
   cases G
   rfl
  subst oa
  have O:=U.obj f' _ (hC.trans hg) g' h' I
  refine⟨he,O.2.1,O.2.2.1,fun a1 a2=>?_⟩
  have hgg:g'=g:=by omega
  subst hgg
  have hhh:h'=h:=by rw[hh] at I;cases I;rfl
  subst hhh
  obtain⟨c,fz,hb,hbs⟩:=A.row
  obtain⟨c',CY,Qj⟩:=s3 c elem fz hb
  refine⟨⟨c',fz,CY,ah⟩,Js,fun i hi=>?_,fun e i hi=>?_,fun e i hi nD=>?_,A.t8,fun e c1 t1 uq jC=>by rw[CY] at jC;cases jC;exact A.Aw e _ _ _ hb⟩
  ·rw[RT.eY]
   by_cases JS:i=q
   ·subst JS
    rw[az rfl]
    refine⟨z,rfl,CX,fun j u Y=>?_⟩
    rw[hzg] at Y
    split at Y
    ·rename_i hj
     obtain⟨cv,uo,hvr⟩:=hv.get _ _ Y
     refine⟨(List.all_eq_true.1 hk) u (lJ Y),cv,?_,hvr⟩
     have CZ:j-r<nv.length:=by omega
     have:=World.cell?_setCells_in h'.ct nv (h'.off+off) w (by rw[hnv];exact K) (j-r) CZ
     rw[show h'.off+i*es+j=h'.off+off+(j-r) by omega,this,←fe CZ]
     exact uo
    rename_i hj
    obtain⟨k1,cv,k2,k3⟩:=Q6 j u Y
    refine⟨k1,cv,?_,k3⟩
    rw[World.cell?_setCells_out _ _ _ _ _ (fun _ _=>by simp only;omega)]
    exact k2
   rw[al JS]
   obtain⟨l,l1,l2,l3⟩:=A.cell i hi
   refine⟨l,l1,l2,fun j u Y=>?_⟩
   obtain⟨k1,cv,k2,k3⟩:=l3 j u Y
   refine⟨k1,cv,?_,k3⟩
   have hjes:j<es:=by
    rw[←l2]
    rcases Nat.lt_or_ge j l.length with h|h
    ·exact h
    rw[FY h] at Y;cases Y
   rw[World.cell?_setCells_out _ _ _ _ _ (fun _ _=>?_)]
   ·exact k2
   simp only
   rcases Nat.lt_or_gt_of_ne JS with ew|Gx
   ·left
    have:=lK es (show i+1≤q from ew)
    rw[nX,tT] at this
    omega
   right
   have:=lK es (show q+1≤i from Gx)
   omega
  ·rw[World.frozen?_setCells];exact A.Cc e i hi
  rw[World.frozen?_setCells];exact A.zN e i hi nD
 have oa:C f'=some o':=by
  have h0:(H.t.set f (et.row elem es aV g g 0 (cs.set q z))).get f'=H.t.get f':=by rw[GT.eY,al hf]
  unfold gY at G
  simp only at G
  rw[al ah,az h0] at G
  exact G
 refine(U.obj f' o' oa g' h' I).jo (Ho.le_refl _) (s2 _ fun e=>?_)
 have:=U.oV _ _ _ _ _ _ I hh hf e
 rw[J] at this
 exact absurd this.2 (by simp)
theorem Ss{t:TypeId}{n:Nat}(A:j8 P t=some n){b base:Nat}{u:Value}(z:u.cells.size=n)(G:∀x∈u.cells.toList,x.oneCell'=true)
  (I:∀j,j<n→(w.cell? ⟨b,base+j,none⟩).isSome=true) (J:∀j,j<n→w.frozen? ⟨b,base+j,none⟩=false):
  (storeVar t ⟨b,base,none⟩ u).run P w= .ok () (w.setCells b base u.cells.toList):=by
 have hlen:u.cells.toList.length=n:=by rw[nW];exact z
 have:=run_storeCells_cells (P:=P) b base u.cells.toList 0 w (by rw[hlen];simpa using I) (by rw[hlen];simpa using J) G
 simp only[xn] at this
 simp[storeVar,uK A,z,this]
theorem G'{x:ax}{y:Value}(h:VR ρ x y)(hk:iB x=true):y.oneCell'=true:=by
 have:=h.XZ hk
 cases y<;>first|rfl|(exact absurd rfl (this.1 _))|(exact absurd rfl (this.2 _))
theorem cP.Mq:∀{l:List ax}{vs:List Value},cP ρ l vs→l.all iB=true→∀x∈vs,x.oneCell'=true
 |[],vs,h,_,x,z=>by simp only[cP] at h;subst h;cases z
 |a::r,vs,h,hk,x,z=>by
  simp only[cP] at h
  obtain⟨v,t,rfl,A,h2⟩:=h
  simp only[FZ,fE] at hk
  cases z with
  |head=>exact G' A hk.1
  |tail _ z=>exact cP.Mq h2 hk.2 x z
theorem SF(hA:AR P ρ nt E a)(hR:R ρ C w){t:TypeId}{x z:Operand}{O z':aI}{n:Nat}(ho:o.op= .store t x z)(hx:dH P x=some O)(hz:dH P z=some z')(hn:j8 P t=some n)
  (hC:∀f o,f∈ju (O.ev E)→(∃g h,ρ f g=some h)→H.t.get f=some o→C f=some o) (h:BC n O z' E H= .ok v H'):fP P o a w (ez ρ C w H v H'):=by
 replace h:=fS h;obtain⟨u,hu,h⟩:=h
 replace h:=wH h;obtain⟨f,g,off,rfl,h⟩:=h
 replace h:=fS h;obtain⟨u2,U,h⟩:=h
 replace h:=jP h;obtain⟨l,hl,h⟩:=h
 obtain⟨H1,J,h⟩:=PI h
 cases h
 have K:=hA.ch hx hu
 have h2:=hA.ch hz U
 simp only[VR] at K
 obtain⟨A,Y,K⟩:=K
 obtain⟨_,_,_,_,_,rI⟩:=uQ hn
 have G:=h2.cells hl
 have jM:l.length=n:=by obtain⟨_,_,_,_,_,_,_,_,_,_,Z,_⟩:=J;exact Z
 have JT:(a.eval z).cells.size=n:=by have:=G.1.length;rw[nW] at this;omega
 have ur:C f=H.t.get f:=by
  obtain⟨_,_,_,_,_,_,hg,_⟩:=J
  exact(hC f _ (by rw[hu];simp[ju]) ⟨_,_,Y⟩ hg).trans hg.symm
 obtain⟨k1,k2,k3,k4⟩:=hR.write J ur Y ah G.1 G.2
 have I:=Ss (P:=P) (w:=w) hn (b:=A.ct) (base:=A.off+off) JT (G.1.Mq G.2) k1 k2
 obtain⟨s1,s2,s3,s4,s5,s6⟩:=Dv A.ct (a.eval z).cells.toList (A.off+off) w
 refine .inr (.inl ⟨w.setCells A.ct (A.off+off) (a.eval z).cells.toList,?_,ρ,by simp only[VR],?_,k4⟩)
 ·simp[execOp,ho,K,Instr.storeAt,Instr.sureAddr,I]
 obtain⟨_,_,_,_,_,_,_,_,_,_,_,_,rfl⟩:=J
 refine⟨Ho.le_refl _,fun f g h e=>.inl ⟨g,h,e⟩,fun _ _ _ e=>.inl e,fun b hb hf=>?_,by rw[s1];exact bR _,bR _,s4,s5,s6⟩
 refine s2 b fun e=>?_
 refine hf f g A Y k3 ?_ e.symm
 unfold Wr
 simp only[AZ]
 by_cases ew:f<H.bj
 ·exact .inl (.inr ⟨trivial,ew⟩)
 exact .inr ah
end
section
variable{P:Program}{ρ:Ho}{nt:Nat}{E:Env}{a:Act}{C:Nat→Option et}{w:World}{H H':aE}{v:ax}{o:Oper}
theorem DY:∀{n:Nat}{H:aE}{f g es off:Nat}{l:List (List ax)},elems H f g es n off=some l→l.length=n∧∀i x,l[i]?=some x→Jq H f g (off+i*es) es x
 |0,H,f,g,es,off,l,h=>by cases h;exact⟨rfl,fun i x z=>by simp at z⟩
 |n+1,H,f,g,es,off,l,h=>by
  have h:rd H f g off es none (fun l=>ob (elems H f g es n (off+es)) none fun r=>some (l::r))=some l:=h
  obtain⟨x,z,h⟩:=IY h (by simp)
  obtain⟨r,G,h⟩:=yG h
  cases h
  obtain⟨I,h2⟩:=DY G
  refine⟨by simp[I],fun i y A=>?_⟩
  cases i with
  |zero=>simp at A;subst A;simpa using z
  |succ i=>have:=h2 i y (by simpa using A);rwa [show off+es+i*es=off+(i+1)*es by rw[nX];omega] at this
theorem uH:∀(l:List (List ax))(t:RT)(i k:Nat),(jZ l t i).get k=if i≤k∧k<i+l.length then l[k-i]?else t.get k
 |[],t,i,k=>by
  show t.get k=_
  rw[al (by simp)]
 |x::r,t,i,k=>by
  have step:jZ (x::r) t i=jZ r (t.set i x) (i+1):=rfl
  rw[step,uH r,RT.eY]
  simp only[cV]
  by_cases h:k=i
  ·subst h
   rw[al ah,az rfl,az ah]
   simp
  rw[al h]
  by_cases h2:i+1≤k∧k<i+1+r.length
  ·rw[az h2,az ah]
   rw[show k-i=(k-(i+1))+1 by omega,Jh]
  rw[al h2,al ah]
structure Flat(ρ:Ho)(es:Nat)(l:List (List ax))(news:List Value):Prop where
 len:news.length=l.length*es
 one:∀u∈news,u.oneCell'=true
 get:∀i x,l[i]?=some x→x.length=es∧∀j y,x[j]?=some y→iB y=true∧∃cv,news[i*es+j]?=some cv∧VR ρ y cv
theorem rO{α:Type}{l:List α}{i:Nat}{x:α}(h:l[i]?=some x):i<l.length:=by
 rcases Nat.lt_or_ge i l.length with h'|h'
 ·exact h'
 rw[FY h'] at h;cases h
theorem Flat.Uy(hR:R ρ C w){f g es off n:Nat}{l:List (List ax)}(hl:elems H f g es n off=some l)(hC:∀o,H.t.get f=some o→C f=some o){h:Hm}(hh:ρ f g=some h)(he:0<es):
  l.length=n∧∃news,Flat ρ es l news∧∀j u,news[j]?=some u→w.cell? ⟨h.ct,h.off+off+j,none⟩=some u:=by
 obtain⟨hlen,z⟩:=DY hl
 refine⟨hlen,(List.range (l.length*es)).map fun q=>(w.cell? ⟨h.ct,h.off+off+q,none⟩).getD undef,?_⟩
 have key:∀i x,l[i]?=some x→x.length=es∧∀j y,x[j]?=some y→iB y=true∧∃cv,w.cell? ⟨h.ct,h.off+off+(i*es+j),none⟩=some cv∧VR ρ y cv:=by
  intro i x G
  have Y:C f=H.t.get f:=by
   obtain⟨_,_,_,_,_,_,_,_,hg,_⟩:=z i x G
   exact(hC _ hg).trans hg.symm
  obtain⟨I,h2,h3⟩:=hR.rd (z i x G) Y hh he
  refine⟨I,fun j y J=>⟨(List.all_eq_true.1 h2) y (lJ J),?_⟩⟩
  obtain⟨cv,Z,hv⟩:=h3 j y J
  exact⟨cv,by rw[show h.off+off+(i*es+j)=h.off+(off+i*es)+j by omega];exact Z,hv⟩
 have cellAt:∀q,q<l.length*es→∃cv,w.cell? ⟨h.ct,h.off+off+q,none⟩=some cv∧cv.oneCell'=true:=by
  intro q hq
  have hi:q/es<l.length:=by
   rw[P' he]
   exact hq
  have K:q % es<es:=eI _ he
  obtain⟨I,h2⟩:=key (q/es) _ (fe hi)
  obtain⟨A,cv,O,k3⟩:=h2 (q % es) _ (fe (by rw[I];exact K))
  refine⟨cv,?_,G' k3 A⟩
  have:q/es*es+q % es=q:=by rw[ny];exact FW q es
  rwa [this] at O
 refine⟨⟨by simp,fun u U=>?_,fun i x G=>?_⟩,fun j u U=>?_⟩
 ·obtain⟨q,hq,rfl⟩:=List.mem_map.1 U
  obtain⟨cv,A,O⟩:=cellAt q (List.mem_range.1 hq)
  rw[A]
  exact O
 ·obtain⟨I,h2⟩:=key i x G
  refine⟨I,fun j y J=>?_⟩
  obtain⟨A,cv,O,k3⟩:=h2 j y J
  refine⟨A,cv,?_,k3⟩
  have ew:i*es+j<l.length*es:=by
   have h4:=rO G
   have h5:=rO J
   have:=lK es (show i+1≤l.length from h4)
   rw[nX,tT] at this
   omega
  simp[ew,O]
 have K:=rO U
 simp at K
 obtain⟨cv,A,_⟩:=cellAt j K
 simp[K,A] at U
 rw[A,U]
theorem R.grow(O:R ρ C w){f m k elem es aV na lo fl:Nat}{cs:RT}{new:List (List ax)}{news:List Value}(W:Nat→Prop)(hWf:W f){w':World}{h h2:Hm}
  (hC:C f=some (.row elem es aV m lo fl cs)) (hh:ρ f m=some h) (hk:new.length=k) (Ay:0<k) (uu:lo≤m) (wc:fl≠1) (hF:Flat ρ es new news)
  (n9:w.heap.size≤w'.heap.size) (h1:w'.os=w.os) (h2':w'.tape=w.tape) (h3:w'.output=w.output)
  (J:∀b,b<w.heap.size→b≠h.ct→w'.heap[b]?=w.heap[b]?)
  (U:∃c c' e fz,w.heap[h.ct]?=some (.cells c e fz)∧w'.heap[h.ct]?=some (.cells c' e fz)∧c'.size=c.size)
  (Fw:∀off,off<m*es→w'.cell? ⟨h.ct,h.off+off,none⟩=w.cell? ⟨h.ct,h.off+off,none⟩)
  (G:h2=h∨(w.heap.size≤h2.ct∧h2.ro=false)) (sM:h2.ct<w'.heap.size)
  (ua:∃c fz,w'.heap[h2.ct]?=some (.cells c elem fz)∧h2.off+h2.room≤c.size) (X1:(m+k)*es≤h2.room)
  (hold:∀off,off<m*es→w'.cell? ⟨h2.ct,h2.off+off,none⟩=w.cell? ⟨h.ct,h.off+off,none⟩)
  (xw:∀j,j<k*es→w'.cell? ⟨h2.ct,h2.off+m*es+j,none⟩=news[j]?)
  (Az:h2≠h→h2.off=0∧(∀i,w'.frozen? ⟨h2.ct,i,none⟩=false)∧∀c e fz,w'.heap[h2.ct]?=some (.cells c e fz)→fz.1=fz.2):
  ∃ρ',ρ' f (m+k)=some h2∧Ext W H.next H.next ρ ρ' w w'∧R ρ' (fun x=>if x=f then some (.row elem es na (m+k) lo fl (jZ new cs m)) else C x) w':=by
 obtain⟨he,o6,_,A⟩:=O.obj f _ hC m h hh
 have A:=A uu (bR _)
 have K:h.ro=false:=by
  cases hr:h.ro
  ·rfl
  exact absurd (o6 hr) wc
 have Qk:h2.ro=false:=by
  rcases G with rfl|⟨_,e⟩
  ·exact K
  exact e
 have X2:∀x,ρ f (m+k)=some x→x=h2:=fun x z=>by
  obtain⟨_,_,hle,_⟩:=O.obj f _ hC (m+k) x z
  omega
 have hle:ρ.le (ρ.add f (m+k) h2):=Ho.N5 X2
 have Ql:∀f' g' x,ρ f' g'=some x→f'≠f→w'.heap[x.ct]?=w.heap[x.ct]?:=by
  intro f' g' x z I
  refine J _ (O.kB _ _ _ z) fun e=>?_
  have:=O.oV _ _ _ _ _ _ z hh I e
  rw[K] at this
  exact absurd this.2 (by simp)
 have Qm:∀i,w'.frozen? ⟨h.ct,i,none⟩=w.frozen? ⟨h.ct,i,none⟩:=by
  intro i
  obtain⟨c,c',e,fz,k1,k2,_⟩:=U
  simp only[World.frozen?,k1,k2]
 refine⟨_,Ho.add_same _ _ _ _,⟨hle,?_,?_,?_,n9,bR _,h1,h2',h3⟩,⟨?_,?_,?_,?_,?_⟩⟩
 ·intro f' g' x z
  rcases Ho.kX z with⟨rfl,_,_⟩|z
  ·exact .inl ⟨m,h,hh⟩
  exact .inl ⟨g',x,z⟩
 ·intro f' g' x z
  rcases Ho.kX z with⟨rfl,_,rfl⟩|z
  ·rcases G with rfl|⟨a1,a2⟩
   ·exact .inr (.inr ⟨m,x,hh,rfl,rfl⟩)
   exact .inr (.inl ⟨a1,a2⟩)
  exact .inl z
 ·intro b Z hf
  exact J b Z fun e=>hf f m h hh K hWf e.symm
 ·intro f' o Gy g x z
  have AA:(if f'=f then some (et.row elem es na (m+k) lo fl (jZ new cs m)) else C f')=some o:=Gy
  clear Gy
  by_cases e:f'=f
  ·rw[az e] at AA
   subst e
   cases AA
   rcases Ho.kX z with⟨_,rfl,rfl⟩|z
   ·refine⟨he,(fun e=>by rw[Qk] at e;cases e),bR _,fun _ _=>⟨ua,X1,fun i hi=>?_,fun e i hi=>?_,fun e i hi nD=>?_,fun e=>(Classical.em (x=h)).elim (fun e2=>e2▸A.t8 e) (fun e2=>(Az e2).1),fun e=>(Classical.em (x=h)).elim (fun e2 c1 t1 uq Y=>by
     obtain⟨c,c',t2,fz,q1,q2,_⟩:=U
     rw[e2,q2] at Y
     cases Y
     have:=lK es (show m≤m+k by omega)
     exact(A.Aw e _ _ _ q1).imp_right (fun g=>by omega)) (fun e2 c1 t1 uq Y=>.inl ((Az e2).2.2 _ _ _ Y))⟩⟩
    ·rw[uH]
     by_cases Q7:i<m
     ·rw[al ah]
      obtain⟨l,l1,l2,l3⟩:=A.cell i Q7
      refine⟨l,l1,l2,fun j u hu=>?_⟩
      obtain⟨k1,cv,k2,k3⟩:=l3 j u hu
      refine⟨k1,cv,?_,k3.mono hle⟩
      have hj:=rO hu
      have:=lK es (show i+1≤m from Q7)
      rw[nX,tT] at this
      rw[nx,hold (i*es+j) ah,←nx]
      exact k2
     rw[az ah]
     have Q8:i-m<new.length:=by omega
     obtain⟨l1,l2⟩:=hF.get (i-m) _ (fe Q8)
     refine⟨_,fe Q8,l1,fun j u hu=>?_⟩
     obtain⟨k1,cv,k2,k3⟩:=l2 j u hu
     refine⟨k1,cv,?_,k3.mono hle⟩
     have hj:=rO hu
     have Q9:=rO k2
     rw[hF.len,hk] at Q9
     have e1:i*es=m*es+(i-m)*es:=by rw[←nX];congr 1;omega
     rw[show x.off+i*es+j=x.off+m*es+((i-m)*es+j) by omega,xw _ Q9]
     exact k2
    ·by_cases xI:x=h
     ·subst xI
      rw[Qm]
      exact A.Cc e i hi
     exact(Az xI).2.1 _
    by_cases xI:x=h
    ·subst xI
     rw[Qm]
     refine A.zN e i ?_ nD
     have:=lK es (show m≤m+k by omega)
     omega
    exact(Az xI).2.1 _
   obtain⟨_,r1,r2,r3⟩:=O.obj f' _ hC g x z
   refine⟨he,r1,ah,fun a1 _=>?_⟩
   have r3:=r3 a1 r2
   have X3:(∃c c' e fz,w.heap[x.ct]?=some (.cells c e fz)∧w'.heap[x.ct]?=some (.cells c' e fz)∧c'.size=c.size)∧∀off,off<m*es→w'.cell? ⟨x.ct,x.off+off,none⟩=w.cell? ⟨x.ct,x.off+off,none⟩:=by
    by_cases Z:x.ct=h.ct
    ·have ho:=O.uniq _ _ _ _ _ z hh Z
     rw[Z,ho]
     exact⟨U,Fw⟩
    have AB:=J _ (O.kB _ _ _ z) Z
    obtain⟨c,fz,hc,_⟩:=r3.row
    exact⟨⟨c,c,elem,fz,hc,by rw[AB];exact hc,rfl⟩,fun off _=>cell_of_heap (w:=w) AB⟩
   obtain⟨⟨c,c',e0,fz,q1,q2,q3⟩,q4⟩:=X3
   have Q':∀i,w'.frozen? ⟨x.ct,i,none⟩=w.frozen? ⟨x.ct,i,none⟩:=fun i=>by simp only[World.frozen?,q1,q2]
   obtain⟨c2,fz2,p1,p2⟩:=r3.row
   rw[q1] at p1
   cases p1
   refine⟨⟨c',fz,q2,ah⟩,r3.fits,fun i hi=>?_,fun e i hi=>?_,fun e i hi nD=>?_,r3.t8,fun e c1 t1 uq Y=>by
    rw[q2] at Y
    cases Y
    have:=lK es (show m≤m+k by omega)
    exact(r3.Aw e _ _ _ q1).imp_right (fun g=>by omega)⟩
   ·rw[uH,al ah]
    obtain⟨l,l1,l2,l3⟩:=r3.cell i hi
    refine⟨l,l1,l2,fun j u hu=>?_⟩
    obtain⟨k1,cv,k2,k3⟩:=l3 j u hu
    refine⟨k1,cv,?_,k3.mono hle⟩
    have hj:=rO hu
    have:=lK es (show i+1≤m by omega)
    rw[nX,tT] at this
    rw[nx,q4 (i*es+j) ah,←nx]
    exact k2
   ·rw[Q'];exact r3.Cc e i hi
   rw[Q']
   refine r3.zN e i ?_ nD
   have:=lK es (show m≤m+k by omega)
   omega
  rw[al e] at AA
  rcases Ho.kX z with⟨e',_,_⟩|z
  ·exact absurd e' e
  exact(O.obj f' o AA g x z).jo hle (Ql _ _ _ z e)
 ·intro f1 g1 x1 f2 g2 x2 e1 e2 I Z
  have c1:=Ho.kX e1
  have c2:=Ho.kX e2
  clear e1 e2
  have half:∀f' g' x,ρ f' g'=some x→f'≠f→x.ct≠h2.ct:=by
   intro f' g' x z I e
   rcases G with rfl|⟨a1,_⟩
   ·have:=O.oV _ _ _ _ _ _ z hh I e
    rw[K] at this
    exact absurd this.2 (by simp)
   have:=O.kB _ _ _ z
   omega
  rcases c1 with⟨e,_,rfl⟩|e1<;>rcases c2 with⟨e',_,rfl⟩|e2
  ·exact absurd (e.trans e'.symm) I
  ·exact absurd Z.symm (half _ _ _ e2 (fun e3=>I (e.trans e3.symm)))
  ·exact absurd Z (half _ _ _ e1 (fun e3=>I (e3.trans e'.symm)))
  exact O.oV _ _ _ _ _ _ e1 e2 I Z
 ·intro f' g' x z
  rcases Ho.kX z with⟨_,_,rfl⟩|z
  ·exact sM
  have:=O.kB _ _ _ z
  omega
 ·intro f' g1 x1 g2 x2 e1 e2 Z
  have c1:=Ho.kX e1
  have c2:=Ho.kX e2
  clear e1 e2
  have half:∀g' x,ρ f g'=some x→x.ct=h2.ct→x.off=h2.off:=by
   intro g' x z e
   rcases G with rfl|⟨a1,_⟩
   ·exact O.uniq _ _ _ _ _ z hh e
   have:=O.kB _ _ _ z
   omega
  rcases c1 with⟨e,_,rfl⟩|e1<;>rcases c2 with⟨e',_,rfl⟩|e2
  ·rfl
  ·subst e;exact(half _ _ e2 Z.symm).symm
  ·subst e';exact half _ _ e1 Z
  exact O.uniq _ _ _ _ _ e1 e2 Z
 intro f' g' x z o6 JQ
 rcases Ho.kX z with⟨_,_,rfl⟩|Ra
 ·rw[Qk] at o6;cases o6
 have k:=O.nf _ _ _ Ra o6 JQ
 have I:f'≠f:=fun e=>by
  subst e
  have:=k.1 _ _ hh
  rw[K] at this;cases this
 refine Ax.jo ⟨fun g2 x2 e2=>?_,k.2⟩ (cell_of_heap (w:=w) (Ql _ _ _ Ra I))
 rcases Ho.kX e2 with⟨e3,_,_⟩|e2
 ·exact absurd e3 I
 exact k.1 _ _ e2
end
end Go.Ev
