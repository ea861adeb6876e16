/- Part 3 of rules for walks through the code of a program, and of such walks; what each part proves is said by its theorems. -/
import Derived.Test.YtddbkonalipepaaGreatDoorS2
import Derived.Laws.Strings
set_option linter.unusedVariables false
set_option linter.unusedSimpArgs false
namespace Go.Ev
section
variable{P:Program}{ρ:Ho}{nt:Nat}{E:Env}{a:Act}{C:Nat→Option dP}{w:World}{H H':az}{v:an}{o:Oper}
theorem gJ{cv:Value}(h:(execOp a.eval o).run P w= .ok (.value cv) w)(z:R ρ C w)(A:VR ρ v cv):fb P o a w (dT ρ C w H v H):=
 .inl ⟨cv,w,h,dT.pure z A⟩
theorem JZ(z:AR P ρ nt E a)(A:R ρ C w){x:Operand}{y:aF}(ho:o.op= .move x∨o.op= .assign x)(G:dc P x=some y)
  (h:lZ y E H= .ok v H'):fb P o a w (dT ρ C w H v H'):=by
 replace h:=fe h;obtain⟨u,I,h⟩:=h
 cases h
 exact gJ (by rcases ho with ho|ho<;>simp[execOp,ho]) A (z.b9 G I)
theorem QN(I:AR P ρ nt E a)(O:R ρ C w){c x z:Operand}{U J K:aF}(ho:o.op= .pick c x z)(Y:dc P c=some U)(Z:dc P x=some J)(hz:dc P z=some K)
  (h:z7 U J K E H= .ok v H'):fb P o a w (dT ρ C w H v H'):=by
 replace h:=fe h;obtain⟨u,hu,h⟩:=h
 replace h:=Rr h;obtain⟨b,rfl,h⟩:=h
 have A:=I.b9 Y hu
 simp only[VR] at A
 cases b with
 |true=>
  obtain⟨u2,G,h⟩:=fe (show bA J E (.err 1) (fun v=>.ok v H)= .ok v H' from h)
  cases h
  exact gJ (by simp[execOp,ho,A,asBool]) O (I.b9 Z G)
 |false=>
  obtain⟨u2,G,h⟩:=fe (show bA K E (.err 1) (fun v=>.ok v H)= .ok v H' from h)
  cases h
  exact gJ (by simp[execOp,ho,A,asBool]) O (I.b9 hz G)
theorem P2(op:BinOp)(t:TypeId)(x y:Operand)(k z:IntKind)(m n:Int):(eqGuard op t x y (.int k m) (.int z n)).run P w= .ok () w:=by
 unfold eqGuard
 cases op<;>simp
theorem P3(op:BinOp)(t:TypeId)(x y:Operand)(k z:ByteArray):(eqGuard op t x y (.string k) (.string z)).run P w= .ok () w:=by
 unfold eqGuard
 cases op<;>simp
theorem yZ{op:BinOp}{k:IntKind}{m n r:Int}(h:intBits op k m n=some r):(Op.intBits op k m n).run P w= .ok (.int k r) w:=by
 unfold intBits at h
 unfold Op.intBits
 cases op<;>simp_all
theorem mY{k z:IntKind}{r:Option an}{u:an}(h:aH (Nat.beq (dk k) (dk z)) r none=some u):k=z∧r=some u:=by
 rw[qU] at h
 split at h
 ·rename_i hk
  exact⟨Cg hk,h⟩
 cases h
theorem CE{b:Bool}{r:Option an}{u:an}(h:aH b none r=some u):b=false∧r=some u:=by
 cases b
 ·exact⟨rfl,h⟩
 cases h
theorem xn{α β:Type}{x:Option α}{k:α→Option β}{u:β}(h:ob x none k=some u):∃y,x=some y∧k y=some u:=by
 cases x with
 |none=>cases h
 |some y=>exact⟨y,rfl,h⟩
theorem Ru{op:BinOp}{k I:IntKind}{m n:Int}{u:an}(t:TypeId)(h:iT op k m I n=some u):
  ∃cv,(binOp op t (.int k m) (.int I n)).run P w= .ok cv w∧VR ρ u cv:=by
 cases op with
 |shl=>
  simp only[iT] at h
  obtain⟨A,h⟩:=CE h
  rw[pG,fq] at A
  cases h
  refine⟨.int k (k.wrap (m*2^(min n.toNat k.bits))),?_,by simp only[VR,mX]⟩
  simp only[binOp,Op.shift,aj A]
  rfl
 |shr=>
  simp only[iT] at h
  obtain⟨A,h⟩:=CE h
  rw[pG,fq] at A
  cases h
  refine⟨.int k (m.fdiv (2^(min n.toNat k.bits))),?_,by simp only[VR]⟩
  simp only[binOp,Op.shift,aj A]
  rfl
 |quo=>
  simp only[iT] at h
  have z:=mY h;clear h;obtain⟨rfl,h⟩:=z
  obtain⟨A,h⟩:=CE h
  rw[tE,fq] at A
  cases h
  exact⟨.int k (k.wrap (m.tdiv n)),by simp[binOp,Op.intDiv,A],by simp only[VR,mX]⟩
 |rem=>
  simp only[iT] at h
  have z:=mY h;clear h;obtain⟨rfl,h⟩:=z
  obtain⟨A,h⟩:=CE h
  rw[tE,fq] at A
  cases h
  exact⟨.int k (m.tmod n),by simp[binOp,Op.intDiv,A],by simp only[VR]⟩
 |and=>
  simp only[iT] at h
  have z:=mY h;clear h;obtain⟨rfl,h⟩:=z
  obtain⟨r,G,h⟩:=xn h
  cases h
  exact⟨_,by simp only[binOp,ne_eq,not_true_eq_false,if_false];exact yZ G,by simp only[VR]⟩
 |or=>
  simp only[iT] at h
  have z:=mY h;clear h;obtain⟨rfl,h⟩:=z
  obtain⟨r,G,h⟩:=xn h
  cases h
  exact⟨_,by simp only[binOp,ne_eq,not_true_eq_false,if_false];exact yZ G,by simp only[VR]⟩
 |xor=>
  simp only[iT] at h
  have z:=mY h;clear h;obtain⟨rfl,h⟩:=z
  obtain⟨r,G,h⟩:=xn h
  cases h
  exact⟨_,by simp only[binOp,ne_eq,not_true_eq_false,if_false];exact yZ G,by simp only[VR]⟩
 |andNot=>
  simp only[iT] at h
  have z:=mY h;clear h;obtain⟨rfl,h⟩:=z
  obtain⟨r,G,h⟩:=xn h
  cases h
  exact⟨_,by simp only[binOp,ne_eq,not_true_eq_false,if_false];exact yZ G,by simp only[VR]⟩
 |add=>
  simp only[iT] at h
  have z:=mY h;clear h;obtain⟨rfl,h⟩:=z
  cases h
  exact⟨.int k (k.wrap (m+n)),by simp[binOp,Op.intArith],by simp only[VR,mX]⟩
 |sub=>
  simp only[iT] at h
  have z:=mY h;clear h;obtain⟨rfl,h⟩:=z
  cases h
  exact⟨.int k (k.wrap (m-n)),by simp[binOp,Op.intArith],by simp only[VR,mX]⟩
 |mul=>
  simp only[iT] at h
  have z:=mY h;clear h;obtain⟨rfl,h⟩:=z
  cases h
  exact⟨.int k (k.wrap (m*n)),by simp[binOp,Op.intArith],by simp only[VR,mX]⟩
 |eql=>
  simp only[iT] at h
  have z:=mY h;clear h;obtain⟨rfl,h⟩:=z
  cases h
  exact⟨.bool (m==n),by simp[binOp,Op.intCmp],by simp only[VR,tE];rfl⟩
 |neq=>
  simp only[iT] at h
  have z:=mY h;clear h;obtain⟨rfl,h⟩:=z
  cases h
  exact⟨.bool (m !=n),by simp[binOp,Op.intCmp],by simp only[VR,tE];rfl⟩
 |lss=>
  simp only[iT] at h
  have z:=mY h;clear h;obtain⟨rfl,h⟩:=z
  cases h
  exact⟨.bool (decide (m<n)),by simp[binOp,Op.intCmp],by simp only[VR,pG]⟩
 |gtr=>
  simp only[iT] at h
  have z:=mY h;clear h;obtain⟨rfl,h⟩:=z
  cases h
  exact⟨.bool (decide (m>n)),by simp[binOp,Op.intCmp],by simp only[VR,pG]⟩
 |leq=>
  simp only[iT] at h
  have z:=mY h;clear h;obtain⟨rfl,h⟩:=z
  cases h
  refine⟨.bool (decide (m≤n)),by simp[binOp,Op.intCmp],?_⟩
  simp only[VR,pG,Value.bool.injEq]
  rw[fQ]
  simp
 |geq=>
  simp only[iT] at h
  have z:=mY h;clear h;obtain⟨rfl,h⟩:=z
  cases h
  refine⟨.bool (decide (m≥n)),by simp[binOp,Op.intCmp],?_⟩
  simp only[VR,pG,Value.bool.injEq]
  rw[fQ]
  simp
theorem Fq:∀(a b:List UInt8),(!(Op.bytesLess a b||a==b))=Op.bytesLess b a
 |[],[]=>rfl
 |[],_::_=>rfl
 |_::_,[]=>rfl
 |x::r,y::s=>by
  simp only[Op.bytesLess,List.cons_beq_cons]
  rw[←Fq r s]
  rcases Hw x.toNat y.toNat with h|h|h
  ·have A:x<y:=UInt8.lt_iff_toNat_lt.2 h
   have h2:¬y<x:=by rw[AA];omega
   have z:x≠y:=fun e=>by subst e;omega
   have G:y≠x:=fun e=>z e.symm
   simp[A,h2,z,G]
  ·have h0:x=y:=UInt8.toNat_inj.1 h
   subst h0
   have h2:¬x<x:=by rw[AA];omega
   simp[h2]
  have A:y<x:=UInt8.lt_iff_toNat_lt.2 h
  have h2:¬x<y:=by rw[AA];omega
  have z:x≠y:=fun e=>by subst e;omega
  have G:y≠x:=fun e=>z e.symm
  simp[A,h2,z,G]
theorem Rv{op:BinOp}{s t:ByteArray}{u:an}(ty:TypeId)(h:GF op s.size (pack s.data.toList) t.size (pack t.data.toList)=some u):
  ∃cv,(binOp op ty (.string s) (.string t)).run P w= .ok cv w∧VR ρ u cv:=by
 have G:s.size=s.data.toList.length:=by rw[nh];rfl
 have I:t.size=t.data.toList.length:=by rw[nh];rfl
 have z:s.toList=s.data.toList:=ByteArray.toList_eq s
 have dR:t.toList=t.data.toList:=ByteArray.toList_eq t
 unfold GF at h
 cases op<;>simp only[reduceCtorEq] at h
 case add=>
  rw[qU] at h
  split at h
  ·rename_i A
   have A:=bS A
   cases h
   refine⟨.string (s++t),?_,?_⟩
   ·have J:¬(IntKind.i64.max<((s.size+t.size:Nat):Int)):=by
     have:IntKind.i64.max=9223372036854775807:=rfl
     rw[this]
     have:s.size+t.size≤4611686018427387904:=A
     omega
    simp only[binOp,Op.stringOp]
    rw[aj (by simpa using J)]
    rfl
   simp only[VR]
   refine⟨s++t,rfl,by simp,?_⟩
   have e:(s++t).data.toList=s.data.toList++t.data.toList:=by simp
   rw[e,←Jk,G]
  cases h
 all_goals
  cases h
  rw[G,I]
  simp only[BF,JE]
 case eql=>exact⟨.bool (s.data.toList==t.data.toList),by simp[binOp,Op.stringOp,z,dR],by simp only[VR,Value.bool.injEq];rw[fQ];simp⟩
 case neq=>exact⟨.bool (!(s.data.toList==t.data.toList)),by simp[binOp,Op.stringOp,z,dR],by simp only[VR,Value.bool.injEq];rw[fQ];simp⟩
 case lss=>exact⟨.bool (Op.bytesLess s.data.toList t.data.toList),by simp[binOp,Op.stringOp,z,dR],by simp only[VR]⟩
 case geq=>exact⟨.bool (!Op.bytesLess s.data.toList t.data.toList),by simp[binOp,Op.stringOp,z,dR],by simp only[VR]⟩
 case gtr=>
  refine⟨.bool (!(Op.bytesLess s.data.toList t.data.toList||s.data.toList==t.data.toList)),by simp[binOp,Op.stringOp,z,dR],?_⟩
  simp only[VR,Value.bool.injEq]
  exact Fq _ _
 case leq=>
  refine⟨.bool (Op.bytesLess s.data.toList t.data.toList||s.data.toList==t.data.toList),by simp[binOp,Op.stringOp,z,dR],?_⟩
  simp only[VR,Value.bool.injEq]
  have:=Fq s.data.toList t.data.toList
  rw[←this,Bool.not_not]
theorem J0(O:AR P ρ nt E a)(U:R ρ C w){op:BinOp}{t t':TypeId}{x z:Operand}{Y Z:aF}(ho:o.op= .binOp op t x z t')(hx:dc P x=some Y)(hz:dc P z=some Z)
  (h:AH op Y Z E H= .ok v H'):fb P o a w (dT ρ C w H v H'):=by
 replace h:=fe h;obtain⟨u,hu,h⟩:=h
 replace h:=fe h;obtain⟨u2,I,h⟩:=h
 rw[Cf] at h
 replace h:=jm h;obtain⟨r,A,h⟩:=h
 rw[ta] at h
 cases h
 have G:=O.b9 hx hu
 have h2:=O.b9 hz I
 unfold AF at A
 split at A
 ·simp only[VR] at G h2
  obtain⟨cv,J,K⟩:=Ru (P:=P) (ρ:=ρ) (w:=w) t A
  exact gJ (by simp[execOp,ho,G,h2,P2,J]) U K
 ·simp only[VR] at G h2
  obtain⟨s1,e1,rfl,rfl⟩:=G
  obtain⟨s2,e2,rfl,rfl⟩:=h2
  obtain⟨cv,J,K⟩:=Rv (P:=P) (ρ:=ρ) (w:=w) t A
  exact gJ (by simp[execOp,ho,e1,e2,P3,J]) U K
 cases A
theorem Sg(K:AR P ρ nt E a)(G:R ρ C w){op:UnOp}{t:TypeId}{x:Operand}{J:aF}(ho:o.op= .unOp op t x)(O:dc P x=some J)
  (h:A2 op J E H= .ok v H'):fb P o a w (dT ρ C w H v H'):=by
 replace h:=fe h;obtain⟨u,U,h⟩:=h
 replace h:=jm h;obtain⟨r,z,h⟩:=h
 rw[ta] at h
 cases h
 have A:=K.b9 O U
 unfold EU at z
 split at z
 ·rename_i k n
  simp only[VR] at A
  cases z
  exact gJ (cv:=.int k (IntKind.wrap k (0-n))) (by simp[execOp,ho,A,Op.unary,Op.intArith]) G (by simp only[VR,mX])
 ·simp only[VR] at A
  obtain⟨Y,I,z⟩:=xn z
  cases z
  exact gJ (by simp only[execOp,ho,A,Op.unary,Sem.run_bind,yZ I,Result.andThen_ok];rfl) G (by simp only[VR])
 ·simp only[VR] at A
  cases z
  exact gJ (by simp[execOp,ho,A,Op.unary];rfl) G (by simp only[VR])
 cases z
theorem QO(K:AR P ρ nt E a)(O:R ρ C w){s:TypeId}{x:Operand}{f:Nat}{I:aF}{J:Array Field}{z:Field}{i:TypeInfo}(ho:o.op= .fieldAddr s x f)(U:dc P x=some I)
  (Y:P.underlying s=some (.struct J)) (Z:J[f]?=some z) (hi:P.info? z.type=some i) (h0:i.size≠0) (h:Aa I z.offset E H= .ok v H'):fb P o a w (dT ρ C w H v H'):=by
 replace h:=fe h;obtain⟨u,hu,h⟩:=h
 replace h:=vn h;obtain⟨f1,g1,o1,rfl,h⟩:=h
 rw[iq] at h
 cases h
 have A:=K.b9 U hu
 simp only[VR] at A
 obtain⟨G,hh,A⟩:=A
 refine gJ (cv:=.pointer (some ⟨G.b8,G.off+(o1+z.offset),none⟩)) ?_ O ?_
 ·simp[execOp,ho,A,Instr.fieldAt,run_underlying Y,Z,Instr.sureAddr,fieldPlace,sizeOf,typeInfo,hi,h0,Addr.add_lit,nf]
 simp only[VR]
 exact⟨G,hh,rfl⟩
theorem QP(J:AR P ρ nt E a)(K:R ρ C w){x:Operand}{i:Nat}{I:aF}(ho:o.op= .extract x i)(O:dc P x=some I)
  (h:Ac I i E H= .ok v H'):fb P o a w (dT ρ C w H v H'):=by
 replace h:=fe h;obtain⟨u,U,h⟩:=h
 replace h:=QM h;obtain⟨l,rfl,h⟩:=h
 replace h:=jm h;obtain⟨r,Y,h⟩:=h
 cases h
 have z:=J.b9 O U
 simp only[VR] at z
 obtain⟨vs,z,A⟩:=z
 obtain⟨y,Z,A⟩:=A.get i _ Y
 have G:vs[i]?=some y:=by simpa using Z
 exact gJ (by simp[execOp,ho,z,Instr.extract,G]) K A
theorem Qp(I:AR P ρ nt E a)(A:R ρ C w){x:Operand}{G:aF}(ho:o.op= .nilCheck x)(J:dc P x=some G)
  (h:zL G E H= .ok v H'):fb P o a w (dT ρ C w H v H'):=by
 replace h:=fe h;obtain⟨u,K,h⟩:=h
 replace h:=fD h;obtain⟨O,h⟩:=h
 cases h
 have z:=I.b9 J K
 cases v<;>simp only[w4,pR] at O
 ·have h2:=z
  simp only[VR] at z
  obtain⟨U,_,z⟩:=z
  exact gJ (by simp[execOp,ho,z];rfl) A (by rw[←z];exact h2)
 have h2:=z
 simp only[VR] at z
 obtain⟨_,vs,z,_⟩:=z
 exact gJ (by simp[execOp,ho,z];rfl) A (by rw[←z];exact h2)
theorem QQ(I:AR P ρ nt E a)(J:R ρ C w){f:Nat}{first eD:Array Operand}{z A:List aF}(ho:o.op= .makeFunc (.func f) first eD)(K:kW P first.toList=some z)(O:kW P eD.toList=some A)
  (h:Ad f z A E H= .ok v H'):fb P o a w (dT ρ C w H v H'):=by
 replace h:=jm h;obtain⟨Z,G,h⟩:=h
 replace h:=jm h;obtain⟨vs,U,h⟩:=h
 cases h
 have h0:=I.dA K G
 have Y:=I.dA O U
 refine gJ (cv:=.func (.func f) (first.map a.eval) (eD.map a.eval)) (by simp[execOp,ho,Instr.makeFunc]) J ?_
 simp only[VR]
 exact⟨_,_,rfl,by simpa using h0,by simpa using Y⟩
theorem QR(A:AR P ρ nt E a)(G:R ρ C w){t:TypeId}{x:Operand}{z:aF}{d:TypeDesc}(ho:o.op= .makeInterface t x)(I:P.underlying t=some d)(J:∀ms,d≠.interface ms)(K:dc P x=some z)
  (h:Ae t z E H= .ok v H'):fb P o a w (dT ρ C w H v H'):=by
 replace h:=fe h;obtain⟨u,O,h⟩:=h
 cases h
 have U:=A.b9 K O
 refine gJ (cv:=.iface t (a.eval x)) ?_ G ?_
 ·cases d<;>first|exact absurd rfl (J _)|simp[execOp,ho,Instr.makeInterface,run_underlying I]
 simp only[VR]
 exact⟨_,rfl,U⟩
end
section
variable{P:Program}{ρ:Ho}{nt:Nat}{E:Env}{a:Act}{C:Nat→Option dP}{w:World}{H H':az}{v:an}{o:Oper}
theorem th{t:TypeId}{n:Nat}(h:jx P t=some n):∃i d,P.info? t=some i∧P.underlying t=some d∧i.size=n∧n≠0:=by
 unfold jx at h
 split at h
 ·rename_i i d hi z
  split at h
  ·rename_i A
   cases h
   exact⟨i,d,hi,z,rfl,A⟩
  cases h
 cases h
theorem tb{t:TypeId}{n:Nat}(h:jx P t=some n)(w:World):(sizeOf t).run P w= .ok n w:=by
 obtain⟨i,d,hi,_,e,_⟩:=th h
 simp[sizeOf,typeInfo,hi,e]
theorem FC{t:TypeId}{n:Nat}(h:jx P t=some n)(w:World):(isAgg t).run P w= .ok (pE P t) w:=by
 obtain⟨i,d,_,z,_,_⟩:=th h
 unfold isAgg pE
 rw[z]
 cases d<;>simp[run_underlying z]
theorem Ls{t:TypeId}{n off e:Nat}{l:List an}{cs:Array Value}(U:jx P t=some n)(Y:cw ρ l cs.toList)(A:l.all gZ=true)(hle:off+n≤l.length)
  (h:iG (pE P t) ((l.drop off).take n) (.err e) (fun v=>.ok v H)= .ok v H'):H'=H∧∃cv,(part t cs off).run P w= .ok cv w∧VR ρ v cv:=by
 replace h:=Gk h
 have I:=tb U w
 have z:=FC U w
 rcases h with⟨J,h⟩|⟨x,J,Z,h⟩
 ·cases h
  refine⟨rfl,.agg (cs.extract off (off+n)),?_,?_⟩
  ·rw[J] at z
   simp[part,z,I]
  simp only[VR]
  refine⟨_,rfl,?_,?_⟩
  ·have e1:(cs.extract off (off+n)).toList=(cs.toList.drop off).take n:=by
    rw[Hx,Of,show off+n-off=n by omega]
   rw[e1]
   exact(Y.drop off).take n
  rw[Eh] at A⊢
  exact fun x K=>A x (Og (Hy K))
 cases h
 have K:l[off]?=some v:=by
  have G:((l.drop off).take n)[0]?=some v:=by rw[Z];rfl
  rw[A0] at G
  split at G
  ·rw[sH] at G
   simpa using G
  cases G
 obtain⟨y,hy,k⟩:=Y.get off v K
 have O:cs[off]?=some y:=by simpa using hy
 refine⟨rfl,y,?_,k⟩
 rw[J] at z
 simp[part,z,O]
theorem Rw(U:AR P ρ nt E a)(Y:R ρ C w){s:TypeId}{x:Operand}{f n:Nat}{K:aF}{O:Array Field}{z:Field}(ho:o.op= .field s x f)(Z:dc P x=some K)
  (hs:P.underlying s=some (.struct O)) (hf:O[f]?=some z) (hn:jx P z.type=some n) (h:AI K z.offset n (pE P z.type) E H= .ok v H'):fb P o a w (dT ρ C w H v H'):=by
 replace h:=fe h;obtain⟨u,hu,h⟩:=h
 replace h:=KG h;obtain⟨l,rfl,h⟩:=h
 replace h:=fD h;obtain⟨A,h⟩:=h
 rw[oq] at A
 have A:=bS A
 have G:=U.b9 Z hu
 simp only[VR] at G
 obtain⟨vs,G,hv,I⟩:=G
 obtain⟨rfl,cv,hc,J⟩:=Ls (P:=P) (ρ:=ρ) (w:=w) hn hv I A h
 exact gJ (by simp[execOp,ho,G,Instr.field,run_underlying hs,hf,asAgg,hc]) Y J
theorem Qd(J:AR P ρ nt E a)(U:R ρ C w){t e:TypeId}{x i:Operand}{K O:aF}{k n:Nat}(ho:o.op= .indexAddr t x i)(Y:dc P x=some K)(hi:dc P i=some O)
  (Z:P.underlying t=some (.array k e)) (hn:jx P e=some n) (h:zj k n K O E H= .ok v H'):fb P o a w (dT ρ C w H v H'):=by
 replace h:=fe h;obtain⟨u,hu,h⟩:=h
 replace h:=vn h;obtain⟨f1,g1,o1,rfl,h⟩:=h
 replace h:=fe h;obtain⟨u2,A,h⟩:=h
 replace h:=CB h;obtain⟨kd,j,rfl,hj,h⟩:=h
 rw[iq] at h
 cases h
 have z:=J.b9 Y hu
 have h2:=J.b9 hi A
 simp only[VR] at z h2
 obtain⟨G,hh,z⟩:=z
 have I:(j:Int)<(k:Int):=by omega
 refine gJ (cv:=.pointer (some ⟨G.b8,G.off+(o1+j*n),none⟩)) ?_ U ?_
 ·simp[execOp,ho,z,h2,Instr.indexAt,run_underlying Z,asIntOf,Instr.sureAddr,tb hn,Addr.add_lit,nf,I,hj]
 simp only[VR]
 exact⟨G,hh,rfl⟩
theorem Qq(J:AR P ρ nt E a)(Y:R ρ C w){t e:TypeId}{x i:Operand}{K O:aF}{n:Nat}(ho:o.op= .indexAddr t x i)(Z:dc P x=some K)(hi:dc P i=some O)
  (ht:P.underlying t=some (.slice e)) (hn:jx P e=some n) (h:zJ n K O E H= .ok v H'):fb P o a w (dT ρ C w H v H'):=by
 replace h:=fe h;obtain⟨u,hu,h⟩:=h
 replace h:=wG h
 rcases h with⟨_,h⟩|⟨f1,g1,o1,l1,es,rfl,h⟩
 ·cases h
 replace h:=fe h;obtain⟨u2,A,h⟩:=h
 replace h:=CB h;obtain⟨kd,j,rfl,hj,h⟩:=h
 rw[iq] at h
 cases h
 have z:=J.b9 Z hu
 have h2:=J.b9 hi A
 simp only[VR] at z h2
 obtain⟨G,ad,cap,hh,z,uT,U⟩:=z
 rcases U with⟨rfl,U⟩|⟨hz,_⟩
 ·have I:(j:Int)<(l1:Int):=by omega
  refine gJ (cv:=.pointer (some ⟨G.b8,G.off+(o1+j*n),none⟩)) ?_ Y ?_
  ·simp[execOp,ho,z,h2,Instr.indexAt,run_underlying ht,asIntOf,Instr.sureAddr,tb hn,Addr.add_lit,nf,I,hj]
  simp only[VR]
  exact⟨G,hh,rfl⟩
 omega
theorem Qe(U:AR P ρ nt E a)(hR:R ρ C w){t e:TypeId}{x i:Operand}{Y Z:aF}{k n:Nat}(ho:o.op= .index t x i)(hx:dc P x=some Y)(hi:dc P i=some Z)
  (ht:P.underlying t=some (.array k e)) (hn:jx P e=some n) (h:zk k n (pE P e) Y Z E H= .ok v H'):fb P o a w (dT ρ C w H v H'):=by
 replace h:=fe h;obtain⟨u,hu,h⟩:=h
 replace h:=KG h;obtain⟨l,rfl,h⟩:=h
 replace h:=fe h;obtain⟨u2,G,h⟩:=h
 replace h:=CB h;obtain⟨kd,j,rfl,hj,h⟩:=h
 replace h:=fD h;obtain⟨z,h⟩:=h
 rw[oq] at z
 have z:=bS z
 have A:=U.b9 hx hu
 have h2:=U.b9 hi G
 simp only[VR] at A h2
 obtain⟨vs,A,hv,I⟩:=A
 have J:(j:Int)<(k:Int):=by omega
 obtain⟨rfl,cv,hc,K⟩:=Ls (P:=P) (ρ:=ρ) (w:=w) hn hv I z h
 have O:(part e vs (j*n)).run P w= .ok cv w:=hc
 exact gJ (by simp[execOp,ho,A,h2,Instr.index,asIntOf,run_underlying ht,tb hn,J,hj,O]) hR K
theorem Qf(I:AR P ρ nt E a)(O:R ρ C w){t:TypeId}{x i:Operand}{J K:aF}(ho:o.op= .index t x i)(U:dc P x=some J)(hi:dc P i=some K)
  (Y:P.underlying t=some .string) (h:zl J K E H= .ok v H'):fb P o a w (dT ρ C w H v H'):=by
 replace h:=fe h;obtain⟨u,Z,h⟩:=h
 replace h:=wR h;obtain⟨l,s,rfl,h⟩:=h
 replace h:=fe h;obtain⟨u2,A,h⟩:=h
 replace h:=CB h;obtain⟨kd,j,rfl,hj,h⟩:=h
 rw[iq] at h
 cases h
 have z:=I.b9 U Z
 have h2:=I.b9 hi A
 simp only[VR] at z h2
 obtain⟨b,z,rfl,rfl⟩:=z
 have nu:b.size=b.data.toList.length:=by rw[nh];rfl
 have G:j<b.data.toList.length:=by omega
 have hb:b[j]?=some (b.data.toList[j]):=by
  rw[getElem?_pos b j (by omega)]
  rfl
 refine gJ (cv:=.int .u8 (vH (pack b.data.toList) j)) ?_ O (by simp only[VR];rfl)
 rw[Ji _ _ G]
 have h3:(0:Int)≤(j:Int):=by omega
 simp only[execOp,ho,z,h2,Instr.index,asIntOf,Sem.run_bind,Sem.run_pure,Result.andThen_ok,run_underlying Y,aq h3,Ei,hb]
end
section
variable{P:Program}{ρ:Ho}{nt:Nat}{E:Env}{a:Act}{C:Nat→Option dP}{w:World}{H H':az}{v:an}{o:Oper}
theorem Lt(K:AR P ρ nt E a){x:Option Operand}{I:Option aF}{d y n:Nat}{k:Nat→aD}(A:pF P x=some I)(h:gQ E I d y (.err n) k= .ok v H')(O:d≤y):
  ∃i:Nat,i≤y∧k i= .ok v H'∧((x=none∧i=d)∨∃z G,x=some z∧a.eval z= .int G i):=by
 replace h:=UH h
 rcases h with⟨rfl,h⟩|⟨z,G,i,rfl,U,hi,h⟩
 ·refine⟨d,O,h,.inl ⟨?_,rfl⟩⟩
  cases x with
  |none=>rfl
  |some u=>simp only[pF] at A;split at A<;>cases A
 cases x with
 |none=>simp[pF] at A
 |some u=>
  simp only[pF] at A
  split at A
  ·rename_i Z Y
   cases A
   have J:=K.b9 Y U
   simp only[VR] at J
   exact⟨i,hi,h,.inr ⟨u,G,rfl,J⟩⟩
  cases A
theorem run_sliceBound{z:IntKind}{i y:Nat}(h:i≤y)(code:BoundsCode):(Instr.sliceBound (.int z i) y code).run P w= .ok i w:=by
 have A:(i:Int)≤(y:Int):=by omega
 simp[Instr.sliceBound,asIntOf,h]
theorem FD(Y:AR P ρ nt E a){lo hi:Option Operand}{A G:Option aF}{I cap n:Nat}{k:Nat→Nat→aD}{EW:Bool}(K:pF P lo=some A)(O:pF P hi=some G)(hc:I≤cap)
  (h:(gQ E G I I (.err n) fun h=>gQ E A 0 h (.err n) fun l=>k h l)= .ok v H'):
  ∃l h:Nat,l≤h∧h≤I∧k h l= .ok v H'∧(Instr.sliceBounds EW I cap (lo.map a.eval) (hi.map a.eval) none).run P w= .ok (l,h,cap) w:=by
 obtain⟨Z,h1,h,hx⟩:=Lt Y O h (bY _)
 obtain⟨l,h2,h,hy⟩:=Lt Y K h (dh _)
 refine⟨l,Z,h2,h1,h,?_⟩
 rcases hx with⟨rfl,rfl⟩|⟨z,kd,rfl,e⟩
 ·rcases hy with⟨rfl,rfl⟩|⟨z2,U,rfl,e2⟩
  ·simp[Instr.sliceBounds]
  simp[Instr.sliceBounds,e2,run_sliceBound h2]
 have J:Z≤cap:=by omega
 rcases hy with⟨rfl,rfl⟩|⟨z2,U,rfl,e2⟩
 ·simp[Instr.sliceBounds,e,run_sliceBound J]
 simp[Instr.sliceBounds,e,e2,run_sliceBound J,run_sliceBound h2]
theorem Qr(O:AR P ρ nt E a)(hR:R ρ C w){t:TypeId}{x:Operand}{U:aF}{lo hi:Option Operand}{z A:Option aF}(ho:o.op= .slice t x lo hi none)(hx:dc P x=some U)
  (J:pF P lo=some z) (K:pF P hi=some A) (ht:P.underlying t=some .string) (h:zK U z A E H= .ok v H'):fb P o a w (dT ρ C w H v H'):=by
 replace h:=fe h;obtain⟨u,hu,h⟩:=h
 replace h:=wR h;obtain⟨l,s,rfl,h⟩:=h
 have I:=O.b9 hx hu
 simp only[VR] at I
 obtain⟨b,I,rfl,rfl⟩:=I
 obtain⟨l,Y,hle,Z,h,G⟩:=FD (w:=w) (EW:=false) O J K (bY _) h
 rw[iq,iq] at h
 cases h
 have nu:b.size=b.data.toList.length:=by rw[nh];rfl
 refine gJ (cv:=.string (b.extract l Y)) ?_ hR ?_
 ·simp[execOp,ho,I,Instr.sliceAt,Instr.slice,run_underlying ht,G]
 simp only[VR]
 refine⟨_,rfl,?_,?_⟩
 ·rw[ByteArray.size_extract]
  show Y-l=_
  omega
 rw[Jj]
 congr 1
 rw[ByteArray.data_extract,Hx,Of]
theorem QS(hA:AR P ρ nt E a)(hR:R ρ C w){t e:TypeId}{x:Operand}{x':aF}{n:Nat}{lo hi:Option Operand}{I J:Option aF}(ho:o.op= .slice t x lo hi none)(hx:dc P x=some x')
  (K:pF P lo=some I) (O:pF P hi=some J) (ht:P.underlying t=some (.slice e)) (hn:jx P e=some n) (h:Ab n x' I J E H= .ok v H'):fb P o a w (dT ρ C w H v H'):=by
 replace h:=fe h;obtain⟨u,hu,h⟩:=h
 replace h:=wG h
 have A:=hA.b9 hx hu
 rcases h with⟨rfl,h⟩|⟨f1,g1,o1,l1,es,rfl,h⟩
 ·simp only[VR] at A
  obtain⟨l,U,hle,Y,h,z⟩:=FD (w:=w) (EW:=true) hA K O (bY _) h
  cases h
  have:l=0:=by omega
  subst this
  have:U=0:=by omega
  subst this
  refine gJ (cv:=.slice none 0 0) ?_ hR (by simp only[VR])
  simp[execOp,ho,A,Instr.sliceAt,Instr.slice,run_underlying ht,z,tb hn]
 replace h:=fD h;obtain⟨hb,h⟩:=h
 have:=d8 hb
 subst this
 simp only[VR] at A
 obtain⟨hm,ad,cap,O5,A,uT,G⟩:=A
 obtain⟨l,U,hle,Y,h,z⟩:=FD (w:=w) (EW:=true) hA K O uT h
 rw[iq,iq] at h
 cases h
 have Z:=(th hn)
 obtain⟨_,_,_,_,_,Z⟩:=Z
 refine gJ (cv:=.slice (some (if cap=l then ad else ad.add (l*n))) (U-l) (cap-l)) ?_ hR ?_
 ·simp only[execOp,ho,A,Instr.sliceAt,Instr.slice,Sem.run_bind,run_underlying ht,Result.andThen_ok,z,tb hn,Option.map_none,Sem.run_pure,uH]
  by_cases hc:cap=l<;>simp[hc]
 simp only[VR]
 refine⟨hm,_,_,O5,rfl,by show U-l≤cap-l;omega,?_⟩
 show HM hm (if cap=l then ad else ad.add (l*n)) (U-l) (cap-l) (o1+l*n) n
 unfold HM at G⊢
 rcases G with⟨rfl,G⟩|⟨hz,hc0,ho0⟩
 ·by_cases hc:cap=l
  ·rw[aq hc]
   by_cases nW:l=0
   ·left
    subst nW
    refine⟨by simp,?_⟩
    rw[hc] at G⊢
    simpa using G
   right
   refine⟨by omega,by omega,?_⟩
   have:0<l*n:=Nat.mul_pos (by omega) (by omega)
   omega
  rw[aj hc]
  left
  refine⟨by simp[Addr.add_lit,nf],?_⟩
  rw[nf,←nM,show l+(cap-l)=cap by omega]
  exact G
 right
 refine⟨by omega,by omega,by omega⟩
theorem QT(z:R ρ C w){c:Call}{x:Operand}{t e:TypeId}{n:Nat}(ho:o.op= .call c)(A:c.callee= .builtin .len)(G:c.args=#[x])(I:c.argTypes[0]?=some t)(J:P.underlying t=some (.array n e))
  (h:NR n E H= .ok v H'):fb P o a w (dT ρ C w H v H'):=by
 cases h
 exact gJ (cv:=.int .i64 n) (by simp[execOp,ho,resolve,A,G,invoke,builtin,Builtin.len_,I,run_underlying J,goInt]) z (by simp only[VR];rfl)
theorem QU(J:AR P ρ nt E a)(K:R ρ C w){c:Call}{x:Operand}{I:aF}{t:TypeId}(ho:o.op= .call c)(O:c.callee= .builtin .len)(U:c.args=#[x])(A:dc P x=some I)
  (Y:c.argTypes[0]?=some t) (Z:P.underlying t=some .string) (h:Ag I E H= .ok v H'):fb P o a w (dT ρ C w H v H'):=by
 replace h:=fe h;obtain⟨u,G,h⟩:=h
 have z:=J.b9 A G
 replace h:=wR h;obtain⟨l,s,rfl,h⟩:=h
 cases h
 simp only[VR] at z
 obtain⟨b,z,rfl,rfl⟩:=z
 exact gJ (cv:=.int .i64 b.size) (by simp[execOp,ho,resolve,O,U,invoke,builtin,Builtin.len_,Y,run_underlying Z,goInt,z]) K (by simp only[VR];rfl)
theorem Rx(Z:AR P ρ nt E a)(I:R ρ C w){c:Call}{x:Operand}{J:aF}{t e:TypeId}(ho:o.op= .call c)(K:c.callee= .builtin .len)(O:c.args=#[x])(A:dc P x=some J)
  (U:c.argTypes[0]?=some t) (Y:P.underlying t=some (.slice e)) (h:AJ J E H= .ok v H'):fb P o a w (dT ρ C w H v H'):=by
 replace h:=fe h;obtain⟨u,G,h⟩:=h
 have z:=Z.b9 A G
 replace h:=wG h
 rcases h with⟨rfl,h⟩|⟨f,g,o1,l,es,rfl,h⟩
 ·cases h
  simp only[VR] at z
  exact gJ (cv:=.int .i64 0) (by simp[execOp,ho,resolve,K,O,invoke,builtin,Builtin.len_,U,run_underlying Y,goInt,z]) I (by simp only[VR];rfl)
 cases h
 simp only[VR] at z
 obtain⟨hm,ad,cap,O5,z,uT,hs⟩:=z
 exact gJ (cv:=.int .i64 l) (by simp[execOp,ho,resolve,K,O,invoke,builtin,Builtin.len_,U,run_underlying Y,goInt,z]) I (by simp only[VR];rfl)
theorem QV(G:AR P ρ nt E a)(I:R ρ C w){src dst:TypeId}{k J:IntKind}{x:Operand}{z:aF}(ho:o.op= .convert src dst x)(K:dc P x=some z)(O:P.underlying src=some (.int J))(U:P.underlying dst=some (.int k))
  (h:Ah k z E H= .ok v H'):fb P o a w (dT ρ C w H v H'):=by
 replace h:=fe h;obtain⟨u,Y,h⟩:=h
 replace h:=rM h;obtain⟨Z,n,rfl,h⟩:=h
 rw[rJ] at h
 cases h
 have A:=G.b9 K Y
 simp only[VR] at A
 exact gJ (cv:=.int k (k.wrap n)) (by simp[execOp,ho,A,convert,run_underlying O,run_underlying U,Conv.intToInt]) I (by simp only[VR,mX])
end
section
variable{P:Program}{ρ:Ho}{nt:Nat}{E:Env}{a:Act}{C:Nat→Option dP}{w:World}{H H':az}{v:an}{o:Oper}
theorem By(b:Nat):∀(vs:List Value)(o:Nat)(w:World),
  (w.setCells b o vs).heap.size=w.heap.size∧(∀k,k≠b→(w.setCells b o vs).heap[k]?=w.heap[k]?)∧
  (∀c e fz,w.heap[b]?=some (.cells c e fz)→∃z,(w.setCells b o vs).heap[b]?=some (.cells z e fz)∧z.size=c.size)∧
  (w.setCells b o vs).os=w.os∧(w.setCells b o vs).tape=w.tape∧(w.setCells b o vs).output=w.output
 |[],_,_=>⟨rfl,fun _ _=>rfl,fun c e fz h=>⟨c,h,rfl⟩,rfl,rfl,rfl⟩
 |v::r,o,w=>by
  obtain⟨G,h2,I,J,K,O⟩:=By b r (o+1) (w.setCell ⟨b,o,none⟩ v)
  simp only[World.setCells]
  refine⟨G.trans (by simp[World.setCell]),fun k hk=>(h2 k hk).trans ?_,fun c e fz h=>?_,J,K,O⟩
  ·simp only[World.setCell,Hz]
   rw[aj (fun e=>hk e.symm)]
  obtain⟨z,A,U⟩:=I (c.setIfInBounds o v) e fz (by simp[World.setCell,Hz,h])
  exact⟨z,A,by simpa using U⟩
noncomputable def Ho.add(ρ:Ho)(f g:Nat)(h:Hm):Ho:=fun f' g'=>if f'=f∧g'=g then some h else ρ f' g'
theorem Ho.add_same(ρ:Ho)(f g:Nat)(h:Hm):ρ.add f g h f g=some h:=by simp[Ho.add]
theorem Ho.Mj{ρ:Ho}{f g:Nat}{h:Hm}(A:∀x,ρ f g=some x→x=h):ρ.le (ρ.add f g h):=by
 intro f' g' x z
 unfold Ho.add
 split
 ·rename_i e
  obtain⟨rfl,rfl⟩:=e
  rw[A x z]
 exact z
theorem Ho.kp{ρ:Ho}{f g f' g':Nat}{h x:Hm}(e:ρ.add f g h f' g'=some x):(f'=f∧g'=g∧x=h)∨ρ f' g'=some x:=by
 unfold Ho.add at e
 split at e
 ·rename_i k;cases e;exact .inl ⟨k.1,k.2,rfl⟩
 exact .inr e
theorem R.heap{w':World}(z:R ρ C w)(h:w'.heap=w.heap):R ρ C w':=
 ⟨fun f o e g x A=>(z.obj f o e g x A).iR (Ho.le_refl _) (by rw[h]),z.nS,fun f g x A=>by rw[h];exact z.jX f g x A,z.uniq,fun f g x A a b=>(z.mw f g x A a b).iR (cell_of_heap (w:=w) (by rw[h]))⟩
theorem R.Mk(fl:Nat)(fz:Nat×Nat)(J:R ρ C w){f elem es aQ n:Nat}{cs:RT}{cells:Array Value}(W:Nat→Prop)(A:∀g,ρ f g=none)(he:0<es)(nu:n*es≤cells.size)
  (EX:∀i,i<n→∃l,cs.get i=some l∧l.length=es∧∀j x,l[j]?=some x→gZ x=true∧∃cv,cells[i*es+j]?=some cv∧VR ρ x cv) {w':World}
  (U:w'.heap=w.heap.push (.cells cells elem fz)) (Y:∀i,i<cells.size→¬(fz.1≤i∧i<fz.2)) (Z:fl=0∨fl=2→fz.1=fz.2) (h1:w'.os=w.os) (h2:w'.tape=w.tape) (h3:w'.output=w.output):
  ∃ρ',ρ' f n=some ⟨w.heap.size,0,cells.size,false,false⟩∧Ext W f (f+1) ρ ρ' w w'∧R ρ' (fun x=>if x=f then some (.row elem es aQ n n fl cs) else C x) w':=by
 have hle:ρ.le (ρ.add f n ⟨w.heap.size,0,cells.size,false,false⟩):=Ho.Mj fun x z=>by rw[A] at z;cases z
 have hold:∀b,b<w.heap.size→w'.heap[b]?=w.heap[b]?:=fun b I=>by rw[U,HA,aj (by omega)]
 have G:w'.heap[w.heap.size]?=some (.cells cells elem fz):=by rw[U];simp
 refine⟨_,Ho.add_same _ _ _ _,⟨hle,?_,?_,fun b I _=>hold b I,by rw[U];simp,si _,h1,h2,h3⟩,⟨?_,?_,?_,?_,?_⟩⟩
 ·intro f' g' x z
  rcases Ho.kp z with⟨rfl,_,_⟩|z
  ·exact .inr ⟨bY _,fS _⟩
  exact .inl ⟨g',x,z⟩
 ·intro f' g' x z
  rcases Ho.kp z with⟨rfl,_,rfl⟩|z
  ·exact .inr (.inl ⟨bY _,rfl⟩)
  exact .inl z
 ·intro f' o hf g x z
  have K:(if f'=f then some (dP.row elem es aQ n n fl cs) else C f')=some o:=hf
  clear hf
  by_cases e:f'=f
  ·rw[aq e] at K
   subst e
   cases K
   rcases Ho.kp z with⟨_,rfl,rfl⟩|z
   ·refine⟨he,fun h=>(by cases h),bY _,fun _ _=>⟨⟨cells,fz,G,by simp⟩,nu,fun i hi=>?_,fun _ i hi=>?_,fun _ i _ hi=>?_,fun _=>rfl,fun e c t fz' hc=>by rw[G] at hc;cases hc;exact .inl (Z e)⟩⟩
    ·obtain⟨l,a1,a2,a3⟩:=EX i hi
     refine⟨l,a1,a2,fun j y hy=>?_⟩
     obtain⟨b1,cv,b2,b3⟩:=a3 j y hy
     refine⟨b1,cv,?_,b3.mono hle⟩
     simp only[World.cell?,G]
     simpa using b2
    ·simp only[World.frozen?,G];have:=Y i (by simpa using‹_›);simp at this⊢;omega
    simp only[World.frozen?,G];have:=Y i (by simpa using‹_›);simp at this⊢;omega
   rw[A] at z;cases z
  rw[aj e] at K
  rcases Ho.kp z with⟨e',_,_⟩|z
  ·exact absurd e' e
  exact(J.obj f' o K g x z).iR hle (hold _ (J.jX _ _ _ z))
 ·intro f1 g1 x1 f2 g2 x2 e1 e2 lk I
  have c1:=Ho.kp e1
  have c2:=Ho.kp e2
  clear e1 e2
  rcases c1 with⟨e,_,rfl⟩|e1<;>rcases c2 with⟨e',_,rfl⟩|e2
  ·exact absurd (e.trans e'.symm) lk
  ·have:=J.jX _ _ _ e2
   have I:w.heap.size=x2.b8:=I
   omega
  ·have:=J.jX _ _ _ e1
   have I:x1.b8=w.heap.size:=I
   omega
  exact J.nS _ _ _ _ _ _ e1 e2 lk I
 ·intro f' g' x z
  rw[U,Array.size_push]
  rcases Ho.kp z with⟨_,_,rfl⟩|z
  ·simp
  have:=J.jX _ _ _ z
  omega
 ·intro f' g1 x1 g2 x2 e1 e2 I
  have c1:=Ho.kp e1
  have c2:=Ho.kp e2
  clear e1 e2
  rcases c1 with⟨rfl,_,rfl⟩|e1<;>rcases c2 with⟨e',_,rfl⟩|e2
  ·rfl
  ·rw[A] at e2;cases e2
  ·subst e';rw[A] at e1;cases e1
  exact J.uniq _ _ _ _ _ e1 e2 I
 intro f' g' x z nX Ie
 rcases Ho.kp z with⟨_,_,rfl⟩|O
 ·cases nX
 have k:=J.mw _ _ _ O nX Ie
 refine yE.iR ⟨fun g2 x2 e2=>?_,k.2⟩ (cell_of_heap (w:=w) ?_)
 ·rcases Ho.kp e2 with⟨rfl,_,_⟩|e2
  ·rw[A] at O;cases O
  exact k.1 _ _ e2
 have:=J.jX _ _ _ O
 show w'.heap[x.b8]?=_
 rw[U,HA,aj (by omega)]
theorem R.alloc(I:R ρ C w){f elem es aQ n:Nat}{cs:RT}{cells:Array Value}(W:Nat→Prop)(z:∀g,ρ f g=none)(he:0<es)(A:n*es≤cells.size)
  (G:∀i,i<n→∃l,cs.get i=some l∧l.length=es∧∀j x,l[j]?=some x→gZ x=true∧∃cv,cells[i*es+j]?=some cv∧VR ρ x cv) {w':World}
  (J:w'.heap=w.heap.push (.cells cells elem)) (K:w'.os=w.os) (h2:w'.tape=w.tape) (O:w'.output=w.output):
  ∃ρ',ρ' f n=some ⟨w.heap.size,0,cells.size,false,false⟩∧Ext W f (f+1) ρ ρ' w w'∧R ρ' (fun x=>if x=f then some (.row elem es aQ n n 0 cs) else C x) w':=by
 exact I.Mk 0 (0,0) W z he A G J (fun i _ h=>by simp at h) (fun _=>rfl) K h2 O
theorem BM(C:Nat→Option dP)(H:az)(o:dP):gy C H ⟨H.next+1,H.bc,H.ws,H.t.set H.next o⟩=fun x=>if x=H.next then some o else C x:=by
 funext x
 unfold gy
 simp only[GT.eO]
 by_cases h:x=H.next
 ·subst h
  simp
 have h2:¬(H.next≤x∧x<H.next+1):=by omega
 have z:(H.t.set H.next o).get x=H.t.get x:=by rw[GT.eO,aj h]
 simp[h2,h,z]
theorem R.rd(hR:R ρ C w){f g off n:Nat}{l:List an}(hr:HN H f g off n l)(hC:C f=H.t.get f){h:Hm}(hh:ρ f g=some h)(hn:0<n):
  l.length=n∧l.all gZ=true∧∀j x,l[j]?=some x→∃cv,w.cell? ⟨h.b8,h.off+off+j,none⟩=some cv∧VR ρ x cv:=by
 obtain⟨elem,es,aQ,m,lo,fl,cs,x,hg,h1,h2,h3,h4,hx,Z⟩:=hr
 have J:=hR.obj f _ (hC.trans hg) g h hh
 obtain⟨he,nX,_,A⟩:=J
 have A:=A h1 h2
 obtain⟨y,hy,K,O⟩:=A.cell _ h4
 have U:y=x:=by
  have:some y=some x:=hy.symm.trans hx
  cases this
  rfl
 subst U
 have Ew:off/es*es+off % es=off:=by rw[mI];exact Ej off es
 have hlen:l.length=n:=by
  rcases Z with⟨rfl,rfl⟩|rfl
  ·exact K
  simp[K];omega
 have I:∀j z,l[j]?=some z→y[off % es+j]?=some z:=by
  intro j z G
  rcases Z with⟨rfl,rfl⟩|rfl
  ·have:off % n=0:=by omega
   rw[this,jS];exact G
  rw[A0] at G
  split at G
  ·rwa [sH] at G
  cases G
 refine⟨hlen,?_,fun j z G=>?_⟩
 ·rw[Eh]
  intro z G
  obtain⟨j,hj⟩:=HB G
  exact(O _ z (I j z hj)).1
 obtain⟨_,cv,Y,hv⟩:=O _ z (I j z G)
 refine⟨cv,?_,hv⟩
 rw[show h.off+off+j=h.off+off/es*es+(off % es+j) by omega]
 exact Y
end
section
variable{P:Program}{ρ:Ho}{nt:Nat}{E:Env}{a:Act}{C:Nat→Option dP}{w:World}{H H':az}{v:an}{o:Oper}
def ia(ρ:Ho)(n0 n1:Nat):Prop:=∀f g,n0≤f→f<n1→ρ f g=none
theorem JF{x:an}{l:List an}(h:cellsOf x=some l):jK x=some l:=by
 cases x<;>simp only[cellsOf,jK,reduceCtorEq] at h⊢<;>exact h
theorem y7{l:List an}{vs:Array Value}(A:cw ρ l vs.toList)(hk:l.all gZ=true)(j:Nat)(x:an)(z:l[j]?=some x):gZ x=true∧∃cv,vs[j]?=some cv∧VR ρ x cv:=by
 obtain⟨y,G,k⟩:=A.get j x z
 exact⟨(List.all_eq_true.1 hk) x (lW z),y,by simpa using G,k⟩
theorem Ml(G:R ρ C w)(I:ia ρ H.next H'.next){elem es aQ:Nat}{l:List an}{vs:Array Value}(he:0<es)(J:l.length=es)(A:cw ρ l vs.toList)(hk:l.all gZ=true)
  (z:(execOp a.eval o).run P w= .ok (.value (.pointer (some ⟨w.heap.size,0,none⟩))) {w with heap:=w.heap.push (.cells vs elem)})
  (h:vS elem es aQ l E H= .ok v H'):fb P o a w (dT ρ C w H v H'):=by
 have h:=wS h
 cases h
 have K:vs.size=es:=by have:=A.length;rw[nh] at this;omega
 obtain⟨ρ',O,h2,U⟩:=G.alloc (f:=H.next) (elem:=elem) (es:=es) (aQ:=aQ) (n:=1) (cs:=.one l) (cells:=vs) (w':={w with heap:=w.heap.push (.cells vs elem)})
  (Wr ⟨H.next+1,H.bc,H.ws,H.t.set H.next (.row elem es aQ 1 1 0 (.one l))⟩) (fun g=>I _ g (bY _) (fS _)) he (by omega)
  (fun i hi=>by
   have:i=0:=by omega
   subst this
   exact⟨l,rfl,J,fun j x Y=>by simpa using y7 A hk j x Y⟩) rfl rfl rfl rfl
 refine .inl ⟨_,_,z,ρ',?_,h2,?_⟩
 ·simp only[VR]
  exact⟨_,O,rfl⟩
 rw[BM]
 exact U
theorem QW(O:R ρ C w)(U:ia ρ H.next H'.next){t:TypeId}{z:List an}{i:TypeInfo}(ho:o.op= .alloc t)(A:zeroOf P t=some z)(hi:P.info? t=some i)
  (h:vS t i.size i.bytes z E H= .ok v H'):fb P o a w (dT ρ C w H v H'):=by
 unfold zeroOf at A
 rw[hi] at A
 simp only at A
 split at A
 ·rename_i Z I
  split at A
  ·rename_i av J
   split at A
   ·rename_i l Y
    split at A
    ·rename_i G
     cases A
     have K:=(BZ ρ _ _ J).cells (JF Y)
     refine Ml O U G.2 G.1 K.1 K.2 ?_ h
     simp[execOp,ho,Instr.alloc,zeroValue,typeInfo,hi,I,newVar,newRow]
    cases A
   cases A
  cases A
 cases A
theorem Ry(I:AR P ρ nt E a)(J:R ρ C w)(K:ia ρ H.next H'.next){t:TypeId}{x:Operand}{A:aF}{n b:Nat}(ho:o.op= .box t x)(O:dc P x=some A)(U:jx P t=some n)
  (h:AG t n b A E H= .ok v H'):fb P o a w (dT ρ C w H v H'):=by
 replace h:=fe h;obtain⟨u,Y,h⟩:=h
 replace h:=jm h;obtain⟨l,Z,h⟩:=h
 replace h:=fD h;obtain⟨z,h⟩:=h
 rw[oq] at z
 have z:=d8 z
 have G:=(I.b9 O Y).cells Z
 obtain⟨_,_,_,_,_,wz⟩:=th U
 exact Ml J K (by omega) z G.1 G.2 (by simp[execOp,ho,Instr.box,newVar,newRow]) h
theorem Jl{t:TypeId}{n:Nat}(I:jx P t=some n){l:List an}{ad:Addr}(Y:l.length=n)(hk:l.all gZ=true)(J:∀j x,l[j]?=some x→∃cv,w.cell? (ad.add j)=some cv∧VR ρ x cv)
  {e:Nat} (h:iG (pE P t) l (.err e) (fun v=>.ok v H)= .ok v H'):H'=H∧∃cv,(loadVar t ad).run P w= .ok cv w∧VR ρ v cv:=by
 obtain⟨vs,O⟩:∃vs:List Value,cw ρ l vs∧∀j x,vs[j]?=some x→w.cell? (ad.add j)=some x:=by
  clear h hk Y I
  have:∀(l:List an)(k:Nat),(∀j x,l[j]?=some x→∃cv,w.cell? (ad.add (k+j))=some cv∧VR ρ x cv)→∃vs:List Value,cw ρ l vs∧∀j x,vs[j]?=some x→w.cell? (ad.add (k+j))=some x:=by
   intro l
   induction l with
   |nil=>intro k _;exact⟨[],rfl,fun j x A=>by simp at A⟩
   |cons y r Z=>
    intro k J
    obtain⟨cv,G,h2⟩:=J 0 y rfl
    obtain⟨vs,h3,h4⟩:=Z (k+1) (fun j x A=>by have:=J (j+1) x (by simpa using A);rwa [show k+(j+1)=k+1+j by omega] at this)
    refine⟨cv::vs,⟨cv,vs,rfl,h2,h3⟩,fun j x A=>?_⟩
    cases j with
    |zero=>simp at A;subst A;simpa using G
    |succ j=>rw[show k+(j+1)=k+1+j by omega];exact h4 j x (by simpa using A)
  obtain⟨vs,G,h2⟩:=this l 0 (by simpa using J)
  exact⟨vs,G,by simpa using h2⟩
 obtain⟨K,z⟩:=O
 have hlen:vs.length=n:=K.length.trans Y
 replace h:=Gk h
 rcases h with⟨U,h⟩|⟨x,U,A,h⟩
 ·cases h
  refine⟨rfl,.agg vs.toArray,?_,?_⟩
  ·have G:=FC I w
   rw[U] at G
   have h2:=run_loadCells_list (P:=P) w ad vs z
   rw[hlen] at h2
   simp[loadVar,G,tb I,h2]
  simp only[VR]
  exact⟨_,rfl,K,hk⟩
 cases h
 subst A
 simp only[cw] at K
 obtain⟨y,t',rfl,hy,rfl⟩:=K
 refine⟨rfl,y,?_,hy⟩
 have G:=FC I w
 rw[U] at G
 have h2:w.cell? ad=some y:=by have:=z 0 y rfl;simpa[Addr.add] using this
 simp[loadVar,G,h2]
theorem QX(hA:AR P ρ nt E a)(O:R ρ C w){t:TypeId}{x:Operand}{G:aF}{n:Nat}(ho:o.op= .load t x)(I:dc P x=some G)(U:jx P t=some n)
  (hC:∀f o,f∈iV (G.ev E)→(∃g h,ρ f g=some h)→H.t.get f=some o→C f=some o) (h:z8 n (pE P t) G E H= .ok v H'):fb P o a w (dT ρ C w H v H'):=by
 replace h:=fe h;obtain⟨u,Y,h⟩:=h
 replace h:=vn h;obtain⟨f,g,off,rfl,h⟩:=h
 obtain⟨l,Z,h⟩:=He h (by simp)
 have A:=hA.b9 I Y
 simp only[VR] at A
 obtain⟨hm,hh,A⟩:=A
 obtain⟨_,_,_,_,_,wz⟩:=th U
 have J:C f=H.t.get f:=by
  obtain⟨_,_,_,_,_,_,_,_,hg,_⟩:=Z
  exact(hC f _ (by rw[Y];simp[iV]) ⟨_,_,hh⟩ hg).trans hg.symm
 obtain⟨hlen,hk,hc⟩:=O.rd Z J hh (by omega)
 obtain⟨rfl,cv,z,K⟩:=Jl (P:=P) (ρ:=ρ) (w:=w) (ad:=⟨hm.b8,hm.off+off,none⟩) U hlen hk (fun j x I=>by rw[Addr.add_lit];exact hc j x I) h
 exact gJ (by simp[execOp,ho,A,Instr.loadAt,Instr.sureAddr,z]) O K
theorem I5{l new:List an}{r n:Nat}(z:r+n≤l.length)(A:new.length=n):(gY l r new).length=l.length:=by
 unfold gY
 simp
 omega
theorem JG{l new:List an}{r n:Nat}(J:r+n≤l.length)(z:new.length=n)(j:Nat):(gY l r new)[j]?=if r≤j∧j<r+n then new[j-r]?else l[j]?:=by
 unfold gY
 have A:(l.take r).length=r:=by simp;omega
 by_cases G:j<r
 ·rw[qs (by omega),A0,aq G,aj (by omega)]
 rw[v7 (by omega),A]
 by_cases I:j<r+n
 ·rw[qs (by omega),aq (by omega)]
 rw[v7 (by omega),sH,aj (by omega),z]
 congr 1
 omega
theorem R.write(U:R ρ C w){f g off n:Nat}{new:List an}{nv:List Value}(hw:Oq H f g off n new H')(hC:C f=H.t.get f){h:Hm}(hh:ρ f g=some h)(hn:0<n)
  (hv:cw ρ new nv) (hk:new.all gZ=true):
  (∀j,j<n→(w.cell? ⟨h.b8,h.off+off+j,none⟩).isSome=true)∧(∀j,j<n→w.frozen? ⟨h.b8,h.off+off+j,none⟩=false)∧h.ro=false∧
  R ρ (gy C H H') (w.setCells h.b8 (h.off+off) nv):=by
 obtain⟨elem,es,aQ,lo,cs,x,hg,h6,h3,h4,Z,hx,rfl⟩:=hw
 have Wz:=U.obj f _ (hC.trans hg) g h hh
 obtain⟨he,nX,_,A⟩:=Wz
 have A:=A h6 (bY _)
 have Ew:off/es*es+off % es=off:=by rw[mI];exact Ej off es
 generalize hq:off/es=q at*
 generalize hr:off % es=r at*
 have J:h.ro=false:=by
  cases hr:h.ro
  ·rfl
  exact absurd (nX hr) (by simp)
 have hnv:nv.length=n:=hv.length.trans Z
 have hqg:(q+1)*es≤g*es:=kN es h4
 have hqe:(q+1)*es=q*es+es:=by rw[nM,sj]
 have HP:=A.fits
 obtain⟨y,hy,hyl,O6⟩:=A.cell q h4
 have hxy:y=x:=by
  have:some y=some x:=hy.symm.trans hx
  cases this
  rfl
 subst hxy
 have K:∀j,j<n→(w.cell? ⟨h.b8,h.off+off+j,none⟩).isSome=true:=by
  intro j hj
  have dR:r+j<y.length:=by omega
  obtain⟨_,cv,sI,_⟩:=O6 (r+j) (y[r+j]) (eY dR)
  rw[show h.off+off+j=h.off+q*es+(r+j) by omega,sI]
  rfl
 have WA:∀j,j<n→w.frozen? ⟨h.b8,h.off+off+j,none⟩=false:=by
  intro j hj
  rw[nf]
  exact A.Ak rfl (off+j) (by omega)
 obtain⟨s1,s2,s3,_,_,_⟩:=By h.b8 nv (h.off+off) w
 refine⟨K,WA,J,⟨fun f' o' G g' h' I=>?_,U.nS,fun f' g' h' I=>by rw[s1];exact U.jX f' g' h' I,U.uniq,fun f' g' x hx a b=>(U.mw f' g' x hx a b).iR (cell_of_heap (w:=w) (s2 _ fun e=>?_))⟩⟩
 rotate_left
 ·by_cases hf:f'=f
  ·subst hf
   have:=(U.mw _ _ _ hx a b).1 _ _ hh
   rw[J] at this;cases this
  have:=(U.nS _ _ _ _ _ _ hx hh hf e).2
  rw[J] at this;cases this
 have wg:∀z,(if n=es then new else gY y r new)=z→z.length=es∧∀j,z[j]?=if r≤j∧j<r+n then new[j-r]?else y[j]?:=by
  intro z hz
  have Ig:(if n=es then new else gY y r new)=gY y r new:=by
   split
   ·rename_i e
    have hr0:r=0:=by omega
    subst hr0
    unfold gY
    rw[HC,Ek,List.drop_of_length_le (by omega),yd]
   rfl
  rw[Ig] at hz
  subst hz
  exact⟨(I5 (by omega) Z).trans hyl,JG (by omega) Z⟩
 obtain⟨A5,hzg⟩:=wg _ rfl
 generalize (if n=es then new else gY y r new)=z at*
 by_cases hf:f'=f
 ·subst hf
  have nw:o'= .row elem es aQ g g 0 (cs.set q z):=by
   have h0:(H.t.set f' (dP.row elem es aQ g g 0 (cs.set q z))).get f'=some (.row elem es aQ g g 0 (cs.set q z)):=by rw[GT.eO,aq rfl]
   unfold gy at G
   simp only at G
   rw[aj (by omega),h0] at G
   split at G
   ·rename_i e
    rw[hC,←e] at G
    cases G
    rfl
   cases G
   rfl
  subst nw
  have O:=U.obj f' _ (hC.trans hg) g' h' I
  refine⟨he,O.2.1,O.2.2.1,fun a1 a2=>?_⟩
  have hgg:g'=g:=by omega
  subst hgg
  have hhh:h'=h:=by rw[hh] at I;cases I;rfl
  subst hhh
  obtain⟨c,fz,hb,hbs⟩:=A.row
  obtain⟨c',A6,Ou⟩:=s3 c elem fz hb
  refine⟨⟨c',fz,A6,by omega⟩,HP,fun i hi=>?_,fun e i hi=>?_,fun e i hi p6=>?_,A.sq,fun e c1 t1 sJ jb=>by rw[A6] at jb;cases jb;exact A.yD e _ _ _ hb⟩
  ·rw[RT.eO]
   by_cases Ih:i=q
   ·subst Ih
    rw[aq rfl]
    refine⟨z,rfl,A5,fun j u Y=>?_⟩
    rw[hzg] at Y
    split at Y
    ·rename_i hj
     obtain⟨cv,sI,hvr⟩:=hv.get _ _ Y
     refine⟨(List.all_eq_true.1 hk) u (lW Y),cv,?_,hvr⟩
     have A7:j-r<nv.length:=by omega
     have:=World.cell?_setCells_in h'.b8 nv (h'.off+off) w (by rw[hnv];exact K) (j-r) A7
     rw[show h'.off+i*es+j=h'.off+off+(j-r) by omega,this,←eY A7]
     exact sI
    rename_i hj
    obtain⟨k1,cv,k2,k3⟩:=O6 j u Y
    refine⟨k1,cv,?_,k3⟩
    rw[World.cell?_setCells_out _ _ _ _ _ (fun _ _=>by simp only;omega)]
    exact k2
   rw[aj Ih]
   obtain⟨l,l1,l2,l3⟩:=A.cell i hi
   refine⟨l,l1,l2,fun j u Y=>?_⟩
   obtain⟨k1,cv,k2,k3⟩:=l3 j u Y
   refine⟨k1,cv,?_,k3⟩
   have hjes:j<es:=by
    rw[←l2]
    rcases Nat.lt_or_ge j l.length with h|h
    ·exact h
    rw[El h] at Y;cases Y
   rw[World.cell?_setCells_out _ _ _ _ _ (fun _ _=>?_)]
   ·exact k2
   simp only
   rcases Nat.lt_or_gt_of_ne Ih with dR|EY
   ·left
    have:=kN es (show i+1≤q from dR)
    rw[nM,sj] at this
    omega
   right
   have:=kN es (show q+1≤i from EY)
   omega
  ·rw[World.frozen?_setCells];exact A.Ak e i hi
  rw[World.frozen?_setCells];exact A.xQ e i hi p6
 have nw:C f'=some o':=by
  have h0:(H.t.set f (dP.row elem es aQ g g 0 (cs.set q z))).get f'=H.t.get f':=by rw[GT.eO,aj hf]
  unfold gy at G
  simp only at G
  rw[aj (by omega),aq h0] at G
  exact G
 refine(U.obj f' o' nw g' h' I).iR (Ho.le_refl _) (s2 _ fun e=>?_)
 have:=U.nS _ _ _ _ _ _ I hh hf e
 rw[J] at this
 exact absurd this.2 (by simp)
theorem Qg{t:TypeId}{n:Nat}(A:jx P t=some n){b base:Nat}{u:Value}(z:u.cells.size=n)(G:∀x∈u.cells.toList,x.oneCell'=true)
  (I:∀j,j<n→(w.cell? ⟨b,base+j,none⟩).isSome=true) (J:∀j,j<n→w.frozen? ⟨b,base+j,none⟩=false):
  (storeVar t ⟨b,base,none⟩ u).run P w= .ok () (w.setCells b base u.cells.toList):=by
 have hlen:u.cells.toList.length=n:=by rw[nh];exact z
 have:=run_storeCells_cells (P:=P) b base u.cells.toList 0 w (by rw[hlen];simpa using I) (by rw[hlen];simpa using J) G
 simp only[ye] at this
 simp[storeVar,tb A,z,this]
theorem FE{x:an}{y:Value}(h:VR ρ x y)(hk:gZ x=true):y.oneCell'=true:=by
 have:=h.VG hk
 cases y<;>first|rfl|(exact absurd rfl (this.1 _))|(exact absurd rfl (this.2 _))
theorem cw.KJ:∀{l:List an}{vs:List Value},cw ρ l vs→l.all gZ=true→∀x∈vs,x.oneCell'=true
 |[],vs,h,_,x,z=>by simp only[cw] at h;subst h;cases z
 |a::r,vs,h,hk,x,z=>by
  simp only[cw] at h
  obtain⟨v,t,rfl,A,h2⟩:=h
  simp only[Em,fv] at hk
  cases z with
  |head=>exact FE A hk.1
  |tail _ z=>exact cw.KJ h2 hk.2 x z
theorem Qs(hA:AR P ρ nt E a)(hR:R ρ C w){t:TypeId}{x z:Operand}{O z':aF}{n:Nat}(ho:o.op= .store t x z)(hx:dc P x=some O)(hz:dc P z=some z')(hn:jx P t=some n)
  (hC:∀f o,f∈iV (O.ev E)→(∃g h,ρ f g=some h)→H.t.get f=some o→C f=some o) (h:zI n O z' E H= .ok v H'):fb P o a w (dT ρ C w H v H'):=by
 replace h:=fe h;obtain⟨u,hu,h⟩:=h
 replace h:=vn h;obtain⟨f,g,off,rfl,h⟩:=h
 replace h:=fe h;obtain⟨u2,U,h⟩:=h
 replace h:=jm h;obtain⟨l,hl,h⟩:=h
 obtain⟨H1,J,h⟩:=NT h
 cases h
 have K:=hA.b9 hx hu
 have h2:=hA.b9 hz U
 simp only[VR] at K
 obtain⟨A,Y,K⟩:=K
 obtain⟨_,_,_,_,_,wz⟩:=th hn
 have G:=h2.cells hl
 have jk:l.length=n:=by obtain⟨_,_,_,_,_,_,_,_,_,_,Z,_⟩:=J;exact Z
 have Ii:(a.eval z).cells.size=n:=by have:=G.1.length;rw[nh] at this;omega
 have sK:C f=H.t.get f:=by
  obtain⟨_,_,_,_,_,_,hg,_⟩:=J
  exact(hC f _ (by rw[hu];simp[iV]) ⟨_,_,Y⟩ hg).trans hg.symm
 obtain⟨k1,k2,k3,k4⟩:=hR.write J sK Y (by omega) G.1 G.2
 have I:=Qg (P:=P) (w:=w) hn (b:=A.b8) (base:=A.off+off) Ii (G.1.KJ G.2) k1 k2
 obtain⟨s1,s2,s3,s4,s5,s6⟩:=By A.b8 (a.eval z).cells.toList (A.off+off) w
 refine .inr (.inl ⟨w.setCells A.b8 (A.off+off) (a.eval z).cells.toList,?_,ρ,by simp only[VR],?_,k4⟩)
 ·simp[execOp,ho,K,Instr.storeAt,Instr.sureAddr,I]
 obtain⟨_,_,_,_,_,_,_,_,_,_,_,_,rfl⟩:=J
 refine⟨Ho.le_refl _,fun f g h e=>.inl ⟨g,h,e⟩,fun _ _ _ e=>.inl e,fun b hb hf=>?_,by rw[s1];exact bY _,bY _,s4,s5,s6⟩
 refine s2 b fun e=>?_
 refine hf f g A Y k3 ?_ e.symm
 unfold Wr
 simp only[y6]
 by_cases dR:f<H.bc
 ·exact .inl (.inr ⟨trivial,dR⟩)
 exact .inr (by omega)
end
section
variable{P:Program}{ρ:Ho}{nt:Nat}{E:Env}{a:Act}{C:Nat→Option dP}{w:World}{H H':az}{v:an}{o:Oper}
theorem B0:∀{n:Nat}{H:az}{f g es off:Nat}{l:List (List an)},elems H f g es n off=some l→l.length=n∧∀i x,l[i]?=some x→HN H f g (off+i*es) es x
 |0,H,f,g,es,off,l,h=>by cases h;exact⟨rfl,fun i x z=>by simp at z⟩
 |n+1,H,f,g,es,off,l,h=>by
  have h:rd H f g off es none (fun l=>ob (elems H f g es n (off+es)) none fun r=>some (l::r))=some l:=h
  obtain⟨x,z,h⟩:=He h (by simp)
  obtain⟨r,G,h⟩:=xn h
  cases h
  obtain⟨I,h2⟩:=B0 G
  refine⟨by simp[I],fun i y A=>?_⟩
  cases i with
  |zero=>simp at A;subst A;simpa using z
  |succ i=>have:=h2 i y (by simpa using A);rwa [show off+es+i*es=off+(i+1)*es by rw[nM];omega] at this
theorem s8:∀(l:List (List an))(t:RT)(i k:Nat),(ju l t i).get k=if i≤k∧k<i+l.length then l[k-i]?else t.get k
 |[],t,i,k=>by
  show t.get k=_
  rw[aj (by simp)]
 |x::r,t,i,k=>by
  have step:ju (x::r) t i=ju r (t.set i x) (i+1):=rfl
  rw[step,s8 r,RT.eO]
  simp only[dj]
  by_cases h:k=i
  ·subst h
   rw[aj (by omega),aq rfl,aq (by omega)]
   simp
  rw[aj h]
  by_cases h2:i+1≤k∧k<i+1+r.length
  ·rw[aq h2,aq (by omega)]
   rw[show k-i=(k-(i+1))+1 by omega,HD]
  rw[aj h2,aj (by omega)]
structure Flat(ρ:Ho)(es:Nat)(l:List (List an))(news:List Value):Prop where
 len:news.length=l.length*es
 one:∀u∈news,u.oneCell'=true
 get:∀i x,l[i]?=some x→x.length=es∧∀j y,x[j]?=some y→gZ y=true∧∃cv,news[i*es+j]?=some cv∧VR ρ y cv
theorem qG{α:Type}{l:List α}{i:Nat}{x:α}(h:l[i]?=some x):i<l.length:=by
 rcases Nat.lt_or_ge i l.length with h'|h'
 ·exact h'
 rw[El h'] at h;cases h
theorem Flat.Sh(hR:R ρ C w){f g es off n:Nat}{l:List (List an)}(hl:elems H f g es n off=some l)(hC:∀o,H.t.get f=some o→C f=some o){h:Hm}(hh:ρ f g=some h)(he:0<es):
  l.length=n∧∃news,Flat ρ es l news∧∀j u,news[j]?=some u→w.cell? ⟨h.b8,h.off+off+j,none⟩=some u:=by
 obtain⟨hlen,z⟩:=B0 hl
 refine⟨hlen,(List.range (l.length*es)).map fun q=>(w.cell? ⟨h.b8,h.off+off+q,none⟩).getD undef,?_⟩
 have key:∀i x,l[i]?=some x→x.length=es∧∀j y,x[j]?=some y→gZ y=true∧∃cv,w.cell? ⟨h.b8,h.off+off+(i*es+j),none⟩=some cv∧VR ρ y cv:=by
  intro i x G
  have Y:C f=H.t.get f:=by
   obtain⟨_,_,_,_,_,_,_,_,hg,_⟩:=z i x G
   exact(hC _ hg).trans hg.symm
  obtain⟨I,h2,h3⟩:=hR.rd (z i x G) Y hh he
  refine⟨I,fun j y J=>⟨(List.all_eq_true.1 h2) y (lW J),?_⟩⟩
  obtain⟨cv,Z,hv⟩:=h3 j y J
  exact⟨cv,by rw[show h.off+off+(i*es+j)=h.off+(off+i*es)+j by omega];exact Z,hv⟩
 have cellAt:∀q,q<l.length*es→∃cv,w.cell? ⟨h.b8,h.off+off+q,none⟩=some cv∧cv.oneCell'=true:=by
  intro q hq
  have hi:q/es<l.length:=by
   rw[Oh he]
   exact hq
  have K:q % es<es:=yy _ he
  obtain⟨I,h2⟩:=key (q/es) _ (eY hi)
  obtain⟨A,cv,O,k3⟩:=h2 (q % es) _ (eY (by rw[I];exact K))
  refine⟨cv,?_,FE k3 A⟩
  have:q/es*es+q % es=q:=by rw[mI];exact Ej q es
  rwa [this] at O
 refine⟨⟨by simp,fun u U=>?_,fun i x G=>?_⟩,fun j u U=>?_⟩
 ·obtain⟨q,hq,rfl⟩:=List.mem_map.1 U
  obtain⟨cv,A,O⟩:=cellAt q (List.mem_range.1 hq)
  rw[A]
  exact O
 ·obtain⟨I,h2⟩:=key i x G
  refine⟨I,fun j y J=>?_⟩
  obtain⟨A,cv,O,k3⟩:=h2 j y J
  refine⟨A,cv,?_,k3⟩
  have dR:i*es+j<l.length*es:=by
   have h4:=qG G
   have h5:=qG J
   have:=kN es (show i+1≤l.length from h4)
   rw[nM,sj] at this
   omega
  simp[dR,O]
 have K:=qG U
 simp at K
 obtain⟨cv,A,_⟩:=cellAt j K
 simp[K,A] at U
 rw[A,U]
theorem R.grow(O:R ρ C w){f m k elem es aQ mr lo fl:Nat}{cs:RT}{new:List (List an)}{news:List Value}(W:Nat→Prop)(hWf:W f){w':World}{h h2:Hm}
  (hC:C f=some (.row elem es aQ m lo fl cs)) (hh:ρ f m=some h) (hk:new.length=k) (yF:0<k) (sL:lo≤m) (uU:fl≠1) (hF:Flat ρ es new news)
  (nu:w.heap.size≤w'.heap.size) (h1:w'.os=w.os) (h2':w'.tape=w.tape) (h3:w'.output=w.output)
  (J:∀b,b<w.heap.size→b≠h.b8→w'.heap[b]?=w.heap[b]?)
  (U:∃c c' e fz,w.heap[h.b8]?=some (.cells c e fz)∧w'.heap[h.b8]?=some (.cells c' e fz)∧c'.size=c.size)
  (D3:∀off,off<m*es→w'.cell? ⟨h.b8,h.off+off,none⟩=w.cell? ⟨h.b8,h.off+off,none⟩)
  (G:h2=h∨(w.heap.size≤h2.b8∧h2.ro=false)) (ru:h2.b8<w'.heap.size)
  (sr:∃c fz,w'.heap[h2.b8]?=some (.cells c elem fz)∧h2.off+h2.room≤c.size) (VH:(m+k)*es≤h2.room)
  (hold:∀off,off<m*es→w'.cell? ⟨h2.b8,h2.off+off,none⟩=w.cell? ⟨h.b8,h.off+off,none⟩)
  (wg:∀j,j<k*es→w'.cell? ⟨h2.b8,h2.off+m*es+j,none⟩=news[j]?)
  (yG:h2≠h→h2.off=0∧(∀i,w'.frozen? ⟨h2.b8,i,none⟩=false)∧∀c e fz,w'.heap[h2.b8]?=some (.cells c e fz)→fz.1=fz.2):
  ∃ρ',ρ' f (m+k)=some h2∧Ext W H.next H.next ρ ρ' w w'∧R ρ' (fun x=>if x=f then some (.row elem es mr (m+k) lo fl (ju new cs m)) else C x) w':=by
 obtain⟨he,nX,_,A⟩:=O.obj f _ hC m h hh
 have A:=A sL (bY _)
 have K:h.ro=false:=by
  cases hr:h.ro
  ·rfl
  exact absurd (nX hr) uU
 have Ov:h2.ro=false:=by
  rcases G with rfl|⟨_,e⟩
  ·exact K
  exact e
 have VJ:∀x,ρ f (m+k)=some x→x=h2:=fun x z=>by
  obtain⟨_,_,hle,_⟩:=O.obj f _ hC (m+k) x z
  omega
 have hle:ρ.le (ρ.add f (m+k) h2):=Ho.Mj VJ
 have Ow:∀f' g' x,ρ f' g'=some x→f'≠f→w'.heap[x.b8]?=w.heap[x.b8]?:=by
  intro f' g' x z I
  refine J _ (O.jX _ _ _ z) fun e=>?_
  have:=O.nS _ _ _ _ _ _ z hh I e
  rw[K] at this
  exact absurd this.2 (by simp)
 have Ox:∀i,w'.frozen? ⟨h.b8,i,none⟩=w.frozen? ⟨h.b8,i,none⟩:=by
  intro i
  obtain⟨c,c',e,fz,k1,k2,_⟩:=U
  simp only[World.frozen?,k1,k2]
 refine⟨_,Ho.add_same _ _ _ _,⟨hle,?_,?_,?_,nu,bY _,h1,h2',h3⟩,⟨?_,?_,?_,?_,?_⟩⟩
 ·intro f' g' x z
  rcases Ho.kp z with⟨rfl,_,_⟩|z
  ·exact .inl ⟨m,h,hh⟩
  exact .inl ⟨g',x,z⟩
 ·intro f' g' x z
  rcases Ho.kp z with⟨rfl,_,rfl⟩|z
  ·rcases G with rfl|⟨a1,a2⟩
   ·exact .inr (.inr ⟨m,x,hh,rfl,rfl⟩)
   exact .inr (.inl ⟨a1,a2⟩)
  exact .inl z
 ·intro b Z hf
  exact J b Z fun e=>hf f m h hh K hWf e.symm
 ·intro f' o EZ g x z
  have yH:(if f'=f then some (dP.row elem es mr (m+k) lo fl (ju new cs m)) else C f')=some o:=EZ
  clear EZ
  by_cases e:f'=f
  ·rw[aq e] at yH
   subst e
   cases yH
   rcases Ho.kp z with⟨_,rfl,rfl⟩|z
   ·refine⟨he,(fun e=>by rw[Ov] at e;cases e),bY _,fun _ _=>⟨sr,VH,fun i hi=>?_,fun e i hi=>?_,fun e i hi p6=>?_,fun e=>(Classical.em (x=h)).elim (fun e2=>e2▸A.sq e) (fun e2=>(yG e2).1),fun e=>(Classical.em (x=h)).elim (fun e2 c1 t1 sJ Y=>by
     obtain⟨c,c',t2,fz,q1,q2,_⟩:=U
     rw[e2,q2] at Y
     cases Y
     have:=kN es (show m≤m+k by omega)
     exact(A.yD e _ _ _ q1).imp_right (fun g=>by omega)) (fun e2 c1 t1 sJ Y=>.inl ((yG e2).2.2 _ _ _ Y))⟩⟩
    ·rw[s8]
     by_cases O7:i<m
     ·rw[aj (by omega)]
      obtain⟨l,l1,l2,l3⟩:=A.cell i O7
      refine⟨l,l1,l2,fun j u hu=>?_⟩
      obtain⟨k1,cv,k2,k3⟩:=l3 j u hu
      refine⟨k1,cv,?_,k3.mono hle⟩
      have hj:=qG hu
      have:=kN es (show i+1≤m from O7)
      rw[nM,sj] at this
      rw[nf,hold (i*es+j) (by omega),←nf]
      exact k2
     rw[aq (by omega)]
     have O8:i-m<new.length:=by omega
     obtain⟨l1,l2⟩:=hF.get (i-m) _ (eY O8)
     refine⟨_,eY O8,l1,fun j u hu=>?_⟩
     obtain⟨k1,cv,k2,k3⟩:=l2 j u hu
     refine⟨k1,cv,?_,k3.mono hle⟩
     have hj:=qG hu
     have O9:=qG k2
     rw[hF.len,hk] at O9
     have e1:i*es=m*es+(i-m)*es:=by rw[←nM];congr 1;omega
     rw[show x.off+i*es+j=x.off+m*es+((i-m)*es+j) by omega,wg _ O9]
     exact k2
    ·by_cases wA:x=h
     ·subst wA
      rw[Ox]
      exact A.Ak e i hi
     exact(yG wA).2.1 _
    by_cases wA:x=h
    ·subst wA
     rw[Ox]
     refine A.xQ e i ?_ p6
     have:=kN es (show m≤m+k by omega)
     omega
    exact(yG wA).2.1 _
   obtain⟨_,r1,r2,r3⟩:=O.obj f' _ hC g x z
   refine⟨he,r1,by omega,fun a1 _=>?_⟩
   have r3:=r3 a1 r2
   have VK:(∃c c' e fz,w.heap[x.b8]?=some (.cells c e fz)∧w'.heap[x.b8]?=some (.cells c' e fz)∧c'.size=c.size)∧∀off,off<m*es→w'.cell? ⟨x.b8,x.off+off,none⟩=w.cell? ⟨x.b8,x.off+off,none⟩:=by
    by_cases Z:x.b8=h.b8
    ·have ho:=O.uniq _ _ _ _ _ z hh Z
     rw[Z,ho]
     exact⟨U,D3⟩
    have yI:=J _ (O.jX _ _ _ z) Z
    obtain⟨c,fz,hc,_⟩:=r3.row
    exact⟨⟨c,c,elem,fz,hc,by rw[yI];exact hc,rfl⟩,fun off _=>cell_of_heap (w:=w) yI⟩
   obtain⟨⟨c,c',e0,fz,q1,q2,q3⟩,q4⟩:=VK
   have O':∀i,w'.frozen? ⟨x.b8,i,none⟩=w.frozen? ⟨x.b8,i,none⟩:=fun i=>by simp only[World.frozen?,q1,q2]
   obtain⟨c2,fz2,p1,p2⟩:=r3.row
   rw[q1] at p1
   cases p1
   refine⟨⟨c',fz,q2,by omega⟩,r3.fits,fun i hi=>?_,fun e i hi=>?_,fun e i hi p6=>?_,r3.sq,fun e c1 t1 sJ Y=>by
    rw[q2] at Y
    cases Y
    have:=kN es (show m≤m+k by omega)
    exact(r3.yD e _ _ _ q1).imp_right (fun g=>by omega)⟩
   ·rw[s8,aj (by omega)]
    obtain⟨l,l1,l2,l3⟩:=r3.cell i hi
    refine⟨l,l1,l2,fun j u hu=>?_⟩
    obtain⟨k1,cv,k2,k3⟩:=l3 j u hu
    refine⟨k1,cv,?_,k3.mono hle⟩
    have hj:=qG hu
    have:=kN es (show i+1≤m by omega)
    rw[nM,sj] at this
    rw[nf,q4 (i*es+j) (by omega),←nf]
    exact k2
   ·rw[O'];exact r3.Ak e i hi
   rw[O']
   refine r3.xQ e i ?_ p6
   have:=kN es (show m≤m+k by omega)
   omega
  rw[aj e] at yH
  rcases Ho.kp z with⟨e',_,_⟩|z
  ·exact absurd e' e
  exact(O.obj f' o yH g x z).iR hle (Ow _ _ _ z e)
 ·intro f1 g1 x1 f2 g2 x2 e1 e2 I Z
  have c1:=Ho.kp e1
  have c2:=Ho.kp e2
  clear e1 e2
  have half:∀f' g' x,ρ f' g'=some x→f'≠f→x.b8≠h2.b8:=by
   intro f' g' x z I e
   rcases G with rfl|⟨a1,_⟩
   ·have:=O.nS _ _ _ _ _ _ z hh I e
    rw[K] at this
    exact absurd this.2 (by simp)
   have:=O.jX _ _ _ z
   omega
  rcases c1 with⟨e,_,rfl⟩|e1<;>rcases c2 with⟨e',_,rfl⟩|e2
  ·exact absurd (e.trans e'.symm) I
  ·exact absurd Z.symm (half _ _ _ e2 (fun e3=>I (e.trans e3.symm)))
  ·exact absurd Z (half _ _ _ e1 (fun e3=>I (e3.trans e'.symm)))
  exact O.nS _ _ _ _ _ _ e1 e2 I Z
 ·intro f' g' x z
  rcases Ho.kp z with⟨_,_,rfl⟩|z
  ·exact ru
  have:=O.jX _ _ _ z
  omega
 ·intro f' g1 x1 g2 x2 e1 e2 Z
  have c1:=Ho.kp e1
  have c2:=Ho.kp e2
  clear e1 e2
  have half:∀g' x,ρ f g'=some x→x.b8=h2.b8→x.off=h2.off:=by
   intro g' x z e
   rcases G with rfl|⟨a1,_⟩
   ·exact O.uniq _ _ _ _ _ z hh e
   have:=O.jX _ _ _ z
   omega
  rcases c1 with⟨e,_,rfl⟩|e1<;>rcases c2 with⟨e',_,rfl⟩|e2
  ·rfl
  ·subst e;exact(half _ _ e2 Z.symm).symm
  ·subst e';exact half _ _ e1 Z
  exact O.uniq _ _ _ _ _ e1 e2 Z
 intro f' g' x z nX Ie
 rcases Ho.kp z with⟨_,_,rfl⟩|Pa
 ·rw[Ov] at nX;cases nX
 have k:=O.mw _ _ _ Pa nX Ie
 have I:f'≠f:=fun e=>by
  subst e
  have:=k.1 _ _ hh
  rw[K] at this;cases this
 refine yE.iR ⟨fun g2 x2 e2=>?_,k.2⟩ (cell_of_heap (w:=w) (Ow _ _ _ Pa I))
 rcases Ho.kp e2 with⟨e3,_,_⟩|e2
 ·exact absurd e3 I
 exact k.1 _ _ e2
end
end Go.Ev
