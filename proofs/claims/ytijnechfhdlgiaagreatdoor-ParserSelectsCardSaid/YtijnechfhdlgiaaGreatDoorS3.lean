/- Part 3 of rules for walks through the code of a program, and of such walks; what each part proves is said by its theorems. -/
import Derived.Test.YtijnechfhdlgiaaGreatDoorS2
import Derived.Laws.Strings
set_option linter.unusedVariables false
set_option linter.unusedSimpArgs false
namespace Go.Ev
section
variable{P:Program}{ρ:Ho}{nt:Nat}{E:Env}{a:Act}{C:Nat→Option dQ}{w:World}{H H':az}{v:an}{o:Oper}
theorem gJ{cv:Value}(h:(execOp a.eval o).run P w= .ok (.value cv) w)(z:R ρ C w)(A:VR ρ v cv):fq P o a w (dW ρ C w H v H):=
 .inl ⟨cv,w,h,dW.pure z A⟩
theorem KK(z:AR P ρ nt E a)(A:R ρ C w){x:Operand}{y:aF}(ho:o.op= .move x∨o.op= .assign x)(G:dm P x=some y)
  (h:mm y E H= .ok v H'):fq P o a w (dW ρ C w H v H'):=by
 replace h:=fu h;obtain⟨u,I,h⟩:=h
 cases h
 exact gJ (by rcases ho with ho|ho<;>simp[execOp,ho]) A (z.b8 G I)
theorem RK(I:AR P ρ nt E a)(O:R ρ C w){c x z:Operand}{U J K:aF}(ho:o.op= .pick c x z)(Y:dm P c=some U)(Z:dm P x=some J)(hz:dm P z=some K)
  (h:Au U J K E H= .ok v H'):fq P o a w (dW ρ C w H v H'):=by
 replace h:=fu h;obtain⟨u,hu,h⟩:=h
 replace h:=So h;obtain⟨b,rfl,h⟩:=h
 have A:=I.b8 Y hu
 simp only[VR] at A
 cases b with
 |true=>
  obtain⟨u2,G,h⟩:=fu (show bB J E (.err 1) (fun v=>.ok v H)= .ok v H' from h)
  cases h
  exact gJ (by simp[execOp,ho,A,asBool]) O (I.b8 Z G)
 |false=>
  obtain⟨u2,G,h⟩:=fu (show bB K E (.err 1) (fun v=>.ok v H)= .ok v H' from h)
  cases h
  exact gJ (by simp[execOp,ho,A,asBool]) O (I.b8 hz G)
theorem QV(op:BinOp)(t:TypeId)(x y:Operand)(k z:IntKind)(m n:Int):(eqGuard op t x y (.int k m) (.int z n)).run P w= .ok () w:=by
 unfold eqGuard
 cases op<;>simp
theorem QW(op:BinOp)(t:TypeId)(x y:Operand)(k z:ByteArray):(eqGuard op t x y (.string k) (.string z)).run P w= .ok () w:=by
 unfold eqGuard
 cases op<;>simp
theorem zm{op:BinOp}{k:IntKind}{m n r:Int}(h:intBits op k m n=some r):(Op.intBits op k m n).run P w= .ok (.int k r) w:=by
 unfold intBits at h
 unfold Op.intBits
 cases op<;>simp_all
theorem nh{k z:IntKind}{r:Option an}{u:an}(h:aG (Nat.beq (dw k) (dw z)) r none=some u):k=z∧r=some u:=by
 rw[rh] at h
 split at h
 ·rename_i hk
  exact⟨CJ hk,h⟩
 cases h
theorem Dg{b:Bool}{r:Option an}{u:an}(h:aG b none r=some u):b=false∧r=some u:=by
 cases b
 ·exact⟨rfl,h⟩
 cases h
theorem xK{α β:Type}{x:Option α}{k:α→Option β}{u:β}(h:ob x none k=some u):∃y,x=some y∧k y=some u:=by
 cases x with
 |none=>cases h
 |some y=>exact⟨y,rfl,h⟩
theorem Sq{op:BinOp}{k I:IntKind}{m n:Int}{u:an}(t:TypeId)(h:iX op k m I n=some u):
  ∃cv,(binOp op t (.int k m) (.int I n)).run P w= .ok cv w∧VR ρ u cv:=by
 cases op with
 |shl=>
  simp only[iX] at h
  obtain⟨A,h⟩:=Dg h
  rw[oZ,fC] at A
  cases h
  refine⟨.int k (k.wrap (m*2^(min n.toNat k.bits))),?_,by simp only[VR,ng]⟩
  simp only[binOp,Op.shift,aj A]
  rfl
 |shr=>
  simp only[iX] at h
  obtain⟨A,h⟩:=Dg h
  rw[oZ,fC] at A
  cases h
  refine⟨.int k (m.fdiv (2^(min n.toNat k.bits))),?_,by simp only[VR]⟩
  simp only[binOp,Op.shift,aj A]
  rfl
 |quo=>
  simp only[iX] at h
  have z:=nh h;clear h;obtain⟨rfl,h⟩:=z
  obtain⟨A,h⟩:=Dg h
  rw[uf,fC] at A
  cases h
  exact⟨.int k (k.wrap (m.tdiv n)),by simp[binOp,Op.intDiv,A],by simp only[VR,ng]⟩
 |rem=>
  simp only[iX] at h
  have z:=nh h;clear h;obtain⟨rfl,h⟩:=z
  obtain⟨A,h⟩:=Dg h
  rw[uf,fC] at A
  cases h
  exact⟨.int k (m.tmod n),by simp[binOp,Op.intDiv,A],by simp only[VR]⟩
 |and=>
  simp only[iX] at h
  have z:=nh h;clear h;obtain⟨rfl,h⟩:=z
  obtain⟨r,G,h⟩:=xK h
  cases h
  exact⟨_,by simp only[binOp,ne_eq,not_true_eq_false,if_false];exact zm G,by simp only[VR]⟩
 |or=>
  simp only[iX] at h
  have z:=nh h;clear h;obtain⟨rfl,h⟩:=z
  obtain⟨r,G,h⟩:=xK h
  cases h
  exact⟨_,by simp only[binOp,ne_eq,not_true_eq_false,if_false];exact zm G,by simp only[VR]⟩
 |xor=>
  simp only[iX] at h
  have z:=nh h;clear h;obtain⟨rfl,h⟩:=z
  obtain⟨r,G,h⟩:=xK h
  cases h
  exact⟨_,by simp only[binOp,ne_eq,not_true_eq_false,if_false];exact zm G,by simp only[VR]⟩
 |andNot=>
  simp only[iX] at h
  have z:=nh h;clear h;obtain⟨rfl,h⟩:=z
  obtain⟨r,G,h⟩:=xK h
  cases h
  exact⟨_,by simp only[binOp,ne_eq,not_true_eq_false,if_false];exact zm G,by simp only[VR]⟩
 |add=>
  simp only[iX] at h
  have z:=nh h;clear h;obtain⟨rfl,h⟩:=z
  cases h
  exact⟨.int k (k.wrap (m+n)),by simp[binOp,Op.intArith],by simp only[VR,ng]⟩
 |sub=>
  simp only[iX] at h
  have z:=nh h;clear h;obtain⟨rfl,h⟩:=z
  cases h
  exact⟨.int k (k.wrap (m-n)),by simp[binOp,Op.intArith],by simp only[VR,ng]⟩
 |mul=>
  simp only[iX] at h
  have z:=nh h;clear h;obtain⟨rfl,h⟩:=z
  cases h
  exact⟨.int k (k.wrap (m*n)),by simp[binOp,Op.intArith],by simp only[VR,ng]⟩
 |eql=>
  simp only[iX] at h
  have z:=nh h;clear h;obtain⟨rfl,h⟩:=z
  cases h
  exact⟨.bool (m==n),by simp[binOp,Op.intCmp],by simp only[VR,uf];rfl⟩
 |neq=>
  simp only[iX] at h
  have z:=nh h;clear h;obtain⟨rfl,h⟩:=z
  cases h
  exact⟨.bool (m !=n),by simp[binOp,Op.intCmp],by simp only[VR,uf];rfl⟩
 |lss=>
  simp only[iX] at h
  have z:=nh h;clear h;obtain⟨rfl,h⟩:=z
  cases h
  exact⟨.bool (decide (m<n)),by simp[binOp,Op.intCmp],by simp only[VR,oZ]⟩
 |gtr=>
  simp only[iX] at h
  have z:=nh h;clear h;obtain⟨rfl,h⟩:=z
  cases h
  exact⟨.bool (decide (m>n)),by simp[binOp,Op.intCmp],by simp only[VR,oZ]⟩
 |leq=>
  simp only[iX] at h
  have z:=nh h;clear h;obtain⟨rfl,h⟩:=z
  cases h
  refine⟨.bool (decide (m≤n)),by simp[binOp,Op.intCmp],?_⟩
  simp only[VR,oZ,Value.bool.injEq]
  rw[gg]
  simp
 |geq=>
  simp only[iX] at h
  have z:=nh h;clear h;obtain⟨rfl,h⟩:=z
  cases h
  refine⟨.bool (decide (m≥n)),by simp[binOp,Op.intCmp],?_⟩
  simp only[VR,oZ,Value.bool.injEq]
  rw[gg]
  simp
theorem Gd:∀(a b:List UInt8),(!(Op.bytesLess a b||a==b))=Op.bytesLess b a
 |[],[]=>rfl
 |[],_::_=>rfl
 |_::_,[]=>rfl
 |x::r,y::s=>by
  simp only[Op.bytesLess,List.cons_beq_cons]
  rw[←Gd r s]
  rcases Iu x.toNat y.toNat with h|h|h
  ·have A:x<y:=UInt8.lt_iff_toNat_lt.2 h
   have h2:¬y<x:=by rw[AY];omega
   have z:x≠y:=fun e=>by subst e;omega
   have G:y≠x:=fun e=>z e.symm
   simp[A,h2,z,G]
  ·have h0:x=y:=UInt8.toNat_inj.1 h
   subst h0
   have h2:¬x<x:=by rw[AY];omega
   simp[h2]
  have A:y<x:=UInt8.lt_iff_toNat_lt.2 h
  have h2:¬x<y:=by rw[AY];omega
  have z:x≠y:=fun e=>by subst e;omega
  have G:y≠x:=fun e=>z e.symm
  simp[A,h2,z,G]
theorem Sr{op:BinOp}{s t:ByteArray}{u:an}(ty:TypeId)(h:Hy op s.size (pack s.data.toList) t.size (pack t.data.toList)=some u):
  ∃cv,(binOp op ty (.string s) (.string t)).run P w= .ok cv w∧VR ρ u cv:=by
 have G:s.size=s.data.toList.length:=by rw[nx];rfl
 have I:t.size=t.data.toList.length:=by rw[nx];rfl
 have z:s.toList=s.data.toList:=ByteArray.toList_eq s
 have dT:t.toList=t.data.toList:=ByteArray.toList_eq t
 unfold Hy at h
 cases op<;>simp only[reduceCtorEq] at h
 case add=>
  rw[rh] at h
  split at h
  ·rename_i A
   have A:=bO A
   cases h
   refine⟨.string (s++t),?_,?_⟩
   ·have J:¬(IntKind.i64.max<((s.size+t.size:Nat):Int)):=by
     have:IntKind.i64.max=9223372036854775807:=rfl
     rw[this]
     have:s.size+t.size≤4611686018427387904:=A
     omega
    simp only[binOp,Op.stringOp]
    rw[aj (by simpa using J)]
    rfl
   simp only[VR]
   refine⟨s++t,rfl,by simp,?_⟩
   have e:(s++t).data.toList=s.data.toList++t.data.toList:=by simp
   rw[e,←J6,G]
  cases h
 all_goals
  cases h
  rw[G,I]
  simp only[B9,Kn]
 case eql=>exact⟨.bool (s.data.toList==t.data.toList),by simp[binOp,Op.stringOp,z,dT],by simp only[VR,Value.bool.injEq];rw[gg];simp⟩
 case neq=>exact⟨.bool (!(s.data.toList==t.data.toList)),by simp[binOp,Op.stringOp,z,dT],by simp only[VR,Value.bool.injEq];rw[gg];simp⟩
 case lss=>exact⟨.bool (Op.bytesLess s.data.toList t.data.toList),by simp[binOp,Op.stringOp,z,dT],by simp only[VR]⟩
 case geq=>exact⟨.bool (!Op.bytesLess s.data.toList t.data.toList),by simp[binOp,Op.stringOp,z,dT],by simp only[VR]⟩
 case gtr=>
  refine⟨.bool (!(Op.bytesLess s.data.toList t.data.toList||s.data.toList==t.data.toList)),by simp[binOp,Op.stringOp,z,dT],?_⟩
  simp only[VR,Value.bool.injEq]
  exact Gd _ _
 case leq=>
  refine⟨.bool (Op.bytesLess s.data.toList t.data.toList||s.data.toList==t.data.toList),by simp[binOp,Op.stringOp,z,dT],?_⟩
  simp only[VR,Value.bool.injEq]
  have:=Gd s.data.toList t.data.toList
  rw[←this,Bool.not_not]
theorem KL(O:AR P ρ nt E a)(U:R ρ C w){op:BinOp}{t t':TypeId}{x z:Operand}{Y Z:aF}(ho:o.op= .binOp op t x z t')(hx:dm P x=some Y)(hz:dm P z=some Z)
  (h:A4 op Y Z E H= .ok v H'):fq P o a w (dW ρ C w H v H'):=by
 replace h:=fu h;obtain⟨u,hu,h⟩:=h
 replace h:=fu h;obtain⟨u2,I,h⟩:=h
 rw[CI] at h
 replace h:=ju h;obtain⟨r,A,h⟩:=h
 rw[tI] at h
 cases h
 have G:=O.b8 hx hu
 have h2:=O.b8 hz I
 unfold A2 at A
 split at A
 ·simp only[VR] at G h2
  obtain⟨cv,J,K⟩:=Sq (P:=P) (ρ:=ρ) (w:=w) t A
  exact gJ (by simp[execOp,ho,G,h2,QV,J]) U K
 ·simp only[VR] at G h2
  obtain⟨s1,e1,rfl,rfl⟩:=G
  obtain⟨s2,e2,rfl,rfl⟩:=h2
  obtain⟨cv,J,K⟩:=Sr (P:=P) (ρ:=ρ) (w:=w) t A
  exact gJ (by simp[execOp,ho,e1,e2,QW,J]) U K
 cases A
theorem Td(K:AR P ρ nt E a)(G:R ρ C w){op:UnOp}{t:TypeId}{x:Operand}{J:aF}(ho:o.op= .unOp op t x)(O:dm P x=some J)
  (h:Bp op J E H= .ok v H'):fq P o a w (dW ρ C w H v H'):=by
 replace h:=fu h;obtain⟨u,U,h⟩:=h
 replace h:=ju h;obtain⟨r,z,h⟩:=h
 rw[tI] at h
 cases h
 have A:=K.b8 O U
 unfold FJ at z
 split at z
 ·rename_i k n
  simp only[VR] at A
  cases z
  exact gJ (cv:=.int k (IntKind.wrap k (0-n))) (by simp[execOp,ho,A,Op.unary,Op.intArith]) G (by simp only[VR,ng])
 ·simp only[VR] at A
  obtain⟨Y,I,z⟩:=xK z
  cases z
  exact gJ (by simp only[execOp,ho,A,Op.unary,Sem.run_bind,zm I,Result.andThen_ok];rfl) G (by simp only[VR])
 ·simp only[VR] at A
  cases z
  exact gJ (by simp[execOp,ho,A,Op.unary];rfl) G (by simp only[VR])
 cases z
theorem RL(K:AR P ρ nt E a)(O:R ρ C w){s:TypeId}{x:Operand}{f:Nat}{I:aF}{J:Array Field}{z:Field}{i:TypeInfo}(ho:o.op= .fieldAddr s x f)(U:dm P x=some I)
  (Y:P.underlying s=some (.struct J)) (Z:J[f]?=some z) (hi:P.info? z.type=some i) (h0:i.size≠0) (h:Aw I z.offset E H= .ok v H'):fq P o a w (dW ρ C w H v H'):=by
 replace h:=fu h;obtain⟨u,hu,h⟩:=h
 replace h:=vF h;obtain⟨f1,g1,o1,rfl,h⟩:=h
 rw[ij] at h
 cases h
 have A:=K.b8 U hu
 simp only[VR] at A
 obtain⟨G,hh,A⟩:=A
 refine gJ (cv:=.pointer (some ⟨G.ca,G.off+(o1+z.offset),none⟩)) ?_ O ?_
 ·simp[execOp,ho,A,Instr.fieldAt,run_underlying Y,Z,Instr.sureAddr,fieldPlace,sizeOf,typeInfo,hi,h0,Addr.add_lit,mX]
 simp only[VR]
 exact⟨G,hh,rfl⟩
theorem RM(J:AR P ρ nt E a)(K:R ρ C w){x:Operand}{i:Nat}{I:aF}(ho:o.op= .extract x i)(O:dm P x=some I)
  (h:Ay I i E H= .ok v H'):fq P o a w (dW ρ C w H v H'):=by
 replace h:=fu h;obtain⟨u,U,h⟩:=h
 replace h:=RJ h;obtain⟨l,rfl,h⟩:=h
 replace h:=ju h;obtain⟨r,Y,h⟩:=h
 cases h
 have z:=J.b8 O U
 simp only[VR] at z
 obtain⟨vs,z,A⟩:=z
 obtain⟨y,Z,A⟩:=A.get i _ Y
 have G:vs[i]?=some y:=by simpa using Z
 exact gJ (by simp[execOp,ho,z,Instr.extract,G]) K A
theorem Rk(I:AR P ρ nt E a)(A:R ρ C w){x:Operand}{G:aF}(ho:o.op= .nilCheck x)(J:dm P x=some G)
  (h:Ad G E H= .ok v H'):fq P o a w (dW ρ C w H v H'):=by
 replace h:=fu h;obtain⟨u,K,h⟩:=h
 replace h:=fO h;obtain⟨O,h⟩:=h
 cases h
 have z:=I.b8 J K
 cases v<;>simp only[xp,p9] at O
 ·have h2:=z
  simp only[VR] at z
  obtain⟨U,_,z⟩:=z
  exact gJ (by simp[execOp,ho,z];rfl) A (by rw[←z];exact h2)
 have h2:=z
 simp only[VR] at z
 obtain⟨_,vs,z,_⟩:=z
 exact gJ (by simp[execOp,ho,z];rfl) A (by rw[←z];exact h2)
theorem RN(I:AR P ρ nt E a)(J:R ρ C w){f:Nat}{first eJ:Array Operand}{z A:List aF}(ho:o.op= .makeFunc (.func f) first eJ)(K:lp P first.toList=some z)(O:lp P eJ.toList=some A)
  (h:Az f z A E H= .ok v H'):fq P o a w (dW ρ C w H v H'):=by
 replace h:=ju h;obtain⟨Z,G,h⟩:=h
 replace h:=ju h;obtain⟨vs,U,h⟩:=h
 cases h
 have h0:=I.dG K G
 have Y:=I.dG O U
 refine gJ (cv:=.func (.func f) (first.map a.eval) (eJ.map a.eval)) (by simp[execOp,ho,Instr.makeFunc]) J ?_
 simp only[VR]
 exact⟨_,_,rfl,by simpa using h0,by simpa using Y⟩
theorem RO(A:AR P ρ nt E a)(G:R ρ C w){t:TypeId}{x:Operand}{z:aF}{d:TypeDesc}(ho:o.op= .makeInterface t x)(I:P.underlying t=some d)(J:∀ms,d≠.interface ms)(K:dm P x=some z)
  (h:AA t z E H= .ok v H'):fq P o a w (dW ρ C w H v H'):=by
 replace h:=fu h;obtain⟨u,O,h⟩:=h
 cases h
 have U:=A.b8 K O
 refine gJ (cv:=.iface t (a.eval x)) ?_ G ?_
 ·cases d<;>first|exact absurd rfl (J _)|simp[execOp,ho,Instr.makeInterface,run_underlying I]
 simp only[VR]
 exact⟨_,rfl,U⟩
end
section
variable{P:Program}{ρ:Ho}{nt:Nat}{E:Env}{a:Act}{C:Nat→Option dQ}{w:World}{H H':az}{v:an}{o:Oper}
theorem tQ{t:TypeId}{n:Nat}(h:jK P t=some n):∃i d,P.info? t=some i∧P.underlying t=some d∧i.size=n∧n≠0:=by
 unfold jK at h
 split at h
 ·rename_i i d hi z
  split at h
  ·rename_i A
   cases h
   exact⟨i,d,hi,z,rfl,A⟩
  cases h
 cases h
theorem tJ{t:TypeId}{n:Nat}(h:jK P t=some n)(w:World):(sizeOf t).run P w= .ok n w:=by
 obtain⟨i,d,hi,_,e,_⟩:=tQ h
 simp[sizeOf,typeInfo,hi,e]
theorem Gs{t:TypeId}{n:Nat}(h:jK P t=some n)(w:World):(isAgg t).run P w= .ok (pS P t) w:=by
 obtain⟨i,d,_,z,_,_⟩:=tQ h
 unfold isAgg pS
 rw[z]
 cases d<;>simp[run_underlying z]
theorem Mh{t:TypeId}{n off e:Nat}{l:List an}{cs:Array Value}(U:jK P t=some n)(Y:cF ρ l cs.toList)(A:l.all hD=true)(hle:off+n≤l.length)
  (h:iL (pS P t) ((l.drop off).take n) (.err e) (fun v=>.ok v H)= .ok v H'):H'=H∧∃cv,(part t cs off).run P w= .ok cv w∧VR ρ v cv:=by
 replace h:=Hb h
 have I:=tJ U w
 have z:=Gs U w
 rcases h with⟨J,h⟩|⟨x,J,Z,h⟩
 ·cases h
  refine⟨rfl,.agg (cs.extract off (off+n)),?_,?_⟩
  ·rw[J] at z
   simp[part,z,I]
  simp only[VR]
  refine⟨_,rfl,?_,?_⟩
  ·have e1:(cs.extract off (off+n)).toList=(cs.toList.drop off).take n:=by
    rw[Iv,Pa,show off+n-off=n by omega]
   rw[e1]
   exact(Y.drop off).take n
  rw[E4] at A⊢
  exact fun x K=>A x (E5 (AZ K))
 cases h
 have K:l[off]?=some v:=by
  have G:((l.drop off).take n)[0]?=some v:=by rw[Z];rfl
  rw[Bm] at G
  split at G
  ·rw[td] at G
   simpa using G
  cases G
 obtain⟨y,hy,k⟩:=Y.get off v K
 have O:cs[off]?=some y:=by simpa using hy
 refine⟨rfl,y,?_,k⟩
 rw[J] at z
 simp[part,z,O]
theorem Ss(U:AR P ρ nt E a)(Y:R ρ C w){s:TypeId}{x:Operand}{f n:Nat}{K:aF}{O:Array Field}{z:Field}(ho:o.op= .field s x f)(Z:dm P x=some K)
  (hs:P.underlying s=some (.struct O)) (hf:O[f]?=some z) (hn:jK P z.type=some n) (h:A5 K z.offset n (pS P z.type) E H= .ok v H'):fq P o a w (dW ρ C w H v H'):=by
 replace h:=fu h;obtain⟨u,hu,h⟩:=h
 replace h:=Lw h;obtain⟨l,rfl,h⟩:=h
 replace h:=fO h;obtain⟨A,h⟩:=h
 rw[oO] at A
 have A:=bO A
 have G:=U.b8 Z hu
 simp only[VR] at G
 obtain⟨vs,G,hv,I⟩:=G
 obtain⟨rfl,cv,hc,J⟩:=Mh (P:=P) (ρ:=ρ) (w:=w) hn hv I A h
 exact gJ (by simp[execOp,ho,G,Instr.field,run_underlying hs,hf,asAgg,hc]) Y J
theorem Q8(J:AR P ρ nt E a)(U:R ρ C w){t e:TypeId}{x i:Operand}{K O:aF}{k n:Nat}(ho:o.op= .indexAddr t x i)(Y:dm P x=some K)(hi:dm P i=some O)
  (Z:P.underlying t=some (.array k e)) (hn:jK P e=some n) (h:zG k n K O E H= .ok v H'):fq P o a w (dW ρ C w H v H'):=by
 replace h:=fu h;obtain⟨u,hu,h⟩:=h
 replace h:=vF h;obtain⟨f1,g1,o1,rfl,h⟩:=h
 replace h:=fu h;obtain⟨u2,A,h⟩:=h
 replace h:=Dd h;obtain⟨kd,j,rfl,hj,h⟩:=h
 rw[ij] at h
 cases h
 have z:=J.b8 Y hu
 have h2:=J.b8 hi A
 simp only[VR] at z h2
 obtain⟨G,hh,z⟩:=z
 have I:(j:Int)<(k:Int):=by omega
 refine gJ (cv:=.pointer (some ⟨G.ca,G.off+(o1+j*n),none⟩)) ?_ U ?_
 ·simp[execOp,ho,z,h2,Instr.indexAt,run_underlying Z,asIntOf,Instr.sureAddr,tJ hn,Addr.add_lit,mX,I,hj]
 simp only[VR]
 exact⟨G,hh,rfl⟩
theorem Rl(J:AR P ρ nt E a)(Y:R ρ C w){t e:TypeId}{x i:Operand}{K O:aF}{n:Nat}(ho:o.op= .indexAddr t x i)(Z:dm P x=some K)(hi:dm P i=some O)
  (ht:P.underlying t=some (.slice e)) (hn:jK P e=some n) (h:Ab n K O E H= .ok v H'):fq P o a w (dW ρ C w H v H'):=by
 replace h:=fu h;obtain⟨u,hu,h⟩:=h
 replace h:=wZ h
 rcases h with⟨_,h⟩|⟨f1,g1,o1,l1,es,rfl,h⟩
 ·cases h
 replace h:=fu h;obtain⟨u2,A,h⟩:=h
 replace h:=Dd h;obtain⟨kd,j,rfl,hj,h⟩:=h
 rw[ij] at h
 cases h
 have z:=J.b8 Z hu
 have h2:=J.b8 hi A
 simp only[VR] at z h2
 obtain⟨G,ad,cap,hh,z,vf,U⟩:=z
 rcases U with⟨rfl,U⟩|⟨hz,_⟩
 ·have I:(j:Int)<(l1:Int):=by omega
  refine gJ (cv:=.pointer (some ⟨G.ca,G.off+(o1+j*n),none⟩)) ?_ Y ?_
  ·simp[execOp,ho,z,h2,Instr.indexAt,run_underlying ht,asIntOf,Instr.sureAddr,tJ hn,Addr.add_lit,mX,I,hj]
  simp only[VR]
  exact⟨G,hh,rfl⟩
 omega
theorem Q9(U:AR P ρ nt E a)(hR:R ρ C w){t e:TypeId}{x i:Operand}{Y Z:aF}{k n:Nat}(ho:o.op= .index t x i)(hx:dm P x=some Y)(hi:dm P i=some Z)
  (ht:P.underlying t=some (.array k e)) (hn:jK P e=some n) (h:zH k n (pS P e) Y Z E H= .ok v H'):fq P o a w (dW ρ C w H v H'):=by
 replace h:=fu h;obtain⟨u,hu,h⟩:=h
 replace h:=Lw h;obtain⟨l,rfl,h⟩:=h
 replace h:=fu h;obtain⟨u2,G,h⟩:=h
 replace h:=Dd h;obtain⟨kd,j,rfl,hj,h⟩:=h
 replace h:=fO h;obtain⟨z,h⟩:=h
 rw[oO] at z
 have z:=bO z
 have A:=U.b8 hx hu
 have h2:=U.b8 hi G
 simp only[VR] at A h2
 obtain⟨vs,A,hv,I⟩:=A
 have J:(j:Int)<(k:Int):=by omega
 obtain⟨rfl,cv,hc,K⟩:=Mh (P:=P) (ρ:=ρ) (w:=w) hn hv I z h
 have O:(part e vs (j*n)).run P w= .ok cv w:=hc
 exact gJ (by simp[execOp,ho,A,h2,Instr.index,asIntOf,run_underlying ht,tJ hn,J,hj,O]) hR K
theorem Q'(I:AR P ρ nt E a)(O:R ρ C w){t:TypeId}{x i:Operand}{J K:aF}(ho:o.op= .index t x i)(U:dm P x=some J)(hi:dm P i=some K)
  (Y:P.underlying t=some .string) (h:zI J K E H= .ok v H'):fq P o a w (dW ρ C w H v H'):=by
 replace h:=fu h;obtain⟨u,Z,h⟩:=h
 replace h:=xg h;obtain⟨l,s,rfl,h⟩:=h
 replace h:=fu h;obtain⟨u2,A,h⟩:=h
 replace h:=Dd h;obtain⟨kd,j,rfl,hj,h⟩:=h
 rw[ij] at h
 cases h
 have z:=I.b8 U Z
 have h2:=I.b8 hi A
 simp only[VR] at z h2
 obtain⟨b,z,rfl,rfl⟩:=z
 have nG:b.size=b.data.toList.length:=by rw[nx];rfl
 have G:j<b.data.toList.length:=by omega
 have hb:b[j]?=some (b.data.toList[j]):=by
  rw[getElem?_pos b j (by omega)]
  rfl
 refine gJ (cv:=.int .u8 (vU (pack b.data.toList) j)) ?_ O (by simp only[VR];rfl)
 rw[J4 _ _ G]
 have h3:(0:Int)≤(j:Int):=by omega
 simp only[execOp,ho,z,h2,Instr.index,asIntOf,Sem.run_bind,Sem.run_pure,Result.andThen_ok,run_underlying Y,aw h3,E6,hb]
end
section
variable{P:Program}{ρ:Ho}{nt:Nat}{E:Env}{a:Act}{C:Nat→Option dQ}{w:World}{H H':az}{v:an}{o:Oper}
theorem Mi(K:AR P ρ nt E a){x:Option Operand}{I:Option aF}{d y n:Nat}{k:Nat→aE}(A:pT P x=some I)(h:gi E I d y (.err n) k= .ok v H')(O:d≤y):
  ∃i:Nat,i≤y∧k i= .ok v H'∧((x=none∧i=d)∨∃z G,x=some z∧a.eval z= .int G i):=by
 replace h:=VD h
 rcases h with⟨rfl,h⟩|⟨z,G,i,rfl,U,hi,h⟩
 ·refine⟨d,O,h,.inl ⟨?_,rfl⟩⟩
  cases x with
  |none=>rfl
  |some u=>simp only[pT] at A;split at A<;>cases A
 cases x with
 |none=>simp[pT] at A
 |some u=>
  simp only[pT] at A
  split at A
  ·rename_i Z Y
   cases A
   have J:=K.b8 Y U
   simp only[VR] at J
   exact⟨i,hi,h,.inr ⟨u,G,rfl,J⟩⟩
  cases A
theorem B1{z:IntKind}{i y:Nat}(h:i≤y)(code:BoundsCode):(Instr.sliceBound (.int z i) y code).run P w= .ok i w:=by
 have A:(i:Int)≤(y:Int):=by omega
 simp[Instr.sliceBound,asIntOf,h]
theorem Gt(Y:AR P ρ nt E a){lo hi:Option Operand}{A G:Option aF}{I cap n:Nat}{k:Nat→Nat→aE}{FM:Bool}(K:pT P lo=some A)(O:pT P hi=some G)(hc:I≤cap)
  (h:(gi E G I I (.err n) fun h=>gi E A 0 h (.err n) fun l=>k h l)= .ok v H'):
  ∃l h:Nat,l≤h∧h≤I∧k h l= .ok v H'∧(Instr.sliceBounds FM I cap (lo.map a.eval) (hi.map a.eval) none).run P w= .ok (l,h,cap) w:=by
 obtain⟨Z,h1,h,hx⟩:=Mi Y O h (bV _)
 obtain⟨l,h2,h,hy⟩:=Mi Y K h (da _)
 refine⟨l,Z,h2,h1,h,?_⟩
 rcases hx with⟨rfl,rfl⟩|⟨z,kd,rfl,e⟩
 ·rcases hy with⟨rfl,rfl⟩|⟨z2,U,rfl,e2⟩
  ·simp[Instr.sliceBounds]
  simp[Instr.sliceBounds,e2,B1 h2]
 have J:Z≤cap:=by omega
 rcases hy with⟨rfl,rfl⟩|⟨z2,U,rfl,e2⟩
 ·simp[Instr.sliceBounds,e,B1 J]
 simp[Instr.sliceBounds,e,e2,B1 J,B1 h2]
theorem Rm(O:AR P ρ nt E a)(hR:R ρ C w){t:TypeId}{x:Operand}{U:aF}{lo hi:Option Operand}{z A:Option aF}(ho:o.op= .slice t x lo hi none)(hx:dm P x=some U)
  (J:pT P lo=some z) (K:pT P hi=some A) (ht:P.underlying t=some .string) (h:Ac U z A E H= .ok v H'):fq P o a w (dW ρ C w H v H'):=by
 replace h:=fu h;obtain⟨u,hu,h⟩:=h
 replace h:=xg h;obtain⟨l,s,rfl,h⟩:=h
 have I:=O.b8 hx hu
 simp only[VR] at I
 obtain⟨b,I,rfl,rfl⟩:=I
 obtain⟨l,Y,hle,Z,h,G⟩:=Gt (w:=w) (FM:=false) O J K (bV _) h
 rw[ij,ij] at h
 cases h
 have nG:b.size=b.data.toList.length:=by rw[nx];rfl
 refine gJ (cv:=.string (b.extract l Y)) ?_ hR ?_
 ·simp[execOp,ho,I,Instr.sliceAt,Instr.slice,run_underlying ht,G]
 simp only[VR]
 refine⟨_,rfl,?_,?_⟩
 ·rw[ByteArray.size_extract]
  show Y-l=_
  omega
 rw[J5]
 congr 1
 rw[ByteArray.data_extract,Iv,Pa]
theorem RP(hA:AR P ρ nt E a)(hR:R ρ C w){t e:TypeId}{x:Operand}{x':aF}{n:Nat}{lo hi:Option Operand}{I J:Option aF}(ho:o.op= .slice t x lo hi none)(hx:dm P x=some x')
  (K:pT P lo=some I) (O:pT P hi=some J) (ht:P.underlying t=some (.slice e)) (hn:jK P e=some n) (h:Ax n x' I J E H= .ok v H'):fq P o a w (dW ρ C w H v H'):=by
 replace h:=fu h;obtain⟨u,hu,h⟩:=h
 replace h:=wZ h
 have A:=hA.b8 hx hu
 rcases h with⟨rfl,h⟩|⟨f1,g1,o1,l1,es,rfl,h⟩
 ·simp only[VR] at A
  obtain⟨l,U,hle,Y,h,z⟩:=Gt (w:=w) (FM:=true) hA K O (bV _) h
  cases h
  have:l=0:=by omega
  subst this
  have:U=0:=by omega
  subst this
  refine gJ (cv:=.slice none 0 0) ?_ hR (by simp only[VR])
  simp[execOp,ho,A,Instr.sliceAt,Instr.slice,run_underlying ht,z,tJ hn]
 replace h:=fO h;obtain⟨hb,h⟩:=h
 have:=eb hb
 subst this
 simp only[VR] at A
 obtain⟨hm,ad,cap,P6,A,vf,G⟩:=A
 obtain⟨l,U,hle,Y,h,z⟩:=Gt (w:=w) (FM:=true) hA K O vf h
 rw[ij,ij] at h
 cases h
 have Z:=(tQ hn)
 obtain⟨_,_,_,_,_,Z⟩:=Z
 refine gJ (cv:=.slice (some (if cap=l then ad else ad.add (l*n))) (U-l) (cap-l)) ?_ hR ?_
 ·simp only[execOp,ho,A,Instr.sliceAt,Instr.slice,Sem.run_bind,run_underlying ht,Result.andThen_ok,z,tJ hn,Option.map_none,Sem.run_pure,sO]
  by_cases hc:cap=l<;>simp[hc]
 simp only[VR]
 refine⟨hm,_,_,P6,rfl,by show U-l≤cap-l;omega,?_⟩
 show IJ hm (if cap=l then ad else ad.add (l*n)) (U-l) (cap-l) (o1+l*n) n
 unfold IJ at G⊢
 rcases G with⟨rfl,G⟩|⟨hz,hc0,ho0⟩
 ·by_cases hc:cap=l
  ·rw[aw hc]
   by_cases od:l=0
   ·left
    subst od
    refine⟨by simp,?_⟩
    rw[hc] at G⊢
    simpa using G
   right
   refine⟨by omega,by omega,?_⟩
   have:0<l*n:=Nat.mul_pos (by omega) (by omega)
   omega
  rw[aj hc]
  left
  refine⟨by simp[Addr.add_lit,mX],?_⟩
  rw[mX,←ny,show l+(cap-l)=cap by omega]
  exact G
 right
 refine⟨by omega,by omega,by omega⟩
theorem RQ(z:R ρ C w){c:Call}{x:Operand}{t e:TypeId}{n:Nat}(ho:o.op= .call c)(A:c.callee= .builtin .len)(G:c.args=#[x])(I:c.argTypes[0]?=some t)(J:P.underlying t=some (.array n e))
  (h:ON n E H= .ok v H'):fq P o a w (dW ρ C w H v H'):=by
 cases h
 exact gJ (cv:=.int .i64 n) (by simp[execOp,ho,resolve,A,G,invoke,builtin,Builtin.len_,I,run_underlying J,goInt]) z (by simp only[VR];rfl)
theorem RR(J:AR P ρ nt E a)(K:R ρ C w){c:Call}{x:Operand}{I:aF}{t:TypeId}(ho:o.op= .call c)(O:c.callee= .builtin .len)(U:c.args=#[x])(A:dm P x=some I)
  (Y:c.argTypes[0]?=some t) (Z:P.underlying t=some .string) (h:AD I E H= .ok v H'):fq P o a w (dW ρ C w H v H'):=by
 replace h:=fu h;obtain⟨u,G,h⟩:=h
 have z:=J.b8 A G
 replace h:=xg h;obtain⟨l,s,rfl,h⟩:=h
 cases h
 simp only[VR] at z
 obtain⟨b,z,rfl,rfl⟩:=z
 exact gJ (cv:=.int .i64 b.size) (by simp[execOp,ho,resolve,O,U,invoke,builtin,Builtin.len_,Y,run_underlying Z,goInt,z]) K (by simp only[VR];rfl)
theorem Su(Z:AR P ρ nt E a)(I:R ρ C w){c:Call}{x:Operand}{J:aF}{t e:TypeId}(ho:o.op= .call c)(K:c.callee= .builtin .len)(O:c.args=#[x])(A:dm P x=some J)
  (U:c.argTypes[0]?=some t) (Y:P.underlying t=some (.slice e)) (h:A6 J E H= .ok v H'):fq P o a w (dW ρ C w H v H'):=by
 replace h:=fu h;obtain⟨u,G,h⟩:=h
 have z:=Z.b8 A G
 replace h:=wZ h
 rcases h with⟨rfl,h⟩|⟨f,g,o1,l,es,rfl,h⟩
 ·cases h
  simp only[VR] at z
  exact gJ (cv:=.int .i64 0) (by simp[execOp,ho,resolve,K,O,invoke,builtin,Builtin.len_,U,run_underlying Y,goInt,z]) I (by simp only[VR];rfl)
 cases h
 simp only[VR] at z
 obtain⟨hm,ad,cap,P6,z,vf,hs⟩:=z
 exact gJ (cv:=.int .i64 l) (by simp[execOp,ho,resolve,K,O,invoke,builtin,Builtin.len_,U,run_underlying Y,goInt,z]) I (by simp only[VR];rfl)
theorem RU(G:AR P ρ nt E a)(I:R ρ C w){src dst:TypeId}{k J:IntKind}{x:Operand}{z:aF}(ho:o.op= .convert src dst x)(K:dm P x=some z)(O:P.underlying src=some (.int J))(U:P.underlying dst=some (.int k))
  (h:AE k z E H= .ok v H'):fq P o a w (dW ρ C w H v H'):=by
 replace h:=fu h;obtain⟨u,Y,h⟩:=h
 replace h:=sc h;obtain⟨Z,n,rfl,h⟩:=h
 rw[r9] at h
 cases h
 have A:=G.b8 K Y
 simp only[VR] at A
 exact gJ (cv:=.int k (k.wrap n)) (by simp[execOp,ho,A,convert,run_underlying O,run_underlying U,Conv.intToInt]) I (by simp only[VR,ng])
end
section
variable{P:Program}{ρ:Ho}{nt:Nat}{E:Env}{a:Act}{C:Nat→Option dQ}{w:World}{H H':az}{v:an}{o:Oper}
theorem B2(b:Nat):∀(vs:List Value)(o:Nat)(w:World),
  (w.setCells b o vs).heap.size=w.heap.size∧(∀k,k≠b→(w.setCells b o vs).heap[k]?=w.heap[k]?)∧
  (∀c e fz,w.heap[b]?=some (.cells c e fz)→∃z,(w.setCells b o vs).heap[b]?=some (.cells z e fz)∧z.size=c.size)∧
  (w.setCells b o vs).os=w.os∧(w.setCells b o vs).tape=w.tape∧(w.setCells b o vs).output=w.output
 |[],_,_=>⟨rfl,fun _ _=>rfl,fun c e fz h=>⟨c,h,rfl⟩,rfl,rfl,rfl⟩
 |v::r,o,w=>by
  obtain⟨G,h2,I,J,K,O⟩:=B2 b r (o+1) (w.setCell ⟨b,o,none⟩ v)
  simp only[World.setCells]
  refine⟨G.trans (by simp[World.setCell]),fun k hk=>(h2 k hk).trans ?_,fun c e fz h=>?_,J,K,O⟩
  ·simp only[World.setCell,Iw]
   rw[aj (fun e=>hk e.symm)]
  obtain⟨z,A,U⟩:=I (c.setIfInBounds o v) e fz (by simp[World.setCell,Iw,h])
  exact⟨z,A,by simpa using U⟩
noncomputable def Ho.add(ρ:Ho)(f g:Nat)(h:Hm):Ho:=fun f' g'=>if f'=f∧g'=g then some h else ρ f' g'
theorem Ho.add_same(ρ:Ho)(f g:Nat)(h:Hm):ρ.add f g h f g=some h:=by simp[Ho.add]
theorem Ho.Nb{ρ:Ho}{f g:Nat}{h:Hm}(A:∀x,ρ f g=some x→x=h):ρ.le (ρ.add f g h):=by
 intro f' g' x z
 unfold Ho.add
 split
 ·rename_i e
  obtain⟨rfl,rfl⟩:=e
  rw[A x z]
 exact z
theorem Ho.kx{ρ:Ho}{f g f' g':Nat}{h x:Hm}(e:ρ.add f g h f' g'=some x):(f'=f∧g'=g∧x=h)∨ρ f' g'=some x:=by
 unfold Ho.add at e
 split at e
 ·rename_i k;cases e;exact .inl ⟨k.1,k.2,rfl⟩
 exact .inr e
theorem R.heap{w':World}(z:R ρ C w)(h:w'.heap=w.heap):R ρ C w':=
 ⟨fun f o e g x A=>(z.obj f o e g x A).iU (Ho.le_refl _) (by rw[h]),z.n7,fun f g x A=>by rw[h];exact z.kb f g x A,z.uniq,fun f g x A a b=>(z.mM f g x A a b).iU (cell_of_heap (w:=w) (by rw[h]))⟩
theorem R.Nc(fl:Nat)(fz:Nat×Nat)(J:R ρ C w){f elem es aP n:Nat}{cs:RT}{cells:Array Value}(W:Nat→Prop)(A:∀g,ρ f g=none)(he:0<es)(nG:n*es≤cells.size)
  (FN:∀i,i<n→∃l,cs.get i=some l∧l.length=es∧∀j x,l[j]?=some x→hD x=true∧∃cv,cells[i*es+j]?=some cv∧VR ρ x cv) {w':World}
  (U:w'.heap=w.heap.push (.cells cells elem fz)) (Y:∀i,i<cells.size→¬(fz.1≤i∧i<fz.2)) (Z:fl=0∨fl=2→fz.1=fz.2) (h1:w'.os=w.os) (h2:w'.tape=w.tape) (h3:w'.output=w.output):
  ∃ρ',ρ' f n=some ⟨w.heap.size,0,cells.size,false,false⟩∧Ext W f (f+1) ρ ρ' w w'∧R ρ' (fun x=>if x=f then some (.row elem es aP n n fl cs) else C x) w':=by
 have hle:ρ.le (ρ.add f n ⟨w.heap.size,0,cells.size,false,false⟩):=Ho.Nb fun x z=>by rw[A] at z;cases z
 have hold:∀b,b<w.heap.size→w'.heap[b]?=w.heap[b]?:=fun b I=>by rw[U,Ix,aj (by omega)]
 have G:w'.heap[w.heap.size]?=some (.cells cells elem fz):=by rw[U];simp
 refine⟨_,Ho.add_same _ _ _ _,⟨hle,?_,?_,fun b I _=>hold b I,by rw[U];simp,sM _,h1,h2,h3⟩,⟨?_,?_,?_,?_,?_⟩⟩
 ·intro f' g' x z
  rcases Ho.kx z with⟨rfl,_,_⟩|z
  ·exact .inr ⟨bV _,gh _⟩
  exact .inl ⟨g',x,z⟩
 ·intro f' g' x z
  rcases Ho.kx z with⟨rfl,_,rfl⟩|z
  ·exact .inr (.inl ⟨bV _,rfl⟩)
  exact .inl z
 ·intro f' o hf g x z
  have K:(if f'=f then some (dQ.row elem es aP n n fl cs) else C f')=some o:=hf
  clear hf
  by_cases e:f'=f
  ·rw[aw e] at K
   subst e
   cases K
   rcases Ho.kx z with⟨_,rfl,rfl⟩|z
   ·refine⟨he,fun h=>(by cases h),bV _,fun _ _=>⟨⟨cells,fz,G,by simp⟩,nG,fun i hi=>?_,fun _ i hi=>?_,fun _ i _ hi=>?_,fun _=>rfl,fun e c t fz' hc=>by rw[G] at hc;cases hc;exact .inl (Z e)⟩⟩
    ·obtain⟨l,a1,a2,a3⟩:=FN i hi
     refine⟨l,a1,a2,fun j y hy=>?_⟩
     obtain⟨b1,cv,b2,b3⟩:=a3 j y hy
     refine⟨b1,cv,?_,b3.mono hle⟩
     simp only[World.cell?,G]
     simpa using b2
    ·simp only[World.frozen?,G];have:=Y i (by simpa using‹_›);simp at this⊢;omega
    simp only[World.frozen?,G];have:=Y i (by simpa using‹_›);simp at this⊢;omega
   rw[A] at z;cases z
  rw[aj e] at K
  rcases Ho.kx z with⟨e',_,_⟩|z
  ·exact absurd e' e
  exact(J.obj f' o K g x z).iU hle (hold _ (J.kb _ _ _ z))
 ·intro f1 g1 x1 f2 g2 x2 e1 e2 lK I
  have c1:=Ho.kx e1
  have c2:=Ho.kx e2
  clear e1 e2
  rcases c1 with⟨e,_,rfl⟩|e1<;>rcases c2 with⟨e',_,rfl⟩|e2
  ·exact absurd (e.trans e'.symm) lK
  ·have:=J.kb _ _ _ e2
   have I:w.heap.size=x2.ca:=I
   omega
  ·have:=J.kb _ _ _ e1
   have I:x1.ca=w.heap.size:=I
   omega
  exact J.n7 _ _ _ _ _ _ e1 e2 lK I
 ·intro f' g' x z
  rw[U,Array.size_push]
  rcases Ho.kx z with⟨_,_,rfl⟩|z
  ·simp
  have:=J.kb _ _ _ z
  omega
 ·intro f' g1 x1 g2 x2 e1 e2 I
  have c1:=Ho.kx e1
  have c2:=Ho.kx e2
  clear e1 e2
  rcases c1 with⟨rfl,_,rfl⟩|e1<;>rcases c2 with⟨e',_,rfl⟩|e2
  ·rfl
  ·rw[A] at e2;cases e2
  ·subst e';rw[A] at e1;cases e1
  exact J.uniq _ _ _ _ _ e1 e2 I
 intro f' g' x z oe Ja
 rcases Ho.kx z with⟨_,_,rfl⟩|O
 ·cases oe
 have k:=J.mM _ _ _ O oe Ja
 refine y1.iU ⟨fun g2 x2 e2=>?_,k.2⟩ (cell_of_heap (w:=w) ?_)
 ·rcases Ho.kx e2 with⟨rfl,_,_⟩|e2
  ·rw[A] at O;cases O
  exact k.1 _ _ e2
 have:=J.kb _ _ _ O
 show w'.heap[x.ca]?=_
 rw[U,Ix,aj (by omega)]
theorem R.alloc(I:R ρ C w){f elem es aP n:Nat}{cs:RT}{cells:Array Value}(W:Nat→Prop)(z:∀g,ρ f g=none)(he:0<es)(A:n*es≤cells.size)
  (G:∀i,i<n→∃l,cs.get i=some l∧l.length=es∧∀j x,l[j]?=some x→hD x=true∧∃cv,cells[i*es+j]?=some cv∧VR ρ x cv) {w':World}
  (J:w'.heap=w.heap.push (.cells cells elem)) (K:w'.os=w.os) (h2:w'.tape=w.tape) (O:w'.output=w.output):
  ∃ρ',ρ' f n=some ⟨w.heap.size,0,cells.size,false,false⟩∧Ext W f (f+1) ρ ρ' w w'∧R ρ' (fun x=>if x=f then some (.row elem es aP n n 0 cs) else C x) w':=by
 exact I.Nc 0 (0,0) W z he A G J (fun i _ h=>by simp at h) (fun _=>rfl) K h2 O
theorem Cg(C:Nat→Option dQ)(H:az)(o:dQ):gC C H ⟨H.next+1,H.bc,H.ws,H.t.set H.next o⟩=fun x=>if x=H.next then some o else C x:=by
 funext x
 unfold gC
 simp only[GT.eY]
 by_cases h:x=H.next
 ·subst h
  simp
 have h2:¬(H.next≤x∧x<H.next+1):=by omega
 have z:(H.t.set H.next o).get x=H.t.get x:=by rw[GT.eY,aj h]
 simp[h2,h,z]
theorem R.rd(hR:R ρ C w){f g off n:Nat}{l:List an}(hr:IK H f g off n l)(hC:C f=H.t.get f){h:Hm}(hh:ρ f g=some h)(hn:0<n):
  l.length=n∧l.all hD=true∧∀j x,l[j]?=some x→∃cv,w.cell? ⟨h.ca,h.off+off+j,none⟩=some cv∧VR ρ x cv:=by
 obtain⟨elem,es,aP,m,lo,fl,cs,x,hg,h1,h2,h3,h4,hx,Z⟩:=hr
 have J:=hR.obj f _ (hC.trans hg) g h hh
 obtain⟨he,oe,_,A⟩:=J
 have A:=A h1 h2
 obtain⟨y,hy,K,O⟩:=A.cell _ h4
 have U:y=x:=by
  have:some y=some x:=hy.symm.trans hx
  cases this
  rfl
 subst U
 have Fj:off/es*es+off % es=off:=by rw[mY];exact E7 off es
 have hlen:l.length=n:=by
  rcases Z with⟨rfl,rfl⟩|rfl
  ·exact K
  simp[K];omega
 have I:∀j z,l[j]?=some z→y[off % es+j]?=some z:=by
  intro j z G
  rcases Z with⟨rfl,rfl⟩|rfl
  ·have:off % n=0:=by omega
   rw[this,jx];exact G
  rw[Bm] at G
  split at G
  ·rwa [td] at G
  cases G
 refine⟨hlen,?_,fun j z G=>?_⟩
 ·rw[E4]
  intro z G
  obtain⟨j,hj⟩:=Iy G
  exact(O _ z (I j z hj)).1
 obtain⟨_,cv,Y,hv⟩:=O _ z (I j z G)
 refine⟨cv,?_,hv⟩
 rw[show h.off+off+j=h.off+off/es*es+(off % es+j) by omega]
 exact Y
end
section
variable{P:Program}{ρ:Ho}{nt:Nat}{E:Env}{a:Act}{C:Nat→Option dQ}{w:World}{H H':az}{v:an}{o:Oper}
def iv(ρ:Ho)(n0 n1:Nat):Prop:=∀f g,n0≤f→f<n1→ρ f g=none
theorem Ko{x:an}{l:List an}(h:cellsOf x=some l):jW x=some l:=by
 cases x<;>simp only[cellsOf,jW,reduceCtorEq] at h⊢<;>exact h
theorem zs{l:List an}{vs:Array Value}(A:cF ρ l vs.toList)(hk:l.all hD=true)(j:Nat)(x:an)(z:l[j]?=some x):hD x=true∧∃cv,vs[j]?=some cv∧VR ρ x cv:=by
 obtain⟨y,G,k⟩:=A.get j x z
 exact⟨(List.all_eq_true.1 hk) x (kY z),y,by simpa using G,k⟩
theorem Nd(G:R ρ C w)(I:iv ρ H.next H'.next){elem es aP:Nat}{l:List an}{vs:Array Value}(he:0<es)(J:l.length=es)(A:cF ρ l vs.toList)(hk:l.all hD=true)
  (z:(execOp a.eval o).run P w= .ok (.value (.pointer (some ⟨w.heap.size,0,none⟩))) {w with heap:=w.heap.push (.cells vs elem)})
  (h:wi elem es aP l E H= .ok v H'):fq P o a w (dW ρ C w H v H'):=by
 have h:=xh h
 cases h
 have K:vs.size=es:=by have:=A.length;rw[nx] at this;omega
 obtain⟨ρ',O,h2,U⟩:=G.alloc (f:=H.next) (elem:=elem) (es:=es) (aP:=aP) (n:=1) (cs:=.one l) (cells:=vs) (w':={w with heap:=w.heap.push (.cells vs elem)})
  (Wr ⟨H.next+1,H.bc,H.ws,H.t.set H.next (.row elem es aP 1 1 0 (.one l))⟩) (fun g=>I _ g (bV _) (gh _)) he (by omega)
  (fun i hi=>by
   have:i=0:=by omega
   subst this
   exact⟨l,rfl,J,fun j x Y=>by simpa using zs A hk j x Y⟩) rfl rfl rfl rfl
 refine .inl ⟨_,_,z,ρ',?_,h2,?_⟩
 ·simp only[VR]
  exact⟨_,O,rfl⟩
 rw[Cg]
 exact U
theorem RV(O:R ρ C w)(U:iv ρ H.next H'.next){t:TypeId}{z:List an}{i:TypeInfo}(ho:o.op= .alloc t)(A:zeroOf P t=some z)(hi:P.info? t=some i)
  (h:wi t i.size i.bytes z E H= .ok v H'):fq P o a w (dW ρ C w H v H'):=by
 unfold zeroOf at A
 rw[hi] at A
 simp only at A
 split at A
 ·rename_i Z I
  split at A
  ·rename_i av J
   split at A
   ·rename_i l Y
    split at A
    ·rename_i G
     cases A
     have K:=(Cs ρ _ _ J).cells (Ko Y)
     refine Nd O U G.2 G.1 K.1 K.2 ?_ h
     simp[execOp,ho,Instr.alloc,zeroValue,typeInfo,hi,I,newVar,newRow]
    cases A
   cases A
  cases A
 cases A
theorem Sv(I:AR P ρ nt E a)(J:R ρ C w)(K:iv ρ H.next H'.next){t:TypeId}{x:Operand}{A:aF}{n b:Nat}(ho:o.op= .box t x)(O:dm P x=some A)(U:jK P t=some n)
  (h:A3 t n b A E H= .ok v H'):fq P o a w (dW ρ C w H v H'):=by
 replace h:=fu h;obtain⟨u,Y,h⟩:=h
 replace h:=ju h;obtain⟨l,Z,h⟩:=h
 replace h:=fO h;obtain⟨z,h⟩:=h
 rw[oO] at z
 have z:=eb z
 have G:=(I.b8 O Y).cells Z
 obtain⟨_,_,_,_,_,qQ⟩:=tQ U
 exact Nd J K (by omega) z G.1 G.2 (by simp[execOp,ho,Instr.box,newVar,newRow]) h
theorem J7{t:TypeId}{n:Nat}(I:jK P t=some n){l:List an}{ad:Addr}(Y:l.length=n)(hk:l.all hD=true)(J:∀j x,l[j]?=some x→∃cv,w.cell? (ad.add j)=some cv∧VR ρ x cv)
  {e:Nat} (h:iL (pS P t) l (.err e) (fun v=>.ok v H)= .ok v H'):H'=H∧∃cv,(loadVar t ad).run P w= .ok cv w∧VR ρ v cv:=by
 obtain⟨vs,O⟩:∃vs:List Value,cF ρ l vs∧∀j x,vs[j]?=some x→w.cell? (ad.add j)=some x:=by
  clear h hk Y I
  have:∀(l:List an)(k:Nat),(∀j x,l[j]?=some x→∃cv,w.cell? (ad.add (k+j))=some cv∧VR ρ x cv)→∃vs:List Value,cF ρ l vs∧∀j x,vs[j]?=some x→w.cell? (ad.add (k+j))=some x:=by
   intro l
   induction l with
   |nil=>intro k _;exact⟨[],rfl,fun j x A=>by simp at A⟩
   |cons y r Z=>
    intro k J
    obtain⟨cv,G,h2⟩:=J 0 y rfl
    obtain⟨vs,h3,h4⟩:=Z (k+1) (fun j x A=>by have:=J (j+1) x (by simpa using A);rwa [show k+(j+1)=k+1+j by omega] at this)
    refine⟨cv::vs,⟨cv,vs,rfl,h2,h3⟩,fun j x A=>?_⟩
    cases j with
    |zero=>simp at A;subst A;simpa using G
    |succ j=>rw[show k+(j+1)=k+1+j by omega];exact h4 j x (by simpa using A)
  obtain⟨vs,G,h2⟩:=this l 0 (by simpa using J)
  exact⟨vs,G,by simpa using h2⟩
 obtain⟨K,z⟩:=O
 have hlen:vs.length=n:=K.length.trans Y
 replace h:=Hb h
 rcases h with⟨U,h⟩|⟨x,U,A,h⟩
 ·cases h
  refine⟨rfl,.agg vs.toArray,?_,?_⟩
  ·have G:=Gs I w
   rw[U] at G
   have h2:=run_loadCells_list (P:=P) w ad vs z
   rw[hlen] at h2
   simp[loadVar,G,tJ I,h2]
  simp only[VR]
  exact⟨_,rfl,K,hk⟩
 cases h
 subst A
 simp only[cF] at K
 obtain⟨y,t',rfl,hy,rfl⟩:=K
 refine⟨rfl,y,?_,hy⟩
 have G:=Gs I w
 rw[U] at G
 have h2:w.cell? ad=some y:=by have:=z 0 y rfl;simpa[Addr.add] using this
 simp[loadVar,G,h2]
theorem RW(hA:AR P ρ nt E a)(O:R ρ C w){t:TypeId}{x:Operand}{G:aF}{n:Nat}(ho:o.op= .load t x)(I:dm P x=some G)(U:jK P t=some n)
  (hC:∀f o,f∈iZ (G.ev E)→(∃g h,ρ f g=some h)→H.t.get f=some o→C f=some o) (h:Av n (pS P t) G E H= .ok v H'):fq P o a w (dW ρ C w H v H'):=by
 replace h:=fu h;obtain⟨u,Y,h⟩:=h
 replace h:=vF h;obtain⟨f,g,off,rfl,h⟩:=h
 obtain⟨l,Z,h⟩:=Ie h (by simp)
 have A:=hA.b8 I Y
 simp only[VR] at A
 obtain⟨hm,hh,A⟩:=A
 obtain⟨_,_,_,_,_,qQ⟩:=tQ U
 have J:C f=H.t.get f:=by
  obtain⟨_,_,_,_,_,_,_,_,hg,_⟩:=Z
  exact(hC f _ (by rw[Y];simp[iZ]) ⟨_,_,hh⟩ hg).trans hg.symm
 obtain⟨hlen,hk,hc⟩:=O.rd Z J hh (by omega)
 obtain⟨rfl,cv,z,K⟩:=J7 (P:=P) (ρ:=ρ) (w:=w) (ad:=⟨hm.ca,hm.off+off,none⟩) U hlen hk (fun j x I=>by rw[Addr.add_lit];exact hc j x I) h
 exact gJ (by simp[execOp,ho,A,Instr.loadAt,Instr.sureAddr,z]) O K
theorem JR{l new:List an}{r n:Nat}(z:r+n≤l.length)(A:new.length=n):(g7 l r new).length=l.length:=by
 unfold g7
 simp
 omega
theorem Kp{l new:List an}{r n:Nat}(J:r+n≤l.length)(z:new.length=n)(j:Nat):(g7 l r new)[j]?=if r≤j∧j<r+n then new[j-r]?else l[j]?:=by
 unfold g7
 have A:(l.take r).length=r:=by simp;omega
 by_cases G:j<r
 ·rw[qI (by omega),Bm,aw G,aj (by omega)]
 rw[wv (by omega),A]
 by_cases I:j<r+n
 ·rw[qI (by omega),aw (by omega)]
 rw[wv (by omega),td,aj (by omega),z]
 congr 1
 omega
theorem R.write(U:R ρ C w){f g off n:Nat}{new:List an}{nv:List Value}(hw:Pk H f g off n new H')(hC:C f=H.t.get f){h:Hm}(hh:ρ f g=some h)(hn:0<n)
  (hv:cF ρ new nv) (hk:new.all hD=true):
  (∀j,j<n→(w.cell? ⟨h.ca,h.off+off+j,none⟩).isSome=true)∧(∀j,j<n→w.frozen? ⟨h.ca,h.off+off+j,none⟩=false)∧h.ro=false∧
  R ρ (gC C H H') (w.setCells h.ca (h.off+off) nv):=by
 obtain⟨elem,es,aP,lo,cs,x,hg,h6,h3,h4,Z,hx,rfl⟩:=hw
 have Xz:=U.obj f _ (hC.trans hg) g h hh
 obtain⟨he,oe,_,A⟩:=Xz
 have A:=A h6 (bV _)
 have Fj:off/es*es+off % es=off:=by rw[mY];exact E7 off es
 generalize hq:off/es=q at*
 generalize hr:off % es=r at*
 have J:h.ro=false:=by
  cases hr:h.ro
  ·rfl
  exact absurd (oe hr) (by simp)
 have hnv:nv.length=n:=hv.length.trans Z
 have hqg:(q+1)*es≤g*es:=kZ es h4
 have hqe:(q+1)*es=q*es+es:=by rw[ny,sN]
 have IM:=A.fits
 obtain⟨y,hy,hyl,P7⟩:=A.cell q h4
 have hxy:y=x:=by
  have:some y=some x:=hy.symm.trans hx
  cases this
  rfl
 subst hxy
 have K:∀j,j<n→(w.cell? ⟨h.ca,h.off+off+j,none⟩).isSome=true:=by
  intro j hj
  have dT:r+j<y.length:=by omega
  obtain⟨_,cv,tf,_⟩:=P7 (r+j) (y[r+j]) (eP dT)
  rw[show h.off+off+j=h.off+q*es+(r+j) by omega,tf]
  rfl
 have XA:∀j,j<n→w.frozen? ⟨h.ca,h.off+off+j,none⟩=false:=by
  intro j hj
  rw[mX]
  exact A.AH rfl (off+j) (by omega)
 obtain⟨s1,s2,s3,_,_,_⟩:=B2 h.ca nv (h.off+off) w
 refine⟨K,XA,J,⟨fun f' o' G g' h' I=>?_,U.n7,fun f' g' h' I=>by rw[s1];exact U.kb f' g' h' I,U.uniq,fun f' g' x hx a b=>(U.mM f' g' x hx a b).iU (cell_of_heap (w:=w) (s2 _ fun e=>?_))⟩⟩
 rotate_left
 ·by_cases hf:f'=f
  ·subst hf
   have:=(U.mM _ _ _ hx a b).1 _ _ hh
   rw[J] at this;cases this
  have:=(U.n7 _ _ _ _ _ _ hx hh hf e).2
  rw[J] at this;cases this
 have wD:∀z,(if n=es then new else g7 y r new)=z→z.length=es∧∀j,z[j]?=if r≤j∧j<r+n then new[j-r]?else y[j]?:=by
  intro z hz
  have Jb:(if n=es then new else g7 y r new)=g7 y r new:=by
   split
   ·rename_i e
    have hr0:r=0:=by omega
    subst hr0
    unfold g7
    rw[Iz,E8,List.drop_of_length_le (by omega),yA]
   rfl
  rw[Jb] at hz
  subst hz
  exact⟨(JR (by omega) Z).trans hyl,Kp (by omega) Z⟩
 obtain⟨Br,hzg⟩:=wD _ rfl
 generalize (if n=es then new else g7 y r new)=z at*
 by_cases hf:f'=f
 ·subst hf
  have nH:o'= .row elem es aP g g 0 (cs.set q z):=by
   have h0:(H.t.set f' (dQ.row elem es aP g g 0 (cs.set q z))).get f'=some (.row elem es aP g g 0 (cs.set q z)):=by rw[GT.eY,aw rfl]
   unfold gC at G
   simp only at G
   rw[aj (by omega),h0] at G
   split at G
   ·rename_i e
    rw[hC,←e] at G
    cases G
    rfl
   cases G
   rfl
  subst nH
  have O:=U.obj f' _ (hC.trans hg) g' h' I
  refine⟨he,O.2.1,O.2.2.1,fun a1 a2=>?_⟩
  have hgg:g'=g:=by omega
  subst hgg
  have hhh:h'=h:=by rw[hh] at I;cases I;rfl
  subst hhh
  obtain⟨c,fz,hb,hbs⟩:=A.row
  obtain⟨c',Bs,Pm⟩:=s3 c elem fz hb
  refine⟨⟨c',fz,Bs,by omega⟩,IM,fun i hi=>?_,fun e i hi=>?_,fun e i hi m9=>?_,A.sT,fun e c1 t1 tg je=>by rw[Bs] at je;cases je;exact A.yZ e _ _ _ hb⟩
  ·rw[RT.eY]
   by_cases Jc:i=q
   ·subst Jc
    rw[aw rfl]
    refine⟨z,rfl,Br,fun j u Y=>?_⟩
    rw[hzg] at Y
    split at Y
    ·rename_i hj
     obtain⟨cv,tf,hvr⟩:=hv.get _ _ Y
     refine⟨(List.all_eq_true.1 hk) u (kY Y),cv,?_,hvr⟩
     have Bt:j-r<nv.length:=by omega
     have:=World.cell?_setCells_in h'.ca nv (h'.off+off) w (by rw[hnv];exact K) (j-r) Bt
     rw[show h'.off+i*es+j=h'.off+off+(j-r) by omega,this,←eP Bt]
     exact tf
    rename_i hj
    obtain⟨k1,cv,k2,k3⟩:=P7 j u Y
    refine⟨k1,cv,?_,k3⟩
    rw[World.cell?_setCells_out _ _ _ _ _ (fun _ _=>by simp only;omega)]
    exact k2
   rw[aj Jc]
   obtain⟨l,l1,l2,l3⟩:=A.cell i hi
   refine⟨l,l1,l2,fun j u Y=>?_⟩
   obtain⟨k1,cv,k2,k3⟩:=l3 j u Y
   refine⟨k1,cv,?_,k3⟩
   have hjes:j<es:=by
    rw[←l2]
    rcases Nat.lt_or_ge j l.length with h|h
    ·exact h
    rw[E9 h] at Y;cases Y
   rw[World.cell?_setCells_out _ _ _ _ _ (fun _ _=>?_)]
   ·exact k2
   simp only
   rcases Nat.lt_or_gt_of_ne Jc with dT|FO
   ·left
    have:=kZ es (show i+1≤q from dT)
    rw[ny,sN] at this
    omega
   right
   have:=kZ es (show q+1≤i from FO)
   omega
  ·rw[World.frozen?_setCells];exact A.AH e i hi
  rw[World.frozen?_setCells];exact A.yi e i hi m9
 have nH:C f'=some o':=by
  have h0:(H.t.set f (dQ.row elem es aP g g 0 (cs.set q z))).get f'=H.t.get f':=by rw[GT.eY,aj hf]
  unfold gC at G
  simp only at G
  rw[aj (by omega),aw h0] at G
  exact G
 refine(U.obj f' o' nH g' h' I).iU (Ho.le_refl _) (s2 _ fun e=>?_)
 have:=U.n7 _ _ _ _ _ _ I hh hf e
 rw[J] at this
 exact absurd this.2 (by simp)
theorem Ra{t:TypeId}{n:Nat}(A:jK P t=some n){b base:Nat}{u:Value}(z:u.cells.size=n)(G:∀x∈u.cells.toList,x.oneCell'=true)
  (I:∀j,j<n→(w.cell? ⟨b,base+j,none⟩).isSome=true) (J:∀j,j<n→w.frozen? ⟨b,base+j,none⟩=false):
  (storeVar t ⟨b,base,none⟩ u).run P w= .ok () (w.setCells b base u.cells.toList):=by
 have hlen:u.cells.toList.length=n:=by rw[nx];exact z
 have:=run_storeCells_cells (P:=P) b base u.cells.toList 0 w (by rw[hlen];simpa using I) (by rw[hlen];simpa using J) G
 simp only[wx] at this
 simp[storeVar,tJ A,z,this]
theorem Gu{x:an}{y:Value}(h:VR ρ x y)(hk:hD x=true):y.oneCell'=true:=by
 have:=h.WI hk
 cases y<;>first|rfl|(exact absurd rfl (this.1 _))|(exact absurd rfl (this.2 _))
theorem cF.Lz:∀{l:List an}{vs:List Value},cF ρ l vs→l.all hD=true→∀x∈vs,x.oneCell'=true
 |[],vs,h,_,x,z=>by simp only[cF] at h;subst h;cases z
 |a::r,vs,h,hk,x,z=>by
  simp only[cF] at h
  obtain⟨v,t,rfl,A,h2⟩:=h
  simp only[Fa,fc] at hk
  cases z with
  |head=>exact Gu A hk.1
  |tail _ z=>exact cF.Lz h2 hk.2 x z
theorem Rn(hA:AR P ρ nt E a)(hR:R ρ C w){t:TypeId}{x z:Operand}{O z':aF}{n:Nat}(ho:o.op= .store t x z)(hx:dm P x=some O)(hz:dm P z=some z')(hn:jK P t=some n)
  (hC:∀f o,f∈iZ (O.ev E)→(∃g h,ρ f g=some h)→H.t.get f=some o→C f=some o) (h:Aa n O z' E H= .ok v H'):fq P o a w (dW ρ C w H v H'):=by
 replace h:=fu h;obtain⟨u,hu,h⟩:=h
 replace h:=vF h;obtain⟨f,g,off,rfl,h⟩:=h
 replace h:=fu h;obtain⟨u2,U,h⟩:=h
 replace h:=ju h;obtain⟨l,hl,h⟩:=h
 obtain⟨H1,J,h⟩:=OP h
 cases h
 have K:=hA.b8 hx hu
 have h2:=hA.b8 hz U
 simp only[VR] at K
 obtain⟨A,Y,K⟩:=K
 obtain⟨_,_,_,_,_,qQ⟩:=tQ hn
 have G:=h2.cells hl
 have js:l.length=n:=by obtain⟨_,_,_,_,_,_,_,_,_,_,Z,_⟩:=J;exact Z
 have Jd:(a.eval z).cells.size=n:=by have:=G.1.length;rw[nx] at this;omega
 have th:C f=H.t.get f:=by
  obtain⟨_,_,_,_,_,_,hg,_⟩:=J
  exact(hC f _ (by rw[hu];simp[iZ]) ⟨_,_,Y⟩ hg).trans hg.symm
 obtain⟨k1,k2,k3,k4⟩:=hR.write J th Y (by omega) G.1 G.2
 have I:=Ra (P:=P) (w:=w) hn (b:=A.ca) (base:=A.off+off) Jd (G.1.Lz G.2) k1 k2
 obtain⟨s1,s2,s3,s4,s5,s6⟩:=B2 A.ca (a.eval z).cells.toList (A.off+off) w
 refine .inr (.inl ⟨w.setCells A.ca (A.off+off) (a.eval z).cells.toList,?_,ρ,by simp only[VR],?_,k4⟩)
 ·simp[execOp,ho,K,Instr.storeAt,Instr.sureAddr,I]
 obtain⟨_,_,_,_,_,_,_,_,_,_,_,_,rfl⟩:=J
 refine⟨Ho.le_refl _,fun f g h e=>.inl ⟨g,h,e⟩,fun _ _ _ e=>.inl e,fun b hb hf=>?_,by rw[s1];exact bV _,bV _,s4,s5,s6⟩
 refine s2 b fun e=>?_
 refine hf f g A Y k3 ?_ e.symm
 unfold Wr
 simp only[zr]
 by_cases dT:f<H.bc
 ·exact .inl (.inr ⟨trivial,dT⟩)
 exact .inr (by omega)
end
section
variable{P:Program}{ρ:Ho}{nt:Nat}{E:Env}{a:Act}{C:Nat→Option dQ}{w:World}{H H':az}{v:an}{o:Oper}
theorem Ct:∀{n:Nat}{H:az}{f g es off:Nat}{l:List (List an)},elems H f g es n off=some l→l.length=n∧∀i x,l[i]?=some x→IK H f g (off+i*es) es x
 |0,H,f,g,es,off,l,h=>by cases h;exact⟨rfl,fun i x z=>by simp at z⟩
 |n+1,H,f,g,es,off,l,h=>by
  have h:rd H f g off es none (fun l=>ob (elems H f g es n (off+es)) none fun r=>some (l::r))=some l:=h
  obtain⟨x,z,h⟩:=Ie h (by simp)
  obtain⟨r,G,h⟩:=xK h
  cases h
  obtain⟨I,h2⟩:=Ct G
  refine⟨by simp[I],fun i y A=>?_⟩
  cases i with
  |zero=>simp at A;subst A;simpa using z
  |succ i=>have:=h2 i y (by simpa using A);rwa [show off+es+i*es=off+(i+1)*es by rw[ny];omega] at this
theorem tE:∀(l:List (List an))(t:RT)(i k:Nat),(jG l t i).get k=if i≤k∧k<i+l.length then l[k-i]?else t.get k
 |[],t,i,k=>by
  show t.get k=_
  rw[aj (by simp)]
 |x::r,t,i,k=>by
  have step:jG (x::r) t i=jG r (t.set i x) (i+1):=rfl
  rw[step,tE r,RT.eY]
  simp only[cP]
  by_cases h:k=i
  ·subst h
   rw[aj (by omega),aw rfl,aw (by omega)]
   simp
  rw[aj h]
  by_cases h2:i+1≤k∧k<i+1+r.length
  ·rw[aw h2,aw (by omega)]
   rw[show k-i=(k-(i+1))+1 by omega,IA]
  rw[aj h2,aj (by omega)]
structure Flat(ρ:Ho)(es:Nat)(l:List (List an))(news:List Value):Prop where
 len:news.length=l.length*es
 one:∀u∈news,u.oneCell'=true
 get:∀i x,l[i]?=some x→x.length=es∧∀j y,x[j]?=some y→hD y=true∧∃cv,news[i*es+j]?=some cv∧VR ρ y cv
theorem qW{α:Type}{l:List α}{i:Nat}{x:α}(h:l[i]?=some x):i<l.length:=by
 rcases Nat.lt_or_ge i l.length with h'|h'
 ·exact h'
 rw[E9 h'] at h;cases h
theorem Flat.Te(hR:R ρ C w){f g es off n:Nat}{l:List (List an)}(hl:elems H f g es n off=some l)(hC:∀o,H.t.get f=some o→C f=some o){h:Hm}(hh:ρ f g=some h)(he:0<es):
  l.length=n∧∃news,Flat ρ es l news∧∀j u,news[j]?=some u→w.cell? ⟨h.ca,h.off+off+j,none⟩=some u:=by
 obtain⟨hlen,z⟩:=Ct hl
 refine⟨hlen,(List.range (l.length*es)).map fun q=>(w.cell? ⟨h.ca,h.off+off+q,none⟩).getD undef,?_⟩
 have key:∀i x,l[i]?=some x→x.length=es∧∀j y,x[j]?=some y→hD y=true∧∃cv,w.cell? ⟨h.ca,h.off+off+(i*es+j),none⟩=some cv∧VR ρ y cv:=by
  intro i x G
  have Y:C f=H.t.get f:=by
   obtain⟨_,_,_,_,_,_,_,_,hg,_⟩:=z i x G
   exact(hC _ hg).trans hg.symm
  obtain⟨I,h2,h3⟩:=hR.rd (z i x G) Y hh he
  refine⟨I,fun j y J=>⟨(List.all_eq_true.1 h2) y (kY J),?_⟩⟩
  obtain⟨cv,Z,hv⟩:=h3 j y J
  exact⟨cv,by rw[show h.off+off+(i*es+j)=h.off+(off+i*es)+j by omega];exact Z,hv⟩
 have cellAt:∀q,q<l.length*es→∃cv,w.cell? ⟨h.ca,h.off+off+q,none⟩=some cv∧cv.oneCell'=true:=by
  intro q hq
  have hi:q/es<l.length:=by
   rw[Pb he]
   exact hq
  have K:q % es<es:=jR _ he
  obtain⟨I,h2⟩:=key (q/es) _ (eP hi)
  obtain⟨A,cv,O,k3⟩:=h2 (q % es) _ (eP (by rw[I];exact K))
  refine⟨cv,?_,Gu k3 A⟩
  have:q/es*es+q % es=q:=by rw[mY];exact E7 q es
  rwa [this] at O
 refine⟨⟨by simp,fun u U=>?_,fun i x G=>?_⟩,fun j u U=>?_⟩
 ·obtain⟨q,hq,rfl⟩:=List.mem_map.1 U
  obtain⟨cv,A,O⟩:=cellAt q (List.mem_range.1 hq)
  rw[A]
  exact O
 ·obtain⟨I,h2⟩:=key i x G
  refine⟨I,fun j y J=>?_⟩
  obtain⟨A,cv,O,k3⟩:=h2 j y J
  refine⟨A,cv,?_,k3⟩
  have dT:i*es+j<l.length*es:=by
   have h4:=qW G
   have h5:=qW J
   have:=kZ es (show i+1≤l.length from h4)
   rw[ny,sN] at this
   omega
  simp[dT,O]
 have K:=qW U
 simp at K
 obtain⟨cv,A,_⟩:=cellAt j K
 simp[K,A] at U
 rw[A,U]
theorem R.grow(O:R ρ C w){f m k elem es aP mJ lo fl:Nat}{cs:RT}{new:List (List an)}{news:List Value}(W:Nat→Prop)(hWf:W f){w':World}{h h2:Hm}
  (hC:C f=some (.row elem es aP m lo fl cs)) (hh:ρ f m=some h) (hk:new.length=k) (y3:0<k) (tl:lo≤m) (vg:fl≠1) (hF:Flat ρ es new news)
  (nG:w.heap.size≤w'.heap.size) (h1:w'.os=w.os) (h2':w'.tape=w.tape) (h3:w'.output=w.output)
  (J:∀b,b<w.heap.size→b≠h.ca→w'.heap[b]?=w.heap[b]?)
  (U:∃c c' e fz,w.heap[h.ca]?=some (.cells c e fz)∧w'.heap[h.ca]?=some (.cells c' e fz)∧c'.size=c.size)
  (EL:∀off,off<m*es→w'.cell? ⟨h.ca,h.off+off,none⟩=w.cell? ⟨h.ca,h.off+off,none⟩)
  (G:h2=h∨(w.heap.size≤h2.ca∧h2.ro=false)) (rR:h2.ca<w'.heap.size)
  (sU:∃c fz,w'.heap[h2.ca]?=some (.cells c elem fz)∧h2.off+h2.room≤c.size) (WJ:(m+k)*es≤h2.room)
  (hold:∀off,off<m*es→w'.cell? ⟨h2.ca,h2.off+off,none⟩=w.cell? ⟨h.ca,h.off+off,none⟩)
  (wD:∀j,j<k*es→w'.cell? ⟨h2.ca,h2.off+m*es+j,none⟩=news[j]?)
  (y4:h2≠h→h2.off=0∧(∀i,w'.frozen? ⟨h2.ca,i,none⟩=false)∧∀c e fz,w'.heap[h2.ca]?=some (.cells c e fz)→fz.1=fz.2):
  ∃ρ',ρ' f (m+k)=some h2∧Ext W H.next H.next ρ ρ' w w'∧R ρ' (fun x=>if x=f then some (.row elem es mJ (m+k) lo fl (jG new cs m)) else C x) w':=by
 obtain⟨he,oe,_,A⟩:=O.obj f _ hC m h hh
 have A:=A tl (bV _)
 have K:h.ro=false:=by
  cases hr:h.ro
  ·rfl
  exact absurd (oe hr) vg
 have Pn:h2.ro=false:=by
  rcases G with rfl|⟨_,e⟩
  ·exact K
  exact e
 have WK:∀x,ρ f (m+k)=some x→x=h2:=fun x z=>by
  obtain⟨_,_,hle,_⟩:=O.obj f _ hC (m+k) x z
  omega
 have hle:ρ.le (ρ.add f (m+k) h2):=Ho.Nb WK
 have Po:∀f' g' x,ρ f' g'=some x→f'≠f→w'.heap[x.ca]?=w.heap[x.ca]?:=by
  intro f' g' x z I
  refine J _ (O.kb _ _ _ z) fun e=>?_
  have:=O.n7 _ _ _ _ _ _ z hh I e
  rw[K] at this
  exact absurd this.2 (by simp)
 have Pq:∀i,w'.frozen? ⟨h.ca,i,none⟩=w.frozen? ⟨h.ca,i,none⟩:=by
  intro i
  obtain⟨c,c',e,fz,k1,k2,_⟩:=U
  simp only[World.frozen?,k1,k2]
 refine⟨_,Ho.add_same _ _ _ _,⟨hle,?_,?_,?_,nG,bV _,h1,h2',h3⟩,⟨?_,?_,?_,?_,?_⟩⟩
 ·intro f' g' x z
  rcases Ho.kx z with⟨rfl,_,_⟩|z
  ·exact .inl ⟨m,h,hh⟩
  exact .inl ⟨g',x,z⟩
 ·intro f' g' x z
  rcases Ho.kx z with⟨rfl,_,rfl⟩|z
  ·rcases G with rfl|⟨a1,a2⟩
   ·exact .inr (.inr ⟨m,x,hh,rfl,rfl⟩)
   exact .inr (.inl ⟨a1,a2⟩)
  exact .inl z
 ·intro b Z hf
  exact J b Z fun e=>hf f m h hh K hWf e.symm
 ·intro f' o FQ g x z
  have y5:(if f'=f then some (dQ.row elem es mJ (m+k) lo fl (jG new cs m)) else C f')=some o:=FQ
  clear FQ
  by_cases e:f'=f
  ·rw[aw e] at y5
   subst e
   cases y5
   rcases Ho.kx z with⟨_,rfl,rfl⟩|z
   ·refine⟨he,(fun e=>by rw[Pn] at e;cases e),bV _,fun _ _=>⟨sU,WJ,fun i hi=>?_,fun e i hi=>?_,fun e i hi m9=>?_,fun e=>(Classical.em (x=h)).elim (fun e2=>e2▸A.sT e) (fun e2=>(y4 e2).1),fun e=>(Classical.em (x=h)).elim (fun e2 c1 t1 tg Y=>by
     obtain⟨c,c',t2,fz,q1,q2,_⟩:=U
     rw[e2,q2] at Y
     cases Y
     have:=kZ es (show m≤m+k by omega)
     exact(A.yZ e _ _ _ q1).imp_right (fun g=>by omega)) (fun e2 c1 t1 tg Y=>.inl ((y4 e2).2.2 _ _ _ Y))⟩⟩
    ·rw[tE]
     by_cases P8:i<m
     ·rw[aj (by omega)]
      obtain⟨l,l1,l2,l3⟩:=A.cell i P8
      refine⟨l,l1,l2,fun j u hu=>?_⟩
      obtain⟨k1,cv,k2,k3⟩:=l3 j u hu
      refine⟨k1,cv,?_,k3.mono hle⟩
      have hj:=qW hu
      have:=kZ es (show i+1≤m from P8)
      rw[ny,sN] at this
      rw[mX,hold (i*es+j) (by omega),←mX]
      exact k2
     rw[aw (by omega)]
     have P9:i-m<new.length:=by omega
     obtain⟨l1,l2⟩:=hF.get (i-m) _ (eP P9)
     refine⟨_,eP P9,l1,fun j u hu=>?_⟩
     obtain⟨k1,cv,k2,k3⟩:=l2 j u hu
     refine⟨k1,cv,?_,k3.mono hle⟩
     have hj:=qW hu
     have P':=qW k2
     rw[hF.len,hk] at P'
     have e1:i*es=m*es+(i-m)*es:=by rw[←ny];congr 1;omega
     rw[show x.off+i*es+j=x.off+m*es+((i-m)*es+j) by omega,wD _ P']
     exact k2
    ·by_cases wP:x=h
     ·subst wP
      rw[Pq]
      exact A.AH e i hi
     exact(y4 wP).2.1 _
    by_cases wP:x=h
    ·subst wP
     rw[Pq]
     refine A.yi e i ?_ m9
     have:=kZ es (show m≤m+k by omega)
     omega
    exact(y4 wP).2.1 _
   obtain⟨_,r1,r2,r3⟩:=O.obj f' _ hC g x z
   refine⟨he,r1,by omega,fun a1 _=>?_⟩
   have r3:=r3 a1 r2
   have WL:(∃c c' e fz,w.heap[x.ca]?=some (.cells c e fz)∧w'.heap[x.ca]?=some (.cells c' e fz)∧c'.size=c.size)∧∀off,off<m*es→w'.cell? ⟨x.ca,x.off+off,none⟩=w.cell? ⟨x.ca,x.off+off,none⟩:=by
    by_cases Z:x.ca=h.ca
    ·have ho:=O.uniq _ _ _ _ _ z hh Z
     rw[Z,ho]
     exact⟨U,EL⟩
    have y6:=J _ (O.kb _ _ _ z) Z
    obtain⟨c,fz,hc,_⟩:=r3.row
    exact⟨⟨c,c,elem,fz,hc,by rw[y6];exact hc,rfl⟩,fun off _=>cell_of_heap (w:=w) y6⟩
   obtain⟨⟨c,c',e0,fz,q1,q2,q3⟩,q4⟩:=WL
   have Qa:∀i,w'.frozen? ⟨x.ca,i,none⟩=w.frozen? ⟨x.ca,i,none⟩:=fun i=>by simp only[World.frozen?,q1,q2]
   obtain⟨c2,fz2,p1,p2⟩:=r3.row
   rw[q1] at p1
   cases p1
   refine⟨⟨c',fz,q2,by omega⟩,r3.fits,fun i hi=>?_,fun e i hi=>?_,fun e i hi m9=>?_,r3.sT,fun e c1 t1 tg Y=>by
    rw[q2] at Y
    cases Y
    have:=kZ es (show m≤m+k by omega)
    exact(r3.yZ e _ _ _ q1).imp_right (fun g=>by omega)⟩
   ·rw[tE,aj (by omega)]
    obtain⟨l,l1,l2,l3⟩:=r3.cell i hi
    refine⟨l,l1,l2,fun j u hu=>?_⟩
    obtain⟨k1,cv,k2,k3⟩:=l3 j u hu
    refine⟨k1,cv,?_,k3.mono hle⟩
    have hj:=qW hu
    have:=kZ es (show i+1≤m by omega)
    rw[ny,sN] at this
    rw[mX,q4 (i*es+j) (by omega),←mX]
    exact k2
   ·rw[Qa];exact r3.AH e i hi
   rw[Qa]
   refine r3.yi e i ?_ m9
   have:=kZ es (show m≤m+k by omega)
   omega
  rw[aj e] at y5
  rcases Ho.kx z with⟨e',_,_⟩|z
  ·exact absurd e' e
  exact(O.obj f' o y5 g x z).iU hle (Po _ _ _ z e)
 ·intro f1 g1 x1 f2 g2 x2 e1 e2 I Z
  have c1:=Ho.kx e1
  have c2:=Ho.kx e2
  clear e1 e2
  have half:∀f' g' x,ρ f' g'=some x→f'≠f→x.ca≠h2.ca:=by
   intro f' g' x z I e
   rcases G with rfl|⟨a1,_⟩
   ·have:=O.n7 _ _ _ _ _ _ z hh I e
    rw[K] at this
    exact absurd this.2 (by simp)
   have:=O.kb _ _ _ z
   omega
  rcases c1 with⟨e,_,rfl⟩|e1<;>rcases c2 with⟨e',_,rfl⟩|e2
  ·exact absurd (e.trans e'.symm) I
  ·exact absurd Z.symm (half _ _ _ e2 (fun e3=>I (e.trans e3.symm)))
  ·exact absurd Z (half _ _ _ e1 (fun e3=>I (e3.trans e'.symm)))
  exact O.n7 _ _ _ _ _ _ e1 e2 I Z
 ·intro f' g' x z
  rcases Ho.kx z with⟨_,_,rfl⟩|z
  ·exact rR
  have:=O.kb _ _ _ z
  omega
 ·intro f' g1 x1 g2 x2 e1 e2 Z
  have c1:=Ho.kx e1
  have c2:=Ho.kx e2
  clear e1 e2
  have half:∀g' x,ρ f g'=some x→x.ca=h2.ca→x.off=h2.off:=by
   intro g' x z e
   rcases G with rfl|⟨a1,_⟩
   ·exact O.uniq _ _ _ _ _ z hh e
   have:=O.kb _ _ _ z
   omega
  rcases c1 with⟨e,_,rfl⟩|e1<;>rcases c2 with⟨e',_,rfl⟩|e2
  ·rfl
  ·subst e;exact(half _ _ e2 Z.symm).symm
  ·subst e';exact half _ _ e1 Z
  exact O.uniq _ _ _ _ _ e1 e2 Z
 intro f' g' x z oe Ja
 rcases Ho.kx z with⟨_,_,rfl⟩|Qb
 ·rw[Pn] at oe;cases oe
 have k:=O.mM _ _ _ Qb oe Ja
 have I:f'≠f:=fun e=>by
  subst e
  have:=k.1 _ _ hh
  rw[K] at this;cases this
 refine y1.iU ⟨fun g2 x2 e2=>?_,k.2⟩ (cell_of_heap (w:=w) (Po _ _ _ Qb I))
 rcases Ho.kx e2 with⟨e3,_,_⟩|e2
 ·exact absurd e3 I
 exact k.1 _ _ e2
end
end Go.Ev
