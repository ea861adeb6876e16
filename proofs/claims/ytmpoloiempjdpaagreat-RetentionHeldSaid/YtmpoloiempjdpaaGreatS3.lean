/- Part 3 of rules for walks through the code of a program, and of such walks; what each part proves is said by its theorems. -/
import Derived.Test.YtmpoloiempjdpaaGreatS2
import Derived.Laws.Strings
set_option linter.unusedVariables false
set_option linter.unusedSimpArgs false
noncomputable section
set_option maxRecDepth 100000
set_option maxHeartbeats 4000000
namespace Go.Ev
section
variable{P:Program}{ρ:Ho}{nt:Nat}{E:Env}{a:Act}{C:Nat→Option cX}{w:World}{H H':ax}{v:ai}{o:Oper}
theorem fP{cv:Value}(h:(execOp a.eval o).run P w= .ok (.value cv) w)(z:R ρ C w)(A:VR ρ v cv):eI P o a w (c9 ρ C w H v H):=
 .inl ⟨cv,w,h,c9.pure z A⟩
theorem ZM(z:AR P ρ nt E a)(A:R ρ C w){x:Operand}{y:aG}(ho:o.op= .move x∨o.op= .assign x)(G:cG P x=some y)
  (h:oX y E H= .ok v H'):eI P o a w (c9 ρ C w H v H'):=by
 replace h:=eK h;obtain⟨u,I,h⟩:=h
 cases h
 exact fP (by rcases ho with ho|ho<;>simp[execOp,ho]) A (z.bC G I)
theorem pick_sound(I:AR P ρ nt E a)(O:R ρ C w){c x z:Operand}{U L M:aG}(ho:o.op= .pick c x z)(Y:cG P c=some U)(Z:cG P x=some L)(hz:cG P z=some M)
  (h:HD U L M E H= .ok v H'):eI P o a w (c9 ρ C w H v H'):=by
 replace h:=eK h;obtain⟨u,hu,h⟩:=h;replace h:=onBool_ok h;obtain⟨b,rfl,h⟩:=h;have A:=I.bC Y hu;simp only[VR] at A
 cases b with
 |true=>
  obtain⟨u2,G,h⟩:=eK (show bq L E (.err 1) (fun v=>.ok v H)= .ok v H' from h)
  cases h
  exact fP (by simp[execOp,ho,A,asBool]) O (I.bC Z G)
 |false=>
  obtain⟨u2,G,h⟩:=eK (show bq M E (.err 1) (fun v=>.ok v H)= .ok v H' from h)
  cases h
  exact fP (by simp[execOp,ho,A,asBool]) O (I.bC hz G)
theorem run_eqGuard_int(op:BinOp)(t:TypeId)(x y:Operand)(k z:IntKind)(m n:Int):(eqGuard op t x y (.int k m) (.int z n)).run P w= .ok () w:=by
 unfold eqGuard
 cases op<;>simp
theorem run_eqGuard_str(op:BinOp)(t:TypeId)(x y:Operand)(k z:ByteArray):(eqGuard op t x y (.string k) (.string z)).run P w= .ok () w:=by
 unfold eqGuard
 cases op<;>simp
theorem Fw{op:BinOp}{k:IntKind}{m n r:Int}(h:intBits op k m n=some r):(Op.intBits op k m n).run P w= .ok (.int k r) w:=by
 unfold intBits at h;unfold Op.intBits
 cases op<;>simp_all
theorem nD{k z:IntKind}{r:Option ai}{u:ai}(h:aJ (Nat.beq (cS k) (cS z)) r none=some u):k=z∧r=some u:=by
 rw[tQ] at h
 split at h
 ·rename_i A;exact⟨K9 A,h⟩
 cases h
theorem LO{b:Bool}{r:Option ai}{u:ai}(h:aJ b none r=some u):b=false∧r=some u:=by
 cases b
 ·exact⟨rfl,h⟩
 cases h
theorem C4{α β:Type}{x:Option α}{k:α→Option β}{u:β}(h:ob x none k=some u):∃y,x=some y∧k y=some u:=by
 cases x with
 |none=>cases h
 |some y=>exact⟨y,rfl,h⟩
theorem intBin_ok{op:BinOp}{k I:IntKind}{m n:Int}{u:ai}(t:TypeId)(h:fZ op k m I n=some u):
  ∃cv,(binOp op t (.int k m) (.int I n)).run P w= .ok cv w∧VR ρ u cv:=by
 cases op with
 |shl=>
  simp only[fZ] at h;obtain⟨A,h⟩:=LO h;rw[oF,gQ] at A
  cases h
  refine⟨.int k (k.wrap (m*2^(min n.toNat k.bits))),?_,by simp only[VR,oz]⟩;simp only[binOp,Op.shift,aX A];rfl
 |shr=>
  simp only[fZ] at h;obtain⟨A,h⟩:=LO h;rw[oF,gQ] at A
  cases h
  refine⟨.int k (m.fdiv (2^(min n.toNat k.bits))),?_,by simp only[VR]⟩;simp only[binOp,Op.shift,aX A];rfl
 |quo=>
  simp only[fZ] at h;have z:=nD h;clear h;obtain⟨rfl,h⟩:=z;obtain⟨A,h⟩:=LO h;rw[vo,gQ] at A
  cases h
  exact⟨.int k (k.wrap (m.tdiv n)),by simp[binOp,Op.intDiv,A],by simp only[VR,oz]⟩
 |rem=>
  simp only[fZ] at h;have z:=nD h;clear h;obtain⟨rfl,h⟩:=z;obtain⟨A,h⟩:=LO h;rw[vo,gQ] at A
  cases h
  exact⟨.int k (m.tmod n),by simp[binOp,Op.intDiv,A],by simp only[VR]⟩
 |and=>
  simp only[fZ] at h;have z:=nD h;clear h;obtain⟨rfl,h⟩:=z;obtain⟨r,G,h⟩:=C4 h
  cases h
  exact⟨_,by simp only[binOp,ne_eq,not_true_eq_false,if_false];exact Fw G,by simp only[VR]⟩
 |or=>
  simp only[fZ] at h;have z:=nD h;clear h;obtain⟨rfl,h⟩:=z;obtain⟨r,G,h⟩:=C4 h
  cases h
  exact⟨_,by simp only[binOp,ne_eq,not_true_eq_false,if_false];exact Fw G,by simp only[VR]⟩
 |xor=>
  simp only[fZ] at h;have z:=nD h;clear h;obtain⟨rfl,h⟩:=z;obtain⟨r,G,h⟩:=C4 h
  cases h
  exact⟨_,by simp only[binOp,ne_eq,not_true_eq_false,if_false];exact Fw G,by simp only[VR]⟩
 |andNot=>
  simp only[fZ] at h;have z:=nD h;clear h;obtain⟨rfl,h⟩:=z;obtain⟨r,G,h⟩:=C4 h
  cases h
  exact⟨_,by simp only[binOp,ne_eq,not_true_eq_false,if_false];exact Fw G,by simp only[VR]⟩
 |add=>
  simp only[fZ] at h;have z:=nD h;clear h;obtain⟨rfl,h⟩:=z
  cases h
  exact⟨.int k (k.wrap (m+n)),by simp[binOp,Op.intArith],by simp only[VR,oz]⟩
 |sub=>
  simp only[fZ] at h;have z:=nD h;clear h;obtain⟨rfl,h⟩:=z
  cases h
  exact⟨.int k (k.wrap (m-n)),by simp[binOp,Op.intArith],by simp only[VR,oz]⟩
 |mul=>
  simp only[fZ] at h;have z:=nD h;clear h;obtain⟨rfl,h⟩:=z
  cases h
  exact⟨.int k (k.wrap (m*n)),by simp[binOp,Op.intArith],by simp only[VR,oz]⟩
 |eql=>
  simp only[fZ] at h;have z:=nD h;clear h;obtain⟨rfl,h⟩:=z
  cases h
  exact⟨.bool (m==n),by simp[binOp,Op.intCmp],by simp only[VR,vo];rfl⟩
 |neq=>
  simp only[fZ] at h;have z:=nD h;clear h;obtain⟨rfl,h⟩:=z
  cases h
  exact⟨.bool (m !=n),by simp[binOp,Op.intCmp],by simp only[VR,vo];rfl⟩
 |lss=>
  simp only[fZ] at h;have z:=nD h;clear h;obtain⟨rfl,h⟩:=z
  cases h
  exact⟨.bool (decide (m<n)),by simp[binOp,Op.intCmp],by simp only[VR,oF]⟩
 |gtr=>
  simp only[fZ] at h;have z:=nD h;clear h;obtain⟨rfl,h⟩:=z
  cases h
  exact⟨.bool (decide (m>n)),by simp[binOp,Op.intCmp],by simp only[VR,oF]⟩
 |leq=>
  simp only[fZ] at h;have z:=nD h;clear h;obtain⟨rfl,h⟩:=z
  cases h
  refine⟨.bool (decide (m≤n)),by simp[binOp,Op.intCmp],?_⟩;simp only[VR,oF,Value.bool.injEq];rw[yA];simp
 |geq=>
  simp only[fZ] at h;have z:=nD h;clear h;obtain⟨rfl,h⟩:=z
  cases h
  refine⟨.bool (decide (m≥n)),by simp[binOp,Op.intCmp],?_⟩;simp only[VR,oF,Value.bool.injEq];rw[yA];simp
theorem Qm:∀(a b:List UInt8),(!(Op.bytesLess a b||a==b))=Op.bytesLess b a
 |[],[]=>rfl
 |[],_::_=>rfl
 |_::_,[]=>rfl
 |x::r,y::s=>by
  simp only[Op.bytesLess,List.cons_beq_cons];rw[←Qm r s];rcases Vm x.toNat y.toNat with h|h|h
  ·have A:x<y:=UInt8.lt_iff_toNat_lt.2 h;have h2:¬y<x:=by rw[IQ];omega
   have z:x≠y:=fun e=>by subst e;omega
   have G:y≠x:=fun e=>z e.symm
   simp[A,h2,z,G]
  ·have h0:x=y:=UInt8.toNat_inj.1 h;subst h0;have h2:¬x<x:=by rw[IQ];omega
   simp[h2]
  have A:y<x:=UInt8.lt_iff_toNat_lt.2 h;have h2:¬x<y:=by rw[IQ];omega
  have z:x≠y:=fun e=>by subst e;omega
  have G:y≠x:=fun e=>z e.symm
  simp[A,h2,z,G]
theorem strBin_ok{op:BinOp}{s t:ByteArray}{u:ai}(ty:TypeId)(h:Sq op s.size (pack s.data.toList) t.size (pack t.data.toList)=some u):
  ∃cv,(binOp op ty (.string s) (.string t)).run P w= .ok cv w∧VR ρ u cv:=by
 have I:s.size=s.data.toList.length:=by rw[rh];rfl
 have L:t.size=t.data.toList.length:=by rw[rh];rfl
 have z:s.toList=s.data.toList:=ByteArray.toList_eq s;have A:t.toList=t.data.toList:=ByteArray.toList_eq t;unfold Sq at h
 cases op<;>simp only[reduceCtorEq] at h
 case add=>
  rw[tQ] at h
  split at h
  ·rename_i G;have G:=aV G
   cases h
   refine⟨.string (s++t),?_,?_⟩
   ·have M:¬(IntKind.i64.max<((s.size+t.size:Nat):Int)):=by
     have:IntKind.i64.max=9223372036854775807:=rfl;rw[this];have:s.size+t.size≤4611686018427387904:=G;omega
    simp only[binOp,Op.stringOp];rw[aX (by simpa using M)];rfl
   simp only[VR];refine⟨s++t,rfl,by simp,?_⟩;have e:(s++t).data.toList=s.data.toList++t.data.toList:=by simp
   rw[e,←Y4,I]
  cases h
 all_goals
  cases h
  rw[I,L];simp only[KA,Zk]
 case eql=>exact⟨.bool (s.data.toList==t.data.toList),by simp[binOp,Op.stringOp,z,A],by simp only[VR,Value.bool.injEq];rw[yA];simp⟩
 case neq=>exact⟨.bool (!(s.data.toList==t.data.toList)),by simp[binOp,Op.stringOp,z,A],by simp only[VR,Value.bool.injEq];rw[yA];simp⟩
 case lss=>exact⟨.bool (Op.bytesLess s.data.toList t.data.toList),by simp[binOp,Op.stringOp,z,A],by simp only[VR]⟩
 case geq=>exact⟨.bool (!Op.bytesLess s.data.toList t.data.toList),by simp[binOp,Op.stringOp,z,A],by simp only[VR]⟩
 case gtr=>
  refine⟨.bool (!(Op.bytesLess s.data.toList t.data.toList||s.data.toList==t.data.toList)),by simp[binOp,Op.stringOp,z,A],?_⟩;simp only[VR,Value.bool.injEq];exact Qm _ _
 case leq=>
  refine⟨.bool (Op.bytesLess s.data.toList t.data.toList||s.data.toList==t.data.toList),by simp[binOp,Op.stringOp,z,A],?_⟩;simp only[VR,Value.bool.injEq];have:=Qm s.data.toList t.data.toList;rw[←this,Bool.not_not]
theorem ZN(O:AR P ρ nt E a)(U:R ρ C w){op:BinOp}{t t':TypeId}{x z:Operand}{Y Z:aG}(ho:o.op= .binOp op t x z t')(hx:cG P x=some Y)(hz:cG P z=some Z)
  (h:IW op Y Z E H= .ok v H'):eI P o a w (c9 ρ C w H v H'):=by
 replace h:=eK h;obtain⟨u,hu,h⟩:=h;replace h:=eK h;obtain⟨u2,I,h⟩:=h;rw[K8] at h;replace h:=iV h;obtain⟨r,A,h⟩:=h;rw[xk] at h
 cases h
 have G:=O.bC hx hu;have h2:=O.bC hz I;unfold Ei at A
 split at A
 ·simp only[VR] at G h2;obtain⟨cv,L,M⟩:=intBin_ok (P:=P) (ρ:=ρ) (w:=w) t A;exact fP (by simp[execOp,ho,G,h2,run_eqGuard_int,L]) U M
 ·simp only[VR] at G h2;obtain⟨s1,e1,rfl,rfl⟩:=G;obtain⟨s2,e2,rfl,rfl⟩:=h2;obtain⟨cv,L,M⟩:=strBin_ok (P:=P) (ρ:=ρ) (w:=w) t A;exact fP (by simp[execOp,ho,e1,e2,run_eqGuard_str,L]) U M
 cases A
theorem un_sound(M:AR P ρ nt E a)(G:R ρ C w){op:UnOp}{t:TypeId}{x:Operand}{L:aG}(ho:o.op= .unOp op t x)(O:cG P x=some L)
  (h:JR op L E H= .ok v H'):eI P o a w (c9 ρ C w H v H'):=by
 replace h:=eK h;obtain⟨u,U,h⟩:=h;replace h:=iV h;obtain⟨r,z,h⟩:=h;rw[xk] at h
 cases h
 have A:=M.bC O U;unfold Pt at z
 split at z
 ·rename_i k n;simp only[VR] at A
  cases z
  exact fP (cv:=.int k (IntKind.wrap k (0-n))) (by simp[execOp,ho,A,Op.unary,Op.intArith]) G (by simp only[VR,oz])
 ·simp only[VR] at A;obtain⟨r',I,z⟩:=C4 z
  cases z
  exact fP (by simp only[execOp,ho,A,Op.unary,Sem.run_bind,Fw I,Result.andThen_ok];rfl) G (by simp only[VR])
 ·simp only[VR] at A
  cases z
  exact fP (by simp[execOp,ho,A,Op.unary];rfl) G (by simp only[VR])
 cases z
theorem offs_sound(L:AR P ρ nt E a)(M:R ρ C w){s:TypeId}{x:Operand}{f:Nat}{I:aG}{fs:Array Field}{z:Field}{i:TypeInfo}(ho:o.op= .fieldAddr s x f)(O:cG P x=some I)
  (U:P.underlying s=some (.struct fs)) (Y:fs[f]?=some z) (hi:P.info? z.type=some i) (h0:i.size≠0) (h:HF I z.offset E H= .ok v H'):eI P o a w (c9 ρ C w H v H'):=by
 replace h:=eK h;obtain⟨u,Z,h⟩:=h;replace h:=FE h;obtain⟨f1,g1,o1,rfl,h⟩:=h;rw[fc] at h
 cases h
 have A:=L.bC O Z;simp only[VR] at A;obtain⟨G,hh,A⟩:=A;refine fP (cv:=.pointer (some ⟨G.bG,G.off+(o1+z.offset),none⟩)) ?_ M ?_
 ·simp[execOp,ho,A,Instr.fieldAt,run_underlying U,Y,Instr.sureAddr,fieldPlace,sizeOf,typeInfo,hi,h0,Addr.add_lit,lp]
 simp only[VR];exact⟨G,hh,rfl⟩
theorem extr_sound(L:AR P ρ nt E a)(M:R ρ C w){x:Operand}{i:Nat}{I:aG}(ho:o.op= .extract x i)(O:cG P x=some I)
  (h:HH I i E H= .ok v H'):eI P o a w (c9 ρ C w H v H'):=by
 replace h:=eK h;obtain⟨u,U,h⟩:=h;replace h:=onTuple_ok h;obtain⟨l,rfl,h⟩:=h;replace h:=iV h;obtain⟨r,Y,h⟩:=h
 cases h
 have z:=L.bC O U;simp only[VR] at z;obtain⟨vs,z,A⟩:=z;obtain⟨y,Z,A⟩:=A.get i _ Y;have G:vs[i]?=some y:=by simpa using Z
 exact fP (by simp[execOp,ho,z,Instr.extract,G]) M A
theorem nilck_sound(I:AR P ρ nt E a)(A:R ρ C w){x:Operand}{G:aG}(ho:o.op= .nilCheck x)(L:cG P x=some G)
  (h:GB G E H= .ok v H'):eI P o a w (c9 ρ C w H v H'):=by
 replace h:=eK h;obtain⟨u,M,h⟩:=h;replace h:=fQ h;obtain⟨O,h⟩:=h
 cases h
 have z:=I.bC L M
 cases v<;>simp only[CQ,gA] at O
 ·have h2:=z;simp only[VR] at z;obtain⟨U,_,z⟩:=z;exact fP (by simp[execOp,ho,z];rfl) A (by rw[←z];exact h2)
 have h2:=z;simp only[VR] at z;obtain⟨_,vs,z,_⟩:=z;exact fP (by simp[execOp,ho,z];rfl) A (by rw[←z];exact h2)
theorem mkfn_sound(I:AR P ρ nt E a)(L:R ρ C w){f:Nat}{first dY:Array Operand}{z A:List aG}(ho:o.op= .makeFunc (.func f) first dY)(M:ke P first.toList=some z)(O:ke P dY.toList=some A)
  (h:HI f z A E H= .ok v H'):eI P o a w (c9 ρ C w H v H'):=by
 replace h:=iV h;obtain⟨fs,G,h⟩:=h;replace h:=iV h;obtain⟨vs,U,h⟩:=h
 cases h
 have h0:=I.dg M G;have Y:=I.dg O U;refine fP (cv:=.func (.func f) (first.map a.eval) (dY.map a.eval)) (by simp[execOp,ho,Instr.makeFunc]) L ?_;simp only[VR];exact⟨_,_,rfl,by simpa using h0,by simpa using Y⟩
end
section
variable{P:Program}{ρ:Ho}{nt:Nat}{E:Env}{a:Act}{C:Nat→Option cX}{w:World}{H H':ax}{v:ai}{o:Oper}
theorem u7{t:TypeId}{n:Nat}(h:gZ P t=some n):∃i d,P.info? t=some i∧P.underlying t=some d∧i.size=n∧n≠0:=by
 unfold gZ at h
 split at h
 ·rename_i i d hi z
  split at h
  ·rename_i A
   cases h
   exact⟨i,d,hi,z,rfl,A⟩
  cases h
 cases h
theorem uW{t:TypeId}{n:Nat}(h:gZ P t=some n)(w:World):(sizeOf t).run P w= .ok n w:=by
 obtain⟨i,d,hi,_,e,_⟩:=u7 h;simp[sizeOf,typeInfo,hi,e]
theorem Qv{t:TypeId}{n:Nat}(h:gZ P t=some n)(w:World):(isAgg t).run P w= .ok (qH P t) w:=by
 obtain⟨i,d,_,z,_,_⟩:=u7 h;unfold isAgg qH;rw[z]
 cases d<;>simp[run_underlying z]
theorem abD{t:TypeId}{n off e:Nat}{l:List ai}{cs:Array Value}(U:gZ P t=some n)(Y:bR ρ l cs.toList)(A:l.all eQ=true)(hle:off+n≤l.length)
  (h:fT (qH P t) ((l.drop off).take n) (.err e) (fun v=>.ok v H)= .ok v H'):H'=H∧∃cv,(part t cs off).run P w= .ok cv w∧VR ρ v cv:=by
 replace h:=RB h;have I:=uW U w;have z:=Qv U w;rcases h with⟨L,h⟩|⟨x,L,Z,h⟩
 ·cases h
  refine⟨rfl,.agg (cs.extract off (off+n)),?_,?_⟩
  ·rw[L] at z;simp[part,z,I]
  simp only[VR];refine⟨_,rfl,?_,?_⟩
  ·have e1:(cs.extract off (off+n)).toList=(cs.toList.drop off).take n:=by
    rw[Vn,aib,show off+n-off=n by omega]
   rw[e1];exact(Y.drop off).take n
  rw[uf] at A⊢;exact fun x M=>A x (Ec (Bt M))
 cases h
 have M:l[off]?=some v:=by
  have G:((l.drop off).take n)[0]?=some v:=by rw[Z];rfl
  rw[Bp] at G
  split at G
  ·rw[IP] at G;simpa using G
  cases G
 obtain⟨y,hy,k⟩:=Y.get off v M;have O:cs[off]?=some y:=by simpa using hy
 refine⟨rfl,y,?_,k⟩;rw[L] at z;simp[part,z,O]
theorem sub_sound(O:AR P ρ nt E a)(U:R ρ C w){s:TypeId}{x:Operand}{f n:Nat}{M:aG}{fs:Array Field}{z:Field}(ho:o.op= .field s x f)(Y:cG P x=some M)
  (Z:P.underlying s=some (.struct fs)) (hf:fs[f]?=some z) (hn:gZ P z.type=some n) (h:IX M z.offset n (qH P z.type) E H= .ok v H'):eI P o a w (c9 ρ C w H v H'):=by
 replace h:=eK h;obtain⟨u,hu,h⟩:=h;replace h:=aaC h;obtain⟨l,rfl,h⟩:=h;replace h:=fQ h;obtain⟨A,h⟩:=h;rw[pt] at A;have A:=aV A;have G:=O.bC Y hu;simp only[VR] at G;obtain⟨vs,G,hv,I⟩:=G;obtain⟨rfl,cv,hc,L⟩:=abD (P:=P) (ρ:=ρ) (w:=w) hn hv I A h;exact fP (by simp[execOp,ho,G,Instr.field,run_underlying Z,hf,asAgg,hc]) U L
theorem idxArr_sound(L:AR P ρ nt E a)(U:R ρ C w){t e:TypeId}{x i:Operand}{M O:aG}{k n:Nat}(ho:o.op= .indexAddr t x i)(Y:cG P x=some M)(hi:cG P i=some O)
  (Z:P.underlying t=some (.array k e)) (hn:gZ P e=some n) (h:F1 k n M O E H= .ok v H'):eI P o a w (c9 ρ C w H v H'):=by
 replace h:=eK h;obtain⟨u,hu,h⟩:=h;replace h:=FE h;obtain⟨f1,g1,o1,rfl,h⟩:=h;replace h:=eK h;obtain⟨u2,A,h⟩:=h;replace h:=LL h;obtain⟨kd,j,rfl,hj,h⟩:=h;rw[fc] at h
 cases h
 have z:=L.bC Y hu;have h2:=L.bC hi A;simp only[VR] at z h2;obtain⟨G,hh,z⟩:=z;have I:(j:Int)<(k:Int):=by omega
 refine fP (cv:=.pointer (some ⟨G.bG,G.off+(o1+j*n),none⟩)) ?_ U ?_
 ·simp[execOp,ho,z,h2,Instr.indexAt,run_underlying Z,asIntOf,Instr.sureAddr,uW hn,Addr.add_lit,lp,I,hj]
 simp only[VR];exact⟨G,hh,rfl⟩
theorem idxSl_sound(L:AR P ρ nt E a)(Y:R ρ C w){t e:TypeId}{x i:Operand}{M O:aG}{n:Nat}(ho:o.op= .indexAddr t x i)(Z:cG P x=some M)(hi:cG P i=some O)
  (ht:P.underlying t=some (.slice e)) (hn:gZ P e=some n) (h:Gz n M O E H= .ok v H'):eI P o a w (c9 ρ C w H v H'):=by
 replace h:=eK h;obtain⟨u,hu,h⟩:=h;replace h:=xi h;rcases h with⟨_,h⟩|⟨f1,g1,o1,l1,es,rfl,h⟩
 ·cases h
 replace h:=eK h;obtain⟨u2,A,h⟩:=h;replace h:=LL h;obtain⟨kd,j,rfl,hj,h⟩:=h;rw[fc] at h
 cases h
 have z:=L.bC Z hu;have h2:=L.bC hi A;simp only[VR] at z h2;obtain⟨G,ad,cap,hh,z,JU,U⟩:=z;rcases U with⟨rfl,U⟩|⟨hz,_⟩
 ·have I:(j:Int)<(l1:Int):=by omega
  refine fP (cv:=.pointer (some ⟨G.bG,G.off+(o1+j*n),none⟩)) ?_ Y ?_
  ·simp[execOp,ho,z,h2,Instr.indexAt,run_underlying ht,asIntOf,Instr.sureAddr,uW hn,Addr.add_lit,lp,I,hj]
  simp only[VR];exact⟨G,hh,rfl⟩
 omega
theorem idxVal_sound(U:AR P ρ nt E a)(hR:R ρ C w){t e:TypeId}{x i:Operand}{Y Z:aG}{k n:Nat}(ho:o.op= .index t x i)(hx:cG P x=some Y)(hi:cG P i=some Z)
  (ht:P.underlying t=some (.array k e)) (hn:gZ P e=some n) (h:F2 k n (qH P e) Y Z E H= .ok v H'):eI P o a w (c9 ρ C w H v H'):=by
 replace h:=eK h;obtain⟨u,hu,h⟩:=h;replace h:=aaC h;obtain⟨l,rfl,h⟩:=h;replace h:=eK h;obtain⟨u2,G,h⟩:=h;replace h:=LL h;obtain⟨kd,j,rfl,hj,h⟩:=h;replace h:=fQ h;obtain⟨z,h⟩:=h;rw[pt] at z;have z:=aV z;have A:=U.bC hx hu;have h2:=U.bC hi G;simp only[VR] at A h2;obtain⟨vs,A,hv,I⟩:=A;have L:(j:Int)<(k:Int):=by omega
 obtain⟨rfl,cv,hc,M⟩:=abD (P:=P) (ρ:=ρ) (w:=w) hn hv I z h;have O:(part e vs (j*n)).run P w= .ok cv w:=hc;exact fP (by simp[execOp,ho,A,h2,Instr.index,asIntOf,run_underlying ht,uW hn,L,hj,O]) hR M
theorem idxStr_sound(I:AR P ρ nt E a)(O:R ρ C w){t:TypeId}{x i:Operand}{L M:aG}(ho:o.op= .index t x i)(U:cG P x=some L)(hi:cG P i=some M)
  (Y:P.underlying t=some .string) (h:F3 L M E H= .ok v H'):eI P o a w (c9 ρ C w H v H'):=by
 replace h:=eK h;obtain⟨u,Z,h⟩:=h;replace h:=KR h;obtain⟨l,s,rfl,h⟩:=h;replace h:=eK h;obtain⟨u2,A,h⟩:=h;replace h:=LL h;obtain⟨kd,j,rfl,hj,h⟩:=h;rw[fc] at h
 cases h
 have z:=I.bC U Z;have h2:=I.bC hi A;simp only[VR] at z h2;obtain⟨b,z,rfl,rfl⟩:=z;have og:b.size=b.data.toList.length:=by rw[rh];rfl
 have G:j<b.data.toList.length:=by omega
 have hb:b[j]?=some (b.data.toList[j]):=by
  rw[getElem?_pos b j an];rfl
 refine fP (cv:=.int .u8 (pw (pack b.data.toList) j)) ?_ O (by simp only[VR];rfl);rw[Y3 _ _ G];have h3:(0:Int)≤(j:Int):=by omega
 simp only[execOp,ho,z,h2,Instr.index,asIntOf,Sem.run_bind,Sem.run_pure,Result.andThen_ok,run_underlying Y,bg h3,Ed,hb]
end
section
variable{P:Program}{ρ:Ho}{nt:Nat}{E:Env}{a:Act}{C:Nat→Option cX}{w:World}{H H':ax}{v:ai}{o:Oper}
theorem RC(M:AR P ρ nt E a){x:Option Operand}{I:Option aG}{d y n:Nat}{k:Nat→aD}(A:oE P x=some I)(h:dT E I d y (.err n) k= .ok v H')(O:d≤y):
  ∃i:Nat,i≤y∧k i= .ok v H'∧((x=none∧i=d)∨∃z G,x=some z∧a.eval z= .int G i):=by
 replace h:=adR h;rcases h with⟨rfl,h⟩|⟨z,G,i,rfl,U,hi,h⟩
 ·refine⟨d,O,h,.inl ⟨?_,rfl⟩⟩
  cases x with
  |none=>rfl
  |some u=>simp only[oE] at A;split at A<;>cases A
 cases x with
 |none=>simp[oE] at A
 |some u=>
  simp only[oE] at A
  split at A
  ·rename_i Z Y
   cases A
   have L:=M.bC Y U;simp only[VR] at L;exact⟨i,hi,h,.inr ⟨u,G,rfl,L⟩⟩
  cases A
theorem uR{z:IntKind}{i y:Nat}(h:i≤y)(code:BoundsCode):(Instr.sliceBound (.int z i) y code).run P w= .ok i w:=by
 have A:(i:Int)≤(y:Int):=by omega
 simp[Instr.sliceBound,asIntOf,h]
theorem Qw(hA:AR P ρ nt E a){lo hi:Option Operand}{A G:Option aG}{L y cap n:Nat}{k:Nat→Nat→aD}{Pu:Bool}(M:oE P lo=some A)(O:oE P hi=some G)(U:L≤y)(hc:y≤cap)
  (h:(dT E G L y (.err n) fun h=>dT E A 0 h (.err n) fun l=>k h l)= .ok v H'):
  ∃l h:Nat,l≤h∧h≤y∧k h l= .ok v H'∧(Instr.sliceBounds Pu L cap (lo.map a.eval) (hi.map a.eval) none).run P w= .ok (l,h,cap) w:=by
 obtain⟨hh,h1,h,hx⟩:=RC hA O h U;obtain⟨l,h2,h,hy⟩:=RC hA M h (gL _);refine⟨l,hh,h2,h1,h,?_⟩;rcases hx with⟨rfl,rfl⟩|⟨z,kd,rfl,e⟩
 ·rcases hy with⟨rfl,rfl⟩|⟨z2,Y,rfl,Z⟩
  ·simp[Instr.sliceBounds]
  simp[Instr.sliceBounds,Z,uR h2]
 have I:hh≤cap:=by omega
 rcases hy with⟨rfl,rfl⟩|⟨z2,Y,rfl,Z⟩
 ·simp[Instr.sliceBounds,e,uR I]
 simp[Instr.sliceBounds,e,Z,uR I,uR h2]
theorem slStr_sound(O:AR P ρ nt E a)(hR:R ρ C w){t:TypeId}{x:Operand}{U:aG}{lo hi:Option Operand}{z A:Option aG}(ho:o.op= .slice t x lo hi none)(hx:cG P x=some U)
  (L:oE P lo=some z) (M:oE P hi=some A) (ht:P.underlying t=some .string) (h:GA U z A E H= .ok v H'):eI P o a w (c9 ρ C w H v H'):=by
 replace h:=eK h;obtain⟨u,hu,h⟩:=h;replace h:=KR h;obtain⟨l,s,rfl,h⟩:=h;have I:=O.bC hx hu;simp only[VR] at I;obtain⟨b,I,rfl,rfl⟩:=I;obtain⟨l,Y,hle,Z,h,G⟩:=Qw (w:=w) (Pu:=false) O L M (bd _) (bd _) h;rw[fc,fc] at h
 cases h
 have og:b.size=b.data.toList.length:=by rw[rh];rfl
 refine fP (cv:=.string (b.extract l Y)) ?_ hR ?_
 ·simp[execOp,ho,I,Instr.sliceAt,Instr.slice,run_underlying ht,G]
 simp only[VR];refine⟨_,rfl,?_,?_⟩
 ·rw[ByteArray.size_extract];show Y-l=_;omega
 rw[strSub_pack];congr 1;rw[ByteArray.data_extract,Vn,aib]
theorem slSl_sound(hA:AR P ρ nt E a)(hR:R ρ C w){t e:TypeId}{x:Operand}{x':aG}{n:Nat}{lo hi:Option Operand}{O U:Option aG}(ho:o.op= .slice t x lo hi none)(hx:cG P x=some x')
  (Y:oE P lo=some O) (Z:oE P hi=some U) (ht:P.underlying t=some (.slice e)) (hn:gZ P e=some n) (h:HG n x' O U E H= .ok v H'):eI P o a w (c9 ρ C w H v H'):=by
 replace h:=eK h;obtain⟨u,hu,h⟩:=h;replace h:=xi h;have I:=hA.bC hx hu;rcases h with⟨rfl,h⟩|⟨f1,g1,o1,l1,es,rfl,h⟩
 ·simp only[VR] at I;obtain⟨l,L,hle,z,h,A⟩:=Qw (w:=w) (Pu:=true) hA Y Z (bd _) (bd _) h
  cases h
  have:l=0:=by omega
  subst this;have:L=0:=by omega
  subst this;refine fP (cv:=.slice none 0 0) ?_ hR (by simp only[VR]);simp[execOp,ho,I,Instr.sliceAt,Instr.slice,run_underlying ht,A,uW hn]
 replace h:=fQ h;obtain⟨hb,h⟩:=h;have:=cW hb;subst this;simp only[VR] at I;obtain⟨hm,ad,cap,Pv,I,G,M⟩:=I;obtain⟨l,L,hle,z,h,A⟩:=Qw (w:=w) (Pu:=true) hA Y Z F4 (abB G.1 G.2) h;have z:L≤cap:=eT z (abB G.1 G.2);have VF:l*n+(cap-l)*n=cap*n:=by rw[←lq];congr 1;omega
 rw[fc,fc] at h
 cases h
 have uF:=(u7 hn);obtain⟨_,_,_,_,_,uF⟩:=uF;refine fP (cv:=.slice (some (if cap=l then ad else ad.add (l*n))) (L-l) (cap-l)) ?_ hR ?_
 ·simp only[execOp,ho,I,Instr.sliceAt,Instr.slice,Sem.run_bind,run_underlying ht,Result.andThen_ok,A,uW hn,Option.map_none,Sem.run_pure,sw]
  by_cases hc:cap=l<;>simp[hc]
 simp only[VR];refine⟨hm,_,_,Pv,rfl,⟨by show L-l≤cap-l;omega,by show g1*n≤o1+l*n+(cap-l)*n;rw[lp,VF];exact G.2⟩,?_⟩;show I2 hm (if cap=l then ad else ad.add (l*n)) (L-l) (cap-l) (o1+l*n) n;unfold I2 at M⊢;rcases M with⟨rfl,M⟩|⟨hz,Xk,ho0⟩
 ·by_cases hc:cap=l
  ·rw[bg hc]
   by_cases kG:l=0
   ·left;subst kG;refine⟨by simp,?_⟩;rw[hc] at M⊢;simpa using M
   right;refine⟨an,an,?_⟩;have:0<l*n:=Nat.mul_pos an an;omega
  rw[aX hc];left;refine⟨by simp[Addr.add_lit,lp],?_⟩;rw[lp,←lq,show l+(cap-l)=cap by omega];exact M
 right;refine⟨an,an,an⟩
theorem aaF(L:AR P ρ nt E a){x:Operand}{G:aG}{d y n:Nat}{k:Nat→aD}(M:cG P x=some G)(h:dT E (some G) d y (.err n) k= .ok v H'):
  ∃i:Nat,i≤y∧k i= .ok v H'∧∃A,a.eval x= .int A i:=by
 rcases adR h with⟨e,_⟩|⟨z,A,i,e,O,hi,h⟩
 ·cases e
 cases e
 have I:=L.bC M O;simp only[VR] at I;exact⟨i,hi,h,A,I⟩
theorem sl3_sound(hA:AR P ρ nt E a)(hR:R ρ C w){t e:TypeId}{x:Operand}{x':aG}{n:Nat}{lo:Option Operand}{A:Option aG}{hi mx:Operand}{G I:aG}(ho:o.op= .slice t x lo (some hi) (some mx))(hx:cG P x=some x')
  (EW:oE P lo=some A) (Cf:cG P hi=some G) (Xl:cG P mx=some I) (ht:P.underlying t=some (.slice e)) (hn:gZ P e=some n) (h:IY n x' A G I E H= .ok v H'):eI P o a w (c9 ρ C w H v H'):=by
 replace h:=eK h;obtain⟨u,hu,h⟩:=h;replace h:=xi h;have h1:=hA.bC hx hu;rcases h with⟨rfl,h⟩|⟨f1,g1,o1,l1,es,rfl,h⟩
 ·cases h
 replace h:=fQ h;obtain⟨hb,h⟩:=h;have:=cW hb;subst this;simp only[VR] at h1;obtain⟨hm,ad,cap,Pv,h1,L,hs⟩:=h1;obtain⟨m,rI,h,km,em⟩:=aaF hA Xl h;replace h:=fQ h;obtain⟨z,h⟩:=h;have z:=aV z;have L:=L.1;obtain⟨hh,M,h,kh,eh⟩:=aaF hA Cf h;obtain⟨l,EX,h,hy⟩:=RC hA EW h (gL _);have O:(Instr.sliceBounds true l1 cap (lo.map a.eval) (some (a.eval hi)) (some (a.eval mx))).run P w= .ok (l,hh,m) w:=by
  have U:m≤cap:=by omega
  rcases hy with⟨rfl,rfl⟩|⟨z2,kd2,rfl,e2⟩
  ·simp[Instr.sliceBounds,em,eh,uR U,uR M]
  simp[Instr.sliceBounds,em,eh,e2,uR U,uR M,uR EX]
 rw[fc,fc] at h
 cases h
 have Y:=(u7 hn);obtain⟨_,_,_,_,_,Y⟩:=Y;refine fP (cv:=.slice (some (if m=l then ad else ad.add (l*n))) (hh-l) (m-l)) ?_ hR ?_
 ·simp only[execOp,ho,h1,Instr.sliceAt,Instr.slice,Sem.run_bind,run_underlying ht,Result.andThen_ok,sw,O,uW hn,Sem.run_pure]
  by_cases Z:m=l<;>simp[Z]
 simp only[VR];have VF:l*n+(m-l)*n=m*n:=by rw[←lq];congr 1;omega
 refine⟨hm,_,_,Pv,rfl,⟨by show hh-l≤m-l;omega,by show g1*n≤o1+l*n+(m-l)*n;rw[lp,VF];exact z⟩,?_⟩;show I2 hm (if m=l then ad else ad.add (l*n)) (hh-l) (m-l) (o1+l*n) n;unfold I2 at hs⊢;rcases hs with⟨rfl,hs⟩|⟨hz,Xk,ho0⟩
 ·have hmc:m*n≤cap*n:=iZ _ an
  by_cases Z:m=l
  ·rw[bg Z]
   by_cases kG:l=0
   ·left;subst kG;refine⟨by simp,?_⟩;subst Z;simp only[ri,ug,Ee];omega
   right;refine⟨an,an,?_⟩;have:0<l*n:=Nat.mul_pos an an;omega
  rw[aX Z];left;refine⟨by simp[Addr.add_lit,lp],?_⟩;rw[lp,←lq,show l+(m-l)=m by omega];omega
 right;refine⟨an,an,an⟩
theorem lenS_sound(L:AR P ρ nt E a)(M:R ρ C w){c:Call}{x:Operand}{I:aG}{t:TypeId}(ho:o.op= .call c)(O:c.callee= .builtin .len)(U:c.args=#[x])(A:cG P x=some I)
  (Y:c.argTypes[0]?=some t) (Z:P.underlying t=some .string) (h:HK I E H= .ok v H'):eI P o a w (c9 ρ C w H v H'):=by
 replace h:=eK h;obtain⟨u,G,h⟩:=h;have z:=L.bC A G;replace h:=KR h;obtain⟨l,s,rfl,h⟩:=h
 cases h
 simp only[VR] at z;obtain⟨b,z,rfl,rfl⟩:=z;exact fP (cv:=.int .i64 b.size) (by simp[execOp,ho,resolve,O,U,invoke,builtin,Builtin.len_,Y,run_underlying Z,goInt,z]) M (by simp only[VR];rfl)
theorem len_sound(Z:AR P ρ nt E a)(I:R ρ C w){c:Call}{x:Operand}{L:aG}{t e:TypeId}(ho:o.op= .call c)(M:c.callee= .builtin .len)(O:c.args=#[x])(A:cG P x=some L)
  (U:c.argTypes[0]?=some t) (Y:P.underlying t=some (.slice e)) (h:IZ L E H= .ok v H'):eI P o a w (c9 ρ C w H v H'):=by
 replace h:=eK h;obtain⟨u,G,h⟩:=h;have z:=Z.bC A G;replace h:=xi h;rcases h with⟨rfl,h⟩|⟨f,g,o1,l,es,rfl,h⟩
 ·cases h
  simp only[VR] at z;exact fP (cv:=.int .i64 0) (by simp[execOp,ho,resolve,M,O,invoke,builtin,Builtin.len_,U,run_underlying Y,goInt,z]) I (by simp only[VR];rfl)
 cases h
 simp only[VR] at z;obtain⟨hm,ad,cap,Pv,z,JU,hs⟩:=z;exact fP (cv:=.int .i64 l) (by simp[execOp,ho,resolve,M,O,invoke,builtin,Builtin.len_,U,run_underlying Y,goInt,z]) I (by simp only[VR];rfl)
theorem conv_sound(G:AR P ρ nt E a)(I:R ρ C w){src dst:TypeId}{k L:IntKind}{x:Operand}{z:aG}(ho:o.op= .convert src dst x)(M:cG P x=some z)(O:P.underlying src=some (.int L))(U:P.underlying dst=some (.int k))
  (h:HM k z E H= .ok v H'):eI P o a w (c9 ρ C w H v H'):=by
 replace h:=eK h;obtain⟨u,Y,h⟩:=h;replace h:=CK h;obtain⟨Z,n,rfl,h⟩:=h;rw[xj] at h
 cases h
 have A:=G.bC M Y;simp only[VR] at A;exact fP (cv:=.int k (k.wrap n)) (by simp[execOp,ho,A,convert,run_underlying O,run_underlying U,Conv.intToInt]) I (by simp only[VR,oz])
end
section
variable{P:Program}{ρ:Ho}{nt:Nat}{E:Env}{a:Act}{C:Nat→Option cX}{w:World}{H H':ax}{v:ai}{o:Oper}
theorem CA(b:Nat):∀(vs:List Value)(o:Nat)(w:World),
  (w.setCells b o vs).heap.size=w.heap.size∧(∀k,k≠b→(w.setCells b o vs).heap[k]?=w.heap[k]?)∧
  (∀c e fz,w.heap[b]?=some (.cells c e fz)→∃z,(w.setCells b o vs).heap[b]?=some (.cells z e fz)∧z.size=c.size)∧
  (w.setCells b o vs).os=w.os∧(w.setCells b o vs).tape=w.tape∧(w.setCells b o vs).output=w.output
 |[],_,_=>⟨rfl,fun _ _=>rfl,fun c e fz h=>⟨c,h,rfl⟩,rfl,rfl,rfl⟩
 |v::r,o,w=>by
  obtain⟨I,h2,L,M,O,U⟩:=CA b r (o+1) (w.setCell ⟨b,o,none⟩ v);simp only[World.setCells];refine⟨I.trans (by simp[World.setCell]),fun k G=>(h2 k G).trans ?_,fun c e fz h=>?_,M,O,U⟩
  ·simp only[World.setCell,aic];rw[aX (fun e=>G e.symm)]
  obtain⟨z,A,Y⟩:=L (c.setIfInBounds o v) e fz (by simp[World.setCell,aic,h]);exact⟨z,A,by simpa using Y⟩
def Ho.add(ρ:Ho)(f g:Nat)(h:Hm):Ho:=fun f' g'=>if f'=f∧g'=g then some h else ρ f' g'
theorem Ho.add_same(ρ:Ho)(f g:Nat)(h:Hm):ρ.add f g h f g=some h:=by simp[Ho.add]
theorem Ho.adT{ρ:Ho}{f g:Nat}{h:Hm}(A:∀x,ρ f g=some x→x=h):ρ.le (ρ.add f g h):=by
 intro f' g' x z;unfold Ho.add
 split
 ·rename_i e;obtain⟨rfl,rfl⟩:=e;rw[A x z]
 exact z
theorem Ho.ju{ρ:Ho}{f g f' g':Nat}{h x:Hm}(e:ρ.add f g h f' g'=some x):(f'=f∧g'=g∧x=h)∨ρ f' g'=some x:=by
 unfold Ho.add at e
 split at e
 ·rename_i k;cases e;exact .inl ⟨k.1,k.2,rfl⟩
 exact .inr e
theorem R.heap{w':World}(z:R ρ C w)(h:w'.heap=w.heap):R ρ C w':=
 ⟨fun f o e g x A=>(z.obj f o e g x A).gN (Ho.le_refl _) (by rw[h]),z.oY,fun f g x A=>by rw[h];exact z.hU f g x A,z.uniq,fun f g x A a b=>(z.bK f g x A a b).gN (cell_of_heap (w:=w) (by rw[h]))⟩
theorem R.allocF(fl:Nat)(fz:Nat×Nat)(O:R ρ C w){f elem es aC n:Nat}{cs:RT}{cells:Array Value}(W:Nat→Prop)(A:∀g,ρ f g=none)(he:0<es)(og:n*es≤cells.size)
  (EY:∀i,i<n→∃l,cs.get i=some l∧l.length=es∧∀j x,l[j]?=some x→eQ x=true∧∃cv,cells[i*es+j]?=some cv∧VR ρ x cv) {w':World}
  (Z:w'.heap=w.heap.push (.cells cells elem fz)) (Cg:∀i,i<cells.size→¬(fz.1≤i∧i<fz.2)) (hfz2:fl=0∨fl=2→fz.1=fz.2) (h1:w'.os=w.os) (h2:w'.tape=w.tape) (h3:w'.output=w.output):
  ∃ρ',ρ' f n=some ⟨w.heap.size,0,cells.size,false,false⟩∧Ext W f (f+1) ρ ρ' w w'∧R ρ' (fun x=>if x=f then some (.row elem es aC n n fl cs) else C x) w':=by
 have hle:ρ.le (ρ.add f n ⟨w.heap.size,0,cells.size,false,false⟩):=Ho.adT fun x z=>by rw[A] at z;cases z
 have hold:∀b,b<w.heap.size→w'.heap[b]?=w.heap[b]?:=fun b M=>by rw[Z,Vo,aX an]
 have G:w'.heap[w.heap.size]?=some (.cells cells elem fz):=by rw[Z];simp
 refine⟨_,Ho.add_same _ _ _ _,⟨hle,?_,?_,fun b M _=>hold b M,by rw[Z];simp,Bq _,h1,h2,h3⟩,⟨?_,?_,?_,?_,?_⟩⟩
 ·intro f' g' x z;rcases Ho.ju z with⟨rfl,_,_⟩|z
  ·exact .inr ⟨bd _,ze _⟩
  exact .inl ⟨g',x,z⟩
 ·intro f' g' x z;rcases Ho.ju z with⟨rfl,_,rfl⟩|z
  ·exact .inr (.inl ⟨bd _,rfl⟩)
  exact .inl z
 ·intro f' o hf g x z;have U:(if f'=f then some (cX.row elem es aC n n fl cs) else C f')=some o:=hf;clear hf
  by_cases e:f'=f
  ·rw[bg e] at U;subst e
   cases U
   rcases Ho.ju z with⟨_,rfl,rfl⟩|z
   ·refine⟨he,fun h=>(by cases h),bd _,fun _ _=>⟨⟨cells,fz,G,by simp⟩,og,fun i hi=>?_,fun _ i hi=>?_,fun _ i _ hi=>?_,fun _=>rfl,fun e c t fz' hc=>by rw[G] at hc;cases hc;exact .inl (hfz2 e)⟩⟩
    ·obtain⟨l,a1,a2,a3⟩:=EY i hi;refine⟨l,a1,a2,fun j y hy=>?_⟩;obtain⟨b1,cv,b2,b3⟩:=a3 j y hy;refine⟨b1,cv,?_,b3.mono hle⟩;simp only[World.cell?,G];simpa using b2
    ·simp only[World.frozen?,G];have:=Cg i (by simpa using‹_›);simp at this⊢;omega
    simp only[World.frozen?,G];have:=Cg i (by simpa using‹_›);simp at this⊢;omega
   rw[A] at z;cases z
  rw[aX e] at U;rcases Ho.ju z with⟨e',_,_⟩|z
  ·exact absurd e' e
  exact(O.obj f' o U g x z).gN hle (hold _ (O.hU _ _ _ z))
 ·intro f1 g1 x1 f2 g2 x2 L I fB M;have c1:=Ho.ju L;have c2:=Ho.ju I;clear L I;rcases c1 with⟨e,_,rfl⟩|L<;>rcases c2 with⟨e',_,rfl⟩|I
  ·exact absurd (e.trans e'.symm) fB
  ·have:=O.hU _ _ _ I;have M:w.heap.size=x2.bG:=M;omega
  ·have:=O.hU _ _ _ L;have M:x1.bG=w.heap.size:=M;omega
  exact O.oY _ _ _ _ _ _ L I fB M
 ·intro f' g' x z;rw[Z,Array.size_push];rcases Ho.ju z with⟨_,_,rfl⟩|z
  ·simp
  have:=O.hU _ _ _ z;omega
 ·intro f' g1 x1 g2 x2 L I M;have c1:=Ho.ju L;have c2:=Ho.ju I;clear L I;rcases c1 with⟨rfl,_,rfl⟩|L<;>rcases c2 with⟨e',_,rfl⟩|I
  ·rfl
  ·rw[A] at I;cases I
  ·subst e';rw[A] at L;cases L
  exact O.uniq _ _ _ _ _ L I M
 intro f' g' x z o7 Xm;rcases Ho.ju z with⟨_,_,rfl⟩|Y
 ·cases o7
 have k:=O.bK _ _ _ Y o7 Xm;refine EV.gN ⟨fun g2 x2 I=>?_,k.2⟩ (cell_of_heap (w:=w) ?_)
 ·rcases Ho.ju I with⟨rfl,_,_⟩|I
  ·rw[A] at Y;cases Y
  exact k.1 _ _ I
 have:=O.hU _ _ _ Y;show w'.heap[x.bG]?=_;rw[Z,Vo,aX an]
theorem R.alloc(I:R ρ C w){f elem es aC n:Nat}{cs:RT}{cells:Array Value}(W:Nat→Prop)(z:∀g,ρ f g=none)(L:0<es)(A:n*es≤cells.size)
  (G:∀i,i<n→∃l,cs.get i=some l∧l.length=es∧∀j x,l[j]?=some x→eQ x=true∧∃cv,cells[i*es+j]?=some cv∧VR ρ x cv) {w':World}
  (M:w'.heap=w.heap.push (.cells cells elem)) (O:w'.os=w.os) (h2:w'.tape=w.tape) (U:w'.output=w.output):
  ∃ρ',ρ' f n=some ⟨w.heap.size,0,cells.size,false,false⟩∧Ext W f (f+1) ρ ρ' w w'∧R ρ' (fun x=>if x=f then some (.row elem es aC n n 0 cs) else C x) w':=by
 exact I.allocF 0 (0,0) W z L A G M (fun i _ h=>by simp at h) (fun _=>rfl) O h2 U
theorem QH(C:Nat→Option cX)(H:ax)(o:cX):ep C H ⟨H.next+1,H.aS,H.ws,H.t.set H.next o⟩=fun x=>if x=H.next then some o else C x:=by
 funext x
 unfold ep;simp only[GT.df]
 by_cases h:x=H.next
 ·subst h;simp
 have h2:¬(H.next≤x∧x<H.next+1):=by omega
 have z:(H.t.set H.next o).get x=H.t.get x:=by rw[GT.df,aX h]
 simp[h2,h,z]
theorem R.rd(hR:R ρ C w){f g off n:Nat}{l:List ai}(hr:VA H f g off n l)(hC:C f=H.t.get f){h:Hm}(hh:ρ f g=some h)(hn:0<n):
  l.length=n∧l.all eQ=true∧∀j x,l[j]?=some x→∃cv,w.cell? ⟨h.bG,h.off+off+j,none⟩=some cv∧VR ρ x cv:=by
 obtain⟨elem,es,aC,m,lo,fl,cs,x,hg,h1,h2,h3,h4,hx,Z⟩:=hr;have L:=hR.obj f _ (hC.trans hg) g h hh;obtain⟨he,o7,_,A⟩:=L;have A:=A h1 h2;obtain⟨y,hy,M,O⟩:=A.cell _ h4;have U:y=x:=by
  have:some y=some x:=hy.symm.trans hx
  cases this
  rfl
 subst U;have hoff:off/es*es+off % es=off:=by rw[re];exact NG off es
 have hlen:l.length=n:=by
  rcases Z with⟨rfl,rfl⟩|rfl
  ·exact M
  simp[M];omega
 have I:∀j z,l[j]?=some z→y[off % es+j]?=some z:=by
  intro j z G;rcases Z with⟨rfl,rfl⟩|rfl
  ·have:off % n=0:=by omega
   rw[this,e6];exact G
  rw[Bp] at G
  split at G
  ·rwa [IP] at G
  cases G
 refine⟨hlen,?_,fun j z G=>?_⟩
 ·rw[uf];intro z G;obtain⟨j,hj⟩:=Vp G;exact(O _ z (I j z hj)).1
 obtain⟨_,cv,Y,hv⟩:=O _ z (I j z G);refine⟨cv,?_,hv⟩;rw[show h.off+off+j=h.off+off/es*es+(off % es+j) by omega];exact Y
end
section
variable{P:Program}{ρ:Ho}{nt:Nat}{E:Env}{a:Act}{C:Nat→Option cX}{w:World}{H H':ax}{v:ai}{o:Oper}
def fI(ρ:Ho)(n0 n1:Nat):Prop:=∀f g,n0≤f→f<n1→ρ f g=none
theorem Zl{x:ai}{l:List ai}(h:cellsOf x=some l):iR x=some l:=by
 cases x<;>simp only[cellsOf,iR,reduceCtorEq] at h⊢<;>exact h
theorem CC{l:List ai}{vs:Array Value}(A:bR ρ l vs.toList)(G:l.all eQ=true)(j:Nat)(x:ai)(z:l[j]?=some x):eQ x=true∧∃cv,vs[j]?=some cv∧VR ρ x cv:=by
 obtain⟨y,I,k⟩:=A.get j x z;exact⟨(List.all_eq_true.1 G) x (rj z),y,by simpa using I,k⟩
theorem adU(G:R ρ C w)(I:fI ρ H.next H'.next){elem es aC:Nat}{l:List ai}{vs:Array Value}(L:0<es)(M:l.length=es)(A:bR ρ l vs.toList)(O:l.all eQ=true)
  (z:(execOp a.eval o).run P w= .ok (.value (.pointer (some ⟨w.heap.size,0,none⟩))) {w with heap:=w.heap.push (.cells vs elem)})
  (h:AZ elem es aC l E H= .ok v H'):eI P o a w (c9 ρ C w H v H'):=by
 have h:=FF h
 cases h
 have U:vs.size=es:=by have:=A.length;rw[rh] at this;omega
 obtain⟨ρ',Y,h2,Z⟩:=G.alloc (f:=H.next) (elem:=elem) (es:=es) (aC:=aC) (n:=1) (cs:=.one l) (cells:=vs) (w':={w with heap:=w.heap.push (.cells vs elem)})
  (Wr ⟨H.next+1,H.aS,H.ws,H.t.set H.next (.row elem es aC 1 1 0 (.one l))⟩) (fun g=>I _ g (bd _) (ze _)) L an
  (fun i hi=>by
   have:i=0:=by omega
   subst this
   exact⟨l,rfl,M,fun j x hx=>by simpa using CC A O j x hx⟩) rfl rfl rfl rfl
 refine .inl ⟨_,_,z,ρ',?_,h2,?_⟩
 ·simp only[VR];exact⟨_,Y,rfl⟩
 rw[QH];exact Z
theorem boxz_sound(O:R ρ C w)(U:fI ρ H.next H'.next){t:TypeId}{z:List ai}{i:TypeInfo}(ho:o.op= .alloc t)(A:zeroOf P t=some z)(hi:P.info? t=some i)
  (h:AZ t i.size i.bytes z E H= .ok v H'):eI P o a w (c9 ρ C w H v H'):=by
 unfold zeroOf at A;rw[hi] at A;simp only at A
 split at A
 ·rename_i Z I
  split at A
  ·rename_i av L
   split at A
   ·rename_i l Y
    split at A
    ·rename_i G
     cases A
     have M:=(KU ρ _ _ L).cells (Zl Y);refine adU O U G.2 G.1 M.1 M.2 ?_ h;simp[execOp,ho,Instr.alloc,zeroValue,typeInfo,hi,I,newVar,newRow]
    cases A
   cases A
  cases A
 cases A
theorem box_sound(I:AR P ρ nt E a)(L:R ρ C w)(M:fI ρ H.next H'.next){t:TypeId}{x:Operand}{A:aG}{n b:Nat}(ho:o.op= .box t x)(O:cG P x=some A)(U:gZ P t=some n)
  (h:IV t n b A E H= .ok v H'):eI P o a w (c9 ρ C w H v H'):=by
 replace h:=eK h;obtain⟨u,Y,h⟩:=h;replace h:=iV h;obtain⟨l,Z,h⟩:=h;replace h:=fQ h;obtain⟨z,h⟩:=h;rw[pt] at z;have z:=cW z;have G:=(I.bC O Y).cells Z;obtain⟨_,_,_,_,_,uF⟩:=u7 U;exact adU L M an z G.1 G.2 (by simp[execOp,ho,Instr.box,newVar,newRow]) h
theorem Y5{t:TypeId}{n:Nat}(I:gZ P t=some n){l:List ai}{ad:Addr}(Y:l.length=n)(Z:l.all eQ=true)(L:∀j x,l[j]?=some x→∃cv,w.cell? (ad.add j)=some cv∧VR ρ x cv)
  {e:Nat} (h:fT (qH P t) l (.err e) (fun v=>.ok v H)= .ok v H'):H'=H∧∃cv,(loadVar t ad).run P w= .ok cv w∧VR ρ v cv:=by
 obtain⟨vs,O⟩:∃vs:List Value,bR ρ l vs∧∀j x,vs[j]?=some x→w.cell? (ad.add j)=some x:=by
  clear h Z Y I;have:∀(l:List ai)(k:Nat),(∀j x,l[j]?=some x→∃cv,w.cell? (ad.add (k+j))=some cv∧VR ρ x cv)→∃vs:List Value,bR ρ l vs∧∀j x,vs[j]?=some x→w.cell? (ad.add (k+j))=some x:=by
   intro l
   induction l with
   |nil=>intro k _;exact⟨[],rfl,fun j x A=>by simp at A⟩
   |cons y r ih=>
    intro k L;obtain⟨cv,G,h2⟩:=L 0 y rfl;obtain⟨vs,h3,h4⟩:=ih (k+1) (fun j x A=>by have:=L (j+1) x (by simpa using A);rwa [show k+(j+1)=k+1+j by omega] at this);refine⟨cv::vs,⟨cv,vs,rfl,h2,h3⟩,fun j x A=>?_⟩
    cases j with
    |zero=>simp at A;subst A;simpa using G
    |succ j=>rw[show k+(j+1)=k+1+j by omega];exact h4 j x (by simpa using A)
  obtain⟨vs,G,h2⟩:=this l 0 (by simpa using L);exact⟨vs,G,by simpa using h2⟩
 obtain⟨M,z⟩:=O;have hlen:vs.length=n:=M.length.trans Y;replace h:=RB h;rcases h with⟨U,h⟩|⟨x,U,A,h⟩
 ·cases h
  refine⟨rfl,.agg vs.toArray,?_,?_⟩
  ·have G:=Qv I w;rw[U] at G;have h2:=run_loadCells_list (P:=P) w ad vs z;rw[hlen] at h2;simp[loadVar,G,uW I,h2]
  simp only[VR];exact⟨_,rfl,M,Z⟩
 cases h
 subst A;simp only[bR] at M;obtain⟨y,t',rfl,hy,rfl⟩:=M;refine⟨rfl,y,?_,hy⟩;have G:=Qv I w;rw[U] at G;have h2:w.cell? ad=some y:=by have:=z 0 y rfl;simpa[Addr.add] using this
 simp[loadVar,G,h2]
theorem load_sound(hA:AR P ρ nt E a)(O:R ρ C w){t:TypeId}{x:Operand}{G:aG}{n:Nat}(ho:o.op= .load t x)(I:cG P x=some G)(U:gZ P t=some n)
  (hC:∀f o,f∈iB (G.ev E)→(∃g h,ρ f g=some h)→H.t.get f=some o→C f=some o) (h:HE n (qH P t) G E H= .ok v H'):eI P o a w (c9 ρ C w H v H'):=by
 replace h:=eK h;obtain⟨u,Y,h⟩:=h;replace h:=FE h;obtain⟨f,g,off,rfl,h⟩:=h;obtain⟨l,Z,h⟩:=Uf h (by simp);have A:=hA.bC I Y;simp only[VR] at A;obtain⟨hm,hh,A⟩:=A;obtain⟨_,_,_,_,_,uF⟩:=u7 U;have L:C f=H.t.get f:=by
  obtain⟨_,_,_,_,_,_,_,_,hg,_⟩:=Z;exact(hC f _ (by rw[Y];simp[iB]) ⟨_,_,hh⟩ hg).trans hg.symm
 obtain⟨hlen,hk,hc⟩:=O.rd Z L hh an;obtain⟨rfl,cv,z,M⟩:=Y5 (P:=P) (ρ:=ρ) (w:=w) (ad:=⟨hm.bG,hm.off+off,none⟩) U hlen hk (fun j x I=>by rw[Addr.add_lit];exact hc j x I) h;exact fP (by simp[execOp,ho,A,Instr.loadAt,Instr.sureAddr,z]) O M
theorem YN{l new:List ai}{r n:Nat}(z:r+n≤l.length)(A:new.length=n):(en l r new).length=l.length:=by
 unfold en;simp;omega
theorem Zm{l new:List ai}{r n:Nat}(L:r+n≤l.length)(z:new.length=n)(j:Nat):(en l r new)[j]?=if r≤j∧j<r+n then new[j-r]?else l[j]?:=by
 unfold en;have A:(l.take r).length=r:=by simp;omega
 by_cases G:j<r
 ·rw[sA an,Bp,bg G,aX an]
 rw[rl an,A]
 by_cases I:j<r+n
 ·rw[sA an,bg an]
 rw[rl an,IP,aX an,z];congr 1;omega
theorem R.write(U:R ρ C w){f g off n:Nat}{new:List ai}{nv:List Value}(hw:aiS H f g off n new H')(hC:C f=H.t.get f){h:Hm}(hh:ρ f g=some h)(hn:0<n)
  (hv:bR ρ new nv) (hk:new.all eQ=true):
  (∀j,j<n→(w.cell? ⟨h.bG,h.off+off+j,none⟩).isSome=true)∧(∀j,j<n→w.frozen? ⟨h.bG,h.off+off+j,none⟩=false)∧h.ro=false∧
  R ρ (ep C H H') (w.setCells h.bG (h.off+off) nv):=by
 obtain⟨elem,es,aC,lo,cs,x,hg,h6,h3,h4,Z,hx,rfl⟩:=hw;have hobj:=U.obj f _ (hC.trans hg) g h hh;obtain⟨he,o7,_,A⟩:=hobj;have A:=A h6 (bd _);have hoff:off/es*es+off % es=off:=by rw[re];exact NG off es
 generalize hq:off/es=q at*;generalize hr:off % es=r at*;have L:h.ro=false:=by
  cases hr:h.ro
  ·rfl
  exact absurd (o7 hr) (by simp)
 have jY:nv.length=n:=hv.length.trans Z;have hqg:(q+1)*es≤g*es:=iZ es h4;have hqe:(q+1)*es=q*es+es:=by rw[lq,Bs]
 have hfit:=A.fits;obtain⟨y,hy,hyl,hyc⟩:=A.cell q h4;have hxy:y=x:=by
  have:some y=some x:=hy.symm.trans hx
  cases this
  rfl
 subst hxy;have M:∀j,j<n→(w.cell? ⟨h.bG,h.off+off+j,none⟩).isSome=true:=by
  intro j hj;have lT:r+j<y.length:=by omega
  obtain⟨_,cv,wP,_⟩:=hyc (r+j) (y[r+j]) (dx lT);rw[show h.off+off+j=h.off+q*es+(r+j) by omega,wP];rfl
 have hfrz:∀j,j<n→w.frozen? ⟨h.bG,h.off+off+j,none⟩=false:=by
  intro j hj;rw[lp];exact A.DA rfl (off+j) an
 obtain⟨s1,s2,s3,_,_,_⟩:=CA h.bG nv (h.off+off) w;refine⟨M,hfrz,L,⟨fun f' o' G g' h' I=>?_,U.oY,fun f' g' h' I=>by rw[s1];exact U.hU f' g' h' I,U.uniq,fun f' g' x hx a b=>(U.bK f' g' x hx a b).gN (cell_of_heap (w:=w) (s2 _ fun e=>?_))⟩⟩
 rotate_left
 ·by_cases hf:f'=f
  ·subst hf;have:=(U.bK _ _ _ hx a b).1 _ _ hh;rw[L] at this;cases this
  have:=(U.oY _ _ _ _ _ _ hx hh hf e).2;rw[L] at this;cases this
 have BA:∀z,(if n=es then new else en y r new)=z→z.length=es∧∀j,z[j]?=if r≤j∧j<r+n then new[j-r]?else y[j]?:=by
  intro z hz;have JV:(if n=es then new else en y r new)=en y r new:=by
   split
   ·rename_i e;have Xn:r=0:=by omega
    subst Xn;unfold en;rw[NH,Bu,NI an,Ef]
   rfl
  rw[JV] at hz;subst hz;exact⟨(YN an Z).trans hyl,Zm an Z⟩
 obtain⟨Ch,hzg⟩:=BA _ rfl;generalize (if n=es then new else en y r new)=z at*
 by_cases hf:f'=f
 ·subst hf;have zg:o'= .row elem es aC g g 0 (cs.set q z):=by
   have h0:(H.t.set f' (cX.row elem es aC g g 0 (cs.set q z))).get f'=some (.row elem es aC g g 0 (cs.set q z)):=by rw[GT.df,bg rfl]
   unfold ep at G;simp only at G;rw[aX an,h0] at G
   split at G
   ·rename_i e;rw[hC,←e] at G
    cases G
    rfl
   cases G
   rfl
  subst zg;have O:=U.obj f' _ (hC.trans hg) g' h' I;refine⟨he,O.2.1,O.2.2.1,fun a1 a2=>?_⟩;have JW:g'=g:=by omega
  subst JW;have hhh:h'=h:=by rw[hh] at I;cases I;rfl
  subst hhh;obtain⟨c,fz,hb,hbs⟩:=A.row;obtain⟨c',o8,aiU⟩:=s3 c elem fz hb;refine⟨⟨c',fz,o8,an⟩,hfit,fun i hi=>?_,fun e i hi=>?_,fun e i hi wQ=>?_,A.I3,fun e c1 t1 JX zh=>by rw[o8] at zh;cases zh;exact A.JT e _ _ _ hb⟩
  ·rw[RT.df]
   by_cases Xo:i=q
   ·subst Xo;rw[bg rfl];refine⟨z,rfl,Ch,fun j u Y=>?_⟩;rw[hzg] at Y
    split at Y
    ·rename_i hj;obtain⟨cv,wP,Xp⟩:=hv.get _ _ Y;refine⟨(List.all_eq_true.1 hk) u (rj Y),cv,?_,Xp⟩;have JY:j-r<nv.length:=by omega
     have:=World.cell?_setCells_in h'.bG nv (h'.off+off) w (by rw[jY];exact M) (j-r) JY;rw[show h'.off+i*es+j=h'.off+off+(j-r) by omega,this,←dx JY];exact wP
    rename_i hj;obtain⟨k1,cv,k2,k3⟩:=hyc j u Y;refine⟨k1,cv,?_,k3⟩;rw[World.cell?_setCells_out _ _ _ _ _ (fun _ _=>by simp only;omega)];exact k2
   rw[aX Xo];obtain⟨l,l1,l2,l3⟩:=A.cell i hi;refine⟨l,l1,l2,fun j u Y=>?_⟩;obtain⟨k1,cv,k2,k3⟩:=l3 j u Y;refine⟨k1,cv,?_,k3⟩;have hjes:j<es:=by
    rw[←l2];rcases Nat.lt_or_ge j l.length with h|h
    ·exact h
    rw[yB h] at Y;cases Y
   rw[World.cell?_setCells_out _ _ _ _ _ (fun _ _=>?_)]
   ·exact k2
   simp only;rcases Nat.lt_or_gt_of_ne Xo with lT|Pw
   ·left;have:=iZ es (show i+1≤q from lT);rw[lq,Bs] at this;omega
   right;have:=iZ es (show q+1≤i from Pw);omega
  ·rw[World.frozen?_setCells];exact A.DA e i hi
  rw[World.frozen?_setCells];exact A.DB e i hi wQ
 have zg:C f'=some o':=by
  have h0:(H.t.set f (cX.row elem es aC g g 0 (cs.set q z))).get f'=H.t.get f':=by rw[GT.df,aX hf]
  unfold ep at G;simp only at G;rw[aX an,bg h0] at G;exact G
 refine(U.obj f' o' zg g' h' I).gN (Ho.le_refl _) (s2 _ fun e=>?_);have:=U.oY _ _ _ _ _ _ I hh hf e;rw[L] at this;exact absurd this.2 (by simp)
theorem run_storeVar{t:TypeId}{n:Nat}(A:gZ P t=some n){b base:Nat}{u:Value}(z:u.cells.size=n)(G:∀x∈u.cells.toList,x.oneCell'=true)
  (I:∀j,j<n→(w.cell? ⟨b,base+j,none⟩).isSome=true) (L:∀j,j<n→w.frozen? ⟨b,base+j,none⟩=false):
  (storeVar t ⟨b,base,none⟩ u).run P w= .ok () (w.setCells b base u.cells.toList):=by
 have hlen:u.cells.toList.length=n:=by rw[rh];exact z
 have:=run_storeCells_cells (P:=P) b base u.cells.toList 0 w (by rw[hlen];simpa using I) (by rw[hlen];simpa using L) G;simp only[ug] at this;simp[storeVar,uW A,z,this]
theorem Qx{x:ai}{y:Value}(h:VR ρ x y)(z:eQ x=true):y.oneCell'=true:=by
 have:=h.noAgg z
 cases y<;>first|rfl|(exact absurd rfl (this.1 _))|(exact absurd rfl (this.2 _))
theorem bR.Q0:∀{l:List ai}{vs:List Value},bR ρ l vs→l.all eQ=true→∀x∈vs,x.oneCell'=true
 |[],vs,h,_,x,z=>by simp only[bR] at h;subst h;cases z
 |a::r,vs,h,A,x,z=>by
  simp only[bR] at h;obtain⟨v,t,rfl,G,h2⟩:=h;simp only[IS,cU] at A
  cases z with
  |head=>exact Qx G A.1
  |tail _ z=>exact bR.Q0 h2 A.2 x z
theorem store_sound(hA:AR P ρ nt E a)(hR:R ρ C w){t:TypeId}{x z:Operand}{O z':aG}{n:Nat}(ho:o.op= .store t x z)(hx:cG P x=some O)(hz:cG P z=some z')(hn:gZ P t=some n)
  (hC:∀f o,f∈iB (O.ev E)→(∃g h,ρ f g=some h)→H.t.get f=some o→C f=some o) (h:Gy n O z' E H= .ok v H'):eI P o a w (c9 ρ C w H v H'):=by
 replace h:=eK h;obtain⟨u,hu,h⟩:=h;replace h:=FE h;obtain⟨f,g,off,rfl,h⟩:=h;replace h:=eK h;obtain⟨u2,U,h⟩:=h;replace h:=iV h;obtain⟨l,hl,h⟩:=h;obtain⟨H1,L,h⟩:=A1 h
 cases h
 have M:=hA.bC hx hu;have h2:=hA.bC hz U;simp only[VR] at M;obtain⟨A,Y,M⟩:=M;obtain⟨_,_,_,_,_,uF⟩:=u7 hn;have G:=h2.cells hl;have Xq:l.length=n:=by obtain⟨_,_,_,_,_,_,_,_,_,_,Z,_⟩:=L;exact Z
 have hvl:(a.eval z).cells.size=n:=by have:=G.1.length;rw[rh] at this;omega
 have s0:C f=H.t.get f:=by
  obtain⟨_,_,_,_,_,_,hg,_⟩:=L;exact(hC f _ (by rw[hu];simp[iB]) ⟨_,_,Y⟩ hg).trans hg.symm
 obtain⟨k1,k2,k3,k4⟩:=hR.write L s0 Y an G.1 G.2;have I:=run_storeVar (P:=P) (w:=w) hn (b:=A.bG) (base:=A.off+off) hvl (G.1.Q0 G.2) k1 k2;obtain⟨s1,s2,s3,s4,s5,s6⟩:=CA A.bG (a.eval z).cells.toList (A.off+off) w;refine .inr (.inl ⟨w.setCells A.bG (A.off+off) (a.eval z).cells.toList,?_,ρ,by simp only[VR],?_,k4⟩)
 ·simp[execOp,ho,M,Instr.storeAt,Instr.sureAddr,I]
 obtain⟨_,_,_,_,_,_,_,_,_,_,_,_,rfl⟩:=L;refine⟨Ho.le_refl _,fun f g h e=>.inl ⟨g,h,e⟩,fun _ _ _ e=>.inl e,fun b hb hf=>?_,by rw[s1];exact bd _,bd _,s4,s5,s6⟩;refine s2 b fun e=>?_
 refine hf f g A Y k3 ?_ e.symm;unfold Wr;simp only[xl]
 by_cases lT:f<H.aS
 ·exact .inl (.inr ⟨trivial,lT⟩)
 exact .inr an
end
section
variable{P:Program}{ρ:Ho}{nt:Nat}{E:Env}{a:Act}{C:Nat→Option cX}{w:World}{H H':ax}{v:ai}{o:Oper}
theorem Q2:∀{n:Nat}{H:ax}{f g es off:Nat}{l:List (List ai)},elems H f g es n off=some l→l.length=n∧∀i x,l[i]?=some x→VA H f g (off+i*es) es x
 |0,H,f,g,es,off,l,h=>by cases h;exact⟨rfl,fun i x z=>by simp at z⟩
 |n+1,H,f,g,es,off,l,h=>by
  have h:rd H f g off es none (fun l=>ob (elems H f g es n (off+es)) none fun r=>some (l::r))=some l:=h;obtain⟨x,z,h⟩:=Uf h (by simp);obtain⟨r,G,h⟩:=C4 h
  cases h
  obtain⟨I,h2⟩:=Q2 G;refine⟨by simp[I],fun i y A=>?_⟩
  cases i with
  |zero=>simp at A;subst A;simpa using z
  |succ i=>have:=h2 i y (by simpa using A);rwa [show off+es+i*es=off+(i+1)*es by rw[lq];omega] at this
theorem uT:∀(l:List (List ai))(t:RT)(i k:Nat),(gJ l t i).get k=if i≤k∧k<i+l.length then l[k-i]?else t.get k
 |[],t,i,k=>by
  show t.get k=_;rw[aX (by simp)]
 |x::r,t,i,k=>by
  have step:gJ (x::r) t i=gJ r (t.set i x) (i+1):=rfl;rw[step,uT r,RT.df];simp only[gB]
  by_cases h:k=i
  ·subst h;rw[aX an,bg rfl,bg an];simp
  rw[aX h]
  by_cases h2:i+1≤k∧k<i+1+r.length
  ·rw[bg h2,bg an];rw[show k-i=(k-(i+1))+1 by omega,NJ]
  rw[aX h2,aX an]
structure Flat(ρ:Ho)(es:Nat)(l:List (List ai))(news:List Value):Prop where
 len:news.length=l.length*es
 one:∀u∈news,u.oneCell'=true
 get:∀i x,l[i]?=some x→x.length=es∧∀j y,x[j]?=some y→eQ y=true∧∃cv,news[i*es+j]?=some cv∧VR ρ y cv
theorem tz{α:Type}{l:List α}{i:Nat}{x:α}(h:l[i]?=some x):i<l.length:=by
 rcases Nat.lt_or_ge i l.length with h'|h'
 ·exact h'
 rw[yB h'] at h;cases h
theorem Flat.of_elems(hR:R ρ C w){f g es off n:Nat}{l:List (List ai)}(hl:elems H f g es n off=some l)(hC:∀o,H.t.get f=some o→C f=some o){h:Hm}(hh:ρ f g=some h)(Y:0<es):
  l.length=n∧∃news,Flat ρ es l news∧∀j u,news[j]?=some u→w.cell? ⟨h.bG,h.off+off+j,none⟩=some u:=by
 obtain⟨hlen,z⟩:=Q2 hl;refine⟨hlen,(List.range (l.length*es)).map fun q=>(w.cell? ⟨h.bG,h.off+off+q,none⟩).getD undef,?_⟩;have key:∀i x,l[i]?=some x→x.length=es∧∀j y,x[j]?=some y→eQ y=true∧∃cv,w.cell? ⟨h.bG,h.off+off+(i*es+j),none⟩=some cv∧VR ρ y cv:=by
  intro i x G;have Z:C f=H.t.get f:=by
   obtain⟨_,_,_,_,_,_,_,_,hg,_⟩:=z i x G;exact(hC _ hg).trans hg.symm
  obtain⟨I,h2,h3⟩:=hR.rd (z i x G) Z hh Y;refine⟨I,fun j y L=>⟨(List.all_eq_true.1 h2) y (rj L),?_⟩⟩;obtain⟨cv,wP,hv⟩:=h3 j y L;exact⟨cv,by rw[show h.off+off+(i*es+j)=h.off+(off+i*es)+j by omega];exact wP,hv⟩
 have cellAt:∀q,q<l.length*es→∃cv,w.cell? ⟨h.bG,h.off+off+q,none⟩=some cv∧cv.oneCell'=true:=by
  intro q hq;have hi:q/es<l.length:=by
   rw[aid Y];exact hq
  have M:q % es<es:=yy _ Y;obtain⟨I,h2⟩:=key (q/es) _ (dx hi);obtain⟨A,cv,O,k3⟩:=h2 (q % es) _ (dx (by rw[I];exact M));refine⟨cv,?_,Qx k3 A⟩;have:q/es*es+q % es=q:=by rw[re];exact NG q es
  rwa [this] at O
 refine⟨⟨by simp,fun u U=>?_,fun i x G=>?_⟩,fun j u U=>?_⟩
 ·obtain⟨q,hq,rfl⟩:=List.mem_map.1 U;obtain⟨cv,A,O⟩:=cellAt q (List.mem_range.1 hq);rw[A];exact O
 ·obtain⟨I,h2⟩:=key i x G;refine⟨I,fun j y L=>?_⟩;obtain⟨A,cv,O,k3⟩:=h2 j y L;refine⟨A,cv,?_,k3⟩;have lT:i*es+j<l.length*es:=by
   have h4:=tz G;have h5:=tz L;have:=iZ es (show i+1≤l.length from h4);rw[lq,Bs] at this;omega
  simp[lT,O]
 have M:=tz U;simp at M;obtain⟨cv,A,_⟩:=cellAt j M;simp[M,A] at U;rw[A,U]
theorem R.grow(U:R ρ C w){f m k elem es aC mr lo fl:Nat}{cs:RT}{new:List (List ai)}{news:List Value}(W:Nat→Prop)(hWf:W f){w':World}{h h2:Hm}
  (hC:C f=some (.row elem es aC m lo fl cs)) (hh:ρ f m=some h) (hk:new.length=k) (Xr:0<k) (EW:lo≤m) (JZ:fl≠1) (hF:Flat ρ es new news)
  (og:w.heap.size≤w'.heap.size) (h1:w'.os=w.os) (Xs:w'.tape=w.tape) (h3:w'.output=w.output)
  (M:∀b,b<w.heap.size→b≠h.bG→w'.heap[b]?=w.heap[b]?)
  (Y:∃c c' e fz,w.heap[h.bG]?=some (.cells c e fz)∧w'.heap[h.bG]?=some (.cells c' e fz)∧c'.size=c.size)
  (hcell:∀off,off<m*es→w'.cell? ⟨h.bG,h.off+off,none⟩=w.cell? ⟨h.bG,h.off+off,none⟩)
  (G:h2=h∨(w.heap.size≤h2.bG∧h2.ro=false)) (o9:h2.bG<w'.heap.size)
  (Em:∃c fz,w'.heap[h2.bG]?=some (.cells c elem fz)∧h2.off+h2.room≤c.size) (hfits:(m+k)*es≤h2.room)
  (hold:∀off,off<m*es→w'.cell? ⟨h2.bG,h2.off+off,none⟩=w.cell? ⟨h.bG,h.off+off,none⟩)
  (BA:∀j,j<k*es→w'.cell? ⟨h2.bG,h2.off+m*es+j,none⟩=news[j]?)
  (Cg:h2≠h→h2.off=0∧(∀i,w'.frozen? ⟨h2.bG,i,none⟩=false)∧∀c e fz,w'.heap[h2.bG]?=some (.cells c e fz)→fz.1=fz.2):
  ∃ρ',ρ' f (m+k)=some h2∧Ext W H.next H.next ρ ρ' w w'∧R ρ' (fun x=>if x=f then some (.row elem es mr (m+k) lo fl (gJ new cs m)) else C x) w':=by
 obtain⟨he,o7,_,A⟩:=U.obj f _ hC m h hh;have A:=A EW (bd _);have O:h.ro=false:=by
  cases hr:h.ro
  ·rfl
  exact absurd (o7 hr) JZ
 have aiV:h2.ro=false:=by
  rcases G with rfl|⟨_,e⟩
  ·exact O
  exact e
 have hnone:∀x,ρ f (m+k)=some x→x=h2:=fun x z=>by
  obtain⟨_,_,hle,_⟩:=U.obj f _ hC (m+k) x z;omega
 have hle:ρ.le (ρ.add f (m+k) h2):=Ho.adT hnone;have aiW:∀f' g' x,ρ f' g'=some x→f'≠f→w'.heap[x.bG]?=w.heap[x.bG]?:=by
  intro f' g' x z I;refine M _ (U.hU _ _ _ z) fun e=>?_
  have:=U.oY _ _ _ _ _ _ z hh I e;rw[O] at this;exact absurd this.2 (by simp)
 have aiX:∀i,w'.frozen? ⟨h.bG,i,none⟩=w.frozen? ⟨h.bG,i,none⟩:=by
  intro i;obtain⟨c,c',e,fz,k1,k2,_⟩:=Y;simp only[World.frozen?,k1,k2]
 refine⟨_,Ho.add_same _ _ _ _,⟨hle,?_,?_,?_,og,bd _,h1,Xs,h3⟩,⟨?_,?_,?_,?_,?_⟩⟩
 ·intro f' g' x z;rcases Ho.ju z with⟨rfl,_,_⟩|z
  ·exact .inl ⟨m,h,hh⟩
  exact .inl ⟨g',x,z⟩
 ·intro f' g' x z;rcases Ho.ju z with⟨rfl,_,rfl⟩|z
  ·rcases G with rfl|⟨a1,a2⟩
   ·exact .inr (.inr ⟨m,x,hh,rfl,rfl⟩)
   exact .inr (.inl ⟨a1,a2⟩)
  exact .inl z
 ·intro b hb hf;exact M b hb fun e=>hf f m h hh O hWf e.symm
 ·intro f' o Px g x z;have EZ:(if f'=f then some (cX.row elem es mr (m+k) lo fl (gJ new cs m)) else C f')=some o:=Px;clear Px
  by_cases e:f'=f
  ·rw[bg e] at EZ;subst e
   cases EZ
   rcases Ho.ju z with⟨_,rfl,rfl⟩|z
   ·refine⟨he,(fun e=>by rw[aiV] at e;cases e),bd _,fun _ _=>⟨Em,hfits,fun i hi=>?_,fun e i hi=>?_,fun e i hi wQ=>?_,fun e=>(NK (x=h)).elim (fun L=>L▸A.I3 e) (fun L=>(Cg L).1),fun e=>(NK (x=h)).elim (fun L c1 t1 JX Z=>by
     obtain⟨c,c',t2,fz,q1,q2,_⟩:=Y;rw[L,q2] at Z
     cases Z
     have:=iZ es (show m≤m+k by omega)
     exact(A.JT e _ _ _ q1).imp_right (fun g=>by omega)) (fun L c1 t1 JX Z=>.inl ((Cg L).2.2 _ _ _ Z))⟩⟩
    ·rw[uT]
     by_cases him:i<m
     ·rw[aX an];obtain⟨l,l1,l2,l3⟩:=A.cell i him;refine⟨l,l1,l2,fun j u hu=>?_⟩;obtain⟨k1,cv,k2,k3⟩:=l3 j u hu;refine⟨k1,cv,?_,k3.mono hle⟩;have hj:=tz hu;have:=iZ es (show i+1≤m from him);rw[lq,Bs] at this;rw[lp,hold (i*es+j) an,←lp];exact k2
     rw[bg an];have hik:i-m<new.length:=by omega
     obtain⟨l1,l2⟩:=hF.get (i-m) _ (dx hik);refine⟨_,dx hik,l1,fun j u hu=>?_⟩;obtain⟨k1,cv,k2,k3⟩:=l2 j u hu;refine⟨k1,cv,?_,k3.mono hle⟩;have hj:=tz hu;have hjj:=tz k2;rw[hF.len,hk] at hjj;have e1:i*es=m*es+(i-m)*es:=by rw[←lq];congr 1;omega
     rw[show x.off+i*es+j=x.off+m*es+((i-m)*es+j) by omega,BA _ hjj];exact k2
    ·by_cases wR:x=h
     ·subst wR;rw[aiX];exact A.DA e i hi
     exact(Cg wR).2.1 _
    by_cases wR:x=h
    ·subst wR;rw[aiX];refine A.DB e i ?_ wQ;have:=iZ es (show m≤m+k by omega);omega
    exact(Cg wR).2.1 _
   obtain⟨_,r1,r2,r3⟩:=U.obj f' _ hC g x z;refine⟨he,r1,an,fun a1 _=>?_⟩;have r3:=r3 a1 r2;have HQ:(∃c c' e fz,w.heap[x.bG]?=some (.cells c e fz)∧w'.heap[x.bG]?=some (.cells c' e fz)∧c'.size=c.size)∧∀off,off<m*es→w'.cell? ⟨x.bG,x.off+off,none⟩=w.cell? ⟨x.bG,x.off+off,none⟩:=by
    by_cases hb:x.bG=h.bG
    ·have ho:=U.uniq _ _ _ _ _ z hh hb;rw[hb,ho];exact⟨Y,hcell⟩
    have rJ:=M _ (U.hU _ _ _ z) hb;obtain⟨c,fz,hc,_⟩:=r3.row;exact⟨⟨c,c,elem,fz,hc,by rw[rJ];exact hc,rfl⟩,fun off _=>cell_of_heap (w:=w) rJ⟩
   obtain⟨⟨c,c',e0,fz,q1,q2,q3⟩,q4⟩:=HQ;have hfx:∀i,w'.frozen? ⟨x.bG,i,none⟩=w.frozen? ⟨x.bG,i,none⟩:=fun i=>by simp only[World.frozen?,q1,q2]
   obtain⟨c2,fz2,p1,p2⟩:=r3.row;rw[q1] at p1
   cases p1
   refine⟨⟨c',fz,q2,an⟩,r3.fits,fun i hi=>?_,fun e i hi=>?_,fun e i hi wQ=>?_,r3.I3,fun e c1 t1 JX Z=>by
    rw[q2] at Z
    cases Z
    have:=iZ es (show m≤m+k by omega)
    exact(r3.JT e _ _ _ q1).imp_right (fun g=>by omega)⟩
   ·rw[uT,aX an];obtain⟨l,l1,l2,l3⟩:=r3.cell i hi;refine⟨l,l1,l2,fun j u hu=>?_⟩;obtain⟨k1,cv,k2,k3⟩:=l3 j u hu;refine⟨k1,cv,?_,k3.mono hle⟩;have hj:=tz hu;have:=iZ es (show i+1≤m by omega);rw[lq,Bs] at this;rw[lp,q4 (i*es+j) an,←lp];exact k2
   ·rw[hfx];exact r3.DA e i hi
   rw[hfx];refine r3.DB e i ?_ wQ;have:=iZ es (show m≤m+k by omega);omega
  rw[aX e] at EZ;rcases Ho.ju z with⟨e',_,_⟩|z
  ·exact absurd e' e
  exact(U.obj f' o EZ g x z).gN hle (aiW _ _ _ z e)
 ·intro f1 g1 x1 f2 g2 x2 e1 L I hb;have c1:=Ho.ju e1;have c2:=Ho.ju L;clear e1 L;have half:∀f' g' x,ρ f' g'=some x→f'≠f→x.bG≠h2.bG:=by
   intro f' g' x z I e;rcases G with rfl|⟨a1,_⟩
   ·have:=U.oY _ _ _ _ _ _ z hh I e;rw[O] at this;exact absurd this.2 (by simp)
   have:=U.hU _ _ _ z;omega
  rcases c1 with⟨e,_,rfl⟩|e1<;>rcases c2 with⟨e',_,rfl⟩|L
  ·exact absurd (e.trans e'.symm) I
  ·exact absurd hb.symm (half _ _ _ L (fun e3=>I (e.trans e3.symm)))
  ·exact absurd hb (half _ _ _ e1 (fun e3=>I (e3.trans e'.symm)))
  exact U.oY _ _ _ _ _ _ e1 L I hb
 ·intro f' g' x z;rcases Ho.ju z with⟨_,_,rfl⟩|z
  ·exact o9
  have:=U.hU _ _ _ z;omega
 ·intro f' g1 x1 g2 x2 e1 L hb;have c1:=Ho.ju e1;have c2:=Ho.ju L;clear e1 L;have half:∀g' x,ρ f g'=some x→x.bG=h2.bG→x.off=h2.off:=by
   intro g' x z e;rcases G with rfl|⟨a1,_⟩
   ·exact U.uniq _ _ _ _ _ z hh e
   have:=U.hU _ _ _ z;omega
  rcases c1 with⟨e,_,rfl⟩|e1<;>rcases c2 with⟨e',_,rfl⟩|L
  ·rfl
  ·subst e;exact(half _ _ L hb.symm).symm
  ·subst e';exact half _ _ e1 hb
  exact U.uniq _ _ _ _ _ e1 L hb
 intro f' g' x z o7 Xm;rcases Ho.ju z with⟨_,_,rfl⟩|E0
 ·rw[aiV] at o7;cases o7
 have k:=U.bK _ _ _ E0 o7 Xm;have I:f'≠f:=fun e=>by
  subst e;have:=k.1 _ _ hh;rw[O] at this;cases this
 refine EV.gN ⟨fun g2 x2 L=>?_,k.2⟩ (cell_of_heap (w:=w) (aiW _ _ _ E0 I));rcases Ho.ju L with⟨e3,_,_⟩|L
 ·exact absurd e3 I
 exact k.1 _ _ L
end
end Go.Ev
