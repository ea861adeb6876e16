/- Part 4 of rules for walks through the code of a program, and of such walks; what each part proves is said by its theorems. -/
import Derived.Test.YtmpoloiempjdpaaGreatR3
import Derived.Laws.Strings
set_option linter.unusedVariables false
set_option linter.unusedSimpArgs false
noncomputable section
set_option maxRecDepth 100000
set_option maxHeartbeats 4000000
namespace Go.Ev
section
variable{P:Program}{ρ:Ho}{nt:Nat}{E:Env}{a:Act}{C:Nat→Option cV}{w:World}{H H':ax}{v:aj}{o:Oper}
theorem fM{cv:Value}(h:(execOp a.eval o).run P w= .ok (.value cv) w)(z:R ρ C w)(A:VR ρ v cv):eF P o a w (cZ ρ C w H v H):=
 .inl ⟨cv,w,h,cZ.pure z A⟩
theorem ZV(z:AR P ρ nt E a)(A:R ρ C w){x:Operand}{y:aG}(ho:o.op= .move x∨o.op= .assign x)(G:cB P x=some y)
  (h:oP y E H= .ok v H'):eF P o a w (cZ ρ C w H v H'):=by
 replace h:=eG h;obtain⟨u,I,h⟩:=h
 cases h
 exact fM (by rcases ho with ho|ho<;>simp[execOp,ho]) A (z.bI G I)
theorem pick_sound(I:AR P ρ nt E a)(O:R ρ C w){c x z:Operand}{U L M:aG}(ho:o.op= .pick c x z)(Y:cB P c=some U)(Z:cB P x=some L)(hz:cB P z=some M)
  (h:Hj U L M E H= .ok v H'):eF P o a w (cZ ρ C w H v H'):=by
 replace h:=eG h;obtain⟨u,hu,h⟩:=h;replace h:=onBool_ok h;obtain⟨b,rfl,h⟩:=h;have A:=I.bI Y hu;simp only[VR] at A
 cases b with
 |true=>
  obtain⟨u2,G,h⟩:=eG (show bt L E (.err 1) (fun v=>.ok v H)= .ok v H' from h)
  cases h
  exact fM (by simp[execOp,ho,A,asBool]) O (I.bI Z G)
 |false=>
  obtain⟨u2,G,h⟩:=eG (show bt M E (.err 1) (fun v=>.ok v H)= .ok v H' from h)
  cases h
  exact fM (by simp[execOp,ho,A,asBool]) O (I.bI hz G)
theorem run_eqGuard_int(op:BinOp)(t:TypeId)(x y:Operand)(k z:IntKind)(m n:Int):(eqGuard op t x y (.int k m) (.int z n)).run P w= .ok () w:=by
 unfold eqGuard
 cases op<;>simp
theorem run_eqGuard_str(op:BinOp)(t:TypeId)(x y:Operand)(k z:ByteArray):(eqGuard op t x y (.string k) (.string z)).run P w= .ok () w:=by
 unfold eqGuard
 cases op<;>simp
theorem Fj{op:BinOp}{k:IntKind}{m n r:Int}(h:intBits op k m n=some r):(Op.intBits op k m n).run P w= .ok (.int k r) w:=by
 unfold intBits at h;unfold Op.intBits
 cases op<;>simp_all
theorem nq{k z:IntKind}{r:Option aj}{u:aj}(h:aI (Nat.beq (cK k) (cK z)) r none=some u):k=z∧r=some u:=by
 rw[th] at h
 split at h
 ·rename_i A;exact⟨KT A,h⟩
 cases h
theorem Lu{b:Bool}{r:Option aj}{u:aj}(h:aI b none r=some u):b=false∧r=some u:=by
 cases b
 ·exact⟨rfl,h⟩
 cases h
theorem CR{α β:Type}{x:Option α}{k:α→Option β}{u:β}(h:ob x none k=some u):∃y,x=some y∧k y=some u:=by
 cases x with
 |none=>cases h
 |some y=>exact⟨y,rfl,h⟩
theorem intBin_ok{op:BinOp}{k I:IntKind}{m n:Int}{u:aj}(t:TypeId)(h:gl op k m I n=some u):
  ∃cv,(binOp op t (.int k m) (.int I n)).run P w= .ok cv w∧VR ρ u cv:=by
 cases op with
 |shl=>
  simp only[gl] at h;obtain⟨A,h⟩:=Lu h;rw[ou,gM] at A
  cases h
  refine⟨.int k (k.wrap (m*2^(min n.toNat k.bits))),?_,by simp only[VR,og]⟩;simp only[binOp,Op.shift,aZ A];rfl
 |shr=>
  simp only[gl] at h;obtain⟨A,h⟩:=Lu h;rw[ou,gM] at A
  cases h
  refine⟨.int k (m.fdiv (2^(min n.toNat k.bits))),?_,by simp only[VR]⟩;simp only[binOp,Op.shift,aZ A];rfl
 |quo=>
  simp only[gl] at h;have z:=nq h;clear h;obtain⟨rfl,h⟩:=z;obtain⟨A,h⟩:=Lu h;rw[tm,gM] at A
  cases h
  exact⟨.int k (k.wrap (m.tdiv n)),by simp[binOp,Op.intDiv,A],by simp only[VR,og]⟩
 |rem=>
  simp only[gl] at h;have z:=nq h;clear h;obtain⟨rfl,h⟩:=z;obtain⟨A,h⟩:=Lu h;rw[tm,gM] at A
  cases h
  exact⟨.int k (m.tmod n),by simp[binOp,Op.intDiv,A],by simp only[VR]⟩
 |and=>
  simp only[gl] at h;have z:=nq h;clear h;obtain⟨rfl,h⟩:=z;obtain⟨r,G,h⟩:=CR h
  cases h
  exact⟨_,by simp only[binOp,ne_eq,not_true_eq_false,if_false];exact Fj G,by simp only[VR]⟩
 |or=>
  simp only[gl] at h;have z:=nq h;clear h;obtain⟨rfl,h⟩:=z;obtain⟨r,G,h⟩:=CR h
  cases h
  exact⟨_,by simp only[binOp,ne_eq,not_true_eq_false,if_false];exact Fj G,by simp only[VR]⟩
 |xor=>
  simp only[gl] at h;have z:=nq h;clear h;obtain⟨rfl,h⟩:=z;obtain⟨r,G,h⟩:=CR h
  cases h
  exact⟨_,by simp only[binOp,ne_eq,not_true_eq_false,if_false];exact Fj G,by simp only[VR]⟩
 |andNot=>
  simp only[gl] at h;have z:=nq h;clear h;obtain⟨rfl,h⟩:=z;obtain⟨r,G,h⟩:=CR h
  cases h
  exact⟨_,by simp only[binOp,ne_eq,not_true_eq_false,if_false];exact Fj G,by simp only[VR]⟩
 |add=>
  simp only[gl] at h;have z:=nq h;clear h;obtain⟨rfl,h⟩:=z
  cases h
  exact⟨.int k (k.wrap (m+n)),by simp[binOp,Op.intArith],by simp only[VR,og]⟩
 |sub=>
  simp only[gl] at h;have z:=nq h;clear h;obtain⟨rfl,h⟩:=z
  cases h
  exact⟨.int k (k.wrap (m-n)),by simp[binOp,Op.intArith],by simp only[VR,og]⟩
 |mul=>
  simp only[gl] at h;have z:=nq h;clear h;obtain⟨rfl,h⟩:=z
  cases h
  exact⟨.int k (k.wrap (m*n)),by simp[binOp,Op.intArith],by simp only[VR,og]⟩
 |eql=>
  simp only[gl] at h;have z:=nq h;clear h;obtain⟨rfl,h⟩:=z
  cases h
  exact⟨.bool (m==n),by simp[binOp,Op.intCmp],by simp only[VR,tm];rfl⟩
 |neq=>
  simp only[gl] at h;have z:=nq h;clear h;obtain⟨rfl,h⟩:=z
  cases h
  exact⟨.bool (m !=n),by simp[binOp,Op.intCmp],by simp only[VR,tm];rfl⟩
 |lss=>
  simp only[gl] at h;have z:=nq h;clear h;obtain⟨rfl,h⟩:=z
  cases h
  exact⟨.bool (decide (m<n)),by simp[binOp,Op.intCmp],by simp only[VR,ou]⟩
 |gtr=>
  simp only[gl] at h;have z:=nq h;clear h;obtain⟨rfl,h⟩:=z
  cases h
  exact⟨.bool (decide (m>n)),by simp[binOp,Op.intCmp],by simp only[VR,ou]⟩
 |leq=>
  simp only[gl] at h;have z:=nq h;clear h;obtain⟨rfl,h⟩:=z
  cases h
  refine⟨.bool (decide (m≤n)),by simp[binOp,Op.intCmp],?_⟩;simp only[VR,ou,Value.bool.injEq];rw[ym];simp
 |geq=>
  simp only[gl] at h;have z:=nq h;clear h;obtain⟨rfl,h⟩:=z
  cases h
  refine⟨.bool (decide (m≥n)),by simp[binOp,Op.intCmp],?_⟩;simp only[VR,ou,Value.bool.injEq];rw[ym];simp
theorem PR:∀(a b:List UInt8),(!(Op.bytesLess a b||a==b))=Op.bytesLess b a
 |[],[]=>rfl
 |[],_::_=>rfl
 |_::_,[]=>rfl
 |x::r,y::s=>by
  simp only[Op.bytesLess,List.cons_beq_cons];rw[←PR r s];rcases Vr x.toNat y.toNat with h|h|h
  ·have A:x<y:=UInt8.lt_iff_toNat_lt.2 h;have h2:¬y<x:=by rw[Iq];omega
   have z:x≠y:=fun e=>by subst e;omega
   have G:y≠x:=fun e=>z e.symm
   simp[A,h2,z,G]
  ·have h0:x=y:=UInt8.toNat_inj.1 h;subst h0;have h2:¬x<x:=by rw[Iq];omega
   simp[h2]
  have A:y<x:=UInt8.lt_iff_toNat_lt.2 h;have h2:¬x<y:=by rw[Iq];omega
  have z:x≠y:=fun e=>by subst e;omega
  have G:y≠x:=fun e=>z e.symm
  simp[A,h2,z,G]
theorem strBin_ok{op:BinOp}{s t:ByteArray}{u:aj}(ty:TypeId)(h:R7 op s.size (pack s.data.toList) t.size (pack t.data.toList)=some u):
  ∃cv,(binOp op ty (.string s) (.string t)).run P w= .ok cv w∧VR ρ u cv:=by
 have I:s.size=s.data.toList.length:=by rw[qP];rfl
 have L:t.size=t.data.toList.length:=by rw[qP];rfl
 have z:s.toList=s.data.toList:=ByteArray.toList_eq s;have A:t.toList=t.data.toList:=ByteArray.toList_eq t;unfold R7 at h
 cases op<;>simp only[reduceCtorEq] at h
 case add=>
  rw[th] at h
  split at h
  ·rename_i G;have G:=aX G
   cases h
   refine⟨.string (s++t),?_,?_⟩
   ·have M:¬(IntKind.i64.max<((s.size+t.size:Nat):Int)):=by
     have:IntKind.i64.max=9223372036854775807:=rfl;rw[this];have:s.size+t.size≤4611686018427387904:=G;omega
    simp only[binOp,Op.stringOp];rw[aZ (by simpa using M)];rfl
   simp only[VR];refine⟨s++t,rfl,by simp,?_⟩;have e:(s++t).data.toList=s.data.toList++t.data.toList:=by simp
   rw[e,←Za,I]
  cases h
 all_goals
  cases h
  rw[I,L];simp only[Ki,Zr]
 case eql=>exact⟨.bool (s.data.toList==t.data.toList),by simp[binOp,Op.stringOp,z,A],by simp only[VR,Value.bool.injEq];rw[ym];simp⟩
 case neq=>exact⟨.bool (!(s.data.toList==t.data.toList)),by simp[binOp,Op.stringOp,z,A],by simp only[VR,Value.bool.injEq];rw[ym];simp⟩
 case lss=>exact⟨.bool (Op.bytesLess s.data.toList t.data.toList),by simp[binOp,Op.stringOp,z,A],by simp only[VR]⟩
 case geq=>exact⟨.bool (!Op.bytesLess s.data.toList t.data.toList),by simp[binOp,Op.stringOp,z,A],by simp only[VR]⟩
 case gtr=>
  refine⟨.bool (!(Op.bytesLess s.data.toList t.data.toList||s.data.toList==t.data.toList)),by simp[binOp,Op.stringOp,z,A],?_⟩;simp only[VR,Value.bool.injEq];exact PR _ _
 case leq=>
  refine⟨.bool (Op.bytesLess s.data.toList t.data.toList||s.data.toList==t.data.toList),by simp[binOp,Op.stringOp,z,A],?_⟩;simp only[VR,Value.bool.injEq];have:=PR s.data.toList t.data.toList;rw[←this,Bool.not_not]
theorem ZW(O:AR P ρ nt E a)(U:R ρ C w){op:BinOp}{t t':TypeId}{x z:Operand}{Y Z:aG}(ho:o.op= .binOp op t x z t')(hx:cB P x=some Y)(hz:cB P z=some Z)
  (h:Ix op Y Z E H= .ok v H'):eF P o a w (cZ ρ C w H v H'):=by
 replace h:=eG h;obtain⟨u,hu,h⟩:=h;replace h:=eG h;obtain⟨u2,I,h⟩:=h;rw[KS] at h;replace h:=iO h;obtain⟨r,A,h⟩:=h;rw[wX] at h
 cases h
 have G:=O.bI hx hu;have h2:=O.bI hz I;unfold D9 at A
 split at A
 ·simp only[VR] at G h2;obtain⟨cv,L,M⟩:=intBin_ok (P:=P) (ρ:=ρ) (w:=w) t A;exact fM (by simp[execOp,ho,G,h2,run_eqGuard_int,L]) U M
 ·simp only[VR] at G h2;obtain⟨s1,e1,rfl,rfl⟩:=G;obtain⟨s2,e2,rfl,rfl⟩:=h2;obtain⟨cv,L,M⟩:=strBin_ok (P:=P) (ρ:=ρ) (w:=w) t A;exact fM (by simp[execOp,ho,e1,e2,run_eqGuard_str,L]) U M
 cases A
theorem un_sound(M:AR P ρ nt E a)(G:R ρ C w){op:UnOp}{t:TypeId}{x:Operand}{L:aG}(ho:o.op= .unOp op t x)(O:cB P x=some L)
  (h:Jy op L E H= .ok v H'):eF P o a w (cZ ρ C w H v H'):=by
 replace h:=eG h;obtain⟨u,U,h⟩:=h;replace h:=iO h;obtain⟨r,z,h⟩:=h;rw[wX] at h
 cases h
 have A:=M.bI O U;unfold O2 at z
 split at z
 ·rename_i k n;simp only[VR] at A
  cases z
  exact fM (cv:=.int k (IntKind.wrap k (0-n))) (by simp[execOp,ho,A,Op.unary,Op.intArith]) G (by simp only[VR,og])
 ·simp only[VR] at A;obtain⟨r',I,z⟩:=CR z
  cases z
  exact fM (by simp only[execOp,ho,A,Op.unary,Sem.run_bind,Fj I,Result.andThen_ok];rfl) G (by simp only[VR])
 ·simp only[VR] at A
  cases z
  exact fM (by simp[execOp,ho,A,Op.unary];rfl) G (by simp only[VR])
 cases z
theorem offs_sound(L:AR P ρ nt E a)(M:R ρ C w){s:TypeId}{x:Operand}{f:Nat}{I:aG}{fs:Array Field}{z:Field}{i:TypeInfo}(ho:o.op= .fieldAddr s x f)(O:cB P x=some I)
  (U:P.underlying s=some (.struct fs)) (Y:fs[f]?=some z) (hi:P.info? z.type=some i) (h0:i.size≠0) (h:Hl I z.offset E H= .ok v H'):eF P o a w (cZ ρ C w H v H'):=by
 replace h:=eG h;obtain⟨u,Z,h⟩:=h;replace h:=Fv h;obtain⟨f1,g1,o1,rfl,h⟩:=h;rw[fy] at h
 cases h
 have A:=L.bI O Z;simp only[VR] at A;obtain⟨G,hh,A⟩:=A;refine fM (cv:=.pointer (some ⟨G.bE,G.off+(o1+z.offset),none⟩)) ?_ M ?_
 ·simp[execOp,ho,A,Instr.fieldAt,run_underlying U,Y,Instr.sureAddr,fieldPlace,sizeOf,typeInfo,hi,h0,Addr.add_lit,kU]
 simp only[VR];exact⟨G,hh,rfl⟩
theorem extr_sound(L:AR P ρ nt E a)(M:R ρ C w){x:Operand}{i:Nat}{I:aG}(ho:o.op= .extract x i)(O:cB P x=some I)
  (h:Hq I i E H= .ok v H'):eF P o a w (cZ ρ C w H v H'):=by
 replace h:=eG h;obtain⟨u,U,h⟩:=h;replace h:=onTuple_ok h;obtain⟨l,rfl,h⟩:=h;replace h:=iO h;obtain⟨r,Y,h⟩:=h
 cases h
 have z:=L.bI O U;simp only[VR] at z;obtain⟨vs,z,A⟩:=z;obtain⟨y,Z,A⟩:=A.get i _ Y;have G:vs[i]?=some y:=by simpa using Z
 exact fM (by simp[execOp,ho,z,Instr.extract,G]) M A
theorem nilck_sound(I:AR P ρ nt E a)(A:R ρ C w){x:Operand}{G:aG}(ho:o.op= .nilCheck x)(L:cB P x=some G)
  (h:Gq G E H= .ok v H'):eF P o a w (cZ ρ C w H v H'):=by
 replace h:=eG h;obtain⟨u,M,h⟩:=h;replace h:=fN h;obtain⟨O,h⟩:=h
 cases h
 have z:=I.bI L M
 cases v<;>simp only[Cz,gU] at O
 ·have h2:=z;simp only[VR] at z;obtain⟨U,_,z⟩:=z;exact fM (by simp[execOp,ho,z];rfl) A (by rw[←z];exact h2)
 have h2:=z;simp only[VR] at z;obtain⟨_,vs,z,_⟩:=z;exact fM (by simp[execOp,ho,z];rfl) A (by rw[←z];exact h2)
theorem mkfn_sound(I:AR P ρ nt E a)(L:R ρ C w){f:Nat}{first eo:Array Operand}{z A:List aG}(ho:o.op= .makeFunc (.func f) first eo)(M:jX P first.toList=some z)(O:jX P eo.toList=some A)
  (h:Hr f z A E H= .ok v H'):eF P o a w (cZ ρ C w H v H'):=by
 replace h:=iO h;obtain⟨fs,G,h⟩:=h;replace h:=iO h;obtain⟨vs,U,h⟩:=h
 cases h
 have h0:=I.dc M G;have Y:=I.dc O U;refine fM (cv:=.func (.func f) (first.map a.eval) (eo.map a.eval)) (by simp[execOp,ho,Instr.makeFunc]) L ?_;simp only[VR];exact⟨_,_,rfl,by simpa using h0,by simpa using Y⟩
end
section
variable{P:Program}{ρ:Ho}{nt:Nat}{E:Env}{a:Act}{C:Nat→Option cV}{w:World}{H H':ax}{v:aj}{o:Oper}
theorem uM{t:TypeId}{n:Nat}(h:gR P t=some n):∃i d,P.info? t=some i∧P.underlying t=some d∧i.size=n∧n≠0:=by
 unfold gR at h
 split at h
 ·rename_i i d hi z
  split at h
  ·rename_i A
   cases h
   exact⟨i,d,hi,z,rfl,A⟩
  cases h
 cases h
theorem uI{t:TypeId}{n:Nat}(h:gR P t=some n)(w:World):(sizeOf t).run P w= .ok n w:=by
 obtain⟨i,d,hi,_,e,_⟩:=uM h;simp[sizeOf,typeInfo,hi,e]
theorem P1{t:TypeId}{n:Nat}(h:gR P t=some n)(w:World):(isAgg t).run P w= .ok (qp P t) w:=by
 obtain⟨i,d,_,z,_,_⟩:=uM h;unfold isAgg qp;rw[z]
 cases d<;>simp[run_underlying z]
theorem abC{t:TypeId}{n off e:Nat}{l:List aj}{cs:Array Value}(U:gR P t=some n)(Y:bO ρ l cs.toList)(A:l.all eM=true)(hle:off+n≤l.length)
  (h:fO (qp P t) ((l.drop off).take n) (.err e) (fun v=>.ok v H)= .ok v H'):H'=H∧∃cv,(part t cs off).run P w= .ok cv w∧VR ρ v cv:=by
 replace h:=Q7 h;have I:=uI U w;have z:=P1 U w;rcases h with⟨L,h⟩|⟨x,L,Z,h⟩
 ·cases h
  refine⟨rfl,.agg (cs.extract off (off+n)),?_,?_⟩
  ·rw[L] at z;simp[part,z,I]
  simp only[VR];refine⟨_,rfl,?_,?_⟩
  ·have e1:(cs.extract off (off+n)).toList=(cs.toList.drop off).take n:=by
    rw[Vt,aiw,show off+n-off=n by omega]
   rw[e1];exact(Y.drop off).take n
  rw[tQ] at A⊢;exact fun x M=>A x (D4 (D5 M))
 cases h
 have M:l[off]?=some v:=by
  have G:((l.drop off).take n)[0]?=some v:=by rw[Z];rfl
  rw[A'] at G
  split at G
  ·rw[Ip] at G;simpa using G
  cases G
 obtain⟨y,hy,k⟩:=Y.get off v M;have O:cs[off]?=some y:=by simpa using hy
 refine⟨rfl,y,?_,k⟩;rw[L] at z;simp[part,z,O]
theorem sub_sound(O:AR P ρ nt E a)(U:R ρ C w){s:TypeId}{x:Operand}{f n:Nat}{M:aG}{fs:Array Field}{z:Field}(ho:o.op= .field s x f)(Y:cB P x=some M)
  (Z:P.underlying s=some (.struct fs)) (hf:fs[f]?=some z) (hn:gR P z.type=some n) (h:Iy M z.offset n (qp P z.type) E H= .ok v H'):eF P o a w (cZ ρ C w H v H'):=by
 replace h:=eG h;obtain⟨u,hu,h⟩:=h;replace h:=aaH h;obtain⟨l,rfl,h⟩:=h;replace h:=fN h;obtain⟨A,h⟩:=h;rw[pe] at A;have A:=aX A;have G:=O.bI Y hu;simp only[VR] at G;obtain⟨vs,G,hv,I⟩:=G;obtain⟨rfl,cv,hc,L⟩:=abC (P:=P) (ρ:=ρ) (w:=w) hn hv I A h;exact fM (by simp[execOp,ho,G,Instr.field,run_underlying Z,hf,asAgg,hc]) U L
theorem idxArr_sound(L:AR P ρ nt E a)(U:R ρ C w){t e:TypeId}{x i:Operand}{M O:aG}{k n:Nat}(ho:o.op= .indexAddr t x i)(Y:cB P x=some M)(hi:cB P i=some O)
  (Z:P.underlying t=some (.array k e)) (hn:gR P e=some n) (h:FN k n M O E H= .ok v H'):eF P o a w (cZ ρ C w H v H'):=by
 replace h:=eG h;obtain⟨u,hu,h⟩:=h;replace h:=Fv h;obtain⟨f1,g1,o1,rfl,h⟩:=h;replace h:=eG h;obtain⟨u2,A,h⟩:=h;replace h:=Lr h;obtain⟨kd,j,rfl,hj,h⟩:=h;rw[fy] at h
 cases h
 have z:=L.bI Y hu;have h2:=L.bI hi A;simp only[VR] at z h2;obtain⟨G,hh,z⟩:=z;have I:(j:Int)<(k:Int):=by omega
 refine fM (cv:=.pointer (some ⟨G.bE,G.off+(o1+j*n),none⟩)) ?_ U ?_
 ·simp[execOp,ho,z,h2,Instr.indexAt,run_underlying Z,asIntOf,Instr.sureAddr,uI hn,Addr.add_lit,kU,I,hj]
 simp only[VR];exact⟨G,hh,rfl⟩
theorem idxSl_sound(L:AR P ρ nt E a)(Y:R ρ C w){t e:TypeId}{x i:Operand}{M O:aG}{n:Nat}(ho:o.op= .indexAddr t x i)(Z:cB P x=some M)(hi:cB P i=some O)
  (ht:P.underlying t=some (.slice e)) (hn:gR P e=some n) (h:Gn n M O E H= .ok v H'):eF P o a w (cZ ρ C w H v H'):=by
 replace h:=eG h;obtain⟨u,hu,h⟩:=h;replace h:=wT h;rcases h with⟨_,h⟩|⟨f1,g1,o1,l1,es,rfl,h⟩
 ·cases h
 replace h:=eG h;obtain⟨u2,A,h⟩:=h;replace h:=Lr h;obtain⟨kd,j,rfl,hj,h⟩:=h;rw[fy] at h
 cases h
 have z:=L.bI Z hu;have h2:=L.bI hi A;simp only[VR] at z h2;obtain⟨G,ad,cap,hh,z,JB,U⟩:=z;rcases U with⟨rfl,U⟩|⟨hz,_⟩
 ·have I:(j:Int)<(l1:Int):=by omega
  refine fM (cv:=.pointer (some ⟨G.bE,G.off+(o1+j*n),none⟩)) ?_ Y ?_
  ·simp[execOp,ho,z,h2,Instr.indexAt,run_underlying ht,asIntOf,Instr.sureAddr,uI hn,Addr.add_lit,kU,I,hj]
  simp only[VR];exact⟨G,hh,rfl⟩
 omega
theorem idxVal_sound(U:AR P ρ nt E a)(hR:R ρ C w){t e:TypeId}{x i:Operand}{Y Z:aG}{k n:Nat}(ho:o.op= .index t x i)(hx:cB P x=some Y)(hi:cB P i=some Z)
  (ht:P.underlying t=some (.array k e)) (hn:gR P e=some n) (h:FO k n (qp P e) Y Z E H= .ok v H'):eF P o a w (cZ ρ C w H v H'):=by
 replace h:=eG h;obtain⟨u,hu,h⟩:=h;replace h:=aaH h;obtain⟨l,rfl,h⟩:=h;replace h:=eG h;obtain⟨u2,G,h⟩:=h;replace h:=Lr h;obtain⟨kd,j,rfl,hj,h⟩:=h;replace h:=fN h;obtain⟨z,h⟩:=h;rw[pe] at z;have z:=aX z;have A:=U.bI hx hu;have h2:=U.bI hi G;simp only[VR] at A h2;obtain⟨vs,A,hv,I⟩:=A;have L:(j:Int)<(k:Int):=by omega
 obtain⟨rfl,cv,hc,M⟩:=abC (P:=P) (ρ:=ρ) (w:=w) hn hv I z h;have O:(part e vs (j*n)).run P w= .ok cv w:=hc;exact fM (by simp[execOp,ho,A,h2,Instr.index,asIntOf,run_underlying ht,uI hn,L,hj,O]) hR M
theorem idxStr_sound(I:AR P ρ nt E a)(O:R ρ C w){t:TypeId}{x i:Operand}{L M:aG}(ho:o.op= .index t x i)(U:cB P x=some L)(hi:cB P i=some M)
  (Y:P.underlying t=some .string) (h:FQ L M E H= .ok v H'):eF P o a w (cZ ρ C w H v H'):=by
 replace h:=eG h;obtain⟨u,Z,h⟩:=h;replace h:=Ky h;obtain⟨l,s,rfl,h⟩:=h;replace h:=eG h;obtain⟨u2,A,h⟩:=h;replace h:=Lr h;obtain⟨kd,j,rfl,hj,h⟩:=h;rw[fy] at h
 cases h
 have z:=I.bI U Z;have h2:=I.bI hi A;simp only[VR] at z h2;obtain⟨b,z,rfl,rfl⟩:=z;have nY:b.size=b.data.toList.length:=by rw[qP];rfl
 have G:j<b.data.toList.length:=by omega
 have hb:b[j]?=some (b.data.toList[j]):=by
  rw[getElem?_pos b j al];rfl
 refine fM (cv:=.int .u8 (Ac (pack b.data.toList) j)) ?_ O (by simp only[VR];rfl);rw[Y' _ _ G];have h3:(0:Int)≤(j:Int):=by omega
 simp only[execOp,ho,z,h2,Instr.index,asIntOf,Sem.run_bind,Sem.run_pure,Result.andThen_ok,run_underlying Y,bg h3,yo,hb]
end
section
variable{P:Program}{ρ:Ho}{nt:Nat}{E:Env}{a:Act}{C:Nat→Option cV}{w:World}{H H':ax}{v:aj}{o:Oper}
theorem Q8(M:AR P ρ nt E a){x:Option Operand}{I:Option aG}{d y n:Nat}{k:Nat→aC}(A:ot P x=some I)(h:en E I d y (.err n) k= .ok v H')(O:d≤y):
  ∃i:Nat,i≤y∧k i= .ok v H'∧((x=none∧i=d)∨∃z G,x=some z∧a.eval z= .int G i):=by
 replace h:=adW h;rcases h with⟨rfl,h⟩|⟨z,G,i,rfl,U,hi,h⟩
 ·refine⟨d,O,h,.inl ⟨?_,rfl⟩⟩
  cases x with
  |none=>rfl
  |some u=>simp only[ot] at A;split at A<;>cases A
 cases x with
 |none=>simp[ot] at A
 |some u=>
  simp only[ot] at A
  split at A
  ·rename_i Z Y
   cases A
   have L:=M.bI Y U;simp only[VR] at L;exact⟨i,hi,h,.inr ⟨u,G,rfl,L⟩⟩
  cases A
theorem uE{z:IntKind}{i y:Nat}(h:i≤y)(code:BoundsCode):(Instr.sliceBound (.int z i) y code).run P w= .ok i w:=by
 have A:(i:Int)≤(y:Int):=by omega
 simp[Instr.sliceBound,asIntOf,h]
theorem P6(hA:AR P ρ nt E a){lo hi:Option Operand}{A G:Option aG}{L y cap n:Nat}{k:Nat→Nat→aC}{O3:Bool}(M:ot P lo=some A)(O:ot P hi=some G)(U:L≤y)(hc:y≤cap)
  (h:(en E G L y (.err n) fun h=>en E A 0 h (.err n) fun l=>k h l)= .ok v H'):
  ∃l h:Nat,l≤h∧h≤y∧k h l= .ok v H'∧(Instr.sliceBounds O3 L cap (lo.map a.eval) (hi.map a.eval) none).run P w= .ok (l,h,cap) w:=by
 obtain⟨hh,h1,h,hx⟩:=Q8 hA O h U;obtain⟨l,h2,h,hy⟩:=Q8 hA M h (hZ _);refine⟨l,hh,h2,h1,h,?_⟩;rcases hx with⟨rfl,rfl⟩|⟨z,kd,rfl,e⟩
 ·rcases hy with⟨rfl,rfl⟩|⟨z2,Y,rfl,Z⟩
  ·simp[Instr.sliceBounds]
  simp[Instr.sliceBounds,Z,uE h2]
 have I:hh≤cap:=by omega
 rcases hy with⟨rfl,rfl⟩|⟨z2,Y,rfl,Z⟩
 ·simp[Instr.sliceBounds,e,uE I]
 simp[Instr.sliceBounds,e,Z,uE I,uE h2]
theorem slStr_sound(O:AR P ρ nt E a)(hR:R ρ C w){t:TypeId}{x:Operand}{U:aG}{lo hi:Option Operand}{z A:Option aG}(ho:o.op= .slice t x lo hi none)(hx:cB P x=some U)
  (L:ot P lo=some z) (M:ot P hi=some A) (ht:P.underlying t=some .string) (h:Gp U z A E H= .ok v H'):eF P o a w (cZ ρ C w H v H'):=by
 replace h:=eG h;obtain⟨u,hu,h⟩:=h;replace h:=Ky h;obtain⟨l,s,rfl,h⟩:=h;have I:=O.bI hx hu;simp only[VR] at I;obtain⟨b,I,rfl,rfl⟩:=I;obtain⟨l,Y,hle,Z,h,G⟩:=P6 (w:=w) (O3:=false) O L M (bf _) (bf _) h;rw[fy,fy] at h
 cases h
 have nY:b.size=b.data.toList.length:=by rw[qP];rfl
 refine fM (cv:=.string (b.extract l Y)) ?_ hR ?_
 ·simp[execOp,ho,I,Instr.sliceAt,Instr.slice,run_underlying ht,G]
 simp only[VR];refine⟨_,rfl,?_,?_⟩
 ·rw[ByteArray.size_extract];show Y-l=_;omega
 rw[strSub_pack];congr 1;rw[ByteArray.data_extract,Vt,aiw]
theorem slSl_sound(hA:AR P ρ nt E a)(hR:R ρ C w){t e:TypeId}{x:Operand}{x':aG}{n:Nat}{lo hi:Option Operand}{O U:Option aG}(ho:o.op= .slice t x lo hi none)(hx:cB P x=some x')
  (Y:ot P lo=some O) (Z:ot P hi=some U) (ht:P.underlying t=some (.slice e)) (hn:gR P e=some n) (h:Hp n x' O U E H= .ok v H'):eF P o a w (cZ ρ C w H v H'):=by
 replace h:=eG h;obtain⟨u,hu,h⟩:=h;replace h:=wT h;have I:=hA.bI hx hu;rcases h with⟨rfl,h⟩|⟨f1,g1,o1,l1,es,rfl,h⟩
 ·simp only[VR] at I;obtain⟨l,L,hle,z,h,A⟩:=P6 (w:=w) (O3:=true) hA Y Z (bf _) (bf _) h
  cases h
  have:l=0:=by omega
  subst this;have:L=0:=by omega
  subst this;refine fM (cv:=.slice none 0 0) ?_ hR (by simp only[VR]);simp[execOp,ho,I,Instr.sliceAt,Instr.slice,run_underlying ht,A,uI hn]
 replace h:=fN h;obtain⟨hb,h⟩:=h;have:=cU hb;subst this;simp only[VR] at I;obtain⟨hm,ad,cap,JC,I,G,M⟩:=I;obtain⟨l,L,hle,z,h,A⟩:=P6 (w:=w) (O3:=true) hA Y Z KO (abA G.1 G.2) h;have z:L≤cap:=eO z (abA G.1 G.2);have VL:l*n+(cap-l)*n=cap*n:=by rw[←kW];congr 1;omega
 rw[fy,fy] at h
 cases h
 have uj:=(uM hn);obtain⟨_,_,_,_,_,uj⟩:=uj;refine fM (cv:=.slice (some (if cap=l then ad else ad.add (l*n))) (L-l) (cap-l)) ?_ hR ?_
 ·simp only[execOp,ho,I,Instr.sliceAt,Instr.slice,Sem.run_bind,run_underlying ht,Result.andThen_ok,A,uI hn,Option.map_none,Sem.run_pure,sf]
  by_cases hc:cap=l<;>simp[hc]
 simp only[VR];refine⟨hm,_,_,JC,rfl,⟨by show L-l≤cap-l;omega,by show g1*n≤o1+l*n+(cap-l)*n;rw[kU,VL];exact G.2⟩,?_⟩;show IE hm (if cap=l then ad else ad.add (l*n)) (L-l) (cap-l) (o1+l*n) n;unfold IE at M⊢;rcases M with⟨rfl,M⟩|⟨hz,hc0,ho0⟩
 ·by_cases hc:cap=l
  ·rw[bg hc]
   by_cases lI:l=0
   ·left;subst lI;refine⟨by simp,?_⟩;rw[hc] at M⊢;simpa using M
   right;refine⟨al,al,?_⟩;have:0<l*n:=Nat.mul_pos al al;omega
  rw[aZ hc];left;refine⟨by simp[Addr.add_lit,kU],?_⟩;rw[kU,←kW,show l+(cap-l)=cap by omega];exact M
 right;refine⟨al,al,al⟩
theorem aaK(L:AR P ρ nt E a){x:Operand}{G:aG}{d y n:Nat}{k:Nat→aC}(M:cB P x=some G)(h:en E (some G) d y (.err n) k= .ok v H'):
  ∃i:Nat,i≤y∧k i= .ok v H'∧∃A,a.eval x= .int A i:=by
 rcases adW h with⟨e,_⟩|⟨z,A,i,e,O,hi,h⟩
 ·cases e
 cases e
 have I:=L.bI M O;simp only[VR] at I;exact⟨i,hi,h,A,I⟩
theorem sl3_sound(hA:AR P ρ nt E a)(hR:R ρ C w){t e:TypeId}{x:Operand}{x':aG}{n:Nat}{lo:Option Operand}{A:Option aG}{hi mx:Operand}{G I:aG}(ho:o.op= .slice t x lo (some hi) (some mx))(hx:cB P x=some x')
  (EL:ot P lo=some A) (BV:cB P hi=some G) (Xq:cB P mx=some I) (ht:P.underlying t=some (.slice e)) (hn:gR P e=some n) (h:Iz n x' A G I E H= .ok v H'):eF P o a w (cZ ρ C w H v H'):=by
 replace h:=eG h;obtain⟨u,hu,h⟩:=h;replace h:=wT h;have h1:=hA.bI hx hu;rcases h with⟨rfl,h⟩|⟨f1,g1,o1,l1,es,rfl,h⟩
 ·cases h
 replace h:=fN h;obtain⟨hb,h⟩:=h;have:=cU hb;subst this;simp only[VR] at h1;obtain⟨hm,ad,cap,JC,h1,L,hs⟩:=h1;obtain⟨m,re,h,km,em⟩:=aaK hA Xq h;replace h:=fN h;obtain⟨z,h⟩:=h;have z:=aX z;have L:=L.1;obtain⟨hh,M,h,kh,eh⟩:=aaK hA BV h;obtain⟨l,EM,h,hy⟩:=Q8 hA EL h (hZ _);have O:(Instr.sliceBounds true l1 cap (lo.map a.eval) (some (a.eval hi)) (some (a.eval mx))).run P w= .ok (l,hh,m) w:=by
  have U:m≤cap:=by omega
  rcases hy with⟨rfl,rfl⟩|⟨z2,kd2,rfl,e2⟩
  ·simp[Instr.sliceBounds,em,eh,uE U,uE M]
  simp[Instr.sliceBounds,em,eh,e2,uE U,uE M,uE EM]
 rw[fy,fy] at h
 cases h
 have Y:=(uM hn);obtain⟨_,_,_,_,_,Y⟩:=Y;refine fM (cv:=.slice (some (if m=l then ad else ad.add (l*n))) (hh-l) (m-l)) ?_ hR ?_
 ·simp only[execOp,ho,h1,Instr.sliceAt,Instr.slice,Sem.run_bind,run_underlying ht,Result.andThen_ok,sf,O,uI hn,Sem.run_pure]
  by_cases Z:m=l<;>simp[Z]
 simp only[VR];have VL:l*n+(m-l)*n=m*n:=by rw[←kW];congr 1;omega
 refine⟨hm,_,_,JC,rfl,⟨by show hh-l≤m-l;omega,by show g1*n≤o1+l*n+(m-l)*n;rw[kU,VL];exact z⟩,?_⟩;show IE hm (if m=l then ad else ad.add (l*n)) (hh-l) (m-l) (o1+l*n) n;unfold IE at hs⊢;rcases hs with⟨rfl,hs⟩|⟨hz,hc0,ho0⟩
 ·have hmc:m*n≤cap*n:=iS _ al
  by_cases Z:m=l
  ·rw[bg Z]
   by_cases lI:l=0
   ·left;subst lI;refine⟨by simp,?_⟩;subst Z;simp only[qQ,tR,Ir];omega
   right;refine⟨al,al,?_⟩;have:0<l*n:=Nat.mul_pos al al;omega
  rw[aZ Z];left;refine⟨by simp[Addr.add_lit,kU],?_⟩;rw[kU,←kW,show l+(m-l)=m by omega];omega
 right;refine⟨al,al,al⟩
theorem lenS_sound(L:AR P ρ nt E a)(M:R ρ C w){c:Call}{x:Operand}{I:aG}{t:TypeId}(ho:o.op= .call c)(O:c.callee= .builtin .len)(U:c.args=#[x])(A:cB P x=some I)
  (Y:c.argTypes[0]?=some t) (Z:P.underlying t=some .string) (h:Hu I E H= .ok v H'):eF P o a w (cZ ρ C w H v H'):=by
 replace h:=eG h;obtain⟨u,G,h⟩:=h;have z:=L.bI A G;replace h:=Ky h;obtain⟨l,s,rfl,h⟩:=h
 cases h
 simp only[VR] at z;obtain⟨b,z,rfl,rfl⟩:=z;exact fM (cv:=.int .i64 b.size) (by simp[execOp,ho,resolve,O,U,invoke,builtin,Builtin.len_,Y,run_underlying Z,goInt,z]) M (by simp only[VR];rfl)
theorem len_sound(Z:AR P ρ nt E a)(I:R ρ C w){c:Call}{x:Operand}{L:aG}{t e:TypeId}(ho:o.op= .call c)(M:c.callee= .builtin .len)(O:c.args=#[x])(A:cB P x=some L)
  (U:c.argTypes[0]?=some t) (Y:P.underlying t=some (.slice e)) (h:IA L E H= .ok v H'):eF P o a w (cZ ρ C w H v H'):=by
 replace h:=eG h;obtain⟨u,G,h⟩:=h;have z:=Z.bI A G;replace h:=wT h;rcases h with⟨rfl,h⟩|⟨f,g,o1,l,es,rfl,h⟩
 ·cases h
  simp only[VR] at z;exact fM (cv:=.int .i64 0) (by simp[execOp,ho,resolve,M,O,invoke,builtin,Builtin.len_,U,run_underlying Y,goInt,z]) I (by simp only[VR];rfl)
 cases h
 simp only[VR] at z;obtain⟨hm,ad,cap,JC,z,JB,hs⟩:=z;exact fM (cv:=.int .i64 l) (by simp[execOp,ho,resolve,M,O,invoke,builtin,Builtin.len_,U,run_underlying Y,goInt,z]) I (by simp only[VR];rfl)
theorem conv_sound(G:AR P ρ nt E a)(I:R ρ C w){src dst:TypeId}{k L:IntKind}{x:Operand}{z:aG}(ho:o.op= .convert src dst x)(M:cB P x=some z)(O:P.underlying src=some (.int L))(U:P.underlying dst=some (.int k))
  (h:Hw k z E H= .ok v H'):eF P o a w (cZ ρ C w H v H'):=by
 replace h:=eG h;obtain⟨u,Y,h⟩:=h;replace h:=Ct h;obtain⟨Z,n,rfl,h⟩:=h;rw[wW] at h
 cases h
 have A:=G.bI M Y;simp only[VR] at A;exact fM (cv:=.int k (k.wrap n)) (by simp[execOp,ho,A,convert,run_underlying O,run_underlying U,Conv.intToInt]) I (by simp only[VR,og])
end
section
variable{P:Program}{ρ:Ho}{nt:Nat}{E:Env}{a:Act}{C:Nat→Option cV}{w:World}{H H':ax}{v:aj}{o:Oper}
theorem Ch(b:Nat):∀(vs:List Value)(o:Nat)(w:World),
  (w.setCells b o vs).heap.size=w.heap.size∧(∀k,k≠b→(w.setCells b o vs).heap[k]?=w.heap[k]?)∧
  (∀c e fz,w.heap[b]?=some (.cells c e fz)→∃z,(w.setCells b o vs).heap[b]?=some (.cells z e fz)∧z.size=c.size)∧
  (w.setCells b o vs).os=w.os∧(w.setCells b o vs).tape=w.tape∧(w.setCells b o vs).output=w.output
 |[],_,_=>⟨rfl,fun _ _=>rfl,fun c e fz h=>⟨c,h,rfl⟩,rfl,rfl,rfl⟩
 |v::r,o,w=>by
  obtain⟨I,h2,L,M,O,U⟩:=Ch b r (o+1) (w.setCell ⟨b,o,none⟩ v);simp only[World.setCells];refine⟨I.trans (by simp[World.setCell]),fun k G=>(h2 k G).trans ?_,fun c e fz h=>?_,M,O,U⟩
  ·simp only[World.setCell,aix];rw[aZ (fun e=>G e.symm)]
  obtain⟨z,A,Y⟩:=L (c.setIfInBounds o v) e fz (by simp[World.setCell,aix,h]);exact⟨z,A,by simpa using Y⟩
def Ho.add(ρ:Ho)(f g:Nat)(h:Hm):Ho:=fun f' g'=>if f'=f∧g'=g then some h else ρ f' g'
theorem Ho.add_same(ρ:Ho)(f g:Nat)(h:Hm):ρ.add f g h f g=some h:=by simp[Ho.add]
theorem Ho.adY{ρ:Ho}{f g:Nat}{h:Hm}(A:∀x,ρ f g=some x→x=h):ρ.le (ρ.add f g h):=by
 intro f' g' x z;unfold Ho.add
 split
 ·rename_i e;obtain⟨rfl,rfl⟩:=e;rw[A x z]
 exact z
theorem Ho.jl{ρ:Ho}{f g f' g':Nat}{h x:Hm}(e:ρ.add f g h f' g'=some x):(f'=f∧g'=g∧x=h)∨ρ f' g'=some x:=by
 unfold Ho.add at e
 split at e
 ·rename_i k;cases e;exact .inl ⟨k.1,k.2,rfl⟩
 exact .inr e
theorem R.heap{w':World}(z:R ρ C w)(h:w'.heap=w.heap):R ρ C w':=
 ⟨fun f o e g x A=>(z.obj f o e g x A).gJ (Ho.le_refl _) (by rw[h]),z.oQ,fun f g x A=>by rw[h];exact z.gY f g x A,z.uniq,fun f g x A a b=>(z.bP f g x A a b).gJ (cell_of_heap (w:=w) (by rw[h]))⟩
theorem R.allocF(fl:Nat)(fz:Nat×Nat)(O:R ρ C w){f elem es aD n:Nat}{cs:RT}{cells:Array Value}(W:Nat→Prop)(A:∀g,ρ f g=none)(he:0<es)(nY:n*es≤cells.size)
  (EN:∀i,i<n→∃l,cs.get i=some l∧l.length=es∧∀j x,l[j]?=some x→eM x=true∧∃cv,cells[i*es+j]?=some cv∧VR ρ x cv) {w':World}
  (Z:w'.heap=w.heap.push (.cells cells elem fz)) (BW:∀i,i<cells.size→¬(fz.1≤i∧i<fz.2)) (hfz2:fl=0∨fl=2→fz.1=fz.2) (h1:w'.os=w.os) (h2:w'.tape=w.tape) (h3:w'.output=w.output):
  ∃ρ',ρ' f n=some ⟨w.heap.size,0,cells.size,false,false⟩∧Ext W f (f+1) ρ ρ' w w'∧R ρ' (fun x=>if x=f then some (.row elem es aD n n fl cs) else C x) w':=by
 have hle:ρ.le (ρ.add f n ⟨w.heap.size,0,cells.size,false,false⟩):=Ho.adY fun x z=>by rw[A] at z;cases z
 have hold:∀b,b<w.heap.size→w'.heap[b]?=w.heap[b]?:=fun b M=>by rw[Z,Vu,aZ al]
 have G:w'.heap[w.heap.size]?=some (.cells cells elem fz):=by rw[Z];simp
 refine⟨_,Ho.add_same _ _ _ _,⟨hle,?_,?_,fun b M _=>hold b M,by rw[Z];simp,Ba _,h1,h2,h3⟩,⟨?_,?_,?_,?_,?_⟩⟩
 ·intro f' g' x z;rcases Ho.jl z with⟨rfl,_,_⟩|z
  ·exact .inr ⟨bf _,yX _⟩
  exact .inl ⟨g',x,z⟩
 ·intro f' g' x z;rcases Ho.jl z with⟨rfl,_,rfl⟩|z
  ·exact .inr (.inl ⟨bf _,rfl⟩)
  exact .inl z
 ·intro f' o hf g x z;have U:(if f'=f then some (cV.row elem es aD n n fl cs) else C f')=some o:=hf;clear hf
  by_cases e:f'=f
  ·rw[bg e] at U;subst e
   cases U
   rcases Ho.jl z with⟨_,rfl,rfl⟩|z
   ·refine⟨he,fun h=>(by cases h),bf _,fun _ _=>⟨⟨cells,fz,G,by simp⟩,nY,fun i hi=>?_,fun _ i hi=>?_,fun _ i _ hi=>?_,fun _=>rfl,fun e c t fz' hc=>by rw[G] at hc;cases hc;exact .inl (hfz2 e)⟩⟩
    ·obtain⟨l,a1,a2,a3⟩:=EN i hi;refine⟨l,a1,a2,fun j y hy=>?_⟩;obtain⟨b1,cv,b2,b3⟩:=a3 j y hy;refine⟨b1,cv,?_,b3.mono hle⟩;simp only[World.cell?,G];simpa using b2
    ·simp only[World.frozen?,G];have:=BW i (by simpa using‹_›);simp at this⊢;omega
    simp only[World.frozen?,G];have:=BW i (by simpa using‹_›);simp at this⊢;omega
   rw[A] at z;cases z
  rw[aZ e] at U;rcases Ho.jl z with⟨e',_,_⟩|z
  ·exact absurd e' e
  exact(O.obj f' o U g x z).gJ hle (hold _ (O.gY _ _ _ z))
 ·intro f1 g1 x1 f2 g2 x2 L I fP M;have c1:=Ho.jl L;have c2:=Ho.jl I;clear L I;rcases c1 with⟨e,_,rfl⟩|L<;>rcases c2 with⟨e',_,rfl⟩|I
  ·exact absurd (e.trans e'.symm) fP
  ·have:=O.gY _ _ _ I;have M:w.heap.size=x2.bE:=M;omega
  ·have:=O.gY _ _ _ L;have M:x1.bE=w.heap.size:=M;omega
  exact O.oQ _ _ _ _ _ _ L I fP M
 ·intro f' g' x z;rw[Z,Array.size_push];rcases Ho.jl z with⟨_,_,rfl⟩|z
  ·simp
  have:=O.gY _ _ _ z;omega
 ·intro f' g1 x1 g2 x2 L I M;have c1:=Ho.jl L;have c2:=Ho.jl I;clear L I;rcases c1 with⟨rfl,_,rfl⟩|L<;>rcases c2 with⟨e',_,rfl⟩|I
  ·rfl
  ·rw[A] at I;cases I
  ·subst e';rw[A] at L;cases L
  exact O.uniq _ _ _ _ _ L I M
 intro f' g' x z oV Xr;rcases Ho.jl z with⟨_,_,rfl⟩|Y
 ·cases oV
 have k:=O.bP _ _ _ Y oV Xr;refine EK.gJ ⟨fun g2 x2 I=>?_,k.2⟩ (cell_of_heap (w:=w) ?_)
 ·rcases Ho.jl I with⟨rfl,_,_⟩|I
  ·rw[A] at Y;cases Y
  exact k.1 _ _ I
 have:=O.gY _ _ _ Y;show w'.heap[x.bE]?=_;rw[Z,Vu,aZ al]
theorem R.alloc(I:R ρ C w){f elem es aD n:Nat}{cs:RT}{cells:Array Value}(W:Nat→Prop)(z:∀g,ρ f g=none)(L:0<es)(A:n*es≤cells.size)
  (G:∀i,i<n→∃l,cs.get i=some l∧l.length=es∧∀j x,l[j]?=some x→eM x=true∧∃cv,cells[i*es+j]?=some cv∧VR ρ x cv) {w':World}
  (M:w'.heap=w.heap.push (.cells cells elem)) (O:w'.os=w.os) (h2:w'.tape=w.tape) (U:w'.output=w.output):
  ∃ρ',ρ' f n=some ⟨w.heap.size,0,cells.size,false,false⟩∧Ext W f (f+1) ρ ρ' w w'∧R ρ' (fun x=>if x=f then some (.row elem es aD n n 0 cs) else C x) w':=by
 exact I.allocF 0 (0,0) W z L A G M (fun i _ h=>by simp at h) (fun _=>rfl) O h2 U
theorem Qg(C:Nat→Option cV)(H:ax)(o:cV):eg C H ⟨H.next+1,H.aR,H.ws,H.t.set H.next o⟩=fun x=>if x=H.next then some o else C x:=by
 funext x
 unfold eg;simp only[GT.da]
 by_cases h:x=H.next
 ·subst h;simp
 have h2:¬(H.next≤x∧x<H.next+1):=by omega
 have z:(H.t.set H.next o).get x=H.t.get x:=by rw[GT.da,aZ h]
 simp[h2,h,z]
theorem R.rd(hR:R ρ C w){f g off n:Nat}{l:List aj}(hr:VJ H f g off n l)(hC:C f=H.t.get f){h:Hm}(hh:ρ f g=some h)(hn:0<n):
  l.length=n∧l.all eM=true∧∀j x,l[j]?=some x→∃cv,w.cell? ⟨h.bE,h.off+off+j,none⟩=some cv∧VR ρ x cv:=by
 obtain⟨elem,es,aD,m,lo,fl,cs,x,hg,h1,h2,h3,h4,hx,Z⟩:=hr;have L:=hR.obj f _ (hC.trans hg) g h hh;obtain⟨he,oV,_,A⟩:=L;have A:=A h1 h2;obtain⟨y,hy,M,O⟩:=A.cell _ h4;have U:y=x:=by
  have:some y=some x:=hy.symm.trans hx
  cases this
  rfl
 subst U;have hoff:off/es*es+off % es=off:=by rw[qM];exact Nm off es
 have hlen:l.length=n:=by
  rcases Z with⟨rfl,rfl⟩|rfl
  ·exact M
  simp[M];omega
 have I:∀j z,l[j]?=some z→y[off % es+j]?=some z:=by
  intro j z G;rcases Z with⟨rfl,rfl⟩|rfl
  ·have:off % n=0:=by omega
   rw[this,fh];exact G
  rw[A'] at G
  split at G
  ·rwa [Ip] at G
  cases G
 refine⟨hlen,?_,fun j z G=>?_⟩
 ·rw[tQ];intro z G;obtain⟨j,hj⟩:=Vv G;exact(O _ z (I j z hj)).1
 obtain⟨_,cv,Y,hv⟩:=O _ z (I j z G);refine⟨cv,?_,hv⟩;rw[show h.off+off+j=h.off+off/es*es+(off % es+j) by omega];exact Y
end
end Go.Ev
