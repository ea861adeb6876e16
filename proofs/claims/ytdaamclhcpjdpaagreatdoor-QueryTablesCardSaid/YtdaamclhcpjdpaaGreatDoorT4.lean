/- Part 4 of rules for walks through the code of a program, and of such walks; what each part proves is said by its theorems. -/
import Derived.Test.YtdaamclhcpjdpaaGreatDoorT3
import Derived.Laws.Strings
set_option linter.unusedVariables false
set_option linter.unusedSimpArgs false
noncomputable section
set_option maxRecDepth 100000
set_option maxHeartbeats 4000000
namespace Go.Ev
section
variable{P:Program}{ρ:Ho}{nt:Nat}{E:Env}{a:Act}{C:Nat→Option cV}{w:World}{H H':ay}{v:ak}{o:Oper}
theorem eX{cv:Value}(h:(execOp a.eval o).run P w= .ok (.value cv) w)(z:R ρ C w)(A:VR ρ v cv):en P o a w (cQ ρ C w H v H):=
 .inl ⟨cv,w,h,cQ.pure z A⟩
theorem Zt(z:AR P ρ nt E a)(A:R ρ C w){x:Operand}{y:aI}(ho:o.op= .move x∨o.op= .assign x)(G:ct P x=some y)
  (h:kU y E H= .ok v H'):en P o a w (cQ ρ C w H v H'):=by
 replace h:=eg h;obtain⟨u,I,h⟩:=h
 cases h
 exact eX (by rcases ho with ho|ho<;>simp[execOp,ho]) A (z.bG G I)
theorem pick_sound(I:AR P ρ nt E a)(O:R ρ C w){c x z:Operand}{U L M:aI}(ho:o.op= .pick c x z)(Y:ct P c=some U)(Z:ct P x=some L)(hz:ct P z=some M)
  (h:HH U L M E H= .ok v H'):en P o a w (cQ ρ C w H v H'):=by
 replace h:=eg h;obtain⟨u,hu,h⟩:=h;replace h:=onBool_ok h;obtain⟨b,rfl,h⟩:=h;have A:=I.bG Y hu;simp only[VR] at A
 cases b with
 |true=>
  obtain⟨u2,G,h⟩:=eg (show bo L E (.err 1) (fun v=>.ok v H)= .ok v H' from h)
  cases h
  exact eX (by simp[execOp,ho,A,asBool]) O (I.bG Z G)
 |false=>
  obtain⟨u2,G,h⟩:=eg (show bo M E (.err 1) (fun v=>.ok v H)= .ok v H' from h)
  cases h
  exact eX (by simp[execOp,ho,A,asBool]) O (I.bG hz G)
theorem run_eqGuard_int(op:BinOp)(t:TypeId)(x y:Operand)(k z:IntKind)(m n:Int):(eqGuard op t x y (.int k m) (.int z n)).run P w= .ok () w:=by
 unfold eqGuard
 cases op<;>simp
theorem run_eqGuard_str(op:BinOp)(t:TypeId)(x y:Operand)(k z:ByteArray):(eqGuard op t x y (.string k) (.string z)).run P w= .ok () w:=by
 unfold eqGuard
 cases op<;>simp
theorem FG{op:BinOp}{k:IntKind}{m n r:Int}(h:intBits op k m n=some r):(Op.intBits op k m n).run P w= .ok (.int k r) w:=by
 unfold intBits at h;unfold Op.intBits
 cases op<;>simp_all
theorem mM{k z:IntKind}{r:Option ak}{u:ak}(h:aD (Nat.beq (cG k) (cG z)) r none=some u):k=z∧r=some u:=by
 rw[sT] at h
 split at h
 ·rename_i A;exact⟨K4 A,h⟩
 cases h
theorem LM{b:Bool}{r:Option ak}{u:ak}(h:aD b none r=some u):b=false∧r=some u:=by
 cases b
 ·exact⟨rfl,h⟩
 cases h
theorem Dm{α β:Type}{x:Option α}{k:α→Option β}{u:β}(h:ob x none k=some u):∃y,x=some y∧k y=some u:=by
 cases x with
 |none=>cases h
 |some y=>exact⟨y,rfl,h⟩
theorem intBin_ok{op:BinOp}{k I:IntKind}{m n:Int}{u:ak}(t:TypeId)(h:ga op k m I n=some u):
  ∃cv,(binOp op t (.int k m) (.int I n)).run P w= .ok cv w∧VR ρ u cv:=by
 cases op with
 |shl=>
  simp only[ga] at h;obtain⟨A,h⟩:=LM h;rw[nK,im] at A
  cases h
  refine⟨.int k (k.wrap (m*2^(min n.toNat k.bits))),?_,by simp only[VR,nD]⟩;simp only[binOp,Op.shift,aZ A];rfl
 |shr=>
  simp only[ga] at h;obtain⟨A,h⟩:=LM h;rw[nK,im] at A
  cases h
  refine⟨.int k (m.fdiv (2^(min n.toNat k.bits))),?_,by simp only[VR]⟩;simp only[binOp,Op.shift,aZ A];rfl
 |quo=>
  simp only[ga] at h;have z:=mM h;clear h;obtain⟨rfl,h⟩:=z;obtain⟨A,h⟩:=LM h;rw[rl,im] at A
  cases h
  exact⟨.int k (k.wrap (m.tdiv n)),by simp[binOp,Op.intDiv,A],by simp only[VR,nD]⟩
 |rem=>
  simp only[ga] at h;have z:=mM h;clear h;obtain⟨rfl,h⟩:=z;obtain⟨A,h⟩:=LM h;rw[rl,im] at A
  cases h
  exact⟨.int k (m.tmod n),by simp[binOp,Op.intDiv,A],by simp only[VR]⟩
 |and=>
  simp only[ga] at h;have z:=mM h;clear h;obtain⟨rfl,h⟩:=z;obtain⟨r,G,h⟩:=Dm h
  cases h
  exact⟨_,by simp only[binOp,ne_eq,not_true_eq_false,if_false];exact FG G,by simp only[VR]⟩
 |or=>
  simp only[ga] at h;have z:=mM h;clear h;obtain⟨rfl,h⟩:=z;obtain⟨r,G,h⟩:=Dm h
  cases h
  exact⟨_,by simp only[binOp,ne_eq,not_true_eq_false,if_false];exact FG G,by simp only[VR]⟩
 |xor=>
  simp only[ga] at h;have z:=mM h;clear h;obtain⟨rfl,h⟩:=z;obtain⟨r,G,h⟩:=Dm h
  cases h
  exact⟨_,by simp only[binOp,ne_eq,not_true_eq_false,if_false];exact FG G,by simp only[VR]⟩
 |andNot=>
  simp only[ga] at h;have z:=mM h;clear h;obtain⟨rfl,h⟩:=z;obtain⟨r,G,h⟩:=Dm h
  cases h
  exact⟨_,by simp only[binOp,ne_eq,not_true_eq_false,if_false];exact FG G,by simp only[VR]⟩
 |add=>
  simp only[ga] at h;have z:=mM h;clear h;obtain⟨rfl,h⟩:=z
  cases h
  exact⟨.int k (k.wrap (m+n)),by simp[binOp,Op.intArith],by simp only[VR,nD]⟩
 |sub=>
  simp only[ga] at h;have z:=mM h;clear h;obtain⟨rfl,h⟩:=z
  cases h
  exact⟨.int k (k.wrap (m-n)),by simp[binOp,Op.intArith],by simp only[VR,nD]⟩
 |mul=>
  simp only[ga] at h;have z:=mM h;clear h;obtain⟨rfl,h⟩:=z
  cases h
  exact⟨.int k (k.wrap (m*n)),by simp[binOp,Op.intArith],by simp only[VR,nD]⟩
 |eql=>
  simp only[ga] at h;have z:=mM h;clear h;obtain⟨rfl,h⟩:=z
  cases h
  exact⟨.bool (m==n),by simp[binOp,Op.intCmp],by simp only[VR,rl];rfl⟩
 |neq=>
  simp only[ga] at h;have z:=mM h;clear h;obtain⟨rfl,h⟩:=z
  cases h
  exact⟨.bool (m !=n),by simp[binOp,Op.intCmp],by simp only[VR,rl];rfl⟩
 |lss=>
  simp only[ga] at h;have z:=mM h;clear h;obtain⟨rfl,h⟩:=z
  cases h
  exact⟨.bool (decide (m<n)),by simp[binOp,Op.intCmp],by simp only[VR,nK]⟩
 |gtr=>
  simp only[ga] at h;have z:=mM h;clear h;obtain⟨rfl,h⟩:=z
  cases h
  exact⟨.bool (decide (m>n)),by simp[binOp,Op.intCmp],by simp only[VR,nK]⟩
 |leq=>
  simp only[ga] at h;have z:=mM h;clear h;obtain⟨rfl,h⟩:=z
  cases h
  refine⟨.bool (decide (m≤n)),by simp[binOp,Op.intCmp],?_⟩;simp only[VR,nK,Value.bool.injEq];rw[yy];simp
 |geq=>
  simp only[ga] at h;have z:=mM h;clear h;obtain⟨rfl,h⟩:=z
  cases h
  refine⟨.bool (decide (m≥n)),by simp[binOp,Op.intCmp],?_⟩;simp only[VR,nK,Value.bool.injEq];rw[yy];simp
theorem PD:∀(a b:List UInt8),(!(Op.bytesLess a b||a==b))=Op.bytesLess b a
 |[],[]=>rfl
 |[],_::_=>rfl
 |_::_,[]=>rfl
 |x::r,y::s=>by
  simp only[Op.bytesLess,List.cons_beq_cons];rw[←PD r s];rcases Vk x.toNat y.toNat with h|h|h
  ·have A:x<y:=UInt8.lt_iff_toNat_lt.2 h;have h2:¬y<x:=by rw[IK];omega
   have z:x≠y:=fun e=>by subst e;omega
   have G:y≠x:=fun e=>z e.symm
   simp[A,h2,z,G]
  ·have h0:x=y:=UInt8.toNat_inj.1 h;subst h0;have h2:¬x<x:=by rw[IK];omega
   simp[h2]
  have A:y<x:=UInt8.lt_iff_toNat_lt.2 h;have h2:¬x<y:=by rw[IK];omega
  have z:x≠y:=fun e=>by subst e;omega
  have G:y≠x:=fun e=>z e.symm
  simp[A,h2,z,G]
theorem strBin_ok{op:BinOp}{s t:ByteArray}{u:ak}(ty:TypeId)(h:RP op s.size (pack s.data.toList) t.size (pack t.data.toList)=some u):
  ∃cv,(binOp op ty (.string s) (.string t)).run P w= .ok cv w∧VR ρ u cv:=by
 have I:s.size=s.data.toList.length:=by rw[o6];rfl
 have L:t.size=t.data.toList.length:=by rw[o6];rfl
 have z:s.toList=s.data.toList:=ByteArray.toList_eq s;have A:t.toList=t.data.toList:=ByteArray.toList_eq t;unfold RP at h
 cases op<;>simp only[reduceCtorEq] at h
 case add=>
  rw[sT] at h
  split at h
  ·rename_i G;have G:=aV G
   cases h
   refine⟨.string (s++t),?_,?_⟩
   ·have M:¬(IntKind.i64.max<((s.size+t.size:Nat):Int)):=by
     have:IntKind.i64.max=9223372036854775807:=rfl;rw[this];have:s.size+t.size≤4611686018427387904:=G;omega
    simp only[binOp,Op.stringOp];rw[aZ (by simpa using M)];rfl
   simp only[VR];refine⟨s++t,rfl,by simp,?_⟩;have e:(s++t).data.toList=s.data.toList++t.data.toList:=by simp
   rw[e,←YL,I]
  cases h
 all_goals
  cases h
  rw[I,L];simp only[Kx,PL]
 case eql=>exact⟨.bool (s.data.toList==t.data.toList),by simp[binOp,Op.stringOp,z,A],by simp only[VR,Value.bool.injEq];rw[yy];simp⟩
 case neq=>exact⟨.bool (!(s.data.toList==t.data.toList)),by simp[binOp,Op.stringOp,z,A],by simp only[VR,Value.bool.injEq];rw[yy];simp⟩
 case lss=>exact⟨.bool (Op.bytesLess s.data.toList t.data.toList),by simp[binOp,Op.stringOp,z,A],by simp only[VR]⟩
 case geq=>exact⟨.bool (!Op.bytesLess s.data.toList t.data.toList),by simp[binOp,Op.stringOp,z,A],by simp only[VR]⟩
 case gtr=>
  refine⟨.bool (!(Op.bytesLess s.data.toList t.data.toList||s.data.toList==t.data.toList)),by simp[binOp,Op.stringOp,z,A],?_⟩;simp only[VR,Value.bool.injEq];exact PD _ _
 case leq=>
  refine⟨.bool (Op.bytesLess s.data.toList t.data.toList||s.data.toList==t.data.toList),by simp[binOp,Op.stringOp,z,A],?_⟩;simp only[VR,Value.bool.injEq];have:=PD s.data.toList t.data.toList;rw[←this,Bool.not_not]
theorem Zu(O:AR P ρ nt E a)(U:R ρ C w){op:BinOp}{t t':TypeId}{x z:Operand}{Y Z:aI}(ho:o.op= .binOp op t x z t')(hx:ct P x=some Y)(hz:ct P z=some Z)
  (h:IT op Y Z E H= .ok v H'):en P o a w (cQ ρ C w H v H'):=by
 replace h:=eg h;obtain⟨u,hu,h⟩:=h;replace h:=eg h;obtain⟨u2,I,h⟩:=h;rw[K3] at h;replace h:=gS h;obtain⟨r,A,h⟩:=h;rw[wW] at h
 cases h
 have G:=O.bG hx hu;have h2:=O.bG hz I;unfold BJ at A
 split at A
 ·simp only[VR] at G h2;obtain⟨cv,L,M⟩:=intBin_ok (P:=P) (ρ:=ρ) (w:=w) t A;exact eX (by simp[execOp,ho,G,h2,run_eqGuard_int,L]) U M
 ·simp only[VR] at G h2;obtain⟨s1,e1,rfl,rfl⟩:=G;obtain⟨s2,e2,rfl,rfl⟩:=h2;obtain⟨cv,L,M⟩:=strBin_ok (P:=P) (ρ:=ρ) (w:=w) t A;exact eX (by simp[execOp,ho,e1,e2,run_eqGuard_str,L]) U M
 cases A
theorem un_sound(M:AR P ρ nt E a)(G:R ρ C w){op:UnOp}{t:TypeId}{x:Operand}{L:aI}(ho:o.op= .unOp op t x)(O:ct P x=some L)
  (h:JN op L E H= .ok v H'):en P o a w (cQ ρ C w H v H'):=by
 replace h:=eg h;obtain⟨u,U,h⟩:=h;replace h:=gS h;obtain⟨r,z,h⟩:=h;rw[wW] at h
 cases h
 have A:=M.bG O U;unfold OU at z
 split at z
 ·rename_i k n;simp only[VR] at A
  cases z
  exact eX (cv:=.int k (IntKind.wrap k (0-n))) (by simp[execOp,ho,A,Op.unary,Op.intArith]) G (by simp only[VR,nD])
 ·simp only[VR] at A;obtain⟨r',I,z⟩:=Dm z
  cases z
  exact eX (by simp only[execOp,ho,A,Op.unary,Sem.run_bind,FG I,Result.andThen_ok];rfl) G (by simp only[VR])
 ·simp only[VR] at A
  cases z
  exact eX (by simp[execOp,ho,A,Op.unary];rfl) G (by simp only[VR])
 cases z
theorem offs_sound(L:AR P ρ nt E a)(M:R ρ C w){s:TypeId}{x:Operand}{f:Nat}{I:aI}{fs:Array Field}{z:Field}{i:TypeInfo}(ho:o.op= .fieldAddr s x f)(O:ct P x=some I)
  (U:P.underlying s=some (.struct fs)) (Y:fs[f]?=some z) (hi:P.info? z.type=some i) (h0:i.size≠0) (h:HJ I z.offset E H= .ok v H'):en P o a w (cQ ρ C w H v H'):=by
 replace h:=eg h;obtain⟨u,Z,h⟩:=h;replace h:=Ap h;obtain⟨f1,g1,o1,rfl,h⟩:=h;rw[fQ] at h
 cases h
 have A:=L.bG O Z;simp only[VR] at A;obtain⟨G,hh,A⟩:=A;refine eX (cv:=.pointer (some ⟨G.bz,G.off+(o1+z.offset),none⟩)) ?_ M ?_
 ·simp[execOp,ho,A,Instr.fieldAt,run_underlying U,Y,Instr.sureAddr,fieldPlace,sizeOf,typeInfo,hi,h0,Addr.add_lit,kH]
 simp only[VR];exact⟨G,hh,rfl⟩
theorem extr_sound(L:AR P ρ nt E a)(M:R ρ C w){x:Operand}{i:Nat}{I:aI}(ho:o.op= .extract x i)(O:ct P x=some I)
  (h:HL I i E H= .ok v H'):en P o a w (cQ ρ C w H v H'):=by
 replace h:=eg h;obtain⟨u,U,h⟩:=h;replace h:=onTuple_ok h;obtain⟨l,rfl,h⟩:=h;replace h:=gS h;obtain⟨r,Y,h⟩:=h
 cases h
 have z:=L.bG O U;simp only[VR] at z;obtain⟨vs,z,A⟩:=z;obtain⟨y,Z,A⟩:=A.get i _ Y;have G:vs[i]?=some y:=by simpa using Z
 exact eX (by simp[execOp,ho,z,Instr.extract,G]) M A
theorem nilck_sound(I:AR P ρ nt E a)(A:R ρ C w){x:Operand}{G:aI}(ho:o.op= .nilCheck x)(L:ct P x=some G)
  (h:GH G E H= .ok v H'):en P o a w (cQ ρ C w H v H'):=by
 replace h:=eg h;obtain⟨u,M,h⟩:=h;replace h:=eu h;obtain⟨O,h⟩:=h
 cases h
 have z:=I.bG L M
 cases v<;>simp only[C2,gK] at O
 ·have h2:=z;simp only[VR] at z;obtain⟨U,_,z⟩:=z;exact eX (by simp[execOp,ho,z];rfl) A (by rw[←z];exact h2)
 have h2:=z;simp only[VR] at z;obtain⟨_,vs,z,_⟩:=z;exact eX (by simp[execOp,ho,z];rfl) A (by rw[←z];exact h2)
theorem mkfn_sound(I:AR P ρ nt E a)(L:R ρ C w){f:Nat}{first eG:Array Operand}{z A:List aI}(ho:o.op= .makeFunc (.func f) first eG)(M:jM P first.toList=some z)(O:jM P eG.toList=some A)
  (h:HM f z A E H= .ok v H'):en P o a w (cQ ρ C w H v H'):=by
 replace h:=gS h;obtain⟨fs,G,h⟩:=h;replace h:=gS h;obtain⟨vs,U,h⟩:=h
 cases h
 have h0:=I.cT M G;have Y:=I.cT O U;refine eX (cv:=.func (.func f) (first.map a.eval) (eG.map a.eval)) (by simp[execOp,ho,Instr.makeFunc]) L ?_;simp only[VR];exact⟨_,_,rfl,by simpa using h0,by simpa using Y⟩
theorem mkif_sound(A:AR P ρ nt E a)(G:R ρ C w){t:TypeId}{x:Operand}{z:aI}{d:TypeDesc}(ho:o.op= .makeInterface t x)(I:P.underlying t=some d)(L:∀ms,d≠.interface ms)(M:ct P x=some z)
  (h:HN t z E H= .ok v H'):en P o a w (cQ ρ C w H v H'):=by
 replace h:=eg h;obtain⟨u,O,h⟩:=h
 cases h
 have U:=A.bG M O;refine eX (cv:=.iface t (a.eval x)) ?_ G ?_
 ·cases d<;>first|exact absurd rfl (L _)|simp[execOp,ho,Instr.makeInterface,run_underlying I]
 simp only[VR];exact⟨_,rfl,U⟩
end
section
variable{P:Program}{ρ:Ho}{nt:Nat}{E:Env}{a:Act}{C:Nat→Option cV}{w:World}{H H':ay}{v:ak}{o:Oper}
theorem uG{t:TypeId}{n:Nat}(h:gI P t=some n):∃i d,P.info? t=some i∧P.underlying t=some d∧i.size=n∧n≠0:=by
 unfold gI at h
 split at h
 ·rename_i i d hi z
  split at h
  ·rename_i A
   cases h
   exact⟨i,d,hi,z,rfl,A⟩
  cases h
 cases h
theorem uC{t:TypeId}{n:Nat}(h:gI P t=some n)(w:World):(sizeOf t).run P w= .ok n w:=by
 obtain⟨i,d,hi,_,e,_⟩:=uG h;simp[sizeOf,typeInfo,hi,e]
theorem PM{t:TypeId}{n:Nat}(h:gI P t=some n)(w:World):(isAgg t).run P w= .ok (pX P t) w:=by
 obtain⟨i,d,_,z,_,_⟩:=uG h;unfold isAgg pX;rw[z]
 cases d<;>simp[run_underlying z]
theorem aa5{t:TypeId}{n off e:Nat}{l:List ak}{cs:Array Value}(U:gI P t=some n)(Y:bQ ρ l cs.toList)(A:l.all eI=true)(hle:off+n≤l.length)
  (h:fN (pX P t) ((l.drop off).take n) (.err e) (fun v=>.ok v H)= .ok v H'):H'=H∧∃cv,(part t cs off).run P w= .ok cv w∧VR ρ v cv:=by
 replace h:=QT h;have I:=uC U w;have z:=PM U w;rcases h with⟨L,h⟩|⟨x,L,Z,h⟩
 ·cases h
  refine⟨rfl,.agg (cs.extract off (off+n)),?_,?_⟩
  ·rw[L] at z;simp[part,z,I]
  simp only[VR];refine⟨_,rfl,?_,?_⟩
  ·have e1:(cs.extract off (off+n)).toList=(cs.toList.drop off).take n:=by
    rw[Vl,ahH,show off+n-off=n by omega]
   rw[e1];exact(Y.drop off).take n
  rw[tz] at A⊢;exact fun x M=>A x (En (Eo M))
 cases h
 have M:l[off]?=some v:=by
  have G:((l.drop off).take n)[0]?=some v:=by rw[Z];rfl
  rw[IH] at G
  split at G
  ·rw[II] at G;simpa using G
  cases G
 obtain⟨y,hy,k⟩:=Y.get off v M;have O:cs[off]?=some y:=by simpa using hy
 refine⟨rfl,y,?_,k⟩;rw[L] at z;simp[part,z,O]
theorem sub_sound(O:AR P ρ nt E a)(U:R ρ C w){s:TypeId}{x:Operand}{f n:Nat}{M:aI}{fs:Array Field}{z:Field}(ho:o.op= .field s x f)(Y:ct P x=some M)
  (Z:P.underlying s=some (.struct fs)) (hf:fs[f]?=some z) (hn:gI P z.type=some n) (h:IU M z.offset n (pX P z.type) E H= .ok v H'):en P o a w (cQ ρ C w H v H'):=by
 replace h:=eg h;obtain⟨u,hu,h⟩:=h;replace h:=aab h;obtain⟨l,rfl,h⟩:=h;replace h:=eu h;obtain⟨A,h⟩:=h;rw[oL] at A;have A:=aV A;have G:=O.bG Y hu;simp only[VR] at G;obtain⟨vs,G,hv,I⟩:=G;obtain⟨rfl,cv,hc,L⟩:=aa5 (P:=P) (ρ:=ρ) (w:=w) hn hv I A h;exact eX (by simp[execOp,ho,G,Instr.field,run_underlying Z,hf,asAgg,hc]) U L
theorem idxArr_sound(L:AR P ρ nt E a)(U:R ρ C w){t e:TypeId}{x i:Operand}{M O:aI}{k n:Nat}(ho:o.op= .indexAddr t x i)(Y:ct P x=some M)(hi:ct P i=some O)
  (Z:P.underlying t=some (.array k e)) (hn:gI P e=some n) (h:F9 k n M O E H= .ok v H'):en P o a w (cQ ρ C w H v H'):=by
 replace h:=eg h;obtain⟨u,hu,h⟩:=h;replace h:=Ap h;obtain⟨f1,g1,o1,rfl,h⟩:=h;replace h:=eg h;obtain⟨u2,A,h⟩:=h;replace h:=LJ h;obtain⟨kd,j,rfl,hj,h⟩:=h;rw[fQ] at h
 cases h
 have z:=L.bG Y hu;have h2:=L.bG hi A;simp only[VR] at z h2;obtain⟨G,hh,z⟩:=z;have I:(j:Int)<(k:Int):=by omega
 refine eX (cv:=.pointer (some ⟨G.bz,G.off+(o1+j*n),none⟩)) ?_ U ?_
 ·simp[execOp,ho,z,h2,Instr.indexAt,run_underlying Z,asIntOf,Instr.sureAddr,uC hn,Addr.add_lit,kH,I,hj]
 simp only[VR];exact⟨G,hh,rfl⟩
theorem idxSl_sound(L:AR P ρ nt E a)(Y:R ρ C w){t e:TypeId}{x i:Operand}{M O:aI}{n:Nat}(ho:o.op= .indexAddr t x i)(Z:ct P x=some M)(hi:ct P i=some O)
  (ht:P.underlying t=some (.slice e)) (hn:gI P e=some n) (h:GF n M O E H= .ok v H'):en P o a w (cQ ρ C w H v H'):=by
 replace h:=eg h;obtain⟨u,hu,h⟩:=h;replace h:=wS h;rcases h with⟨_,h⟩|⟨f1,g1,o1,l1,es,rfl,h⟩
 ·cases h
 replace h:=eg h;obtain⟨u2,A,h⟩:=h;replace h:=LJ h;obtain⟨kd,j,rfl,hj,h⟩:=h;rw[fQ] at h
 cases h
 have z:=L.bG Z hu;have h2:=L.bG hi A;simp only[VR] at z h2;obtain⟨G,ad,cap,hh,z,JO,U⟩:=z;rcases U with⟨rfl,U⟩|⟨hz,_⟩
 ·have I:(j:Int)<(l1:Int):=by omega
  refine eX (cv:=.pointer (some ⟨G.bz,G.off+(o1+j*n),none⟩)) ?_ Y ?_
  ·simp[execOp,ho,z,h2,Instr.indexAt,run_underlying ht,asIntOf,Instr.sureAddr,uC hn,Addr.add_lit,kH,I,hj]
  simp only[VR];exact⟨G,hh,rfl⟩
 omega
theorem idxVal_sound(U:AR P ρ nt E a)(hR:R ρ C w){t e:TypeId}{x i:Operand}{Y Z:aI}{k n:Nat}(ho:o.op= .index t x i)(hx:ct P x=some Y)(hi:ct P i=some Z)
  (ht:P.underlying t=some (.array k e)) (hn:gI P e=some n) (h:F' k n (pX P e) Y Z E H= .ok v H'):en P o a w (cQ ρ C w H v H'):=by
 replace h:=eg h;obtain⟨u,hu,h⟩:=h;replace h:=aab h;obtain⟨l,rfl,h⟩:=h;replace h:=eg h;obtain⟨u2,G,h⟩:=h;replace h:=LJ h;obtain⟨kd,j,rfl,hj,h⟩:=h;replace h:=eu h;obtain⟨z,h⟩:=h;rw[oL] at z;have z:=aV z;have A:=U.bG hx hu;have h2:=U.bG hi G;simp only[VR] at A h2;obtain⟨vs,A,hv,I⟩:=A;have L:(j:Int)<(k:Int):=by omega
 obtain⟨rfl,cv,hc,M⟩:=aa5 (P:=P) (ρ:=ρ) (w:=w) hn hv I z h;have O:(part e vs (j*n)).run P w= .ok cv w:=hc;exact eX (by simp[execOp,ho,A,h2,Instr.index,asIntOf,run_underlying ht,uC hn,L,hj,O]) hR M
theorem idxStr_sound(I:AR P ρ nt E a)(O:R ρ C w){t:TypeId}{x i:Operand}{L M:aI}(ho:o.op= .index t x i)(U:ct P x=some L)(hi:ct P i=some M)
  (Y:P.underlying t=some .string) (h:Ga L M E H= .ok v H'):en P o a w (cQ ρ C w H v H'):=by
 replace h:=eg h;obtain⟨u,Z,h⟩:=h;replace h:=FW h;obtain⟨l,s,rfl,h⟩:=h;replace h:=eg h;obtain⟨u2,A,h⟩:=h;replace h:=LJ h;obtain⟨kd,j,rfl,hj,h⟩:=h;rw[fQ] at h
 cases h
 have z:=I.bG U Z;have h2:=I.bG hi A;simp only[VR] at z h2;obtain⟨b,z,rfl,rfl⟩:=z;have kO:b.size=b.data.toList.length:=by rw[o6];rfl
 have G:j<b.data.toList.length:=by omega
 have hb:b[j]?=some (b.data.toList[j]):=by
  rw[getElem?_pos b j aq];rfl
 refine eX (cv:=.int .u8 (AH (pack b.data.toList) j)) ?_ O (by simp only[VR];rfl);rw[YK _ _ G];have h3:(0:Int)≤(j:Int):=by omega
 simp only[execOp,ho,z,h2,Instr.index,asIntOf,Sem.run_bind,Sem.run_pure,Result.andThen_ok,run_underlying Y,bj h3,Vm,hb]
end
section
variable{P:Program}{ρ:Ho}{nt:Nat}{E:Env}{a:Act}{C:Nat→Option cV}{w:World}{H H':ay}{v:ak}{o:Oper}
theorem QU(M:AR P ρ nt E a){x:Option Operand}{I:Option aI}{d y n:Nat}{k:Nat→aC}(A:nJ P x=some I)(h:er E I d y (.err n) k= .ok v H')(O:d≤y):
  ∃i:Nat,i≤y∧k i= .ok v H'∧((x=none∧i=d)∨∃z G,x=some z∧a.eval z= .int G i):=by
 replace h:=adj h;rcases h with⟨rfl,h⟩|⟨z,G,i,rfl,U,hi,h⟩
 ·refine⟨d,O,h,.inl ⟨?_,rfl⟩⟩
  cases x with
  |none=>rfl
  |some u=>simp only[nJ] at A;split at A<;>cases A
 cases x with
 |none=>simp[nJ] at A
 |some u=>
  simp only[nJ] at A
  split at A
  ·rename_i Z Y
   cases A
   have L:=M.bG Y U;simp only[VR] at L;exact⟨i,hi,h,.inr ⟨u,G,rfl,L⟩⟩
  cases A
theorem run_sliceBound{z:IntKind}{i y:Nat}(h:i≤y)(code:BoundsCode):(Instr.sliceBound (.int z i) y code).run P w= .ok i w:=by
 have A:(i:Int)≤(y:Int):=by omega
 simp[Instr.sliceBound,asIntOf,h]
theorem PN(hA:AR P ρ nt E a){lo hi:Option Operand}{A G:Option aI}{L y cap n:Nat}{k:Nat→Nat→aC}{OV:Bool}(M:nJ P lo=some A)(O:nJ P hi=some G)(U:L≤y)(hc:y≤cap)
  (h:(er E G L y (.err n) fun h=>er E A 0 h (.err n) fun l=>k h l)= .ok v H'):
  ∃l h:Nat,l≤h∧h≤y∧k h l= .ok v H'∧(Instr.sliceBounds OV L cap (lo.map a.eval) (hi.map a.eval) none).run P w= .ok (l,h,cap) w:=by
 obtain⟨hh,h1,h,hx⟩:=QU hA O h U;obtain⟨l,h2,h,hy⟩:=QU hA M h (gX _);refine⟨l,hh,h2,h1,h,?_⟩;rcases hx with⟨rfl,rfl⟩|⟨z,kd,rfl,e⟩
 ·rcases hy with⟨rfl,rfl⟩|⟨z2,Y,rfl,Z⟩
  ·simp[Instr.sliceBounds]
  simp[Instr.sliceBounds,Z,run_sliceBound h2]
 have I:hh≤cap:=by omega
 rcases hy with⟨rfl,rfl⟩|⟨z2,Y,rfl,Z⟩
 ·simp[Instr.sliceBounds,e,run_sliceBound I]
 simp[Instr.sliceBounds,e,Z,run_sliceBound I,run_sliceBound h2]
theorem slStr_sound(O:AR P ρ nt E a)(hR:R ρ C w){t:TypeId}{x:Operand}{U:aI}{lo hi:Option Operand}{z A:Option aI}(ho:o.op= .slice t x lo hi none)(hx:ct P x=some U)
  (L:nJ P lo=some z) (M:nJ P hi=some A) (ht:P.underlying t=some .string) (h:GG U z A E H= .ok v H'):en P o a w (cQ ρ C w H v H'):=by
 replace h:=eg h;obtain⟨u,hu,h⟩:=h;replace h:=FW h;obtain⟨l,s,rfl,h⟩:=h;have I:=O.bG hx hu;simp only[VR] at I;obtain⟨b,I,rfl,rfl⟩:=I;obtain⟨l,Y,hle,Z,h,G⟩:=PN (w:=w) (OV:=false) O L M (bt _) (bt _) h;rw[fQ,fQ] at h
 cases h
 have kO:b.size=b.data.toList.length:=by rw[o6];rfl
 refine eX (cv:=.string (b.extract l Y)) ?_ hR ?_
 ·simp[execOp,ho,I,Instr.sliceAt,Instr.slice,run_underlying ht,G]
 simp only[VR];refine⟨_,rfl,?_,?_⟩
 ·rw[ByteArray.size_extract];show Y-l=_;omega
 rw[strSub_pack];congr 1;rw[ByteArray.data_extract,Vl,ahH]
theorem slSl_sound(hA:AR P ρ nt E a)(hR:R ρ C w){t e:TypeId}{x:Operand}{x':aI}{n:Nat}{lo hi:Option Operand}{O U:Option aI}(ho:o.op= .slice t x lo hi none)(hx:ct P x=some x')
  (Y:nJ P lo=some O) (Z:nJ P hi=some U) (ht:P.underlying t=some (.slice e)) (hn:gI P e=some n) (h:HK n x' O U E H= .ok v H'):en P o a w (cQ ρ C w H v H'):=by
 replace h:=eg h;obtain⟨u,hu,h⟩:=h;replace h:=wS h;have I:=hA.bG hx hu;rcases h with⟨rfl,h⟩|⟨f1,g1,o1,l1,es,rfl,h⟩
 ·simp only[VR] at I;obtain⟨l,L,hle,z,h,A⟩:=PN (w:=w) (OV:=true) hA Y Z (bt _) (bt _) h
  cases h
  have:l=0:=by omega
  subst this;have:L=0:=by omega
  subst this;refine eX (cv:=.slice none 0 0) ?_ hR (by simp only[VR]);simp[execOp,ho,I,Instr.sliceAt,Instr.slice,run_underlying ht,A,uC hn]
 replace h:=eu h;obtain⟨hb,h⟩:=h;have:=cD hb;subst this;simp only[VR] at I;obtain⟨hm,ad,cap,OW,I,G,M⟩:=I;obtain⟨l,L,hle,z,h,A⟩:=PN (w:=w) (OV:=true) hA Y Z QQ (aa3 G.1 G.2) h;have z:L≤cap:=eZ z (aa3 G.1 G.2);have Vz:l*n+(cap-l)*n=cap*n:=by rw[←kI];congr 1;omega
 rw[fQ,fQ] at h
 cases h
 have ui:=(uG hn);obtain⟨_,_,_,_,_,ui⟩:=ui;refine eX (cv:=.slice (some (if cap=l then ad else ad.add (l*n))) (L-l) (cap-l)) ?_ hR ?_
 ·simp only[execOp,ho,I,Instr.sliceAt,Instr.slice,Sem.run_bind,run_underlying ht,Result.andThen_ok,A,uC hn,Option.map_none,Sem.run_pure,rK]
  by_cases hc:cap=l<;>simp[hc]
 simp only[VR];refine⟨hm,_,_,OW,rfl,⟨by show L-l≤cap-l;omega,by show g1*n≤o1+l*n+(cap-l)*n;rw[kH,Vz];exact G.2⟩,?_⟩;show I0 hm (if cap=l then ad else ad.add (l*n)) (L-l) (cap-l) (o1+l*n) n;unfold I0 at M⊢;rcases M with⟨rfl,M⟩|⟨hz,hc0,ho0⟩
 ·by_cases hc:cap=l
  ·rw[bj hc]
   by_cases mF:l=0
   ·left;subst mF;refine⟨by simp,?_⟩;rw[hc] at M⊢;simpa using M
   right;refine⟨aq,aq,?_⟩;have:0<l*n:=Nat.mul_pos aq aq;omega
  rw[aZ hc];left;refine⟨by simp[Addr.add_lit,kH],?_⟩;rw[kH,←kI,show l+(cap-l)=cap by omega];exact M
 right;refine⟨aq,aq,aq⟩
theorem aae(L:AR P ρ nt E a){x:Operand}{G:aI}{d y n:Nat}{k:Nat→aC}(M:ct P x=some G)(h:er E (some G) d y (.err n) k= .ok v H'):
  ∃i:Nat,i≤y∧k i= .ok v H'∧∃A,a.eval x= .int A i:=by
 rcases adj h with⟨e,_⟩|⟨z,A,i,e,O,hi,h⟩
 ·cases e
 cases e
 have I:=L.bG M O;simp only[VR] at I;exact⟨i,hi,h,A,I⟩
theorem sl3_sound(hA:AR P ρ nt E a)(hR:R ρ C w){t e:TypeId}{x:Operand}{x':aI}{n:Nat}{lo:Option Operand}{A:Option aI}{hi mx:Operand}{G I:aI}(ho:o.op= .slice t x lo (some hi) (some mx))(hx:ct P x=some x')
  (E9:nJ P lo=some A) (Cq:ct P hi=some G) (W7:ct P mx=some I) (ht:P.underlying t=some (.slice e)) (hn:gI P e=some n) (h:IV n x' A G I E H= .ok v H'):en P o a w (cQ ρ C w H v H'):=by
 replace h:=eg h;obtain⟨u,hu,h⟩:=h;replace h:=wS h;have h1:=hA.bG hx hu;rcases h with⟨rfl,h⟩|⟨f1,g1,o1,l1,es,rfl,h⟩
 ·cases h
 replace h:=eu h;obtain⟨hb,h⟩:=h;have:=cD hb;subst this;simp only[VR] at h1;obtain⟨hm,ad,cap,OW,h1,L,hs⟩:=h1;obtain⟨m,qM,h,km,em⟩:=aae hA W7 h;replace h:=eu h;obtain⟨z,h⟩:=h;have z:=aV z;have L:=L.1;obtain⟨hh,M,h,kh,eh⟩:=aae hA Cq h;obtain⟨l,wD,h,hy⟩:=QU hA E9 h (gX _);have O:(Instr.sliceBounds true l1 cap (lo.map a.eval) (some (a.eval hi)) (some (a.eval mx))).run P w= .ok (l,hh,m) w:=by
  have U:m≤cap:=by omega
  rcases hy with⟨rfl,rfl⟩|⟨z2,kd2,rfl,e2⟩
  ·simp[Instr.sliceBounds,em,eh,run_sliceBound U,run_sliceBound M]
  simp[Instr.sliceBounds,em,eh,e2,run_sliceBound U,run_sliceBound M,run_sliceBound wD]
 rw[fQ,fQ] at h
 cases h
 have Y:=(uG hn);obtain⟨_,_,_,_,_,Y⟩:=Y;refine eX (cv:=.slice (some (if m=l then ad else ad.add (l*n))) (hh-l) (m-l)) ?_ hR ?_
 ·simp only[execOp,ho,h1,Instr.sliceAt,Instr.slice,Sem.run_bind,run_underlying ht,Result.andThen_ok,rK,O,uC hn,Sem.run_pure]
  by_cases Z:m=l<;>simp[Z]
 simp only[VR];have Vz:l*n+(m-l)*n=m*n:=by rw[←kI];congr 1;omega
 refine⟨hm,_,_,OW,rfl,⟨by show hh-l≤m-l;omega,by show g1*n≤o1+l*n+(m-l)*n;rw[kH,Vz];exact z⟩,?_⟩;show I0 hm (if m=l then ad else ad.add (l*n)) (hh-l) (m-l) (o1+l*n) n;unfold I0 at hs⊢;rcases hs with⟨rfl,hs⟩|⟨hz,hc0,ho0⟩
 ·have hmc:m*n≤cap*n:=iH _ aq
  by_cases Z:m=l
  ·rw[bj Z]
   by_cases mF:l=0
   ·left;subst mF;refine⟨by simp,?_⟩;subst Z;simp only[tA,qv,IL];omega
   right;refine⟨aq,aq,?_⟩;have:0<l*n:=Nat.mul_pos aq aq;omega
  rw[aZ Z];left;refine⟨by simp[Addr.add_lit,kH],?_⟩;rw[kH,←kI,show l+(m-l)=m by omega];omega
 right;refine⟨aq,aq,aq⟩
theorem lenK_sound(z:R ρ C w){c:Call}{x:Operand}{t e:TypeId}{n:Nat}(ho:o.op= .call c)(A:c.callee= .builtin .len)(G:c.args=#[x])(I:c.argTypes[0]?=some t)(L:P.underlying t=some (.array n e))
  (h:afP n E H= .ok v H'):en P o a w (cQ ρ C w H v H'):=by
 cases h
 exact eX (cv:=.int .i64 n) (by simp[execOp,ho,resolve,A,G,invoke,builtin,Builtin.len_,I,run_underlying L,goInt]) z (by simp only[VR];rfl)
theorem lenS_sound(L:AR P ρ nt E a)(M:R ρ C w){c:Call}{x:Operand}{I:aI}{t:TypeId}(ho:o.op= .call c)(O:c.callee= .builtin .len)(U:c.args=#[x])(A:ct P x=some I)
  (Y:c.argTypes[0]?=some t) (Z:P.underlying t=some .string) (h:HP I E H= .ok v H'):en P o a w (cQ ρ C w H v H'):=by
 replace h:=eg h;obtain⟨u,G,h⟩:=h;have z:=L.bG A G;replace h:=FW h;obtain⟨l,s,rfl,h⟩:=h
 cases h
 simp only[VR] at z;obtain⟨b,z,rfl,rfl⟩:=z;exact eX (cv:=.int .i64 b.size) (by simp[execOp,ho,resolve,O,U,invoke,builtin,Builtin.len_,Y,run_underlying Z,goInt,z]) M (by simp only[VR];rfl)
theorem len_sound(Z:AR P ρ nt E a)(I:R ρ C w){c:Call}{x:Operand}{L:aI}{t e:TypeId}(ho:o.op= .call c)(M:c.callee= .builtin .len)(O:c.args=#[x])(A:ct P x=some L)
  (U:c.argTypes[0]?=some t) (Y:P.underlying t=some (.slice e)) (h:IW L E H= .ok v H'):en P o a w (cQ ρ C w H v H'):=by
 replace h:=eg h;obtain⟨u,G,h⟩:=h;have z:=Z.bG A G;replace h:=wS h;rcases h with⟨rfl,h⟩|⟨f,g,o1,l,es,rfl,h⟩
 ·cases h
  simp only[VR] at z;exact eX (cv:=.int .i64 0) (by simp[execOp,ho,resolve,M,O,invoke,builtin,Builtin.len_,U,run_underlying Y,goInt,z]) I (by simp only[VR];rfl)
 cases h
 simp only[VR] at z;obtain⟨hm,ad,cap,OW,z,JO,hs⟩:=z;exact eX (cv:=.int .i64 l) (by simp[execOp,ho,resolve,M,O,invoke,builtin,Builtin.len_,U,run_underlying Y,goInt,z]) I (by simp only[VR];rfl)
theorem conv_sound(G:AR P ρ nt E a)(I:R ρ C w){src dst:TypeId}{k L:IntKind}{x:Operand}{z:aI}(ho:o.op= .convert src dst x)(M:ct P x=some z)(O:P.underlying src=some (.int L))(U:P.underlying dst=some (.int k))
  (h:HR k z E H= .ok v H'):en P o a w (cQ ρ C w H v H'):=by
 replace h:=eg h;obtain⟨u,Y,h⟩:=h;replace h:=xd h;obtain⟨Z,n,rfl,h⟩:=h;rw[wV] at h
 cases h
 have A:=G.bG M Y;simp only[VR] at A;exact eX (cv:=.int k (k.wrap n)) (by simp[execOp,ho,A,convert,run_underlying O,run_underlying U,Conv.intToInt]) I (by simp only[VR,nD])
end
section
variable{P:Program}{ρ:Ho}{nt:Nat}{E:Env}{a:Act}{C:Nat→Option cV}{w:World}{H H':ay}{v:ak}{o:Oper}
theorem CM(b:Nat):∀(vs:List Value)(o:Nat)(w:World),
  (w.setCells b o vs).heap.size=w.heap.size∧(∀k,k≠b→(w.setCells b o vs).heap[k]?=w.heap[k]?)∧
  (∀c e fz,w.heap[b]?=some (.cells c e fz)→∃z,(w.setCells b o vs).heap[b]?=some (.cells z e fz)∧z.size=c.size)∧
  (w.setCells b o vs).os=w.os∧(w.setCells b o vs).tape=w.tape∧(w.setCells b o vs).output=w.output
 |[],_,_=>⟨rfl,fun _ _=>rfl,fun c e fz h=>⟨c,h,rfl⟩,rfl,rfl,rfl⟩
 |v::r,o,w=>by
  obtain⟨I,h2,L,M,O,U⟩:=CM b r (o+1) (w.setCell ⟨b,o,none⟩ v);simp only[World.setCells];refine⟨I.trans (by simp[World.setCell]),fun k G=>(h2 k G).trans ?_,fun c e fz h=>?_,M,O,U⟩
  ·simp only[World.setCell,Vn];rw[aZ (fun e=>G e.symm)]
  obtain⟨z,A,Y⟩:=L (c.setIfInBounds o v) e fz (by simp[World.setCell,Vn,h]);exact⟨z,A,by simpa using Y⟩
def Ho.add(ρ:Ho)(f g:Nat)(h:Hm):Ho:=fun f' g'=>if f'=f∧g'=g then some h else ρ f' g'
theorem Ho.add_same(ρ:Ho)(f g:Nat)(h:Hm):ρ.add f g h f g=some h:=by simp[Ho.add]
theorem Ho.adl{ρ:Ho}{f g:Nat}{h:Hm}(A:∀x,ρ f g=some x→x=h):ρ.le (ρ.add f g h):=by
 intro f' g' x z;unfold Ho.add
 split
 ·rename_i e;obtain⟨rfl,rfl⟩:=e;rw[A x z]
 exact z
theorem Ho.ja{ρ:Ho}{f g f' g':Nat}{h x:Hm}(e:ρ.add f g h f' g'=some x):(f'=f∧g'=g∧x=h)∨ρ f' g'=some x:=by
 unfold Ho.add at e
 split at e
 ·rename_i k;cases e;exact .inl ⟨k.1,k.2,rfl⟩
 exact .inr e
theorem R.heap{w':World}(z:R ρ C w)(h:w'.heap=w.heap):R ρ C w':=
 ⟨fun f o e g x A=>(z.obj f o e g x A).gg (Ho.le_refl _) (by rw[h]),z.my,fun f g x A=>by rw[h];exact z.gE f g x A,z.uniq,fun f g x A a b=>(z.db f g x A a b).gg (cell_of_heap (w:=w) (by rw[h]))⟩
theorem R.adm(fl:Nat)(fz:Nat×Nat)(O:R ρ C w){f elem es aE n:Nat}{cs:RT}{cells:Array Value}(W:Nat→Prop)(A:∀g,ρ f g=none)(he:0<es)(kO:n*es≤cells.size)
  (Fa:∀i,i<n→∃l,cs.get i=some l∧l.length=es∧∀j x,l[j]?=some x→eI x=true∧∃cv,cells[i*es+j]?=some cv∧VR ρ x cv) {w':World}
  (Z:w'.heap=w.heap.push (.cells cells elem fz)) (wE:∀i,i<cells.size→¬(fz.1≤i∧i<fz.2)) (hfz2:fl=0∨fl=2→fz.1=fz.2) (h1:w'.os=w.os) (h2:w'.tape=w.tape) (h3:w'.output=w.output):
  ∃ρ',ρ' f n=some ⟨w.heap.size,0,cells.size,false,false⟩∧Ext W f (f+1) ρ ρ' w w'∧R ρ' (fun x=>if x=f then some (.row elem es aE n n fl cs) else C x) w':=by
 have hle:ρ.le (ρ.add f n ⟨w.heap.size,0,cells.size,false,false⟩):=Ho.adl fun x z=>by rw[A] at z;cases z
 have hold:∀b,b<w.heap.size→w'.heap[b]?=w.heap[b]?:=fun b M=>by rw[Z,Vo,aZ aq]
 have G:w'.heap[w.heap.size]?=some (.cells cells elem fz):=by rw[Z];simp
 refine⟨_,Ho.add_same _ _ _ _,⟨hle,?_,?_,fun b M _=>hold b M,by rw[Z];simp,BE _,h1,h2,h3⟩,⟨?_,?_,?_,?_,?_⟩⟩
 ·intro f' g' x z;rcases Ho.ja z with⟨rfl,_,_⟩|z
  ·exact .inr ⟨bt _,wB _⟩
  exact .inl ⟨g',x,z⟩
 ·intro f' g' x z;rcases Ho.ja z with⟨rfl,_,rfl⟩|z
  ·exact .inr (.inl ⟨bt _,rfl⟩)
  exact .inl z
 ·intro f' o hf g x z;have U:(if f'=f then some (cV.row elem es aE n n fl cs) else C f')=some o:=hf;clear hf
  by_cases e:f'=f
  ·rw[bj e] at U;subst e
   cases U
   rcases Ho.ja z with⟨_,rfl,rfl⟩|z
   ·refine⟨he,fun h=>(by cases h),bt _,fun _ _=>⟨⟨cells,fz,G,by simp⟩,kO,fun i hi=>?_,fun _ i hi=>?_,fun _ i _ hi=>?_,fun _=>rfl,fun e c t fz' hc=>by rw[G] at hc;cases hc;exact .inl (hfz2 e)⟩⟩
    ·obtain⟨l,a1,a2,a3⟩:=Fa i hi;refine⟨l,a1,a2,fun j y hy=>?_⟩;obtain⟨b1,cv,b2,b3⟩:=a3 j y hy;refine⟨b1,cv,?_,b3.mono hle⟩;simp only[World.cell?,G];simpa using b2
    ·simp only[World.frozen?,G];have:=wE i (by simpa using‹_›);simp at this⊢;omega
    simp only[World.frozen?,G];have:=wE i (by simpa using‹_›);simp at this⊢;omega
   rw[A] at z;cases z
  rw[aZ e] at U;rcases Ho.ja z with⟨e',_,_⟩|z
  ·exact absurd e' e
  exact(O.obj f' o U g x z).gg hle (hold _ (O.gE _ _ _ z))
 ·intro f1 g1 x1 f2 g2 x2 L I fO M;have c1:=Ho.ja L;have c2:=Ho.ja I;clear L I;rcases c1 with⟨e,_,rfl⟩|L<;>rcases c2 with⟨e',_,rfl⟩|I
  ·exact absurd (e.trans e'.symm) fO
  ·have:=O.gE _ _ _ I;have M:w.heap.size=x2.bz:=M;omega
  ·have:=O.gE _ _ _ L;have M:x1.bz=w.heap.size:=M;omega
  exact O.my _ _ _ _ _ _ L I fO M
 ·intro f' g' x z;rw[Z,Array.size_push];rcases Ho.ja z with⟨_,_,rfl⟩|z
  ·simp
  have:=O.gE _ _ _ z;omega
 ·intro f' g1 x1 g2 x2 L I M;have c1:=Ho.ja L;have c2:=Ho.ja I;clear L I;rcases c1 with⟨rfl,_,rfl⟩|L<;>rcases c2 with⟨e',_,rfl⟩|I
  ·rfl
  ·rw[A] at I;cases I
  ·subst e';rw[A] at L;cases L
  exact O.uniq _ _ _ _ _ L I M
 intro f' g' x z mG W8;rcases Ho.ja z with⟨_,_,rfl⟩|Y
 ·cases mG
 have k:=O.db _ _ _ Y mG W8;refine E8.gg ⟨fun g2 x2 I=>?_,k.2⟩ (cell_of_heap (w:=w) ?_)
 ·rcases Ho.ja I with⟨rfl,_,_⟩|I
  ·rw[A] at Y;cases Y
  exact k.1 _ _ I
 have:=O.gE _ _ _ Y;show w'.heap[x.bz]?=_;rw[Z,Vo,aZ aq]
theorem R.alloc(I:R ρ C w){f elem es aE n:Nat}{cs:RT}{cells:Array Value}(W:Nat→Prop)(z:∀g,ρ f g=none)(L:0<es)(A:n*es≤cells.size)
  (G:∀i,i<n→∃l,cs.get i=some l∧l.length=es∧∀j x,l[j]?=some x→eI x=true∧∃cv,cells[i*es+j]?=some cv∧VR ρ x cv) {w':World}
  (M:w'.heap=w.heap.push (.cells cells elem)) (O:w'.os=w.os) (h2:w'.tape=w.tape) (U:w'.output=w.output):
  ∃ρ',ρ' f n=some ⟨w.heap.size,0,cells.size,false,false⟩∧Ext W f (f+1) ρ ρ' w w'∧R ρ' (fun x=>if x=f then some (.row elem es aE n n 0 cs) else C x) w':=by
 exact I.adm 0 (0,0) W z L A G M (fun i _ h=>by simp at h) (fun _=>rfl) O h2 U
theorem KA(C:Nat→Option cV)(H:ay)(o:cV):ep C H ⟨H.next+1,H.aQ,H.ws,H.t.set H.next o⟩=fun x=>if x=H.next then some o else C x:=by
 funext x
 unfold ep;simp only[GT.dn]
 by_cases h:x=H.next
 ·subst h;simp
 have h2:¬(H.next≤x∧x<H.next+1):=by omega
 have z:(H.t.set H.next o).get x=H.t.get x:=by rw[GT.dn,aZ h]
 simp[h2,h,z]
theorem R.rd(hR:R ρ C w){f g off n:Nat}{l:List ak}(hr:Vx H f g off n l)(hC:C f=H.t.get f){h:Hm}(hh:ρ f g=some h)(hn:0<n):
  l.length=n∧l.all eI=true∧∀j x,l[j]?=some x→∃cv,w.cell? ⟨h.bz,h.off+off+j,none⟩=some cv∧VR ρ x cv:=by
 obtain⟨elem,es,aE,m,lo,fl,cs,x,hg,h1,h2,h3,h4,hx,Z⟩:=hr;have L:=hR.obj f _ (hC.trans hg) g h hh;obtain⟨he,mG,_,A⟩:=L;have A:=A h1 h2;obtain⟨y,hy,M,O⟩:=A.cell _ h4;have U:y=x:=by
  have:some y=some x:=hy.symm.trans hx
  cases this
  rfl
 subst U;have ait:off/es*es+off % es=off:=by rw[qu];exact NH off es
 have hlen:l.length=n:=by
  rcases Z with⟨rfl,rfl⟩|rfl
  ·exact M
  simp[M];omega
 have I:∀j z,l[j]?=some z→y[off % es+j]?=some z:=by
  intro j z G;rcases Z with⟨rfl,rfl⟩|rfl
  ·have:off % n=0:=by omega
   rw[this,fM];exact G
  rw[IH] at G
  split at G
  ·rwa [II] at G
  cases G
 refine⟨hlen,?_,fun j z G=>?_⟩
 ·rw[tz];intro z G;obtain⟨j,hj⟩:=Vp G;exact(O _ z (I j z hj)).1
 obtain⟨_,cv,Y,hv⟩:=O _ z (I j z G);refine⟨cv,?_,hv⟩;rw[show h.off+off+j=h.off+off/es*es+(off % es+j) by omega];exact Y
end
end Go.Ev
