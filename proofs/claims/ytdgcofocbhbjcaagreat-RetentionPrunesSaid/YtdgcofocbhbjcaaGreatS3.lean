/- Part 3 of rules for walks through the code of a program, and of such walks; what each part proves is said by its theorems. -/
import Derived.Test.YtdgcofocbhbjcaaGreatS2
import Derived.Laws.Strings
set_option linter.unusedVariables false
set_option linter.unusedSimpArgs false
noncomputable section
set_option maxRecDepth 100000
set_option maxHeartbeats 4000000
namespace Go.Ev
section
variable{P:Program}{ρ:Ho}{nt:Nat}{E:Env}{a:Act}{C:Nat→Option cZ}{w:World}{H H':aC}{v:aw}{o:Oper}
theorem eK{cv:Value}(h:(execOp a.eval o).run P w= .ok (.value cv) w)(p:R ρ C w)(z:VR ρ v cv):dI P o a w (c6 ρ C w H v H):=
 .inl ⟨cv,w,h,c6.pure p z⟩
theorem T3(p:AR P ρ nt E a)(z:R ρ C w){x:Operand}{y:aM}(ho:o.op= .move x∨o.op= .assign x)(A:cB P x=some y)
  (h:lq y E H= .ok v H'):dI P o a w (c6 ρ C w H v H'):=by
 replace h:=dG h;obtain⟨u,F,h⟩:=h
 cases h
 exact eK (by rcases ho with ho|ho<;>simp[execOp,ho]) z (p.bU A F)
theorem pick_sound(F:AR P ρ nt E a)(J:R ρ C w){c x z:Operand}{K G I:aM}(ho:o.op= .pick c x z)(L:cB P c=some K)(M:cB P x=some G)(O:cB P z=some I)
  (h:Ee K G I E H= .ok v H'):dI P o a w (c6 ρ C w H v H'):=by
 replace h:=dG h;obtain⟨u,U,h⟩:=h
 replace h:=onBool_ok h;obtain⟨b,rfl,h⟩:=h
 have p:=F.bU L U
 simp only[VR] at p
 cases b with
 |true=>
  obtain⟨u2,A,h⟩:=dG (show bD G E (.err 1) (fun v=>.ok v H)= .ok v H' from h)
  cases h
  exact eK (by simp[execOp,ho,p,asBool]) J (F.bU M A)
 |false=>
  obtain⟨u2,A,h⟩:=dG (show bD I E (.err 1) (fun v=>.ok v H)= .ok v H' from h)
  cases h
  exact eK (by simp[execOp,ho,p,asBool]) J (F.bU O A)
theorem run_eqGuard_int(op:BinOp)(t:TypeId)(x y:Operand)(k p:IntKind)(m n:Int):(eqGuard op t x y (.int k m) (.int p n)).run P w= .ok () w:=by
 unfold eqGuard
 cases op<;>simp
theorem run_eqGuard_str(op:BinOp)(t:TypeId)(x y:Operand)(k p:ByteArray):(eqGuard op t x y (.string k) (.string p)).run P w= .ok () w:=by
 unfold eqGuard
 cases op<;>simp
theorem CY{op:BinOp}{k:IntKind}{m n r:Int}(h:intBits op k m n=some r):(Op.intBits op k m n).run P w= .ok (.int k r) w:=by
 unfold intBits at h
 unfold Op.intBits
 cases op<;>simp_all
theorem mE{k p:IntKind}{r:Option aw}{u:aw}(h:aI (Nat.beq (cI k) (cI p)) r none=some u):k=p∧r=some u:=by
 rw[ri] at h
 split at h
 ·rename_i z
  exact⟨HS z,h⟩
 cases h
theorem Is{b:Bool}{r:Option aw}{u:aw}(h:aI b none r=some u):b=false∧r=some u:=by
 cases b
 ·exact⟨rfl,h⟩
 cases h
theorem AU{α β:Type}{x:Option α}{k:α→Option β}{u:β}(h:ob x none k=some u):∃y,x=some y∧k y=some u:=by
 cases x with
 |none=>cases h
 |some y=>exact⟨y,rfl,h⟩
theorem intBin_ok{op:BinOp}{k F:IntKind}{m n:Int}{u:aw}(t:TypeId)(h:gJ op k m F n=some u):
  ∃cv,(binOp op t (.int k m) (.int F n)).run P w= .ok cv w∧VR ρ u cv:=by
 cases op with
 |shl=>
  simp only[gJ] at h
  obtain⟨z,h⟩:=Is h
  rw[nC,pF] at z
  cases h
  refine⟨.int k (k.wrap (m*2^(min n.toNat k.bits))),?_,by simp only[VR,n9]⟩
  simp only[binOp,Op.shift,bw z]
  rfl
 |shr=>
  simp only[gJ] at h
  obtain⟨z,h⟩:=Is h
  rw[nC,pF] at z
  cases h
  refine⟨.int k (m.fdiv (2^(min n.toNat k.bits))),?_,by simp only[VR]⟩
  simp only[binOp,Op.shift,bw z]
  rfl
 |quo=>
  simp only[gJ] at h
  have p:=mE h;clear h;obtain⟨rfl,h⟩:=p
  obtain⟨z,h⟩:=Is h
  rw[rj,pF] at z
  cases h
  exact⟨.int k (k.wrap (m.tdiv n)),by simp[binOp,Op.intDiv,z],by simp only[VR,n9]⟩
 |rem=>
  simp only[gJ] at h
  have p:=mE h;clear h;obtain⟨rfl,h⟩:=p
  obtain⟨z,h⟩:=Is h
  rw[rj,pF] at z
  cases h
  exact⟨.int k (m.tmod n),by simp[binOp,Op.intDiv,z],by simp only[VR]⟩
 |and=>
  simp only[gJ] at h
  have p:=mE h;clear h;obtain⟨rfl,h⟩:=p
  obtain⟨r,A,h⟩:=AU h
  cases h
  exact⟨_,by simp only[binOp,ne_eq,not_true_eq_false,if_false];exact CY A,by simp only[VR]⟩
 |or=>
  simp only[gJ] at h
  have p:=mE h;clear h;obtain⟨rfl,h⟩:=p
  obtain⟨r,A,h⟩:=AU h
  cases h
  exact⟨_,by simp only[binOp,ne_eq,not_true_eq_false,if_false];exact CY A,by simp only[VR]⟩
 |xor=>
  simp only[gJ] at h
  have p:=mE h;clear h;obtain⟨rfl,h⟩:=p
  obtain⟨r,A,h⟩:=AU h
  cases h
  exact⟨_,by simp only[binOp,ne_eq,not_true_eq_false,if_false];exact CY A,by simp only[VR]⟩
 |andNot=>
  simp only[gJ] at h
  have p:=mE h;clear h;obtain⟨rfl,h⟩:=p
  obtain⟨r,A,h⟩:=AU h
  cases h
  exact⟨_,by simp only[binOp,ne_eq,not_true_eq_false,if_false];exact CY A,by simp only[VR]⟩
 |add=>
  simp only[gJ] at h
  have p:=mE h;clear h;obtain⟨rfl,h⟩:=p
  cases h
  exact⟨.int k (k.wrap (m+n)),by simp[binOp,Op.intArith],by simp only[VR,n9]⟩
 |sub=>
  simp only[gJ] at h
  have p:=mE h;clear h;obtain⟨rfl,h⟩:=p
  cases h
  exact⟨.int k (k.wrap (m-n)),by simp[binOp,Op.intArith],by simp only[VR,n9]⟩
 |mul=>
  simp only[gJ] at h
  have p:=mE h;clear h;obtain⟨rfl,h⟩:=p
  cases h
  exact⟨.int k (k.wrap (m*n)),by simp[binOp,Op.intArith],by simp only[VR,n9]⟩
 |eql=>
  simp only[gJ] at h
  have p:=mE h;clear h;obtain⟨rfl,h⟩:=p
  cases h
  exact⟨.bool (m==n),by simp[binOp,Op.intCmp],by simp only[VR,rj];rfl⟩
 |neq=>
  simp only[gJ] at h
  have p:=mE h;clear h;obtain⟨rfl,h⟩:=p
  cases h
  exact⟨.bool (m !=n),by simp[binOp,Op.intCmp],by simp only[VR,rj];rfl⟩
 |lss=>
  simp only[gJ] at h
  have p:=mE h;clear h;obtain⟨rfl,h⟩:=p
  cases h
  exact⟨.bool (decide (m<n)),by simp[binOp,Op.intCmp],by simp only[VR,nC]⟩
 |gtr=>
  simp only[gJ] at h
  have p:=mE h;clear h;obtain⟨rfl,h⟩:=p
  cases h
  exact⟨.bool (decide (m>n)),by simp[binOp,Op.intCmp],by simp only[VR,nC]⟩
 |leq=>
  simp only[gJ] at h
  have p:=mE h;clear h;obtain⟨rfl,h⟩:=p
  cases h
  refine⟨.bool (decide (m≤n)),by simp[binOp,Op.intCmp],?_⟩
  simp only[VR,nC,Value.bool.injEq]
  rw[vX]
  simp
 |geq=>
  simp only[gJ] at h
  have p:=mE h;clear h;obtain⟨rfl,h⟩:=p
  cases h
  refine⟨.bool (decide (m≥n)),by simp[binOp,Op.intCmp],?_⟩
  simp only[VR,nC,Value.bool.injEq]
  rw[vX]
  simp
theorem Lh:∀(a b:List UInt8),(!(Op.bytesLess a b||a==b))=Op.bytesLess b a
 |[],[]=>rfl
 |[],_::_=>rfl
 |_::_,[]=>rfl
 |x::r,y::s=>by
  simp only[Op.bytesLess,List.cons_beq_cons]
  rw[←Lh r s]
  rcases Qo x.toNat y.toNat with h|h|h
  ·have z:x<y:=UInt8.lt_iff_toNat_lt.2 h
   have h2:¬y<x:=by rw[Fs];omega
   have p:x≠y:=fun e=>by subst e;omega
   have A:y≠x:=fun e=>p e.symm
   simp[z,h2,p,A]
  ·have h0:x=y:=UInt8.toNat_inj.1 h
   subst h0
   have h2:¬x<x:=by rw[Fs];omega
   simp[h2]
  have z:y<x:=UInt8.lt_iff_toNat_lt.2 h
  have h2:¬x<y:=by rw[Fs];omega
  have p:x≠y:=fun e=>by subst e;omega
  have A:y≠x:=fun e=>p e.symm
  simp[z,h2,p,A]
theorem strBin_ok{op:BinOp}{s t:ByteArray}{u:aw}(ty:TypeId)(h:M0 op s.size (pack s.data.toList) t.size (pack t.data.toList)=some u):
  ∃cv,(binOp op ty (.string s) (.string t)).run P w= .ok cv w∧VR ρ u cv:=by
 have F:s.size=s.data.toList.length:=by rw[ml];rfl
 have G:t.size=t.data.toList.length:=by rw[ml];rfl
 have p:s.toList=s.data.toList:=ByteArray.toList_eq s
 have z:t.toList=t.data.toList:=ByteArray.toList_eq t
 unfold M0 at h
 cases op<;>simp only[reduceCtorEq] at h
 case add=>
  rw[ri] at h
  split at h
  ·rename_i A
   have A:=aX A
   cases h
   refine⟨.string (s++t),?_,?_⟩
   ·have I:¬(IntKind.i64.max<((s.size+t.size:Nat):Int)):=by
     have:IntKind.i64.max=9223372036854775807:=rfl
     rw[this]
     have:s.size+t.size≤4611686018427387904:=A
     omega
    simp only[binOp,Op.stringOp]
    rw[bw (by simpa using I)]
    rfl
   simp only[VR]
   refine⟨s++t,rfl,by simp,?_⟩
   have e:(s++t).data.toList=s.data.toList++t.data.toList:=by simp
   rw[e,←strCat_pack,F]
  cases h
 all_goals
  cases h
  rw[F,G]
  simp only[He,Lo]
 case eql=>exact⟨.bool (s.data.toList==t.data.toList),by simp[binOp,Op.stringOp,p,z],by simp only[VR,Value.bool.injEq];rw[vX];simp⟩
 case neq=>exact⟨.bool (!(s.data.toList==t.data.toList)),by simp[binOp,Op.stringOp,p,z],by simp only[VR,Value.bool.injEq];rw[vX];simp⟩
 case lss=>exact⟨.bool (Op.bytesLess s.data.toList t.data.toList),by simp[binOp,Op.stringOp,p,z],by simp only[VR]⟩
 case geq=>exact⟨.bool (!Op.bytesLess s.data.toList t.data.toList),by simp[binOp,Op.stringOp,p,z],by simp only[VR]⟩
 case gtr=>
  refine⟨.bool (!(Op.bytesLess s.data.toList t.data.toList||s.data.toList==t.data.toList)),by simp[binOp,Op.stringOp,p,z],?_⟩
  simp only[VR,Value.bool.injEq]
  exact Lh _ _
 case leq=>
  refine⟨.bool (Op.bytesLess s.data.toList t.data.toList||s.data.toList==t.data.toList),by simp[binOp,Op.stringOp,p,z],?_⟩
  simp only[VR,Value.bool.injEq]
  have:=Lh s.data.toList t.data.toList
  rw[←this,Bool.not_not]
theorem T5(J:AR P ρ nt E a)(K:R ρ C w){op:BinOp}{t t':TypeId}{x z:Operand}{L M:aM}(ho:o.op= .binOp op t x z t')(O:cB P x=some L)(U:cB P z=some M)
  (h:FG op L M E H= .ok v H'):dI P o a w (c6 ρ C w H v H'):=by
 replace h:=dG h;obtain⟨u,Y,h⟩:=h
 replace h:=dG h;obtain⟨u2,F,h⟩:=h
 rw[HR] at h
 replace h:=gV h;obtain⟨r,p,h⟩:=h
 rw[uO] at h
 cases h
 have A:=J.bU O Y
 have h2:=J.bU U F
 unfold zc at p
 split at p
 ·simp only[VR] at A h2
  obtain⟨cv,G,I⟩:=intBin_ok (P:=P) (ρ:=ρ) (w:=w) t p
  exact eK (by simp[execOp,ho,A,h2,run_eqGuard_int,G]) K I
 ·simp only[VR] at A h2
  obtain⟨s1,Z,rfl,rfl⟩:=A
  obtain⟨s2,e2,rfl,rfl⟩:=h2
  obtain⟨cv,G,I⟩:=strBin_ok (P:=P) (ρ:=ρ) (w:=w) t p
  exact eK (by simp[execOp,ho,Z,e2,run_eqGuard_str,G]) K I
 cases p
theorem un_sound(I:AR P ρ nt E a)(A:R ρ C w){op:UnOp}{t:TypeId}{x:Operand}{G:aM}(ho:o.op= .unOp op t x)(J:cB P x=some G)
  (h:Gz op G E H= .ok v H'):dI P o a w (c6 ρ C w H v H'):=by
 replace h:=dG h;obtain⟨u,K,h⟩:=h
 replace h:=gV h;obtain⟨r,p,h⟩:=h
 rw[uO] at h
 cases h
 have z:=I.bU J K
 unfold KS at p
 split at p
 ·rename_i k n
  simp only[VR] at z
  cases p
  exact eK (cv:=.int k (IntKind.wrap k (0-n))) (by simp[execOp,ho,z,Op.unary,Op.intArith]) A (by simp only[VR,n9])
 ·simp only[VR] at z
  obtain⟨r',F,p⟩:=AU p
  cases p
  exact eK (by simp only[execOp,ho,z,Op.unary,Sem.run_bind,CY F,Result.andThen_ok];rfl) A (by simp only[VR])
 ·simp only[VR] at z
  cases p
  exact eK (by simp[execOp,ho,z,Op.unary];rfl) A (by simp only[VR])
 cases p
theorem offs_sound(G:AR P ρ nt E a)(I:R ρ C w){s:TypeId}{x:Operand}{f:Nat}{F:aM}{fs:Array Field}{p:Field}{i:TypeInfo}(ho:o.op= .fieldAddr s x f)(J:cB P x=some F)
  (K:P.underlying s=some (.struct fs)) (L:fs[f]?=some p) (hi:P.info? p.type=some i) (h0:i.size≠0) (h:Eg F p.offset E H= .ok v H'):dI P o a w (c6 ρ C w H v H'):=by
 replace h:=dG h;obtain⟨u,M,h⟩:=h
 replace h:=xm h;obtain⟨Y,Z,O,rfl,h⟩:=h
 rw[eP] at h
 cases h
 have z:=G.bU J M
 simp only[VR] at z
 obtain⟨A,U,z⟩:=z
 refine eK (cv:=.pointer (some ⟨A.bW,A.off+(O+p.offset),none⟩)) ?_ I ?_
 ·simp[execOp,ho,z,Instr.fieldAt,run_underlying K,L,Instr.sureAddr,fieldPlace,sizeOf,typeInfo,hi,h0,Addr.add_lit,kz]
 simp only[VR]
 exact⟨A,U,rfl⟩
theorem extr_sound(G:AR P ρ nt E a)(I:R ρ C w){x:Operand}{i:Nat}{F:aM}(ho:o.op= .extract x i)(J:cB P x=some F)
  (h:Ei F i E H= .ok v H'):dI P o a w (c6 ρ C w H v H'):=by
 replace h:=dG h;obtain⟨u,K,h⟩:=h
 replace h:=onTuple_ok h;obtain⟨l,rfl,h⟩:=h
 replace h:=gV h;obtain⟨r,L,h⟩:=h
 cases h
 have p:=G.bU J K
 simp only[VR] at p
 obtain⟨vs,p,z⟩:=p
 obtain⟨y,M,z⟩:=z.get i _ L
 have A:vs[i]?=some y:=by simpa using M
 exact eK (by simp[execOp,ho,p,Instr.extract,A]) I z
theorem nilck_sound(F:AR P ρ nt E a)(z:R ρ C w){x:Operand}{A:aM}(ho:o.op= .nilCheck x)(G:cB P x=some A)
  (h:DD A E H= .ok v H'):dI P o a w (c6 ρ C w H v H'):=by
 replace h:=dG h;obtain⟨u,I,h⟩:=h
 replace h:=dR h;obtain⟨J,h⟩:=h
 cases h
 have p:=F.bU G I
 cases v<;>simp only[AH,ju] at J
 ·have h2:=p
  simp only[VR] at p
  obtain⟨K,_,p⟩:=p
  exact eK (by simp[execOp,ho,p];rfl) z (by rw[←p];exact h2)
 have h2:=p
 simp only[VR] at p
 obtain⟨_,vs,p,_⟩:=p
 exact eK (by simp[execOp,ho,p];rfl) z (by rw[←p];exact h2)
theorem mkfn_sound(F:AR P ρ nt E a)(G:R ρ C w){f:Nat}{first dM:Array Operand}{p z:List aM}(ho:o.op= .makeFunc (.func f) first dM)(I:jN P first.toList=some p)(J:jN P dM.toList=some z)
  (h:Ej f p z E H= .ok v H'):dI P o a w (c6 ρ C w H v H'):=by
 replace h:=gV h;obtain⟨fs,A,h⟩:=h
 replace h:=gV h;obtain⟨vs,K,h⟩:=h
 cases h
 have h0:=F.cR I A
 have L:=F.cR J K
 refine eK (cv:=.func (.func f) (first.map a.eval) (dM.map a.eval)) (by simp[execOp,ho,Instr.makeFunc]) G ?_
 simp only[VR]
 exact⟨_,_,rfl,by simpa using h0,by simpa using L⟩
theorem mkif_sound(z:AR P ρ nt E a)(A:R ρ C w){t:TypeId}{x:Operand}{p:aM}{d:TypeDesc}(ho:o.op= .makeInterface t x)(F:P.underlying t=some d)(G:∀ms,d≠.interface ms)(I:cB P x=some p)
  (h:Ek t p E H= .ok v H'):dI P o a w (c6 ρ C w H v H'):=by
 replace h:=dG h;obtain⟨u,J,h⟩:=h
 cases h
 have K:=z.bU I J
 refine eK (cv:=.iface t (a.eval x)) ?_ A ?_
 ·cases d<;>first|exact absurd rfl (G _)|simp[execOp,ho,Instr.makeInterface,run_underlying F]
 simp only[VR]
 exact⟨_,rfl,K⟩
end
section
variable{P:Program}{ρ:Ho}{nt:Nat}{E:Env}{a:Act}{C:Nat→Option cZ}{w:World}{H H':aC}{v:aw}{o:Oper}
theorem sM{t:TypeId}{n:Nat}(h:gK P t=some n):∃i d,P.info? t=some i∧P.underlying t=some d∧i.size=n∧n≠0:=by
 unfold gK at h
 split at h
 ·rename_i i d hi p
  split at h
  ·rename_i z
   cases h
   exact⟨i,d,hi,p,rfl,z⟩
  cases h
 cases h
theorem sJ{t:TypeId}{n:Nat}(h:gK P t=some n)(w:World):(sizeOf t).run P w= .ok n w:=by
 obtain⟨i,d,hi,_,e,_⟩:=sM h
 simp[sizeOf,typeInfo,hi,e]
theorem Lp{t:TypeId}{n:Nat}(h:gK P t=some n)(w:World):(isAgg t).run P w= .ok (o0 P t) w:=by
 obtain⟨i,d,_,p,_,_⟩:=sM h
 unfold isAgg o0
 rw[p]
 cases d<;>simp[run_underlying p]
theorem Vg{t:TypeId}{n off e:Nat}{l:List aw}{cs:Array Value}(K:gK P t=some n)(L:cm ρ l cs.toList)(z:l.all fb=true)(hle:off+n≤l.length)
  (h:fD (o0 P t) ((l.drop off).take n) (.err e) (fun v=>.ok v H)= .ok v H'):H'=H∧∃cv,(part t cs off).run P w= .ok cv w∧VR ρ v cv:=by
 replace h:=Ma h
 have F:=sJ K w
 have p:=Lp K w
 rcases h with⟨G,h⟩|⟨x,G,M,h⟩
 ·cases h
  refine⟨rfl,.agg (cs.extract off (off+n)),?_,?_⟩
  ·rw[G] at p
   simp[part,p,F]
  simp only[VR]
  refine⟨_,rfl,?_,?_⟩
  ·have O:(cs.extract off (off+n)).toList=(cs.toList.drop off).take n:=by
    rw[Qp,aab,show off+n-off=n by omega]
   rw[O]
   exact(L.drop off).take n
  rw[J4] at z⊢
  exact fun x I=>z x (J5 (J6 I))
 cases h
 have I:l[off]?=some v:=by
  have A:((l.drop off).take n)[0]?=some v:=by rw[M];rfl
  rw[yG] at A
  split at A
  ·rw[Fm] at A
   simpa using A
  cases A
 obtain⟨y,U,k⟩:=L.get off v I
 have J:cs[off]?=some y:=by simpa using U
 refine⟨rfl,y,?_,k⟩
 rw[G] at p
 simp[part,p,J]
theorem sub_sound(J:AR P ρ nt E a)(K:R ρ C w){s:TypeId}{x:Operand}{f n:Nat}{I:aM}{fs:Array Field}{p:Field}(ho:o.op= .field s x f)(L:cB P x=some I)
  (M:P.underlying s=some (.struct fs)) (O:fs[f]?=some p) (U:gK P p.type=some n) (h:FH I p.offset n (o0 P p.type) E H= .ok v H'):dI P o a w (c6 ρ C w H v H'):=by
 replace h:=dG h;obtain⟨u,Y,h⟩:=h
 replace h:=UG h;obtain⟨l,rfl,h⟩:=h
 replace h:=dR h;obtain⟨z,h⟩:=h
 rw[ny] at z
 have z:=aX z
 have A:=J.bU L Y
 simp only[VR] at A
 obtain⟨vs,A,Z,F⟩:=A
 obtain⟨rfl,cv,hc,G⟩:=Vg (P:=P) (ρ:=ρ) (w:=w) U Z F z h
 exact eK (by simp[execOp,ho,A,Instr.field,run_underlying M,O,asAgg,hc]) K G
theorem idxArr_sound(G:AR P ρ nt E a)(K:R ρ C w){t e:TypeId}{x i:Operand}{I J:aM}{k n:Nat}(ho:o.op= .indexAddr t x i)(L:cB P x=some I)(hi:cB P i=some J)
  (M:P.underlying t=some (.array k e)) (O:gK P e=some n) (h:De k n I J E H= .ok v H'):dI P o a w (c6 ρ C w H v H'):=by
 replace h:=dG h;obtain⟨u,U,h⟩:=h
 replace h:=xm h;obtain⟨f1,g1,Y,rfl,h⟩:=h
 replace h:=dG h;obtain⟨u2,z,h⟩:=h
 replace h:=Ip h;obtain⟨kd,j,rfl,Z,h⟩:=h
 rw[eP] at h
 cases h
 have p:=G.bU L U
 have h2:=G.bU hi z
 simp only[VR] at p h2
 obtain⟨A,hh,p⟩:=p
 have F:(j:Int)<(k:Int):=by omega
 refine eK (cv:=.pointer (some ⟨A.bW,A.off+(Y+j*n),none⟩)) ?_ K ?_
 ·simp[execOp,ho,p,h2,Instr.indexAt,run_underlying M,asIntOf,Instr.sureAddr,sJ O,Addr.add_lit,kz,F,Z]
 simp only[VR]
 exact⟨A,hh,rfl⟩
theorem idxSl_sound(G:AR P ρ nt E a)(L:R ρ C w){t e:TypeId}{x i:Operand}{I J:aM}{n:Nat}(ho:o.op= .indexAddr t x i)(M:cB P x=some I)(hi:cB P i=some J)
  (O:P.underlying t=some (.slice e)) (U:gK P e=some n) (h:DA n I J E H= .ok v H'):dI P o a w (c6 ρ C w H v H'):=by
 replace h:=dG h;obtain⟨u,Y,h⟩:=h
 replace h:=uM h
 rcases h with⟨_,h⟩|⟨f1,g1,Z,l1,es,rfl,h⟩
 ·cases h
 replace h:=dG h;obtain⟨u2,z,h⟩:=h
 replace h:=Ip h;obtain⟨kd,j,rfl,hj,h⟩:=h
 rw[eP] at h
 cases h
 have p:=G.bU M Y
 have h2:=G.bU hi z
 simp only[VR] at p h2
 obtain⟨A,ad,cap,hh,p,RW,K⟩:=p
 rcases K with⟨rfl,K⟩|⟨hz,_⟩
 ·have F:(j:Int)<(l1:Int):=by omega
  refine eK (cv:=.pointer (some ⟨A.bW,A.off+(Z+j*n),none⟩)) ?_ L ?_
  ·simp[execOp,ho,p,h2,Instr.indexAt,run_underlying O,asIntOf,Instr.sureAddr,sJ U,Addr.add_lit,kz,F,hj]
  simp only[VR]
  exact⟨A,hh,rfl⟩
 omega
theorem idxVal_sound(K:AR P ρ nt E a)(U:R ρ C w){t e:TypeId}{x i:Operand}{L M:aM}{k n:Nat}(ho:o.op= .index t x i)(Y:cB P x=some L)(hi:cB P i=some M)
  (Z:P.underlying t=some (.array k e)) (O:gK P e=some n) (h:Df k n (o0 P e) L M E H= .ok v H'):dI P o a w (c6 ρ C w H v H'):=by
 replace h:=dG h;obtain⟨u,hu,h⟩:=h
 replace h:=UG h;obtain⟨l,rfl,h⟩:=h
 replace h:=dG h;obtain⟨u2,A,h⟩:=h
 replace h:=Ip h;obtain⟨kd,j,rfl,hj,h⟩:=h
 replace h:=dR h;obtain⟨p,h⟩:=h
 rw[ny] at p
 have p:=aX p
 have z:=K.bU Y hu
 have h2:=K.bU hi A
 simp only[VR] at z h2
 obtain⟨vs,z,hv,F⟩:=z
 have G:(j:Int)<(k:Int):=by omega
 obtain⟨rfl,cv,hc,I⟩:=Vg (P:=P) (ρ:=ρ) (w:=w) O hv F p h
 have J:(part e vs (j*n)).run P w= .ok cv w:=hc
 exact eK (by simp[execOp,ho,z,h2,Instr.index,asIntOf,run_underlying Z,sJ O,G,hj,J]) U I
theorem idxStr_sound(F:AR P ρ nt E a)(J:R ρ C w){t:TypeId}{x i:Operand}{G I:aM}(ho:o.op= .index t x i)(K:cB P x=some G)(hi:cB P i=some I)
  (L:P.underlying t=some .string) (h:Dg G I E H= .ok v H'):dI P o a w (c6 ρ C w H v H'):=by
 replace h:=dG h;obtain⟨u,M,h⟩:=h
 replace h:=Az h;obtain⟨l,s,rfl,h⟩:=h
 replace h:=dG h;obtain⟨u2,z,h⟩:=h
 replace h:=Ip h;obtain⟨Z,j,rfl,hj,h⟩:=h
 rw[eP] at h
 cases h
 have p:=F.bU K M
 have h2:=F.bU hi z
 simp only[VR] at p h2
 obtain⟨b,p,rfl,rfl⟩:=p
 have O:b.size=b.data.toList.length:=by rw[ml];rfl
 have A:j<b.data.toList.length:=by omega
 have U:b[j]?=some (b.data.toList[j]):=by
  rw[getElem?_pos b j ax]
  rfl
 refine eK (cv:=.int .u8 (xG (pack b.data.toList) j)) ?_ J (by simp only[VR];rfl)
 rw[Tj _ _ A]
 have Y:(0:Int)≤(j:Int):=by omega
 simp only[execOp,ho,p,h2,Instr.index,asIntOf,Sem.run_bind,Sem.run_pure,Result.andThen_ok,run_underlying L,bE Y,BT,U]
end
section
variable{P:Program}{ρ:Ho}{nt:Nat}{E:Env}{a:Act}{C:Nat→Option cZ}{w:World}{H H':aC}{v:aw}{o:Oper}
theorem Mb(I:AR P ρ nt E a){x:Option Operand}{F:Option aM}{d y n:Nat}{k:Nat→aF}(p:nB P x=some F)(h:dK E F d y (.err n) k= .ok v H')(J:d≤y):
  ∃i:Nat,i≤y∧k i= .ok v H'∧((x=none∧i=d)∨∃z A,x=some z∧a.eval z= .int A i):=by
 replace h:=WO h
 rcases h with⟨rfl,h⟩|⟨z,A,i,rfl,K,hi,h⟩
 ·refine⟨d,J,h,.inl ⟨?_,rfl⟩⟩
  cases x with
  |none=>rfl
  |some u=>simp only[nB] at p;split at p<;>cases p
 cases x with
 |none=>simp[nB] at p
 |some u=>
  simp only[nB] at p
  split at p
  ·rename_i M L
   cases p
   have G:=I.bU L K
   simp only[VR] at G
   exact⟨i,hi,h,.inr ⟨u,A,rfl,G⟩⟩
  cases p
theorem run_sliceBound{p:IntKind}{i y:Nat}(h:i≤y)(code:BoundsCode):(Instr.sliceBound (.int p i) y code).run P w= .ok i w:=by
 have z:(i:Int)≤(y:Int):=by omega
 simp[Instr.sliceBound,asIntOf,h]
theorem Lq(O:AR P ρ nt E a){lo hi:Option Operand}{p A:Option aM}{G y cap n:Nat}{k:Nat→Nat→aF}{KT:Bool}(I:nB P lo=some p)(J:nB P hi=some A)(K:G≤y)(hc:y≤cap)
  (h:(dK E A G y (.err n) fun h=>dK E p 0 h (.err n) fun l=>k h l)= .ok v H'):
  ∃l h:Nat,l≤h∧h≤y∧k h l= .ok v H'∧(Instr.sliceBounds KT G cap (lo.map a.eval) (hi.map a.eval) none).run P w= .ok (l,h,cap) w:=by
 obtain⟨U,Z,h,hx⟩:=Mb O J h K
 obtain⟨l,h2,h,Y⟩:=Mb O I h (mR _)
 refine⟨l,U,h2,Z,h,?_⟩
 rcases hx with⟨rfl,rfl⟩|⟨z,kd,rfl,e⟩
 ·rcases Y with⟨rfl,rfl⟩|⟨z2,L,rfl,M⟩
  ·simp[Instr.sliceBounds]
  simp[Instr.sliceBounds,M,run_sliceBound h2]
 have F:U≤cap:=by omega
 rcases Y with⟨rfl,rfl⟩|⟨z2,L,rfl,M⟩
 ·simp[Instr.sliceBounds,e,run_sliceBound F]
 simp[Instr.sliceBounds,e,M,run_sliceBound F,run_sliceBound h2]
theorem slStr_sound(J:AR P ρ nt E a)(O:R ρ C w){t:TypeId}{x:Operand}{K:aM}{lo hi:Option Operand}{p z:Option aM}(ho:o.op= .slice t x lo hi none)(U:cB P x=some K)
  (G:nB P lo=some p) (I:nB P hi=some z) (Y:P.underlying t=some .string) (h:DB K p z E H= .ok v H'):dI P o a w (c6 ρ C w H v H'):=by
 replace h:=dG h;obtain⟨u,Z,h⟩:=h
 replace h:=Az h;obtain⟨l,s,rfl,h⟩:=h
 have F:=J.bU U Z
 simp only[VR] at F
 obtain⟨b,F,rfl,rfl⟩:=F
 obtain⟨l,L,hle,M,h,A⟩:=Lq (w:=w) (KT:=false) J G I (bM _) (bM _) h
 rw[eP,eP] at h
 cases h
 have nT:b.size=b.data.toList.length:=by rw[ml];rfl
 refine eK (cv:=.string (b.extract l L)) ?_ O ?_
 ·simp[execOp,ho,F,Instr.sliceAt,Instr.slice,run_underlying Y,A]
 simp only[VR]
 refine⟨_,rfl,?_,?_⟩
 ·rw[ByteArray.size_extract]
  show L-l=_
  omega
 rw[strSub_pack]
 congr 1
 rw[ByteArray.data_extract,Qp,aab]
theorem slSl_sound(Z:AR P ρ nt E a)(hR:R ρ C w){t e:TypeId}{x:Operand}{x':aM}{n:Nat}{lo hi:Option Operand}{J K:Option aM}(ho:o.op= .slice t x lo hi none)(hx:cB P x=some x')
  (L:nB P lo=some J) (M:nB P hi=some K) (ht:P.underlying t=some (.slice e)) (hn:gK P e=some n) (h:Eh n x' J K E H= .ok v H'):dI P o a w (c6 ρ C w H v H'):=by
 replace h:=dG h;obtain⟨u,hu,h⟩:=h
 replace h:=uM h
 have F:=Z.bU hx hu
 rcases h with⟨rfl,h⟩|⟨f1,g1,o1,l1,es,rfl,h⟩
 ·simp only[VR] at F
  obtain⟨l,G,hle,p,h,z⟩:=Lq (w:=w) (KT:=true) Z L M (bM _) (bM _) h
  cases h
  have:l=0:=by omega
  subst this
  have:G=0:=by omega
  subst this
  refine eK (cv:=.slice none 0 0) ?_ hR (by simp only[VR])
  simp[execOp,ho,F,Instr.sliceAt,Instr.slice,run_underlying ht,z,sJ hn]
 replace h:=dR h;obtain⟨hb,h⟩:=h
 have:=cL hb
 subst this
 simp only[VR] at F
 obtain⟨hm,ad,cap,RX,F,A,I⟩:=F
 obtain⟨l,G,hle,p,h,z⟩:=Lq (w:=w) (KT:=true) Z L M HM (Ve A.1 A.2) h
 have p:G≤cap:=fY p (Ve A.1 A.2)
 have O:l*n+(cap-l)*n=cap*n:=by rw[←ld];congr 1;omega
 rw[eP,eP] at h
 cases h
 have U:=(sM hn)
 obtain⟨_,_,_,_,_,U⟩:=U
 refine eK (cv:=.slice (some (if cap=l then ad else ad.add (l*n))) (G-l) (cap-l)) ?_ hR ?_
 ·simp only[execOp,ho,F,Instr.sliceAt,Instr.slice,Sem.run_bind,run_underlying ht,Result.andThen_ok,z,sJ hn,Option.map_none,Sem.run_pure,rO]
  by_cases Y:cap=l<;>simp[Y]
 simp only[VR]
 refine⟨hm,_,_,RX,rfl,⟨by show G-l≤cap-l;omega,by show g1*n≤o1+l*n+(cap-l)*n;rw[kz,O];exact A.2⟩,?_⟩
 show FO hm (if cap=l then ad else ad.add (l*n)) (G-l) (cap-l) (o1+l*n) n
 unfold FO at I⊢
 rcases I with⟨rfl,I⟩|⟨hz,hc0,ho0⟩
 ·by_cases Y:cap=l
  ·rw[bE Y]
   by_cases sq:l=0
   ·left
    subst sq
    refine⟨by simp,?_⟩
    rw[Y] at I⊢
    simpa using I
   right
   refine⟨ax,ax,?_⟩
   have:0<l*n:=Nat.mul_pos ax ax
   omega
  rw[bw Y]
  left
  refine⟨by simp[Addr.add_lit,kz],?_⟩
  rw[kz,←ld,show l+(cap-l)=cap by omega]
  exact I
 right
 refine⟨ax,ax,ax⟩
theorem UJ(G:AR P ρ nt E a){x:Operand}{A:aM}{d y n:Nat}{k:Nat→aF}(I:cB P x=some A)(h:dK E (some A) d y (.err n) k= .ok v H'):
  ∃i:Nat,i≤y∧k i= .ok v H'∧∃p,a.eval x= .int p i:=by
 rcases WO h with⟨e,_⟩|⟨z,p,i,e,J,hi,h⟩
 ·cases e
 cases e
 have F:=G.bU I J
 simp only[VR] at F
 exact⟨i,hi,h,p,F⟩
theorem sl3_sound(U:AR P ρ nt E a)(hR:R ρ C w){t e:TypeId}{x:Operand}{x':aM}{n:Nat}{lo:Option Operand}{z:Option aM}{hi mx:Operand}{A F:aM}(ho:o.op= .slice t x lo (some hi) (some mx))(hx:cB P x=some x')
  (GB:nB P lo=some z) (hhi:cB P hi=some A) (RY:cB P mx=some F) (ht:P.underlying t=some (.slice e)) (hn:gK P e=some n) (h:FI n x' z A F E H= .ok v H'):dI P o a w (c6 ρ C w H v H'):=by
 replace h:=dG h;obtain⟨u,hu,h⟩:=h
 replace h:=uM h
 have Y:=U.bU hx hu
 rcases h with⟨rfl,h⟩|⟨f1,g1,o1,l1,es,rfl,h⟩
 ·cases h
 replace h:=dR h;obtain⟨hb,h⟩:=h
 have:=cL hb
 subst this
 simp only[VR] at Y
 obtain⟨hm,ad,cap,RX,Y,G,hs⟩:=Y
 obtain⟨m,zZ,h,km,em⟩:=UJ U RY h
 replace h:=dR h;obtain⟨p,h⟩:=h
 have p:=aX p
 have G:=G.1
 obtain⟨Z,I,h,kh,eh⟩:=UJ U hhi h
 obtain⟨l,CC,h,hy⟩:=Mb U GB h (mR _)
 have J:(Instr.sliceBounds true l1 cap (lo.map a.eval) (some (a.eval hi)) (some (a.eval mx))).run P w= .ok (l,Z,m) w:=by
  have K:m≤cap:=by omega
  rcases hy with⟨rfl,rfl⟩|⟨z2,kd2,rfl,e2⟩
  ·simp[Instr.sliceBounds,em,eh,run_sliceBound K,run_sliceBound I]
  simp[Instr.sliceBounds,em,eh,e2,run_sliceBound K,run_sliceBound I,run_sliceBound CC]
 rw[eP,eP] at h
 cases h
 have L:=(sM hn)
 obtain⟨_,_,_,_,_,L⟩:=L
 refine eK (cv:=.slice (some (if m=l then ad else ad.add (l*n))) (Z-l) (m-l)) ?_ hR ?_
 ·simp only[execOp,ho,Y,Instr.sliceAt,Instr.slice,Sem.run_bind,run_underlying ht,Result.andThen_ok,rO,J,sJ hn,Sem.run_pure]
  by_cases M:m=l<;>simp[M]
 simp only[VR]
 have O:l*n+(m-l)*n=m*n:=by rw[←ld];congr 1;omega
 refine⟨hm,_,_,RX,rfl,⟨by show Z-l≤m-l;omega,by show g1*n≤o1+l*n+(m-l)*n;rw[kz,O];exact p⟩,?_⟩
 show FO hm (if m=l then ad else ad.add (l*n)) (Z-l) (m-l) (o1+l*n) n
 unfold FO at hs⊢
 rcases hs with⟨rfl,hs⟩|⟨hz,hc0,ho0⟩
 ·have hmc:m*n≤cap*n:=jg _ ax
  by_cases M:m=l
  ·rw[bE M]
   by_cases sq:l=0
   ·left
    subst sq
    refine⟨by simp,?_⟩
    subst M
    simp only[pn,rP,BU]
    omega
   right
   refine⟨ax,ax,?_⟩
   have:0<l*n:=Nat.mul_pos ax ax
   omega
  rw[bw M]
  left
  refine⟨by simp[Addr.add_lit,kz],?_⟩
  rw[kz,←ld,show l+(m-l)=m by omega]
  omega
 right
 refine⟨ax,ax,ax⟩
theorem lenK_sound(p:R ρ C w){c:Call}{x:Operand}{t e:TypeId}{n:Nat}(ho:o.op= .call c)(z:c.callee= .builtin .len)(A:c.args=#[x])(F:c.argTypes[0]?=some t)(G:P.underlying t=some (.array n e))
  (h:Y0 n E H= .ok v H'):dI P o a w (c6 ρ C w H v H'):=by
 cases h
 exact eK (cv:=.int .i64 n) (by simp[execOp,ho,resolve,z,A,invoke,builtin,Builtin.len_,F,run_underlying G,goInt]) p (by simp only[VR];rfl)
theorem lenS_sound(G:AR P ρ nt E a)(I:R ρ C w){c:Call}{x:Operand}{F:aM}{t:TypeId}(ho:o.op= .call c)(J:c.callee= .builtin .len)(K:c.args=#[x])(z:cB P x=some F)
  (L:c.argTypes[0]?=some t) (M:P.underlying t=some .string) (h:Em F E H= .ok v H'):dI P o a w (c6 ρ C w H v H'):=by
 replace h:=dG h;obtain⟨u,A,h⟩:=h
 have p:=G.bU z A
 replace h:=Az h;obtain⟨l,s,rfl,h⟩:=h
 cases h
 simp only[VR] at p
 obtain⟨b,p,rfl,rfl⟩:=p
 exact eK (cv:=.int .i64 b.size) (by simp[execOp,ho,resolve,J,K,invoke,builtin,Builtin.len_,L,run_underlying M,goInt,p]) I (by simp only[VR];rfl)
theorem len_sound(M:AR P ρ nt E a)(F:R ρ C w){c:Call}{x:Operand}{G:aM}{t e:TypeId}(ho:o.op= .call c)(I:c.callee= .builtin .len)(J:c.args=#[x])(z:cB P x=some G)
  (K:c.argTypes[0]?=some t) (L:P.underlying t=some (.slice e)) (h:FJ G E H= .ok v H'):dI P o a w (c6 ρ C w H v H'):=by
 replace h:=dG h;obtain⟨u,A,h⟩:=h
 have p:=M.bU z A
 replace h:=uM h
 rcases h with⟨rfl,h⟩|⟨f,g,Y,l,es,rfl,h⟩
 ·cases h
  simp only[VR] at p
  exact eK (cv:=.int .i64 0) (by simp[execOp,ho,resolve,I,J,invoke,builtin,Builtin.len_,K,run_underlying L,goInt,p]) F (by simp only[VR];rfl)
 cases h
 simp only[VR] at p
 obtain⟨Z,ad,cap,O,p,U,hs⟩:=p
 exact eK (cv:=.int .i64 l) (by simp[execOp,ho,resolve,I,J,invoke,builtin,Builtin.len_,K,run_underlying L,goInt,p]) F (by simp only[VR];rfl)
theorem conv_sound(A:AR P ρ nt E a)(F:R ρ C w){src dst:TypeId}{k G:IntKind}{x:Operand}{p:aM}(ho:o.op= .convert src dst x)(I:cB P x=some p)(J:P.underlying src=some (.int G))(K:P.underlying dst=some (.int k))
  (h:Eo k p E H= .ok v H'):dI P o a w (c6 ρ C w H v H'):=by
 replace h:=dG h;obtain⟨u,L,h⟩:=h
 replace h:=sL h;obtain⟨M,n,rfl,h⟩:=h
 rw[sI] at h
 cases h
 have z:=A.bU I L
 simp only[VR] at z
 exact eK (cv:=.int k (k.wrap n)) (by simp[execOp,ho,z,convert,run_underlying J,run_underlying K,Conv.intToInt]) F (by simp only[VR,n9])
end
section
variable{P:Program}{ρ:Ho}{nt:Nat}{E:Env}{a:Act}{C:Nat→Option cZ}{w:World}{H H':aC}{v:aw}{o:Oper}
theorem CU(b:Nat):∀(vs:List Value)(o:Nat)(w:World),
  (w.setCells b o vs).heap.size=w.heap.size∧(∀k,k≠b→(w.setCells b o vs).heap[k]?=w.heap[k]?)∧
  (∀c e fz,w.heap[b]?=some (.cells c e fz)→∃p,(w.setCells b o vs).heap[b]?=some (.cells p e fz)∧p.size=c.size)∧
  (w.setCells b o vs).os=w.os∧(w.setCells b o vs).tape=w.tape∧(w.setCells b o vs).output=w.output
 |[],_,_=>⟨rfl,fun _ _=>rfl,fun c e fz h=>⟨c,h,rfl⟩,rfl,rfl,rfl⟩
 |v::r,o,w=>by
  obtain⟨F,h2,G,I,J,K⟩:=CU b r (o+1) (w.setCell ⟨b,o,none⟩ v)
  simp only[World.setCells]
  refine⟨F.trans (by simp[World.setCell]),fun k A=>(h2 k A).trans ?_,fun c e fz h=>?_,I,J,K⟩
  ·simp only[World.setCell,Qq]
   rw[bw (fun e=>A e.symm)]
  obtain⟨p,z,L⟩:=G (c.setIfInBounds o v) e fz (by simp[World.setCell,Qq,h])
  exact⟨p,z,by simpa using L⟩
def Ho.add(ρ:Ho)(f g:Nat)(h:Hm):Ho:=fun f' g'=>if f'=f∧g'=g then some h else ρ f' g'
theorem Ho.add_same(ρ:Ho)(f g:Nat)(h:Hm):ρ.add f g h f g=some h:=by simp[Ho.add]
theorem Ho.WR{ρ:Ho}{f g:Nat}{h:Hm}(z:∀x,ρ f g=some x→x=h):ρ.le (ρ.add f g h):=by
 intro f' g' x p
 unfold Ho.add
 split
 ·rename_i e
  obtain⟨rfl,rfl⟩:=e
  rw[z x p]
 exact p
theorem Ho.iZ{ρ:Ho}{f g f' g':Nat}{h x:Hm}(e:ρ.add f g h f' g'=some x):(f'=f∧g'=g∧x=h)∨ρ f' g'=some x:=by
 unfold Ho.add at e
 split at e
 ·rename_i k;cases e;exact .inl ⟨k.1,k.2,rfl⟩
 exact .inr e
theorem R.heap{w':World}(p:R ρ C w)(h:w'.heap=w.heap):R ρ C w':=
 ⟨fun f o e g x z=>(p.obj f o e g x z).gl (Ho.le_refl _) (by rw[h]),p.nL,fun f g x z=>by rw[h];exact p.iH f g x z,p.uniq,fun f g x z a b=>(p.ct f g x z a b).gl (cell_of_heap (w:=w) (by rw[h]))⟩
theorem R.WS(fl:Nat)(fz:Nat×Nat)(J:R ρ C w){f elem es aL n:Nat}{cs:RT}{cells:Array Value}(W:Nat→Prop)(z:∀g,ρ f g=none)(he:0<es)(nT:n*es≤cells.size)
  (KU:∀i,i<n→∃l,cs.get i=some l∧l.length=es∧∀j x,l[j]?=some x→fb x=true∧∃cv,cells[i*es+j]?=some cv∧VR ρ x cv) {w':World}
  (M:w'.heap=w.heap.push (.cells cells elem fz)) (O:∀i,i<cells.size→¬(fz.1≤i∧i<fz.2)) (U:fl=0∨fl=2→fz.1=fz.2) (h1:w'.os=w.os) (h2:w'.tape=w.tape) (h3:w'.output=w.output):
  ∃ρ',ρ' f n=some ⟨w.heap.size,0,cells.size,false,false⟩∧Ext W f (f+1) ρ ρ' w w'∧R ρ' (fun x=>if x=f then some (.row elem es aL n n fl cs) else C x) w':=by
 have hle:ρ.le (ρ.add f n ⟨w.heap.size,0,cells.size,false,false⟩):=Ho.WR fun x p=>by rw[z] at p;cases p
 have hold:∀b,b<w.heap.size→w'.heap[b]?=w.heap[b]?:=fun b I=>by rw[M,Qr,bw ax]
 have A:w'.heap[w.heap.size]?=some (.cells cells elem fz):=by rw[M];simp
 refine⟨_,Ho.add_same _ _ _ _,⟨hle,?_,?_,fun b I _=>hold b I,by rw[M];simp,yH _,h1,h2,h3⟩,⟨?_,?_,?_,?_,?_⟩⟩
 ·intro f' g' x p
  rcases Ho.iZ p with⟨rfl,_,_⟩|p
  ·exact .inr ⟨bM _,wG _⟩
  exact .inl ⟨g',x,p⟩
 ·intro f' g' x p
  rcases Ho.iZ p with⟨rfl,_,rfl⟩|p
  ·exact .inr (.inl ⟨bM _,rfl⟩)
  exact .inl p
 ·intro f' o hf g x p
  have K:(if f'=f then some (cZ.row elem es aL n n fl cs) else C f')=some o:=hf
  clear hf
  by_cases e:f'=f
  ·rw[bE e] at K
   subst e
   cases K
   rcases Ho.iZ p with⟨_,rfl,rfl⟩|p
   ·refine⟨he,fun h=>(by cases h),bM _,fun _ _=>⟨⟨cells,fz,A,by simp⟩,nT,fun i hi=>?_,fun _ i hi=>?_,fun _ i _ hi=>?_,fun _=>rfl,fun e c t fz' hc=>by rw[A] at hc;cases hc;exact .inl (U e)⟩⟩
    ·obtain⟨l,a1,a2,a3⟩:=KU i hi
     refine⟨l,a1,a2,fun j y hy=>?_⟩
     obtain⟨b1,cv,b2,b3⟩:=a3 j y hy
     refine⟨b1,cv,?_,b3.mono hle⟩
     simp only[World.cell?,A]
     simpa using b2
    ·simp only[World.frozen?,A];have:=O i (by simpa using‹_›);simp at this⊢;omega
    simp only[World.frozen?,A];have:=O i (by simpa using‹_›);simp at this⊢;omega
   rw[z] at p;cases p
  rw[bw e] at K
  rcases Ho.iZ p with⟨Y,_,_⟩|p
  ·exact absurd Y e
  exact(J.obj f' o K g x p).gl hle (hold _ (J.iH _ _ _ p))
 ·intro f1 g1 x1 f2 g2 x2 G F Z I
  have c1:=Ho.iZ G
  have c2:=Ho.iZ F
  clear G F
  rcases c1 with⟨e,_,rfl⟩|G<;>rcases c2 with⟨Y,_,rfl⟩|F
  ·exact absurd (e.trans Y.symm) Z
  ·have:=J.iH _ _ _ F
   have I:w.heap.size=x2.bW:=I
   omega
  ·have:=J.iH _ _ _ G
   have I:x1.bW=w.heap.size:=I
   omega
  exact J.nL _ _ _ _ _ _ G F Z I
 ·intro f' g' x p
  rw[M,Array.size_push]
  rcases Ho.iZ p with⟨_,_,rfl⟩|p
  ·simp
  have:=J.iH _ _ _ p
  omega
 ·intro f' g1 x1 g2 x2 G F I
  have c1:=Ho.iZ G
  have c2:=Ho.iZ F
  clear G F
  rcases c1 with⟨rfl,_,rfl⟩|G<;>rcases c2 with⟨Y,_,rfl⟩|F
  ·rfl
  ·rw[z] at F;cases F
  ·subst Y;rw[z] at G;cases G
  exact J.uniq _ _ _ _ _ G F I
 intro f' g' x p wJ RZ
 rcases Ho.iZ p with⟨_,_,rfl⟩|L
 ·cases wJ
 have k:=J.ct _ _ _ L wJ RZ
 refine CB.gl ⟨fun g2 x2 F=>?_,k.2⟩ (cell_of_heap (w:=w) ?_)
 ·rcases Ho.iZ F with⟨rfl,_,_⟩|F
  ·rw[z] at L;cases L
  exact k.1 _ _ F
 have:=J.iH _ _ _ L
 show w'.heap[x.bW]?=_
 rw[M,Qr,bw ax]
theorem R.alloc(F:R ρ C w){f elem es aL n:Nat}{cs:RT}{cells:Array Value}(W:Nat→Prop)(p:∀g,ρ f g=none)(G:0<es)(z:n*es≤cells.size)
  (A:∀i,i<n→∃l,cs.get i=some l∧l.length=es∧∀j x,l[j]?=some x→fb x=true∧∃cv,cells[i*es+j]?=some cv∧VR ρ x cv) {w':World}
  (I:w'.heap=w.heap.push (.cells cells elem)) (J:w'.os=w.os) (h2:w'.tape=w.tape) (K:w'.output=w.output):
  ∃ρ',ρ' f n=some ⟨w.heap.size,0,cells.size,false,false⟩∧Ext W f (f+1) ρ ρ' w w'∧R ρ' (fun x=>if x=f then some (.row elem es aL n n 0 cs) else C x) w':=by
 exact F.WS 0 (0,0) W p G z A I (fun i _ h=>by simp at h) (fun _=>rfl) J h2 K
theorem Hk(C:Nat→Option cZ)(H:aC)(o:cZ):dZ C H ⟨H.next+1,H.bb,H.ws,H.t.set H.next o⟩=fun x=>if x=H.next then some o else C x:=by
 funext x
 unfold dZ
 simp only[GT.c7]
 by_cases h:x=H.next
 ·subst h
  simp
 have h2:¬(H.next≤x∧x<H.next+1):=by omega
 have p:(H.t.set H.next o).get x=H.t.get x:=by rw[GT.c7,bw h]
 simp[h2,h,p]
theorem R.rd(U:R ρ C w){f g off n:Nat}{l:List aw}(Y:QG H f g off n l)(Z:C f=H.t.get f){h:Hm}(hh:ρ f g=some h)(hn:0<n):
  l.length=n∧l.all fb=true∧∀j x,l[j]?=some x→∃cv,w.cell? ⟨h.bW,h.off+off+j,none⟩=some cv∧VR ρ x cv:=by
 obtain⟨elem,es,aL,m,lo,fl,cs,x,hg,h1,h2,h3,h4,hx,M⟩:=Y
 have G:=U.obj f _ (Z.trans hg) g h hh
 obtain⟨he,wJ,_,p⟩:=G
 have p:=p h1 h2
 obtain⟨y,hy,I,J⟩:=p.cell _ h4
 have K:y=x:=by
  have:some y=some x:=hy.symm.trans hx
  cases this
  rfl
 subst K
 have O:off/es*es+off % es=off:=by rw[pj];exact J7 off es
 have hlen:l.length=n:=by
  rcases M with⟨rfl,rfl⟩|rfl
  ·exact I
  simp[I];omega
 have F:∀j z,l[j]?=some z→y[off % es+j]?=some z:=by
  intro j z A
  rcases M with⟨rfl,rfl⟩|rfl
  ·have:off % n=0:=by omega
   rw[this,fC];exact A
  rw[yG] at A
  split at A
  ·rwa [Fm] at A
  cases A
 refine⟨hlen,?_,fun j z A=>?_⟩
 ·rw[J4]
  intro z A
  obtain⟨j,hj⟩:=Qs A
  exact(J _ z (F j z hj)).1
 obtain⟨_,cv,L,hv⟩:=J _ z (F j z A)
 refine⟨cv,?_,hv⟩
 rw[show h.off+off+j=h.off+off/es*es+(off % es+j) by omega]
 exact L
end
section
variable{P:Program}{ρ:Ho}{nt:Nat}{E:Env}{a:Act}{C:Nat→Option cZ}{w:World}{H H':aC}{v:aw}{o:Oper}
def fE(ρ:Ho)(n0 n1:Nat):Prop:=∀f g,n0≤f→f<n1→ρ f g=none
theorem TC{x:aw}{l:List aw}(h:cellsOf x=some l):iB x=some l:=by
 cases x<;>simp only[cellsOf,iB,reduceCtorEq] at h⊢<;>exact h
theorem Ar{l:List aw}{vs:Array Value}(z:cm ρ l vs.toList)(A:l.all fb=true)(j:Nat)(x:aw)(p:l[j]?=some x):fb x=true∧∃cv,vs[j]?=some cv∧VR ρ x cv:=by
 obtain⟨y,F,k⟩:=z.get j x p
 exact⟨(List.all_eq_true.1 A) x (yK p),y,by simpa using F,k⟩
theorem WT(A:R ρ C w)(F:fE ρ H.next H'.next){elem es aL:Nat}{l:List aw}{vs:Array Value}(G:0<es)(I:l.length=es)(z:cm ρ l vs.toList)(J:l.all fb=true)
  (p:(execOp a.eval o).run P w= .ok (.value (.pointer (some ⟨w.heap.size,0,none⟩))) {w with heap:=w.heap.push (.cells vs elem)})
  (h:yd elem es aL l E H= .ok v H'):dI P o a w (c6 ρ C w H v H'):=by
 have h:=AA h
 cases h
 have K:vs.size=es:=by have:=z.length;rw[ml] at this;omega
 obtain⟨ρ',L,h2,M⟩:=A.alloc (f:=H.next) (elem:=elem) (es:=es) (aL:=aL) (n:=1) (cs:=.one l) (cells:=vs) (w':={w with heap:=w.heap.push (.cells vs elem)})
  (Wr ⟨H.next+1,H.bb,H.ws,H.t.set H.next (.row elem es aL 1 1 0 (.one l))⟩) (fun g=>F _ g (bM _) (wG _)) G ax
  (fun i hi=>by
   have:i=0:=by omega
   subst this
   exact⟨l,rfl,I,fun j x O=>by simpa using Ar z J j x O⟩) rfl rfl rfl rfl
 refine .inl ⟨_,_,p,ρ',?_,h2,?_⟩
 ·simp only[VR]
  exact⟨_,L,rfl⟩
 rw[Hk]
 exact M
theorem boxz_sound(J:R ρ C w)(K:fE ρ H.next H'.next){t:TypeId}{z:List aw}{i:TypeInfo}(ho:o.op= .alloc t)(p:zeroOf P t=some z)(hi:P.info? t=some i)
  (h:yd t i.size i.bytes z E H= .ok v H'):dI P o a w (c6 ρ C w H v H'):=by
 unfold zeroOf at p
 rw[hi] at p
 simp only at p
 split at p
 ·rename_i M F
  split at p
  ·rename_i O G
   split at p
   ·rename_i l L
    split at p
    ·rename_i A
     cases p
     have I:=(Hz ρ _ _ G).cells (TC L)
     refine WT J K A.2 A.1 I.1 I.2 ?_ h
     simp[execOp,ho,Instr.alloc,zeroValue,typeInfo,hi,F,newVar,newRow]
    cases p
   cases p
  cases p
 cases p
theorem box_sound(F:AR P ρ nt E a)(G:R ρ C w)(I:fE ρ H.next H'.next){t:TypeId}{x:Operand}{z:aM}{n b:Nat}(ho:o.op= .box t x)(J:cB P x=some z)(K:gK P t=some n)
  (h:FF t n b z E H= .ok v H'):dI P o a w (c6 ρ C w H v H'):=by
 replace h:=dG h;obtain⟨u,L,h⟩:=h
 replace h:=gV h;obtain⟨l,M,h⟩:=h
 replace h:=dR h;obtain⟨p,h⟩:=h
 rw[ny] at p
 have p:=cL p
 have A:=(F.bU J L).cells M
 obtain⟨_,_,_,_,_,O⟩:=sM K
 exact WT G I ax p A.1 A.2 (by simp[execOp,ho,Instr.box,newVar,newRow]) h
theorem Tk{t:TypeId}{n:Nat}(F:gK P t=some n){l:List aw}{ad:Addr}(L:l.length=n)(M:l.all fb=true)(G:∀j x,l[j]?=some x→∃cv,w.cell? (ad.add j)=some cv∧VR ρ x cv)
  {e:Nat} (h:fD (o0 P t) l (.err e) (fun v=>.ok v H)= .ok v H'):H'=H∧∃cv,(loadVar t ad).run P w= .ok cv w∧VR ρ v cv:=by
 obtain⟨vs,J⟩:∃vs:List Value,cm ρ l vs∧∀j x,vs[j]?=some x→w.cell? (ad.add j)=some x:=by
  clear h M L F
  have:∀(l:List aw)(k:Nat),(∀j x,l[j]?=some x→∃cv,w.cell? (ad.add (k+j))=some cv∧VR ρ x cv)→∃vs:List Value,cm ρ l vs∧∀j x,vs[j]?=some x→w.cell? (ad.add (k+j))=some x:=by
   intro l
   induction l with
   |nil=>intro k _;exact⟨[],rfl,fun j x z=>by simp at z⟩
   |cons y r O=>
    intro k G
    obtain⟨cv,A,h2⟩:=G 0 y rfl
    obtain⟨vs,U,Y⟩:=O (k+1) (fun j x z=>by have:=G (j+1) x (by simpa using z);rwa [show k+(j+1)=k+1+j by omega] at this)
    refine⟨cv::vs,⟨cv,vs,rfl,h2,U⟩,fun j x z=>?_⟩
    cases j with
    |zero=>simp at z;subst z;simpa using A
    |succ j=>rw[show k+(j+1)=k+1+j by omega];exact Y j x (by simpa using z)
  obtain⟨vs,A,h2⟩:=this l 0 (by simpa using G)
  exact⟨vs,A,by simpa using h2⟩
 obtain⟨I,p⟩:=J
 have hlen:vs.length=n:=I.length.trans L
 replace h:=Ma h
 rcases h with⟨K,h⟩|⟨x,K,z,h⟩
 ·cases h
  refine⟨rfl,.agg vs.toArray,?_,?_⟩
  ·have A:=Lp F w
   rw[K] at A
   have h2:=run_loadCells_list (P:=P) w ad vs p
   rw[hlen] at h2
   simp[loadVar,A,sJ F,h2]
  simp only[VR]
  exact⟨_,rfl,I,M⟩
 cases h
 subst z
 simp only[cm] at I
 obtain⟨y,t',rfl,Z,rfl⟩:=I
 refine⟨rfl,y,?_,Z⟩
 have A:=Lp F w
 rw[K] at A
 have h2:w.cell? ad=some y:=by have:=p 0 y rfl;simpa[Addr.add] using this
 simp[loadVar,A,h2]
theorem load_sound(Z:AR P ρ nt E a)(J:R ρ C w){t:TypeId}{x:Operand}{A:aM}{n:Nat}(ho:o.op= .load t x)(F:cB P x=some A)(K:gK P t=some n)
  (hC:∀f o,f∈fX (A.ev E)→(∃g h,ρ f g=some h)→H.t.get f=some o→C f=some o) (h:Ef n (o0 P t) A E H= .ok v H'):dI P o a w (c6 ρ C w H v H'):=by
 replace h:=dG h;obtain⟨u,L,h⟩:=h
 replace h:=xm h;obtain⟨f,g,off,rfl,h⟩:=h
 obtain⟨l,M,h⟩:=Pb h (by simp)
 have z:=Z.bU F L
 simp only[VR] at z
 obtain⟨O,U,z⟩:=z
 obtain⟨_,_,_,_,_,CD⟩:=sM K
 have G:C f=H.t.get f:=by
  obtain⟨_,_,_,_,_,_,_,_,Y,_⟩:=M
  exact(hC f _ (by rw[L];simp[fX]) ⟨_,_,U⟩ Y).trans Y.symm
 obtain⟨hlen,hk,hc⟩:=J.rd M G U ax
 obtain⟨rfl,cv,p,I⟩:=Tk (P:=P) (ρ:=ρ) (w:=w) (ad:=⟨O.bW,O.off+off,none⟩) K hlen hk (fun j x F=>by rw[Addr.add_lit];exact hc j x F) h
 exact eK (by simp[execOp,ho,z,Instr.loadAt,Instr.sureAddr,p]) J I
theorem S5{l new:List aw}{r n:Nat}(p:r+n≤l.length)(z:new.length=n):(dH l r new).length=l.length:=by
 unfold dH
 simp
 omega
theorem TD{l new:List aw}{r n:Nat}(G:r+n≤l.length)(p:new.length=n)(j:Nat):(dH l r new)[j]?=if r≤j∧j<r+n then new[j-r]?else l[j]?:=by
 unfold dH
 have z:(l.take r).length=r:=by simp;omega
 by_cases A:j<r
 ·rw[tn ax,yG,bE A,bw ax]
 rw[rQ ax,z]
 by_cases F:j<r+n
 ·rw[tn ax,bE ax]
 rw[rQ ax,Fm,bw ax,p]
 congr 1
 omega
theorem R.write(K:R ρ C w){f g off n:Nat}{new:List aw}{nv:List Value}(hw:aaC H f g off n new H')(hC:C f=H.t.get f){h:Hm}(hh:ρ f g=some h)(hn:0<n)
  (hv:cm ρ new nv) (hk:new.all fb=true):
  (∀j,j<n→(w.cell? ⟨h.bW,h.off+off+j,none⟩).isSome=true)∧(∀j,j<n→w.frozen? ⟨h.bW,h.off+off+j,none⟩=false)∧h.ro=false∧
  R ρ (dZ C H H') (w.setCells h.bW (h.off+off) nv):=by
 obtain⟨elem,es,aL,lo,cs,x,hg,h6,h3,h4,M,hx,rfl⟩:=hw
 have hobj:=K.obj f _ (hC.trans hg) g h hh
 obtain⟨he,wJ,_,p⟩:=hobj
 have p:=p h6 (bM _)
 have QI:off/es*es+off % es=off:=by rw[pj];exact J7 off es
 generalize hq:off/es=q at*
 generalize hr:off % es=r at*
 have G:h.ro=false:=by
  cases hr:h.ro
  ·rfl
  exact absurd (wJ hr) (by simp)
 have my:nv.length=n:=hv.length.trans M
 have hqg:(q+1)*es≤g*es:=jg es h4
 have hqe:(q+1)*es=q*es+es:=by rw[ld,yJ]
 have QJ:=p.fits
 obtain⟨y,hy,hyl,hyc⟩:=p.cell q h4
 have hxy:y=x:=by
  have:some y=some x:=hy.symm.trans hx
  cases this
  rfl
 subst hxy
 have I:∀j,j<n→(w.cell? ⟨h.bW,h.off+off+j,none⟩).isSome=true:=by
  intro j hj
  have O:r+j<y.length:=by omega
  obtain⟨_,cv,U,_⟩:=hyc (r+j) (y[r+j]) (dz O)
  rw[show h.off+off+j=h.off+q*es+(r+j) by omega,U]
  rfl
 have hfrz:∀j,j<n→w.frozen? ⟨h.bW,h.off+off+j,none⟩=false:=by
  intro j hj
  rw[kz]
  exact p.Eu rfl (off+j) ax
 obtain⟨s1,s2,s3,_,_,_⟩:=CU h.bW nv (h.off+off) w
 refine⟨I,hfrz,G,⟨fun f' o' A g' h' F=>?_,K.nL,fun f' g' h' F=>by rw[s1];exact K.iH f' g' h' F,K.uniq,fun f' g' x hx a b=>(K.ct f' g' x hx a b).gl (cell_of_heap (w:=w) (s2 _ fun e=>?_))⟩⟩
 rotate_left
 ·by_cases hf:f'=f
  ·subst hf
   have:=(K.ct _ _ _ hx a b).1 _ _ hh
   rw[G] at this;cases this
  have:=(K.nL _ _ _ _ _ _ hx hh hf e).2
  rw[G] at this;cases this
 have QK:∀z,(if n=es then new else dH y r new)=z→z.length=es∧∀j,z[j]?=if r≤j∧j<r+n then new[j-r]?else y[j]?:=by
  intro z hz
  have R0:(if n=es then new else dH y r new)=dH y r new:=by
   split
   ·rename_i e
    have hr0:r=0:=by omega
    subst hr0
    unfold dH
    rw[J8,rR,Qt ax,J9]
   rfl
  rw[R0] at hz
  subst hz
  exact⟨(S5 ax M).trans hyl,TD ax M⟩
 obtain⟨R1,hzg⟩:=QK _ rfl
 generalize (if n=es then new else dH y r new)=z at*
 by_cases hf:f'=f
 ·subst hf
  have Y:o'= .row elem es aL g g 0 (cs.set q z):=by
   have h0:(H.t.set f' (cZ.row elem es aL g g 0 (cs.set q z))).get f'=some (.row elem es aL g g 0 (cs.set q z)):=by rw[GT.c7,bE rfl]
   unfold dZ at A
   simp only at A
   rw[bw ax,h0] at A
   split at A
   ·rename_i e
    rw[hC,←e] at A
    cases A
    rfl
   cases A
   rfl
  subst Y
  have J:=K.obj f' _ (hC.trans hg) g' h' F
  refine⟨he,J.2.1,J.2.2.1,fun a1 a2=>?_⟩
  have hgg:g'=g:=by omega
  subst hgg
  have hhh:h'=h:=by rw[hh] at F;cases F;rfl
  subst hhh
  obtain⟨c,fz,hb,hbs⟩:=p.row
  obtain⟨c',GC,aaE⟩:=s3 c elem fz hb
  refine⟨⟨c',fz,GC,ax⟩,QJ,fun i hi=>?_,fun e i hi=>?_,fun e i hi uj=>?_,p.tG,fun e c1 t1 uk pH=>by rw[GC] at pH;cases pH;exact p.CA e _ _ _ hb⟩
  ·rw[RT.c7]
   by_cases Z:i=q
   ·subst Z
    rw[bE rfl]
    refine⟨z,rfl,R1,fun j u L=>?_⟩
    rw[hzg] at L
    split at L
    ·rename_i hj
     obtain⟨cv,U,hvr⟩:=hv.get _ _ L
     refine⟨(List.all_eq_true.1 hk) u (yK L),cv,?_,hvr⟩
     have GD:j-r<nv.length:=by omega
     have:=World.cell?_setCells_in h'.bW nv (h'.off+off) w (by rw[my];exact I) (j-r) GD
     rw[show h'.off+i*es+j=h'.off+off+(j-r) by omega,this,←dz GD]
     exact U
    rename_i hj
    obtain⟨k1,cv,k2,k3⟩:=hyc j u L
    refine⟨k1,cv,?_,k3⟩
    rw[World.cell?_setCells_out _ _ _ _ _ (fun _ _=>by simp only;omega)]
    exact k2
   rw[bw Z]
   obtain⟨l,l1,l2,l3⟩:=p.cell i hi
   refine⟨l,l1,l2,fun j u L=>?_⟩
   obtain⟨k1,cv,k2,k3⟩:=l3 j u L
   refine⟨k1,cv,?_,k3⟩
   have hjes:j<es:=by
    rw[←l2]
    rcases Nat.lt_or_ge j l.length with h|h
    ·exact h
    rw[yL h] at L;cases L
   rw[World.cell?_setCells_out _ _ _ _ _ (fun _ _=>?_)]
   ·exact k2
   simp only
   rcases Nat.lt_or_gt_of_ne Z with O|KV
   ·left
    have:=jg es (show i+1≤q from O)
    rw[ld,yJ] at this
    omega
   right
   have:=jg es (show q+1≤i from KV)
   omega
  ·rw[World.frozen?_setCells];exact p.Eu e i hi
  rw[World.frozen?_setCells];exact p.Bj e i hi uj
 have Y:C f'=some o':=by
  have h0:(H.t.set f (cZ.row elem es aL g g 0 (cs.set q z))).get f'=H.t.get f':=by rw[GT.c7,bw hf]
  unfold dZ at A
  simp only at A
  rw[bw ax,bE h0] at A
  exact A
 refine(K.obj f' o' Y g' h' F).gl (Ho.le_refl _) (s2 _ fun e=>?_)
 have:=K.nL _ _ _ _ _ _ F hh hf e
 rw[G] at this
 exact absurd this.2 (by simp)
theorem run_storeVar{t:TypeId}{n:Nat}(z:gK P t=some n){b base:Nat}{u:Value}(p:u.cells.size=n)(A:∀x∈u.cells.toList,x.oneCell'=true)
  (F:∀j,j<n→(w.cell? ⟨b,base+j,none⟩).isSome=true) (G:∀j,j<n→w.frozen? ⟨b,base+j,none⟩=false):
  (storeVar t ⟨b,base,none⟩ u).run P w= .ok () (w.setCells b base u.cells.toList):=by
 have hlen:u.cells.toList.length=n:=by rw[ml];exact p
 have:=run_storeCells_cells (P:=P) b base u.cells.toList 0 w (by rw[hlen];simpa using F) (by rw[hlen];simpa using G) A
 simp only[rP] at this
 simp[storeVar,sJ z,p,this]
theorem Lr{x:aw}{y:Value}(h:VR ρ x y)(p:fb x=true):y.oneCell'=true:=by
 have:=h.noAgg p
 cases y<;>first|rfl|(exact absurd rfl (this.1 _))|(exact absurd rfl (this.2 _))
theorem cm.LP:∀{l:List aw}{vs:List Value},cm ρ l vs→l.all fb=true→∀x∈vs,x.oneCell'=true
 |[],vs,h,_,x,p=>by simp only[cm] at h;subst h;cases p
 |a::r,vs,h,z,x,p=>by
  simp only[cm] at h
  obtain⟨v,t,rfl,A,h2⟩:=h
  simp only[J',ep] at z
  cases p with
  |head=>exact Lr A z.1
  |tail _ p=>exact cm.LP h2 z.2 x p
theorem store_sound(Z:AR P ρ nt E a)(hR:R ρ C w){t:TypeId}{x z:Operand}{J z':aM}{n:Nat}(ho:o.op= .store t x z)(hx:cB P x=some J)(hz:cB P z=some z')(hn:gK P t=some n)
  (hC:∀f o,f∈fX (J.ev E)→(∃g h,ρ f g=some h)→H.t.get f=some o→C f=some o) (h:Dz n J z' E H= .ok v H'):dI P o a w (c6 ρ C w H v H'):=by
 replace h:=dG h;obtain⟨u,hu,h⟩:=h
 replace h:=xm h;obtain⟨f,g,off,rfl,h⟩:=h
 replace h:=dG h;obtain⟨u2,K,h⟩:=h
 replace h:=gV h;obtain⟨l,hl,h⟩:=h
 obtain⟨H1,G,h⟩:=Ey h
 cases h
 have I:=Z.bU hx hu
 have h2:=Z.bU hz K
 simp only[VR] at I
 obtain⟨p,L,I⟩:=I
 obtain⟨_,_,_,_,_,CD⟩:=sM hn
 have A:=h2.cells hl
 have R2:l.length=n:=by obtain⟨_,_,_,_,_,_,_,_,_,_,M,_⟩:=G;exact M
 have O:(a.eval z).cells.size=n:=by have:=A.1.length;rw[ml] at this;omega
 have U:C f=H.t.get f:=by
  obtain⟨_,_,_,_,_,_,hg,_⟩:=G
  exact(hC f _ (by rw[hu];simp[fX]) ⟨_,_,L⟩ hg).trans hg.symm
 obtain⟨k1,k2,k3,k4⟩:=hR.write G U L ax A.1 A.2
 have F:=run_storeVar (P:=P) (w:=w) hn (b:=p.bW) (base:=p.off+off) O (A.1.LP A.2) k1 k2
 obtain⟨s1,s2,s3,s4,s5,s6⟩:=CU p.bW (a.eval z).cells.toList (p.off+off) w
 refine .inr (.inl ⟨w.setCells p.bW (p.off+off) (a.eval z).cells.toList,?_,ρ,by simp only[VR],?_,k4⟩)
 ·simp[execOp,ho,I,Instr.storeAt,Instr.sureAddr,F]
 obtain⟨_,_,_,_,_,_,_,_,_,_,_,_,rfl⟩:=G
 refine⟨Ho.le_refl _,fun f g h e=>.inl ⟨g,h,e⟩,fun _ _ _ e=>.inl e,fun b hb hf=>?_,by rw[s1];exact bM _,bM _,s4,s5,s6⟩
 refine s2 b fun e=>?_
 refine hf f g p L k3 ?_ e.symm
 unfold Wr
 simp only[uP]
 by_cases Y:f<H.bb
 ·exact .inl (.inr ⟨trivial,Y⟩)
 exact .inr ax
end
section
variable{P:Program}{ρ:Ho}{nt:Nat}{E:Env}{a:Act}{C:Nat→Option cZ}{w:World}{H H':aC}{v:aw}{o:Oper}
theorem HA:∀{n:Nat}{H:aC}{f g es off:Nat}{l:List (List aw)},elems H f g es n off=some l→l.length=n∧∀i x,l[i]?=some x→QG H f g (off+i*es) es x
 |0,H,f,g,es,off,l,h=>by cases h;exact⟨rfl,fun i x p=>by simp at p⟩
 |n+1,H,f,g,es,off,l,h=>by
  have h:rd H f g off es none (fun l=>ob (elems H f g es n (off+es)) none fun r=>some (l::r))=some l:=h
  obtain⟨x,p,h⟩:=Pb h (by simp)
  obtain⟨r,A,h⟩:=AU h
  cases h
  obtain⟨F,h2⟩:=HA A
  refine⟨by simp[F],fun i y z=>?_⟩
  cases i with
  |zero=>simp at z;subst z;simpa using p
  |succ i=>have:=h2 i y (by simpa using z);rwa [show off+es+i*es=off+(i+1)*es by rw[ld];omega] at this
theorem uN:∀(l:List (List aw))(t:RT)(i k:Nat),(ia l t i).get k=if i≤k∧k<i+l.length then l[k-i]?else t.get k
 |[],t,i,k=>by
  show t.get k=_
  rw[bw (by simp)]
 |x::r,t,i,k=>by
  have step:ia (x::r) t i=ia r (t.set i x) (i+1):=rfl
  rw[step,uN r,RT.c7]
  simp only[kZ]
  by_cases h:k=i
  ·subst h
   rw[bw ax,bE rfl,bE ax]
   simp
  rw[bw h]
  by_cases h2:i+1≤k∧k<i+1+r.length
  ·rw[bE h2,bE ax]
   rw[show k-i=(k-(i+1))+1 by omega,aac]
  rw[bw h2,bw ax]
structure Flat(ρ:Ho)(es:Nat)(l:List (List aw))(news:List Value):Prop where
 len:news.length=l.length*es
 one:∀u∈news,u.oneCell'=true
 get:∀i x,l[i]?=some x→x.length=es∧∀j y,x[j]?=some y→fb y=true∧∃cv,news[i*es+j]?=some cv∧VR ρ y cv
theorem q8{α:Type}{l:List α}{i:Nat}{x:α}(h:l[i]?=some x):i<l.length:=by
 rcases Nat.lt_or_ge i l.length with h'|h'
 ·exact h'
 rw[yL h'] at h;cases h
theorem Flat.of_elems(hR:R ρ C w){f g es off n:Nat}{l:List (List aw)}(hl:elems H f g es n off=some l)(hC:∀o,H.t.get f=some o→C f=some o){h:Hm}(hh:ρ f g=some h)(L:0<es):
  l.length=n∧∃news,Flat ρ es l news∧∀j u,news[j]?=some u→w.cell? ⟨h.bW,h.off+off+j,none⟩=some u:=by
 obtain⟨hlen,p⟩:=HA hl
 refine⟨hlen,(List.range (l.length*es)).map fun q=>(w.cell? ⟨h.bW,h.off+off+q,none⟩).getD undef,?_⟩
 have key:∀i x,l[i]?=some x→x.length=es∧∀j y,x[j]?=some y→fb y=true∧∃cv,w.cell? ⟨h.bW,h.off+off+(i*es+j),none⟩=some cv∧VR ρ y cv:=by
  intro i x A
  have M:C f=H.t.get f:=by
   obtain⟨_,_,_,_,_,_,_,_,hg,_⟩:=p i x A
   exact(hC _ hg).trans hg.symm
  obtain⟨F,h2,h3⟩:=hR.rd (p i x A) M hh L
  refine⟨F,fun j y G=>⟨(List.all_eq_true.1 h2) y (yK G),?_⟩⟩
  obtain⟨cv,O,hv⟩:=h3 j y G
  exact⟨cv,by rw[show h.off+off+(i*es+j)=h.off+(off+i*es)+j by omega];exact O,hv⟩
 have cellAt:∀q,q<l.length*es→∃cv,w.cell? ⟨h.bW,h.off+off+q,none⟩=some cv∧cv.oneCell'=true:=by
  intro q U
  have hi:q/es<l.length:=by
   rw[aad L]
   exact U
  have I:q % es<es:=yE _ L
  obtain⟨F,h2⟩:=key (q/es) _ (dz hi)
  obtain⟨z,cv,J,Y⟩:=h2 (q % es) _ (dz (by rw[F];exact I))
  refine⟨cv,?_,Lr Y z⟩
  have:q/es*es+q % es=q:=by rw[pj];exact J7 q es
  rwa [this] at J
 refine⟨⟨by simp,fun u K=>?_,fun i x A=>?_⟩,fun j u K=>?_⟩
 ·obtain⟨q,U,rfl⟩:=List.mem_map.1 K
  obtain⟨cv,z,J⟩:=cellAt q (List.mem_range.1 U)
  rw[z]
  exact J
 ·obtain⟨F,h2⟩:=key i x A
  refine⟨F,fun j y G=>?_⟩
  obtain⟨z,cv,J,Y⟩:=h2 j y G
  refine⟨z,cv,?_,Y⟩
  have Z:i*es+j<l.length*es:=by
   have h4:=q8 A
   have h5:=q8 G
   have:=jg es (show i+1≤l.length from h4)
   rw[ld,yJ] at this
   omega
  simp[Z,J]
 have I:=q8 K
 simp at I
 obtain⟨cv,z,_⟩:=cellAt j I
 simp[I,z] at K
 rw[z,K]
theorem R.grow(K:R ρ C w){f m k elem es aL lJ lo fl:Nat}{cs:RT}{new:List (List aw)}{news:List Value}(W:Nat→Prop)(hWf:W f){w':World}{h h2:Hm}
  (hC:C f=some (.row elem es aL m lo fl cs)) (hh:ρ f m=some h) (hk:new.length=k) (hk0:0<k) (GB:lo≤m) (wK:fl≠1) (hF:Flat ρ es new news)
  (nT:w.heap.size≤w'.heap.size) (h1:w'.os=w.os) (h2':w'.tape=w.tape) (h3:w'.output=w.output)
  (I:∀b,b<w.heap.size→b≠h.bW→w'.heap[b]?=w.heap[b]?)
  (L:∃c c' e fz,w.heap[h.bW]?=some (.cells c e fz)∧w'.heap[h.bW]?=some (.cells c' e fz)∧c'.size=c.size)
  (hcell:∀off,off<m*es→w'.cell? ⟨h.bW,h.off+off,none⟩=w.cell? ⟨h.bW,h.off+off,none⟩)
  (A:h2=h∨(w.heap.size≤h2.bW∧h2.ro=false)) (sr:h2.bW<w'.heap.size)
  (QL:∃c fz,w'.heap[h2.bW]?=some (.cells c elem fz)∧h2.off+h2.room≤c.size) (hfits:(m+k)*es≤h2.room)
  (hold:∀off,off<m*es→w'.cell? ⟨h2.bW,h2.off+off,none⟩=w.cell? ⟨h.bW,h.off+off,none⟩)
  (QK:∀j,j<k*es→w'.cell? ⟨h2.bW,h2.off+m*es+j,none⟩=news[j]?)
  (CE:h2≠h→h2.off=0∧(∀i,w'.frozen? ⟨h2.bW,i,none⟩=false)∧∀c e fz,w'.heap[h2.bW]?=some (.cells c e fz)→fz.1=fz.2):
  ∃ρ',ρ' f (m+k)=some h2∧Ext W H.next H.next ρ ρ' w w'∧R ρ' (fun x=>if x=f then some (.row elem es lJ (m+k) lo fl (ia new cs m)) else C x) w':=by
 obtain⟨he,Y,_,z⟩:=K.obj f _ hC m h hh
 have z:=z GB (bM _)
 have J:h.ro=false:=by
  cases hr:h.ro
  ·rfl
  exact absurd (Y hr) wK
 have aaF:h2.ro=false:=by
  rcases A with rfl|⟨_,e⟩
  ·exact J
  exact e
 have hnone:∀x,ρ f (m+k)=some x→x=h2:=fun x p=>by
  obtain⟨_,_,hle,_⟩:=K.obj f _ hC (m+k) x p
  omega
 have hle:ρ.le (ρ.add f (m+k) h2):=Ho.WR hnone
 have aaG:∀f' g' x,ρ f' g'=some x→f'≠f→w'.heap[x.bW]?=w.heap[x.bW]?:=by
  intro f' g' x p F
  refine I _ (K.iH _ _ _ p) fun e=>?_
  have:=K.nL _ _ _ _ _ _ p hh F e
  rw[J] at this
  exact absurd this.2 (by simp)
 have aaH:∀i,w'.frozen? ⟨h.bW,i,none⟩=w.frozen? ⟨h.bW,i,none⟩:=by
  intro i
  obtain⟨c,c',e,fz,k1,k2,_⟩:=L
  simp only[World.frozen?,k1,k2]
 refine⟨_,Ho.add_same _ _ _ _,⟨hle,?_,?_,?_,nT,bM _,h1,h2',h3⟩,⟨?_,?_,?_,?_,?_⟩⟩
 ·intro f' g' x p
  rcases Ho.iZ p with⟨rfl,_,_⟩|p
  ·exact .inl ⟨m,h,hh⟩
  exact .inl ⟨g',x,p⟩
 ·intro f' g' x p
  rcases Ho.iZ p with⟨rfl,_,rfl⟩|p
  ·rcases A with rfl|⟨a1,a2⟩
   ·exact .inr (.inr ⟨m,x,hh,rfl,rfl⟩)
   exact .inr (.inl ⟨a1,a2⟩)
  exact .inl p
 ·intro b O hf
  exact I b O fun e=>hf f m h hh J hWf e.symm
 ·intro f' o hf0 g x p
  have CF:(if f'=f then some (cZ.row elem es lJ (m+k) lo fl (ia new cs m)) else C f')=some o:=hf0
  clear hf0
  by_cases e:f'=f
  ·rw[bE e] at CF
   subst e
   cases CF
   rcases Ho.iZ p with⟨_,rfl,rfl⟩|p
   ·refine⟨he,(fun e=>by rw[aaF] at e;cases e),bM _,fun _ _=>⟨QL,hfits,fun i hi=>?_,fun e i hi=>?_,fun e i hi uj=>?_,fun e=>(Classical.em (x=h)).elim (fun G=>G▸z.tG e) (fun G=>(CE G).1),fun e=>(Classical.em (x=h)).elim (fun G c1 t1 uk M=>by
     obtain⟨c,c',t2,fz,q1,q2,_⟩:=L
     rw[G,q2] at M
     cases M
     have:=jg es (show m≤m+k by omega)
     exact(z.CA e _ _ _ q1).imp_right (fun g=>by omega)) (fun G c1 t1 uk M=>.inl ((CE G).2.2 _ _ _ M))⟩⟩
    ·rw[uN]
     by_cases him:i<m
     ·rw[bw ax]
      obtain⟨l,l1,l2,l3⟩:=z.cell i him
      refine⟨l,l1,l2,fun j u hu=>?_⟩
      obtain⟨k1,cv,k2,k3⟩:=l3 j u hu
      refine⟨k1,cv,?_,k3.mono hle⟩
      have hj:=q8 hu
      have:=jg es (show i+1≤m from him)
      rw[ld,yJ] at this
      rw[kz,hold (i*es+j) ax,←kz]
      exact k2
     rw[bE ax]
     have hik:i-m<new.length:=by omega
     obtain⟨l1,l2⟩:=hF.get (i-m) _ (dz hik)
     refine⟨_,dz hik,l1,fun j u hu=>?_⟩
     obtain⟨k1,cv,k2,k3⟩:=l2 j u hu
     refine⟨k1,cv,?_,k3.mono hle⟩
     have hj:=q8 hu
     have hjj:=q8 k2
     rw[hF.len,hk] at hjj
     have U:i*es=m*es+(i-m)*es:=by rw[←ld];congr 1;omega
     rw[show x.off+i*es+j=x.off+m*es+((i-m)*es+j) by omega,QK _ hjj]
     exact k2
    ·by_cases Z:x=h
     ·subst Z
      rw[aaH]
      exact z.Eu e i hi
     exact(CE Z).2.1 _
    by_cases Z:x=h
    ·subst Z
     rw[aaH]
     refine z.Bj e i ?_ uj
     have:=jg es (show m≤m+k by omega)
     omega
    exact(CE Z).2.1 _
   obtain⟨_,r1,r2,r3⟩:=K.obj f' _ hC g x p
   refine⟨he,r1,ax,fun a1 _=>?_⟩
   have r3:=r3 a1 r2
   have hheap:(∃c c' e fz,w.heap[x.bW]?=some (.cells c e fz)∧w'.heap[x.bW]?=some (.cells c' e fz)∧c'.size=c.size)∧∀off,off<m*es→w'.cell? ⟨x.bW,x.off+off,none⟩=w.cell? ⟨x.bW,x.off+off,none⟩:=by
    by_cases O:x.bW=h.bW
    ·have ho:=K.uniq _ _ _ _ _ p hh O
     rw[O,ho]
     exact⟨L,hcell⟩
    have pI:=I _ (K.iH _ _ _ p) O
    obtain⟨c,fz,hc,_⟩:=r3.row
    exact⟨⟨c,c,elem,fz,hc,by rw[pI];exact hc,rfl⟩,fun off _=>cell_of_heap (w:=w) pI⟩
   obtain⟨⟨c,c',e0,fz,q1,q2,q3⟩,q4⟩:=hheap
   have hfx:∀i,w'.frozen? ⟨x.bW,i,none⟩=w.frozen? ⟨x.bW,i,none⟩:=fun i=>by simp only[World.frozen?,q1,q2]
   obtain⟨c2,fz2,p1,p2⟩:=r3.row
   rw[q1] at p1
   cases p1
   refine⟨⟨c',fz,q2,ax⟩,r3.fits,fun i hi=>?_,fun e i hi=>?_,fun e i hi uj=>?_,r3.tG,fun e c1 t1 uk M=>by
    rw[q2] at M
    cases M
    have:=jg es (show m≤m+k by omega)
    exact(r3.CA e _ _ _ q1).imp_right (fun g=>by omega)⟩
   ·rw[uN,bw ax]
    obtain⟨l,l1,l2,l3⟩:=r3.cell i hi
    refine⟨l,l1,l2,fun j u hu=>?_⟩
    obtain⟨k1,cv,k2,k3⟩:=l3 j u hu
    refine⟨k1,cv,?_,k3.mono hle⟩
    have hj:=q8 hu
    have:=jg es (show i+1≤m by omega)
    rw[ld,yJ] at this
    rw[kz,q4 (i*es+j) ax,←kz]
    exact k2
   ·rw[hfx];exact r3.Eu e i hi
   rw[hfx]
   refine r3.Bj e i ?_ uj
   have:=jg es (show m≤m+k by omega)
   omega
  rw[bw e] at CF
  rcases Ho.iZ p with⟨e',_,_⟩|p
  ·exact absurd e' e
  exact(K.obj f' o CF g x p).gl hle (aaG _ _ _ p e)
 ·intro f1 g1 x1 f2 g2 x2 U G F O
  have c1:=Ho.iZ U
  have c2:=Ho.iZ G
  clear U G
  have half:∀f' g' x,ρ f' g'=some x→f'≠f→x.bW≠h2.bW:=by
   intro f' g' x p F e
   rcases A with rfl|⟨a1,_⟩
   ·have:=K.nL _ _ _ _ _ _ p hh F e
    rw[J] at this
    exact absurd this.2 (by simp)
   have:=K.iH _ _ _ p
   omega
  rcases c1 with⟨e,_,rfl⟩|U<;>rcases c2 with⟨e',_,rfl⟩|G
  ·exact absurd (e.trans e'.symm) F
  ·exact absurd O.symm (half _ _ _ G (fun e3=>F (e.trans e3.symm)))
  ·exact absurd O (half _ _ _ U (fun e3=>F (e3.trans e'.symm)))
  exact K.nL _ _ _ _ _ _ U G F O
 ·intro f' g' x p
  rcases Ho.iZ p with⟨_,_,rfl⟩|p
  ·exact sr
  have:=K.iH _ _ _ p
  omega
 ·intro f' g1 x1 g2 x2 U G O
  have c1:=Ho.iZ U
  have c2:=Ho.iZ G
  clear U G
  have half:∀g' x,ρ f g'=some x→x.bW=h2.bW→x.off=h2.off:=by
   intro g' x p e
   rcases A with rfl|⟨a1,_⟩
   ·exact K.uniq _ _ _ _ _ p hh e
   have:=K.iH _ _ _ p
   omega
  rcases c1 with⟨e,_,rfl⟩|U<;>rcases c2 with⟨e',_,rfl⟩|G
  ·rfl
  ·subst e;exact(half _ _ G O.symm).symm
  ·subst e';exact half _ _ U O
  exact K.uniq _ _ _ _ _ U G O
 intro f' g' x p Y RZ
 rcases Ho.iZ p with⟨_,_,rfl⟩|KW
 ·rw[aaF] at Y;cases Y
 have k:=K.ct _ _ _ KW Y RZ
 have F:f'≠f:=fun e=>by
  subst e
  have:=k.1 _ _ hh
  rw[J] at this;cases this
 refine CB.gl ⟨fun g2 x2 G=>?_,k.2⟩ (cell_of_heap (w:=w) (aaG _ _ _ KW F))
 rcases Ho.iZ G with⟨e3,_,_⟩|G
 ·exact absurd e3 F
 exact k.1 _ _ G
end
end Go.Ev
