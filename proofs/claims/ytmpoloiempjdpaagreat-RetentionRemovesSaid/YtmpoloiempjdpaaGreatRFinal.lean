/- RetentionRemoves returns true for every input and changes nothing. It holds for every input; no condition beyond the given row and card. -/
import Derived.Test.YtmpoloiempjdpaaGreatRM
import Derived.Test.YtmpoloiempjdpaaGreatRFacts
import Derived.WalkKit
import Derived.ProofKit
import Derived.OpenShut
import Derived.Deep.DeepHandedRow
import Derived.Deep.DeepWitnessRowRef
import Derived.Lib.LaidIn
namespace Go.Proofs.YtmpoloiempjdpaaGreat
open Go Go.Ev Go.Ev.Pp Go.Ev.Rp Go.ChangeShapes Go.WideShapes Go.ChangeAt Go.RowKit
set_option linter.unusedSimpArgs false
set_option linter.unusedVariables false
set_option maxRecDepth 100000
theorem walk{H:Type}{enc:TypeId×Value→H}{W:World}{args:Array Value}{ds:List (DataW H)}{p:List MemPlace}(hA:DataW.TrodAll enc Tryz.prog W 0 (fun _=>true) true [23,24,22] args.toList ds p)
  (XG:∀(j:Nat)t v,([23,24,22]:List TypeId)[j]?=some t→args.toList[j]?=some v→Value.okWide Tryz.prog W .any 0 t v) (hsh:W.ShapedOpen Tryz.prog):
  Calls Tryz.prog 3 args W fun e w'=>e= .returned (.bool true)∧Kept W w':=by
 have oW:xO Tryz.prog W:=fun g hg=>absurd (low▸hg) (Nat.not_lt_zero g)
 have hty:List.all [23,24,22] (gN Tryz.prog 10)=true:=by kernel_rfl
 obtain⟨hl,hfit⟩:=fits_args (m:=10) [23,24,22] args.toList ds p hA hty;obtain⟨d0,d1,d2,rfl⟩:∃d0 d1 d2,ds=[d0,d1,d2]:=by
  simp only[List.length_cons,List.length_nil] at hl
  cases ds with
  |nil=>simp at hl
  |cons d0 r0=>
   cases r0 with
   |nil=>simp at hl
   |cons d1 r1=>
    cases r1 with
    |nil=>simp at hl
    |cons d2 r2=>
     cases r2 with
     |nil=>exact⟨d0,d1,d2,rfl⟩
     |cons _ _=>simp at hl
 have f0:e6 (Us (xq Tryz.prog 10 23)) (fr d0):=ZK (hfit 0 23 d0 rfl rfl);rw[show Us (xq Tryz.prog 10 23)=[.i .u16 0 65535,.i .u16 0 65535,.i .u16 0 65535,.i .u16 0 65535,.i .u16 0 65535,.i .u16 0 65535,.i .u16 0 65535,.i .u16 0 65535] by kernel_rfl] at f0;obtain⟨x0_0,q0,e0,p0_0,f0⟩:=dw f0;obtain⟨x0_1,q0,rfl,p0_1,f0⟩:=dw f0;obtain⟨x0_2,q0,rfl,p0_2,f0⟩:=dw f0;obtain⟨x0_3,q0,rfl,p0_3,f0⟩:=dw f0;obtain⟨x0_4,q0,rfl,p0_4,f0⟩:=dw f0;obtain⟨x0_5,q0,rfl,p0_5,f0⟩:=dw f0;obtain⟨x0_6,q0,rfl,p0_6,f0⟩:=dw f0;obtain⟨x0_7,q0,rfl,p0_7,f0⟩:=dw f0;obtain rfl:=pv f0;obtain⟨z0_0,rfl,l0_0,u0_0⟩:=Ty.dY p0_0;obtain⟨z0_1,rfl,l0_1,u0_1⟩:=Ty.dY p0_1;obtain⟨z0_2,rfl,l0_2,u0_2⟩:=Ty.dY p0_2;obtain⟨z0_3,rfl,l0_3,u0_3⟩:=Ty.dY p0_3;obtain⟨z0_4,rfl,l0_4,u0_4⟩:=Ty.dY p0_4;obtain⟨z0_5,rfl,l0_5,u0_5⟩:=Ty.dY p0_5;obtain⟨z0_6,rfl,l0_6,u0_6⟩:=Ty.dY p0_6;obtain⟨z0_7,rfl,l0_7,u0_7⟩:=Ty.dY p0_7;have f1:e6 (Us (xq Tryz.prog 10 24)) (fr d1):=ZK (hfit 1 24 d1 rfl rfl);rw[show Us (xq Tryz.prog 10 24)=[.l 9223372036854775807 [.i .u16 0 65535,.i .u16 0 65535,.i .u16 0 65535,.i .u16 0 65535,.i .u16 0 65535,.i .u16 0 65535,.i .u16 0 65535,.i .u16 0 65535,.i .u16 0 65535]] by kernel_rfl] at f1;obtain⟨ajR,q1,e1,p1_0,f1⟩:=dw f1;obtain rfl:=pv f1;obtain⟨w1,i1,l1,o1⟩:=Ty.aL p1_0;have f2:e6 (Us (xq Tryz.prog 10 22)) (fr d2):=ZK (hfit 2 22 d2 rfl rfl);rw[show Us (xq Tryz.prog 10 22)=[.i .u16 0 65535] by kernel_rfl] at f2;obtain⟨gW,q2,e2,p2_0,f2⟩:=dw f2;obtain rfl:=pv f2;obtain⟨z2_0,rfl,l2_0,u2_0⟩:=Ty.dY p2_0;have ea:HF Tryz.prog [23,24,22] [d0,d1,d2]=[.agg [.d (.i .u16 z0_0),.d (.i .u16 z0_1),.d (.i .u16 z0_2),.d (.i .u16 z0_3),.d (.i .u16 z0_4),.d (.i .u16 z0_5),.d (.i .u16 z0_6),.d (.i .u16 z0_7)],.d ajR,.d (.i .u16 z2_0)]:=by
  simp only[HF,oR,e0,e1,e2,Tryz.underlying22,Tryz.underlying23,Tryz.underlying24];rfl
 refine law_runs (T:=TT) ft1_ok xt1_ok zt1_ok mix Tryz.func3 (by kernel_rfl) ftT.q3 oW hA hty XG ?_;rw[ea];exact lawRemoves ftT (sound_true (by kernel_rfl) (by kernel_rfl)) (txA zTT) l0_0 u0_0 l0_1 u0_1 l0_2 u0_2 l0_3 u0_3 l0_4 u0_4 l0_5 u0_5 l0_6 u0_6 l0_7 u0_7 i1 l1 o1 l2_0 u2_0
theorem own:ownKnob Tryz.prog.godebug=none:=by kernel_rfl
noncomputable def laidWorld(os:Os):World:=
 let n:=(World.settled Tryz.prog os).heap.size
 let w0:=World.holding Tryz.prog os ⟨#[],#[],[]⟩
 {w0 with heap:=w0.heap}
theorem laid_met(os:Os)(args:Array Value):laidMet Tryz.prog Rows.retentionRemovesRow.laid ((laidWorld os).forCall (fun _ _=>0) ⟨#[],args,[]⟩).memory:=
 laidMet_of_run' 12 (by kernel_rfl) (by kernel_rfl)
theorem witness_row(os:Os){H:Type}(enc:TypeId×Value→H):
  (OpenSpec.ofChange Rows.retentionRemovesSpec).preRow enc Tryz.prog Tryz.f3 Rows.retentionRemovesRow.domain false Rows.retentionRemovesRow.laid ((laidWorld os).forCall (fun _ _=>0) ⟨#[],#[.agg #[.int .u16 0,.int .u16 0,.int .u16 0,.int .u16 0,.int .u16 0,.int .u16 0,.int .u16 0,.int .u16 0],.slice none 0 0,.int .u16 0],[]⟩).memory #[.agg #[.int .u16 0,.int .u16 0,.int .u16 0,.int .u16 0,.int .u16 0,.int .u16 0,.int .u16 0,.int .u16 0],.slice none 0 0,.int .u16 0]:=by
 have hw:(DataW.whole enc Tryz.prog ((laidWorld os).forCall (fun _ _=>0) ⟨#[],#[.agg #[.int .u16 0,.int .u16 0,.int .u16 0,.int .u16 0,.int .u16 0,.int .u16 0,.int .u16 0,.int .u16 0],.slice none 0 0,.int .u16 0],[]⟩).memory Tryz.f3.params.toList Rows.retentionRemovesSpec.vars false #[Value.agg #[.int .u16 0,.int .u16 0,.int .u16 0,.int .u16 0,.int .u16 0,.int .u16 0,.int .u16 0,.int .u16 0],Value.slice none 0 0,Value.int .u16 0].toList 12).map (fun x=>(x.1,x.2.1))=
   some ([.agg [.lit (.int .u16 0),.lit (.int .u16 0),.lit (.int .u16 0),.lit (.int .u16 0),.lit (.int .u16 0),.lit (.int .u16 0),.lit (.int .u16 0),.lit (.int .u16 0)],.nil,.lit (.int .u16 0)],[]):=by kernel_rfl
 obtain⟨⟨x1,x2,x3⟩,hx,EP⟩:=Option.map_eq_some_iff.1 hw;simp only[Prod.mk.injEq] at EP;obtain⟨rfl,rfl⟩:=EP;exact OpenSpec.preRow_of_cond 12 hx (by kernel_rfl) (fun k hk=>by cases hk) (by kernel_rfl) (laid_met os _)
theorem lifted(os:Os)(started:os.Started)(H:Type)(enc:TypeId×Value→H)(F:Stop.Interp):
  ReturnsInHanded {} Tryz.checked os 3 .any ((OpenSpec.ofChange Rows.retentionRemovesSpec).preRow enc Tryz.prog Tryz.f3 Rows.retentionRemovesRow.domain false Rows.retentionRemovesRow.laid) (((OpenSpec.ofChange Rows.retentionRemovesSpec).at F).post enc Tryz.prog Tryz.f3 false true false false):=by
 refine returnsInHanded_of_row (C:=Tryz.checked) (s:=OpenSpec.ofChange Rows.retentionRemovesSpec) own started (by kernel_rfl) Tryz.func3
  (witness_row_atRef (enc:=enc) (C:=Tryz.checked) false (laidWorld os) #[.agg #[.int .u16 0,.int .u16 0,.int .u16 0,.int .u16 0,.int .u16 0,.int .u16 0,.int .u16 0,.int .u16 0],.slice none 0 0,.int .u16 0] rfl (by kernel_rfl) (by kernel_rfl) (by kernel_rfl) (witness_row os enc)) ?_
 intro W base args ds gs before hval0 hW _ _ _ _ hsh _;have hval1:∀(j:Nat)t v,Tryz.f3.params[j]?=some t→args[j]?=some v→Value.okWide Tryz.prog W .any base t v:=hval0;have hval:∀(j:Nat)t v,([23,24,22]:List TypeId)[j]?=some t→args.toList[j]?=some v→Value.okWide Tryz.prog W .any 0 t v:=fun j t v h1 h2=>Value.okWide_any_base (hval1 j t v (by rw[←Array.getElem?_toList,Tryz.params3];exact h1) (by rw[←Array.getElem?_toList];exact h2))
 have hW':=hW;obtain⟨p,q,hA0,hV,rfl,_,_⟩:=hW;have hA:DataW.TrodAll enc Tryz.prog W 0 (fun _=>true) true [23,24,22] args.toList ds p:=by
  have h:DataW.TrodAll enc Tryz.prog W 0 (fun _=>true) true Tryz.f3.params.toList args.toList ds p:=hA0;rwa [Tryz.params3] at h
 obtain⟨rfl,rfl⟩:=trodVars_none hV;have hty:List.all [23,24,22] (gN Tryz.prog 10)=true:=by kernel_rfl
 obtain⟨hl,_⟩:=fits_args (m:=10) [23,24,22] args.toList ds p hA hty;refine(walk hA hval hsh).mono fun e W'⟨he,hk⟩=>?_
 subst he;obtain⟨d0,d1,d2,rfl⟩:∃d0 d1 d2,ds=[d0,d1,d2]:=by
  simp only[List.length_cons,List.length_nil] at hl
  cases ds with
  |nil=>simp at hl
  |cons d0 r0=>
   cases r0 with
   |nil=>simp at hl
   |cons d1 r1=>
    cases r1 with
    |nil=>simp at hl
    |cons d2 r2=>
     cases r2 with
     |nil=>exact⟨d0,d1,d2,rfl⟩
     |cons _ _=>simp at hl
 have e1:((OpenSpec.ofChange Rows.retentionRemovesSpec).at F).fn H ([d0,d1,d2]++[])={results:=[.lit (.bool true)],args:=[d0,d1,d2]}:=rfl;refine⟨_,rfl,_,_,_,[],p,[],hW',?_,?_,?_,hk.keptBut _,fun h=>by cases h⟩
 ·rw[e1];exact trodAll_cons_mk (shut_bool Tryz.underlying4 _) trodAll_mk0
 ·rw[e1];have h2:DataW.TrodAll enc Tryz.prog W' 0 (fun b=>decide (b<W.heap.size)) true Tryz.f3.params.toList args.toList [d0,d1,d2] p:=by
   rw[Tryz.params3];exact hk.rereads (fun b hb=>by simpa using hb) hty hA
  exact h2
 ·rw[e1];rfl
theorem retentionRemoves_said:Rows.RetentionRemovesSaid:=
 OpenClaim.holds_of_cond 3 Tryz.f3 rfl rfl rfl rfl rfl rfl rfl ⟨rfl,rfl,rfl,rfl,rfl⟩ rfl rfl rfl rfl rfl (by kernel_rfl) Tryz.func3 closed
  (of_decide_eq_true (by kernel_rfl)) (by unfold Func.isWrapper;first|(rw[if_pos (by decide+kernel)];kernel_rfl)|(rw[if_neg (by decide+kernel)];exact⟨rfl,rfl⟩))
  (fun os started H enc _ F=>by rw[OpenClaim.pre_eq_preRow];exact lifted os started H enc F)
end Go.Proofs.YtmpoloiempjdpaaGreat
