/- RetentionHeld returns true for every input and changes nothing. It holds for every input; no condition beyond the given row and card. -/
import Derived.Test.YtmpoloiempjdpaaGreatM
import Derived.Test.YtmpoloiempjdpaaGreatFacts
import Derived.Test.YtmpoloiempjdpaaGreatTw
import Derived.WalkKit
import Derived.ProofKit
import Derived.OpenShut
import Derived.Deep.DeepHandedRow
import Derived.Deep.DeepWitnessRowRef
import Derived.Lib.LaidIn
namespace Go.Proofs.YtmpoloiempjdpaaGreat
open Go Go.Ev Go.Ev.Pp Go.Ev.Rp Go.ChangeShapes Go.WideShapes Go.ChangeAt Go.RowKit
set_option linter.unusedSimpArgs false
set_option linter.unusedVariables false
set_option maxRecDepth 100000
theorem walk{H:Type}{enc:TypeId×Value→H}{W:World}{args:Array Value}{ds:List (DataW H)}{p:List MemPlace}(hA:DataW.TrodAll enc Tryz.prog W 0 (fun _=>true) true [23,24,22,22,22] args.toList ds p)
  (XC:∀(j:Nat)t v,([23,24,22,22,22]:List TypeId)[j]?=some t→args.toList[j]?=some v→Value.okWide Tryz.prog W .any 0 t v) (hsh:W.ShapedOpen Tryz.prog):
  Calls Tryz.prog 4 args W fun e w'=>e= .returned (.bool true)∧Kept W w':=by
 have o9:xZ Tryz.prog W:=fun g hg=>absurd (low▸hg) (Nat.not_lt_zero g)
 have hty:List.all [23,24,22,22,22] (gR Tryz.prog 10)=true:=by kernel_rfl
 obtain⟨hl,hfit⟩:=fits_args (m:=10) [23,24,22,22,22] args.toList ds p hA hty;obtain⟨d0,d1,d2,d3,d4,rfl⟩:∃d0 d1 d2 d3 d4,ds=[d0,d1,d2,d3,d4]:=by
  simp only[List.length_cons,List.length_nil] at hl
  cases ds with
  |nil=>simp at hl
  |cons d0 r0=>
   cases r0 with
   |nil=>simp at hl
   |cons d1 r1=>
    cases r1 with
    |nil=>simp at hl
    |cons d2 r2=>
     cases r2 with
     |nil=>simp at hl
     |cons d3 r3=>
      cases r3 with
      |nil=>simp at hl
      |cons d4 r4=>
       cases r4 with
       |nil=>exact⟨d0,d1,d2,d3,d4,rfl⟩
       |cons _ _=>simp at hl
 have f0:fk (tyRow (xH Tryz.prog 10 23)) (fD d0):=fitsRow_ok (hfit 0 23 d0 rfl rfl);rw[show tyRow (xH Tryz.prog 10 23)=[.i .u16 0 65535,.i .u16 0 65535,.i .u16 0 65535,.i .u16 0 65535,.i .u16 0 65535,.i .u16 0 65535,.i .u16 0 65535,.i .u16 0 65535] by kernel_rfl] at f0;obtain⟨x0_0,q0,e0,p0_0,f0⟩:=dw f0;obtain⟨x0_1,q0,rfl,p0_1,f0⟩:=dw f0;obtain⟨x0_2,q0,rfl,p0_2,f0⟩:=dw f0;obtain⟨x0_3,q0,rfl,p0_3,f0⟩:=dw f0;obtain⟨x0_4,q0,rfl,p0_4,f0⟩:=dw f0;obtain⟨x0_5,q0,rfl,p0_5,f0⟩:=dw f0;obtain⟨x0_6,q0,rfl,p0_6,f0⟩:=dw f0;obtain⟨x0_7,q0,rfl,p0_7,f0⟩:=dw f0;obtain rfl:=oL f0;obtain⟨z0_0,rfl,l0_0,u0_0⟩:=Ty.dV p0_0;obtain⟨z0_1,rfl,l0_1,u0_1⟩:=Ty.dV p0_1;obtain⟨z0_2,rfl,l0_2,u0_2⟩:=Ty.dV p0_2;obtain⟨z0_3,rfl,l0_3,u0_3⟩:=Ty.dV p0_3;obtain⟨z0_4,rfl,l0_4,u0_4⟩:=Ty.dV p0_4;obtain⟨z0_5,rfl,l0_5,u0_5⟩:=Ty.dV p0_5;obtain⟨z0_6,rfl,l0_6,u0_6⟩:=Ty.dV p0_6;obtain⟨z0_7,rfl,l0_7,u0_7⟩:=Ty.dV p0_7;have f1:fk (tyRow (xH Tryz.prog 10 24)) (fD d1):=fitsRow_ok (hfit 1 24 d1 rfl rfl);rw[show tyRow (xH Tryz.prog 10 24)=[.l 9223372036854775807 [.i .u16 0 65535,.i .u16 0 65535,.i .u16 0 65535,.i .u16 0 65535,.i .u16 0 65535,.i .u16 0 65535,.i .u16 0 65535,.i .u16 0 65535,.i .u16 0 65535]] by kernel_rfl] at f1;obtain⟨x1_0,q1,e1,p1_0,f1⟩:=dw f1;obtain rfl:=oL f1;obtain⟨w1,i1,l1,o1⟩:=Ty.aM p1_0;have f2:fk (tyRow (xH Tryz.prog 10 22)) (fD d2):=fitsRow_ok (hfit 2 22 d2 rfl rfl);rw[show tyRow (xH Tryz.prog 10 22)=[.i .u16 0 65535] by kernel_rfl] at f2;obtain⟨gC,q2,e2,p2_0,f2⟩:=dw f2;obtain rfl:=oL f2;obtain⟨z2_0,rfl,l2_0,u2_0⟩:=Ty.dV p2_0;have f3:fk (tyRow (xH Tryz.prog 10 22)) (fD d3):=fitsRow_ok (hfit 3 22 d3 rfl rfl);rw[show tyRow (xH Tryz.prog 10 22)=[.i .u16 0 65535] by kernel_rfl] at f3;obtain⟨p',q3,e3,p3_0,f3⟩:=dw f3;obtain rfl:=oL f3;obtain⟨z3_0,rfl,l3_0,u3_0⟩:=Ty.dV p3_0;have f4:fk (tyRow (xH Tryz.prog 10 22)) (fD d4):=fitsRow_ok (hfit 4 22 d4 rfl rfl);rw[show tyRow (xH Tryz.prog 10 22)=[.i .u16 0 65535] by kernel_rfl] at f4;obtain⟨o5,q4,e4,p4_0,f4⟩:=dw f4;obtain rfl:=oL f4;obtain⟨z4_0,rfl,l4_0,u4_0⟩:=Ty.dV p4_0;have ea:HW Tryz.prog [23,24,22,22,22] [d0,d1,d2,d3,d4]=[.agg [.d (.i .u16 z0_0),.d (.i .u16 z0_1),.d (.i .u16 z0_2),.d (.i .u16 z0_3),.d (.i .u16 z0_4),.d (.i .u16 z0_5),.d (.i .u16 z0_6),.d (.i .u16 z0_7)],.d x1_0,.d (.i .u16 z2_0),.d (.i .u16 z3_0),.d (.i .u16 z4_0)]:=by
  simp only[HW,oZ,e0,e1,e2,e3,e4,Tryz.underlying22,Tryz.underlying23,Tryz.underlying24];rfl
 refine law_runs (T:=TT) ft1_ok xt1_ok zt1_ok mix Tryz.func4 (by kernel_rfl) ftT.q4 o9 hA hty XC ?_;rw[ea];exact lawHeld ftT (sound_true (by kernel_rfl) (by kernel_rfl)) (txA zTT) l0_0 u0_0 l0_1 u0_1 l0_2 u0_2 l0_3 u0_3 l0_4 u0_4 l0_5 u0_5 l0_6 u0_6 l0_7 u0_7 l2_0 u2_0 l3_0 u3_0 l4_0 u4_0 i1 l1 o1
theorem own:ownKnob Tryz.prog.godebug=none:=by kernel_rfl
noncomputable def laidWorld(os:Os):World:=
 let n:=(World.settled Tryz.prog os).heap.size
 let w0:=World.holding Tryz.prog os ⟨#[],#[],[]⟩
 {w0 with heap:=w0.heap}
theorem laid_met(os:Os)(args:Array Value):laidMet Tryz.prog Rows.retentionHeldRow.laid ((laidWorld os).forCall (fun _ _=>0) ⟨#[],args,[]⟩).memory:=
 laidMet_of_run' 12 (by kernel_rfl) (by kernel_rfl)
theorem witness_row(os:Os){H:Type}(enc:TypeId×Value→H):
  (OpenSpec.ofChange Rows.retentionHeldSpec).preRow enc Tryz.prog Tryz.f4 Rows.retentionHeldRow.domain false Rows.retentionHeldRow.laid ((laidWorld os).forCall (fun _ _=>0) ⟨#[],#[.agg #[.int .u16 0,.int .u16 0,.int .u16 0,.int .u16 0,.int .u16 0,.int .u16 0,.int .u16 0,.int .u16 0],.slice none 0 0,.int .u16 0,.int .u16 0,.int .u16 0],[]⟩).memory #[.agg #[.int .u16 0,.int .u16 0,.int .u16 0,.int .u16 0,.int .u16 0,.int .u16 0,.int .u16 0,.int .u16 0],.slice none 0 0,.int .u16 0,.int .u16 0,.int .u16 0]:=by
 have hw:(DataW.whole enc Tryz.prog ((laidWorld os).forCall (fun _ _=>0) ⟨#[],#[.agg #[.int .u16 0,.int .u16 0,.int .u16 0,.int .u16 0,.int .u16 0,.int .u16 0,.int .u16 0,.int .u16 0],.slice none 0 0,.int .u16 0,.int .u16 0,.int .u16 0],[]⟩).memory Tryz.f4.params.toList Rows.retentionHeldSpec.vars false #[Value.agg #[.int .u16 0,.int .u16 0,.int .u16 0,.int .u16 0,.int .u16 0,.int .u16 0,.int .u16 0,.int .u16 0],Value.slice none 0 0,Value.int .u16 0,Value.int .u16 0,Value.int .u16 0].toList 12).map (fun x=>(x.1,x.2.1))=
   some ([.agg [.lit (.int .u16 0),.lit (.int .u16 0),.lit (.int .u16 0),.lit (.int .u16 0),.lit (.int .u16 0),.lit (.int .u16 0),.lit (.int .u16 0),.lit (.int .u16 0)],.nil,.lit (.int .u16 0),.lit (.int .u16 0),.lit (.int .u16 0)],[]):=by kernel_rfl
 obtain⟨⟨x1,x2,x3⟩,hx,E0⟩:=Option.map_eq_some_iff.1 hw;simp only[Prod.mk.injEq] at E0;obtain⟨rfl,rfl⟩:=E0;exact OpenSpec.preRow_of_cond 12 hx (by kernel_rfl) (fun k hk=>by cases hk) (by kernel_rfl) (laid_met os _)
theorem lifted(os:Os)(started:os.Started)(H:Type)(enc:TypeId×Value→H)(F:Stop.Interp):
  ReturnsInHanded {} Tryz.checked os 4 .any ((OpenSpec.ofChange Rows.retentionHeldSpec).preRow enc Tryz.prog Tryz.f4 Rows.retentionHeldRow.domain false Rows.retentionHeldRow.laid) (((OpenSpec.ofChange Rows.retentionHeldSpec).at F).post enc Tryz.prog Tryz.f4 false true false false):=by
 refine returnsInHanded_of_row (C:=Tryz.checked) (s:=OpenSpec.ofChange Rows.retentionHeldSpec) own started (by kernel_rfl) Tryz.func4
  (witness_row_atRef (enc:=enc) (C:=Tryz.checked) false (laidWorld os) #[.agg #[.int .u16 0,.int .u16 0,.int .u16 0,.int .u16 0,.int .u16 0,.int .u16 0,.int .u16 0,.int .u16 0],.slice none 0 0,.int .u16 0,.int .u16 0,.int .u16 0] rfl (by kernel_rfl) (by kernel_rfl) (by kernel_rfl) (witness_row os enc)) ?_
 intro W base args ds gs before hval0 hW _ _ _ _ hsh _;have hval1:∀(j:Nat)t v,Tryz.f4.params[j]?=some t→args[j]?=some v→Value.okWide Tryz.prog W .any base t v:=hval0;have hval:∀(j:Nat)t v,([23,24,22,22,22]:List TypeId)[j]?=some t→args.toList[j]?=some v→Value.okWide Tryz.prog W .any 0 t v:=fun j t v h1 h2=>Value.okWide_any_base (hval1 j t v (by rw[←Array.getElem?_toList,Tryz.params4];exact h1) (by rw[←Array.getElem?_toList];exact h2))
 have hW':=hW;obtain⟨p,q,hA0,hV,rfl,_,_⟩:=hW;have hA:DataW.TrodAll enc Tryz.prog W 0 (fun _=>true) true [23,24,22,22,22] args.toList ds p:=by
  have h:DataW.TrodAll enc Tryz.prog W 0 (fun _=>true) true Tryz.f4.params.toList args.toList ds p:=hA0;rwa [Tryz.params4] at h
 obtain⟨rfl,rfl⟩:=trodVars_none hV;have hty:List.all [23,24,22,22,22] (gR Tryz.prog 10)=true:=by kernel_rfl
 obtain⟨hl,_⟩:=fits_args (m:=10) [23,24,22,22,22] args.toList ds p hA hty;refine(walk hA hval hsh).mono fun e W'⟨he,hk⟩=>?_
 subst he;obtain⟨d0,d1,d2,d3,d4,rfl⟩:∃d0 d1 d2 d3 d4,ds=[d0,d1,d2,d3,d4]:=by
  simp only[List.length_cons,List.length_nil] at hl
  cases ds with
  |nil=>simp at hl
  |cons d0 r0=>
   cases r0 with
   |nil=>simp at hl
   |cons d1 r1=>
    cases r1 with
    |nil=>simp at hl
    |cons d2 r2=>
     cases r2 with
     |nil=>simp at hl
     |cons d3 r3=>
      cases r3 with
      |nil=>simp at hl
      |cons d4 r4=>
       cases r4 with
       |nil=>exact⟨d0,d1,d2,d3,d4,rfl⟩
       |cons _ _=>simp at hl
 have e1:((OpenSpec.ofChange Rows.retentionHeldSpec).at F).fn H ([d0,d1,d2,d3,d4]++[])={results:=[.lit (.bool true)],args:=[d0,d1,d2,d3,d4]}:=rfl;refine⟨_,rfl,_,_,_,[],p,[],hW',?_,?_,?_,hk.keptBut _,fun h=>by cases h⟩
 ·rw[e1];exact trodAll_cons_mk (shut_bool Tryz.underlying4 _) trodAll_mk0
 ·rw[e1];have h2:DataW.TrodAll enc Tryz.prog W' 0 (fun b=>decide (b<W.heap.size)) true Tryz.f4.params.toList args.toList [d0,d1,d2,d3,d4] p:=by
   rw[Tryz.params4];exact hk.rereads (fun b hb=>by simpa using hb) hty hA
  exact h2
 ·rw[e1];rfl
theorem retentionHeld_said:Rows.RetentionHeldSaid:=
 OpenClaim.holds_of_cond 4 Tryz.f4 rfl rfl rfl rfl rfl rfl rfl ⟨rfl,rfl,rfl,rfl,rfl⟩ rfl rfl rfl rfl rfl (by kernel_rfl) Tryz.func4 closed
  (of_decide_eq_true (by kernel_rfl)) (by unfold Func.isWrapper;first|(rw[if_pos (by decide+kernel)];kernel_rfl)|(rw[if_neg (by decide+kernel)];exact⟨rfl,rfl⟩))
  (fun os started H enc _ F=>by rw[OpenClaim.pre_eq_preRow];exact lifted os started H enc F)
end Go.Proofs.YtmpoloiempjdpaaGreat
