/- BinderTypes returns true for every input and changes nothing; its tied card. It holds for every input; no condition beyond the given row and card. -/
import Derived.Test.YtffkihiledcilaaGreatDoorQ
import Derived.Test.YtffkihiledcilaaGreatDoorM
import Derived.Test.YtffkihiledcilaaGreatDoorFacts
import Derived.Test.YtffkihiledcilaaGreatDoorCards
import Derived.Test.YtffkihiledcilaaGreatDoorTie
import Derived.WalkKit
import Derived.ProofKit
import Derived.OpenShut
import Derived.Deep.DeepHandedRow
import Derived.Deep.DeepWitnessRowRef
import Derived.Lib.LaidIn
namespace Go.Proofs.YtffkihiledcilaaGreatDoor
open Go Go.Ev Go.ChangeShapes Go.WideShapes Go.ChangeAt Go.RowKit
set_option maxRecDepth 100000

theorem walk {H : Type} {enc : TypeId × Value → H} {W W1 : World} {args : Array Value} {ds : List (DataW H)} {p : List MemPlace} (hA : DataW.TrodAll enc Tryz.prog W 0 (fun _ => true) true [22, 3, 4] args.toList ds p)
    (hok : ∀ (j : Nat) t v, ([22, 3, 4] : List TypeId)[j]? = some t → args.toList[j]? = some v → Value.okWide Tryz.prog W1 .any 0 t v) (hsh : W.ShapedOpen Tryz.prog) :
    Calls Tryz.prog 3 args W fun e w' => e = .returned (.bool true) ∧ Kept W w' := by
  have hin : ∀ g, g < Tryz.prog.globals.size → g < W.heap.size := low_of_shaped hsh (by kernel_rfl)
  have hz : 0 < W.heap.size := hin 0 (by rw [low]; decide)
  have hty : List.all [22, 3, 4] (tyR Tryz.prog 10) = true := by kernel_rfl
  obtain ⟨hl, hfit⟩ := fits_args (m := 10) [22, 3, 4] args.toList ds p hA hty
  obtain ⟨d0, d1, d2, rfl⟩ : ∃ d0 d1 d2, ds = [d0, d1, d2] := by
    cases ds with
    | nil => simp at hl
    | cons d0 r => cases r with
      | nil => simp at hl
      | cons d1 r => cases r with
        | nil => simp at hl
        | cons d2 r => cases r with
          | nil => exact ⟨_, _, _, rfl⟩
          | cons _ _ => simp at hl
  have f0 : fitsRow [.sl Bt.shpSch] (dcOf d0) := by have h := hfit 0 22 d0 rfl rfl; rwa [show shapes Tryz.prog 10 22 = [.sl Bt.shpSch] by kernel_rfl] at h
  have f1 : fitsRow [.i .i64] (dcOf d1) := by have h := hfit 1 3 d1 rfl rfl; rwa [show shapes Tryz.prog 10 3 = [.i .i64] by kernel_rfl] at h
  have f2 : fitsRow [.b] (dcOf d2) := by have h := hfit 2 4 d2 rfl rfl; rwa [show shapes Tryz.prog 10 4 = [.b] by kernel_rfl] at h
  obtain ⟨l, e0⟩ := Bt.fits_arg f0
  obtain ⟨t, e1, _⟩ := Bt.fits_int f1
  obtain ⟨fl, e2⟩ := Bt.fits_bool f2
  have ea : argVs Tryz.prog [22, 3, 4] [d0, d1, d2] = [.d (encSl Bt.Sch.enc l), .d (.i .i64 t), .d (.b fl)] := by
    simp only [argVs, argV, e0, e1, e2, Tryz.underlying22, Tryz.underlying3, Tryz.underlying4]
  refine law_runs (T := TT) ft1_ok xt1_ok mix Tryz.func3 fn3 (by kernel_rfl) hin hz hA hty hok ?_
  rw [ea]
  exact Bt.law (T := TT) (by kernel_rfl) (by kernel_rfl) (by kernel_rfl) (by kernel_rfl) (by kernel_rfl) (by kernel_rfl) (by kernel_rfl) (by kernel_rfl) (by kernel_rfl) (by kernel_rfl) (by kernel_rfl) (by kernel_rfl) (by kernel_rfl) (by kernel_rfl) (by kernel_rfl) (by kernel_rfl) (by kernel_rfl) (by kernel_rfl) l t fl

theorem own : ownKnob Tryz.prog.godebug = none := by kernel_rfl
/-- a world for the witness: the listed variables hold what their text lays -/
noncomputable def laidWorld (os : Os) : World :=
  let n := (World.settled Tryz.prog os).heap.size
  let w0 := World.holding Tryz.prog os ⟨#[.cells #[.string ⟨#[118, 97, 108, 117, 101, 32, 111, 117, 116, 32, 111, 102, 32, 114, 97, 110, 103, 101]⟩] 378, .cells #[.string ⟨#[105, 110, 118, 97, 108, 105, 100, 32, 115, 121, 110, 116, 97, 120]⟩] 378], #[], []⟩
  { w0 with heap := putG (putG (putG (putG (putG (putG (putG w0.heap 1 (flatD Rows.laid_unicode_utf8_first)) 2 (flatD (Rows.laid_unicode_utf8_acceptRanges (H := Unit)))) 3 (flatD (Rows.laid_internal_strconv_uint64pow10 (H := Unit)))) 4 [.iface 376 (.pointer (some ⟨n + 1, 0, none⟩))]) 5 [.iface 376 (.pointer (some ⟨n, 0, none⟩))]) 6 (flatD (Rows.laid_math_bits_deBruijn32tab (H := Unit)))) 7 (flatD (Rows.laid_math_bits_deBruijn64tab (H := Unit))) }
theorem laid_met (os : Os) (args : Array Value) : laidMet Tryz.prog Rows.binderTypesRow.laid ((laidWorld os).forCall (fun _ _ => 0) ⟨#[], args, []⟩).memory :=
  laidMet_of_run' 12 (by kernel_rfl) (by kernel_rfl)
theorem witness_row (os : Os) {H : Type} (enc : TypeId × Value → H) :
    (OpenSpec.ofChange Rows.binderTypesSpec).preRow enc Tryz.prog Tryz.f3 Rows.binderTypesRow.domain false Rows.binderTypesRow.laid ((laidWorld os).forCall (fun _ _ => 0) ⟨#[], #[.slice none 0 0, .int .i64 0, .bool false], []⟩).memory #[.slice none 0 0, .int .i64 0, .bool false] := by
  have hw : (DataW.whole enc Tryz.prog ((laidWorld os).forCall (fun _ _ => 0) ⟨#[], #[.slice none 0 0, .int .i64 0, .bool false], []⟩).memory Tryz.f3.params.toList Rows.binderTypesSpec.vars false #[Value.slice none 0 0, Value.int .i64 0, Value.bool false].toList 12).map (fun x => (x.1, x.2.1)) =
      some ([.nil, .lit (.int .i64 0), .lit (.bool false)], []) := by kernel_rfl
  obtain ⟨⟨x1, x2, x3⟩, hx, hx1⟩ := Option.map_eq_some_iff.1 hw
  simp only [Prod.mk.injEq] at hx1
  obtain ⟨rfl, rfl⟩ := hx1
  exact OpenSpec.preRow_of_cond 12 hx (by kernel_rfl) (fun k hk => by cases hk) (by kernel_rfl) (laid_met os _)

theorem lifted (os : Os) (started : os.Started) (H : Type) (enc : TypeId × Value → H) (F : Stop.Interp) :
    ReturnsInHanded {} Tryz.checked os 3 .any ((OpenSpec.ofChange Rows.binderTypesSpec).preRow enc Tryz.prog Tryz.f3 Rows.binderTypesRow.domain false Rows.binderTypesRow.laid) (((OpenSpec.ofChange Rows.binderTypesSpec).at F).post enc Tryz.prog Tryz.f3 false true false false) := by
  refine returnsInHanded_of_row (C := Tryz.checked) (s := OpenSpec.ofChange Rows.binderTypesSpec) own started (by kernel_rfl) Tryz.func3
    (witness_row_atRef (enc := enc) (C := Tryz.checked) false (laidWorld os) #[.slice none 0 0, .int .i64 0, .bool false] rfl (by kernel_rfl) (by kernel_rfl) (by kernel_rfl) (witness_row os enc)) ?_
  intro W base args ds gs before hval0 hW _ _ _ _ hsh _
  have hval1 : ∀ (j : Nat) t v, Tryz.f3.params[j]? = some t → args[j]? = some v → Value.okWide Tryz.prog W .any base t v := hval0
  have hval : ∀ (j : Nat) t v, ([22, 3, 4] : List TypeId)[j]? = some t → args.toList[j]? = some v → Value.okWide Tryz.prog W .any 0 t v := fun j t v h1 h2 => Value.okWide_any_base (hval1 j t v (by rw [← Array.getElem?_toList, Tryz.params3]; exact h1) (by rw [← Array.getElem?_toList]; exact h2))
  have hW' := hW
  obtain ⟨p, q, hA0, hV, rfl, _, _⟩ := hW
  have hA : DataW.TrodAll enc Tryz.prog W 0 (fun _ => true) true [22, 3, 4] args.toList ds p := by
    have h : DataW.TrodAll enc Tryz.prog W 0 (fun _ => true) true Tryz.f3.params.toList args.toList ds p := hA0
    rwa [Tryz.params3] at h
  obtain ⟨rfl, rfl⟩ := trodVars_none hV
  have hty : List.all [22, 3, 4] (tyR Tryz.prog 10) = true := by kernel_rfl
  obtain ⟨hl, _⟩ := fits_args (m := 10) [22, 3, 4] args.toList ds p hA hty
  refine (walk hA hval hsh).mono fun e W' ⟨he, hk⟩ => ?_
  subst he
  obtain ⟨d0, d1, d2, rfl⟩ : ∃ d0 d1 d2, ds = [d0, d1, d2] := by
    simp only [List.length_cons, List.length_nil] at hl
    cases ds with
    | nil => simp at hl
    | cons d0 r0 =>
      cases r0 with
      | nil => simp at hl
      | cons d1 r1 =>
        cases r1 with
        | nil => simp at hl
        | cons d2 r2 =>
          cases r2 with
          | nil => exact ⟨d0, d1, d2, rfl⟩
          | cons _ _ => simp at hl
  have e1 : ((OpenSpec.ofChange Rows.binderTypesSpec).at F).fn H ([d0, d1, d2] ++ []) = { results := [.lit (.bool true)], args := [d0, d1, d2] } := rfl
  refine ⟨_, rfl, _, _, _, [], p, [], hW', ?_, ?_, ?_, hk.keptBut _, fun h => by cases h⟩
  · rw [e1]; exact trodAll_cons_mk (shut_bool Tryz.underlying4 _) trodAll_mk0
  · rw [e1]
    have h2 : DataW.TrodAll enc Tryz.prog W' 0 (fun b => decide (b < W.heap.size)) true Tryz.f3.params.toList args.toList [d0, d1, d2] p := by
      rw [Tryz.params3]
      exact hk.rereads (fun b hb => by simpa using hb) hty hA
    exact h2
  · rw [e1]; rfl

theorem said : Rows.BinderTypesSaid :=
  OpenClaim.holds_of_cond 3 Tryz.f3 rfl rfl rfl rfl rfl rfl rfl ⟨rfl, rfl, rfl, rfl, rfl⟩ rfl rfl rfl rfl rfl (by kernel_rfl) Tryz.func3 closed
    (of_decide_eq_true (by kernel_rfl)) (by unfold Func.isWrapper; first | (rw [if_pos (by decide +kernel)]; kernel_rfl) | (rw [if_neg (by decide +kernel)]; exact ⟨rfl, rfl⟩))
    (fun os started H enc _ F => by rw [OpenClaim.pre_eq_preRow]; exact lifted os started H enc F)

theorem plain (f : FuncId) (fn : Func) (hf : Tryz.pinned.checked.prog.funcNamed "annalist/annalistlaw29.BinderTypes" = some f) (hfn : Tryz.pinned.checked.prog.funcs[f]? = some fn) :
    true = Tryz.pinned.checked.prog.looks [] ∧ ∀ (j : Nat) t, fn.params[j]? = some t → Tryz.pinned.checked.prog.wantsStandIn t = false := by
  obtain rfl : f = 3 := Option.some.inj ((show Tryz.prog.funcNamed "annalist/annalistlaw29.BinderTypes" = some 3 by kernel_rfl).symm.trans hf) |>.symm
  obtain rfl : fn = Tryz.f3 := (Option.some.inj (Tryz.func3.symm.trans hfn)).symm
  refine ⟨by kernel_rfl, fun j t ht => ?_⟩
  have hall : (Tryz.f3.params.toList.all fun t => !(Tryz.prog.wantsStandIn t)) = true := by kernel_rfl
  have hm : t ∈ Tryz.f3.params.toList := List.mem_of_getElem? (by rw [Array.getElem?_toList]; exact ht)
  have := List.all_eq_true.1 hall t hm
  have h2 : Tryz.prog.wantsStandIn t = false := by simpa using this
  exact h2

/-- the law's tied card -/
theorem binderTypes_card : Rows.BinderTypesCardSaid :=
  Claim7.holds_tied_plain_at .later [] _ _ _ _ said (fun _ h => by cases h) (by kernel_rfl) (fun _ h => by cases h) binderTypes_row_tie rfl ⟨rfl, rfl⟩ (by kernel_rfl) rfl plain (by kernel_rfl)
end Go.Proofs.YtffkihiledcilaaGreatDoor
