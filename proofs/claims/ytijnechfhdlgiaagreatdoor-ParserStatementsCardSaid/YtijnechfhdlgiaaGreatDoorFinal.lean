/- ParserStatements returns true for every input and changes nothing; its tied card. It holds for every input; no condition beyond the given row and card. -/
import Derived.Test.YtijnechfhdlgiaaGreatDoorM
import Derived.Test.YtijnechfhdlgiaaGreatDoorFacts
import Derived.Test.YtijnechfhdlgiaaGreatDoorCards
import Derived.Test.YtijnechfhdlgiaaGreatDoorTie
import Derived.WalkKit
import Derived.ProofKit
import Derived.OpenShut
import Derived.Deep.DeepHandedRow
import Derived.Deep.DeepWitnessRowRef
import Derived.Lib.LaidIn
namespace Go.Proofs.YtijnechfhdlgiaaGreatDoor
open Go Go.Ev Go.Ev.Pp Go.ChangeShapes Go.WideShapes Go.ChangeAt Go.RowKit
set_option maxRecDepth 100000

theorem walk {H : Type} {enc : TypeId × Value → H} {W W1 : World} {args : Array Value} {ds : List (DataW H)} {p : List MemPlace} (hA : DataW.TrodAll enc Tryz.prog W 0 (fun _ => true) true [28, 29] args.toList ds p)
    (C5 : ∀ (j : Nat) t v, ([28, 29] : List TypeId)[j]? = some t → args.toList[j]? = some v → Value.okWide Tryz.prog W1 .any 0 t v) (hlm : laidMetH Tryz.prog Rows.parserStatementsRow.laid W) (hsh : W.ShapedOpen Tryz.prog) :
    Calls Tryz.prog 4 args W fun e w' => e = .returned (.bool true) ∧ Kept W w' := by
  have sM : zO Tryz.prog W := low_ok hlm hsh
  have hz : 0 < W.heap.size := (sM 0 (by rw [low]; decide)).1
  have hty : List.all [28, 29] (jD Tryz.prog 10) = true := by kernel_rfl
  obtain ⟨hl, Js⟩ := Ub (m := 10) [28, 29] args.toList ds p hA hty
  obtain ⟨d0, d1, rfl⟩ : ∃ d0 d1, ds = [d0, d1] := by
    cases ds with
    | nil => simp at hl
    | cons d0 r => cases r with
      | nil => simp at hl
      | cons d1 r2 => cases r2 with
        | nil => exact ⟨_, _, rfl⟩
        | cons _ _ => simp at hl
  have f0 : jF [.i .u16, .i .u16, .i .u16, .i .u16, .i .u16, .i .u16, .i .u16, .i .u16] (iw d0) := by have h := Js 0 28 d0 rfl rfl; rwa [show vf Tryz.prog 10 28 = [.i .u16, .i .u16, .i .u16, .i .u16, .i .u16, .i .u16, .i .u16, .i .u16] by kernel_rfl] at h
  have f1 : jF [.sl [.i .u16, .i .u16]] (iw d1) := by have h := Js 1 29 d1 rfl rfl; rwa [show vf Tryz.prog 10 29 = [.sl [.i .u16, .i .u16]] by kernel_rfl] at h
  obtain ⟨a, b, c, d, e, f, g, k, e0, ha, hb, hc, hd, he, hf, hg, hk⟩ := fits_oct f0
  obtain ⟨o, e1, ho⟩ := fits_pairs f1
  have ea : Ch Tryz.prog [28, 29] [d0, d1] = [.agg [u16 a, u16 b, u16 c, u16 d, u16 e, u16 f, u16 g, u16 k], .d (rn Dt o)] := by
    simp only [Ch, oZ, e0, e1, Tryz.underlying28, Tryz.underlying29]; rfl
  refine law_runs (T := TT) ft1_ok xt1_ok mix Tryz.func4 (by kernel_rfl) ftT.f4 sM hz hA hty C5 ?_
  rw [ea]
  exact lawT ftT fxT (sound_true (by kernel_rfl) (by kernel_rfl)) ha hb hc hd he hf hg hk o ho

theorem own : ownKnob Tryz.prog.godebug = none := by kernel_rfl
/-- a world for the witness: the listed variables hold what their text lays -/
noncomputable def laidWorld (os : Os) : World :=
  let n := (World.settled Tryz.prog os).heap.size
  let w0 := World.holding Tryz.prog os ⟨#[.cells #[.string ⟨#[118, 97, 108, 117, 101, 32, 111, 117, 116, 32, 111, 102, 32, 114, 97, 110, 103, 101]⟩] 283, .cells #[.string ⟨#[105, 110, 118, 97, 108, 105, 100, 32, 115, 121, 110, 116, 97, 120]⟩] 283], #[], []⟩
  { w0 with heap := putG (putG (putG (putG (putG (putG (putG w0.heap 1 (Yf (Rows.laid_internal_strconv_uint64pow10 (H := Unit)))) 2 (Yf Rows.laid_unicode_utf8_first)) 3 (Yf (Rows.laid_unicode_utf8_acceptRanges (H := Unit)))) 4 [.iface 281 (.pointer (some ⟨n + 1, 0, none⟩))]) 5 [.iface 281 (.pointer (some ⟨n, 0, none⟩))]) 6 (Yf (Rows.laid_math_bits_deBruijn32tab (H := Unit)))) 7 (Yf (Rows.laid_math_bits_deBruijn64tab (H := Unit))) }
theorem laid_met (os : Os) (args : Array Value) : laidMet Tryz.prog Rows.parserStatementsRow.laid ((laidWorld os).forCall (fun _ _ => 0) ⟨#[], args, []⟩).memory :=
  laidMet_of_run' 12 (by kernel_rfl) (by kernel_rfl)
theorem witness_row (os : Os) {H : Type} (enc : TypeId × Value → H) :
    (OpenSpec.ofChange Rows.parserStatementsSpec).preRow enc Tryz.prog Tryz.f4 Rows.parserStatementsRow.domain false Rows.parserStatementsRow.laid ((laidWorld os).forCall (fun _ _ => 0) ⟨#[], #[.agg #[.int .u16 0, .int .u16 0, .int .u16 0, .int .u16 0, .int .u16 0, .int .u16 0, .int .u16 0, .int .u16 0], .slice none 0 0], []⟩).memory #[.agg #[.int .u16 0, .int .u16 0, .int .u16 0, .int .u16 0, .int .u16 0, .int .u16 0, .int .u16 0, .int .u16 0], .slice none 0 0] := by
  have hw : (DataW.whole enc Tryz.prog ((laidWorld os).forCall (fun _ _ => 0) ⟨#[], #[.agg #[.int .u16 0, .int .u16 0, .int .u16 0, .int .u16 0, .int .u16 0, .int .u16 0, .int .u16 0, .int .u16 0], .slice none 0 0], []⟩).memory Tryz.f4.params.toList Rows.parserStatementsSpec.vars false #[Value.agg #[.int .u16 0, .int .u16 0, .int .u16 0, .int .u16 0, .int .u16 0, .int .u16 0, .int .u16 0, .int .u16 0], Value.slice none 0 0].toList 12).map (fun x => (x.1, x.2.1)) =
      some ([.agg [.lit (.int .u16 0), .lit (.int .u16 0), .lit (.int .u16 0), .lit (.int .u16 0), .lit (.int .u16 0), .lit (.int .u16 0), .lit (.int .u16 0), .lit (.int .u16 0)], .nil], []) := by kernel_rfl
  obtain ⟨⟨x1, x2, x3⟩, hx, Ra⟩ := Option.map_eq_some_iff.1 hw
  simp only [Prod.mk.injEq] at Ra
  obtain ⟨rfl, rfl⟩ := Ra
  exact OpenSpec.preRow_of_cond 12 hx (by kernel_rfl) (fun k hk => by cases hk) (by kernel_rfl) (laid_met os _)

theorem lifted (os : Os) (started : os.Started) (H : Type) (enc : TypeId × Value → H) (F : Stop.Interp) :
    ReturnsInHanded {} Tryz.checked os 4 .any ((OpenSpec.ofChange Rows.parserStatementsSpec).preRow enc Tryz.prog Tryz.f4 Rows.parserStatementsRow.domain false Rows.parserStatementsRow.laid) (((OpenSpec.ofChange Rows.parserStatementsSpec).at F).post enc Tryz.prog Tryz.f4 false true false false) := by
  refine returnsInHanded_of_row (C := Tryz.checked) (s := OpenSpec.ofChange Rows.parserStatementsSpec) own started (by kernel_rfl) Tryz.func4
    (witness_row_atRef (enc := enc) (C := Tryz.checked) false (laidWorld os) #[.agg #[.int .u16 0, .int .u16 0, .int .u16 0, .int .u16 0, .int .u16 0, .int .u16 0, .int .u16 0, .int .u16 0], .slice none 0 0] rfl (by kernel_rfl) (by kernel_rfl) (by kernel_rfl) (witness_row os enc)) ?_
  intro W base args ds gs before hval0 hW _ _ _ hlm hsh _
  have hval1 : ∀ (j : Nat) t v, Tryz.f4.params[j]? = some t → args[j]? = some v → Value.okWide Tryz.prog W .any base t v := hval0
  have hval : ∀ (j : Nat) t v, ([28, 29] : List TypeId)[j]? = some t → args.toList[j]? = some v → Value.okWide Tryz.prog W .any 0 t v := fun j t v h1 h2 => Value.okWide_any_base (hval1 j t v (by rw [← Array.getElem?_toList, Tryz.params4]; exact h1) (by rw [← Array.getElem?_toList]; exact h2))
  have hW' := hW
  obtain ⟨p, q, hA0, hV, rfl, _, _⟩ := hW
  have hA : DataW.TrodAll enc Tryz.prog W 0 (fun _ => true) true [28, 29] args.toList ds p := by
    have h : DataW.TrodAll enc Tryz.prog W 0 (fun _ => true) true Tryz.f4.params.toList args.toList ds p := hA0
    rwa [Tryz.params4] at h
  obtain ⟨rfl, rfl⟩ := trodVars_none hV
  have hty : List.all [28, 29] (jD Tryz.prog 10) = true := by kernel_rfl
  obtain ⟨hl, _⟩ := Ub (m := 10) [28, 29] args.toList ds p hA hty
  refine (walk hA hval hlm hsh).mono fun e W' ⟨he, hk⟩ => ?_
  subst he
  obtain ⟨d0, d1, rfl⟩ : ∃ d0 d1, ds = [d0, d1] := by
    simp only [List.length_cons, List.length_nil] at hl
    cases ds with
    | nil => simp at hl
    | cons d0 r0 =>
      cases r0 with
      | nil => simp at hl
      | cons d1 r1 =>
        cases r1 with
        | nil => exact ⟨d0, d1, rfl⟩
        | cons _ _ => simp at hl
  have e1 : ((OpenSpec.ofChange Rows.parserStatementsSpec).at F).fn H ([d0, d1] ++ []) = { results := [.lit (.bool true)], args := [d0, d1] } := rfl
  refine ⟨_, rfl, _, _, _, [], p, [], hW', ?_, ?_, ?_, hk.keptBut _, fun h => by cases h⟩
  · rw [e1]; exact trodAll_cons_mk (shut_bool Tryz.underlying4 _) trodAll_mk0
  · rw [e1]
    have h2 : DataW.TrodAll enc Tryz.prog W' 0 (fun b => decide (b < W.heap.size)) true Tryz.f4.params.toList args.toList [d0, d1] p := by
      rw [Tryz.params4]
      exact hk.V8 (fun b hb => by simpa using hb) hty hA
    exact h2
  · rw [e1]; rfl

theorem said : Rows.ParserStatementsSaid :=
  OpenClaim.holds_of_cond 4 Tryz.f4 rfl rfl rfl rfl rfl rfl rfl ⟨rfl, rfl, rfl, rfl, rfl⟩ rfl rfl rfl rfl rfl (by kernel_rfl) Tryz.func4 closed
    (of_decide_eq_true (by kernel_rfl)) (by unfold Func.isWrapper; first | (rw [if_pos (by decide +kernel)]; kernel_rfl) | (rw [if_neg (by decide +kernel)]; exact ⟨rfl, rfl⟩))
    (fun os started H enc _ F => by rw [OpenClaim.pre_eq_preRow]; exact lifted os started H enc F)

theorem plain (f : FuncId) (fn : Func) (hf : Tryz.pinned.checked.prog.funcNamed "annalist/annalistlaw28.ParserStatements" = some f) (hfn : Tryz.pinned.checked.prog.funcs[f]? = some fn) :
    true = Tryz.pinned.checked.prog.looks [] ∧ ∀ (j : Nat) t, fn.params[j]? = some t → Tryz.pinned.checked.prog.wantsStandIn t = false := by
  obtain rfl : f = 4 := Option.some.inj ((show Tryz.prog.funcNamed "annalist/annalistlaw28.ParserStatements" = some 4 by kernel_rfl).symm.trans hf) |>.symm
  obtain rfl : fn = Tryz.f4 := (Option.some.inj (Tryz.func4.symm.trans hfn)).symm
  refine ⟨by kernel_rfl, fun j t ht => ?_⟩
  have hall : (Tryz.f4.params.toList.all fun t => !(Tryz.prog.wantsStandIn t)) = true := by kernel_rfl
  have hm : t ∈ Tryz.f4.params.toList := List.mem_of_getElem? (by rw [Array.getElem?_toList]; exact ht)
  have := List.all_eq_true.1 hall t hm
  have h2 : Tryz.prog.wantsStandIn t = false := by simpa using this
  exact h2

/-- the law's tied card -/
theorem parserStatements_card : Rows.ParserStatementsCardSaid :=
  Claim7.holds_tied_plain_at .later [] _ _ _ _ said (fun _ h => by cases h) (by kernel_rfl) (fun _ h => by cases h) parserStatements_row_tie rfl ⟨rfl, rfl⟩ (by kernel_rfl) rfl plain (by kernel_rfl)
end Go.Proofs.YtijnechfhdlgiaaGreatDoor
