/- ParserDepth returns true for every input and changes nothing; its tied card. No condition beyond the given row and card. -/
import Derived.Test.YtgjadkcogmpkdaaGreatDoorRuns0
import Derived.Test.YtgjadkcogmpkdaaGreatDoorRuns1
import Derived.Test.YtgjadkcogmpkdaaGreatDoorRuns2
import Derived.Test.YtgjadkcogmpkdaaGreatDoorRuns3
import Derived.Test.YtgjadkcogmpkdaaGreatDoorRuns4
import Derived.Test.YtgjadkcogmpkdaaGreatDoorRuns5
import Derived.Test.YtgjadkcogmpkdaaGreatDoorRuns6
import Derived.Test.YtgjadkcogmpkdaaGreatDoorCards
import Derived.Test.YtgjadkcogmpkdaaGreatDoorTie
import Derived.WalkKit
import Derived.ProofKit
import Derived.OpenShut
import Derived.Deep.DeepHandedRow
import Derived.Deep.DeepWitnessRowRef
import Derived.Lib.LaidIn
namespace Go.Proofs.YtgjadkcogmpkdaaGreatDoor
open Go Go.Ev Go.ChangeShapes Go.WideShapes Go.ChangeAt Go.RowKit
set_option maxRecDepth 100000

theorem runs (a : Int) (b : Bool) (k : Nat) (hk : k < 70) : okT (after a b (.ofNat k) (.ofNat k)) = true := by
  cases b
  · match k, hk with
    | 0, _ => exact r0f a
    | 1, _ => exact r1f a
    | 2, _ => exact r2f a
    | 3, _ => exact r3f a
    | 4, _ => exact r4f a
    | 5, _ => exact r5f a
    | 6, _ => exact r6f a
    | 7, _ => exact r7f a
    | 8, _ => exact r8f a
    | 9, _ => exact r9f a
    | 10, _ => exact r10f a
    | 11, _ => exact r11f a
    | 12, _ => exact r12f a
    | 13, _ => exact r13f a
    | 14, _ => exact r14f a
    | 15, _ => exact r15f a
    | 16, _ => exact r16f a
    | 17, _ => exact r17f a
    | 18, _ => exact r18f a
    | 19, _ => exact r19f a
    | 20, _ => exact r20f a
    | 21, _ => exact r21f a
    | 22, _ => exact r22f a
    | 23, _ => exact r23f a
    | 24, _ => exact r24f a
    | 25, _ => exact r25f a
    | 26, _ => exact r26f a
    | 27, _ => exact r27f a
    | 28, _ => exact r28f a
    | 29, _ => exact r29f a
    | 30, _ => exact r30f a
    | 31, _ => exact r31f a
    | 32, _ => exact r32f a
    | 33, _ => exact r33f a
    | 34, _ => exact r34f a
    | 35, _ => exact r35f a
    | 36, _ => exact r36f a
    | 37, _ => exact r37f a
    | 38, _ => exact r38f a
    | 39, _ => exact r39f a
    | 40, _ => exact r40f a
    | 41, _ => exact r41f a
    | 42, _ => exact r42f a
    | 43, _ => exact r43f a
    | 44, _ => exact r44f a
    | 45, _ => exact r45f a
    | 46, _ => exact r46f a
    | 47, _ => exact r47f a
    | 48, _ => exact r48f a
    | 49, _ => exact r49f a
    | 50, _ => exact r50f a
    | 51, _ => exact r51f a
    | 52, _ => exact r52f a
    | 53, _ => exact r53f a
    | 54, _ => exact r54f a
    | 55, _ => exact r55f a
    | 56, _ => exact r56f a
    | 57, _ => exact r57f a
    | 58, _ => exact r58f a
    | 59, _ => exact r59f a
    | 60, _ => exact r60f a
    | 61, _ => exact r61f a
    | 62, _ => exact r62f a
    | 63, _ => exact r63f a
    | 64, _ => exact r64f a
    | 65, _ => exact r65f a
    | 66, _ => exact r66f a
    | 67, _ => exact r67f a
    | 68, _ => exact r68f a
    | 69, _ => exact r69f a
    | n + 70, h => exact absurd h (by omega)
  · match k, hk with
    | 0, _ => exact r0t a
    | 1, _ => exact r1t a
    | 2, _ => exact r2t a
    | 3, _ => exact r3t a
    | 4, _ => exact r4t a
    | 5, _ => exact r5t a
    | 6, _ => exact r6t a
    | 7, _ => exact r7t a
    | 8, _ => exact r8t a
    | 9, _ => exact r9t a
    | 10, _ => exact r10t a
    | 11, _ => exact r11t a
    | 12, _ => exact r12t a
    | 13, _ => exact r13t a
    | 14, _ => exact r14t a
    | 15, _ => exact r15t a
    | 16, _ => exact r16t a
    | 17, _ => exact r17t a
    | 18, _ => exact r18t a
    | 19, _ => exact r19t a
    | 20, _ => exact r20t a
    | 21, _ => exact r21t a
    | 22, _ => exact r22t a
    | 23, _ => exact r23t a
    | 24, _ => exact r24t a
    | 25, _ => exact r25t a
    | 26, _ => exact r26t a
    | 27, _ => exact r27t a
    | 28, _ => exact r28t a
    | 29, _ => exact r29t a
    | 30, _ => exact r30t a
    | 31, _ => exact r31t a
    | 32, _ => exact r32t a
    | 33, _ => exact r33t a
    | 34, _ => exact r34t a
    | 35, _ => exact r35t a
    | 36, _ => exact r36t a
    | 37, _ => exact r37t a
    | 38, _ => exact r38t a
    | 39, _ => exact r39t a
    | 40, _ => exact r40t a
    | 41, _ => exact r41t a
    | 42, _ => exact r42t a
    | 43, _ => exact r43t a
    | 44, _ => exact r44t a
    | 45, _ => exact r45t a
    | 46, _ => exact r46t a
    | 47, _ => exact r47t a
    | 48, _ => exact r48t a
    | 49, _ => exact r49t a
    | 50, _ => exact r50t a
    | 51, _ => exact r51t a
    | 52, _ => exact r52t a
    | 53, _ => exact r53t a
    | 54, _ => exact r54t a
    | 55, _ => exact r55t a
    | 56, _ => exact r56t a
    | 57, _ => exact r57t a
    | 58, _ => exact r58t a
    | 59, _ => exact r59t a
    | 60, _ => exact r60t a
    | 61, _ => exact r61t a
    | 62, _ => exact r62t a
    | 63, _ => exact r63t a
    | 64, _ => exact r64t a
    | 65, _ => exact r65t a
    | 66, _ => exact r66t a
    | 67, _ => exact r67t a
    | 68, _ => exact r68t a
    | 69, _ => exact r69t a
    | n + 70, h => exact absurd h (by omega)

theorem eval3 (a : Int) (b : Bool) (w0 : (Lit.int .u16 a).wf = true) : ∃ H, evFn call1 1000000000 i3 [.int .u16 a, .bool b] (H0 1000) = .ok (.bool true) H := by
  have h := w0
  simp only [Lit.wf, Bool.and_eq_true, decide_eq_true_eq] at h
  have h0 : 0 ≤ a := h.1
  rw [open3]
  obtain ⟨m, rfl⟩ := Int.eq_ofNat_of_zero_le h0
  have e1 : (m : Int).tmod 70 = Int.ofNat (m % 70) := rfl
  have e2 : wrapF .i64 (Int.ofNat (m % 70)) = Int.ofNat (m % 70) := by
    rw [wrapF_eq]
    exact IntWalk.i64_in _ (by simp only [Int.ofNat_eq_natCast]; omega)
  rw [e1, e2]
  exact okT_ok (runs _ b _ (Nat.mod_lt _ (by omega)))

theorem walk (a : Int) (b : Bool) (w0 : (Lit.int .u16 a).wf = true) (W : World) (hsh : W.ShapedOpen Tryz.prog) :
    Calls Tryz.prog 3 #[.int .u16 a, .bool b] W fun e w' => e = .returned (.bool true) ∧ Kept W w' := by
  obtain ⟨H, h⟩ := eval3 a b w0
  have hin : ∀ g, g < Tryz.prog.globals.size → g < W.heap.size := low_of_shaped hsh (by kernel_rfl)
  refine Calls.mono (evFn_kept call1_ok mix Tryz.func3 fn3 (by rw [low]; decide) hin h (by simp [VRs, VR])) fun e w' ⟨cv, ρ', he, hv, hk⟩ => ?_
  simp only [VR] at hv
  subst hv
  exact ⟨he, hk⟩

theorem own : ownKnob Tryz.prog.godebug = none := by kernel_rfl
/-- a world for the witness: the listed variables hold what their text lays -/
noncomputable def laidWorld (os : Os) : World :=
  let n := (World.settled Tryz.prog os).heap.size
  let w0 := World.holding Tryz.prog os ⟨#[.cells #[.string ⟨#[118, 97, 108, 117, 101, 32, 111, 117, 116, 32, 111, 102, 32, 114, 97, 110, 103, 101]⟩] 227, .cells #[.string ⟨#[105, 110, 118, 97, 108, 105, 100, 32, 115, 121, 110, 116, 97, 120]⟩] 227], #[], []⟩
  { w0 with heap := putG (putG (putG (putG (putG (putG (putG w0.heap 1 (flatD (Rows.laid_internal_strconv_uint64pow10 (H := Unit)))) 2 (flatD Rows.laid_unicode_utf8_first)) 3 (flatD (Rows.laid_unicode_utf8_acceptRanges (H := Unit)))) 4 [.iface 225 (.pointer (some ⟨n + 1, 0, none⟩))]) 5 [.iface 225 (.pointer (some ⟨n, 0, none⟩))]) 6 (flatD (Rows.laid_math_bits_deBruijn32tab (H := Unit)))) 7 (flatD (Rows.laid_math_bits_deBruijn64tab (H := Unit))) }
theorem laid_met (os : Os) (args : Array Value) : laidMet Tryz.prog Rows.parserDepthRow.laid ((laidWorld os).forCall (fun _ _ => 0) ⟨#[], args, []⟩).memory :=
  laidMet_of_run' 12 (by kernel_rfl) (by kernel_rfl)
theorem witness_row (os : Os) {H : Type} (enc : TypeId × Value → H) :
    (OpenSpec.ofChange Rows.parserDepthSpec).preRow enc Tryz.prog Tryz.f3 Rows.parserDepthRow.domain false Rows.parserDepthRow.laid ((laidWorld os).forCall (fun _ _ => 0) ⟨#[], #[.int .u16 0, .bool false], []⟩).memory #[.int .u16 0, .bool false] := by
  have hw : (DataW.whole enc Tryz.prog ((laidWorld os).forCall (fun _ _ => 0) ⟨#[], #[.int .u16 0, .bool false], []⟩).memory Tryz.f3.params.toList Rows.parserDepthSpec.vars false #[Value.int .u16 0, Value.bool false].toList 8).map (fun x => (x.1, x.2.1)) =
      some ([.lit (.int .u16 0), .lit (.bool false)], []) := by kernel_rfl
  obtain ⟨⟨x1, x2, x3⟩, hx, hx1⟩ := Option.map_eq_some_iff.1 hw
  simp only [Prod.mk.injEq] at hx1
  obtain ⟨rfl, rfl⟩ := hx1
  exact OpenSpec.preRow_of_cond 8 hx (by kernel_rfl) (fun k hk => by cases hk) (by kernel_rfl) (laid_met os _)

theorem lifted (os : Os) (started : os.Started) (H : Type) (enc : TypeId × Value → H) (F : Stop.Interp) :
    ReturnsInHanded {} Tryz.checked os 3 .any ((OpenSpec.ofChange Rows.parserDepthSpec).preRow enc Tryz.prog Tryz.f3 Rows.parserDepthRow.domain false Rows.parserDepthRow.laid) (((OpenSpec.ofChange Rows.parserDepthSpec).at F).post enc Tryz.prog Tryz.f3 false true false false) := by
  refine returnsInHanded_of_row (C := Tryz.checked) (s := OpenSpec.ofChange Rows.parserDepthSpec) own started (by kernel_rfl) Tryz.func3
    (witness_row_atRef (enc := enc) (C := Tryz.checked) false (laidWorld os) #[.int .u16 0, .bool false] rfl (by kernel_rfl) (by kernel_rfl) (by kernel_rfl) (witness_row os enc)) ?_
  intro W base args ds gs before hval0 hW _ _ _ _ hsh _
  have hval : ∀ (j : Nat) t v, Tryz.f3.params[j]? = some t → args[j]? = some v → Value.okWide Tryz.prog W .any base t v := hval0
  have hW' := hW
  obtain ⟨p, q, hA0, hV, rfl, _, _⟩ := hW
  have hA : DataW.TrodAll enc Tryz.prog W 0 (fun _ => true) true Tryz.f3.params.toList args.toList ds p := hA0
  rw [Tryz.params3] at hA hval
  obtain ⟨v0, vs0, d0, ds0, p0, q0, hargs, rfl, rfl, h0, r0⟩ := trodAll_cons hA
  obtain ⟨v1, vs1, d1, ds1, p1, q1, rfl, rfl, rfl, h1, r1⟩ := trodAll_cons r0
  obtain ⟨rfl, rfl, rfl⟩ := trodAll_nil r1
  obtain rfl : args = #[v0, v1] := by cases args; simp_all
  obtain ⟨rfl, rfl⟩ := trodVars_none hV
  obtain ⟨a0, rfl, rfl, rfl, w0⟩ := open_int Tryz.underlying22 (hval 0 22 v0 rfl rfl) h0
  obtain ⟨a1, rfl, rfl, rfl⟩ := open_bool Tryz.underlying4 (hval 1 4 v1 rfl rfl) h1
  clear hA0 hval0
  simp only [List.append_nil] at hW'
  refine (walk a0 a1 w0 W hsh).mono fun e W' ⟨he, hk⟩ => ?_
  subst he
  have e1 : ((OpenSpec.ofChange Rows.parserDepthSpec).at F).fn H ([.lit (.int .u16 a0), .lit (.bool a1)] ++ []) = { results := [.lit (.bool true)], args := [.lit (.int .u16 a0), .lit (.bool a1)] } := rfl
  refine ⟨_, rfl, _, _, _, [], [], [], hW', ?_, ?_, ?_, hk.keptBut _, fun h => by cases h⟩
  · rw [e1]; exact trodAll_cons_mk (shut_bool Tryz.underlying4 _) trodAll_mk0
  · rw [e1]; exact trodAll_cons_mk (shut_int Tryz.underlying22 w0) (trodAll_cons_mk (shut_bool Tryz.underlying4 _) trodAll_mk0)
  · rw [e1]; rfl

theorem said : Rows.ParserDepthSaid :=
  OpenClaim.holds_of_cond 3 Tryz.f3 rfl rfl rfl rfl rfl rfl rfl ⟨rfl, rfl, rfl, rfl, rfl⟩ rfl rfl rfl rfl rfl (by kernel_rfl) Tryz.func3 (by kernel_rfl)
    (of_decide_eq_true (by kernel_rfl)) (by unfold Func.isWrapper; first | (rw [if_pos (by decide +kernel)]; kernel_rfl) | (rw [if_neg (by decide +kernel)]; exact ⟨rfl, rfl⟩))
    (fun os started H enc _ F => by rw [OpenClaim.pre_eq_preRow]; exact lifted os started H enc F)

theorem plain (f : FuncId) (fn : Func) (hf : Tryz.pinned.checked.prog.funcNamed "annalist/annalistlaw28.ParserDepth" = some f) (hfn : Tryz.pinned.checked.prog.funcs[f]? = some fn) :
    true = Tryz.pinned.checked.prog.looks [] ∧ ∀ (j : Nat) t, fn.params[j]? = some t → Tryz.pinned.checked.prog.wantsStandIn t = false := by
  obtain rfl : f = 3 := Option.some.inj ((show Tryz.prog.funcNamed "annalist/annalistlaw28.ParserDepth" = some 3 by kernel_rfl).symm.trans hf) |>.symm
  obtain rfl : fn = Tryz.f3 := (Option.some.inj (Tryz.func3.symm.trans hfn)).symm
  refine ⟨by kernel_rfl, fun j t ht => ?_⟩
  rw [Tryz.params3] at ht
  have h3 : t = 22 ∨ t = 4 := by
    rcases j with _ | _ | j
    · exact .inl (by simpa using ht.symm)
    · exact .inr (by simpa using ht.symm)
    · simp at ht
  rcases h3 with rfl | rfl
  · exact (show Tryz.prog.wantsStandIn 22 = false by kernel_rfl)
  · exact (show Tryz.prog.wantsStandIn 4 = false by kernel_rfl)

/-- ParserDepth's tied card -/
theorem parserDepth_card : Rows.ParserDepthCardSaid :=
  Claim7.holds_tied_plain_at .later [] _ _ _ _ said (fun _ h => by cases h) (by kernel_rfl) (fun _ h => by cases h) parserDepth_row_tie rfl ⟨rfl, rfl⟩ (by kernel_rfl) rfl plain (by kernel_rfl)
end Go.Proofs.YtgjadkcogmpkdaaGreatDoor
