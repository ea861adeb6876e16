/- A part of an evaluator for the program's code: Slices of strings and slices, literals, lengths, conversions, minima, comparisons with nil. It holds for every program. -/
import Derived.Test.YtgjadkcogmpkdaaGreatDoorEvI
/-! Slices of strings and slices, literals, lengths, conversions, minima, comparisons with nil. -/
set_option linter.unusedVariables false
set_option linter.unusedSimpArgs false
namespace Go.Ev
section
variable {P : Program} {ρ : Ho} {nt : Nat} {E : Env} {a : Act} {C : Nat → Option AObj} {w : World} {H H' : AHeap} {v : AVal} {o : Oper}

theorem bnd_run (hA : AR P ρ nt E a) {x : Option Operand} {x' : Option Opd} {d y n : Nat} {k : Nat → Res} (hx : optOpd P x = some x') (h : bnd E x' d y (.err n) k = .ok v H') (hd : d ≤ y) :
    ∃ i : Nat, i ≤ y ∧ k i = .ok v H' ∧ ((x = none ∧ i = d) ∨ ∃ z kd, x = some z ∧ a.eval z = .int kd i) := by
  replace h := bnd_ok h
  rcases h with ⟨rfl, h⟩ | ⟨z, kd, i, rfl, hz, hi, h⟩
  · refine ⟨d, hd, h, .inl ⟨?_, rfl⟩⟩
    cases x with
    | none => rfl
    | some u => simp only [optOpd] at hx; split at hx <;> cases hx
  · cases x with
    | none => simp [optOpd] at hx
    | some u =>
      simp only [optOpd] at hx
      split at hx
      · rename_i y' hy
        cases hx
        have h1 := hA.opd hy hz
        simp only [VR] at h1
        exact ⟨i, hi, h, .inr ⟨u, kd, rfl, h1⟩⟩
      · cases hx

theorem run_sliceBound {kd : IntKind} {i y : Nat} (h : i ≤ y) (code : BoundsCode) : (Instr.sliceBound (.int kd i) y code).run P w = .ok i w := by
  have h1 : (i : Int) ≤ (y : Int) := by omega
  simp [Instr.sliceBound, asIntOf, h]

theorem bounds_run (hA : AR P ρ nt E a) {lo hi : Option Operand} {lo' hi' : Option Opd} {ln cap n : Nat} {k : Nat → Nat → Res} {isS : Bool} (hlo : optOpd P lo = some lo') (hhi : optOpd P hi = some hi') (hc : ln ≤ cap)
    (h : (bnd E hi' ln ln (.err n) fun h => bnd E lo' 0 h (.err n) fun l => k h l) = .ok v H') :
    ∃ l h : Nat, l ≤ h ∧ h ≤ ln ∧ k h l = .ok v H' ∧ (Instr.sliceBounds isS ln cap (lo.map a.eval) (hi.map a.eval) none).run P w = .ok (l, h, cap) w := by
  obtain ⟨hh, h1, h, hx⟩ := bnd_run hA hhi h (Nat.le_refl _)
  obtain ⟨l, h2, h, hy⟩ := bnd_run hA hlo h (Nat.zero_le _)
  refine ⟨l, hh, h2, h1, h, ?_⟩
  rcases hx with ⟨rfl, rfl⟩ | ⟨z, kd, rfl, e⟩
  · rcases hy with ⟨rfl, rfl⟩ | ⟨z2, kd2, rfl, e2⟩
    · simp [Instr.sliceBounds]
    · simp [Instr.sliceBounds, e2, run_sliceBound h2]
  · have h1' : hh ≤ cap := by omega
    rcases hy with ⟨rfl, rfl⟩ | ⟨z2, kd2, rfl, e2⟩
    · simp [Instr.sliceBounds, e, run_sliceBound h1']
    · simp [Instr.sliceBounds, e, e2, run_sliceBound h1', run_sliceBound h2]

theorem slStr_sound (hA : AR P ρ nt E a) (hR : R ρ C w) {t : TypeId} {x : Operand} {x' : Opd} {lo hi : Option Operand} {lo' hi' : Option Opd} (ho : o.op = .slice t x lo hi none) (hx : opdOf P x = some x')
    (hlo : optOpd P lo = some lo') (hhi : optOpd P hi = some hi') (ht : P.underlying t = some .string) (h : eSlStr x' lo' hi' E H = .ok v H') : OpOk P o a w (Post ρ C w H v H') := by
  replace h := withO_ok h; obtain ⟨u, hu, h⟩ := h
  replace h := onStr_ok h; obtain ⟨l, s, rfl, h⟩ := h
  have h1 := hA.opd hx hu
  simp only [VR] at h1
  obtain ⟨b, h1, rfl, rfl⟩ := h1
  obtain ⟨l, hh, hle, hle2, h, hrun⟩ := bounds_run (w := w) (isS := false) hA hlo hhi (Nat.le_refl _) h
  rw [seqNat_eq, seqNat_eq] at h
  cases h
  have hsz : b.size = b.data.toList.length := by rw [Array.length_toList]; rfl
  refine ok_value (cv := .string (b.extract l hh)) ?_ hR ?_
  · simp [execOp, ho, h1, Instr.sliceAt, Instr.slice, run_underlying ht, hrun]
  · simp only [VR]
    refine ⟨_, rfl, ?_, ?_⟩
    · rw [ByteArray.size_extract]
      show hh - l = _
      omega
    · rw [strSub_pack]
      congr 1
      rw [ByteArray.data_extract, Array.toList_extract, List.extract_eq_take_drop]

theorem slSl_sound (hA : AR P ρ nt E a) (hR : R ρ C w) {t e : TypeId} {x : Operand} {x' : Opd} {n : Nat} {lo hi : Option Operand} {lo' hi' : Option Opd} (ho : o.op = .slice t x lo hi none) (hx : opdOf P x = some x')
    (hlo : optOpd P lo = some lo') (hhi : optOpd P hi = some hi') (ht : P.underlying t = some (.slice e)) (hn : sizeT P e = some n) (h : eSlSl n x' lo' hi' E H = .ok v H') : OpOk P o a w (Post ρ C w H v H') := by
  replace h := withO_ok h; obtain ⟨u, hu, h⟩ := h
  replace h := onSlice_ok h
  have h1 := hA.opd hx hu
  rcases h with ⟨rfl, h⟩ | ⟨f1, g1, o1, l1, es, rfl, h⟩
  · simp only [VR] at h1
    obtain ⟨l, hh, hle, hle2, h, hrun⟩ := bounds_run (w := w) (isS := true) hA hlo hhi (Nat.le_refl _) h
    cases h
    have : l = 0 := by omega
    subst this
    have : hh = 0 := by omega
    subst this
    refine ok_value (cv := .slice none 0 0) ?_ hR (by simp only [VR])
    simp [execOp, ho, h1, Instr.sliceAt, Instr.slice, run_underlying ht, hrun, run_sizeT hn]
  · replace h := chk_ok h; obtain ⟨hb, h⟩ := h
    have := Nat.eq_of_beq_eq_true hb
    subst this
    simp only [VR] at h1
    obtain ⟨hm, ad, cap, hho, h1, hlc, hs⟩ := h1
    obtain ⟨l, hh, hle, hle2, h, hrun⟩ := bounds_run (w := w) (isS := true) hA hlo hhi hlc h
    rw [seqNat_eq, seqNat_eq] at h
    cases h
    have hn0 := (sizeT_ok hn)
    obtain ⟨_, _, _, _, _, hn0⟩ := hn0
    refine ok_value (cv := .slice (some (if cap = l then ad else ad.add (l * n))) (hh - l) (cap - l)) ?_ hR ?_
    · simp only [execOp, ho, h1, Instr.sliceAt, Instr.slice, Sem.run_bind, run_underlying ht, Result.andThen_ok, hrun, run_sizeT hn, Option.map_none, Sem.run_pure, Option.map_some]
      by_cases hc : cap = l <;> simp [hc]
    · simp only [VR]
      refine ⟨hm, _, _, hho, rfl, by show hh - l ≤ cap - l; omega, ?_⟩
      show SlAt hm (if cap = l then ad else ad.add (l * n)) (hh - l) (cap - l) (o1 + l * n) n
      unfold SlAt at hs ⊢
      rcases hs with ⟨rfl, hs⟩ | ⟨hz, hc0, ho0⟩
      · by_cases hc : cap = l
        · rw [if_pos hc]
          by_cases hl0 : l = 0
          · left
            subst hl0
            refine ⟨by simp, ?_⟩
            rw [hc] at hs ⊢
            simpa using hs
          · right
            refine ⟨by omega, by omega, ?_⟩
            have : 0 < l * n := Nat.mul_pos (by omega) (by omega)
            omega
        · rw [if_neg hc]
          left
          refine ⟨by simp [Addr.add_lit, Nat.add_assoc], ?_⟩
          rw [Nat.add_assoc, ← Nat.add_mul, show l + (cap - l) = cap by omega]
          exact hs
      · right
        refine ⟨by omega, by omega, by omega⟩

theorem lenK_sound (hR : R ρ C w) {c : Call} {x : Operand} {t e : TypeId} {n : Nat} (ho : o.op = .call c) (hc : c.callee = .builtin .len) (hx : c.args = #[x]) (ht : c.argTypes[0]? = some t) (hu : P.underlying t = some (.array n e))
    (h : eLenK n E H = .ok v H') : OpOk P o a w (Post ρ C w H v H') := by
  cases h
  exact ok_value (cv := .int .i64 n) (by simp [execOp, ho, resolve, hc, hx, invoke, builtin, Builtin.len_, ht, run_underlying hu, goInt]) hR (by simp only [VR]; rfl)

theorem lenS_sound (hA : AR P ρ nt E a) (hR : R ρ C w) {c : Call} {x : Operand} {x' : Opd} {t : TypeId} (ho : o.op = .call c) (hc : c.callee = .builtin .len) (hx : c.args = #[x]) (hx' : opdOf P x = some x')
    (ht : c.argTypes[0]? = some t) (hu : P.underlying t = some .string) (h : eLenS x' E H = .ok v H') : OpOk P o a w (Post ρ C w H v H') := by
  replace h := withO_ok h; obtain ⟨u, hu', h⟩ := h
  have h1 := hA.opd hx' hu'
  replace h := onStr_ok h; obtain ⟨l, s, rfl, h⟩ := h
  cases h
  simp only [VR] at h1
  obtain ⟨b, h1, rfl, rfl⟩ := h1
  exact ok_value (cv := .int .i64 b.size) (by simp [execOp, ho, resolve, hc, hx, invoke, builtin, Builtin.len_, ht, run_underlying hu, goInt, h1]) hR (by simp only [VR]; rfl)

theorem len_sound (hA : AR P ρ nt E a) (hR : R ρ C w) {c : Call} {x : Operand} {x' : Opd} {t e : TypeId} (ho : o.op = .call c) (hc : c.callee = .builtin .len) (hx : c.args = #[x]) (hx' : opdOf P x = some x')
    (ht : c.argTypes[0]? = some t) (hu : P.underlying t = some (.slice e)) (h : eLen x' E H = .ok v H') : OpOk P o a w (Post ρ C w H v H') := by
  replace h := withO_ok h; obtain ⟨u, hu', h⟩ := h
  have h1 := hA.opd hx' hu'
  replace h := onSlice_ok h
  rcases h with ⟨rfl, h⟩ | ⟨f, g, o1, l, es, rfl, h⟩
  · cases h
    simp only [VR] at h1
    exact ok_value (cv := .int .i64 0) (by simp [execOp, ho, resolve, hc, hx, invoke, builtin, Builtin.len_, ht, run_underlying hu, goInt, h1]) hR (by simp only [VR]; rfl)
  · cases h
    simp only [VR] at h1
    obtain ⟨hm, ad, cap, hho, h1, hlc, hs⟩ := h1
    exact ok_value (cv := .int .i64 l) (by simp [execOp, ho, resolve, hc, hx, invoke, builtin, Builtin.len_, ht, run_underlying hu, goInt, h1]) hR (by simp only [VR]; rfl)

theorem conv_sound (hA : AR P ρ nt E a) (hR : R ρ C w) {src dst : TypeId} {k k' : IntKind} {x : Operand} {x' : Opd} (ho : o.op = .convert src dst x) (hx : opdOf P x = some x') (hs : P.underlying src = some (.int k')) (hd : P.underlying dst = some (.int k))
    (h : eConv k x' E H = .ok v H') : OpOk P o a w (Post ρ C w H v H') := by
  replace h := withO_ok h; obtain ⟨u, hu, h⟩ := h
  replace h := onInt_ok h; obtain ⟨kd, n, rfl, h⟩ := h
  rw [seqInt_eq] at h
  cases h
  have h1 := hA.opd hx hu
  simp only [VR] at h1
  exact ok_value (cv := .int k (k.wrap n)) (by simp [execOp, ho, h1, convert, run_underlying hs, run_underlying hd, Conv.intToInt]) hR (by simp only [VR, wrapF_eq])

end
end Go.Ev
