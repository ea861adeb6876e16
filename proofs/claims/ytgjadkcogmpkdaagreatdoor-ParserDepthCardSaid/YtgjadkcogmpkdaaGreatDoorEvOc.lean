/- A part of an evaluator for the program's code: == and != but of numbers and strings. It holds for every program. -/
import Derived.Test.YtgjadkcogmpkdaaGreatDoorEvOb
import Derived.LaidEql
/-! == and != but of numbers and strings. -/
set_option linter.unusedVariables false
set_option linter.unusedSimpArgs false
namespace Go.Ev
section
variable {P : Program} {ρ : Ho} {nt : Nat} {E : Env} {a : Act} {C : Nat → Option AObj} {w : World} {H H' : AHeap} {v : AVal} {o : Oper} {call : CallF}

theorem seqBool_eq (b : Bool) (k : Bool → Res) : seqBool b k = k b := by cases b <;> rfl
set_option maxHeartbeats 1000000 in
theorem eqA_ok (dp : Nat) {c : EqC} {t : TypeId} {d : TypeDesc} (hd : P.underlying t = some d) (hcd : eqCOf P d = some c) {x y : AVal} {cx cy : Value} (h1 : VR ρ x cx) (h2 : VR ρ y cy) {r : Bool} (h : eqA c x y = some r) :
    (Op.equalIn (dp + 1) t cx cy).run P w = .ok r w ∧ (∀ k n, cx ≠ .int k n) ∧ (∀ b, cx ≠ .string b) ∧ (∀ k n, cx ≠ .float k n) ∧ (∀ k n m, cx ≠ .complex k n m) ∧ (∀ cs, cx ≠ .agg cs) ∧ (cx = .nilIface → ∃ ms, d = .interface ms) := by
  unfold eqCOf at hcd
  split at hcd
  · cases hcd
    unfold eqA at h
    simp only at h
    split at h
    · simp only [VR] at h1 h2
      subst h1; subst h2
      cases h
      exact ⟨by simp [Op.equalIn, run_underlying hd], by simp, by simp, by simp, by simp, by simp, by simp⟩
    · cases h
  · rename_i e
    split at hcd
    · rename_i ie hie
      cases hcd
      unfold eqA at h
      simp only at h
      split at h
      · simp only [VR] at h1 h2
        subst h1; subst h2; cases h
        exact ⟨by simp [Op.equalIn, run_underlying hd], by simp, by simp, by simp, by simp, by simp, by simp⟩
      · simp only [VR] at h1 h2
        obtain ⟨_, _, rfl⟩ := h2
        subst h1; cases h
        exact ⟨by simp [Op.equalIn, run_underlying hd], by simp, by simp, by simp, by simp, by simp, by simp⟩
      · simp only [VR] at h1 h2
        obtain ⟨_, _, rfl⟩ := h1
        subst h2; cases h
        exact ⟨by simp [Op.equalIn, run_underlying hd], by simp, by simp, by simp, by simp, by simp, by simp⟩
      · rename_i f g o f' g' o'
        cases b1 : Nat.beq f f'
        · rw [b1] at h; cases h
        · rw [b1, chk_true] at h
          cases b2 : Nat.beq g g'
          · rw [b2] at h; cases h
          · rw [b2, chk_true] at h
            cases b3 : Nat.beq o o'
            · rw [b3] at h; cases h
            · rw [b3, chk_true] at h
              cases h
              have b1 := Nat.eq_of_beq_eq_true b1
              have b2 := Nat.eq_of_beq_eq_true b2
              have b3 := Nat.eq_of_beq_eq_true b3
              subst b1; subst b2; subst b3
              simp only [VR] at h1 h2
              obtain ⟨hm, k1, rfl⟩ := h1
              obtain ⟨hm2, k2, rfl⟩ := h2
              rw [k1] at k2
              cases k2
              exact ⟨by simp [Op.equalIn, run_underlying hd, sizeOf, typeInfo, hie, run_sameAddr_same], by simp, by simp, by simp, by simp, by simp, by simp⟩
      · cases h
    · cases hcd
  · cases hcd
    unfold eqA at h
    simp only at h
    split at h
    · simp only [VR] at h1 h2
      subst h1; subst h2; cases h
      exact ⟨by simp [Op.equalIn, run_underlying hd], by simp, by simp, by simp, by simp, by simp, by simp⟩
    · simp only [VR] at h1 h2
      obtain ⟨_, _, _, _, rfl, _⟩ := h2
      subst h1; cases h
      exact ⟨by simp [Op.equalIn, run_underlying hd], by simp, by simp, by simp, by simp, by simp, by simp⟩
    · simp only [VR] at h1 h2
      obtain ⟨_, _, _, _, rfl, _⟩ := h1
      subst h2; cases h
      exact ⟨by simp [Op.equalIn, run_underlying hd], by simp, by simp, by simp, by simp, by simp, by simp⟩
    · cases h
  · rename_i ms
    cases hcd
    unfold eqA at h
    simp only at h
    split at h
    · simp only [VR] at h1 h2
      subst h1; subst h2; cases h
      exact ⟨by simp [Op.equalIn, run_underlying hd], by simp, by simp, by simp, by simp, by simp, fun _ => ⟨ms, rfl⟩⟩
    · simp only [VR] at h1 h2
      obtain ⟨_, rfl, _⟩ := h2
      subst h1; cases h
      exact ⟨by simp [Op.equalIn, run_underlying hd], by simp, by simp, by simp, by simp, by simp, fun _ => ⟨ms, rfl⟩⟩
    · simp only [VR] at h1 h2
      obtain ⟨_, rfl, _⟩ := h1
      subst h2; cases h
      exact ⟨by simp [Op.equalIn, run_underlying hd], by simp, by simp, by simp, by simp, by simp, by simp⟩
    · rename_i t1 _ t2 _
      cases b1 : Nat.beq t1 t2
      · rw [b1] at h
        cases h
        have hne : t1 ≠ t2 := fun e => by rw [e, Nat.beq_refl] at b1; cases b1
        simp only [VR] at h1 h2
        obtain ⟨_, rfl, _⟩ := h1
        obtain ⟨_, rfl, _⟩ := h2
        exact ⟨by simp [Op.equalIn, run_underlying hd, hne], by simp, by simp, by simp, by simp, by simp, by simp⟩
      · rw [b1] at h; cases h
    · cases h
  · cases hcd
    unfold eqA at h
    simp only at h
    split at h
    · simp only [VR] at h1 h2
      subst h1; subst h2; cases h
      exact ⟨by simp [Op.equalIn, run_underlying hd], by simp, by simp, by simp, by simp, by simp, by simp⟩
    · simp only [VR] at h1 h2
      obtain ⟨_, rfl, _⟩ := h2
      subst h1; cases h
      exact ⟨by simp [Op.equalIn, run_underlying hd], by simp, by simp, by simp, by simp, by simp, by simp⟩
    · simp only [VR] at h1 h2
      obtain ⟨_, rfl, _⟩ := h1
      subst h2; cases h
      exact ⟨by simp [Op.equalIn, run_underlying hd], by simp, by simp, by simp, by simp, by simp, by simp⟩
    · cases h
  · cases hcd
    unfold eqA at h
    simp only at h
    split at h
    · simp only [VR] at h1 h2
      subst h1; subst h2; cases h
      exact ⟨by simp [Op.equalIn, run_underlying hd], by simp, by simp, by simp, by simp, by simp, by simp⟩
    · simp only [VR] at h2
    · simp only [VR] at h1
    · cases h
  · cases hcd

theorem run_eqGuard_free {op : BinOp} (hop : op = .eql ∨ op = .neq) {t : TypeId} {d : TypeDesc} {x y : Operand} {cx cy : Value} (hd : P.underlying t = some d) (hf : eqFree x y d = true) (h5 : ∀ cs, cx ≠ .agg cs) (h6 : cx = .nilIface → ∃ ms, d = .interface ms) :
    (eqGuard op t x y cx cy).run P w = .ok () w := by
  unfold eqGuard
  rcases hop with rfl | rfl
  · rw [if_neg (by decide)]
    split
    · obtain ⟨ms, rfl⟩ := h6 rfl
      simp only [eqFree, Bool.or_eq_true] at hf
      have e : ∀ dp, (Op.eqGuardIn (dp + 1) t .nilIface .nilIface).run P w = .ok (!ms.isEmpty) w := fun dp => by simp [Op.eqGuardIn, run_underlying hd]
      rcases hf with (hf | hf) | hf
      · cases x <;> cases y <;> simp [Op.maxDepth, e 9999, hf]
      · cases x <;> simp [constOpd] at hf <;> simp
      · cases y <;> simp [constOpd] at hf <;> simp
    · exact absurd rfl (h5 _)
    · rfl
  · rw [if_neg (by decide)]
    split
    · obtain ⟨ms, rfl⟩ := h6 rfl
      simp only [eqFree, Bool.or_eq_true] at hf
      have e : ∀ dp, (Op.eqGuardIn (dp + 1) t .nilIface .nilIface).run P w = .ok (!ms.isEmpty) w := fun dp => by simp [Op.eqGuardIn, run_underlying hd]
      rcases hf with (hf | hf) | hf
      · cases x <;> cases y <;> simp [Op.maxDepth, e 9999, hf]
      · cases x <;> simp [constOpd] at hf <;> simp
      · cases y <;> simp [constOpd] at hf <;> simp
    · exact absurd rfl (h5 _)
    · rfl

theorem eqv_sound (hA : AR P ρ nt E a) (hR : R ρ C w) {op : BinOp} {t t' : TypeId} {d : TypeDesc} {x z : Operand} {x' z' : Opd} {io : Ins} (ho : o.op = .binOp op t x z t') (hx : opdOf P x = some x') (hz : opdOf P z = some z') (hu : P.underlying t = some d)
    (hio : eqOf P op d x z x' z' = some io) (h : io.ev call E H = .ok v H') : OpOk P o a w (Post ρ C w H v H') := by
  unfold eqOf at hio
  split at hio
  · rename_i c hc
    split at hio
    · rename_i hfree
      have key : ∀ neg, (op = .eql ∧ neg = false) ∨ (op = .neq ∧ neg = true) → eEq c neg x' z' E H = .ok v H' → OpOk P o a w (Post ρ C w H v H') := by
        intro neg hop h
        replace h := withO_ok h; obtain ⟨u, hu1, h⟩ := h
        replace h := withO_ok h; obtain ⟨u2, hu2, h⟩ := h
        replace h := ob_ok h; obtain ⟨r, hr, h⟩ := h
        rw [seqBool_eq] at h
        cases h
        obtain ⟨g0, g1, g2, g3, g4, g5, g6⟩ := eqA_ok (w := w) 9999 hu hc (hA.opd hx hu1) (hA.opd hz hu2) hr
        have hg := run_eqGuard_free (w := w) (op := op) (by rcases hop with ⟨h, _⟩ | ⟨h, _⟩ <;> simp [h]) (x := x) (y := z) (cy := a.eval z) hu hfree g5 g6
        refine ok_value (cv := .bool (Bool.xor neg r)) ?_ hR (by simp only [VR])
        simp only [execOp, ho, Sem.run_bind, hg, Result.andThen_ok]
        generalize a.eval x = cx at *
        generalize a.eval z = cz at *
        rcases hop with ⟨rfl, rfl⟩ | ⟨rfl, rfl⟩
        · have : (binOp .eql t cx cz).run P w = .ok (.bool r) w := by
            cases cx <;> simp only [binOp] <;> first | exact absurd rfl (g1 _ _) | exact absurd rfl (g2 _) | exact absurd rfl (g3 _ _) | exact absurd rfl (g4 _ _ _) | simp [Op.equal, Op.maxDepth, g0]
          simp [this]
        · have : (binOp .neq t cx cz).run P w = .ok (.bool (!r)) w := by
            cases cx <;> simp only [binOp] <;> first | exact absurd rfl (g1 _ _) | exact absurd rfl (g2 _) | exact absurd rfl (g3 _ _) | exact absurd rfl (g4 _ _ _) | simp [Op.equal, Op.maxDepth, g0]
          simp [this]
      cases op <;> simp only [Option.some.injEq, reduceCtorEq] at hio
      · subst hio; exact key false (.inl ⟨rfl, rfl⟩) h
      · subst hio; exact key true (.inr ⟨rfl, rfl⟩) h
    · cases hio
  · cases hio
end
end Go.Ev
