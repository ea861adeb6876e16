/- A part of an evaluator for the program's code: The operations are sound: those that only compute, and those that read. It holds for every program. -/
import Derived.Test.YtgjadkcogmpkdaaGreatDoorEvE
import Derived.Deep.AppendSrc
import Derived.RowKit3
import Derived.IntWalk
/-! The operations are sound: those that only compute, and those that read. -/
set_option linter.unusedVariables false
set_option linter.unusedSimpArgs false
namespace Go.Ev

mutual
theorem valOf_ok (ρ : Ho) : ∀ (v : Value) (a : AVal), valOf v = some a → VR ρ a v
  | .bool b, a, h => by simp only [valOf, Option.some.injEq] at h; subst h; simp [VR]
  | .int k n, a, h => by simp only [valOf, Option.some.injEq] at h; subst h; simp [VR]
  | .float _ _, a, h => by simp [valOf] at h
  | .complex _ _ _, a, h => by simp [valOf] at h
  | .string s, a, h => by simp only [valOf, Option.some.injEq] at h; subst h; simp only [VR]; exact ⟨s, rfl, rfl, rfl⟩
  | .pointer none, a, h => by simp only [valOf, Option.some.injEq] at h; subst h; simp [VR]
  | .pointer (some _), a, h => by simp [valOf] at h
  | .slice none l c, a, h => by
    unfold valOf at h
    split at h <;> simp_all
    subst h
    simp [VR]
  | .slice (some _) _ _, a, h => by simp [valOf] at h
  | .map none, a, h => by simp only [valOf, Option.some.injEq] at h; subst h; simp [VR]
  | .map (some _), a, h => by simp [valOf] at h
  | .chan _, a, h => by simp [valOf] at h
  | .func _ _ _, a, h => by simp [valOf] at h
  | .nilFunc, a, h => by simp only [valOf, Option.some.injEq] at h; subst h; simp [VR]
  | .iface _ _, a, h => by simp [valOf] at h
  | .nilIface, a, h => by simp only [valOf, Option.some.injEq] at h; subst h; simp [VR]
  | .agg ⟨cs⟩, a, h => by
    unfold valOf at h
    split at h
    · rename_i l hl
      split at h
      · rename_i hk
        cases h
        simp only [VR]
        exact ⟨_, rfl, valsOf_ok ρ cs l hl, hk⟩
      · cases h
    · cases h
  | .tuple _, a, h => by simp [valOf] at h
theorem valsOf_ok (ρ : Ho) : ∀ (l : List Value) (as : List AVal), valsOf l = some as → VRs ρ as l
  | [], as, h => by simp only [valsOf, Option.some.injEq] at h; subst h; rfl
  | v :: r, as, h => by
    unfold valsOf at h
    split at h
    · rename_i x l h1 h2
      cases h
      exact ⟨v, r, rfl, valOf_ok ρ v x h1, valsOf_ok ρ r l h2⟩
    · cases h
end

structure AR (P : Program) (ρ : Ho) (nt : Nat) (E : Env) (a : Act) : Prop where
  size : a.tmps.size = nt
  defers : a.defers = []
  tmp : ∀ t v, E.get t = some v → ∃ cv, a.tmps[t.n]? = some cv ∧ VR ρ v cv
  glob : ∀ g, g < P.globals.size → ∃ h, ρ g 1 = some h ∧ h.blk = g ∧ h.off = 0

theorem AR.mono {P : Program} {ρ ρ' : Ho} {nt : Nat} {E : Env} {a : Act} (h : AR P ρ nt E a) (hl : ρ.le ρ') : AR P ρ' nt E a :=
  ⟨h.size, h.defers, fun t v e => let ⟨cv, h1, h2⟩ := h.tmp t v e; ⟨cv, h1, h2.mono hl⟩, fun g hg => let ⟨x, h1, h2⟩ := h.glob g hg; ⟨x, hl _ _ _ h1, h2⟩⟩

theorem AR.put {P : Program} {ρ : Ho} {nt : Nat} {E : Env} {a : Act} (h : AR P ρ nt E a) {d : Key} (hd : d.n < nt) {v : AVal} {cv : Value} (hv : VR ρ v cv) : AR P ρ nt (E.set d v) (a.put (some d.n) cv) := by
  refine ⟨by simp [Act.put, h.size], by simp [Act.put, h.defers], fun t x e => ?_, h.glob⟩
  rw [Env.get_set] at e
  split at e
  · rename_i he
    subst he
    cases e
    exact ⟨cv, by simp [Act.put, h.size, hd], hv⟩
  · rename_i he
    obtain ⟨y, hy, k⟩ := h.tmp t x e
    exact ⟨y, by simp only [Act.put]; rw [Array.getElem?_setIfInBounds_ne (fun e => he (Key.inj e.symm))]; exact hy, k⟩

section
variable {P : Program} {ρ : Ho} {nt : Nat} {E : Env} {a : Act}

theorem AR.opd (h : AR P ρ nt E a) {x : Operand} {y : Opd} {v : AVal} (ho : opdOf P x = some y) (hv : y.ev E = some v) : VR ρ v (a.eval x) := by
  cases x with
  | tmp t =>
    simp only [opdOf] at ho
    split at ho
    · rename_i ht
      cases ho
      obtain ⟨cv, h1, h2⟩ := h.tmp (pk t) v hv
      rw [pk_n ht] at h1
      simp only [Act.eval]
      rw [Array.getD_eq_getD_getElem?, h1]
      exact h2
    · cases ho
  | const c =>
    simp only [opdOf] at ho
    split at ho
    · rename_i w hw
      cases ho
      cases hv
      exact valOf_ok ρ _ _ hw
    · cases ho
  | global g =>
    simp only [opdOf] at ho
    split at ho
    · rename_i hg
      cases ho
      cases hv
      obtain ⟨x, hx, rfl, h2⟩ := h.glob g hg
      simp only [VR, Act.eval]
      exact ⟨x, hx, by simp [h2]⟩
    · cases ho
  | func f =>
    simp only [opdOf, Option.some.injEq] at ho
    subst ho
    cases hv
    simp only [VR, Act.eval]
    exact ⟨#[], rfl, rfl⟩

theorem AR.opds (h : AR P ρ nt E a) : ∀ {xs : List Operand} {ys : List Opd} {vs : List AVal}, opdsOf P xs = some ys → evs E ys = some vs → VRs ρ vs (xs.map a.eval)
  | [], ys, vs, ho, hv => by
    simp only [opdsOf, Option.some.injEq] at ho
    subst ho
    cases hv
    rfl
  | x :: r, ys, vs, ho, hv => by
    simp only [opdsOf] at ho
    split at ho
    · rename_i y l hy hl
      cases ho
      have hv' : ob (y.ev E) none (fun v => ob (evs E l) none fun vs => some (v :: vs)) = some vs := hv
      cases h1 : y.ev E with
      | none => rw [h1] at hv'; cases hv'
      | some v =>
        rw [h1] at hv'
        cases h2 : evs E l with
        | none => rw [h2] at hv'; cases hv'
        | some us =>
          rw [h2] at hv'
          cases hv'
          exact ⟨_, _, rfl, h.opd hy h1, AR.opds h hl h2⟩
    · cases ho
end

/-- What an operation does: a value, or nothing, or a call that gives a value. -/
def OpOk (P : Program) (o : Oper) (a : Act) (w : World) (Φ : Value → World → Prop) : Prop :=
  (∃ cv w', (execOp a.eval o).run P w = .ok (.value cv) w' ∧ Φ cv w') ∨
  (∃ w', (execOp a.eval o).run P w = .ok .skip w' ∧ Φ undef w') ∨
  (∃ f args, (execOp a.eval o).run P w = .ok (.enter f args) w ∧ Calls P f args w fun e w' => ∃ cv, e = .returned cv ∧ Φ cv w')

theorem wp_of_OpOk {P : Program} {o : Oper} {a : Act} {w : World} {Φ : Value → World → Prop} {K : Act → World → Prop} {Q : Exit → Act → World → Prop}
    (h : OpOk P o a w Φ) (hk : ∀ cv w', Φ cv w' → K (a.put o.dst cv) w') : o.wp P a w K Q := by
  unfold Oper.wp
  rcases h with ⟨cv, w', e, hp⟩ | ⟨w', e, hp⟩ | ⟨f, args, e, hp⟩
  · rw [e]; exact hk _ _ hp
  · rw [e]; exact hk _ _ hp
  · rw [e]
    refine Calls.mono hp fun e w' he => ?_
    obtain ⟨cv, rfl, hp⟩ := he
    exact hk _ _ hp

/-- The contents that are known, behind an operation. -/
noncomputable def upd (C : Nat → Option AObj) (H H' : AHeap) (f : Nat) : Option AObj :=
  open Classical in
  if H.next ≤ f ∧ f < H'.next then H'.t.get f else if H'.t.get f = H.t.get f then C f else H'.t.get f

def Wr (H' : AHeap) (f : Nat) : Prop := f ∈ H'.ws ∨ H'.mrk ≤ f

/-- The result of an operation at the abstract state (v, H'). -/
def Post (ρ : Ho) (C : Nat → Option AObj) (w : World) (H : AHeap) (v : AVal) (H' : AHeap) (cv : Value) (w' : World) : Prop :=
  ∃ ρ', VR ρ' v cv ∧ Ext (Wr H') H.next H'.next ρ ρ' w w' ∧ R ρ' (upd C H H') w'

theorem upd_same (C : Nat → Option AObj) (H : AHeap) : upd C H H = C := by
  funext f
  unfold upd
  rw [if_neg (by omega), if_pos rfl]

theorem Post.pure {ρ : Ho} {C : Nat → Option AObj} {w : World} {H : AHeap} {v : AVal} {cv : Value} (hR : R ρ C w) (hv : VR ρ v cv) : Post ρ C w H v H cv w :=
  ⟨ρ, hv, Ext.refl _ _ _ _, by rw [upd_same]; exact hR⟩

theorem ikN_inj {a b : IntKind} (h : Nat.beq (ikN a) (ikN b) = true) : a = b := by cases a <;> cases b <;> first | rfl | cases h
theorem iLt_eq (a b : Int) : iLt a b = decide (a < b) := by
  rw [Bool.eq_iff_iff, decide_eq_true_iff]
  cases a with
  | ofNat a => cases b with
    | ofNat b => simp only [iLt, Nat.ble_eq, Int.ofNat_eq_natCast]; omega
    | negSucc b => simp only [iLt, Int.ofNat_eq_natCast, Int.negSucc_eq, Bool.false_eq_true, false_iff]; omega
  | negSucc a => cases b with
    | ofNat b => simp only [iLt, Int.ofNat_eq_natCast, Int.negSucc_eq, true_iff]; omega
    | negSucc b => simp only [iLt, Nat.ble_eq, Int.negSucc_eq]; omega
theorem iEq_eq (a b : Int) : iEq a b = decide (a = b) := by
  rw [Bool.eq_iff_iff, decide_eq_true_iff]
  cases a with
  | ofNat a => cases b with
    | ofNat b => simp only [iEq, Nat.beq_eq, Int.ofNat_eq_natCast]; omega
    | negSucc b => simp only [iEq, Int.ofNat_eq_natCast, Int.negSucc_eq, Bool.false_eq_true, false_iff]; omega
  | negSucc a => cases b with
    | ofNat b => simp only [iEq, Int.ofNat_eq_natCast, Int.negSucc_eq, Bool.false_eq_true, false_iff]; omega
    | negSucc b => simp only [iEq, Nat.beq_eq, Int.negSucc_eq]; omega

end Go.Ev
