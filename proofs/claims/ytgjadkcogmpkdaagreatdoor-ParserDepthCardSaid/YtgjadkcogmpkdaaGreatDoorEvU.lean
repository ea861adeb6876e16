/- A part of an evaluator for the program's code: Regions that draw their order: every order answers as the text's. It holds for every program. -/
import Derived.Test.YtgjadkcogmpkdaaGreatDoorEvT
/-! Regions that draw their order: every order answers as the text's. -/
set_option linter.unusedVariables false
set_option linter.unusedSimpArgs false
namespace Go.Ev

theorem Ext.wide {W : Nat → Prop} {n0 n1 m0 m1 : Nat} {ρ ρ' : Ho} {w w' : World} (h : Ext W n0 n1 ρ ρ' w w') (h0 : m0 ≤ n0) (h1 : n1 ≤ m1) : Ext W m0 m1 ρ ρ' w w' :=
  ⟨h.le, fun f g x e => (h.dom f g x e).imp_right fun k => ⟨by omega, by omega⟩, h.blk, h.frame, h.size, by have := h.nn; omega, h.os, h.tape, h.output⟩
theorem Ext.transW {W : Nat → Prop} {n0 n1 : Nat} {ρ ρ1 ρ2 : Ho} {w w1 w2 : World} (h : Ext W n0 n1 ρ ρ1 w w1) (k : Ext W n0 n1 ρ1 ρ2 w1 w2) : Ext W n0 n1 ρ ρ2 w w2 := by
  refine ⟨Ho.le_trans h.le k.le, ?_, ?_, ?_, Nat.le_trans h.size k.size, h.nn, k.os.trans h.os, k.tape.trans h.tape, k.output.trans h.output⟩
  · intro f g x hx
    rcases k.dom f g x hx with ⟨g0, h0, e⟩ | e
    · exact h.dom f g0 h0 e
    · exact .inr e
  · intro f g x hx
    rcases k.blk f g x hx with e | ⟨a, b⟩ | ⟨g0, h0, e, e1, e2⟩
    · exact h.blk f g x e
    · exact .inr (.inl ⟨Nat.le_trans h.size a, b⟩)
    · rcases h.blk f g0 h0 e with e' | ⟨a, b⟩ | ⟨g1, h1, e', e3, e4⟩
      · exact .inr (.inr ⟨g0, h0, e', e1, e2⟩)
      · exact .inr (.inl ⟨e1 ▸ a, e2 ▸ b⟩)
      · exact .inr (.inr ⟨g1, h1, e', e3.trans e1, e4.trans e2⟩)
  · intro b hb hf
    rw [k.frame b (Nat.lt_of_lt_of_le hb h.size) ?_, h.frame b hb hf]
    intro f g x hx hr hw
    rcases h.blk f g x hx with e | ⟨a, _⟩ | ⟨g0, h0, e, e1, e2⟩
    · exact hf f g x e hr hw
    · intro hh; omega
    · exact e1 ▸ hf f g0 h0 e (e2.trans hr) hw

/-! ### Replays -/
def dstAt (l : List IOp) (n : Nat) : Option Key := (l[n]?).bind (·.dst)
noncomputable def rE (l : List IOp) (E : Env) (V : Nat → AVal) (S : Nat → Bool) : Nat → Env
  | 0 => E
  | n + 1 => if S n = true then putE (rE l E V S n) (dstAt l n) (V n) else rE l E V S n
noncomputable def rC (C : Nat → Option AObj) (Hs : Nat → AHeap) (S : Nat → Bool) : Nat → Nat → Option AObj
  | 0 => C
  | n + 1 => if S n = true then upd (rC C Hs S n) (Hs n) (Hs (n + 1)) else rC C Hs S n

theorem rE_succ {l : List IOp} {E : Env} {V : Nat → AVal} {S : Nat → Bool} (n : Nat) : rE l E V S (n + 1) = if S n = true then putE (rE l E V S n) (dstAt l n) (V n) else rE l E V S n := rfl
theorem rC_succ {C : Nat → Option AObj} {Hs : Nat → AHeap} {S : Nat → Bool} (n : Nat) : rC C Hs S (n + 1) = if S n = true then upd (rC C Hs S n) (Hs n) (Hs (n + 1)) else rC C Hs S n := rfl
def ins (S : Nat → Bool) (j : Nat) : Nat → Bool := fun i => i == j || S i

theorem putE_get (E : Env) (d : Option Key) (v : AVal) (t : Key) : (putE E d v).get t = if d = some t then some v else E.get t := by
  cases d with
  | none => simp [putE]
  | some d =>
    show (E.set d v).get t = _
    rw [Env.get_set]
    by_cases h : t = d
    · subst h; simp
    · rw [if_neg h, if_neg (by simp; exact fun e => h e.symm)]

section
variable {l : List IOp} {E : Env} {V : Nat → AVal} {S : Nat → Bool} {j : Nat}

theorem rE_low (t : Key) {T : Nat → Bool} : ∀ n, (∀ i, i < n → S i ≠ T i → dstAt l i ≠ some t) → (rE l E V S n).get t = (rE l E V T n).get t
  | 0, _ => rfl
  | n + 1, h => by
    have ih := rE_low t n fun i hi => h i (by omega)
    have hn := h n (by omega)
    rw [rE_succ, rE_succ]
    cases hs : S n <;> cases ht : T n
    · simpa using ih
    · have := hn (by simp [hs, ht])
      simp only [Bool.false_eq_true, if_false, if_true, putE_get, if_neg this]; exact ih
    · have := hn (by simp [hs, ht])
      simp only [Bool.false_eq_true, if_false, if_true, putE_get, if_neg this]; exact ih
    · simp only [if_true, putE_get, ih]
theorem rE_high (t : Key) : ∀ n, j ≤ n → (∀ k, j ≤ k → k < n → S k = true → dstAt l k ≠ some t) → (rE l E V S n).get t = (rE l E V S j).get t
  | 0, hj, _ => by have : j = 0 := by omega
                   subst this; rfl
  | n + 1, hj, h => by
    rcases Nat.lt_or_eq_of_le hj with hlt | rfl
    · have ih := rE_high t n (by omega) fun k h1 h2 => h k h1 (by omega)
      rw [rE_succ]
      split
      · rename_i hs; rw [putE_get, if_neg (h n (by omega) (by omega) hs)]; exact ih
      · exact ih
    · rfl
theorem rE_ins (hjS : S j = false) (hjn : j < l.length) (hd : ∀ k t, j < k → S k = true → dstAt l j = some t → dstAt l k ≠ some t) (t : Key) :
    (rE l E V (ins S j) l.length).get t = (putE (rE l E V S l.length) (dstAt l j) (V j)).get t := by
  rw [putE_get]
  have e : ∀ i, ins S j i ≠ S i → i = j := by
    intro i hi
    unfold ins at hi
    by_cases h : i = j
    · exact h
    · simp [h] at hi
  split
  · rename_i hdt
    rw [rE_high (j := j + 1) t l.length hjn fun k h1 h2 hs => hd k t (by omega) (by unfold ins at hs; simpa [show k ≠ j by omega] using hs) hdt]
    rw [rE_succ]
    rw [if_pos (by simp [ins]), putE_get, if_pos hdt]
  · rename_i hdt
    exact rE_low t _ fun i _ hi => by rw [e i hi]; exact hdt
end

section
variable {C : Nat → Option AObj} {Hs : Nat → AHeap} {S : Nat → Bool} {j : Nat}

/-- operation n makes family f or changes it -/
def Touch (Hs : Nat → AHeap) (n f : Nat) : Prop := ((Hs n).next ≤ f ∧ f < (Hs (n + 1)).next) ∨ (Hs (n + 1)).t.get f ≠ (Hs n).t.get f
theorem upd_touch {n f : Nat} (h : Touch Hs n f) : upd C (Hs n) (Hs (n + 1)) f = (Hs (n + 1)).t.get f := by
  unfold upd
  rcases h with h | h
  · rw [if_pos h]
  · rw [if_neg h]; split <;> rfl
theorem upd_untouch {n f : Nat} (h : ¬ Touch Hs n f) : upd C (Hs n) (Hs (n + 1)) f = C f := by
  unfold upd
  rw [if_neg (fun k => h (.inl k)), if_pos (Classical.byContradiction fun k => h (.inr k))]
theorem rC_low (f : Nat) {T : Nat → Bool} : ∀ n, (∀ i, i < n → S i ≠ T i → ¬ Touch Hs i f) → rC C Hs S n f = rC C Hs T n f
  | 0, _ => rfl
  | n + 1, h => by
    have ih := rC_low f n fun i hi => h i (by omega)
    have hn := h n (by omega)
    rw [rC_succ, rC_succ]
    by_cases ht : Touch Hs n f
    · have e : S n = T n := Classical.byContradiction fun k => hn k ht
      rw [e]
      cases T n
      · simpa using ih
      · simp only [if_true, upd_touch ht]
    · cases S n <;> cases T n <;> simp only [Bool.false_eq_true, if_false, if_true, upd_untouch ht] <;> exact ih
theorem rC_high (f : Nat) : ∀ n, j ≤ n → (∀ k, j ≤ k → k < n → S k = true → ¬ Touch Hs k f) → rC C Hs S n f = rC C Hs S j f
  | 0, hj, _ => by have : j = 0 := by omega
                   subst this; rfl
  | n + 1, hj, h => by
    rcases Nat.lt_or_eq_of_le hj with hlt | rfl
    · have ih := rC_high f n (by omega) fun k h1 h2 => h k h1 (by omega)
      rw [rC_succ]
      split
      · rename_i hs; rw [upd_untouch (h n (by omega) (by omega) hs)]; exact ih
      · exact ih
    · rfl
theorem rC_ins {N : Nat} (hjS : S j = false) (hjn : j < N) (hd : ∀ k f, j < k → k < N → S k = true → Touch Hs j f → ¬ Touch Hs k f) (f : Nat) :
    rC C Hs (ins S j) N f = upd (rC C Hs S N) (Hs j) (Hs (j + 1)) f := by
  have e : ∀ i, ins S j i ≠ S i → i = j := by
    intro i hi
    unfold ins at hi
    by_cases h : i = j
    · exact h
    · simp [h] at hi
  by_cases ht : Touch Hs j f
  · rw [upd_touch ht, rC_high (j := j + 1) f N hjn fun k h1 h2 hs => hd k f (by omega) h2 (by unfold ins at hs; simpa [show k ≠ j by omega] using hs) ht]
    rw [rC_succ]
    rw [if_pos (by simp [ins]), upd_touch ht]
  · rw [upd_untouch ht]
    exact rC_low f _ fun i _ hi => by rw [e i hi]; exact ht
/-- what the trace knows before operation n, the replay knows -/
theorem rC_known (f : Nat) (h0 : ∀ o, (Hs 0).t.get f = some o → C f = some o) : ∀ n, (∀ i, i < n → S i = false → ¬ Touch Hs i f) → ∀ o, (Hs n).t.get f = some o → rC C Hs S n f = some o
  | 0, _, o, h => h0 o h
  | n + 1, hn, o, h => by
    have ih := rC_known f h0 n (fun i hi => hn i (by omega)) o
    rw [rC_succ]
    by_cases ht : Touch Hs n f
    · have : S n = true := by
        cases hs : S n
        · exact absurd ht (hn n (by omega) hs)
        · rfl
      rw [if_pos this, upd_touch ht]; exact h
    · have e : (Hs (n + 1)).t.get f = (Hs n).t.get f := Classical.byContradiction fun k => ht (.inr k)
      rw [e] at h
      split
      · rw [upd_untouch ht]; exact ih h
      · exact ih h
end

end Go.Ev
