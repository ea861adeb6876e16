/- A part of an evaluator for the program's code: Packed strings. It holds for every program. -/
import Derived.Test.YtgjadkcogmpkdaaGreatDoorEvF
/-! Packed strings. -/
set_option linter.unusedVariables false
set_option linter.unusedSimpArgs false
namespace Go.Ev

theorem pack_append (a b : List UInt8) : pack (a ++ b) = pack a + 256 ^ a.length * pack b := by
  induction a with
  | nil => simp [pack]
  | cons x r ih =>
    simp only [List.cons_append, pack, ih, List.length_cons, Nat.pow_succ]
    rw [Nat.mul_add, ← Nat.add_assoc, ← Nat.mul_assoc, Nat.mul_comm 256 (256 ^ r.length)]
theorem pack_lt (a : List UInt8) : pack a < 256 ^ a.length := by
  induction a with
  | nil => simp [pack]
  | cons x r ih =>
    simp only [pack, List.length_cons, Nat.pow_succ]
    have : x.toNat < 256 := x.toNat_lt
    omega
theorem pack_drop (l : List UInt8) (i : Nat) : pack l / 256 ^ i = pack (l.drop i) := by
  induction i generalizing l with
  | zero => simp
  | succ i ih =>
    cases l with
    | nil => simp [pack]
    | cons x r =>
      simp only [pack, List.drop_succ_cons]
      have hx : x.toNat < 256 := x.toNat_lt
      have e : (x.toNat + 256 * pack r) / 256 = pack r := by omega
      rw [Nat.pow_succ, Nat.mul_comm (256 ^ i) 256, ← Nat.div_div_eq_div_mul, e, ih]
theorem pack_take (l : List UInt8) (n : Nat) : pack l % 256 ^ n = pack (l.take n) := by
  by_cases h : n ≤ l.length
  · have h1 : pack l = pack (l.take n) + 256 ^ n * pack (l.drop n) := by
      have := pack_append (l.take n) (l.drop n)
      rw [List.take_append_drop, List.length_take, Nat.min_eq_left h] at this
      exact this
    have h2 := pack_lt (l.take n)
    rw [List.length_take, Nat.min_eq_left h] at h2
    rw [h1, Nat.add_mul_mod_self_left, Nat.mod_eq_of_lt h2]
  · have h' : l.length ≤ n := by omega
    rw [List.take_of_length_le h']
    refine Nat.mod_eq_of_lt (Nat.lt_of_lt_of_le (pack_lt l) ?_)
    exact Nat.pow_le_pow_right (by omega) h'
theorem pow8 (i : Nat) : 2 ^ (8 * i) = 256 ^ i := by rw [Nat.pow_mul]
theorem shr8 (v i : Nat) : Nat.shiftRight v (Nat.mul 8 i) = v / 256 ^ i := by
  show v >>> (8 * i) = _
  rw [Nat.shiftRight_eq_div_pow, pow8]
theorem byteAt_pack (l : List UInt8) (i : Nat) (h : i < l.length) : byteAt (pack l) i = (l[i]).toNat := by
  unfold byteAt
  rw [shr8, pack_drop]
  show pack (l.drop i) % 256 = _
  have h1 := pack_take (l.drop i) 1
  rw [Nat.pow_one] at h1
  have e : (l.drop i).take 1 = [l[i]] := by rw [List.drop_eq_getElem_cons h]; rfl
  rw [e] at h1
  rw [h1]
  show l[i].toNat + 256 * 0 = _
  omega
theorem strSub_pack (l : List UInt8) (lo hi : Nat) : strSub (pack l) lo hi = pack ((l.drop lo).take (hi - lo)) := by
  unfold strSub
  rw [shr8, pack_drop, ← pack_take]
  show _ % (1 <<< (8 * (hi - lo))) = _
  rw [Nat.shiftLeft_eq, Nat.one_mul, pow8]
theorem strCat_pack (a b : List UInt8) : strCat a.length (pack a) (pack b) = pack (a ++ b) := by
  unfold strCat
  rw [pack_append]
  show pack a + (pack b) <<< (8 * a.length) = _
  rw [Nat.shiftLeft_eq, pow8, Nat.mul_comm]
theorem pack_inj : ∀ {a b : List UInt8}, a.length = b.length → pack a = pack b → a = b
  | [], [], _, _ => rfl
  | [], _ :: _, h, _ => by simp at h
  | _ :: _, [], h, _ => by simp at h
  | x :: r, y :: s, h, k => by
    simp only [pack] at k
    have hx : x.toNat < 256 := x.toNat_lt
    have hy : y.toNat < 256 := y.toNat_lt
    have e1 : x.toNat = y.toNat := by omega
    have e2 : pack r = pack s := by omega
    rw [pack_inj (by simpa using h) e2, UInt8.toNat_inj.1 e1]
theorem strEq_pack (a b : List UInt8) : strEq a.length (pack a) b.length (pack b) = decide (a = b) := by
  unfold strEq
  rw [Bool.eq_iff_iff, decide_eq_true_iff]
  constructor
  · intro h
    split at h
    · rename_i hl
      exact pack_inj (Nat.eq_of_beq_eq_true hl) (Nat.eq_of_beq_eq_true h)
    · cases h
  · rintro rfl
    simp
theorem strLt_pack : ∀ (a b : List UInt8), strLt a.length (pack a) b.length (pack b) = Op.bytesLess a b
  | [], [] => rfl
  | [], _ :: _ => rfl
  | x :: r, [] => rfl
  | x :: r, y :: s => by
    have hx : x.toNat < 256 := x.toNat_lt
    have hy : y.toNat < 256 := y.toNat_lt
    have e1 : Nat.mod (pack (x :: r)) 256 = x.toNat := by show (x.toNat + 256 * pack r) % 256 = _; omega
    have e2 : Nat.mod (pack (y :: s)) 256 = y.toNat := by show (y.toNat + 256 * pack s) % 256 = _; omega
    have e3 : Nat.div (pack (x :: r)) 256 = pack r := by show (x.toNat + 256 * pack r) / 256 = _; omega
    have e4 : Nat.div (pack (y :: s)) 256 = pack s := by show (y.toNat + 256 * pack s) / 256 = _; omega
    have step : strLt (x :: r).length (pack (x :: r)) (y :: s).length (pack (y :: s)) =
        match Nat.beq (Nat.mod (pack (x :: r)) 256) (Nat.mod (pack (y :: s)) 256) with
        | true => strLt r.length (Nat.div (pack (x :: r)) 256) s.length (Nat.div (pack (y :: s)) 256)
        | false => Nat.ble (Nat.succ (Nat.mod (pack (x :: r)) 256)) (Nat.mod (pack (y :: s)) 256) := rfl
    rw [step, e1, e2, e3, e4, strLt_pack r s]
    simp only [Op.bytesLess]
    by_cases h : x = y
    · subst h
      have : ¬ (x < x) := by rw [UInt8.lt_iff_toNat_lt]; omega
      simp [this]
    · have hn : Nat.beq x.toNat y.toNat = false := by
        rw [← Bool.not_eq_true, Nat.beq_eq]
        exact fun e => h (UInt8.toNat_inj.1 e)
      rw [hn]
      have hb : (x == y) = false := by simpa using h
      simp only [hb, Bool.false_and, Bool.or_false]
      rw [Bool.eq_iff_iff, Nat.ble_eq, decide_eq_true_iff, UInt8.lt_iff_toNat_lt]
      exact Iff.rfl

end Go.Ev
