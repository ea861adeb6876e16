/- A part of an evaluator for the program's code: Operations that only compute. It holds for every program. -/
import Derived.Test.YtgjadkcogmpkdaaGreatDoorEvG
import Derived.Laws.Strings
/-! Operations that only compute. -/
set_option linter.unusedVariables false
set_option linter.unusedSimpArgs false
namespace Go.Ev
section
variable {P : Program} {ρ : Ho} {nt : Nat} {E : Env} {a : Act} {C : Nat → Option AObj} {w : World} {H H' : AHeap} {v : AVal} {o : Oper}

theorem ok_value {cv : Value} (h : (execOp a.eval o).run P w = .ok (.value cv) w) (hR : R ρ C w) (hv : VR ρ v cv) : OpOk P o a w (Post ρ C w H v H) :=
  .inl ⟨cv, w, h, Post.pure hR hv⟩

theorem mov_sound (hA : AR P ρ nt E a) (hR : R ρ C w) {x : Operand} {y : Opd} (ho : o.op = .move x ∨ o.op = .assign x) (hx : opdOf P x = some y)
    (h : eMov y E H = .ok v H') : OpOk P o a w (Post ρ C w H v H') := by
  replace h := withO_ok h; obtain ⟨u, hu, h⟩ := h
  cases h
  exact ok_value (by rcases ho with ho | ho <;> simp [execOp, ho]) hR (hA.opd hx hu)

theorem pick_sound (hA : AR P ρ nt E a) (hR : R ρ C w) {c x z : Operand} {c' x' z' : Opd} (ho : o.op = .pick c x z) (hc : opdOf P c = some c') (hx : opdOf P x = some x') (hz : opdOf P z = some z')
    (h : ePick c' x' z' E H = .ok v H') : OpOk P o a w (Post ρ C w H v H') := by
  replace h := withO_ok h; obtain ⟨u, hu, h⟩ := h
  replace h := onBool_ok h; obtain ⟨b, rfl, h⟩ := h
  have hcv := hA.opd hc hu
  simp only [VR] at hcv
  cases b with
  | true =>
    obtain ⟨u2, hu2, h⟩ := withO_ok (show withO x' E (.err 1) (fun v => .ok v H) = .ok v H' from h)
    cases h
    exact ok_value (by simp [execOp, ho, hcv, asBool]) hR (hA.opd hx hu2)
  | false =>
    obtain ⟨u2, hu2, h⟩ := withO_ok (show withO z' E (.err 1) (fun v => .ok v H) = .ok v H' from h)
    cases h
    exact ok_value (by simp [execOp, ho, hcv, asBool]) hR (hA.opd hz hu2)

theorem run_eqGuard_int (op : BinOp) (t : TypeId) (x y : Operand) (k k' : IntKind) (m n : Int) : (eqGuard op t x y (.int k m) (.int k' n)).run P w = .ok () w := by
  unfold eqGuard
  cases op <;> simp
theorem run_eqGuard_str (op : BinOp) (t : TypeId) (x y : Operand) (k k' : ByteArray) : (eqGuard op t x y (.string k) (.string k')).run P w = .ok () w := by
  unfold eqGuard
  cases op <;> simp

theorem intBits_ok {op : BinOp} {k : IntKind} {m n r : Int} (h : intBits op k m n = some r) : (Op.intBits op k m n).run P w = .ok (.int k r) w := by
  unfold intBits at h
  unfold Op.intBits
  cases op <;> simp_all

theorem kinds_ok {k k' : IntKind} {r : Option AVal} {u : AVal} (h : chk (Nat.beq (ikN k) (ikN k')) r none = some u) : k = k' ∧ r = some u := by
  rw [chk_if] at h
  split at h
  · rename_i hk
    exact ⟨ikN_inj hk, h⟩
  · cases h
theorem not_ok {b : Bool} {r : Option AVal} {u : AVal} (h : chk b none r = some u) : b = false ∧ r = some u := by
  cases b
  · exact ⟨rfl, h⟩
  · cases h
theorem obo_ok {α β : Type} {x : Option α} {k : α → Option β} {u : β} (h : ob x none k = some u) : ∃ y, x = some y ∧ k y = some u := by
  cases x with
  | none => cases h
  | some y => exact ⟨y, rfl, h⟩

theorem intBin_ok {op : BinOp} {k k' : IntKind} {m n : Int} {u : AVal} (t : TypeId) (h : intBin op k m k' n = some u) :
    ∃ cv, (binOp op t (.int k m) (.int k' n)).run P w = .ok cv w ∧ VR ρ u cv := by
  cases op with
  | shl =>
    simp only [intBin] at h
    obtain ⟨hb, h⟩ := not_ok h
    · rw [iLt_eq, decide_eq_false_iff_not] at hb
      cases h
      refine ⟨.int k (k.wrap (m * 2 ^ (min n.toNat k.bits))), ?_, by simp only [VR, wrapF_eq]⟩
      simp only [binOp, Op.shift, if_neg hb]
      rfl
  | shr =>
    simp only [intBin] at h
    obtain ⟨hb, h⟩ := not_ok h
    · rw [iLt_eq, decide_eq_false_iff_not] at hb
      cases h
      refine ⟨.int k (m.fdiv (2 ^ (min n.toNat k.bits))), ?_, by simp only [VR]⟩
      simp only [binOp, Op.shift, if_neg hb]
      rfl
  | quo =>
    simp only [intBin] at h
    have hh := kinds_ok h; clear h; obtain ⟨rfl, h⟩ := hh
    obtain ⟨hb, h⟩ := not_ok h
    · rw [iEq_eq, decide_eq_false_iff_not] at hb
      cases h
      exact ⟨.int k (k.wrap (m.tdiv n)), by simp [binOp, Op.intDiv, hb], by simp only [VR, wrapF_eq]⟩
  | rem =>
    simp only [intBin] at h
    have hh := kinds_ok h; clear h; obtain ⟨rfl, h⟩ := hh
    obtain ⟨hb, h⟩ := not_ok h
    · rw [iEq_eq, decide_eq_false_iff_not] at hb
      cases h
      exact ⟨.int k (m.tmod n), by simp [binOp, Op.intDiv, hb], by simp only [VR]⟩
  | and =>
    simp only [intBin] at h
    have hh := kinds_ok h; clear h; obtain ⟨rfl, h⟩ := hh
    obtain ⟨r, hr, h⟩ := obo_ok h
    · cases h
      exact ⟨_, by simp only [binOp, ne_eq, not_true_eq_false, if_false]; exact intBits_ok hr, by simp only [VR]⟩
  | or =>
    simp only [intBin] at h
    have hh := kinds_ok h; clear h; obtain ⟨rfl, h⟩ := hh
    obtain ⟨r, hr, h⟩ := obo_ok h
    · cases h
      exact ⟨_, by simp only [binOp, ne_eq, not_true_eq_false, if_false]; exact intBits_ok hr, by simp only [VR]⟩
  | xor =>
    simp only [intBin] at h
    have hh := kinds_ok h; clear h; obtain ⟨rfl, h⟩ := hh
    obtain ⟨r, hr, h⟩ := obo_ok h
    · cases h
      exact ⟨_, by simp only [binOp, ne_eq, not_true_eq_false, if_false]; exact intBits_ok hr, by simp only [VR]⟩
  | andNot =>
    simp only [intBin] at h
    have hh := kinds_ok h; clear h; obtain ⟨rfl, h⟩ := hh
    obtain ⟨r, hr, h⟩ := obo_ok h
    · cases h
      exact ⟨_, by simp only [binOp, ne_eq, not_true_eq_false, if_false]; exact intBits_ok hr, by simp only [VR]⟩
  | add =>
    simp only [intBin] at h
    have hh := kinds_ok h; clear h; obtain ⟨rfl, h⟩ := hh
    cases h
    exact ⟨.int k (k.wrap (m + n)), by simp [binOp, Op.intArith], by simp only [VR, wrapF_eq]⟩
  | sub =>
    simp only [intBin] at h
    have hh := kinds_ok h; clear h; obtain ⟨rfl, h⟩ := hh
    cases h
    exact ⟨.int k (k.wrap (m - n)), by simp [binOp, Op.intArith], by simp only [VR, wrapF_eq]⟩
  | mul =>
    simp only [intBin] at h
    have hh := kinds_ok h; clear h; obtain ⟨rfl, h⟩ := hh
    cases h
    exact ⟨.int k (k.wrap (m * n)), by simp [binOp, Op.intArith], by simp only [VR, wrapF_eq]⟩
  | eql =>
    simp only [intBin] at h
    have hh := kinds_ok h; clear h; obtain ⟨rfl, h⟩ := hh
    cases h
    exact ⟨.bool (m == n), by simp [binOp, Op.intCmp], by simp only [VR, iEq_eq]; rfl⟩
  | neq =>
    simp only [intBin] at h
    have hh := kinds_ok h; clear h; obtain ⟨rfl, h⟩ := hh
    cases h
    exact ⟨.bool (m != n), by simp [binOp, Op.intCmp], by simp only [VR, iEq_eq]; rfl⟩
  | lss =>
    simp only [intBin] at h
    have hh := kinds_ok h; clear h; obtain ⟨rfl, h⟩ := hh
    cases h
    exact ⟨.bool (decide (m < n)), by simp [binOp, Op.intCmp], by simp only [VR, iLt_eq]⟩
  | gtr =>
    simp only [intBin] at h
    have hh := kinds_ok h; clear h; obtain ⟨rfl, h⟩ := hh
    cases h
    exact ⟨.bool (decide (m > n)), by simp [binOp, Op.intCmp], by simp only [VR, iLt_eq]⟩
  | leq =>
    simp only [intBin] at h
    have hh := kinds_ok h; clear h; obtain ⟨rfl, h⟩ := hh
    cases h
    refine ⟨.bool (decide (m ≤ n)), by simp [binOp, Op.intCmp], ?_⟩
    simp only [VR, iLt_eq, Value.bool.injEq]
    rw [Bool.eq_iff_iff]
    simp
  | geq =>
    simp only [intBin] at h
    have hh := kinds_ok h; clear h; obtain ⟨rfl, h⟩ := hh
    cases h
    refine ⟨.bool (decide (m ≥ n)), by simp [binOp, Op.intCmp], ?_⟩
    simp only [VR, iLt_eq, Value.bool.injEq]
    rw [Bool.eq_iff_iff]
    simp

theorem bytesLess_gt : ∀ (a b : List UInt8), (!(Op.bytesLess a b || a == b)) = Op.bytesLess b a
  | [], [] => rfl
  | [], _ :: _ => rfl
  | _ :: _, [] => rfl
  | x :: r, y :: s => by
    simp only [Op.bytesLess, List.cons_beq_cons]
    rw [← bytesLess_gt r s]
    rcases Nat.lt_trichotomy x.toNat y.toNat with h | h | h
    · have h1 : x < y := UInt8.lt_iff_toNat_lt.2 h
      have h2 : ¬ y < x := by rw [UInt8.lt_iff_toNat_lt]; omega
      have h3 : x ≠ y := fun e => by subst e; omega
      have h4 : y ≠ x := fun e => h3 e.symm
      simp [h1, h2, h3, h4]
    · have h0 : x = y := UInt8.toNat_inj.1 h
      subst h0
      have h2 : ¬ x < x := by rw [UInt8.lt_iff_toNat_lt]; omega
      simp [h2]
    · have h1 : y < x := UInt8.lt_iff_toNat_lt.2 h
      have h2 : ¬ x < y := by rw [UInt8.lt_iff_toNat_lt]; omega
      have h3 : x ≠ y := fun e => by subst e; omega
      have h4 : y ≠ x := fun e => h3 e.symm
      simp [h1, h2, h3, h4]

theorem strBin_ok {op : BinOp} {s t : ByteArray} {u : AVal} (ty : TypeId) (h : strBin op s.size (pack s.data.toList) t.size (pack t.data.toList) = some u) :
    ∃ cv, (binOp op ty (.string s) (.string t)).run P w = .ok cv w ∧ VR ρ u cv := by
  have hs : s.size = s.data.toList.length := by rw [Array.length_toList]; rfl
  have ht : t.size = t.data.toList.length := by rw [Array.length_toList]; rfl
  have hls : s.toList = s.data.toList := ByteArray.toList_eq s
  have hlt : t.toList = t.data.toList := ByteArray.toList_eq t
  unfold strBin at h
  cases op <;> simp only [reduceCtorEq] at h
  case add =>
    rw [chk_if] at h
    split at h
    · rename_i hb
      have hb := Nat.le_of_ble_eq_true hb
      cases h
      refine ⟨.string (s ++ t), ?_, ?_⟩
      · have h1 : ¬ (IntKind.i64.max < ((s.size + t.size : Nat) : Int)) := by
          have : IntKind.i64.max = 9223372036854775807 := rfl
          rw [this]
          have : s.size + t.size ≤ 4611686018427387904 := hb
          omega
        simp only [binOp, Op.stringOp]
        rw [if_neg (by simpa using h1)]
        rfl
      · simp only [VR]
        refine ⟨s ++ t, rfl, by simp, ?_⟩
        have e : (s ++ t).data.toList = s.data.toList ++ t.data.toList := by simp
        rw [e, ← strCat_pack, hs]
    · cases h
  all_goals
    cases h
    rw [hs, ht]
    simp only [strEq_pack, strLt_pack]
  case eql => exact ⟨.bool (s.data.toList == t.data.toList), by simp [binOp, Op.stringOp, hls, hlt], by simp only [VR, Value.bool.injEq]; rw [Bool.eq_iff_iff]; simp⟩
  case neq => exact ⟨.bool (!(s.data.toList == t.data.toList)), by simp [binOp, Op.stringOp, hls, hlt], by simp only [VR, Value.bool.injEq]; rw [Bool.eq_iff_iff]; simp⟩
  case lss => exact ⟨.bool (Op.bytesLess s.data.toList t.data.toList), by simp [binOp, Op.stringOp, hls, hlt], by simp only [VR]⟩
  case geq => exact ⟨.bool (!Op.bytesLess s.data.toList t.data.toList), by simp [binOp, Op.stringOp, hls, hlt], by simp only [VR]⟩
  case gtr =>
    refine ⟨.bool (!(Op.bytesLess s.data.toList t.data.toList || s.data.toList == t.data.toList)), by simp [binOp, Op.stringOp, hls, hlt], ?_⟩
    simp only [VR, Value.bool.injEq]
    exact bytesLess_gt _ _
  case leq =>
    refine ⟨.bool (Op.bytesLess s.data.toList t.data.toList || s.data.toList == t.data.toList), by simp [binOp, Op.stringOp, hls, hlt], ?_⟩
    simp only [VR, Value.bool.injEq]
    have := bytesLess_gt s.data.toList t.data.toList
    rw [← this, Bool.not_not]

theorem bin_sound (hA : AR P ρ nt E a) (hR : R ρ C w) {op : BinOp} {t t' : TypeId} {x z : Operand} {x' z' : Opd} (ho : o.op = .binOp op t x z t') (hx : opdOf P x = some x') (hz : opdOf P z = some z')
    (h : eBin op x' z' E H = .ok v H') : OpOk P o a w (Post ρ C w H v H') := by
  replace h := withO_ok h; obtain ⟨u, hu, h⟩ := h
  replace h := withO_ok h; obtain ⟨u2, hu2, h⟩ := h
  rw [binR_eq] at h
  replace h := ob_ok h; obtain ⟨r, hr, h⟩ := h
  rw [seqVal_eq] at h
  cases h
  have h1 := hA.opd hx hu
  have h2 := hA.opd hz hu2
  unfold binA at hr
  split at hr
  · simp only [VR] at h1 h2
    obtain ⟨cv, hc, hv⟩ := intBin_ok (P := P) (ρ := ρ) (w := w) t hr
    exact ok_value (by simp [execOp, ho, h1, h2, run_eqGuard_int, hc]) hR hv
  · simp only [VR] at h1 h2
    obtain ⟨s1, e1, rfl, rfl⟩ := h1
    obtain ⟨s2, e2, rfl, rfl⟩ := h2
    obtain ⟨cv, hc, hv⟩ := strBin_ok (P := P) (ρ := ρ) (w := w) t hr
    exact ok_value (by simp [execOp, ho, e1, e2, run_eqGuard_str, hc]) hR hv
  · cases hr

theorem un_sound (hA : AR P ρ nt E a) (hR : R ρ C w) {op : UnOp} {t : TypeId} {x : Operand} {x' : Opd} (ho : o.op = .unOp op t x) (hx : opdOf P x = some x')
    (h : eUn op x' E H = .ok v H') : OpOk P o a w (Post ρ C w H v H') := by
  replace h := withO_ok h; obtain ⟨u, hu, h⟩ := h
  replace h := ob_ok h; obtain ⟨r, hr, h⟩ := h
  rw [seqVal_eq] at h
  cases h
  have h1 := hA.opd hx hu
  unfold unA at hr
  split at hr
  · rename_i k n
    simp only [VR] at h1
    cases hr
    exact ok_value (cv := .int k (IntKind.wrap k (0 - n))) (by simp [execOp, ho, h1, Op.unary, Op.intArith]) hR (by simp only [VR, wrapF_eq])
  · simp only [VR] at h1
    obtain ⟨r', hr', hr⟩ := obo_ok hr
    cases hr
    exact ok_value (by simp only [execOp, ho, h1, Op.unary, Sem.run_bind, intBits_ok hr', Result.andThen_ok]; rfl) hR (by simp only [VR])
  · simp only [VR] at h1
    cases hr
    exact ok_value (by simp [execOp, ho, h1, Op.unary]; rfl) hR (by simp only [VR])
  · cases hr

theorem offs_sound (hA : AR P ρ nt E a) (hR : R ρ C w) {s : TypeId} {x : Operand} {f : Nat} {x' : Opd} {fs : Array Field} {fd : Field} {i : TypeInfo} (ho : o.op = .fieldAddr s x f) (hx : opdOf P x = some x')
    (hs : P.underlying s = some (.struct fs)) (hf : fs[f]? = some fd) (hi : P.info? fd.type = some i) (h0 : i.size ≠ 0) (h : eOffs x' fd.offset E H = .ok v H') : OpOk P o a w (Post ρ C w H v H') := by
  replace h := withO_ok h; obtain ⟨u, hu, h⟩ := h
  replace h := onPtr_ok h; obtain ⟨f1, g1, o1, rfl, h⟩ := h
  rw [seqNat_eq] at h
  cases h
  have h1 := hA.opd hx hu
  simp only [VR] at h1
  obtain ⟨hm, hh, h1⟩ := h1
  refine ok_value (cv := .pointer (some ⟨hm.blk, hm.off + (o1 + fd.offset), none⟩)) ?_ hR ?_
  · simp [execOp, ho, h1, Instr.fieldAt, run_underlying hs, hf, Instr.sureAddr, fieldPlace, sizeOf, typeInfo, hi, h0, Addr.add_lit, Nat.add_assoc]
  · simp only [VR]
    exact ⟨hm, hh, rfl⟩

theorem extr_sound (hA : AR P ρ nt E a) (hR : R ρ C w) {x : Operand} {i : Nat} {x' : Opd} (ho : o.op = .extract x i) (hx : opdOf P x = some x')
    (h : eExtr x' i E H = .ok v H') : OpOk P o a w (Post ρ C w H v H') := by
  replace h := withO_ok h; obtain ⟨u, hu, h⟩ := h
  replace h := onTuple_ok h; obtain ⟨l, rfl, h⟩ := h
  replace h := ob_ok h; obtain ⟨r, hr, h⟩ := h
  cases h
  have h1 := hA.opd hx hu
  simp only [VR] at h1
  obtain ⟨vs, h1, hv⟩ := h1
  obtain ⟨y, hy, hv⟩ := hv.get i _ hr
  have hy' : vs[i]? = some y := by simpa using hy
  exact ok_value (by simp [execOp, ho, h1, Instr.extract, hy']) hR hv

theorem nilck_sound (hA : AR P ρ nt E a) (hR : R ρ C w) {x : Operand} {x' : Opd} (ho : o.op = .nilCheck x) (hx : opdOf P x = some x')
    (h : eNilck x' E H = .ok v H') : OpOk P o a w (Post ρ C w H v H') := by
  replace h := withO_ok h; obtain ⟨u, hu, h⟩ := h
  replace h := chk_ok h; obtain ⟨hb, h⟩ := h
  cases h
  have h1 := hA.opd hx hu
  cases v <;> simp only [nilckOk, Bool.false_eq_true] at hb
  · have h2 := h1
    simp only [VR] at h1
    obtain ⟨hm, _, h1⟩ := h1
    exact ok_value (by simp [execOp, ho, h1]; rfl) hR (by rw [← h1]; exact h2)
  · have h2 := h1
    simp only [VR] at h1
    obtain ⟨vs, h1, _⟩ := h1
    exact ok_value (by simp [execOp, ho, h1]; rfl) hR (by rw [← h1]; exact h2)

theorem mkfn_sound (hA : AR P ρ nt E a) (hR : R ρ C w) {f : Nat} {first caps : Array Operand} {caps' : List Opd} (ho : o.op = .makeFunc (.func f) first caps) (h0 : first.size = 0) (hx : opdsOf P caps.toList = some caps')
    (h : eMkfn f caps' E H = .ok v H') : OpOk P o a w (Post ρ C w H v H') := by
  replace h := ob_ok h; obtain ⟨vs, hv, h⟩ := h
  cases h
  have h1 := hA.opds hx hv
  have hf : first = #[] := Array.eq_empty_of_size_eq_zero h0
  refine ok_value (cv := .func (.func f) #[] (caps.map a.eval)) (by simp [execOp, ho, Instr.makeFunc, hf]) hR ?_
  simp only [VR]
  exact ⟨_, rfl, by simpa using h1⟩

theorem mkif_sound (hA : AR P ρ nt E a) (hR : R ρ C w) {t : TypeId} {x : Operand} {x' : Opd} {d : TypeDesc} (ho : o.op = .makeInterface t x) (ht : P.underlying t = some d) (hd : ∀ ms, d ≠ .interface ms) (hx : opdOf P x = some x')
    (h : eMkif t x' E H = .ok v H') : OpOk P o a w (Post ρ C w H v H') := by
  replace h := withO_ok h; obtain ⟨u, hu, h⟩ := h
  cases h
  have h1 := hA.opd hx hu
  refine ok_value (cv := .iface t (a.eval x)) ?_ hR ?_
  · cases d <;> first | exact absurd rfl (hd _) | simp [execOp, ho, Instr.makeInterface, run_underlying ht]
  · simp only [VR]
    exact ⟨_, rfl, h1⟩

end
end Go.Ev
