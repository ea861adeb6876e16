/- A part of an evaluator for the program's code: Operations that only compute: parts, indexes, slices, lengths, conversions. It holds for every program. -/
import Derived.Test.YtgjadkcogmpkdaaGreatDoorEvH
/-! Operations that only compute: parts, indexes, slices, lengths, conversions. -/
set_option linter.unusedVariables false
set_option linter.unusedSimpArgs false
namespace Go.Ev
section
variable {P : Program} {ρ : Ho} {nt : Nat} {E : Env} {a : Act} {C : Nat → Option AObj} {w : World} {H H' : AHeap} {v : AVal} {o : Oper}

theorem sizeT_ok {t : TypeId} {n : Nat} (h : sizeT P t = some n) : ∃ i d, P.info? t = some i ∧ P.underlying t = some d ∧ i.size = n ∧ n ≠ 0 := by
  unfold sizeT at h
  split at h
  · rename_i i d hi hd
    split at h
    · rename_i hn
      cases h
      exact ⟨i, d, hi, hd, rfl, hn⟩
    · cases h
  · cases h
theorem run_sizeT {t : TypeId} {n : Nat} (h : sizeT P t = some n) (w : World) : (sizeOf t).run P w = .ok n w := by
  obtain ⟨i, d, hi, _, e, _⟩ := sizeT_ok h
  simp [sizeOf, typeInfo, hi, e]
theorem run_isAggT {t : TypeId} {n : Nat} (h : sizeT P t = some n) (w : World) : (isAgg t).run P w = .ok (isAggT P t) w := by
  obtain ⟨i, d, _, hd, _, _⟩ := sizeT_ok h
  unfold isAgg isAggT
  rw [hd]
  cases d <;> simp [run_underlying hd]

theorem part_ok {t : TypeId} {n off e : Nat} {l : List AVal} {cs : Array Value} (hs : sizeT P t = some n) (hv : VRs ρ l cs.toList) (hok : l.all okCell = true) (hle : off + n ≤ l.length)
    (h : outA (isAggT P t) ((l.drop off).take n) (.err e) (fun v => .ok v H) = .ok v H') : H' = H ∧ ∃ cv, (part t cs off).run P w = .ok cv w ∧ VR ρ v cv := by
  replace h := outA_ok h
  have hsz := run_sizeT hs w
  have hag := run_isAggT hs w
  rcases h with ⟨ha, h⟩ | ⟨x, ha, hl, h⟩
  · cases h
    refine ⟨rfl, .agg (cs.extract off (off + n)), ?_, ?_⟩
    · rw [ha] at hag
      simp [part, hag, hsz]
    · simp only [VR]
      refine ⟨_, rfl, ?_, ?_⟩
      · have e1 : (cs.extract off (off + n)).toList = (cs.toList.drop off).take n := by
          rw [Array.toList_extract, List.extract_eq_take_drop, show off + n - off = n by omega]
        rw [e1]
        exact (hv.drop off).take n
      · rw [List.all_eq_true] at hok ⊢
        exact fun x hx => hok x (List.mem_of_mem_drop (List.mem_of_mem_take hx))
  · cases h
    have hx : l[off]? = some v := by
      have h1 : ((l.drop off).take n)[0]? = some v := by rw [hl]; rfl
      rw [List.getElem?_take] at h1
      split at h1
      · rw [List.getElem?_drop] at h1
        simpa using h1
      · cases h1
    obtain ⟨y, hy, k⟩ := hv.get off v hx
    have hy' : cs[off]? = some y := by simpa using hy
    refine ⟨rfl, y, ?_, k⟩
    rw [ha] at hag
    simp [part, hag, hy']

theorem sub_sound (hA : AR P ρ nt E a) (hR : R ρ C w) {s : TypeId} {x : Operand} {f n : Nat} {x' : Opd} {fs : Array Field} {fd : Field} (ho : o.op = .field s x f) (hx : opdOf P x = some x')
    (hs : P.underlying s = some (.struct fs)) (hf : fs[f]? = some fd) (hn : sizeT P fd.type = some n) (h : eSub x' fd.offset n (isAggT P fd.type) E H = .ok v H') : OpOk P o a w (Post ρ C w H v H') := by
  replace h := withO_ok h; obtain ⟨u, hu, h⟩ := h
  replace h := onAgg_ok h; obtain ⟨l, rfl, h⟩ := h
  replace h := chk_ok h; obtain ⟨hb, h⟩ := h
  rw [lenL_eq] at hb
  have hb := Nat.le_of_ble_eq_true hb
  have h1 := hA.opd hx hu
  simp only [VR] at h1
  obtain ⟨vs, h1, hv, hok⟩ := h1
  obtain ⟨rfl, cv, hc, hcv⟩ := part_ok (P := P) (ρ := ρ) (w := w) hn hv hok hb h
  exact ok_value (by simp [execOp, ho, h1, Instr.field, run_underlying hs, hf, asAgg, hc]) hR hcv

theorem idxArr_sound (hA : AR P ρ nt E a) (hR : R ρ C w) {t e : TypeId} {x i : Operand} {x' i' : Opd} {k n : Nat} (ho : o.op = .indexAddr t x i) (hx : opdOf P x = some x') (hi : opdOf P i = some i')
    (ht : P.underlying t = some (.array k e)) (hn : sizeT P e = some n) (h : eIdxArr k n x' i' E H = .ok v H') : OpOk P o a w (Post ρ C w H v H') := by
  replace h := withO_ok h; obtain ⟨u, hu, h⟩ := h
  replace h := onPtr_ok h; obtain ⟨f1, g1, o1, rfl, h⟩ := h
  replace h := withO_ok h; obtain ⟨u2, hu2, h⟩ := h
  replace h := idx_ok h; obtain ⟨kd, j, rfl, hj, h⟩ := h
  rw [seqNat_eq] at h
  cases h
  have h1 := hA.opd hx hu
  have h2 := hA.opd hi hu2
  simp only [VR] at h1 h2
  obtain ⟨hm, hh, h1⟩ := h1
  have hj' : (j : Int) < (k : Int) := by omega
  refine ok_value (cv := .pointer (some ⟨hm.blk, hm.off + (o1 + j * n), none⟩)) ?_ hR ?_
  · simp [execOp, ho, h1, h2, Instr.indexAt, run_underlying ht, asIntOf, Instr.sureAddr, run_sizeT hn, Addr.add_lit, Nat.add_assoc, hj', hj]
  · simp only [VR]
    exact ⟨hm, hh, rfl⟩

theorem idxSl_sound (hA : AR P ρ nt E a) (hR : R ρ C w) {t e : TypeId} {x i : Operand} {x' i' : Opd} {n : Nat} (ho : o.op = .indexAddr t x i) (hx : opdOf P x = some x') (hi : opdOf P i = some i')
    (ht : P.underlying t = some (.slice e)) (hn : sizeT P e = some n) (h : eIdxSl n x' i' E H = .ok v H') : OpOk P o a w (Post ρ C w H v H') := by
  replace h := withO_ok h; obtain ⟨u, hu, h⟩ := h
  replace h := onSlice_ok h
  rcases h with ⟨_, h⟩ | ⟨f1, g1, o1, l1, es, rfl, h⟩
  · cases h
  replace h := withO_ok h; obtain ⟨u2, hu2, h⟩ := h
  replace h := idx_ok h; obtain ⟨kd, j, rfl, hj, h⟩ := h
  rw [seqNat_eq] at h
  cases h
  have h1 := hA.opd hx hu
  have h2 := hA.opd hi hu2
  simp only [VR] at h1 h2
  obtain ⟨hm, ad, cap, hh, h1, hlc, hs⟩ := h1
  rcases hs with ⟨rfl, hs⟩ | ⟨hz, _⟩
  · have hj' : (j : Int) < (l1 : Int) := by omega
    refine ok_value (cv := .pointer (some ⟨hm.blk, hm.off + (o1 + j * n), none⟩)) ?_ hR ?_
    · simp [execOp, ho, h1, h2, Instr.indexAt, run_underlying ht, asIntOf, Instr.sureAddr, run_sizeT hn, Addr.add_lit, Nat.add_assoc, hj', hj]
    · simp only [VR]
      exact ⟨hm, hh, rfl⟩
  · omega

theorem idxVal_sound (hA : AR P ρ nt E a) (hR : R ρ C w) {t e : TypeId} {x i : Operand} {x' i' : Opd} {k n : Nat} (ho : o.op = .index t x i) (hx : opdOf P x = some x') (hi : opdOf P i = some i')
    (ht : P.underlying t = some (.array k e)) (hn : sizeT P e = some n) (h : eIdxVal k n (isAggT P e) x' i' E H = .ok v H') : OpOk P o a w (Post ρ C w H v H') := by
  replace h := withO_ok h; obtain ⟨u, hu, h⟩ := h
  replace h := onAgg_ok h; obtain ⟨l, rfl, h⟩ := h
  replace h := withO_ok h; obtain ⟨u2, hu2, h⟩ := h
  replace h := idx_ok h; obtain ⟨kd, j, rfl, hj, h⟩ := h
  replace h := chk_ok h; obtain ⟨hb, h⟩ := h
  rw [lenL_eq] at hb
  have hb := Nat.le_of_ble_eq_true hb
  have h1 := hA.opd hx hu
  have h2 := hA.opd hi hu2
  simp only [VR] at h1 h2
  obtain ⟨vs, h1, hv, hok⟩ := h1
  have hj' : (j : Int) < (k : Int) := by omega
  obtain ⟨rfl, cv, hc, hcv⟩ := part_ok (P := P) (ρ := ρ) (w := w) hn hv hok hb h
  have hc' : (part e vs (j * n)).run P w = .ok cv w := hc
  exact ok_value (by simp [execOp, ho, h1, h2, Instr.index, asIntOf, run_underlying ht, run_sizeT hn, hj', hj, hc']) hR hcv

theorem idxStr_sound (hA : AR P ρ nt E a) (hR : R ρ C w) {t : TypeId} {x i : Operand} {x' i' : Opd} (ho : o.op = .index t x i) (hx : opdOf P x = some x') (hi : opdOf P i = some i')
    (ht : P.underlying t = some .string) (h : eIdxStr x' i' E H = .ok v H') : OpOk P o a w (Post ρ C w H v H') := by
  replace h := withO_ok h; obtain ⟨u, hu, h⟩ := h
  replace h := onStr_ok h; obtain ⟨l, s, rfl, h⟩ := h
  replace h := withO_ok h; obtain ⟨u2, hu2, h⟩ := h
  replace h := idx_ok h; obtain ⟨kd, j, rfl, hj, h⟩ := h
  rw [seqNat_eq] at h
  cases h
  have h1 := hA.opd hx hu
  have h2 := hA.opd hi hu2
  simp only [VR] at h1 h2
  obtain ⟨b, h1, rfl, rfl⟩ := h1
  have hsz : b.size = b.data.toList.length := by rw [Array.length_toList]; rfl
  have hj2 : j < b.data.toList.length := by omega
  have hb : b[j]? = some (b.data.toList[j]) := by
    rw [getElem?_pos b j (by omega)]
    rfl
  refine ok_value (cv := .int .u8 (byteAt (pack b.data.toList) j)) ?_ hR (by simp only [VR]; rfl)
  rw [byteAt_pack _ _ hj2]
  have h3 : (0 : Int) ≤ (j : Int) := by omega
  simp only [execOp, ho, h1, h2, Instr.index, asIntOf, Sem.run_bind, Sem.run_pure, Result.andThen_ok, run_underlying ht, if_pos h3, Int.toNat_natCast, hb]

end
end Go.Ev
