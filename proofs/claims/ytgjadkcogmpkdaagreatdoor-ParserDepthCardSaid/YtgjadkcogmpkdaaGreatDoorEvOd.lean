/- A part of an evaluator for the program's code: Strings and slices of bytes. It holds for every program. -/
import Derived.Test.YtgjadkcogmpkdaaGreatDoorEvOc
import Derived.Laws.IdiomStrings
import Derived.Laws.BytesArg
import Derived.Lib.Builder
import Derived.Lib.UnsafeStr
/-! Strings and slices of bytes. -/
set_option linter.unusedVariables false
set_option linter.unusedSimpArgs false
namespace Go.Ev
section
variable {P : Program} {ρ : Ho} {nt : Nat} {E : Env} {a : Act} {C : Nat → Option AObj} {w : World} {H H' : AHeap} {v : AVal} {o : Oper} {call : CallF}

theorem convSB_sound (hA : AR P ρ nt E a) (hR : R ρ C w) (hF : Free ρ H.next H'.next) {src dst e : TypeId} {x : Operand} {x' : Opd} (ho : o.op = .convert src dst x) (hx : opdOf P x = some x')
    (hs : P.underlying src = some .string) (hd : P.underlying dst = some (.slice e)) (he : P.underlying e = some (.int .u8)) (h : eConvSB e x' E H = .ok v H') : OpOk P o a w (Post ρ C w H v H') := by
  replace h := withO_ok h; obtain ⟨u, hu, h⟩ := h
  replace h := onStr_ok h; obtain ⟨l, s, rfl, h⟩ := h
  replace h := chk_ok h; obtain ⟨_, h⟩ := h
  rw [fillC_eq] at h
  have h := alloc_ok h
  cases h
  have h1 := hA.opd hx hu
  simp only [VR] at h1
  obtain ⟨b, h1, rfl, rfl⟩ := h1
  have hrun := run_bytes_of_string (P := P) w src dst e b hs hd he
  have hge := grownCap_ge w b.size 0 e
  generalize grownCap w b.size 0 e = cp at *
  have hdl : b.data.toList.length = b.size := Array.length_toList
  have hsz : (bytesRow b cp).size = cp := by
    unfold bytesRow
    simp only [Array.size_append, Array.size_map, Array.size_replicate]
    have : b.data.size = b.size := rfl
    omega
  obtain ⟨ρ', g1, g2, g3⟩ := hR.allocF 3 ((bytesRow b cp).size, (bytesRow b cp).size + 1) (f := H.next) (elem := e) (es := 1) (bts := 1) (n := b.size) (cs := fillTr (bytesL b.size (pack b.data.toList)) .emp 0) (cells := bytesRow b cp)
    (w' := w.drew.alloc (.cells (bytesRow b cp) e ((bytesRow b cp).size, (bytesRow b cp).size + 1)))
    (Wr ⟨H.next + 1, H.mrk, H.ws, H.t.set H.next (.row e 1 1 b.size b.size 3 (fillTr (bytesL b.size (pack b.data.toList)) .emp 0))⟩) (fun g => hF _ g (Nat.le_refl _) (Nat.lt_succ_self _)) (by omega) (by rw [hsz]; omega)
    (fun k hk => by
      rw [fillTr_get, if_pos (by rw [bytesL_length]; omega), Nat.sub_zero]
      have hkl : k < (bytesL b.size (pack b.data.toList)).length := by rw [bytesL_length]; exact hk
      refine ⟨_, List.getElem?_eq_getElem hkl, ?_⟩
      have hget := List.getElem?_eq_getElem hkl
      obtain ⟨y, hy1, hy2⟩ := bytesL_get b.data.toList k _ (by rw [hdl]; exact hget)
      rw [hy2]
      refine ⟨rfl, fun j z hz => ?_⟩
      cases j with
      | succ j => simp at hz
      | zero =>
        simp at hz
        subst hz
        refine ⟨rfl, .int .u8 y.toNat, ?_, by simp only [VR]⟩
        unfold bytesRow
        rw [Array.getElem?_append_left (by rw [Array.size_map]; show k * 1 + 0 < b.size; omega)]
        simp only [Nat.mul_one, Nat.add_zero, Array.getElem?_map]
        rw [Array.getElem?_toList] at hy1
        rw [hy1]; rfl) rfl (fun i hi h => by simp at h; omega) (fun h => by omega) rfl rfl rfl
  refine .inl ⟨.slice (some ⟨w.heap.size, 0, none⟩) b.size cp, w.drew.alloc (.cells (bytesRow b cp) e ((bytesRow b cp).size, (bytesRow b cp).size + 1)), ?_, ρ', ?_, g2, ?_⟩
  · simp only [execOp, ho, h1, Sem.run_bind]
    rw [hrun]
    rfl
  · simp only [VR]
    exact ⟨_, _, _, g1, rfl, hge, .inl ⟨rfl, by simp only; rw [hsz]; omega⟩⟩
  · rw [upd_alloc]; exact g3

theorem unbytes_ok : ∀ {L : List (List AVal)} {s : Nat}, unbytes L = some s → ∃ bl : List UInt8, bl.length = L.length ∧ s = pack bl ∧ ∀ (i : Nat) (b : UInt8), bl[i]? = some b → L[i]? = some [AVal.int .u8 (Int.ofNat b.toNat)]
  | [], s, h => by cases h; exact ⟨[], rfl, rfl, fun i b h => by simp at h⟩
  | c :: r, s, h => by
    cases c with
    | nil => cases h
    | cons x t => cases t with
      | cons y t => cases h
      | nil =>
        have h : onIntN x none (fun k i => chk (Nat.beq (ikN k) 4) (onNat i none fun b => chk (Nat.ble b 255) (ob (unbytes r) none fun v => some (Nat.add b (Nat.mul 256 v))) none) none) = some s := h
        cases x with
        | int k i =>
          have h : chk (Nat.beq (ikN k) 4) (onNat i none fun b => chk (Nat.ble b 255) (ob (unbytes r) none fun v => some (Nat.add b (Nat.mul 256 v))) none) none = some s := h
          cases h1 : Nat.beq (ikN k) 4
          · rw [h1] at h; cases h
          · rw [h1, chk_true] at h
            cases i with
            | negSucc m => cases h
            | ofNat b =>
              have h : chk (Nat.ble b 255) (ob (unbytes r) none fun v => some (Nat.add b (Nat.mul 256 v))) none = some s := h
              cases h2 : Nat.ble b 255
              · rw [h2] at h; cases h
              · rw [h2, chk_true] at h
                cases h3 : unbytes r with
                | none => rw [h3] at h; cases h
                | some v =>
                  rw [h3] at h
                  cases h
                  obtain ⟨bl, g1, g2, g3⟩ := unbytes_ok h3
                  have h1 := Nat.eq_of_beq_eq_true h1
                  have h2 := Nat.le_of_ble_eq_true h2
                  have hk : k = .u8 := by cases k <;> simp [ikN] at h1 <;> rfl
                  subst hk
                  have hb : (UInt8.ofNat b).toNat = b := by rw [UInt8.toNat_ofNat']; omega
                  refine ⟨UInt8.ofNat b :: bl, by simp [g1], ?_, fun i y hy => ?_⟩
                  · show b + 256 * v = (UInt8.ofNat b).toNat + 256 * pack bl
                    rw [hb, g2]
                  · cases i with
                    | zero => simp at hy; subst hy; rw [hb]; rfl
                    | succ i => exact g3 i y (by simpa using hy)
        | _ => cases h

theorem convBS_sound (hA : AR P ρ nt E a) (hR : R ρ C w) {src dst e : TypeId} {x : Operand} {x' : Opd} (ho : o.op = .convert src dst x) (hx : opdOf P x = some x')
    (hs : P.underlying src = some (.slice e)) (hd : P.underlying dst = some .string) (he : P.underlying e = some (.int .u8))
    (hC : ∀ f o, f ∈ famOf (x'.ev E) → (∃ g h, ρ f g = some h) → H.t.get f = some o → C f = some o) (h : eConvBS x' E H = .ok v H') : OpOk P o a w (Post ρ C w H v H') := by
  replace h := withO_ok h; obtain ⟨u, hu, h⟩ := h
  have h1 := hA.opd hx hu
  cases u <;> try (cases h; done)
  case nilslice =>
    cases h
    simp only [VR] at h1
    refine ok_value (cv := .string ByteArray.empty) ?_ hR (by simp only [VR]; exact ⟨_, rfl, rfl, rfl⟩)
    have := run_convert_bytes_nil (P := P) (w := w) src e hs he 0 0 dst hd
    simp only [execOp, ho, h1, Sem.run_bind, this]
    rfl
  case slice f g off n es =>
    have h : ob (elems H f g 1 n off) (.err 39) (fun l => ob (unbytes l) (.err 39) fun s => seqNat s fun s => Res.ok (.str n s) H) = .ok v H' := h
    replace h := ob_ok h; obtain ⟨L, hL, h⟩ := h
    replace h := ob_ok h; obtain ⟨s, hs2, h⟩ := h
    rw [seqNat_eq] at h
    cases h
    simp only [VR] at h1
    obtain ⟨hm, ad, cap, hh, h1, hcap, hsl⟩ := h1
    obtain ⟨hlen, hel⟩ := elems_ok hL
    obtain ⟨bl, g1, g2, g3⟩ := unbytes_ok hs2
    have hbl : bl.length = n := g1.trans hlen
    subst hbl
    have hrun := run_convert_bytes_back (P := P) w src dst e ad cap bl hs he hd (fun j hj => by
      have hg := g3 j bl[j] (List.getElem?_eq_getElem hj)
      have hrd := hel j _ hg
      have hCf : C f = H.t.get f := by
        obtain ⟨_, _, _, _, _, _, _, _, hg, _⟩ := hrd
        exact (hC f _ (by rw [hu]; simp [famOf]) ⟨_, _, hh⟩ hg).trans hg.symm
      obtain ⟨_, _, hc⟩ := hR.rd hrd hCf hh (by omega)
      obtain ⟨cv, hc1, hc2⟩ := hc 0 _ rfl
      simp only [VR] at hc2
      subst hc2
      rcases hsl with ⟨rfl, _⟩ | ⟨h0, _, _⟩
      · rw [Addr.add_lit]
        rw [← Nat.add_assoc] at hc1
        simpa using hc1
      · omega)
    refine ok_value (cv := .string ⟨bl.toArray⟩) ?_ hR (by simp only [VR]; exact ⟨_, rfl, rfl, by rw [g2]⟩)
    simp only [execOp, ho, h1, Sem.run_bind, hrun]
    rfl

theorem liesAt_self {e : TypeId} (hc : P.cellsOf e ≠ 0) (count : Nat) (hn : 1 ≤ count) : liesAt P P.depth e count 0 e 1 = true := by
  have hd : P.depth = (2 * (P.types.size + Made.depth) + 1) + 1 := rfl
  rw [hd]
  simp only [liesAt, Bool.or_eq_true]
  left
  rw [hd]
  simp [rowAt, hc, hn, sameLayout]

theorem uconv_sound (hA : AR P ρ nt E a) (hR : R ρ C w) {src dst t : TypeId} {x : Operand} {x' : Opd} {io : Ins} (ho : o.op = .convert src dst x) (hx : opdOf P x = some x')
    (hdir : (P.underlying src = some (.pointer t) ∧ P.underlying dst = some .unsafePointer) ∨ (P.underlying src = some .unsafePointer ∧ P.underlying dst = some (.pointer t))) (hio : uconvOf P t x' = some io)
    (hC : ∀ f o, (∀ l, io.reads E = some l → f ∈ l) → (∃ g h, ρ f g = some h) → H.t.get f = some o → C f = some o) (h : io.ev call E H = .ok v H') : OpOk P o a w (Post ρ C w H v H') := by
  unfold uconvOf at hio
  split at hio
  · rename_i j hj
    split at hio
    · rename_i hsz
      cases hio
      have h : eUconv t (P.cellsOf t) x' E H = .ok v H' := h
      replace h := withO_ok h; obtain ⟨u, hu, h⟩ := h
      have h1 := hA.opd hx hu
      cases hn : isNilP u with
      | true =>
        rw [hn, chk_true] at h
        cases u <;> try (cases hn; done)
        cases h
        simp only [VR] at h1
        refine ok_value (cv := .pointer none) ?_ hR (by simp only [VR])
        have : (convert src dst (.pointer none)).run P w = .ok (.pointer none) w := by
          rcases hdir with ⟨hs, hd⟩ | ⟨hs, hd⟩ <;> simp [convert, run_underlying hs, run_underlying hd, Conv.unsafePointer]
        simp only [execOp, ho, h1, Sem.run_bind, this]
        rfl
      | false =>
        rw [hn] at h
        have h : onPtr u (.err 44) (fun f g off => onRow (H.t.get f) (.err 44) fun elem es _ m lo fl _ =>
          chk (Nat.beq elem t) (chk (Nat.beq es (P.cellsOf t)) (chk (Nat.beq off 0) (chk (Nat.ble lo g) (chk (Nat.ble g m) (chk (Nat.ble 1 g) (chk (Nat.beq fl 0) (Res.ok u H) (.err 44)) (.err 44)) (.err 44)) (.err 44)) (.err 44)) (.err 44)) (.err 44)) = .ok v H' := h
        replace h := onPtr_ok h; obtain ⟨f, g, off, rfl, h⟩ := h
        cases hg : H.t.get f with
        | none => rw [hg] at h; cases h
        | some ob => cases ob with
          | map => rw [hg] at h; cases h
          | row elem es bts m lo fl cs =>
            rw [hg] at h
            have h : chk (Nat.beq elem t) (chk (Nat.beq es (P.cellsOf t)) (chk (Nat.beq off 0) (chk (Nat.ble lo g) (chk (Nat.ble g m) (chk (Nat.ble 1 g) (chk (Nat.beq fl 0) (Res.ok (.ptr f g off) H) (.err 44)) (.err 44)) (.err 44)) (.err 44)) (.err 44)) (.err 44)) (.err 44) = .ok v H' := h
            replace h := chk_ok h; obtain ⟨b1, h⟩ := h
            replace h := chk_ok h; obtain ⟨b2, h⟩ := h
            replace h := chk_ok h; obtain ⟨b3, h⟩ := h
            replace h := chk_ok h; obtain ⟨b4, h⟩ := h
            replace h := chk_ok h; obtain ⟨b5, h⟩ := h
            replace h := chk_ok h; obtain ⟨b6, h⟩ := h
            replace h := chk_ok h; obtain ⟨b7, h⟩ := h
            cases h
            have b1 := Nat.eq_of_beq_eq_true b1
            have b2 := Nat.eq_of_beq_eq_true b2
            have b3 := Nat.eq_of_beq_eq_true b3
            have b4 := Nat.le_of_ble_eq_true b4
            have b5 := Nat.le_of_ble_eq_true b5
            have b6 := Nat.le_of_ble_eq_true b6
            have b7 := Nat.eq_of_beq_eq_true b7
            subst b1; subst b3; subst b7
            simp only [VR] at h1
            obtain ⟨hm, hh, h1⟩ := h1
            have hCf := hC f _ (fun l e => by have e : some (famOf (x'.ev E)) = some l := e; rw [hu] at e; cases e; simp [famOf]) ⟨_, _, hh⟩ hg
            obtain ⟨he, _, _, hrow⟩ := hR.obj f _ hCf g hm hh
            have hrow := hrow b4 b5
            obtain ⟨c, fz, hblk, hsize⟩ := hrow.row
            have hoff := hrow.off0 (.inl rfl)
            have hfit := hrow.fits
            have hge : es ≤ g * es := Nat.le_mul_of_pos_left _ b6
            have hsh : w.shape? hm.blk = some (elem, c.size) := by simp [World.shape?, hblk]
            refine ok_value (cv := .pointer (some ⟨hm.blk, hm.off + 0, none⟩)) ?_ hR (by simp only [VR]; exact ⟨hm, hh, rfl⟩)
            have : (convert src dst (.pointer (some ⟨hm.blk, hm.off + 0, none⟩))).run P w = .ok (.pointer (some ⟨hm.blk, hm.off + 0, none⟩)) w := by
              rcases hdir with ⟨hs, hd⟩ | ⟨hs, hd⟩
              · exact Lib.run_to_unsafe w ⟨hm.blk, hm.off + 0, none⟩ hs hd hj hsz hsh (by show hm.off + 0 < c.size; omega)
              · refine Lib.run_from_unsafe w ⟨hm.blk, hm.off + 0, none⟩ hs hd hj hsh ?_
                show liesAt P P.depth elem (c.size / P.cellsOf elem) (hm.off + 0) elem 1 = true
                rw [hoff, ← b2]
                have hd := Nat.div_pos (show es ≤ c.size by omega) he
                have := liesAt_self (P := P) (e := elem) (by rw [← b2]; omega) (c.size / es) hd
                rw [Nat.add_zero]
                exact this
            simp only [execOp, ho, h1, Sem.run_bind, this]
            rfl
    · cases hio
  · cases hio

theorem usd_sound (hA : AR P ρ nt E a) (hR : R ρ C w) {c : Call} {x : Operand} {x' : Opd} (ho : o.op = .call c) (hc : c.callee = .builtin .unsafeSliceData) (hargs : c.args = #[x]) (hx : opdOf P x = some x')
    (h : eUsd x' E H = .ok v H') : OpOk P o a w (Post ρ C w H v H') := by
  replace h := withO_ok h; obtain ⟨u, hu, h⟩ := h
  have h1 := hA.opd hx hu
  cases u <;> try (cases h; done)
  case nilslice =>
    cases h
    simp only [VR] at h1
    refine ok_value (cv := .pointer none) ?_ hR (by simp only [VR])
    simp [execOp, ho, resolve, hc, hargs, invoke, builtin, h1, Lib.run_unsafeSliceData_nil]
  case slice f g off l es =>
    have h : chk (Nat.beq l 0) (.err 45) (Res.ok (.ptr f g off) H) = .ok v H' := h
    replace h := chk_no h; obtain ⟨b0, h⟩ := h
    cases h
    simp only [VR] at h1
    obtain ⟨hm, ad, cap, hh, h1, hcap, hsl⟩ := h1
    have hl : l ≠ 0 := fun e => by rw [e] at b0; cases b0
    rcases hsl with ⟨rfl, _⟩ | ⟨e, _, _⟩
    · refine ok_value (cv := .pointer (some ⟨hm.blk, hm.off + off, none⟩)) ?_ hR (by simp only [VR]; exact ⟨hm, hh, rfl⟩)
      simp [execOp, ho, resolve, hc, hargs, invoke, builtin, h1, Lib.run_unsafeSliceData_row w _ _ _ l cap (by omega)]
    · exact absurd e hl

theorem conv2_sound (hA : AR P ρ nt E a) (hR : R ρ C w) (hF : Free ρ H.next H'.next) {src dst : TypeId} {x : Operand} {x' : Opd} {io : Ins} (ho : o.op = .convert src dst x) (hx : opdOf P x = some x') (hio : convOf2 P src dst x' = some io)
    (hC : ∀ f o, (∀ l, io.reads E = some l → f ∈ l) → (∃ g h, ρ f g = some h) → H.t.get f = some o → C f = some o) (h : io.ev call E H = .ok v H') : OpOk P o a w (Post ρ C w H v H') := by
  unfold convOf2 at hio
  split at hio
  · rename_i e hs hd
    split at hio
    · rename_i he; cases hio; exact convSB_sound hA hR hF ho hx hs hd he h
    · cases hio
  · rename_i e hs hd
    split at hio
    · rename_i he; cases hio; exact convBS_sound hA hR ho hx hs hd he (fun f o hf => hC f o (fun l e => by cases e; exact hf)) h
    · cases hio
  · rename_i t hs hd; exact uconv_sound hA hR ho hx (.inl ⟨hs, hd⟩) hio hC h
  · rename_i t hs hd; exact uconv_sound hA hR ho hx (.inr ⟨hs, hd⟩) hio hC h
  · cases hio
end
end Go.Ev
