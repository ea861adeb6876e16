/- A part of an evaluator for the program's code: append, literals, make, conversions: the operations. It holds for every program. -/
import Derived.Test.YtgjadkcogmpkdaaGreatDoorEvN
/-! append, literals, make, conversions: the operations. -/
set_option linter.unusedVariables false
set_option linter.unusedSimpArgs false
namespace Go.Ev
section
variable {P : Program} {ρ : Ho} {nt : Nat} {E : Env} {a : Act} {C : Nat → Option AObj} {w : World} {H H' : AHeap} {v : AVal} {o : Oper}

theorem append_types {at_ : Array TypeId} {t tx ty : TypeId} {args : Array Value} (h0 : at_[0]? = some t) (h1 : at_[1]? = some tx) : Builtin.append_ at_ ty args = Builtin.append_ #[t, tx] ty args := by
  unfold Builtin.append_
  simp [h0, h1]

theorem appA_sound (hR : R ρ C w) (hF : Free ρ H.next H'.next) {t tx ty e : TypeId} {i : TypeInfo} {z : List AVal} {xa : AVal} {xc yc : Value} {n : Nat} {new : List (List AVal)} {news : List Value}
    (ht : P.underlying t = some (.slice e)) (hi : P.info? e = some i) (hz : zeroOf P e = some z) (hb : i.bytes ≠ 0) (hl : new.length = n) (hfl : Flat ρ i.size new news) (hs : Src P i.size tx yc n news w)
    (hx : VR ρ xa xc) (hC : ∀ f o, f ∈ famOf (some xa) → (∃ g h, ρ f g = some h) → H.t.get f = some o → C f = some o)
    (h : appA e i.size i.bytes n new H xa = .ok v H') : ∃ cv w', (Builtin.append_ #[t, tx] ty #[xc, yc]).run P w = .ok cv w' ∧ Post ρ C w H v H' cv w' := by
  cases n with
  | zero =>
    have hn0 : news = [] := by
      have := hfl.len
      rw [hl, Nat.zero_mul] at this
      exact List.eq_nil_of_length_eq_zero this
    subst hn0
    have h : onSlice xa (Res.err 31) (Res.ok xa H) (fun _ _ _ _ _ => Res.ok xa H) = Res.ok v H' := h
    replace h := onSlice_ok h
    have hk := hs.kind
    have fin : ∀ base l c, xc = .slice base l c → l ≤ c → (Builtin.append_ #[t, tx] ty #[xc, yc]).run P w = .ok xc w := by
      intro base l c e hlc
      subst e
      have h2 := hs.cells
      rcases hk with ⟨e', hk⟩ | hk <;> cases base <;> simp [Builtin.append_, run_underlying ht, run_underlying hk, sizeOf, typeInfo, hi, hs.len, hlc, h2, storeCells]
    rcases h with ⟨rfl, h⟩ | ⟨f, g, o1, l, es, rfl, h⟩
    · cases h
      have hx2 := hx
      simp only [VR] at hx
      exact ⟨xc, w, fin _ _ _ hx (Nat.le_refl _), Post.pure hR hx2⟩
    · cases h
      have hx2 := hx
      simp only [VR] at hx
      obtain ⟨hm, ad, cap, hh, rfl, hlc, hsl⟩ := hx
      exact ⟨_, w, fin _ _ _ rfl hlc, Post.pure hR hx2⟩
  | succ n =>
    have h : onSlice xa (Res.err 34) (appNil e i.size i.bytes (n + 1) new H) (appRow e i.size i.bytes (n + 1) new H) = Res.ok v H' := h
    replace h := onSlice_ok h
    rcases h with ⟨rfl, h⟩ | ⟨f, g, o1, l, es, rfl, h⟩
    · simp only [VR] at hx
      subst hx
      exact nil_sound hR hF ht hi hz hb (Nat.succ_pos _) hl hfl hs h
    · exact row_sound hR ht hi hz hb (Nat.succ_pos _) hl hfl hs hx (fun o => hC f o (by simp [famOf])) h

theorem app_sound (hA : AR P ρ nt E a) (hR : R ρ C w) (hF : Free ρ H.next H'.next) {c : Call} {x y : Operand} {x' y' : Opd} {t u e e2 : TypeId} {i : TypeInfo} {z : List AVal}
    (ho : o.op = .call c) (hc : c.callee = .builtin .append) (hargs : c.args = #[x, y]) (hx : opdOf P x = some x') (hy : opdOf P y = some y') (h0 : c.argTypes[0]? = some t) (h1 : c.argTypes[1]? = some u)
    (ht : P.underlying t = some (.slice e)) (hu : P.underlying u = some (.slice e2)) (hi : P.info? e = some i) (hz : zeroOf P e = some z) (hb : i.bytes ≠ 0)
    (hC : ∀ f o, f ∈ famOf (x'.ev E) ++ famOf (y'.ev E) → (∃ g h, ρ f g = some h) → H.t.get f = some o → C f = some o)
    (h : eApp e i.size i.bytes x' y' E H = .ok v H') : OpOk P o a w (Post ρ C w H v H') := by
  replace h := withO_ok h; obtain ⟨xa, hxa, h⟩ := h
  replace h := withO_ok h; obtain ⟨ya, hya, h⟩ := h
  have hvx := hA.opd hx hxa
  have hvy := hA.opd hy hya
  obtain ⟨i', zv, hi', hzv, _, _, _, hpos, hzs⟩ := zeroOf_ok hz
  rw [hi] at hi'
  cases hi'
  have hCx : ∀ f o, f ∈ famOf (some xa) → (∃ g h, ρ f g = some h) → H.t.get f = some o → C f = some o := fun f o hf => hC f o (by rw [hxa]; exact List.mem_append_left _ hf)
  have done : ∀ {n : Nat} {new : List (List AVal)} {news : List Value}, new.length = n → Flat ρ i.size new news → Src P i.size u (a.eval y) n news w → appA e i.size i.bytes n new H xa = .ok v H' → OpOk P o a w (Post ρ C w H v H') := by
    intro n new news hl hfl hs h
    obtain ⟨cv, w', hrun, hp⟩ := appA_sound hR hF (ty := o.type) ht hi hz hb hl hfl hs hvx hCx h
    refine .inl ⟨cv, w', ?_, hp⟩
    simp [execOp, ho, resolve, hc, hargs, invoke, builtin, append_types h0 h1, hrun]
  replace h := onSlice_ok h
  rcases h with ⟨rfl, h⟩ | ⟨f, g, o1, l, es, rfl, h⟩
  · simp only [VR] at hvy
    refine done (new := []) (news := []) rfl ⟨by simp, (fun _ hu => by cases hu), (fun i x hx => by simp at hx)⟩ ?_ h
    rw [hvy]
    exact Src.ofNil w hu 0
  · replace h := ob_ok h; obtain ⟨new, hnew, h⟩ := h
    simp only [VR] at hvy
    obtain ⟨hm, ad, cap, hh, hvy, hlc, hsl⟩ := hvy
    obtain ⟨hlen, news, hfl, hcells⟩ := Flat.of_elems hR hnew (fun o => hC f o (by rw [hya]; exact List.mem_append_right _ (by simp [famOf])) ⟨_, _, hh⟩) hh hpos
    rcases hsl with ⟨rfl, hsl⟩ | ⟨hl0, hc0, hsl⟩
    · refine done hlen hfl ?_ h
      rw [hvy]
      refine Src.ofSlice w hu _ l cap news (by rw [hfl.len, hlen]) (fun j u hu => ?_) hfl.one
      rw [Addr.add_lit]
      exact hcells j u hu
    · subst hl0
      have hn0 : news = [] := by
        have := hfl.len
        rw [hlen, Nat.zero_mul] at this
        exact List.eq_nil_of_length_eq_zero this
      subst hn0
      refine done hlen hfl ?_ h
      rw [hvy]
      exact Src.ofSlice w hu _ 0 cap [] (by simp) (fun j u hu => by simp at hu) (fun _ hu => by cases hu)

theorem bytesL_get : ∀ (l : List UInt8) (i : Nat) (x : List AVal), (bytesL l.length (pack l))[i]? = some x → ∃ b, l[i]? = some b ∧ x = [.int .u8 b.toNat]
  | [], i, x, h => by
    have h : ([] : List (List AVal))[i]? = some x := h
    simp at h
  | b :: r, i, x, h => by
    have step : bytesL (b :: r).length (pack (b :: r)) = [AVal.int .u8 (Int.ofNat (Nat.mod (pack (b :: r)) 256))] :: bytesL r.length (Nat.div (pack (b :: r)) 256) := rfl
    have hb : b.toNat < 256 := b.toNat_lt
    have e1 : Nat.mod (pack (b :: r)) 256 = b.toNat := by show (b.toNat + 256 * pack r) % 256 = _; omega
    have e2 : Nat.div (pack (b :: r)) 256 = pack r := by show (b.toNat + 256 * pack r) / 256 = _; omega
    rw [step, e1, e2] at h
    cases i with
    | zero => simp at h; exact ⟨b, rfl, h.symm⟩
    | succ i => obtain ⟨b', h1, h2⟩ := bytesL_get r i x (by simpa using h); exact ⟨b', by simpa using h1, h2⟩
theorem bytesL_length : ∀ (l v : Nat), (bytesL l v).length = l
  | 0, _ => rfl
  | l + 1, v => by
    have step : bytesL (l + 1) v = [AVal.int .u8 (Int.ofNat (Nat.mod v 256))] :: bytesL l (Nat.div v 256) := rfl
    rw [step, List.length_cons, bytesL_length]

theorem Flat.bytes (s : ByteArray) : Flat ρ 1 (bytesL s.size (pack s.data.toList)) (byteCells s) := by
  have hsz : s.size = s.data.toList.length := by rw [Array.length_toList]; rfl
  refine ⟨by rw [byteCells_length, bytesL_length, Nat.mul_one], fun u hu => ?_, fun i x hx => ?_⟩
  · obtain ⟨_, _, rfl⟩ := List.mem_map.1 hu
    rfl
  · rw [hsz] at hx
    obtain ⟨b, hb, rfl⟩ := bytesL_get _ _ _ hx
    refine ⟨rfl, fun j y hy => ?_⟩
    have hj := lt_of_get hy
    simp at hj
    subst hj
    simp at hy
    subst hy
    refine ⟨rfl, .int .u8 b.toNat, ?_, by simp only [VR]⟩
    rw [Nat.mul_one, Nat.add_zero]
    simp only [byteCells, List.getElem?_map, hb, Option.map_some]

theorem appStr_sound (hA : AR P ρ nt E a) (hR : R ρ C w) (hF : Free ρ H.next H'.next) {c : Call} {x y : Operand} {x' y' : Opd} {t u e : TypeId} {i : TypeInfo} {z : List AVal}
    (ho : o.op = .call c) (hc : c.callee = .builtin .append) (hargs : c.args = #[x, y]) (hx : opdOf P x = some x') (hy : opdOf P y = some y') (h0 : c.argTypes[0]? = some t) (h1 : c.argTypes[1]? = some u)
    (ht : P.underlying t = some (.slice e)) (hu : P.underlying u = some .string) (hi : P.info? e = some i) (hz : zeroOf P e = some z) (hs1 : i.size = 1) (hb1 : i.bytes = 1)
    (hC : ∀ f o, f ∈ famOf (x'.ev E) → (∃ g h, ρ f g = some h) → H.t.get f = some o → C f = some o)
    (h : eAppStr e x' y' E H = .ok v H') : OpOk P o a w (Post ρ C w H v H') := by
  replace h := withO_ok h; obtain ⟨xa, hxa, h⟩ := h
  replace h := withO_ok h; obtain ⟨ya, hya, h⟩ := h
  replace h := onStr_ok h; obtain ⟨l, s, rfl, h⟩ := h
  have hvx := hA.opd hx hxa
  have hvy := hA.opd hy hya
  simp only [VR] at hvy
  obtain ⟨b, hvy, rfl, rfl⟩ := hvy
  have hfl := Flat.bytes (ρ := ρ) b
  have hsrc := Src.ofString (P := P) w hu b
  rw [← hs1] at hfl hsrc
  have h : appA e i.size i.bytes b.size (bytesL b.size (pack b.data.toList)) H xa = .ok v H' := by rw [hs1, hb1]; exact h
  obtain ⟨cv, w', hrun, hp⟩ := appA_sound hR hF (ty := o.type) ht hi hz (by omega) (bytesL_length _ _) hfl hsrc hvx (fun f o hf => hC f o (by rw [hxa]; exact hf)) h
  refine .inl ⟨cv, w', ?_, hp⟩
  simp [execOp, ho, resolve, hc, hargs, invoke, builtin, append_types h0 h1, hvy, hrun]

end
end Go.Ev
