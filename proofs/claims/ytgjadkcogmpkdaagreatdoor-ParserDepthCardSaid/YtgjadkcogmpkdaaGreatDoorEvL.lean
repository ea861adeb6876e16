/- A part of an evaluator for the program's code: Memory: the operations. It holds for every program. -/
import Derived.Test.YtgjadkcogmpkdaaGreatDoorEvK
/-! Memory: the operations. -/
set_option linter.unusedVariables false
set_option linter.unusedSimpArgs false
namespace Go.Ev
section
variable {P : Program} {ρ : Ho} {nt : Nat} {E : Env} {a : Act} {C : Nat → Option AObj} {w : World} {H H' : AHeap} {v : AVal} {o : Oper}

def Free (ρ : Ho) (n0 n1 : Nat) : Prop := ∀ f g, n0 ≤ f → f < n1 → ρ f g = none

theorem cellsOf_ok {x : AVal} {l : List AVal} (h : cellsOf x = some l) : cellsOk x = some l := by
  cases x <;> simp only [cellsOf, cellsOk, reduceCtorEq] at h ⊢ <;> exact h

/-- cells of one element -/
theorem one_cells {l : List AVal} {vs : Array Value} (hv : VRs ρ l vs.toList) (hk : l.all okCell = true) (j : Nat) (x : AVal) (hx : l[j]? = some x) : okCell x = true ∧ ∃ cv, vs[j]? = some cv ∧ VR ρ x cv := by
  obtain ⟨y, hy, k⟩ := hv.get j x hx
  exact ⟨(List.all_eq_true.1 hk) x (List.mem_of_getElem? hx), y, by simpa using hy, k⟩

theorem newbox (hR : R ρ C w) (hF : Free ρ H.next H'.next) {elem es bts : Nat} {l : List AVal} {vs : Array Value} (he : 0 < es) (hl : l.length = es) (hv : VRs ρ l vs.toList) (hk : l.all okCell = true)
    (hrun : (execOp a.eval o).run P w = .ok (.value (.pointer (some ⟨w.heap.size, 0, none⟩))) { w with heap := w.heap.push (.cells vs elem) })
    (h : eBoxz elem es bts l E H = .ok v H') : OpOk P o a w (Post ρ C w H v H') := by
  have h := alloc_ok h
  cases h
  have hsz : vs.size = es := by have := hv.length; rw [Array.length_toList] at this; omega
  obtain ⟨ρ', h1, h2, h3⟩ := hR.alloc (f := H.next) (elem := elem) (es := es) (bts := bts) (n := 1) (cs := .one l) (cells := vs) (w' := { w with heap := w.heap.push (.cells vs elem) })
    (Wr ⟨H.next + 1, H.mrk, H.ws, H.t.set H.next (.row elem es bts 1 1 0 (.one l))⟩) (fun g => hF _ g (Nat.le_refl _) (Nat.lt_succ_self _)) he (by omega)
    (fun i hi => by
      have : i = 0 := by omega
      subst this
      exact ⟨l, rfl, hl, fun j x hx => by simpa using one_cells hv hk j x hx⟩) rfl rfl rfl rfl
  refine .inl ⟨_, _, hrun, ρ', ?_, h2, ?_⟩
  · simp only [VR]
    exact ⟨_, h1, rfl⟩
  · rw [upd_alloc]
    exact h3

theorem boxz_sound (hR : R ρ C w) (hF : Free ρ H.next H'.next) {t : TypeId} {z : List AVal} {i : TypeInfo} (ho : o.op = .alloc t) (hz : zeroOf P t = some z) (hi : P.info? t = some i)
    (h : eBoxz t i.size i.bytes z E H = .ok v H') : OpOk P o a w (Post ρ C w H v H') := by
  unfold zeroOf at hz
  rw [hi] at hz
  simp only at hz
  split at hz
  · rename_i zv hzv
    split at hz
    · rename_i av hav
      split at hz
      · rename_i l hl
        split at hz
        · rename_i hsz
          cases hz
          have hc := (valOf_ok ρ _ _ hav).cells (cellsOf_ok hl)
          refine newbox hR hF hsz.2 hsz.1 hc.1 hc.2 ?_ h
          simp [execOp, ho, Instr.alloc, zeroValue, typeInfo, hi, hzv, newVar, newRow]
        · cases hz
      · cases hz
    · cases hz
  · cases hz

theorem box_sound (hA : AR P ρ nt E a) (hR : R ρ C w) (hF : Free ρ H.next H'.next) {t : TypeId} {x : Operand} {x' : Opd} {n b : Nat} (ho : o.op = .box t x) (hx : opdOf P x = some x') (hn : sizeT P t = some n)
    (h : eBox t n b x' E H = .ok v H') : OpOk P o a w (Post ρ C w H v H') := by
  replace h := withO_ok h; obtain ⟨u, hu, h⟩ := h
  replace h := ob_ok h; obtain ⟨l, hl, h⟩ := h
  replace h := chk_ok h; obtain ⟨hb, h⟩ := h
  rw [lenL_eq] at hb
  have hb := Nat.eq_of_beq_eq_true hb
  have hc := (hA.opd hx hu).cells hl
  obtain ⟨_, _, _, _, _, hn0⟩ := sizeT_ok hn
  exact newbox hR hF (by omega) hb hc.1 hc.2 (by simp [execOp, ho, Instr.box, newVar, newRow]) h

theorem run_loadVar {t : TypeId} {n : Nat} (hn : sizeT P t = some n) {l : List AVal} {ad : Addr} (hl : l.length = n) (hk : l.all okCell = true) (hc : ∀ j x, l[j]? = some x → ∃ cv, w.cell? (ad.add j) = some cv ∧ VR ρ x cv)
    {e : Nat} (h : outA (isAggT P t) l (.err e) (fun v => .ok v H) = .ok v H') : H' = H ∧ ∃ cv, (loadVar t ad).run P w = .ok cv w ∧ VR ρ v cv := by
  obtain ⟨vs, hvs⟩ : ∃ vs : List Value, VRs ρ l vs ∧ ∀ j x, vs[j]? = some x → w.cell? (ad.add j) = some x := by
    clear h hk hl hn
    have : ∀ (l : List AVal) (k : Nat), (∀ j x, l[j]? = some x → ∃ cv, w.cell? (ad.add (k + j)) = some cv ∧ VR ρ x cv) → ∃ vs : List Value, VRs ρ l vs ∧ ∀ j x, vs[j]? = some x → w.cell? (ad.add (k + j)) = some x := by
      intro l
      induction l with
      | nil => intro k _; exact ⟨[], rfl, fun j x hx => by simp at hx⟩
      | cons y r ih =>
        intro k hc
        obtain ⟨cv, h1, h2⟩ := hc 0 y rfl
        obtain ⟨vs, h3, h4⟩ := ih (k + 1) (fun j x hx => by have := hc (j + 1) x (by simpa using hx); rwa [show k + (j + 1) = k + 1 + j by omega] at this)
        refine ⟨cv :: vs, ⟨cv, vs, rfl, h2, h3⟩, fun j x hx => ?_⟩
        cases j with
        | zero => simp at hx; subst hx; simpa using h1
        | succ j => rw [show k + (j + 1) = k + 1 + j by omega]; exact h4 j x (by simpa using hx)
    obtain ⟨vs, h1, h2⟩ := this l 0 (by simpa using hc)
    exact ⟨vs, h1, by simpa using h2⟩
  obtain ⟨hv, hcell⟩ := hvs
  have hlen : vs.length = n := hv.length.trans hl
  replace h := outA_ok h
  rcases h with ⟨ha, h⟩ | ⟨x, ha, hx, h⟩
  · cases h
    refine ⟨rfl, .agg vs.toArray, ?_, ?_⟩
    · have h1 := run_isAggT hn w
      rw [ha] at h1
      have h2 := run_loadCells_list (P := P) w ad vs hcell
      rw [hlen] at h2
      simp [loadVar, h1, run_sizeT hn, h2]
    · simp only [VR]
      exact ⟨_, rfl, hv, hk⟩
  · cases h
    subst hx
    simp only [VRs] at hv
    obtain ⟨y, t', rfl, hy, rfl⟩ := hv
    refine ⟨rfl, y, ?_, hy⟩
    have h1 := run_isAggT hn w
    rw [ha] at h1
    have h2 : w.cell? ad = some y := by have := hcell 0 y rfl; simpa [Addr.add] using this
    simp [loadVar, h1, h2]

theorem load_sound (hA : AR P ρ nt E a) (hR : R ρ C w) {t : TypeId} {x : Operand} {x' : Opd} {n : Nat} (ho : o.op = .load t x) (hx : opdOf P x = some x') (hn : sizeT P t = some n)
    (hC : ∀ f o, f ∈ famOf (x'.ev E) → (∃ g h, ρ f g = some h) → H.t.get f = some o → C f = some o) (h : eLoad n (isAggT P t) x' E H = .ok v H') : OpOk P o a w (Post ρ C w H v H') := by
  replace h := withO_ok h; obtain ⟨u, hu, h⟩ := h
  replace h := onPtr_ok h; obtain ⟨f, g, off, rfl, h⟩ := h
  obtain ⟨l, hl, h⟩ := rd_ok h (by simp)
  have h1 := hA.opd hx hu
  simp only [VR] at h1
  obtain ⟨hm, hh, h1⟩ := h1
  obtain ⟨_, _, _, _, _, hn0⟩ := sizeT_ok hn
  have hCf : C f = H.t.get f := by
    obtain ⟨_, _, _, _, _, _, _, _, hg, _⟩ := hl
    exact (hC f _ (by rw [hu]; simp [famOf]) ⟨_, _, hh⟩ hg).trans hg.symm
  obtain ⟨hlen, hk, hc⟩ := hR.rd hl hCf hh (by omega)
  obtain ⟨rfl, cv, hrun, hcv⟩ := run_loadVar (P := P) (ρ := ρ) (w := w) (ad := ⟨hm.blk, hm.off + off, none⟩) hn hlen hk (fun j x hx => by rw [Addr.add_lit]; exact hc j x hx) h
  exact ok_value (by simp [execOp, ho, h1, Instr.loadAt, Instr.sureAddr, hrun]) hR hcv

theorem splice_length {l new : List AVal} {r n : Nat} (hr : r + n ≤ l.length) (hn : new.length = n) : (splice l r new).length = l.length := by
  unfold splice
  simp
  omega
theorem splice_get {l new : List AVal} {r n : Nat} (hr : r + n ≤ l.length) (hn : new.length = n) (j : Nat) : (splice l r new)[j]? = if r ≤ j ∧ j < r + n then new[j - r]? else l[j]? := by
  unfold splice
  have h1 : (l.take r).length = r := by simp; omega
  by_cases hj : j < r
  · rw [List.getElem?_append_left (by omega), List.getElem?_take, if_pos hj, if_neg (by omega)]
  · rw [List.getElem?_append_right (by omega), h1]
    by_cases hj2 : j < r + n
    · rw [List.getElem?_append_left (by omega), if_pos (by omega)]
    · rw [List.getElem?_append_right (by omega), List.getElem?_drop, if_neg (by omega), hn]
      congr 1
      omega

/-- A write into a row. -/
theorem R.write (hR : R ρ C w) {f g off n : Nat} {new : List AVal} {nv : List Value} (hw : WrAt H f g off n new H') (hC : C f = H.t.get f) {h : Hm} (hh : ρ f g = some h) (hn : 0 < n)
    (hv : VRs ρ new nv) (hk : new.all okCell = true) :
    (∀ j, j < n → (w.cell? ⟨h.blk, h.off + off + j, none⟩).isSome = true) ∧ (∀ j, j < n → w.frozen? ⟨h.blk, h.off + off + j, none⟩ = false) ∧ h.ro = false ∧
    R ρ (upd C H H') (w.setCells h.blk (h.off + off) nv) := by
  obtain ⟨elem, es, bts, lo, cs, x, hg, h6, h3, h4, hnl, hx, rfl⟩ := hw
  have hobj := hR.obj f _ (hC.trans hg) g h hh
  obtain ⟨he, hro, _, hrow⟩ := hobj
  have hrow := hrow h6 (Nat.le_refl _)
  have hoff : off / es * es + off % es = off := by rw [Nat.mul_comm]; exact Nat.div_add_mod off es
  generalize hq : off / es = q at *
  generalize hr : off % es = r at *
  have hro' : h.ro = false := by
    cases hr : h.ro
    · rfl
    · exact absurd (hro hr) (by simp)
  have hnv : nv.length = n := hv.length.trans hnl
  have hqg : (q + 1) * es ≤ g * es := Nat.mul_le_mul_right es h4
  have hqe : (q + 1) * es = q * es + es := by rw [Nat.add_mul, Nat.one_mul]
  have hfit := hrow.fits
  obtain ⟨y, hy, hyl, hyc⟩ := hrow.cell q h4
  have hxy : y = x := by
    have : some y = some x := hy.symm.trans hx
    cases this
    rfl
  subst hxy
  have hcellq : ∀ j, j < n → (w.cell? ⟨h.blk, h.off + off + j, none⟩).isSome = true := by
    intro j hj
    have hlt : r + j < y.length := by omega
    obtain ⟨_, cv, hcv, _⟩ := hyc (r + j) (y[r + j]) (List.getElem?_eq_getElem hlt)
    rw [show h.off + off + j = h.off + q * es + (r + j) by omega, hcv]
    rfl
  have hfrz : ∀ j, j < n → w.frozen? ⟨h.blk, h.off + off + j, none⟩ = false := by
    intro j hj
    rw [Nat.add_assoc]
    exact hrow.open0 rfl (off + j) (by omega)
  obtain ⟨s1, s2, s3, _, _, _⟩ := setCells_heap h.blk nv (h.off + off) w
  refine ⟨hcellq, hfrz, hro', ⟨fun f' o' ho' g' h' hh' => ?_, hR.disj, fun f' g' h' hh' => by rw [s1]; exact hR.inb f' g' h' hh', hR.uniq⟩⟩
  have hnew : ∀ z, (if n = es then new else splice y r new) = z → z.length = es ∧ ∀ j, z[j]? = if r ≤ j ∧ j < r + n then new[j - r]? else y[j]? := by
    intro z hz
    have hsp : (if n = es then new else splice y r new) = splice y r new := by
      split
      · rename_i e
        have hr0 : r = 0 := by omega
        subst hr0
        unfold splice
        rw [List.take_zero, List.nil_append, List.drop_of_length_le (by omega), List.append_nil]
      · rfl
    rw [hsp] at hz
    subst hz
    exact ⟨(splice_length (by omega) hnl).trans hyl, splice_get (by omega) hnl⟩
  obtain ⟨hzl, hzg⟩ := hnew _ rfl
  generalize (if n = es then new else splice y r new) = z at *
  by_cases hf : f' = f
  · subst hf
    have ho2 : o' = .row elem es bts g g 0 (cs.set q z) := by
      have h0 : (H.t.set f' (AObj.row elem es bts g g 0 (cs.set q z))).get f' = some (.row elem es bts g g 0 (cs.set q z)) := by rw [HT.get_set, if_pos rfl]
      unfold upd at ho'
      simp only at ho'
      rw [if_neg (by omega), h0] at ho'
      split at ho'
      · rename_i e
        rw [hC, ← e] at ho'
        cases ho'
        rfl
      · cases ho'
        rfl
    subst ho2
    have hobj' := hR.obj f' _ (hC.trans hg) g' h' hh'
    refine ⟨he, hobj'.2.1, hobj'.2.2.1, fun a1 a2 => ?_⟩
    have hgg : g' = g := by omega
    subst hgg
    have hhh : h' = h := by rw [hh] at hh'; cases hh'; rfl
    subst hhh
    obtain ⟨c, fz, hb, hbs⟩ := hrow.row
    obtain ⟨c', hc', hcs'⟩ := s3 c elem fz hb
    refine ⟨⟨c', fz, hc', by omega⟩, hfit, fun i hi => ?_, fun e i hi => ?_, fun e i hi hi2 => ?_, hrow.off0, fun e c1 t1 fz1 hc1 => by rw [hc'] at hc1; cases hc1; exact hrow.fz0 e _ _ _ hb⟩
    · rw [RT.get_set]
      by_cases hiq : i = q
      · subst hiq
        rw [if_pos rfl]
        refine ⟨z, rfl, hzl, fun j u hu => ?_⟩
        rw [hzg] at hu
        split at hu
        · rename_i hj
          obtain ⟨cv, hcv, hvr⟩ := hv.get _ _ hu
          refine ⟨(List.all_eq_true.1 hk) u (List.mem_of_getElem? hu), cv, ?_, hvr⟩
          have hjl : j - r < nv.length := by omega
          have := World.cell?_setCells_in h'.blk nv (h'.off + off) w (by rw [hnv]; exact hcellq) (j - r) hjl
          rw [show h'.off + i * es + j = h'.off + off + (j - r) by omega, this, ← List.getElem?_eq_getElem hjl]
          exact hcv
        · rename_i hj
          obtain ⟨k1, cv, k2, k3⟩ := hyc j u hu
          refine ⟨k1, cv, ?_, k3⟩
          rw [World.cell?_setCells_out _ _ _ _ _ (fun _ _ => by simp only; omega)]
          exact k2
      · rw [if_neg hiq]
        obtain ⟨l, l1, l2, l3⟩ := hrow.cell i hi
        refine ⟨l, l1, l2, fun j u hu => ?_⟩
        obtain ⟨k1, cv, k2, k3⟩ := l3 j u hu
        refine ⟨k1, cv, ?_, k3⟩
        have hjes : j < es := by
          rw [← l2]
          rcases Nat.lt_or_ge j l.length with h | h
          · exact h
          · rw [List.getElem?_eq_none h] at hu; cases hu
        rw [World.cell?_setCells_out _ _ _ _ _ (fun _ _ => ?_)]
        · exact k2
        · simp only
          rcases Nat.lt_or_gt_of_ne hiq with hlt | hgt
          · left
            have := Nat.mul_le_mul_right es (show i + 1 ≤ q from hlt)
            rw [Nat.add_mul, Nat.one_mul] at this
            omega
          · right
            have := Nat.mul_le_mul_right es (show q + 1 ≤ i from hgt)
            omega
    · rw [World.frozen?_setCells]; exact hrow.open0 e i hi
    · rw [World.frozen?_setCells]; exact hrow.open2 e i hi hi2
  · have ho2 : C f' = some o' := by
      have h0 : (H.t.set f (AObj.row elem es bts g g 0 (cs.set q z))).get f' = H.t.get f' := by rw [HT.get_set, if_neg hf]
      unfold upd at ho'
      simp only at ho'
      rw [if_neg (by omega), if_pos h0] at ho'
      exact ho'
    refine (hR.obj f' o' ho2 g' h' hh').keep (Ho.le_refl _) (s2 _ fun e => ?_)
    have := hR.disj _ _ _ _ _ _ hh' hh hf e
    rw [hro'] at this
    exact absurd this.2 (by simp)

theorem run_storeVar {t : TypeId} {n : Nat} (hn : sizeT P t = some n) {b base : Nat} {u : Value} (hl : u.cells.size = n) (h1 : ∀ x ∈ u.cells.toList, x.oneCell' = true)
    (hc : ∀ j, j < n → (w.cell? ⟨b, base + j, none⟩).isSome = true) (hf : ∀ j, j < n → w.frozen? ⟨b, base + j, none⟩ = false) :
    (storeVar t ⟨b, base, none⟩ u).run P w = .ok () (w.setCells b base u.cells.toList) := by
  have hlen : u.cells.toList.length = n := by rw [Array.length_toList]; exact hl
  have := run_storeCells_cells (P := P) b base u.cells.toList 0 w (by rw [hlen]; simpa using hc) (by rw [hlen]; simpa using hf) h1
  simp only [Nat.add_zero] at this
  simp [storeVar, run_sizeT hn, hl, this]

theorem oneCell_of {x : AVal} {y : Value} (h : VR ρ x y) (hk : okCell x = true) : y.oneCell' = true := by
  have := h.noAgg hk
  cases y <;> first | rfl | (exact absurd rfl (this.1 _)) | (exact absurd rfl (this.2 _))

theorem VRs.oneCells : ∀ {l : List AVal} {vs : List Value}, VRs ρ l vs → l.all okCell = true → ∀ x ∈ vs, x.oneCell' = true
  | [], vs, h, _, x, hx => by simp only [VRs] at h; subst h; cases hx
  | a :: r, vs, h, hk, x, hx => by
    simp only [VRs] at h
    obtain ⟨v, t, rfl, h1, h2⟩ := h
    simp only [List.all_cons, Bool.and_eq_true] at hk
    cases hx with
    | head => exact oneCell_of h1 hk.1
    | tail _ hx => exact VRs.oneCells h2 hk.2 x hx

theorem store_sound (hA : AR P ρ nt E a) (hR : R ρ C w) {t : TypeId} {x z : Operand} {x' z' : Opd} {n : Nat} (ho : o.op = .store t x z) (hx : opdOf P x = some x') (hz : opdOf P z = some z') (hn : sizeT P t = some n)
    (hC : ∀ f o, f ∈ famOf (x'.ev E) → (∃ g h, ρ f g = some h) → H.t.get f = some o → C f = some o) (h : eStore n x' z' E H = .ok v H') : OpOk P o a w (Post ρ C w H v H') := by
  replace h := withO_ok h; obtain ⟨u, hu, h⟩ := h
  replace h := onPtr_ok h; obtain ⟨f, g, off, rfl, h⟩ := h
  replace h := withO_ok h; obtain ⟨u2, hu2, h⟩ := h
  replace h := ob_ok h; obtain ⟨l, hl, h⟩ := h
  obtain ⟨H1, hw, h⟩ := wr_ok h
  cases h
  have h1 := hA.opd hx hu
  have h2 := hA.opd hz hu2
  simp only [VR] at h1
  obtain ⟨hm, hh, h1⟩ := h1
  obtain ⟨_, _, _, _, _, hn0⟩ := sizeT_ok hn
  have hc := h2.cells hl
  have hll : l.length = n := by obtain ⟨_, _, _, _, _, _, _, _, _, _, hnl, _⟩ := hw; exact hnl
  have hvl : (a.eval z).cells.size = n := by have := hc.1.length; rw [Array.length_toList] at this; omega
  have hCf : C f = H.t.get f := by
    obtain ⟨_, _, _, _, _, _, hg, _⟩ := hw
    exact (hC f _ (by rw [hu]; simp [famOf]) ⟨_, _, hh⟩ hg).trans hg.symm
  obtain ⟨k1, k2, k3, k4⟩ := hR.write hw hCf hh (by omega) hc.1 hc.2
  have hrun := run_storeVar (P := P) (w := w) hn (b := hm.blk) (base := hm.off + off) hvl (hc.1.oneCells hc.2) k1 k2
  obtain ⟨s1, s2, s3, s4, s5, s6⟩ := setCells_heap hm.blk (a.eval z).cells.toList (hm.off + off) w
  refine .inr (.inl ⟨w.setCells hm.blk (hm.off + off) (a.eval z).cells.toList, ?_, ρ, by simp only [VR], ?_, k4⟩)
  · simp [execOp, ho, h1, Instr.storeAt, Instr.sureAddr, hrun]
  · obtain ⟨_, _, _, _, _, _, _, _, _, _, _, _, rfl⟩ := hw
    refine ⟨Ho.le_refl _, fun f g h e => .inl ⟨g, h, e⟩, fun _ _ _ e => .inl e, fun b hb hf => ?_, by rw [s1]; exact Nat.le_refl _, Nat.le_refl _, s4, s5, s6⟩
    refine s2 b fun e => ?_
    refine hf f g hm hh k3 ?_ e.symm
    unfold Wr
    simp only [wrote_mem]
    by_cases hlt : f < H.mrk
    · exact .inl (.inr ⟨trivial, hlt⟩)
    · exact .inr (by omega)

end
end Go.Ev
