/- A part of an evaluator for the program's code: Memory: append. It holds for every program. -/
import Derived.Test.YtgjadkcogmpkdaaGreatDoorEvL
/-! Memory: append. -/
set_option linter.unusedVariables false
set_option linter.unusedSimpArgs false
namespace Go.Ev
section
variable {P : Program} {ρ : Ho} {nt : Nat} {E : Env} {a : Act} {C : Nat → Option AObj} {w : World} {H H' : AHeap} {v : AVal} {o : Oper}

theorem elems_ok : ∀ {n : Nat} {H : AHeap} {f g es off : Nat} {l : List (List AVal)}, elems H f g es n off = some l → l.length = n ∧ ∀ i x, l[i]? = some x → RdAt H f g (off + i * es) es x
  | 0, H, f, g, es, off, l, h => by cases h; exact ⟨rfl, fun i x hx => by simp at hx⟩
  | n + 1, H, f, g, es, off, l, h => by
    have h : rd H f g off es none (fun l => ob (elems H f g es n (off + es)) none fun r => some (l :: r)) = some l := h
    obtain ⟨x, hx, h⟩ := rd_ok h (by simp)
    obtain ⟨r, hr, h⟩ := obo_ok h
    cases h
    obtain ⟨h1, h2⟩ := elems_ok hr
    refine ⟨by simp [h1], fun i y hy => ?_⟩
    cases i with
    | zero => simp at hy; subst hy; simpa using hx
    | succ i => have := h2 i y (by simpa using hy); rwa [show off + es + i * es = off + (i + 1) * es by rw [Nat.add_mul]; omega] at this

theorem fillTr_get : ∀ (l : List (List AVal)) (t : RT) (i k : Nat), (fillTr l t i).get k = if i ≤ k ∧ k < i + l.length then l[k - i]? else t.get k
  | [], t, i, k => by
    show t.get k = _
    rw [if_neg (by simp)]
  | x :: r, t, i, k => by
    have step : fillTr (x :: r) t i = fillTr r (t.set i x) (i + 1) := rfl
    rw [step, fillTr_get r, RT.get_set]
    simp only [List.length_cons]
    by_cases h : k = i
    · subst h
      rw [if_neg (by omega), if_pos rfl, if_pos (by omega)]
      simp
    · rw [if_neg h]
      by_cases h2 : i + 1 ≤ k ∧ k < i + 1 + r.length
      · rw [if_pos h2, if_pos (by omega)]
        rw [show k - i = (k - (i + 1)) + 1 by omega, List.getElem?_cons_succ]
      · rw [if_neg h2, if_neg (by omega)]

/-- Abstract elements and a flat list of concrete cells. -/
structure Flat (ρ : Ho) (es : Nat) (l : List (List AVal)) (news : List Value) : Prop where
  len : news.length = l.length * es
  one : ∀ u ∈ news, u.oneCell' = true
  get : ∀ i x, l[i]? = some x → x.length = es ∧ ∀ j y, x[j]? = some y → okCell y = true ∧ ∃ cv, news[i * es + j]? = some cv ∧ VR ρ y cv

theorem lt_of_get {α : Type} {l : List α} {i : Nat} {x : α} (h : l[i]? = some x) : i < l.length := by
  rcases Nat.lt_or_ge i l.length with h' | h'
  · exact h'
  · rw [List.getElem?_eq_none h'] at h; cases h

theorem Flat.of_elems (hR : R ρ C w) {f g es off n : Nat} {l : List (List AVal)} (hl : elems H f g es n off = some l) (hC : ∀ o, H.t.get f = some o → C f = some o) {h : Hm} (hh : ρ f g = some h) (he : 0 < es) :
    l.length = n ∧ ∃ news, Flat ρ es l news ∧ ∀ j u, news[j]? = some u → w.cell? ⟨h.blk, h.off + off + j, none⟩ = some u := by
  obtain ⟨hlen, hget⟩ := elems_ok hl
  refine ⟨hlen, (List.range (l.length * es)).map fun q => (w.cell? ⟨h.blk, h.off + off + q, none⟩).getD undef, ?_⟩
  have key : ∀ i x, l[i]? = some x → x.length = es ∧ ∀ j y, x[j]? = some y → okCell y = true ∧ ∃ cv, w.cell? ⟨h.blk, h.off + off + (i * es + j), none⟩ = some cv ∧ VR ρ y cv := by
    intro i x hx
    have hCf : C f = H.t.get f := by
      obtain ⟨_, _, _, _, _, _, _, _, hg, _⟩ := hget i x hx
      exact (hC _ hg).trans hg.symm
    obtain ⟨h1, h2, h3⟩ := hR.rd (hget i x hx) hCf hh he
    refine ⟨h1, fun j y hy => ⟨(List.all_eq_true.1 h2) y (List.mem_of_getElem? hy), ?_⟩⟩
    obtain ⟨cv, hcv, hv⟩ := h3 j y hy
    exact ⟨cv, by rw [show h.off + off + (i * es + j) = h.off + (off + i * es) + j by omega]; exact hcv, hv⟩
  have cellAt : ∀ q, q < l.length * es → ∃ cv, w.cell? ⟨h.blk, h.off + off + q, none⟩ = some cv ∧ cv.oneCell' = true := by
    intro q hq
    have hi : q / es < l.length := by
      rw [Nat.div_lt_iff_lt_mul he]
      exact hq
    have hj : q % es < es := Nat.mod_lt _ he
    obtain ⟨h1, h2⟩ := key (q / es) _ (List.getElem?_eq_getElem hi)
    obtain ⟨k1, cv, k2, k3⟩ := h2 (q % es) _ (List.getElem?_eq_getElem (by rw [h1]; exact hj))
    refine ⟨cv, ?_, oneCell_of k3 k1⟩
    have : q / es * es + q % es = q := by rw [Nat.mul_comm]; exact Nat.div_add_mod q es
    rwa [this] at k2
  refine ⟨⟨by simp, fun u hu => ?_, fun i x hx => ?_⟩, fun j u hu => ?_⟩
  · obtain ⟨q, hq, rfl⟩ := List.mem_map.1 hu
    obtain ⟨cv, k1, k2⟩ := cellAt q (List.mem_range.1 hq)
    rw [k1]
    exact k2
  · obtain ⟨h1, h2⟩ := key i x hx
    refine ⟨h1, fun j y hy => ?_⟩
    obtain ⟨k1, cv, k2, k3⟩ := h2 j y hy
    refine ⟨k1, cv, ?_, k3⟩
    have hlt : i * es + j < l.length * es := by
      have h4 := lt_of_get hx
      have h5 := lt_of_get hy
      have := Nat.mul_le_mul_right es (show i + 1 ≤ l.length from h4)
      rw [Nat.add_mul, Nat.one_mul] at this
      omega
    simp [hlt, k2]
  · have hj := lt_of_get hu
    simp at hj
    obtain ⟨cv, k1, _⟩ := cellAt j hj
    simp [hj, k1] at hu
    rw [k1, hu]

/-- The family grows: whichever place the new generation lies at. -/
theorem R.grow (hR : R ρ C w) {f m k elem es bts bts' lo fl : Nat} {cs : RT} {new : List (List AVal)} {news : List Value} (W : Nat → Prop) (hWf : W f) {w' : World} {h h2 : Hm}
    (hC : C f = some (.row elem es bts m lo fl cs)) (hh : ρ f m = some h) (hk : new.length = k) (hk0 : 0 < k) (hlo : lo ≤ m) (hfl : fl ≠ 1) (hF : Flat ρ es new news)
    (hsz : w.heap.size ≤ w'.heap.size) (h1 : w'.os = w.os) (h2' : w'.tape = w.tape) (h3 : w'.output = w.output)
    (hother : ∀ b, b < w.heap.size → b ≠ h.blk → w'.heap[b]? = w.heap[b]?)
    (hhere : ∃ c c' e fz, w.heap[h.blk]? = some (.cells c e fz) ∧ w'.heap[h.blk]? = some (.cells c' e fz) ∧ c'.size = c.size)
    (hcell : ∀ off, off < m * es → w'.cell? ⟨h.blk, h.off + off, none⟩ = w.cell? ⟨h.blk, h.off + off, none⟩)
    (hplace : h2 = h ∨ (w.heap.size ≤ h2.blk ∧ h2.ro = false)) (hin : h2.blk < w'.heap.size)
    (hrow : ∃ c fz, w'.heap[h2.blk]? = some (.cells c elem fz) ∧ h2.off + h2.room ≤ c.size) (hfits : (m + k) * es ≤ h2.room)
    (hold : ∀ off, off < m * es → w'.cell? ⟨h2.blk, h2.off + off, none⟩ = w.cell? ⟨h.blk, h.off + off, none⟩)
    (hnew : ∀ j, j < k * es → w'.cell? ⟨h2.blk, h2.off + m * es + j, none⟩ = news[j]?)
    (hfz : h2 ≠ h → h2.off = 0 ∧ (∀ i, w'.frozen? ⟨h2.blk, i, none⟩ = false) ∧ ∀ c e fz, w'.heap[h2.blk]? = some (.cells c e fz) → fz.1 = fz.2) :
    ∃ ρ', ρ' f (m + k) = some h2 ∧ Ext W H.next H.next ρ ρ' w w' ∧ R ρ' (fun x => if x = f then some (.row elem es bts' (m + k) lo fl (fillTr new cs m)) else C x) w' := by
  obtain ⟨he, hro, _, hrowm⟩ := hR.obj f _ hC m h hh
  have hrowm := hrowm hlo (Nat.le_refl _)
  have hro' : h.ro = false := by
    cases hr : h.ro
    · rfl
    · exact absurd (hro hr) hfl
  have hro2 : h2.ro = false := by
    rcases hplace with rfl | ⟨_, e⟩
    · exact hro'
    · exact e
  have hnone : ∀ x, ρ f (m + k) = some x → x = h2 := fun x hx => by
    obtain ⟨_, _, hle, _⟩ := hR.obj f _ hC (m + k) x hx
    omega
  have hle : ρ.le (ρ.add f (m + k) h2) := Ho.le_add hnone
  have hoth : ∀ f' g' x, ρ f' g' = some x → f' ≠ f → w'.heap[x.blk]? = w.heap[x.blk]? := by
    intro f' g' x hx hne
    refine hother _ (hR.inb _ _ _ hx) fun e => ?_
    have := hR.disj _ _ _ _ _ _ hx hh hne e
    rw [hro'] at this
    exact absurd this.2 (by simp)
  have hfzh : ∀ i, w'.frozen? ⟨h.blk, i, none⟩ = w.frozen? ⟨h.blk, i, none⟩ := by
    intro i
    obtain ⟨c, c', e, fz, k1, k2, _⟩ := hhere
    simp only [World.frozen?, k1, k2]
  refine ⟨_, Ho.add_same _ _ _ _, ⟨hle, ?_, ?_, ?_, hsz, Nat.le_refl _, h1, h2', h3⟩, ⟨?_, ?_, ?_, ?_⟩⟩
  · intro f' g' x hx
    rcases Ho.add_cases hx with ⟨rfl, _, _⟩ | hx
    · exact .inl ⟨m, h, hh⟩
    · exact .inl ⟨g', x, hx⟩
  · intro f' g' x hx
    rcases Ho.add_cases hx with ⟨rfl, _, rfl⟩ | hx
    · rcases hplace with rfl | ⟨a1, a2⟩
      · exact .inr (.inr ⟨m, x, hh, rfl, rfl⟩)
      · exact .inr (.inl ⟨a1, a2⟩)
    · exact .inl hx
  · intro b hb hf
    exact hother b hb fun e => hf f m h hh hro' hWf e.symm
  · intro f' o hf0 g x hx
    have hf1 : (if f' = f then some (AObj.row elem es bts' (m + k) lo fl (fillTr new cs m)) else C f') = some o := hf0
    clear hf0
    by_cases e : f' = f
    · rw [if_pos e] at hf1
      subst e
      cases hf1
      rcases Ho.add_cases hx with ⟨_, rfl, rfl⟩ | hx
      · refine ⟨he, (fun e => by rw [hro2] at e; cases e), Nat.le_refl _, fun _ _ => ⟨hrow, hfits, fun i hi => ?_, fun e i hi => ?_, fun e i hi hi2 => ?_, fun e => (Classical.em (x = h)).elim (fun e2 => e2 ▸ hrowm.off0 e) (fun e2 => (hfz e2).1), fun e => (Classical.em (x = h)).elim (fun e2 c1 t1 fz1 hc1 => by
          obtain ⟨c, c', t2, fz, q1, q2, _⟩ := hhere
          rw [e2, q2] at hc1
          cases hc1
          have := Nat.mul_le_mul_right es (show m ≤ m + k by omega)
          exact (hrowm.fz0 e _ _ _ q1).imp_right (fun g => by omega)) (fun e2 c1 t1 fz1 hc1 => .inl ((hfz e2).2.2 _ _ _ hc1))⟩⟩
        · rw [fillTr_get]
          by_cases him : i < m
          · rw [if_neg (by omega)]
            obtain ⟨l, l1, l2, l3⟩ := hrowm.cell i him
            refine ⟨l, l1, l2, fun j u hu => ?_⟩
            obtain ⟨k1, cv, k2, k3⟩ := l3 j u hu
            refine ⟨k1, cv, ?_, k3.mono hle⟩
            have hj := lt_of_get hu
            have := Nat.mul_le_mul_right es (show i + 1 ≤ m from him)
            rw [Nat.add_mul, Nat.one_mul] at this
            rw [Nat.add_assoc, hold (i * es + j) (by omega), ← Nat.add_assoc]
            exact k2
          · rw [if_pos (by omega)]
            have hik : i - m < new.length := by omega
            obtain ⟨l1, l2⟩ := hF.get (i - m) _ (List.getElem?_eq_getElem hik)
            refine ⟨_, List.getElem?_eq_getElem hik, l1, fun j u hu => ?_⟩
            obtain ⟨k1, cv, k2, k3⟩ := l2 j u hu
            refine ⟨k1, cv, ?_, k3.mono hle⟩
            have hj := lt_of_get hu
            have hjj := lt_of_get k2
            rw [hF.len, hk] at hjj
            have e1 : i * es = m * es + (i - m) * es := by rw [← Nat.add_mul]; congr 1; omega
            rw [show x.off + i * es + j = x.off + m * es + ((i - m) * es + j) by omega, hnew _ hjj]
            exact k2
        · by_cases hx2 : x = h
          · subst hx2
            rw [hfzh]
            exact hrowm.open0 e i hi
          · exact (hfz hx2).2.1 _
        · by_cases hx2 : x = h
          · subst hx2
            rw [hfzh]
            refine hrowm.open2 e i ?_ hi2
            have := Nat.mul_le_mul_right es (show m ≤ m + k by omega)
            omega
          · exact (hfz hx2).2.1 _
      · obtain ⟨_, r1, r2, r3⟩ := hR.obj f' _ hC g x hx
        refine ⟨he, r1, by omega, fun a1 _ => ?_⟩
        have r3 := r3 a1 r2
        have hheap : (∃ c c' e fz, w.heap[x.blk]? = some (.cells c e fz) ∧ w'.heap[x.blk]? = some (.cells c' e fz) ∧ c'.size = c.size) ∧ ∀ off, off < m * es → w'.cell? ⟨x.blk, x.off + off, none⟩ = w.cell? ⟨x.blk, x.off + off, none⟩ := by
          by_cases hb : x.blk = h.blk
          · have ho := hR.uniq _ _ _ _ _ hx hh hb
            rw [hb, ho]
            exact ⟨hhere, hcell⟩
          · have hb2 := hother _ (hR.inb _ _ _ hx) hb
            obtain ⟨c, fz, hc, _⟩ := r3.row
            exact ⟨⟨c, c, elem, fz, hc, by rw [hb2]; exact hc, rfl⟩, fun off _ => cell_of_heap (w := w) hb2⟩
        obtain ⟨⟨c, c', e0, fz, q1, q2, q3⟩, q4⟩ := hheap
        have hfx : ∀ i, w'.frozen? ⟨x.blk, i, none⟩ = w.frozen? ⟨x.blk, i, none⟩ := fun i => by simp only [World.frozen?, q1, q2]
        obtain ⟨c2, fz2, p1, p2⟩ := r3.row
        rw [q1] at p1
        cases p1
        refine ⟨⟨c', fz, q2, by omega⟩, r3.fits, fun i hi => ?_, fun e i hi => ?_, fun e i hi hi2 => ?_, r3.off0, fun e c1 t1 fz1 hc1 => by
          rw [q2] at hc1
          cases hc1
          have := Nat.mul_le_mul_right es (show m ≤ m + k by omega)
          exact (r3.fz0 e _ _ _ q1).imp_right (fun g => by omega)⟩
        · rw [fillTr_get, if_neg (by omega)]
          obtain ⟨l, l1, l2, l3⟩ := r3.cell i hi
          refine ⟨l, l1, l2, fun j u hu => ?_⟩
          obtain ⟨k1, cv, k2, k3⟩ := l3 j u hu
          refine ⟨k1, cv, ?_, k3.mono hle⟩
          have hj := lt_of_get hu
          have := Nat.mul_le_mul_right es (show i + 1 ≤ m by omega)
          rw [Nat.add_mul, Nat.one_mul] at this
          rw [Nat.add_assoc, q4 (i * es + j) (by omega), ← Nat.add_assoc]
          exact k2
        · rw [hfx]; exact r3.open0 e i hi
        · rw [hfx]
          refine r3.open2 e i ?_ hi2
          have := Nat.mul_le_mul_right es (show m ≤ m + k by omega)
          omega
    · rw [if_neg e] at hf1
      rcases Ho.add_cases hx with ⟨e', _, _⟩ | hx
      · exact absurd e' e
      · exact (hR.obj f' o hf1 g x hx).keep hle (hoth _ _ _ hx e)
  · intro f1 g1 x1 f2 g2 x2 e1 e2 hne hb
    have c1 := Ho.add_cases e1
    have c2 := Ho.add_cases e2
    clear e1 e2
    have half : ∀ f' g' x, ρ f' g' = some x → f' ≠ f → x.blk ≠ h2.blk := by
      intro f' g' x hx hne e
      rcases hplace with rfl | ⟨a1, _⟩
      · have := hR.disj _ _ _ _ _ _ hx hh hne e
        rw [hro'] at this
        exact absurd this.2 (by simp)
      · have := hR.inb _ _ _ hx
        omega
    rcases c1 with ⟨e, _, rfl⟩ | e1 <;> rcases c2 with ⟨e', _, rfl⟩ | e2
    · exact absurd (e.trans e'.symm) hne
    · exact absurd hb.symm (half _ _ _ e2 (fun e3 => hne (e.trans e3.symm)))
    · exact absurd hb (half _ _ _ e1 (fun e3 => hne (e3.trans e'.symm)))
    · exact hR.disj _ _ _ _ _ _ e1 e2 hne hb
  · intro f' g' x hx
    rcases Ho.add_cases hx with ⟨_, _, rfl⟩ | hx
    · exact hin
    · have := hR.inb _ _ _ hx
      omega
  · intro f' g1 x1 g2 x2 e1 e2 hb
    have c1 := Ho.add_cases e1
    have c2 := Ho.add_cases e2
    clear e1 e2
    have half : ∀ g' x, ρ f g' = some x → x.blk = h2.blk → x.off = h2.off := by
      intro g' x hx e
      rcases hplace with rfl | ⟨a1, _⟩
      · exact hR.uniq _ _ _ _ _ hx hh e
      · have := hR.inb _ _ _ hx
        omega
    rcases c1 with ⟨e, _, rfl⟩ | e1 <;> rcases c2 with ⟨e', _, rfl⟩ | e2
    · rfl
    · subst e; exact (half _ _ e2 hb.symm).symm
    · subst e'; exact half _ _ e1 hb
    · exact hR.uniq _ _ _ _ _ e1 e2 hb

end
end Go.Ev
