/- A part of an evaluator for the program's code: Memory: new rows, writes. It holds for every program. -/
import Derived.Test.YtgjadkcogmpkdaaGreatDoorEvJ
/-! Memory: new rows, writes. -/
set_option linter.unusedVariables false
set_option linter.unusedSimpArgs false
namespace Go.Ev
section
variable {P : Program} {ρ : Ho} {nt : Nat} {E : Env} {a : Act} {C : Nat → Option AObj} {w : World} {H H' : AHeap} {v : AVal} {o : Oper}

theorem setCells_heap (b : Nat) : ∀ (vs : List Value) (o : Nat) (w : World),
    (w.setCells b o vs).heap.size = w.heap.size ∧ (∀ k, k ≠ b → (w.setCells b o vs).heap[k]? = w.heap[k]?) ∧
    (∀ c e fz, w.heap[b]? = some (.cells c e fz) → ∃ c', (w.setCells b o vs).heap[b]? = some (.cells c' e fz) ∧ c'.size = c.size) ∧
    (w.setCells b o vs).os = w.os ∧ (w.setCells b o vs).tape = w.tape ∧ (w.setCells b o vs).output = w.output
  | [], _, _ => ⟨rfl, fun _ _ => rfl, fun c e fz h => ⟨c, h, rfl⟩, rfl, rfl, rfl⟩
  | v :: r, o, w => by
    obtain ⟨h1, h2, h3, h4, h5, h6⟩ := setCells_heap b r (o + 1) (w.setCell ⟨b, o, none⟩ v)
    simp only [World.setCells]
    refine ⟨h1.trans (by simp [World.setCell]), fun k hk => (h2 k hk).trans ?_, fun c e fz h => ?_, h4, h5, h6⟩
    · simp only [World.setCell, Array.getElem?_modify]
      rw [if_neg (fun e => hk e.symm)]
    · obtain ⟨c', hc', hs⟩ := h3 (c.setIfInBounds o v) e fz (by simp [World.setCell, Array.getElem?_modify, h])
      exact ⟨c', hc', by simpa using hs⟩

/-- a new home -/
noncomputable def Ho.add (ρ : Ho) (f g : Nat) (h : Hm) : Ho := fun f' g' => if f' = f ∧ g' = g then some h else ρ f' g'
theorem Ho.add_same (ρ : Ho) (f g : Nat) (h : Hm) : ρ.add f g h f g = some h := by simp [Ho.add]
theorem Ho.le_add {ρ : Ho} {f g : Nat} {h : Hm} (hf : ∀ x, ρ f g = some x → x = h) : ρ.le (ρ.add f g h) := by
  intro f' g' x hx
  unfold Ho.add
  split
  · rename_i e
    obtain ⟨rfl, rfl⟩ := e
    rw [hf x hx]
  · exact hx
theorem Ho.add_cases {ρ : Ho} {f g f' g' : Nat} {h x : Hm} (e : ρ.add f g h f' g' = some x) : (f' = f ∧ g' = g ∧ x = h) ∨ ρ f' g' = some x := by
  unfold Ho.add at e
  split at e
  · rename_i k; cases e; exact .inl ⟨k.1, k.2, rfl⟩
  · exact .inr e

theorem R.heap {w' : World} (hR : R ρ C w) (h : w'.heap = w.heap) : R ρ C w' :=
  ⟨fun f o e g x hx => (hR.obj f o e g x hx).keep (Ho.le_refl _) (by rw [h]), hR.disj, fun f g x hx => by rw [h]; exact hR.inb f g x hx, hR.uniq⟩

theorem cell?_push {w : World} (o : Obj) (a : Addr) (h : a.block < w.heap.size) : ({ w with heap := w.heap.push o } : World).cell? a = w.cell? a := by
  refine cell_of_heap (w := w) ?_
  show (w.heap.push o)[a.block]? = _
  rw [Array.getElem?_push, if_neg (by omega)]

/-- A new row. -/
theorem R.allocF (fl : Nat) (fz : Nat × Nat) (hR : R ρ C w) {f elem es bts n : Nat} {cs : RT} {cells : Array Value} (W : Nat → Prop) (hfree : ∀ g, ρ f g = none) (he : 0 < es) (hsz : n * es ≤ cells.size)
    (hcs : ∀ i, i < n → ∃ l, cs.get i = some l ∧ l.length = es ∧ ∀ j x, l[j]? = some x → okCell x = true ∧ ∃ cv, cells[i * es + j]? = some cv ∧ VR ρ x cv) {w' : World}
    (hw : w'.heap = w.heap.push (.cells cells elem fz)) (hfz : ∀ i, i < cells.size → ¬ (fz.1 ≤ i ∧ i < fz.2)) (hfz2 : fl = 0 ∨ fl = 2 → fz.1 = fz.2) (h1 : w'.os = w.os) (h2 : w'.tape = w.tape) (h3 : w'.output = w.output) :
    ∃ ρ', ρ' f n = some ⟨w.heap.size, 0, cells.size, false⟩ ∧ Ext W f (f + 1) ρ ρ' w w' ∧ R ρ' (fun x => if x = f then some (.row elem es bts n n fl cs) else C x) w' := by
  have hle : ρ.le (ρ.add f n ⟨w.heap.size, 0, cells.size, false⟩) := Ho.le_add fun x hx => by rw [hfree] at hx; cases hx
  have hold : ∀ b, b < w.heap.size → w'.heap[b]? = w.heap[b]? := fun b hb => by rw [hw, Array.getElem?_push, if_neg (by omega)]
  have hnew : w'.heap[w.heap.size]? = some (.cells cells elem fz) := by rw [hw]; simp
  refine ⟨_, Ho.add_same _ _ _ _, ⟨hle, ?_, ?_, fun b hb _ => hold b hb, by rw [hw]; simp, Nat.le_succ _, h1, h2, h3⟩, ⟨?_, ?_, ?_, ?_⟩⟩
  · intro f' g' x hx
    rcases Ho.add_cases hx with ⟨rfl, _, _⟩ | hx
    · exact .inr ⟨Nat.le_refl _, Nat.lt_succ_self _⟩
    · exact .inl ⟨g', x, hx⟩
  · intro f' g' x hx
    rcases Ho.add_cases hx with ⟨rfl, _, rfl⟩ | hx
    · exact .inr (.inl ⟨Nat.le_refl _, rfl⟩)
    · exact .inl hx
  · intro f' o hf g x hx
    have hf0 : (if f' = f then some (AObj.row elem es bts n n fl cs) else C f') = some o := hf
    clear hf
    by_cases e : f' = f
    · rw [if_pos e] at hf0
      subst e
      cases hf0
      rcases Ho.add_cases hx with ⟨_, rfl, rfl⟩ | hx
      · refine ⟨he, fun h => (by cases h), Nat.le_refl _, fun _ _ => ⟨⟨cells, fz, hnew, by simp⟩, hsz, fun i hi => ?_, fun _ i hi => ?_, fun _ i _ hi => ?_, fun _ => rfl, fun e c t fz' hc => by rw [hnew] at hc; cases hc; exact .inl (hfz2 e)⟩⟩
        · obtain ⟨l, a1, a2, a3⟩ := hcs i hi
          refine ⟨l, a1, a2, fun j y hy => ?_⟩
          obtain ⟨b1, cv, b2, b3⟩ := a3 j y hy
          refine ⟨b1, cv, ?_, b3.mono hle⟩
          simp only [World.cell?, hnew]
          simpa using b2
        · simp only [World.frozen?, hnew]; have := hfz i (by simpa using ‹_›); simp at this ⊢; omega
        · simp only [World.frozen?, hnew]; have := hfz i (by simpa using ‹_›); simp at this ⊢; omega
      · rw [hfree] at hx; cases hx
    · rw [if_neg e] at hf0
      rcases Ho.add_cases hx with ⟨e', _, _⟩ | hx
      · exact absurd e' e
      · exact (hR.obj f' o hf0 g x hx).keep hle (hold _ (hR.inb _ _ _ hx))
  · intro f1 g1 x1 f2 g2 x2 e1 e2 hne hb
    have c1 := Ho.add_cases e1
    have c2 := Ho.add_cases e2
    clear e1 e2
    rcases c1 with ⟨e, _, rfl⟩ | e1 <;> rcases c2 with ⟨e', _, rfl⟩ | e2
    · exact absurd (e.trans e'.symm) hne
    · have := hR.inb _ _ _ e2
      have hb : w.heap.size = x2.blk := hb
      omega
    · have := hR.inb _ _ _ e1
      have hb : x1.blk = w.heap.size := hb
      omega
    · exact hR.disj _ _ _ _ _ _ e1 e2 hne hb
  · intro f' g' x hx
    rw [hw, Array.size_push]
    rcases Ho.add_cases hx with ⟨_, _, rfl⟩ | hx
    · simp
    · have := hR.inb _ _ _ hx
      omega
  · intro f' g1 x1 g2 x2 e1 e2 hb
    have c1 := Ho.add_cases e1
    have c2 := Ho.add_cases e2
    clear e1 e2
    rcases c1 with ⟨rfl, _, rfl⟩ | e1 <;> rcases c2 with ⟨e', _, rfl⟩ | e2
    · rfl
    · rw [hfree] at e2; cases e2
    · subst e'; rw [hfree] at e1; cases e1
    · exact hR.uniq _ _ _ _ _ e1 e2 hb

theorem R.alloc (hR : R ρ C w) {f elem es bts n : Nat} {cs : RT} {cells : Array Value} (W : Nat → Prop) (hfree : ∀ g, ρ f g = none) (he : 0 < es) (hsz : n * es ≤ cells.size)
    (hcs : ∀ i, i < n → ∃ l, cs.get i = some l ∧ l.length = es ∧ ∀ j x, l[j]? = some x → okCell x = true ∧ ∃ cv, cells[i * es + j]? = some cv ∧ VR ρ x cv) {w' : World}
    (hw : w'.heap = w.heap.push (.cells cells elem)) (h1 : w'.os = w.os) (h2 : w'.tape = w.tape) (h3 : w'.output = w.output) :
    ∃ ρ', ρ' f n = some ⟨w.heap.size, 0, cells.size, false⟩ ∧ Ext W f (f + 1) ρ ρ' w w' ∧ R ρ' (fun x => if x = f then some (.row elem es bts n n 0 cs) else C x) w' := by
  exact hR.allocF 0 (0, 0) W hfree he hsz hcs hw (fun i _ h => by simp at h) (fun _ => rfl) h1 h2 h3

theorem upd_alloc (C : Nat → Option AObj) (H : AHeap) (o : AObj) : upd C H ⟨H.next + 1, H.mrk, H.ws, H.t.set H.next o⟩ = fun x => if x = H.next then some o else C x := by
  funext x
  unfold upd
  simp only [HT.get_set]
  by_cases h : x = H.next
  · subst h
    simp
  · have h2 : ¬ (H.next ≤ x ∧ x < H.next + 1) := by omega
    have h3 : (H.t.set H.next o).get x = H.t.get x := by rw [HT.get_set, if_neg h]
    simp [h2, h, h3]

/-- The row of a place that was read. -/
theorem R.rd (hR : R ρ C w) {f g off n : Nat} {l : List AVal} (hr : RdAt H f g off n l) (hC : C f = H.t.get f) {h : Hm} (hh : ρ f g = some h) (hn : 0 < n) :
    l.length = n ∧ l.all okCell = true ∧ ∀ j x, l[j]? = some x → ∃ cv, w.cell? ⟨h.blk, h.off + off + j, none⟩ = some cv ∧ VR ρ x cv := by
  obtain ⟨elem, es, bts, m, lo, fl, cs, x, hg, h1, h2, h3, h4, hx, hl⟩ := hr
  have hobj := hR.obj f _ (hC.trans hg) g h hh
  obtain ⟨he, hro, _, hrow⟩ := hobj
  have hrow := hrow h1 h2
  obtain ⟨y, hy, hyl, hyc⟩ := hrow.cell _ h4
  have hxy : y = x := by
    have : some y = some x := hy.symm.trans hx
    cases this
    rfl
  subst hxy
  have hoff : off / es * es + off % es = off := by rw [Nat.mul_comm]; exact Nat.div_add_mod off es
  have hlen : l.length = n := by
    rcases hl with ⟨rfl, rfl⟩ | rfl
    · exact hyl
    · simp [hyl]; omega
  have hget : ∀ j z, l[j]? = some z → y[off % es + j]? = some z := by
    intro j z hz
    rcases hl with ⟨rfl, rfl⟩ | rfl
    · have : off % n = 0 := by omega
      rw [this, Nat.zero_add]; exact hz
    · rw [List.getElem?_take] at hz
      split at hz
      · rwa [List.getElem?_drop] at hz
      · cases hz
  refine ⟨hlen, ?_, fun j z hz => ?_⟩
  · rw [List.all_eq_true]
    intro z hz
    obtain ⟨j, hj⟩ := List.getElem?_of_mem hz
    exact (hyc _ z (hget j z hj)).1
  · obtain ⟨_, cv, hcv, hv⟩ := hyc _ z (hget j z hz)
    refine ⟨cv, ?_, hv⟩
    rw [show h.off + off + j = h.off + off / es * es + (off % es + j) by omega]
    exact hcv

end
end Go.Ev
