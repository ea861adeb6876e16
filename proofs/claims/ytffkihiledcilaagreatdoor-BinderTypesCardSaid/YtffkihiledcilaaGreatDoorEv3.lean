/- A part of an evaluator for the program's code, and of rules for walks through it. It holds for every program. -/
import Derived.Test.YtffkihiledcilaaGreatDoorEv2
import Derived.Laws.Tables
import Derived.Laws.MakeOwn
import Derived.Great.FillDense
import Derived.LaidEql
import Derived.Laws.IdiomStrings
import Derived.Laws.BytesArg
import Derived.Lib.Builder
import Derived.Lib.UnsafeStr
import Derived.DeepKeys
import Derived.OpenShut
import Derived.Laws.StructEq
set_option linter.unusedVariables false
set_option linter.unusedSimpArgs false
namespace Go.Ev
section
variable {P : Program} {ρ : Ho} {nt : Nat} {E : Env} {a : Act} {C : Nat → Option AObj} {w : World} {H H' : AHeap} {v : AVal} {o : Oper}
theorem elems_ok : ∀ {n : Nat} {H : AHeap} {f g es off : Nat} {l : List (List AVal)}, elems H f g es n off = some l → l.length = n ∧ ∀ i x, l[i]? = some x → RdAt H f g (off + i * es) es x
  | 0, H, f, g, es, off, l, h => by cases h; exact ⟨rfl, fun i x hx => by simp at hx⟩
  | n + 1, H, f, g, es, off, l, h => by
    have h : rd H f g off es none (fun l => ob (elems H f g es n (off + es)) none fun r => some (l :: r)) = some l := h
    obtain ⟨x, hx, h⟩ := rd_ok h (by simp)
    obtain ⟨r, hr, h⟩ := obo_ok h
    cases h
    obtain ⟨h1, h2⟩ := elems_ok hr
    refine ⟨by simp [h1], fun i y hy => ?_⟩
    cases i with
    | zero => simp at hy; subst hy; simpa using hx
    | succ i => have := h2 i y (by simpa using hy); rwa [show off + es + i * es = off + (i + 1) * es by rw [Nat.add_mul]; omega] at this
theorem fillTr_get : ∀ (l : List (List AVal)) (t : RT) (i k : Nat), (fillTr l t i).get k = if i ≤ k ∧ k < i + l.length then l[k - i]? else t.get k
  | [], t, i, k => by
    show t.get k = _
    rw [if_neg (by simp)]
  | x :: r, t, i, k => by
    have step : fillTr (x :: r) t i = fillTr r (t.set i x) (i + 1) := rfl
    rw [step, fillTr_get r, RT.get_set]
    simp only [List.length_cons]
    by_cases h : k = i
    · subst h
      rw [if_neg (by omega), if_pos rfl, if_pos (by omega)]
      simp
    · rw [if_neg h]
      by_cases h2 : i + 1 ≤ k ∧ k < i + 1 + r.length
      · rw [if_pos h2, if_pos (by omega)]
        rw [show k - i = (k - (i + 1)) + 1 by omega, List.getElem?_cons_succ]
      · rw [if_neg h2, if_neg (by omega)]
structure Flat (ρ : Ho) (es : Nat) (l : List (List AVal)) (news : List Value) : Prop where
  len : news.length = l.length * es
  one : ∀ u ∈ news, u.oneCell' = true
  get : ∀ i x, l[i]? = some x → x.length = es ∧ ∀ j y, x[j]? = some y → okCell y = true ∧ ∃ cv, news[i * es + j]? = some cv ∧ VR ρ y cv
theorem lt_of_get {α : Type} {l : List α} {i : Nat} {x : α} (h : l[i]? = some x) : i < l.length := by
  rcases Nat.lt_or_ge i l.length with h' | h'
  · exact h'
  · rw [List.getElem?_eq_none h'] at h; cases h
theorem Flat.of_elems (hR : R ρ C w) {f g es off n : Nat} {l : List (List AVal)} (hl : elems H f g es n off = some l) (hC : ∀ o, H.t.get f = some o → C f = some o) {h : Hm} (hh : ρ f g = some h) (he : 0 < es) :
    l.length = n ∧ ∃ news, Flat ρ es l news ∧ ∀ j u, news[j]? = some u → w.cell? ⟨h.blk, h.off + off + j, none⟩ = some u := by
  obtain ⟨hlen, hget⟩ := elems_ok hl
  refine ⟨hlen, (List.range (l.length * es)).map fun q => (w.cell? ⟨h.blk, h.off + off + q, none⟩).getD undef, ?_⟩
  have key : ∀ i x, l[i]? = some x → x.length = es ∧ ∀ j y, x[j]? = some y → okCell y = true ∧ ∃ cv, w.cell? ⟨h.blk, h.off + off + (i * es + j), none⟩ = some cv ∧ VR ρ y cv := by
    intro i x hx
    have hCf : C f = H.t.get f := by
      obtain ⟨_, _, _, _, _, _, _, _, hg, _⟩ := hget i x hx
      exact (hC _ hg).trans hg.symm
    obtain ⟨h1, h2, h3⟩ := hR.rd (hget i x hx) hCf hh he
    refine ⟨h1, fun j y hy => ⟨(List.all_eq_true.1 h2) y (List.mem_of_getElem? hy), ?_⟩⟩
    obtain ⟨cv, hcv, hv⟩ := h3 j y hy
    exact ⟨cv, by rw [show h.off + off + (i * es + j) = h.off + (off + i * es) + j by omega]; exact hcv, hv⟩
  have cellAt : ∀ q, q < l.length * es → ∃ cv, w.cell? ⟨h.blk, h.off + off + q, none⟩ = some cv ∧ cv.oneCell' = true := by
    intro q hq
    have hi : q / es < l.length := by
      rw [Nat.div_lt_iff_lt_mul he]
      exact hq
    have hj : q % es < es := Nat.mod_lt _ he
    obtain ⟨h1, h2⟩ := key (q / es) _ (List.getElem?_eq_getElem hi)
    obtain ⟨k1, cv, k2, k3⟩ := h2 (q % es) _ (List.getElem?_eq_getElem (by rw [h1]; exact hj))
    refine ⟨cv, ?_, oneCell_of k3 k1⟩
    have : q / es * es + q % es = q := by rw [Nat.mul_comm]; exact Nat.div_add_mod q es
    rwa [this] at k2
  refine ⟨⟨by simp, fun u hu => ?_, fun i x hx => ?_⟩, fun j u hu => ?_⟩
  · obtain ⟨q, hq, rfl⟩ := List.mem_map.1 hu
    obtain ⟨cv, k1, k2⟩ := cellAt q (List.mem_range.1 hq)
    rw [k1]
    exact k2
  · obtain ⟨h1, h2⟩ := key i x hx
    refine ⟨h1, fun j y hy => ?_⟩
    obtain ⟨k1, cv, k2, k3⟩ := h2 j y hy
    refine ⟨k1, cv, ?_, k3⟩
    have hlt : i * es + j < l.length * es := by
      have h4 := lt_of_get hx
      have h5 := lt_of_get hy
      have := Nat.mul_le_mul_right es (show i + 1 ≤ l.length from h4)
      rw [Nat.add_mul, Nat.one_mul] at this
      omega
    simp [hlt, k2]
  · have hj := lt_of_get hu
    simp at hj
    obtain ⟨cv, k1, _⟩ := cellAt j hj
    simp [hj, k1] at hu
    rw [k1, hu]
theorem R.grow (hR : R ρ C w) {f m k elem es bts bts' lo fl : Nat} {cs : RT} {new : List (List AVal)} {news : List Value} (W : Nat → Prop) (hWf : W f) {w' : World} {h h2 : Hm}
    (hC : C f = some (.row elem es bts m lo fl cs)) (hh : ρ f m = some h) (hk : new.length = k) (hk0 : 0 < k) (hlo : lo ≤ m) (hfl : fl ≠ 1) (hF : Flat ρ es new news)
    (hsz : w.heap.size ≤ w'.heap.size) (h1 : w'.os = w.os) (h2' : w'.tape = w.tape) (h3 : w'.output = w.output)
    (hother : ∀ b, b < w.heap.size → b ≠ h.blk → w'.heap[b]? = w.heap[b]?)
    (hhere : ∃ c c' e fz, w.heap[h.blk]? = some (.cells c e fz) ∧ w'.heap[h.blk]? = some (.cells c' e fz) ∧ c'.size = c.size)
    (hcell : ∀ off, off < m * es → w'.cell? ⟨h.blk, h.off + off, none⟩ = w.cell? ⟨h.blk, h.off + off, none⟩)
    (hplace : h2 = h ∨ (w.heap.size ≤ h2.blk ∧ h2.ro = false)) (hin : h2.blk < w'.heap.size)
    (hrow : ∃ c fz, w'.heap[h2.blk]? = some (.cells c elem fz) ∧ h2.off + h2.room ≤ c.size) (hfits : (m + k) * es ≤ h2.room)
    (hold : ∀ off, off < m * es → w'.cell? ⟨h2.blk, h2.off + off, none⟩ = w.cell? ⟨h.blk, h.off + off, none⟩)
    (hnew : ∀ j, j < k * es → w'.cell? ⟨h2.blk, h2.off + m * es + j, none⟩ = news[j]?)
    (hfz : h2 ≠ h → h2.off = 0 ∧ (∀ i, w'.frozen? ⟨h2.blk, i, none⟩ = false) ∧ ∀ c e fz, w'.heap[h2.blk]? = some (.cells c e fz) → fz.1 = fz.2) :
    ∃ ρ', ρ' f (m + k) = some h2 ∧ Ext W H.next H.next ρ ρ' w w' ∧ R ρ' (fun x => if x = f then some (.row elem es bts' (m + k) lo fl (fillTr new cs m)) else C x) w' := by
  obtain ⟨he, hro, _, hrowm⟩ := hR.obj f _ hC m h hh
  have hrowm := hrowm hlo (Nat.le_refl _)
  have hro' : h.ro = false := by
    cases hr : h.ro
    · rfl
    · exact absurd (hro hr) hfl
  have hro2 : h2.ro = false := by
    rcases hplace with rfl | ⟨_, e⟩
    · exact hro'
    · exact e
  have hnone : ∀ x, ρ f (m + k) = some x → x = h2 := fun x hx => by
    obtain ⟨_, _, hle, _⟩ := hR.obj f _ hC (m + k) x hx
    omega
  have hle : ρ.le (ρ.add f (m + k) h2) := Ho.le_add hnone
  have hoth : ∀ f' g' x, ρ f' g' = some x → f' ≠ f → w'.heap[x.blk]? = w.heap[x.blk]? := by
    intro f' g' x hx hne
    refine hother _ (hR.inb _ _ _ hx) fun e => ?_
    have := hR.disj _ _ _ _ _ _ hx hh hne e
    rw [hro'] at this
    exact absurd this.2 (by simp)
  have hfzh : ∀ i, w'.frozen? ⟨h.blk, i, none⟩ = w.frozen? ⟨h.blk, i, none⟩ := by
    intro i
    obtain ⟨c, c', e, fz, k1, k2, _⟩ := hhere
    simp only [World.frozen?, k1, k2]
  refine ⟨_, Ho.add_same _ _ _ _, ⟨hle, ?_, ?_, ?_, hsz, Nat.le_refl _, h1, h2', h3⟩, ⟨?_, ?_, ?_, ?_⟩⟩
  · intro f' g' x hx
    rcases Ho.add_cases hx with ⟨rfl, _, _⟩ | hx
    · exact .inl ⟨m, h, hh⟩
    · exact .inl ⟨g', x, hx⟩
  · intro f' g' x hx
    rcases Ho.add_cases hx with ⟨rfl, _, rfl⟩ | hx
    · rcases hplace with rfl | ⟨a1, a2⟩
      · exact .inr (.inr ⟨m, x, hh, rfl, rfl⟩)
      · exact .inr (.inl ⟨a1, a2⟩)
    · exact .inl hx
  · intro b hb hf
    exact hother b hb fun e => hf f m h hh hro' hWf e.symm
  · intro f' o hf0 g x hx
    have hf1 : (if f' = f then some (AObj.row elem es bts' (m + k) lo fl (fillTr new cs m)) else C f') = some o := hf0
    clear hf0
    by_cases e : f' = f
    · rw [if_pos e] at hf1
      subst e
      cases hf1
      rcases Ho.add_cases hx with ⟨_, rfl, rfl⟩ | hx
      · refine ⟨he, (fun e => by rw [hro2] at e; cases e), Nat.le_refl _, fun _ _ => ⟨hrow, hfits, fun i hi => ?_, fun e i hi => ?_, fun e i hi hi2 => ?_, fun e => (Classical.em (x = h)).elim (fun e2 => e2 ▸ hrowm.off0 e) (fun e2 => (hfz e2).1), fun e => (Classical.em (x = h)).elim (fun e2 c1 t1 fz1 hc1 => by
          obtain ⟨c, c', t2, fz, q1, q2, _⟩ := hhere
          rw [e2, q2] at hc1
          cases hc1
          have := Nat.mul_le_mul_right es (show m ≤ m + k by omega)
          exact (hrowm.fz0 e _ _ _ q1).imp_right (fun g => by omega)) (fun e2 c1 t1 fz1 hc1 => .inl ((hfz e2).2.2 _ _ _ hc1))⟩⟩
        · rw [fillTr_get]
          by_cases him : i < m
          · rw [if_neg (by omega)]
            obtain ⟨l, l1, l2, l3⟩ := hrowm.cell i him
            refine ⟨l, l1, l2, fun j u hu => ?_⟩
            obtain ⟨k1, cv, k2, k3⟩ := l3 j u hu
            refine ⟨k1, cv, ?_, k3.mono hle⟩
            have hj := lt_of_get hu
            have := Nat.mul_le_mul_right es (show i + 1 ≤ m from him)
            rw [Nat.add_mul, Nat.one_mul] at this
            rw [Nat.add_assoc, hold (i * es + j) (by omega), ← Nat.add_assoc]
            exact k2
          · rw [if_pos (by omega)]
            have hik : i - m < new.length := by omega
            obtain ⟨l1, l2⟩ := hF.get (i - m) _ (List.getElem?_eq_getElem hik)
            refine ⟨_, List.getElem?_eq_getElem hik, l1, fun j u hu => ?_⟩
            obtain ⟨k1, cv, k2, k3⟩ := l2 j u hu
            refine ⟨k1, cv, ?_, k3.mono hle⟩
            have hj := lt_of_get hu
            have hjj := lt_of_get k2
            rw [hF.len, hk] at hjj
            have e1 : i * es = m * es + (i - m) * es := by rw [← Nat.add_mul]; congr 1; omega
            rw [show x.off + i * es + j = x.off + m * es + ((i - m) * es + j) by omega, hnew _ hjj]
            exact k2
        · by_cases hx2 : x = h
          · subst hx2
            rw [hfzh]
            exact hrowm.open0 e i hi
          · exact (hfz hx2).2.1 _
        · by_cases hx2 : x = h
          · subst hx2
            rw [hfzh]
            refine hrowm.open2 e i ?_ hi2
            have := Nat.mul_le_mul_right es (show m ≤ m + k by omega)
            omega
          · exact (hfz hx2).2.1 _
      · obtain ⟨_, r1, r2, r3⟩ := hR.obj f' _ hC g x hx
        refine ⟨he, r1, by omega, fun a1 _ => ?_⟩
        have r3 := r3 a1 r2
        have hheap : (∃ c c' e fz, w.heap[x.blk]? = some (.cells c e fz) ∧ w'.heap[x.blk]? = some (.cells c' e fz) ∧ c'.size = c.size) ∧ ∀ off, off < m * es → w'.cell? ⟨x.blk, x.off + off, none⟩ = w.cell? ⟨x.blk, x.off + off, none⟩ := by
          by_cases hb : x.blk = h.blk
          · have ho := hR.uniq _ _ _ _ _ hx hh hb
            rw [hb, ho]
            exact ⟨hhere, hcell⟩
          · have hb2 := hother _ (hR.inb _ _ _ hx) hb
            obtain ⟨c, fz, hc, _⟩ := r3.row
            exact ⟨⟨c, c, elem, fz, hc, by rw [hb2]; exact hc, rfl⟩, fun off _ => cell_of_heap (w := w) hb2⟩
        obtain ⟨⟨c, c', e0, fz, q1, q2, q3⟩, q4⟩ := hheap
        have hfx : ∀ i, w'.frozen? ⟨x.blk, i, none⟩ = w.frozen? ⟨x.blk, i, none⟩ := fun i => by simp only [World.frozen?, q1, q2]
        obtain ⟨c2, fz2, p1, p2⟩ := r3.row
        rw [q1] at p1
        cases p1
        refine ⟨⟨c', fz, q2, by omega⟩, r3.fits, fun i hi => ?_, fun e i hi => ?_, fun e i hi hi2 => ?_, r3.off0, fun e c1 t1 fz1 hc1 => by
          rw [q2] at hc1
          cases hc1
          have := Nat.mul_le_mul_right es (show m ≤ m + k by omega)
          exact (r3.fz0 e _ _ _ q1).imp_right (fun g => by omega)⟩
        · rw [fillTr_get, if_neg (by omega)]
          obtain ⟨l, l1, l2, l3⟩ := r3.cell i hi
          refine ⟨l, l1, l2, fun j u hu => ?_⟩
          obtain ⟨k1, cv, k2, k3⟩ := l3 j u hu
          refine ⟨k1, cv, ?_, k3.mono hle⟩
          have hj := lt_of_get hu
          have := Nat.mul_le_mul_right es (show i + 1 ≤ m by omega)
          rw [Nat.add_mul, Nat.one_mul] at this
          rw [Nat.add_assoc, q4 (i * es + j) (by omega), ← Nat.add_assoc]
          exact k2
        · rw [hfx]; exact r3.open0 e i hi
        · rw [hfx]
          refine r3.open2 e i ?_ hi2
          have := Nat.mul_le_mul_right es (show m ≤ m + k by omega)
          omega
    · rw [if_neg e] at hf1
      rcases Ho.add_cases hx with ⟨e', _, _⟩ | hx
      · exact absurd e' e
      · exact (hR.obj f' o hf1 g x hx).keep hle (hoth _ _ _ hx e)
  · intro f1 g1 x1 f2 g2 x2 e1 e2 hne hb
    have c1 := Ho.add_cases e1
    have c2 := Ho.add_cases e2
    clear e1 e2
    have half : ∀ f' g' x, ρ f' g' = some x → f' ≠ f → x.blk ≠ h2.blk := by
      intro f' g' x hx hne e
      rcases hplace with rfl | ⟨a1, _⟩
      · have := hR.disj _ _ _ _ _ _ hx hh hne e
        rw [hro'] at this
        exact absurd this.2 (by simp)
      · have := hR.inb _ _ _ hx
        omega
    rcases c1 with ⟨e, _, rfl⟩ | e1 <;> rcases c2 with ⟨e', _, rfl⟩ | e2
    · exact absurd (e.trans e'.symm) hne
    · exact absurd hb.symm (half _ _ _ e2 (fun e3 => hne (e.trans e3.symm)))
    · exact absurd hb (half _ _ _ e1 (fun e3 => hne (e3.trans e'.symm)))
    · exact hR.disj _ _ _ _ _ _ e1 e2 hne hb
  · intro f' g' x hx
    rcases Ho.add_cases hx with ⟨_, _, rfl⟩ | hx
    · exact hin
    · have := hR.inb _ _ _ hx
      omega
  · intro f' g1 x1 g2 x2 e1 e2 hb
    have c1 := Ho.add_cases e1
    have c2 := Ho.add_cases e2
    clear e1 e2
    have half : ∀ g' x, ρ f g' = some x → x.blk = h2.blk → x.off = h2.off := by
      intro g' x hx e
      rcases hplace with rfl | ⟨a1, _⟩
      · exact hR.uniq _ _ _ _ _ hx hh e
      · have := hR.inb _ _ _ hx
        omega
    rcases c1 with ⟨e, _, rfl⟩ | e1 <;> rcases c2 with ⟨e', _, rfl⟩ | e2
    · rfl
    · subst e; exact (half _ _ e2 hb.symm).symm
    · subst e'; exact half _ _ e1 hb
    · exact hR.uniq _ _ _ _ _ e1 e2 hb
end
end Go.Ev
namespace Go.Ev
section
variable {P : Program} {ρ : Ho} {nt : Nat} {E : Env} {a : Act} {C : Nat → Option AObj} {w : World} {H H' : AHeap} {v : AVal} {o : Oper}
theorem zeroOf_ok {t : TypeId} {z : List AVal} (hz : zeroOf P t = some z) : ∃ i zv, P.info? t = some i ∧ i.zero = some zv ∧ (∀ ρ, VRs ρ z zv.cells.toList) ∧ z.all okCell = true ∧ z.length = i.size ∧ 0 < i.size ∧ zv.cells.size = i.size := by
  unfold zeroOf at hz
  split at hz
  · rename_i i hi
    split at hz
    · rename_i zv hzv
      split at hz
      · rename_i av hav
        split at hz
        · rename_i l hl
          split at hz
          · rename_i hsz
            cases hz
            have hc := fun ρ => (valOf_ok ρ _ _ hav).cells (cellsOf_ok hl)
            refine ⟨i, zv, hi, hzv, fun ρ => (hc ρ).1, (hc (fun _ _ => none)).2, hsz.1, hsz.2, ?_⟩
            have := (hc (fun _ _ => none)).1.length
            rw [Array.length_toList] at this
            omega
          · cases hz
        · cases hz
      · cases hz
    · cases hz
  · cases hz
theorem size_zeroCells (z : Array Value) (n : Nat) : (Builtin.zeroCells z n).size = n * z.size := by simp [Builtin.zeroCells]
theorem chk_no {b : Bool} {k : Res} {n : Nat} (h : chk b (.err n) k = .ok v H') : b = false ∧ k = .ok v H' := by
  cases b
  · exact ⟨rfl, h⟩
  · cases h
theorem nil_sound (hR : R ρ C w) (hF : Free ρ H.next H'.next) {t tx ty e : TypeId} {i : TypeInfo} {z : List AVal} {yc : Value} {n : Nat} {new : List (List AVal)} {news : List Value}
    (ht : P.underlying t = some (.slice e)) (hi : P.info? e = some i) (hz : zeroOf P e = some z) (hb : i.bytes ≠ 0) (hn : 0 < n) (hl : new.length = n) (hfl : Flat ρ i.size new news) (hs : Src P i.size tx yc n news w)
    (h : appNil e i.size i.bytes n new H = .ok v H') : ∃ cv w', (Builtin.append_ #[t, tx] ty #[.slice none 0 0, yc]).run P w = .ok cv w' ∧ Post ρ C w H v H' cv w' := by
  replace h := chk_ok h; obtain ⟨hbd, h⟩ := h
  rw [fillC_eq] at h
  have h := alloc_ok h
  cases h
  have hbd := Nat.le_of_ble_eq_true hbd
  have hbd : n * i.bytes ≤ 70368744177664 := hbd
  obtain ⟨i', zv, hi', hzv, _, _, _, hpos, hzs⟩ := zeroOf_ok hz
  rw [hi] at hi'
  cases hi'
  have hnb : n ≤ n * i.bytes := Nat.le_mul_of_pos_right _ (by omega)
  have hge := grownCap_ge w (0 + n) 0 e
  have hrun := run_append_grow_src (P := P) w t tx ty e i zv ht hi hzv none 0 0 [] (run_firstCells_none w.drew i.size 0 0 0) yc n news hs (by omega) (by omega) (growslice_fits (by omega) (by rw [Nat.zero_add]; omega))
  generalize grownCap w (0 + n) 0 e = cp at *
  have hnl : news.length = n * i.size := by rw [hfl.len, hl]
  obtain ⟨ρ', h1, h2, h3⟩ := hR.alloc (f := H.next) (elem := e) (es := i.size) (bts := i.bytes) (n := n) (cs := fillTr new .emp 0) (cells := ([] ++ news).toArray ++ Builtin.zeroCells zv.cells (cp - (0 + n)))
    (w' := w.drew.alloc (.cells (([] ++ news).toArray ++ Builtin.zeroCells zv.cells (cp - (0 + n))) e))
    (Wr ⟨H.next + 1, H.mrk, H.ws, H.t.set H.next (.row e i.size i.bytes n n 0 (fillTr new .emp 0))⟩) (fun g => hF _ g (Nat.le_refl _) (Nat.lt_succ_self _)) hpos
    (by rw [Array.size_append, size_zeroCells]; simp [hnl])
    (fun k hk => by
      rw [fillTr_get, if_pos (by omega)]
      have hkl : k < new.length := by omega
      obtain ⟨l1, l2⟩ := hfl.get k _ (List.getElem?_eq_getElem hkl)
      refine ⟨_, by rw [Nat.sub_zero]; exact List.getElem?_eq_getElem hkl, l1, fun j x hx => ?_⟩
      obtain ⟨k1, cv, k2, k3⟩ := l2 j x hx
      refine ⟨k1, cv, ?_, k3⟩
      have := lt_of_get k2
      rw [Array.getElem?_append_left (by simpa using this)]
      simpa using k2) rfl rfl rfl rfl
  refine ⟨_, _, hrun, ρ', ?_, h2, ?_⟩
  · simp only [VR]
    refine ⟨_, _, _, h1, by rw [Nat.zero_add], by omega, .inl ⟨rfl, ?_⟩⟩
    simp only
    rw [Array.size_append, size_zeroCells, hzs, Nat.zero_add]
    simp only [List.nil_append, List.size_toArray, hnl]
    rw [← Nat.add_mul]
    exact Nat.mul_le_mul_right _ (by omega)
  · rw [upd_alloc]
    exact h3
theorem upd_write {f : Nat} {o o' : AObj} (hC : C f = H.t.get f) (_ho : H.t.get f = some o) : upd C H ⟨H.next, H.mrk, wrote f H.mrk H.ws, H.t.set f o'⟩ = fun x => if x = f then some o' else C x := by
  funext x
  unfold upd
  simp only
  rw [if_neg (by omega), HT.get_set]
  by_cases h : x = f
  · subst h
    rw [if_pos rfl, if_pos rfl]
    split
    · rename_i e; rw [hC, ← e]
    · rfl
  · rw [if_neg h, if_neg h, if_pos rfl]
theorem wrote_Wr (H : AHeap) (f : Nat) (t : HT) : Wr ⟨H.next, H.mrk, wrote f H.mrk H.ws, t⟩ f := by
  unfold Wr
  simp only [wrote_mem]
  by_cases hlt : f < H.mrk
  · exact .inl (.inr ⟨trivial, hlt⟩)
  · exact .inr (by omega)
theorem row_sound (hR : R ρ C w) {t tx ty e : TypeId} {i : TypeInfo} {z : List AVal} {yc : Value} {n : Nat} {new : List (List AVal)} {news : List Value} {f g off ln es' : Nat} {xc : Value}
    (ht : P.underlying t = some (.slice e)) (hi : P.info? e = some i) (hz : zeroOf P e = some z) (hb : i.bytes ≠ 0) (hn : 0 < n) (hl : new.length = n) (hfl : Flat ρ i.size new news) (hs : Src P i.size tx yc n news w)
    (hx : VR ρ (.slice f g off ln es') xc) (hC0 : ∀ o, (∃ g h, ρ f g = some h) → H.t.get f = some o → C f = some o)
    (h : appRow e i.size i.bytes n new H f g off ln es' = .ok v H') : ∃ cv w', (Builtin.append_ #[t, tx] ty #[xc, yc]).run P w = .ok cv w' ∧ Post ρ C w H v H' cv w' := by
  have h : onRow (H.t.get f) (Res.err 33) (fun elem' es'' bts' m lo fl cs =>
    chk (Nat.beq off 0) (chk (Nat.beq g m) (chk (Nat.ble lo g) (chk (Nat.beq ln m) (chk (Nat.beq es' i.size) (chk (Nat.beq es'' i.size) (chk (Nat.beq fl 1) (Res.err 32)
      (chk (Nat.ble (Nat.mul (Nat.add m n) i.bytes) 70368744177664) (chk (Nat.beq e elem')
        (seqNat (Nat.add m n) fun m' => fillC new cs m fun cs => H.t.setC f (.row elem' es'' bts' m' lo fl cs) fun t =>
          Res.ok (.slice f m' 0 m' i.size) ⟨H.next, H.mrk, wrote f H.mrk H.ws, t⟩) (Res.err 32)) (Res.err 32))) (Res.err 32)) (Res.err 32)) (Res.err 32)) (Res.err 32)) (Res.err 32)) (Res.err 32)) = Res.ok v H' := by
    cases H; exact h
  obtain ⟨elem', es'', bts', m, lo, fl, cs, hg, h⟩ := onRow_ok h
  replace h := chk_ok h; obtain ⟨a1, h⟩ := h
  replace h := chk_ok h; obtain ⟨a2, h⟩ := h
  replace h := chk_ok h; obtain ⟨a3, h⟩ := h
  replace h := chk_ok h; obtain ⟨a4, h⟩ := h
  replace h := chk_ok h; obtain ⟨a5, h⟩ := h
  replace h := chk_ok h; obtain ⟨a6, h⟩ := h
  replace h := chk_no h; obtain ⟨a7, h⟩ := h
  replace h := chk_ok h; obtain ⟨a8, h⟩ := h
  replace h := chk_ok h; obtain ⟨a9, h⟩ := h
  rw [seqNat_eq, fillC_eq, HT.setC_eq] at h
  have a1 := Nat.eq_of_beq_eq_true a1
  have a2 := Nat.eq_of_beq_eq_true a2
  have a3 := Nat.le_of_ble_eq_true a3
  have a4 := Nat.eq_of_beq_eq_true a4
  have a5 := Nat.eq_of_beq_eq_true a5
  have a6 := Nat.eq_of_beq_eq_true a6
  have a7 : fl ≠ 1 := by intro e; subst e; cases a7
  have a8 := Nat.le_of_ble_eq_true a8
  have a9 := Nat.eq_of_beq_eq_true a9
  cases h
  subst a1 a2 a4 a6 a9
  obtain ⟨i', zv, hi', hzv, _, _, _, hpos, hzs⟩ := zeroOf_ok hz
  rw [hi] at hi'
  cases hi'
  simp only [VR] at hx
  obtain ⟨hm, ad, cap, hh, rfl, hlc, hsl⟩ := hx
  have hC : C f = H.t.get f := (hC0 _ ⟨_, _, hh⟩ hg).trans hg.symm
  have hCf : C f = some (.row e i.size bts' ln lo fl cs) := hC.trans hg
  rcases hsl with ⟨rfl, hsl⟩ | ⟨_, _, hsl⟩
  case inr => omega
  rw [a5] at hsl
  obtain ⟨_, hro, _, hrow⟩ := hR.obj f _ hCf ln hm hh
  have hrow := hrow a3 (Nat.le_refl _)
  obtain ⟨c, fz, hblk, hroom⟩ := hrow.row
  have hnl : news.length = n * i.size := by rw [hfl.len, hl]
  have hnb : ln + n ≤ (ln + n) * i.bytes := Nat.le_mul_of_pos_right _ (by omega)
  have hbd : (ln + n) * i.bytes ≤ 70368744177664 := a8
  have hadd : (ln + n) * i.size = ln * i.size + n * i.size := Nat.add_mul _ _ _
  by_cases hcap : ln + n ≤ cap
  · have hfitc : (ln + n) * i.size ≤ cap * i.size := Nat.mul_le_mul_right _ hcap
    have hc1 : ∀ j, j < news.length → (w.cell? ⟨hm.blk, hm.off + 0 + ln * i.size + j, none⟩).isSome = true := by
      intro j hj
      simp only [World.cell?, hblk]
      rw [Array.getElem?_eq_getElem (by omega)]
      rfl
    have hf1 : ∀ j, j < news.length → w.frozen? ⟨hm.blk, hm.off + 0 + ln * i.size + j, none⟩ = false := by
      intro j hj
      rw [show hm.off + 0 + ln * i.size + j = hm.off + (ln * i.size + j) by omega]
      exact hrow.open2 a7 _ (by omega) (by omega)
    have hrun := run_append_room_src (P := P) w t tx ty e i ht hi hm.blk (hm.off + 0) ln cap yc n news hs hcap hc1 hf1
    obtain ⟨s1, s2, s3, s4, s5, s6⟩ := setCells_heap hm.blk news (hm.off + 0 + ln * i.size) w
    obtain ⟨c', hc', hcs'⟩ := s3 c e fz hblk
    have hout : ∀ q, q < ln * i.size → (w.setCells hm.blk (hm.off + 0 + ln * i.size) news).cell? ⟨hm.blk, hm.off + q, none⟩ = w.cell? ⟨hm.blk, hm.off + q, none⟩ := by
      intro q hq
      exact World.cell?_setCells_out _ _ _ _ _ (fun _ _ => by simp only; omega)
    obtain ⟨ρ', k1, k2, k3⟩ := hR.grow (H := H) (bts' := bts') (w' := w.setCells hm.blk (hm.off + 0 + ln * i.size) news) (h2 := hm)
      (Wr ⟨H.next, H.mrk, wrote f H.mrk H.ws, H.t.set f (.row e i.size bts' (Nat.add ln n) lo fl (fillTr new cs ln))⟩) (wrote_Wr _ _ _) hCf hh hl hn a3 a7 hfl
      (by rw [s1]; exact Nat.le_refl _) s4 s5 s6 (fun b _ hb => s2 b hb) ⟨c, c', e, fz, hblk, hc', hcs'⟩ hout (.inl rfl) (by rw [s1]; exact hR.inb _ _ _ hh)
      ⟨c', fz, hc', by omega⟩ (by omega) hout
      (fun j hj => by
        rw [show hm.off + ln * i.size + j = hm.off + 0 + ln * i.size + j by omega]
        rw [World.cell?_setCells_in _ _ _ _ hc1 j (by omega), ← List.getElem?_eq_getElem])
      (fun hne => absurd rfl hne)
    refine ⟨_, _, hrun, ρ', ?_, k2, ?_⟩
    · simp only [VR]
      exact ⟨hm, _, _, k1, rfl, hcap, .inl ⟨rfl, by omega⟩⟩
    · rw [upd_write hC hg]
      exact k3
  · have hcap : cap < ln + n := by omega
    -- the cells that are there
    have cellAt : ∀ q, q < ln * i.size → ∃ cv, w.cell? ⟨hm.blk, hm.off + q, none⟩ = some cv ∧ cv.oneCell' = true := by
      intro q hq
      have hi1 : q / i.size < ln := by rw [Nat.div_lt_iff_lt_mul hpos]; exact hq
      have hj : q % i.size < i.size := Nat.mod_lt _ hpos
      obtain ⟨l, l1, l2, l3⟩ := hrow.cell _ hi1
      obtain ⟨k1, cv, k2, k3⟩ := l3 (q % i.size) _ (List.getElem?_eq_getElem (by rw [l2]; exact hj))
      refine ⟨cv, ?_, oneCell_of k3 k1⟩
      have : q / i.size * i.size + q % i.size = q := by rw [Nat.mul_comm]; exact Nat.div_add_mod q i.size
      rwa [Nat.add_assoc, this] at k2
    obtain ⟨olds, ho1, ho2⟩ : ∃ olds : List Value, olds.length = ln * i.size ∧ ∀ q, q < ln * i.size → olds[q]? = w.cell? ⟨hm.blk, hm.off + q, none⟩ := by
      refine ⟨(List.range (ln * i.size)).map fun q => (w.cell? ⟨hm.blk, hm.off + q, none⟩).getD undef, by simp, fun q hq => ?_⟩
      obtain ⟨cv, k1, _⟩ := cellAt q hq
      simp [hq, k1]
    have hold : (Builtin.firstCells i.size ln (.slice (some ⟨hm.blk, hm.off + 0, none⟩) ln cap)).run P w.drew = .ok olds.toArray w.drew := by
      refine run_firstCells_some w.drew i.size ln _ ln cap olds ho1 fun j u hu => ?_
      rw [Addr.add_lit, Nat.add_zero]
      show w.cell? _ = _
      rw [← ho2 j (by have := lt_of_get hu; omega)]
      exact hu
    have hrun := run_append_grow_src (P := P) w t tx ty e i zv ht hi hzv (some ⟨hm.blk, hm.off + 0, none⟩) ln cap olds hold yc n news hs hcap (by omega) (growslice_fits hcap (by omega))
    have hge := grownCap_ge w (ln + n) cap e
    generalize grownCap w (ln + n) cap e = cp at *
    generalize hcells : (olds ++ news).toArray ++ Builtin.zeroCells zv.cells (cp - (ln + n)) = cells at *
    have hcsz : cells.size = cp * i.size := by
      rw [← hcells, Array.size_append, size_zeroCells, hzs]
      simp only [List.size_toArray, List.length_append, ho1, hnl]
      rw [← Nat.add_mul, ← Nat.add_mul]
      congr 1
      omega
    have hcg : ∀ q, q < (ln + n) * i.size → cells[q]? = (olds ++ news)[q]? := by
      intro q hq
      rw [← hcells, Array.getElem?_append_left (by simp [ho1, hnl]; omega)]
      simp
    have hnewcell : ∀ q, (w.drew.alloc (.cells cells e)).cell? ⟨w.heap.size, q, none⟩ = cells[q]? := by
      intro q
      have : (w.drew.alloc (.cells cells e)).heap[w.heap.size]? = some (.cells cells e (0, 0)) := by
        show (w.heap.push _)[w.heap.size]? = _
        simp
      simp only [World.cell?, this]
      simp
    have hheap : ∀ b, b < w.heap.size → (w.drew.alloc (.cells cells e)).heap[b]? = w.heap[b]? := fun b hb => by
      show (w.heap.push _)[b]? = _
      rw [Array.getElem?_push, if_neg (by omega)]
    have hfz0 : ∀ q, (w.drew.alloc (.cells cells e)).frozen? ⟨w.heap.size, q, none⟩ = false := by
      intro q
      have : (w.drew.alloc (.cells cells e)).heap[w.heap.size]? = some (.cells cells e (0, 0)) := by
        show (w.heap.push _)[w.heap.size]? = _
        simp
      simp only [World.frozen?, this]
      simp
    have hfitc : (ln + n) * i.size ≤ cp * i.size := Nat.mul_le_mul_right _ hge
    obtain ⟨ρ', k1, k2, k3⟩ := hR.grow (H := H) (bts' := bts') (w' := w.drew.alloc (.cells cells e)) (h2 := ⟨w.heap.size, 0, cells.size, false⟩)
      (Wr ⟨H.next, H.mrk, wrote f H.mrk H.ws, H.t.set f (.row e i.size bts' (Nat.add ln n) lo fl (fillTr new cs ln))⟩) (wrote_Wr _ _ _) hCf hh hl hn a3 a7 hfl
      (by show w.heap.size ≤ (w.heap.push _).size; simp) rfl rfl rfl (fun b hb _ => hheap b hb) ⟨c, c, e, fz, hblk, by rw [hheap _ (hR.inb _ _ _ hh)]; exact hblk, rfl⟩
      (fun q _ => cell_of_heap (w := w) (hheap _ (hR.inb _ _ _ hh))) (.inr ⟨Nat.le_refl _, rfl⟩) (by show w.heap.size < (w.heap.push _).size; simp)
      ⟨cells, (0, 0), by show (w.heap.push _)[w.heap.size]? = _; simp, by simp⟩ (by simp only; omega)
      (fun q hq => by
        rw [Nat.zero_add, hnewcell, hcg q (by omega), List.getElem?_append_left (by omega)]
        exact ho2 q hq)
      (fun j hj => by
        rw [Nat.zero_add, hnewcell, hcg _ (by omega), List.getElem?_append_right (by omega), ho1]
        congr 1
        omega)
      (fun _ => ⟨rfl, fun q => hfz0 q, fun c1 e1 fz1 hc1 => by
        have h0 : (w.heap.push (Obj.cells cells e))[w.heap.size]? = some (.cells c1 e1 fz1) := hc1
        simp at h0
        rw [← h0.2.2]⟩)
    refine ⟨_, _, hrun, ρ', ?_, k2, ?_⟩
    · simp only [VR]
      exact ⟨_, _, _, k1, rfl, by show ln + n ≤ cp; exact hge, .inl ⟨rfl, by simp only; omega⟩⟩
    · rw [upd_write hC hg]
      exact k3
end
end Go.Ev
namespace Go.Ev
section
variable {P : Program} {ρ : Ho} {nt : Nat} {E : Env} {a : Act} {C : Nat → Option AObj} {w : World} {H H' : AHeap} {v : AVal} {o : Oper}
theorem append_types {at_ : Array TypeId} {t tx ty : TypeId} {args : Array Value} (h0 : at_[0]? = some t) (h1 : at_[1]? = some tx) : Builtin.append_ at_ ty args = Builtin.append_ #[t, tx] ty args := by
  unfold Builtin.append_
  simp [h0, h1]
theorem appA_sound (hR : R ρ C w) (hF : Free ρ H.next H'.next) {t tx ty e : TypeId} {i : TypeInfo} {z : List AVal} {xa : AVal} {xc yc : Value} {n : Nat} {new : List (List AVal)} {news : List Value}
    (ht : P.underlying t = some (.slice e)) (hi : P.info? e = some i) (hz : zeroOf P e = some z) (hb : i.bytes ≠ 0) (hl : new.length = n) (hfl : Flat ρ i.size new news) (hs : Src P i.size tx yc n news w)
    (hx : VR ρ xa xc) (hC : ∀ f o, f ∈ famOf (some xa) → (∃ g h, ρ f g = some h) → H.t.get f = some o → C f = some o)
    (h : appA e i.size i.bytes n new H xa = .ok v H') : ∃ cv w', (Builtin.append_ #[t, tx] ty #[xc, yc]).run P w = .ok cv w' ∧ Post ρ C w H v H' cv w' := by
  cases n with
  | zero =>
    have hn0 : news = [] := by
      have := hfl.len
      rw [hl, Nat.zero_mul] at this
      exact List.eq_nil_of_length_eq_zero this
    subst hn0
    have h : onSlice xa (Res.err 31) (Res.ok xa H) (fun _ _ _ _ _ => Res.ok xa H) = Res.ok v H' := h
    replace h := onSlice_ok h
    have hk := hs.kind
    have fin : ∀ base l c, xc = .slice base l c → l ≤ c → (Builtin.append_ #[t, tx] ty #[xc, yc]).run P w = .ok xc w := by
      intro base l c e hlc
      subst e
      have h2 := hs.cells
      rcases hk with ⟨e', hk⟩ | hk <;> cases base <;> simp [Builtin.append_, run_underlying ht, run_underlying hk, sizeOf, typeInfo, hi, hs.len, hlc, h2, storeCells]
    rcases h with ⟨rfl, h⟩ | ⟨f, g, o1, l, es, rfl, h⟩
    · cases h
      have hx2 := hx
      simp only [VR] at hx
      exact ⟨xc, w, fin _ _ _ hx (Nat.le_refl _), Post.pure hR hx2⟩
    · cases h
      have hx2 := hx
      simp only [VR] at hx
      obtain ⟨hm, ad, cap, hh, rfl, hlc, hsl⟩ := hx
      exact ⟨_, w, fin _ _ _ rfl hlc, Post.pure hR hx2⟩
  | succ n =>
    have h : onSlice xa (Res.err 34) (appNil e i.size i.bytes (n + 1) new H) (appRow e i.size i.bytes (n + 1) new H) = Res.ok v H' := h
    replace h := onSlice_ok h
    rcases h with ⟨rfl, h⟩ | ⟨f, g, o1, l, es, rfl, h⟩
    · simp only [VR] at hx
      subst hx
      exact nil_sound hR hF ht hi hz hb (Nat.succ_pos _) hl hfl hs h
    · exact row_sound hR ht hi hz hb (Nat.succ_pos _) hl hfl hs hx (fun o => hC f o (by simp [famOf])) h
theorem app_sound (hA : AR P ρ nt E a) (hR : R ρ C w) (hF : Free ρ H.next H'.next) {c : Call} {x y : Operand} {x' y' : Opd} {t u e e2 : TypeId} {i : TypeInfo} {z : List AVal}
    (ho : o.op = .call c) (hc : c.callee = .builtin .append) (hargs : c.args = #[x, y]) (hx : opdOf P x = some x') (hy : opdOf P y = some y') (h0 : c.argTypes[0]? = some t) (h1 : c.argTypes[1]? = some u)
    (ht : P.underlying t = some (.slice e)) (hu : P.underlying u = some (.slice e2)) (hi : P.info? e = some i) (hz : zeroOf P e = some z) (hb : i.bytes ≠ 0)
    (hC : ∀ f o, f ∈ famOf (x'.ev E) ++ famOf (y'.ev E) → (∃ g h, ρ f g = some h) → H.t.get f = some o → C f = some o)
    (h : eApp e i.size i.bytes x' y' E H = .ok v H') : OpOk P o a w (Post ρ C w H v H') := by
  replace h := withO_ok h; obtain ⟨xa, hxa, h⟩ := h
  replace h := withO_ok h; obtain ⟨ya, hya, h⟩ := h
  have hvx := hA.opd hx hxa
  have hvy := hA.opd hy hya
  obtain ⟨i', zv, hi', hzv, _, _, _, hpos, hzs⟩ := zeroOf_ok hz
  rw [hi] at hi'
  cases hi'
  have hCx : ∀ f o, f ∈ famOf (some xa) → (∃ g h, ρ f g = some h) → H.t.get f = some o → C f = some o := fun f o hf => hC f o (by rw [hxa]; exact List.mem_append_left _ hf)
  have done : ∀ {n : Nat} {new : List (List AVal)} {news : List Value}, new.length = n → Flat ρ i.size new news → Src P i.size u (a.eval y) n news w → appA e i.size i.bytes n new H xa = .ok v H' → OpOk P o a w (Post ρ C w H v H') := by
    intro n new news hl hfl hs h
    obtain ⟨cv, w', hrun, hp⟩ := appA_sound hR hF (ty := o.type) ht hi hz hb hl hfl hs hvx hCx h
    refine .inl ⟨cv, w', ?_, hp⟩
    simp [execOp, ho, resolve, hc, hargs, invoke, builtin, append_types h0 h1, hrun]
  replace h := onSlice_ok h
  rcases h with ⟨rfl, h⟩ | ⟨f, g, o1, l, es, rfl, h⟩
  · simp only [VR] at hvy
    refine done (new := []) (news := []) rfl ⟨by simp, (fun _ hu => by cases hu), (fun i x hx => by simp at hx)⟩ ?_ h
    rw [hvy]
    exact Src.ofNil w hu 0
  · replace h := ob_ok h; obtain ⟨new, hnew, h⟩ := h
    simp only [VR] at hvy
    obtain ⟨hm, ad, cap, hh, hvy, hlc, hsl⟩ := hvy
    obtain ⟨hlen, news, hfl, hcells⟩ := Flat.of_elems hR hnew (fun o => hC f o (by rw [hya]; exact List.mem_append_right _ (by simp [famOf])) ⟨_, _, hh⟩) hh hpos
    rcases hsl with ⟨rfl, hsl⟩ | ⟨hl0, hc0, hsl⟩
    · refine done hlen hfl ?_ h
      rw [hvy]
      refine Src.ofSlice w hu _ l cap news (by rw [hfl.len, hlen]) (fun j u hu => ?_) hfl.one
      rw [Addr.add_lit]
      exact hcells j u hu
    · subst hl0
      have hn0 : news = [] := by
        have := hfl.len
        rw [hlen, Nat.zero_mul] at this
        exact List.eq_nil_of_length_eq_zero this
      subst hn0
      refine done hlen hfl ?_ h
      rw [hvy]
      exact Src.ofSlice w hu _ 0 cap [] (by simp) (fun j u hu => by simp at hu) (fun _ hu => by cases hu)
theorem bytesL_get : ∀ (l : List UInt8) (i : Nat) (x : List AVal), (bytesL l.length (pack l))[i]? = some x → ∃ b, l[i]? = some b ∧ x = [.int .u8 b.toNat]
  | [], i, x, h => by
    have h : ([] : List (List AVal))[i]? = some x := h
    simp at h
  | b :: r, i, x, h => by
    have step : bytesL (b :: r).length (pack (b :: r)) = [AVal.int .u8 (Int.ofNat (Nat.mod (pack (b :: r)) 256))] :: bytesL r.length (Nat.div (pack (b :: r)) 256) := rfl
    have hb : b.toNat < 256 := b.toNat_lt
    have e1 : Nat.mod (pack (b :: r)) 256 = b.toNat := by show (b.toNat + 256 * pack r) % 256 = _; omega
    have e2 : Nat.div (pack (b :: r)) 256 = pack r := by show (b.toNat + 256 * pack r) / 256 = _; omega
    rw [step, e1, e2] at h
    cases i with
    | zero => simp at h; exact ⟨b, rfl, h.symm⟩
    | succ i => obtain ⟨b', h1, h2⟩ := bytesL_get r i x (by simpa using h); exact ⟨b', by simpa using h1, h2⟩
theorem bytesL_length : ∀ (l v : Nat), (bytesL l v).length = l
  | 0, _ => rfl
  | l + 1, v => by
    have step : bytesL (l + 1) v = [AVal.int .u8 (Int.ofNat (Nat.mod v 256))] :: bytesL l (Nat.div v 256) := rfl
    rw [step, List.length_cons, bytesL_length]
theorem Flat.bytes (s : ByteArray) : Flat ρ 1 (bytesL s.size (pack s.data.toList)) (byteCells s) := by
  have hsz : s.size = s.data.toList.length := by rw [Array.length_toList]; rfl
  refine ⟨by rw [byteCells_length, bytesL_length, Nat.mul_one], fun u hu => ?_, fun i x hx => ?_⟩
  · obtain ⟨_, _, rfl⟩ := List.mem_map.1 hu
    rfl
  · rw [hsz] at hx
    obtain ⟨b, hb, rfl⟩ := bytesL_get _ _ _ hx
    refine ⟨rfl, fun j y hy => ?_⟩
    have hj := lt_of_get hy
    simp at hj
    subst hj
    simp at hy
    subst hy
    refine ⟨rfl, .int .u8 b.toNat, ?_, by simp only [VR]⟩
    rw [Nat.mul_one, Nat.add_zero]
    simp only [byteCells, List.getElem?_map, hb, Option.map_some]
theorem appStr_sound (hA : AR P ρ nt E a) (hR : R ρ C w) (hF : Free ρ H.next H'.next) {c : Call} {x y : Operand} {x' y' : Opd} {t u e : TypeId} {i : TypeInfo} {z : List AVal}
    (ho : o.op = .call c) (hc : c.callee = .builtin .append) (hargs : c.args = #[x, y]) (hx : opdOf P x = some x') (hy : opdOf P y = some y') (h0 : c.argTypes[0]? = some t) (h1 : c.argTypes[1]? = some u)
    (ht : P.underlying t = some (.slice e)) (hu : P.underlying u = some .string) (hi : P.info? e = some i) (hz : zeroOf P e = some z) (hs1 : i.size = 1) (hb1 : i.bytes = 1)
    (hC : ∀ f o, f ∈ famOf (x'.ev E) → (∃ g h, ρ f g = some h) → H.t.get f = some o → C f = some o)
    (h : eAppStr e x' y' E H = .ok v H') : OpOk P o a w (Post ρ C w H v H') := by
  replace h := withO_ok h; obtain ⟨xa, hxa, h⟩ := h
  replace h := withO_ok h; obtain ⟨ya, hya, h⟩ := h
  replace h := onStr_ok h; obtain ⟨l, s, rfl, h⟩ := h
  have hvx := hA.opd hx hxa
  have hvy := hA.opd hy hya
  simp only [VR] at hvy
  obtain ⟨b, hvy, rfl, rfl⟩ := hvy
  have hfl := Flat.bytes (ρ := ρ) b
  have hsrc := Src.ofString (P := P) w hu b
  rw [← hs1] at hfl hsrc
  have h : appA e i.size i.bytes b.size (bytesL b.size (pack b.data.toList)) H xa = .ok v H' := by rw [hs1, hb1]; exact h
  obtain ⟨cv, w', hrun, hp⟩ := appA_sound hR hF (ty := o.type) ht hi hz (by omega) (bytesL_length _ _) hfl hsrc hvx (fun f o hf => hC f o (by rw [hxa]; exact hf)) h
  refine .inl ⟨cv, w', ?_, hp⟩
  simp [execOp, ho, resolve, hc, hargs, invoke, builtin, append_types h0 h1, hvy, hrun]
end
end Go.Ev
namespace Go.Ev
section
variable {P : Program} {ρ : Ho} {nt : Nat} {E : Env} {a : Act} {C : Nat → Option AObj} {w : World} {H H' : AHeap} {v : AVal} {o : Oper} {call : CallF}
def putCells (cells : Array Value) (off : Nat) (v : Array Value) : Array Value := v.zipIdx.foldl (fun cs (c, j) => cs.setIfInBounds (off + j) c) cells
theorem putCells_size (cells : Array Value) (off : Nat) (v : Array Value) : (putCells cells off v).size = cells.size := by
  unfold putCells
  rw [← Array.foldl_toList, Array.toList_zipIdx]
  exact (Great.foldl_set off v.toList 0 cells).1
theorem putCells_get (cells : Array Value) (off : Nat) (v : Array Value) (k : Nat) : (putCells cells off v)[k]? = if off ≤ k ∧ k < off + v.size ∧ k < cells.size then v[k - off]? else cells[k]? := by
  unfold putCells
  rw [← Array.foldl_toList, Array.toList_zipIdx]
  rw [(Great.foldl_set off v.toList 0 cells).2 k]
  simp
theorem fill_step {place : Nat → Option (Nat × Nat)} {cells : Array Value} {i off size : Nat} {v : Value} {rest : List (Nat × Value)} (hp : place i = some (off, size)) (hs : v.cells.size = size) (hl : off + size ≤ cells.size) :
    Instr.fill place cells ((i, v) :: rest) = Instr.fill place (putCells cells off v.cells) rest := by
  rw [Instr.fill]
  simp only [hp, hs]
  rw [if_neg (by simp; omega)]
  rfl
theorem splice_ok {z new : List AVal} {off : Nat} (hz : z.all okCell = true) (hn : new.all okCell = true) : (splice z off new).all okCell = true := by
  unfold splice
  simp only [List.all_eq_true, List.mem_append] at *
  rintro x (hx | hx | hx)
  · exact hz x (List.mem_of_mem_take hx)
  · exact hn x hx
  · exact hz x (List.mem_of_mem_drop hx)
theorem fill_ok (hA : AR P ρ nt E a) {place : Nat → Option (Nat × Nat)} : ∀ {ps : List (Nat × Operand)} {ips : List (Nat × Nat × Opd)} (_ : partsP P place ps = some ips) (z : List AVal) (cells : Array Value) (acs : List AVal),
    (∀ p ∈ ips, p.1 + p.2.1 ≤ z.length) → VRs ρ z cells.toList → z.all okCell = true → buildA E ips z = some acs → ∃ cells', Instr.fill place cells (ps.map fun p => (p.1, a.eval p.2)) = some cells' ∧ VRs ρ acs cells'.toList ∧ acs.all okCell = true
  | [], ips, hp, z, cells, acs, _, hv, hk, h => by
    cases hp
    cases h
    exact ⟨cells, rfl, hv, hk⟩
  | (i, x) :: r, ips, hp, z, cells, acs, hle, hv, hk, h => by
    unfold partsP at hp
    split at hp
    · rename_i q y l hq hy hl
      cases hp
      have h : ob (y.ev E) none (fun v => ob (cellsOk v) none fun new => chk (Nat.beq (lenL new) q.2) (buildA E l (splice z q.1 new)) none) = some acs := h
      cases hu : y.ev E with
      | none => rw [hu] at h; cases h
      | some u =>
        rw [hu] at h
        cases hc : cellsOk u with
        | none => simp only [ob] at h; rw [hc] at h; cases h
        | some new =>
          have h : ob (cellsOk u) none (fun new => chk (Nat.beq (lenL new) q.2) (buildA E l (splice z q.1 new)) none) = some acs := h
          rw [hc] at h
          have h : chk (Nat.beq (lenL new) q.2) (buildA E l (splice z q.1 new)) none = some acs := h
          cases hb : Nat.beq (lenL new) q.2
          · rw [hb] at h; cases h
          · rw [hb, chk_true] at h
            have hb := Nat.eq_of_beq_eq_true hb
            rw [lenL_eq] at hb
            have h1 := (hA.opd hy hu).cells hc
            have hsz : (a.eval x).cells.size = new.length := by have := h1.1.length; simpa using this
            have hzl : cells.size = z.length := by have := hv.length; simpa using this
            have hle1 := hle (q.1, q.2, y) (List.mem_cons_self ..)
            have hle1 : q.1 + q.2 ≤ z.length := hle1
            have hsl := splice_length (l := z) (new := new) (r := q.1) (n := q.2) hle1 hb
            obtain ⟨cells', k1, k2, k3⟩ := fill_ok hA hl (splice z q.1 new) (putCells cells q.1 (a.eval x).cells) acs (fun p hp => by rw [hsl]; exact hle p (List.mem_cons_of_mem _ hp)) (VRs.of_get (by simp [putCells_size, hsl, hzl]) fun k av hk => by
                rw [splice_get hle1 hb] at hk
                simp only [Array.getElem?_toList, putCells_get, hsz]
                split at hk
                · rename_i hin
                  rw [if_pos (by omega)]
                  obtain ⟨cv, g1, g2⟩ := h1.1.get _ av hk
                  exact ⟨cv, by simpa using g1, g2⟩
                · rename_i hin
                  rw [if_neg (by omega)]
                  obtain ⟨cv, g1, g2⟩ := hv.get _ av hk
                  exact ⟨cv, by simpa using g1, g2⟩) (splice_ok hk h1.2) h
            refine ⟨cells', ?_, k2, k3⟩
            rw [List.map_cons, fill_step (off := q.1) (size := q.2) hq (hsz.trans hb) (by rw [hzl]; exact hle1)]
            exact k1
    · cases hp
theorem built_sound (hA : AR P ρ nt E a) (hR : R ρ C w) {t : TypeId} {parts : Array (Nat × Operand)} {place : Nat → Option (Nat × Nat)} {z : List AVal} {cells : Array Value} {io : Ins} (ho : o.op = .build t parts)
    (hz : VRs ρ z cells.toList) (hk : z.all okCell = true) (hb : ∀ vs, Instr.fill place cells vs = P.built t vs) (hio : mkBuild z (partsP P place parts.toList) = some io) (h : io.ev call E H = .ok v H') : OpOk P o a w (Post ρ C w H v H') := by
  unfold mkBuild at hio
  split at hio
  · rename_i l hl
    split at hio
    · rename_i hall
      cases hio
      have h : ob (buildA E l z) (.err 23) (fun cs => Res.ok (.agg cs) H) = .ok v H' := h
      replace h := ob_ok h
      obtain ⟨acs, hacs, h⟩ := h
      cases h
      obtain ⟨cells', k1, k2, k3⟩ := fill_ok hA hl z cells acs (fun p hp => by
        have := List.all_eq_true.1 hall p hp
        simpa using this) hz hk hacs
      refine ok_value (cv := .agg cells') ?_ hR (by simp only [VR]; exact ⟨cells', rfl, k2, k3⟩)
      have := run_build (P := P) w t (parts.map fun (i, x) => (i, a.eval x)) cells' (by rw [← hb, ← k1]; simp)
      simp [execOp, ho, this]
    · cases hio
  · cases hio
theorem build_sound (hA : AR P ρ nt E a) (hR : R ρ C w) {t : TypeId} {parts : Array (Nat × Operand)} {io : Ins} (ho : o.op = .build t parts) (hio : buildOf P t parts.toList = some io) (h : io.ev call E H = .ok v H') : OpOk P o a w (Post ρ C w H v H') := by
  unfold buildOf at hio
  split at hio
  · rename_i z hz
    obtain ⟨i, zv, hi, hzv, hv, hk, _, _, _⟩ := zeroOf_ok hz
    split at hio
    · rename_i fs hu
      split at hio
      · rename_i places hp
        exact built_sound hA hR ho (hv ρ) hk (fun vs => by simp [Program.built, hi, hu, hzv, hp]) hio h
      · cases hio
    · rename_i n e hu
      split at hio
      · rename_i ie hie
        exact built_sound hA hR ho (hv ρ) hk (fun vs => by simp [Program.built, hi, hu, hzv, hie]) hio h
      · cases hio
    · cases hio
  · cases hio
def Fl (ρ : Ho) (n es : Nat) (t : RT) (cells : Array Value) : Prop :=
  ∀ i, i < n → ∃ l, t.get i = some l ∧ l.length = es ∧ ∀ j x, l[j]? = some x → okCell x = true ∧ ∃ cv, cells[i * es + j]? = some cv ∧ VR ρ x cv
theorem repTr_get (x : List AVal) (i : Nat) : ∀ n, (repTr x n).get i = if i < n then some x else none
  | 0 => rfl
  | n + 1 => by
    show ((repTr x n).set n x).get i = _
    rw [RT.get_set, repTr_get x i n]
    by_cases h : i = n
    · rw [if_pos h, if_pos (by omega)]
    · rw [if_neg h]
      by_cases h2 : i < n
      · rw [if_pos h2, if_pos (by omega)]
      · rw [if_neg h2, if_neg (by omega)]
theorem madeCells_get {z : Array Value} {es i j N : Nat} (hz : z.size = es) (hj : j < es) (hN : i * es + j < N) : (madeCells z N)[i * es + j]? = z[j]? := by
  unfold madeCells
  rw [Array.getElem?_map, Array.getElem?_range, if_pos hN]
  have e : (i * es + j) % z.size = j := by rw [hz, Nat.add_comm, Nat.add_mul_mod_self_right, Nat.mod_eq_of_lt hj]
  simp only [Option.map_some, e]
  rw [getElem!_pos z j (by omega), Array.getElem?_eq_getElem (by omega)]
theorem made_fl {z : List AVal} {zc : Array Value} {es n N : Nat} (hv : VRs ρ z zc.toList) (hk : z.all okCell = true) (hl : z.length = es) (hN : n * es ≤ N) : Fl ρ n es (repTr z n) (madeCells zc N) := by
  intro i hi
  refine ⟨z, by rw [repTr_get, if_pos hi], hl, fun j x hx => ⟨List.all_eq_true.1 hk x (List.mem_of_getElem? hx), ?_⟩⟩
  obtain ⟨cv, h1, h2⟩ := hv.get j x hx
  have hj : j < es := by rw [← hl]; exact (List.getElem?_eq_some_iff.1 hx).1
  have hzs : zc.size = es := by have := hv.length; rw [← hl]; simpa using this
  have hlt : i * es + es ≤ n * es := by have := Nat.mul_le_mul_right es (show i + 1 ≤ n by omega); rwa [Nat.succ_mul] at this
  exact ⟨cv, by rw [madeCells_get hzs hj (by omega)]; simpa using h1, h2⟩
theorem fillSl_ok (hA : AR P ρ nt E a) {es ln : Nat} : ∀ {ps : List (Nat × Operand)} {ips : List (Nat × Opd)} (_ : partsSl P ps = some ips) (t t' : RT) (cells : Array Value), cells.size = ln * es → Fl ρ ln es t cells → buildTr E es ln ips t = some t' →
    ∃ cells', Instr.fill (fun i => some (i * es, es)) cells (ps.map fun p => (p.1, a.eval p.2)) = some cells' ∧ cells'.size = ln * es ∧ Fl ρ ln es t' cells'
  | [], ips, hp, t, t', cells, hs, hf, h => by
    cases hp
    cases h
    exact ⟨cells, rfl, hs, hf⟩
  | (i, x) :: r, ips, hp, t, t', cells, hs, hf, h => by
    unfold partsSl at hp
    split at hp
    · rename_i y l hy hl
      cases hp
      have h : ob (y.ev E) none (fun v => ob (cellsOk v) none fun new => chk (Nat.beq (lenL new) es) (chk (Nat.ble (Nat.succ i) ln) (buildTr E es ln l (t.set i new)) none) none) = some t' := h
      cases hu : y.ev E with
      | none => rw [hu] at h; cases h
      | some u =>
        rw [hu] at h
        have h : ob (cellsOk u) none (fun new => chk (Nat.beq (lenL new) es) (chk (Nat.ble (Nat.succ i) ln) (buildTr E es ln l (t.set i new)) none) none) = some t' := h
        cases hc : cellsOk u with
        | none => rw [hc] at h; cases h
        | some new =>
          rw [hc] at h
          have h : chk (Nat.beq (lenL new) es) (chk (Nat.ble (Nat.succ i) ln) (buildTr E es ln l (t.set i new)) none) none = some t' := h
          cases hb : Nat.beq (lenL new) es
          · rw [hb] at h; cases h
          · rw [hb, chk_true] at h
            cases hb2 : Nat.ble (Nat.succ i) ln
            · rw [hb2] at h; cases h
            · rw [hb2, chk_true] at h
              have hb := Nat.eq_of_beq_eq_true hb
              rw [lenL_eq] at hb
              have hb2 : i + 1 ≤ ln := Nat.le_of_ble_eq_true hb2
              have h1 := (hA.opd hy hu).cells hc
              have hsz : (a.eval x).cells.size = new.length := by have := h1.1.length; simpa using this
              have mono : ∀ {p q : Nat}, p + 1 ≤ q → p * es + es ≤ q * es := fun {p q} h => by have := Nat.mul_le_mul_right es h; rwa [Nat.succ_mul] at this
              have hin := mono hb2
              obtain ⟨cells', k1, k2, k3⟩ := fillSl_ok hA hl (t.set i new) t' (putCells cells (i * es) (a.eval x).cells) (by rw [putCells_size, hs]) (fun k hk => by
                rw [RT.get_set]
                by_cases hki : k = i
                · subst hki
                  rw [if_pos rfl]
                  refine ⟨new, rfl, hb, fun j av hj => ⟨List.all_eq_true.1 h1.2 av (List.mem_of_getElem? hj), ?_⟩⟩
                  obtain ⟨cv, g1, g2⟩ := h1.1.get j av hj
                  have hjl : j < es := by rw [← hb]; exact (List.getElem?_eq_some_iff.1 hj).1
                  refine ⟨cv, ?_, g2⟩
                  rw [putCells_get, if_pos (by omega), Nat.add_sub_cancel_left]
                  simpa using g1
                · rw [if_neg hki]
                  obtain ⟨l0, g1, g2, g3⟩ := hf k hk
                  refine ⟨l0, g1, g2, fun j av hj => ?_⟩
                  obtain ⟨m1, cv, m2, m3⟩ := g3 j av hj
                  have hjl : j < es := by rw [← g2]; exact (List.getElem?_eq_some_iff.1 hj).1
                  refine ⟨m1, cv, ?_, m3⟩
                  rw [putCells_get, if_neg ?_]
                  · exact m2
                  · rcases Nat.lt_or_gt_of_ne hki with hlt | hgt
                    · have := mono (show k + 1 ≤ i from hlt); omega
                    · have := mono (show i + 1 ≤ k from hgt); omega) h
              refine ⟨cells', ?_, k2, k3⟩
              rw [List.map_cons, fill_step (off := i * es) (size := es) rfl (hsz.trans hb) (by rw [hs]; exact hin)]
              exact k1
    · cases hp
theorem newSlice (hR : R ρ C w) (hF : Free ρ H.next (H.next + 1)) {e es bts n cap : Nat} {t : RT} {cells : Array Value} (he : 0 < es) (hcap : n ≤ cap) (hs : cells.size = cap * es) (hfl : Fl ρ n es t cells) {w' : World} (hw : w'.heap = w.heap.push (.cells cells e))
    (h1 : w'.os = w.os) (h2 : w'.tape = w.tape) (h3 : w'.output = w.output) : Post ρ C w H (.slice H.next n 0 n es) ⟨H.next + 1, H.mrk, H.ws, H.t.set H.next (.row e es bts n n 0 t)⟩ (.slice (some ⟨w.heap.size, 0, none⟩) n cap) w' := by
  obtain ⟨ρ', g1, g2, g3⟩ := hR.alloc (f := H.next) (elem := e) (es := es) (bts := bts) (n := n) (cs := t) (cells := cells) (w' := w')
    (Wr ⟨H.next + 1, H.mrk, H.ws, H.t.set H.next (.row e es bts n n 0 t)⟩) (fun g => hF _ g (Nat.le_refl _) (Nat.lt_succ_self _)) he (by rw [hs]; exact Nat.mul_le_mul_right _ hcap) hfl hw h1 h2 h3
  refine ⟨ρ', ?_, g2, ?_⟩
  · simp only [VR]
    refine ⟨_, _, _, g1, rfl, hcap, .inl ⟨rfl, ?_⟩⟩
    simp only
    rw [hs, Nat.zero_add]
    exact Nat.le_refl _
  · rw [upd_alloc]
    exact g3
theorem buildSl_sound (hA : AR P ρ nt E a) (hR : R ρ C w) (hF : Free ρ H.next H'.next) {t : TypeId} {ln : Nat} {parts : Array (Nat × Operand)} {io : Ins} (ho : o.op = .buildSlice t ln parts) (hio : buildSlOf P t ln parts.toList = some io)
    (h : io.ev call E H = .ok v H') : OpOk P o a w (Post ρ C w H v H') := by
  unfold buildSlOf at hio
  split at hio
  · rename_i e hu
    split at hio
    · rename_i i z hi hz
      split at hio
      · rename_i l hl
        split at hio
        · rename_i hle
          cases hio
          have h : ob (buildTr E i.size ln l (repTr z ln)) (.err 24) (fun t => H.alloc (.row e i.size i.bytes ln ln 0 t) fun f H => .ok (.slice f ln 0 ln i.size) H) = .ok v H' := h
          replace h := ob_ok h
          obtain ⟨tr, htr, h⟩ := h
          have h := alloc_ok h
          cases h
          obtain ⟨i', zv, hi', hzv, hv, hk, hzl, hpos, hzs⟩ := zeroOf_ok hz
          rw [hi] at hi'
          cases hi'
          obtain ⟨cells', k1, k2, k3⟩ := fillSl_ok hA hl (repTr z ln) tr (madeCells zv.cells (ln * i.size)) (size_madeCells _ _) (made_fl (hv ρ) hk hzl (Nat.le_refl _)) htr
          refine .inl ⟨_, w.alloc (.cells cells' e), ?_, newSlice hR hF hpos (Nat.le_refl _) k2 k3 rfl rfl rfl rfl⟩
          have hf : Instr.fill (fun j => some (j * i.size, i.size)) ((Array.range (ln * i.size)).map (zv.cells[· % zv.cells.size]!)) (parts.map fun (i, x) => (i, a.eval x)).toList = some cells' := by
            rw [← k1]; simp [madeCells]
          by_cases h0 : ln * i.size = 0
          · have e0 : (Array.range 0).map (zv.cells[· % zv.cells.size]!) = #[] := by rw [show Array.range 0 = #[] from rfl]; exact Array.map_empty ..
            rw [h0, e0] at hf
            have hf0 : Instr.fill (fun j => some (j * i.size, i.size)) #[] (parts.toList.map fun x => (x.1, a.eval x.2)) = some cells' := by rw [← hf]; simp
            simp [execOp, ho, Instr.buildSlice, run_underlying hu, sizeOf, typeInfo, hi, h0, newRow, hf0, show Array.range 0 = #[] from rfl]
          · have hle2 : ¬ (2 ^ 24 < ln * i.size) := by omega
            simp at hf hle2
            simp [execOp, ho, Instr.buildSlice, run_underlying hu, sizeOf, typeInfo, hi, hle2, h0, zeroValue, hzv, hf, newRow]
        · cases hio
      · cases hio
    · cases hio
  · cases hio
theorem mksl_sound (hA : AR P ρ nt E a) (hR : R ρ C w) (hF : Free ρ H.next H'.next) {t : TypeId} {x y : Operand} {x' y' : Opd} {io : Ins} (ho : o.op = .makeSlice t x y) (hx : opdOf P x = some x') (hy : opdOf P y = some y') (hio : mkslOf P t x' y' = some io)
    (h : io.ev call E H = .ok v H') : OpOk P o a w (Post ρ C w H v H') := by
  unfold mkslOf at hio
  split at hio
  · rename_i e hu
    split at hio
    · rename_i i z hi hz
      split at hio
      · rename_i hb
        cases hio
        have h : eMksl e i.size i.bytes z x' y' E H = .ok v H' := h
        replace h := withO_ok h; obtain ⟨u, hu1, h⟩ := h
        replace h := onInt_ok h; obtain ⟨kl, l0, rfl, h⟩ := h
        replace h := onNat_ok h; obtain ⟨l, rfl, h⟩ := h
        replace h := withO_ok h; obtain ⟨u2, hu2, h⟩ := h
        replace h := onInt_ok h; obtain ⟨kc, c0, rfl, h⟩ := h
        replace h := onNat_ok h; obtain ⟨c, rfl, h⟩ := h
        replace h := chk_ok h; obtain ⟨g1, h⟩ := h
        replace h := chk_ok h; obtain ⟨g2, h⟩ := h
        replace h := chk_ok h; obtain ⟨g3, h⟩ := h
        rw [repC_eq] at h
        have h := alloc_ok h
        cases h
        have g1 := Nat.le_of_ble_eq_true g1
        have g2 : c * i.bytes ≤ 70368744177664 := Nat.le_of_ble_eq_true g2
        have g3 := Nat.le_of_ble_eq_true g3
        obtain ⟨i', zv, hi', hzv, hv, hk, hzl, hpos, hzs⟩ := zeroOf_ok hz
        rw [hi] at hi'
        cases hi'
        have e1 := hA.opd hx hu1
        have e2 := hA.opd hy hu2
        simp only [VR] at e1 e2
        have hrun := run_make (P := P) w t e i zv hu hi hzv kl kc (l : Int) (c : Int) (Int.natCast_nonneg l) (Int.ofNat_le.2 g1) (by
          have : ((i.bytes * c : Nat) : Int) ≤ ((281474976710656 : Nat) : Int) := Int.ofNat_le.2 (by rw [Nat.mul_comm]; omega)
          rw [Int.natCast_mul] at this
          exact this) (by omega)
        simp only [Int.toNat_natCast] at hrun
        refine .inl ⟨_, w.alloc (.cells (madeCells zv.cells (c * i.size)) e), ?_, newSlice hR hF hpos g1 (size_madeCells _ _) (made_fl (hv ρ) hk hzl (Nat.mul_le_mul_right _ g1)) rfl rfl rfl rfl⟩
        rw [show (execOp a.eval o) = _ from rfl]
        simp only [execOp, ho, e1, e2]
        simp only [Sem.run_bind, hrun, Result.andThen_ok]
        rfl
      · cases hio
    · cases hio
  · cases hio
end
end Go.Ev
namespace Go.Ev
section
variable {P : Program} {ρ : Ho} {nt : Nat} {E : Env} {a : Act} {C : Nat → Option AObj} {w : World} {H H' : AHeap} {v : AVal} {o : Oper} {call : CallF}
theorem seqBool_eq (b : Bool) (k : Bool → Res) : seqBool b k = k b := by cases b <;> rfl
set_option maxHeartbeats 1000000 in
theorem eqA_ok (dp : Nat) {c : EqC} {t : TypeId} {d : TypeDesc} (hd : P.underlying t = some d) (hcd : eqCOf P d = some c) {x y : AVal} {cx cy : Value} (h1 : VR ρ x cx) (h2 : VR ρ y cy) {r : Bool} (h : eqA c x y = some r) :
    (Op.equalIn (dp + 1) t cx cy).run P w = .ok r w ∧ (∀ k n, cx ≠ .int k n) ∧ (∀ b, cx ≠ .string b) ∧ (∀ k n, cx ≠ .float k n) ∧ (∀ k n m, cx ≠ .complex k n m) ∧ (∀ cs, cx ≠ .agg cs) ∧ (cx = .nilIface → ∃ ms, d = .interface ms) := by
  unfold eqCOf at hcd
  split at hcd
  · cases hcd
    unfold eqA at h
    simp only at h
    split at h
    · simp only [VR] at h1 h2
      subst h1; subst h2
      cases h
      exact ⟨by simp [Op.equalIn, run_underlying hd], by simp, by simp, by simp, by simp, by simp, by simp⟩
    · cases h
  · rename_i e
    split at hcd
    · rename_i ie hie
      cases hcd
      unfold eqA at h
      simp only at h
      split at h
      · simp only [VR] at h1 h2
        subst h1; subst h2; cases h
        exact ⟨by simp [Op.equalIn, run_underlying hd], by simp, by simp, by simp, by simp, by simp, by simp⟩
      · simp only [VR] at h1 h2
        obtain ⟨_, _, rfl⟩ := h2
        subst h1; cases h
        exact ⟨by simp [Op.equalIn, run_underlying hd], by simp, by simp, by simp, by simp, by simp, by simp⟩
      · simp only [VR] at h1 h2
        obtain ⟨_, _, rfl⟩ := h1
        subst h2; cases h
        exact ⟨by simp [Op.equalIn, run_underlying hd], by simp, by simp, by simp, by simp, by simp, by simp⟩
      · rename_i f g o f' g' o'
        cases b1 : Nat.beq f f'
        · rw [b1] at h; cases h
        · rw [b1, chk_true] at h
          cases b2 : Nat.beq g g'
          · rw [b2] at h; cases h
          · rw [b2, chk_true] at h
            cases b3 : Nat.beq o o'
            · rw [b3] at h; cases h
            · rw [b3, chk_true] at h
              cases h
              have b1 := Nat.eq_of_beq_eq_true b1
              have b2 := Nat.eq_of_beq_eq_true b2
              have b3 := Nat.eq_of_beq_eq_true b3
              subst b1; subst b2; subst b3
              simp only [VR] at h1 h2
              obtain ⟨hm, k1, rfl⟩ := h1
              obtain ⟨hm2, k2, rfl⟩ := h2
              rw [k1] at k2
              cases k2
              exact ⟨by simp [Op.equalIn, run_underlying hd, sizeOf, typeInfo, hie, run_sameAddr_same], by simp, by simp, by simp, by simp, by simp, by simp⟩
      · cases h
    · cases hcd
  · cases hcd
    unfold eqA at h
    simp only at h
    split at h
    · simp only [VR] at h1 h2
      subst h1; subst h2; cases h
      exact ⟨by simp [Op.equalIn, run_underlying hd], by simp, by simp, by simp, by simp, by simp, by simp⟩
    · simp only [VR] at h1 h2
      obtain ⟨_, _, _, _, rfl, _⟩ := h2
      subst h1; cases h
      exact ⟨by simp [Op.equalIn, run_underlying hd], by simp, by simp, by simp, by simp, by simp, by simp⟩
    · simp only [VR] at h1 h2
      obtain ⟨_, _, _, _, rfl, _⟩ := h1
      subst h2; cases h
      exact ⟨by simp [Op.equalIn, run_underlying hd], by simp, by simp, by simp, by simp, by simp, by simp⟩
    · cases h
  · rename_i ms
    cases hcd
    unfold eqA at h
    simp only at h
    split at h
    · simp only [VR] at h1 h2
      subst h1; subst h2; cases h
      exact ⟨by simp [Op.equalIn, run_underlying hd], by simp, by simp, by simp, by simp, by simp, fun _ => ⟨ms, rfl⟩⟩
    · simp only [VR] at h1 h2
      obtain ⟨_, rfl, _⟩ := h2
      subst h1; cases h
      exact ⟨by simp [Op.equalIn, run_underlying hd], by simp, by simp, by simp, by simp, by simp, fun _ => ⟨ms, rfl⟩⟩
    · simp only [VR] at h1 h2
      obtain ⟨_, rfl, _⟩ := h1
      subst h2; cases h
      exact ⟨by simp [Op.equalIn, run_underlying hd], by simp, by simp, by simp, by simp, by simp, by simp⟩
    · rename_i t1 _ t2 _
      cases b1 : Nat.beq t1 t2
      · rw [b1] at h
        cases h
        have hne : t1 ≠ t2 := fun e => by rw [e, Nat.beq_refl] at b1; cases b1
        simp only [VR] at h1 h2
        obtain ⟨_, rfl, _⟩ := h1
        obtain ⟨_, rfl, _⟩ := h2
        exact ⟨by simp [Op.equalIn, run_underlying hd, hne], by simp, by simp, by simp, by simp, by simp, by simp⟩
      · rw [b1] at h; cases h
    · cases h
  · cases hcd
    unfold eqA at h
    simp only at h
    split at h
    · simp only [VR] at h1 h2
      subst h1; subst h2; cases h
      exact ⟨by simp [Op.equalIn, run_underlying hd], by simp, by simp, by simp, by simp, by simp, by simp⟩
    · simp only [VR] at h1 h2
      obtain ⟨_, _, rfl, _⟩ := h2
      subst h1; cases h
      exact ⟨by simp [Op.equalIn, run_underlying hd], by simp, by simp, by simp, by simp, by simp, by simp⟩
    · simp only [VR] at h1 h2
      obtain ⟨_, _, rfl, _⟩ := h1
      subst h2; cases h
      exact ⟨by simp [Op.equalIn, run_underlying hd], by simp, by simp, by simp, by simp, by simp, by simp⟩
    · cases h
  · cases hcd
    unfold eqA at h
    simp only at h
    split at h
    · simp only [VR] at h1 h2
      subst h1; subst h2; cases h
      exact ⟨by simp [Op.equalIn, run_underlying hd], by simp, by simp, by simp, by simp, by simp, by simp⟩
    · simp only [VR] at h2
    · simp only [VR] at h1
    · cases h
  · cases hcd
theorem run_eqGuard_free {op : BinOp} (hop : op = .eql ∨ op = .neq) {t : TypeId} {d : TypeDesc} {x y : Operand} {cx cy : Value} (hd : P.underlying t = some d) (hf : eqFree x y d = true) (h5 : ∀ cs, cx ≠ .agg cs) (h6 : cx = .nilIface → ∃ ms, d = .interface ms) :
    (eqGuard op t x y cx cy).run P w = .ok () w := by
  unfold eqGuard
  rcases hop with rfl | rfl
  · rw [if_neg (by decide)]
    split
    · obtain ⟨ms, rfl⟩ := h6 rfl
      simp only [eqFree, Bool.or_eq_true] at hf
      have e : ∀ dp, (Op.eqGuardIn (dp + 1) t .nilIface .nilIface).run P w = .ok (!ms.isEmpty) w := fun dp => by simp [Op.eqGuardIn, run_underlying hd]
      rcases hf with (hf | hf) | hf
      · cases x <;> cases y <;> simp [Op.maxDepth, e 9999, hf]
      · cases x <;> simp [constOpd] at hf <;> simp
      · cases y <;> simp [constOpd] at hf <;> simp
    · exact absurd rfl (h5 _)
    · rfl
  · rw [if_neg (by decide)]
    split
    · obtain ⟨ms, rfl⟩ := h6 rfl
      simp only [eqFree, Bool.or_eq_true] at hf
      have e : ∀ dp, (Op.eqGuardIn (dp + 1) t .nilIface .nilIface).run P w = .ok (!ms.isEmpty) w := fun dp => by simp [Op.eqGuardIn, run_underlying hd]
      rcases hf with (hf | hf) | hf
      · cases x <;> cases y <;> simp [Op.maxDepth, e 9999, hf]
      · cases x <;> simp [constOpd] at hf <;> simp
      · cases y <;> simp [constOpd] at hf <;> simp
    · exact absurd rfl (h5 _)
    · rfl
theorem eqv_sound (hA : AR P ρ nt E a) (hR : R ρ C w) {op : BinOp} {t t' : TypeId} {d : TypeDesc} {x z : Operand} {x' z' : Opd} {io : Ins} (ho : o.op = .binOp op t x z t') (hx : opdOf P x = some x') (hz : opdOf P z = some z') (hu : P.underlying t = some d)
    (hio : eqOf P op d x z x' z' = some io) (h : io.ev call E H = .ok v H') : OpOk P o a w (Post ρ C w H v H') := by
  unfold eqOf at hio
  split at hio
  · rename_i c hc
    split at hio
    · rename_i hfree
      have key : ∀ neg, (op = .eql ∧ neg = false) ∨ (op = .neq ∧ neg = true) → eEq c neg x' z' E H = .ok v H' → OpOk P o a w (Post ρ C w H v H') := by
        intro neg hop h
        replace h := withO_ok h; obtain ⟨u, hu1, h⟩ := h
        replace h := withO_ok h; obtain ⟨u2, hu2, h⟩ := h
        replace h := ob_ok h; obtain ⟨r, hr, h⟩ := h
        rw [seqBool_eq] at h
        cases h
        obtain ⟨g0, g1, g2, g3, g4, g5, g6⟩ := eqA_ok (w := w) 9999 hu hc (hA.opd hx hu1) (hA.opd hz hu2) hr
        have hg := run_eqGuard_free (w := w) (op := op) (by rcases hop with ⟨h, _⟩ | ⟨h, _⟩ <;> simp [h]) (x := x) (y := z) (cy := a.eval z) hu hfree g5 g6
        refine ok_value (cv := .bool (Bool.xor neg r)) ?_ hR (by simp only [VR])
        simp only [execOp, ho, Sem.run_bind, hg, Result.andThen_ok]
        generalize a.eval x = cx at *
        generalize a.eval z = cz at *
        rcases hop with ⟨rfl, rfl⟩ | ⟨rfl, rfl⟩
        · have : (binOp .eql t cx cz).run P w = .ok (.bool r) w := by
            cases cx <;> simp only [binOp] <;> first | exact absurd rfl (g1 _ _) | exact absurd rfl (g2 _) | exact absurd rfl (g3 _ _) | exact absurd rfl (g4 _ _ _) | simp [Op.equal, Op.maxDepth, g0]
          simp [this]
        · have : (binOp .neq t cx cz).run P w = .ok (.bool (!r)) w := by
            cases cx <;> simp only [binOp] <;> first | exact absurd rfl (g1 _ _) | exact absurd rfl (g2 _) | exact absurd rfl (g3 _ _) | exact absurd rfl (g4 _ _ _) | simp [Op.equal, Op.maxDepth, g0]
          simp [this]
      cases op <;> simp only [Option.some.injEq, reduceCtorEq] at hio
      · subst hio; exact key false (.inl ⟨rfl, rfl⟩) h
      · subst hio; exact key true (.inr ⟨rfl, rfl⟩) h
    · cases hio
  · cases hio
end
end Go.Ev
namespace Go.Ev
section
variable {P : Program} {ρ : Ho} {nt : Nat} {E : Env} {a : Act} {C : Nat → Option AObj} {w : World} {H H' : AHeap} {v : AVal} {o : Oper} {call : CallF}
theorem convSB_sound (hA : AR P ρ nt E a) (hR : R ρ C w) (hF : Free ρ H.next H'.next) {src dst e : TypeId} {x : Operand} {x' : Opd} (ho : o.op = .convert src dst x) (hx : opdOf P x = some x')
    (hs : P.underlying src = some .string) (hd : P.underlying dst = some (.slice e)) (he : P.underlying e = some (.int .u8)) (h : eConvSB e x' E H = .ok v H') : OpOk P o a w (Post ρ C w H v H') := by
  replace h := withO_ok h; obtain ⟨u, hu, h⟩ := h
  replace h := onStr_ok h; obtain ⟨l, s, rfl, h⟩ := h
  replace h := chk_ok h; obtain ⟨_, h⟩ := h
  rw [fillC_eq] at h
  have h := alloc_ok h
  cases h
  have h1 := hA.opd hx hu
  simp only [VR] at h1
  obtain ⟨b, h1, rfl, rfl⟩ := h1
  have hrun := run_bytes_of_string (P := P) w src dst e b hs hd he
  have hge := grownCap_ge w b.size 0 e
  generalize grownCap w b.size 0 e = cp at *
  have hdl : b.data.toList.length = b.size := Array.length_toList
  have hsz : (bytesRow b cp).size = cp := by
    unfold bytesRow
    simp only [Array.size_append, Array.size_map, Array.size_replicate]
    have : b.data.size = b.size := rfl
    omega
  obtain ⟨ρ', g1, g2, g3⟩ := hR.allocF 3 ((bytesRow b cp).size, (bytesRow b cp).size + 1) (f := H.next) (elem := e) (es := 1) (bts := 1) (n := b.size) (cs := fillTr (bytesL b.size (pack b.data.toList)) .emp 0) (cells := bytesRow b cp)
    (w' := w.drew.alloc (.cells (bytesRow b cp) e ((bytesRow b cp).size, (bytesRow b cp).size + 1)))
    (Wr ⟨H.next + 1, H.mrk, H.ws, H.t.set H.next (.row e 1 1 b.size b.size 3 (fillTr (bytesL b.size (pack b.data.toList)) .emp 0))⟩) (fun g => hF _ g (Nat.le_refl _) (Nat.lt_succ_self _)) (by omega) (by rw [hsz]; omega)
    (fun k hk => by
      rw [fillTr_get, if_pos (by rw [bytesL_length]; omega), Nat.sub_zero]
      have hkl : k < (bytesL b.size (pack b.data.toList)).length := by rw [bytesL_length]; exact hk
      refine ⟨_, List.getElem?_eq_getElem hkl, ?_⟩
      have hget := List.getElem?_eq_getElem hkl
      obtain ⟨y, hy1, hy2⟩ := bytesL_get b.data.toList k _ (by rw [hdl]; exact hget)
      rw [hy2]
      refine ⟨rfl, fun j z hz => ?_⟩
      cases j with
      | succ j => simp at hz
      | zero =>
        simp at hz
        subst hz
        refine ⟨rfl, .int .u8 y.toNat, ?_, by simp only [VR]⟩
        unfold bytesRow
        rw [Array.getElem?_append_left (by rw [Array.size_map]; show k * 1 + 0 < b.size; omega)]
        simp only [Nat.mul_one, Nat.add_zero, Array.getElem?_map]
        rw [Array.getElem?_toList] at hy1
        rw [hy1]; rfl) rfl (fun i hi h => by simp at h; omega) (fun h => by omega) rfl rfl rfl
  refine .inl ⟨.slice (some ⟨w.heap.size, 0, none⟩) b.size cp, w.drew.alloc (.cells (bytesRow b cp) e ((bytesRow b cp).size, (bytesRow b cp).size + 1)), ?_, ρ', ?_, g2, ?_⟩
  · simp only [execOp, ho, h1, Sem.run_bind]
    rw [hrun]
    rfl
  · simp only [VR]
    exact ⟨_, _, _, g1, rfl, hge, .inl ⟨rfl, by simp only; rw [hsz]; omega⟩⟩
  · rw [upd_alloc]; exact g3
theorem unbytes_ok : ∀ {L : List (List AVal)} {s : Nat}, unbytes L = some s → ∃ bl : List UInt8, bl.length = L.length ∧ s = pack bl ∧ ∀ (i : Nat) (b : UInt8), bl[i]? = some b → L[i]? = some [AVal.int .u8 (Int.ofNat b.toNat)]
  | [], s, h => by cases h; exact ⟨[], rfl, rfl, fun i b h => by simp at h⟩
  | c :: r, s, h => by
    cases c with
    | nil => cases h
    | cons x t => cases t with
      | cons y t => cases h
      | nil =>
        have h : onIntN x none (fun k i => chk (Nat.beq (ikN k) 4) (onNat i none fun b => chk (Nat.ble b 255) (ob (unbytes r) none fun v => some (Nat.add b (Nat.mul 256 v))) none) none) = some s := h
        cases x with
        | int k i =>
          have h : chk (Nat.beq (ikN k) 4) (onNat i none fun b => chk (Nat.ble b 255) (ob (unbytes r) none fun v => some (Nat.add b (Nat.mul 256 v))) none) none = some s := h
          cases h1 : Nat.beq (ikN k) 4
          · rw [h1] at h; cases h
          · rw [h1, chk_true] at h
            cases i with
            | negSucc m => cases h
            | ofNat b =>
              have h : chk (Nat.ble b 255) (ob (unbytes r) none fun v => some (Nat.add b (Nat.mul 256 v))) none = some s := h
              cases h2 : Nat.ble b 255
              · rw [h2] at h; cases h
              · rw [h2, chk_true] at h
                cases h3 : unbytes r with
                | none => rw [h3] at h; cases h
                | some v =>
                  rw [h3] at h
                  cases h
                  obtain ⟨bl, g1, g2, g3⟩ := unbytes_ok h3
                  have h1 := Nat.eq_of_beq_eq_true h1
                  have h2 := Nat.le_of_ble_eq_true h2
                  have hk : k = .u8 := by cases k <;> simp [ikN] at h1 <;> rfl
                  subst hk
                  have hb : (UInt8.ofNat b).toNat = b := by rw [UInt8.toNat_ofNat']; omega
                  refine ⟨UInt8.ofNat b :: bl, by simp [g1], ?_, fun i y hy => ?_⟩
                  · show b + 256 * v = (UInt8.ofNat b).toNat + 256 * pack bl
                    rw [hb, g2]
                  · cases i with
                    | zero => simp at hy; subst hy; rw [hb]; rfl
                    | succ i => exact g3 i y (by simpa using hy)
        | _ => cases h
theorem convBS_sound (hA : AR P ρ nt E a) (hR : R ρ C w) {src dst e : TypeId} {x : Operand} {x' : Opd} (ho : o.op = .convert src dst x) (hx : opdOf P x = some x')
    (hs : P.underlying src = some (.slice e)) (hd : P.underlying dst = some .string) (he : P.underlying e = some (.int .u8))
    (hC : ∀ f o, f ∈ famOf (x'.ev E) → (∃ g h, ρ f g = some h) → H.t.get f = some o → C f = some o) (h : eConvBS x' E H = .ok v H') : OpOk P o a w (Post ρ C w H v H') := by
  replace h := withO_ok h; obtain ⟨u, hu, h⟩ := h
  have h1 := hA.opd hx hu
  cases u <;> try (cases h; done)
  case nilslice =>
    cases h
    simp only [VR] at h1
    refine ok_value (cv := .string ByteArray.empty) ?_ hR (by simp only [VR]; exact ⟨_, rfl, rfl, rfl⟩)
    have := run_convert_bytes_nil (P := P) (w := w) src e hs he 0 0 dst hd
    simp only [execOp, ho, h1, Sem.run_bind, this]
    rfl
  case slice f g off n es =>
    have h : ob (elems H f g 1 n off) (.err 39) (fun l => ob (unbytes l) (.err 39) fun s => seqNat s fun s => Res.ok (.str n s) H) = .ok v H' := h
    replace h := ob_ok h; obtain ⟨L, hL, h⟩ := h
    replace h := ob_ok h; obtain ⟨s, hs2, h⟩ := h
    rw [seqNat_eq] at h
    cases h
    simp only [VR] at h1
    obtain ⟨hm, ad, cap, hh, h1, hcap, hsl⟩ := h1
    obtain ⟨hlen, hel⟩ := elems_ok hL
    obtain ⟨bl, g1, g2, g3⟩ := unbytes_ok hs2
    have hbl : bl.length = n := g1.trans hlen
    subst hbl
    have hrun := run_convert_bytes_back (P := P) w src dst e ad cap bl hs he hd (fun j hj => by
      have hg := g3 j bl[j] (List.getElem?_eq_getElem hj)
      have hrd := hel j _ hg
      have hCf : C f = H.t.get f := by
        obtain ⟨_, _, _, _, _, _, _, _, hg, _⟩ := hrd
        exact (hC f _ (by rw [hu]; simp [famOf]) ⟨_, _, hh⟩ hg).trans hg.symm
      obtain ⟨_, _, hc⟩ := hR.rd hrd hCf hh (by omega)
      obtain ⟨cv, hc1, hc2⟩ := hc 0 _ rfl
      simp only [VR] at hc2
      subst hc2
      rcases hsl with ⟨rfl, _⟩ | ⟨h0, _, _⟩
      · rw [Addr.add_lit]
        rw [← Nat.add_assoc] at hc1
        simpa using hc1
      · omega)
    refine ok_value (cv := .string ⟨bl.toArray⟩) ?_ hR (by simp only [VR]; exact ⟨_, rfl, rfl, by rw [g2]⟩)
    simp only [execOp, ho, h1, Sem.run_bind, hrun]
    rfl
theorem liesAt_self {e : TypeId} (hc : P.cellsOf e ≠ 0) (count : Nat) (hn : 1 ≤ count) : liesAt P P.depth e count 0 e 1 = true := by
  have hd : P.depth = (2 * (P.types.size + Made.depth) + 1) + 1 := rfl
  rw [hd]
  simp only [liesAt, Bool.or_eq_true]
  left
  rw [hd]
  simp [rowAt, hc, hn, sameLayout]
theorem uconv_sound (hA : AR P ρ nt E a) (hR : R ρ C w) {src dst t : TypeId} {x : Operand} {x' : Opd} {io : Ins} (ho : o.op = .convert src dst x) (hx : opdOf P x = some x')
    (hdir : (P.underlying src = some (.pointer t) ∧ P.underlying dst = some .unsafePointer) ∨ (P.underlying src = some .unsafePointer ∧ P.underlying dst = some (.pointer t))) (hio : uconvOf P t x' = some io)
    (hC : ∀ f o, (∀ l, io.reads E = some l → f ∈ l) → (∃ g h, ρ f g = some h) → H.t.get f = some o → C f = some o) (h : io.ev call E H = .ok v H') : OpOk P o a w (Post ρ C w H v H') := by
  unfold uconvOf at hio
  split at hio
  · rename_i j hj
    split at hio
    · rename_i hsz
      cases hio
      have h : eUconv t (P.cellsOf t) x' E H = .ok v H' := h
      replace h := withO_ok h; obtain ⟨u, hu, h⟩ := h
      have h1 := hA.opd hx hu
      cases hn : isNilP u with
      | true =>
        rw [hn, chk_true] at h
        cases u <;> try (cases hn; done)
        cases h
        simp only [VR] at h1
        refine ok_value (cv := .pointer none) ?_ hR (by simp only [VR])
        have : (convert src dst (.pointer none)).run P w = .ok (.pointer none) w := by
          rcases hdir with ⟨hs, hd⟩ | ⟨hs, hd⟩ <;> simp [convert, run_underlying hs, run_underlying hd, Conv.unsafePointer]
        simp only [execOp, ho, h1, Sem.run_bind, this]
        rfl
      | false =>
        rw [hn] at h
        have h : onPtr u (.err 44) (fun f g off => onRow (H.t.get f) (.err 44) fun elem es _ m lo fl _ =>
          chk (Nat.beq elem t) (chk (Nat.beq es (P.cellsOf t)) (chk (Nat.beq off 0) (chk (Nat.ble lo g) (chk (Nat.ble g m) (chk (Nat.ble 1 g) (chk (Nat.beq fl 0) (Res.ok u H) (.err 44)) (.err 44)) (.err 44)) (.err 44)) (.err 44)) (.err 44)) (.err 44)) = .ok v H' := h
        replace h := onPtr_ok h; obtain ⟨f, g, off, rfl, h⟩ := h
        cases hg : H.t.get f with
        | none => rw [hg] at h; cases h
        | some ob => cases ob with
          | map => rw [hg] at h; cases h
          | row elem es bts m lo fl cs =>
            rw [hg] at h
            have h : chk (Nat.beq elem t) (chk (Nat.beq es (P.cellsOf t)) (chk (Nat.beq off 0) (chk (Nat.ble lo g) (chk (Nat.ble g m) (chk (Nat.ble 1 g) (chk (Nat.beq fl 0) (Res.ok (.ptr f g off) H) (.err 44)) (.err 44)) (.err 44)) (.err 44)) (.err 44)) (.err 44)) (.err 44) = .ok v H' := h
            replace h := chk_ok h; obtain ⟨b1, h⟩ := h
            replace h := chk_ok h; obtain ⟨b2, h⟩ := h
            replace h := chk_ok h; obtain ⟨b3, h⟩ := h
            replace h := chk_ok h; obtain ⟨b4, h⟩ := h
            replace h := chk_ok h; obtain ⟨b5, h⟩ := h
            replace h := chk_ok h; obtain ⟨b6, h⟩ := h
            replace h := chk_ok h; obtain ⟨b7, h⟩ := h
            cases h
            have b1 := Nat.eq_of_beq_eq_true b1
            have b2 := Nat.eq_of_beq_eq_true b2
            have b3 := Nat.eq_of_beq_eq_true b3
            have b4 := Nat.le_of_ble_eq_true b4
            have b5 := Nat.le_of_ble_eq_true b5
            have b6 := Nat.le_of_ble_eq_true b6
            have b7 := Nat.eq_of_beq_eq_true b7
            subst b1; subst b3; subst b7
            simp only [VR] at h1
            obtain ⟨hm, hh, h1⟩ := h1
            have hCf := hC f _ (fun l e => by have e : some (famOf (x'.ev E)) = some l := e; rw [hu] at e; cases e; simp [famOf]) ⟨_, _, hh⟩ hg
            obtain ⟨he, _, _, hrow⟩ := hR.obj f _ hCf g hm hh
            have hrow := hrow b4 b5
            obtain ⟨c, fz, hblk, hsize⟩ := hrow.row
            have hoff := hrow.off0 (.inl rfl)
            have hfit := hrow.fits
            have hge : es ≤ g * es := Nat.le_mul_of_pos_left _ b6
            have hsh : w.shape? hm.blk = some (elem, c.size) := by simp [World.shape?, hblk]
            refine ok_value (cv := .pointer (some ⟨hm.blk, hm.off + 0, none⟩)) ?_ hR (by simp only [VR]; exact ⟨hm, hh, rfl⟩)
            have : (convert src dst (.pointer (some ⟨hm.blk, hm.off + 0, none⟩))).run P w = .ok (.pointer (some ⟨hm.blk, hm.off + 0, none⟩)) w := by
              rcases hdir with ⟨hs, hd⟩ | ⟨hs, hd⟩
              · exact Lib.run_to_unsafe w ⟨hm.blk, hm.off + 0, none⟩ hs hd hj hsz hsh (by show hm.off + 0 < c.size; omega)
              · refine Lib.run_from_unsafe w ⟨hm.blk, hm.off + 0, none⟩ hs hd hj hsh ?_
                show liesAt P P.depth elem (c.size / P.cellsOf elem) (hm.off + 0) elem 1 = true
                rw [hoff, ← b2]
                have hd := Nat.div_pos (show es ≤ c.size by omega) he
                have := liesAt_self (P := P) (e := elem) (by rw [← b2]; omega) (c.size / es) hd
                rw [Nat.add_zero]
                exact this
            simp only [execOp, ho, h1, Sem.run_bind, this]
            rfl
    · cases hio
  · cases hio
theorem usd_sound (hA : AR P ρ nt E a) (hR : R ρ C w) {c : Call} {x : Operand} {x' : Opd} (ho : o.op = .call c) (hc : c.callee = .builtin .unsafeSliceData) (hargs : c.args = #[x]) (hx : opdOf P x = some x')
    (h : eUsd x' E H = .ok v H') : OpOk P o a w (Post ρ C w H v H') := by
  replace h := withO_ok h; obtain ⟨u, hu, h⟩ := h
  have h1 := hA.opd hx hu
  cases u <;> try (cases h; done)
  case nilslice =>
    cases h
    simp only [VR] at h1
    refine ok_value (cv := .pointer none) ?_ hR (by simp only [VR])
    simp [execOp, ho, resolve, hc, hargs, invoke, builtin, h1, Lib.run_unsafeSliceData_nil]
  case slice f g off l es =>
    have h : chk (Nat.beq l 0) (.err 45) (Res.ok (.ptr f g off) H) = .ok v H' := h
    replace h := chk_no h; obtain ⟨b0, h⟩ := h
    cases h
    simp only [VR] at h1
    obtain ⟨hm, ad, cap, hh, h1, hcap, hsl⟩ := h1
    have hl : l ≠ 0 := fun e => by rw [e] at b0; cases b0
    rcases hsl with ⟨rfl, _⟩ | ⟨e, _, _⟩
    · refine ok_value (cv := .pointer (some ⟨hm.blk, hm.off + off, none⟩)) ?_ hR (by simp only [VR]; exact ⟨hm, hh, rfl⟩)
      simp [execOp, ho, resolve, hc, hargs, invoke, builtin, h1, Lib.run_unsafeSliceData_row w _ _ _ l cap (by omega)]
    · exact absurd e hl
theorem conv2_sound (hA : AR P ρ nt E a) (hR : R ρ C w) (hF : Free ρ H.next H'.next) {src dst : TypeId} {x : Operand} {x' : Opd} {io : Ins} (ho : o.op = .convert src dst x) (hx : opdOf P x = some x') (hio : convOf2 P src dst x' = some io)
    (hC : ∀ f o, (∀ l, io.reads E = some l → f ∈ l) → (∃ g h, ρ f g = some h) → H.t.get f = some o → C f = some o) (h : io.ev call E H = .ok v H') : OpOk P o a w (Post ρ C w H v H') := by
  unfold convOf2 at hio
  split at hio
  · rename_i e hs hd
    split at hio
    · rename_i he; cases hio; exact convSB_sound hA hR hF ho hx hs hd he h
    · cases hio
  · rename_i e hs hd
    split at hio
    · rename_i he; cases hio; exact convBS_sound hA hR ho hx hs hd he (fun f o hf => hC f o (fun l e => by cases e; exact hf)) h
    · cases hio
  · rename_i t hs hd; exact uconv_sound hA hR ho hx (.inl ⟨hs, hd⟩) hio hC h
  · rename_i t hs hd; exact uconv_sound hA hR ho hx (.inr ⟨hs, hd⟩) hio hC h
  · cases hio
end
end Go.Ev
namespace Go.Ev
section
variable {P : Program} {ρ : Ho} {nt : Nat} {E : Env} {a : Act} {C : Nat → Option AObj} {w : World} {H H' : AHeap} {v : AVal} {o : Oper} {call : CallF}
def litV : Value → Lit
  | .bool b => .bool b
  | .int k n => .int k n
  | .string s => .string s.data.toList
  | _ => .bool false
inductive leafV : Nat → Value → Prop
  | int {q : IntKind} {n : Int} : (Lit.int q n).wf = true → leafV (ikN q) (.int q n)
  | bool {b : Bool} : leafV 100 (.bool b)
  | str {s : ByteArray} : s.size ≤ maxLen → leafV 101 (.string s)
def LeafV : List Nat → List Value → Prop
  | [], [] => True
  | k :: r, c :: s => leafV k c ∧ LeafV r s
  | _, _ => False
theorem LeafV.split : ∀ {k l : List Nat} {cs : List Value}, LeafV (k ++ l) cs → LeafV k (cs.take k.length) ∧ LeafV l (cs.drop k.length)
  | [], l, cs, h => by simpa [LeafV] using h
  | x :: k, l, [], h => by simp [LeafV] at h
  | x :: k, l, c :: cs, h => by
    have h : leafV x c ∧ LeafV (k ++ l) cs := h
    obtain ⟨h1, h2⟩ := LeafV.split h.2
    exact ⟨by simpa [LeafV] using ⟨h.1, h1⟩, by simpa using h2⟩
theorem LeafV.length : ∀ {k : List Nat} {cs : List Value}, LeafV k cs → cs.length = k.length
  | [], [], _ => rfl
  | [], _ :: _, h => h.elim
  | _ :: _, [], h => h.elim
  | _ :: k, _ :: cs, h => by have := LeafV.length h.2; simp [this]
theorem fields_ok {g : TypeId → Option (List Nat)} {D : Nat} (hg : ∀ t ks, g t = some ks → ∀ cs, LeafV ks cs → P.keyLits D t cs = some (cs.map litV)) : ∀ (fs : List Field) (off : Nat) (ks : List Nat), fieldsK P g off fs = some ks → ∀ cs : List Value, LeafV ks (cs.drop off) →
    ∃ L, (fs.mapM fun f => P.keyLits D f.type ((cs.drop f.offset).take (P.cellsOf f.type))) = some L ∧ L.flatten = (cs.drop off).map litV
  | [], off, ks, h, cs, hl => by
    cases h
    have := hl.length
    have e : cs.drop off = [] := List.eq_nil_of_length_eq_zero (by simpa using this)
    exact ⟨[], rfl, by rw [e]; rfl⟩
  | f :: r, off, ks, h, cs, hl => by
    unfold fieldsK at h
    split at h
    · rename_i k hk
      split at h
      · rename_i hc
        split at h
        · rename_i l hl2
          cases h
          obtain ⟨h1, h2⟩ := hl.split
          rw [List.drop_drop] at h2
          obtain ⟨L, hL, hf⟩ := fields_ok hg r (off + k.length) l hl2 cs h2
          refine ⟨((cs.drop off).take k.length).map litV :: L, ?_, ?_⟩
          · rw [List.mapM_cons, hc.1, ← hc.2, hg _ _ hk _ h1]
            simp [hL]
          · rw [List.flatten_cons, hf, ← List.drop_drop, ← List.map_append, List.take_append_drop]
        · cases h
      · cases h
    · cases h
theorem keyLits_ok : ∀ (D : Nat) (t : TypeId) (ks : List Nat), kindsOf P D t = some ks → ∀ cs, LeafV ks cs → P.keyLits D t cs = some (cs.map litV)
  | 0, _, _, h, _, _ => by cases h
  | D + 1, t, ks, h, cs, hl => by
    unfold kindsOf at h
    unfold Program.keyLits
    split at h
    · rename_i hu
      cases h
      match cs, hl with
      | [c], hl =>
        obtain ⟨hl, _⟩ := hl
        generalize hk : (100 : Nat) = k at hl
        cases hl with
        | int h => rename_i q _; cases q <;> simp [ikN] at hk
        | bool => simp [hu, litV]
        | str => simp at hk
      | [], hl => exact hl.elim
      | _ :: _ :: _, hl => exact hl.2.elim
    · rename_i k hu
      cases h
      match cs, hl with
      | [c], hl =>
        obtain ⟨hl, _⟩ := hl
        generalize hk : ikN k = kk at hl
        cases hl with
        | int h =>
          rename_i q n
          have : k = q := ikN_inj (by rw [hk]; exact Nat.beq_refl _)
          subst this
          simp [hu, litV, h]
        | bool => cases k <;> simp [ikN] at hk
        | str => cases k <;> simp [ikN] at hk
      | [], hl => exact hl.elim
      | _ :: _ :: _, hl => exact hl.2.elim
    · rename_i hu
      cases h
      match cs, hl with
      | [c], hl =>
        obtain ⟨hl, _⟩ := hl
        generalize hk : (101 : Nat) = k at hl
        cases hl with
        | int h => rename_i q _; cases q <;> simp [ikN] at hk
        | bool => simp at hk
        | str h => simp [hu, litV, h]
      | [], hl => exact hl.elim
      | _ :: _ :: _, hl => exact hl.2.elim
    · rename_i fs hu
      split at h
      · rename_i ks' hk
        split at h
        · rename_i hc
          cases h
          obtain ⟨L, hL, hf⟩ := fields_ok (keyLits_ok D) fs.toList 0 ks hk cs (by simpa using hl)
          have hlen := hl.length
          simp only [hu]
          rw [if_pos ⟨by rw [hlen]; exact hc.1, hc.2⟩, hL]
          simp [hf]
        · cases h
      · cases h
    · cases h
theorem leaf_ok {c : Nat} {x : AVal} {cv : Value} (h : leafOk c x = true) (hv : VR ρ x cv) : leafV c cv := by
  unfold leafOk at h
  split at h
  · rename_i k n
    simp only [Bool.and_eq_true] at h
    have h1 := Nat.eq_of_beq_eq_true h.1
    have h2 := h.2
    rw [iEq_eq, wrapF_eq] at h2
    simp only [decide_eq_true_eq] at h2
    simp only [VR] at hv
    subst hv; subst h1
    exact .int (by rw [← h2]; exact wf_wrap k n)
  · have h1 := Nat.eq_of_beq_eq_true h
    simp only [VR] at hv
    subst hv; subst h1
    exact .bool
  · simp only [Bool.and_eq_true] at h
    have h1 := Nat.eq_of_beq_eq_true h.1
    have h2 := Nat.le_of_ble_eq_true h.2
    simp only [VR] at hv
    obtain ⟨b, rfl, rfl, _⟩ := hv
    subst h1
    exact .str (by simpa [maxLen] using h2)
  · cases h
theorem leaves_ok : ∀ {ks : List Nat} {l : List AVal} {cs : List Value}, leavesOk ks l = true → VRs ρ l cs → LeafV ks cs
  | [], [], _, _, hv => by simp only [VRs] at hv; subst hv; trivial
  | c :: r, x :: s, _, h, hv => by
    simp only [leavesOk, Bool.and_eq_true] at h
    simp only [VRs] at hv
    obtain ⟨cv, t, rfl, h1, h2⟩ := hv
    exact ⟨leaf_ok h.1 h1, leaves_ok h.2 h2⟩
  | [], _ :: _, _, h, _ => by simp [leavesOk] at h
  | _ :: _, [], _, h, _ => by simp [leavesOk] at h
theorem eqPlain1_ok {x y : AVal} {cx cy : Value} {r : Bool} (h : eqPlain1 x y = some r) (hx : VR ρ x cx) (hy : VR ρ y cy) : r = true ↔ litV cx = litV cy := by
  unfold eqPlain1 at h
  split at h
  · rename_i k a' k' b'
    split at h
    · rename_i hk
      cases h
      have := ikN_inj hk
      subst this
      simp only [VR] at hx hy
      subst hx; subst hy
      simp [litV, iEq_eq]
    · cases h
  · cases h
    simp only [VR] at hx hy
    subst hx; subst hy
    simp [litV]
  · cases h
    simp only [VR] at hx hy
    obtain ⟨b1, rfl, rfl, rfl⟩ := hx
    obtain ⟨b2, rfl, rfl, rfl⟩ := hy
    have h1 : b1.size = b1.data.toList.length := Array.length_toList.symm
    have h2 : b2.size = b2.data.toList.length := Array.length_toList.symm
    rw [h1, h2, strEq_pack]
    simp [litV]
  · cases h
theorem eqPlain_ok : ∀ {x y : List AVal} {cx cy : List Value} {r : Bool}, eqPlain x y = some r → VRs ρ x cx → VRs ρ y cy → (r = true ↔ cx.map litV = cy.map litV)
  | [], [], _, _, r, h, hx, hy => by
    cases h
    simp only [VRs] at hx hy
    subst hx; subst hy
    simp
  | x :: s, y :: t, _, _, r, h, hx, hy => by
    simp only [VRs] at hx hy
    obtain ⟨cv, ct, rfl, h1, h2⟩ := hx
    obtain ⟨dv, dt, rfl, h3, h4⟩ := hy
    unfold eqPlain at h
    split at h
    · rename_i e
      have k1 := eqPlain1_ok e h1 h3
      have k2 := eqPlain_ok h h2 h4
      simp only [List.map_cons, List.cons.injEq]
      exact ⟨fun hr => ⟨k1.1 rfl, k2.1 hr⟩, fun hr => k2.2 hr.2⟩
    · rename_i e
      have k1 := eqPlain1_ok e h1 h3
      split at h
      · cases h
        simp only [List.map_cons, List.cons.injEq]
        exact ⟨fun hr => (by cases hr), fun hr => absurd (k1.2 hr.1) (by simp)⟩
      · cases h
    · cases h
  | [], _ :: _, _, _, _, h, _, _ => by cases h
  | _ :: _, [], _, _, _, h, _, _ => by cases h
theorem eqAgg_sound (hA : AR P ρ nt E a) (hR : R ρ C w) {op : BinOp} {t t' : TypeId} {fs : Array Field} {x z : Operand} {x' z' : Opd} {io : Ins} (ho : o.op = .binOp op t x z t') (hx : opdOf P x = some x') (hz : opdOf P z = some z') (hu : P.underlying t = some (.struct fs))
    (hio : eqAgg P op t x' z' = some io) (h : io.ev call E H = .ok v H') : OpOk P o a w (Post ρ C w H v H') := by
  unfold eqAgg at hio
  split at hio
  · rename_i ks hks
    split at hio
    · rename_i hc
      have key : ∀ neg, (op = .eql ∧ neg = false) ∨ (op = .neq ∧ neg = true) → eEq (.agg ks) neg x' z' E H = .ok v H' → OpOk P o a w (Post ρ C w H v H') := by
        intro neg hop h
        replace h := withO_ok h; obtain ⟨u, hu1, h⟩ := h
        replace h := withO_ok h; obtain ⟨u2, hu2, h⟩ := h
        replace h := ob_ok h; obtain ⟨r, hr, h⟩ := h
        rw [seqBool_eq] at h
        cases h
        have hv1 := hA.opd hx hu1
        have hv2 := hA.opd hz hu2
        cases u <;> try (cases hr; done)
        rename_i la
        cases u2 <;> try (cases hr; done)
        rename_i lb
        have hr : chk (leavesOk ks la) (chk (leavesOk ks lb) (eqPlain la lb) none) none = some r := hr
        cases g1 : leavesOk ks la
        · rw [g1] at hr; cases hr
        rw [g1, chk_true] at hr
        cases g2 : leavesOk ks lb
        · rw [g2] at hr; cases hr
        rw [g2, chk_true] at hr
        simp only [VR] at hv1 hv2
        obtain ⟨ca, e1, hva, _⟩ := hv1
        obtain ⟨cb, e2, hvb, _⟩ := hv2
        have hla := leaves_ok g1 hva
        have hlb := leaves_ok g2 hvb
        have hsz : ks.length = P.cellsOf t := by
          unfold kindsOf at hks
          simp only [hu] at hks
          split at hks
          · split at hks
            · rename_i hcc; cases hks; exact hcc.1
            · cases hks
          · cases hks
        have f1 : (Value.agg ca).formed P t = true := by
          have := hla.length
          simp only [Value.formed, hu, beq_iff_eq]
          rw [← hsz, ← this]; simp
        have f2 : (Value.agg cb).formed P t = true := by
          have := hlb.length
          simp only [Value.formed, hu, beq_iff_eq]
          rw [← hsz, ← this]; simp
        obtain ⟨r', hr', hiff⟩ := run_equalIn_deep (P := P) 9988 12 t hc.1 w 12 12 (.agg ca) (.agg cb) _ _ f1 f2 (keyLits_ok 12 t ks hks _ hla) (keyLits_ok 12 t ks hks _ hlb)
        have hrr : r' = r := by
          have k := eqPlain_ok hr hva hvb
          exact Bool.eq_iff_iff.2 (hiff.trans k.symm)
        subst hrr
        have hg := run_eqGuard_agg (P := P) w op t x z ca cb hc.2
        refine ok_value (cv := .bool (Bool.xor neg r')) ?_ hR (by simp only [VR])
        simp only [execOp, ho, Sem.run_bind, e1, e2, hg, Result.andThen_ok]
        have hr' : (Op.equalIn 10000 t (.agg ca) (.agg cb)).run P w = .ok r' w := hr'
        have he : (Op.equal t (.agg ca) (.agg cb)).run P w = .ok r' w := hr'
        rcases hop with ⟨rfl, rfl⟩ | ⟨rfl, rfl⟩
        · simp only [binOp]; simp [he]
        · simp only [binOp]; simp [he]
      cases op <;> simp only [Option.some.injEq, reduceCtorEq] at hio
      · subst hio; exact key false (.inl ⟨rfl, rfl⟩) h
      · subst hio; exact key true (.inr ⟨rfl, rfl⟩) h
    · cases hio
  · cases hio
end
end Go.Ev
namespace Go.Ev
section
variable {P : Program} {ρ : Ho} {nt : Nat} {E : Env} {a : Act} {C : Nat → Option AObj} {w : World} {H H' : AHeap} {v : AVal} {o : Oper} {call : CallF}
theorem freeze_heap (w : World) (b n : Nat) (hn : n ≠ 0) (k : Nat) : (w.freeze ⟨b, 0, none⟩ n).heap[k]? = (w.heap[k]?).map fun ob => if k = b then (match ob with
      | .cells c elem (lo, hi) => .cells c elem (if lo == hi then (0, 0 + n) else (min lo 0, max hi (0 + n)))
      | o => o) else ob := by
  unfold World.freeze
  rw [if_neg hn]
  show (w.heap.modify b _)[k]? = _
  rw [Array.getElem?_modify]
  by_cases h : k = b
  · subst h
    rw [if_pos rfl]
    congr 1
    funext ob
    rw [if_pos rfl]
    cases ob <;> rfl
  · rw [if_neg (fun e => h e.symm)]
    cases w.heap[k]? <;> simp [h]
theorem R.freeze (hR : R ρ C w) {f g n m lo fl elem bts : Nat} {cs : RT} {hm : Hm} (hC : C f = some (.row elem 1 bts m lo fl cs)) (hh : ρ f g = some hm) (hlo : lo ≤ g) (hgm : g ≤ m) (hn : n ≠ 0) (hng : n ≤ g) (hfl : fl = 0 ∨ fl = 2)
    (W : Nat → Prop) (hW : W f) (n0 : Nat) : Ext W n0 n0 ρ ρ w (w.freeze ⟨hm.blk, 0, none⟩ n) ∧ R ρ (fun x => if x = f then some (.row elem 1 bts m lo 2 cs) else C x) (w.freeze ⟨hm.blk, 0, none⟩ n) := by
  obtain ⟨he, hro, _, hrow⟩ := hR.obj f _ hC g hm hh
  have hrow := hrow hlo hgm
  have hro' : hm.ro = false := by
    cases h : hm.ro
    · rfl
    · have := hro h; omega
  have hoff := hrow.off0 hfl
  obtain ⟨c, fz, hblk, hsz⟩ := hrow.row
  have hfz := hrow.fz0 hfl _ _ _ hblk
  have hheap := freeze_heap w hm.blk n hn
  have hoth : ∀ k, k ≠ hm.blk → (w.freeze ⟨hm.blk, 0, none⟩ n).heap[k]? = w.heap[k]? := fun k hk => by
    rw [hheap k]
    cases w.heap[k]? <;> simp [hk]
  obtain ⟨fz', hnew, hfz'⟩ : ∃ fz', (w.freeze ⟨hm.blk, 0, none⟩ n).heap[hm.blk]? = some (.cells c elem fz') ∧ fz'.2 ≤ m := by
    rw [hheap hm.blk, hblk]
    obtain ⟨l1, h1⟩ := fz
    simp only [Option.map_some, if_true]
    by_cases hb : l1 = h1
    · subst hb
      exact ⟨(0, 0 + n), by simp, by simp; omega⟩
    · refine ⟨(min l1 0, max h1 (0 + n)), by simp [hb], ?_⟩
      have : h1 ≤ m := by
        rcases hfz with h | h
        · exact absurd h hb
        · simpa using h
      simp only
      omega
  have hcell : ∀ ad : Addr, (w.freeze ⟨hm.blk, 0, none⟩ n).cell? ad = w.cell? ad := fun ad => by
    by_cases hb : ad.block = hm.blk
    · simp only [World.cell?, hb, hnew, hblk]
    · exact cell_of_heap (w := w) (hoth _ hb)
  have hsize : (w.freeze ⟨hm.blk, 0, none⟩ n).heap.size = w.heap.size := by
    unfold World.freeze
    rw [if_neg hn]
    simp
  refine ⟨⟨Ho.le_refl _, fun f' g' h' e => .inl ⟨g', h', e⟩, fun _ _ _ e => .inl e, fun b _ hb => hoth b fun e => hb f g hm hh hro' hW e.symm, by rw [hsize]; exact Nat.le_refl _, Nat.le_refl _, ?_, ?_, ?_⟩, ⟨?_, hR.disj, fun f' g' h' e => by rw [hsize]; exact hR.inb f' g' h' e, hR.uniq⟩⟩
  · unfold World.freeze; rw [if_neg hn]
  · unfold World.freeze; rw [if_neg hn]
  · unfold World.freeze; rw [if_neg hn]
  · intro f' o' ho' g' h' hx
    have ho2 : (if f' = f then some (AObj.row elem 1 bts m lo 2 cs) else C f') = some o' := ho'
    clear ho'
    by_cases e : f' = f
    · rw [if_pos e] at ho2
      subst e
      cases ho2
      obtain ⟨_, r1, r2, r3⟩ := hR.obj f' _ hC g' h' hx
      refine ⟨he, fun h => by have := r1 h; omega, r2, fun a1 a2 => ?_⟩
      have r := r3 a1 a2
      have cellOk : ∀ i, i < g' → ∃ l, cs.get i = some l ∧ l.length = 1 ∧ ∀ j x, l[j]? = some x → okCell x = true ∧ ∃ cv, (w.freeze ⟨hm.blk, 0, none⟩ n).cell? ⟨h'.blk, h'.off + i * 1 + j, none⟩ = some cv ∧ VR ρ x cv := fun i hi => by
        obtain ⟨l, l1, l2, l3⟩ := r.cell i hi
        exact ⟨l, l1, l2, fun j x hj => by rw [hcell]; exact l3 j x hj⟩
      by_cases hb : h'.blk = hm.blk
      · obtain ⟨c1, fz1, q1, q2⟩ := r.row
        rw [hb, hblk] at q1
        cases q1
        refine ⟨⟨c, fz', by rw [hb]; exact hnew, q2⟩, r.fits, cellOk, fun h => by omega, fun _ i hi _ => ?_, fun _ => r.off0 hfl, fun _ c1 e1 fz1 hc1 => ?_⟩
        · simp only [World.frozen?, hb, hnew]
          obtain ⟨l1, h1⟩ := fz'
          simp only at hfz' ⊢
          simp
          omega
        · rw [hb, hnew] at hc1
          cases hc1
          right; omega
      · have hw := hoth _ hb
        refine ⟨by rw [hw]; exact r.row, r.fits, cellOk, fun h => by omega, fun _ i hi hi2 => by rw [frozen_of_heap (w := w) hw]; exact r.open2 (by omega) i hi hi2, fun _ => r.off0 hfl, fun _ c1 e1 fz1 hc1 => r.fz0 hfl c1 e1 fz1 (by rw [← hw]; exact hc1)⟩
    · rw [if_neg e] at ho2
      refine (hR.obj f' o' ho2 g' h' hx).keep (Ho.le_refl _) (hoth _ fun hb => ?_)
      have := (hR.disj _ _ _ _ _ _ hx hh e hb).2
      rw [hro'] at this; cases this
theorem frz_ok {f e : Nat} {k : AHeap → Res} (h : frz f e H k = .ok v H') : ∃ bts m lo fl cs, H.t.get f = some (.row e 1 bts m lo fl cs) ∧ (fl = 0 ∨ fl = 2) ∧ k ⟨H.next, H.mrk, wrote f H.mrk H.ws, H.t.set f (.row e 1 bts m lo 2 cs)⟩ = .ok v H' := by
  cases H with
  | mk next mrk ws t =>
    have h : onRow (t.get f) (Res.err 46) (fun elem es bts m lo fl cs =>
      chk (Nat.beq elem e) (chk (Nat.beq es 1) (chk (chk (Nat.beq fl 0) true (Nat.beq fl 2)) (t.setC f (.row elem es bts m lo 2 cs) fun t => k ⟨next, mrk, wrote f mrk ws, t⟩) (.err 46)) (.err 46)) (.err 46)) = .ok v H' := h
    cases hg : t.get f with
    | none => rw [hg] at h; cases h
    | some ob => cases ob with
      | map => rw [hg] at h; cases h
      | row elem es bts m lo fl cs =>
        rw [hg] at h
        have h : chk (Nat.beq elem e) (chk (Nat.beq es 1) (chk (chk (Nat.beq fl 0) true (Nat.beq fl 2)) (t.setC f (.row elem es bts m lo 2 cs) fun t => k ⟨next, mrk, wrote f mrk ws, t⟩) (.err 46)) (.err 46)) (.err 46) = .ok v H' := h
        replace h := chk_ok h; obtain ⟨b1, h⟩ := h
        replace h := chk_ok h; obtain ⟨b2, h⟩ := h
        replace h := chk_ok h; obtain ⟨b3, h⟩ := h
        rw [HT.setC_eq] at h
        have b1 := Nat.eq_of_beq_eq_true b1
        have b2 := Nat.eq_of_beq_eq_true b2
        have hz := h
        subst b1; subst b2
        have hg2 : ({ next := next, mrk := mrk, ws := ws, t := t } : AHeap).t.get f = some (AObj.row elem 1 bts m lo fl cs) := hg
        refine ⟨bts, m, lo, fl, cs, rfl, ?_, hz⟩
        cases b4 : Nat.beq fl 0
        · rw [b4] at b3; exact .inr (Nat.eq_of_beq_eq_true b3)
        · exact .inl (Nat.eq_of_beq_eq_true b4)
theorem ustr_sound (hA : AR P ρ nt E a) (hR : R ρ C w) {c : Call} {x y : Operand} {x' y' : Opd} {pt it e : TypeId} (ho : o.op = .call c) (hc : c.callee = .builtin .unsafeString) (hargs : c.args = #[x, y]) (hx : opdOf P x = some x') (hy : opdOf P y = some y')
    (hts : c.argTypes = #[pt, it]) (hp : P.underlying pt = some (.pointer e)) (hce : P.cellsOf e = 1) (hC : ∀ f o, f ∈ famOf (x'.ev E) → (∃ g h, ρ f g = some h) → H.t.get f = some o → C f = some o)
    (h : eUstr e x' y' E H = .ok v H') : OpOk P o a w (Post ρ C w H v H') := by
  replace h := withO_ok h; obtain ⟨u, hu, h⟩ := h
  replace h := onPtr_ok h; obtain ⟨f, g, off, rfl, h⟩ := h
  replace h := withO_ok h; obtain ⟨u2, hu2, h⟩ := h
  replace h := onInt_ok h; obtain ⟨k, l0, rfl, h⟩ := h
  replace h := onNat_ok h; obtain ⟨l, rfl, h⟩ := h
  replace h := chk_ok h; obtain ⟨b1, h⟩ := h
  replace h := chk_ok h; obtain ⟨b2, h⟩ := h
  replace h := chk_ok h; obtain ⟨b3, h⟩ := h
  replace h := chk_ok h; obtain ⟨b4, h⟩ := h
  replace h := ob_ok h; obtain ⟨L, hL, h⟩ := h
  replace h := ob_ok h; obtain ⟨s, hs, h⟩ := h
  rw [seqNat_eq] at h
  obtain ⟨bts, m, lo, fl, cs, hg, hfl, h⟩ := frz_ok h
  cases h
  have b1 := Nat.eq_of_beq_eq_true b1
  have b2 := Nat.eq_of_beq_eq_true b2
  have b3 := Nat.le_of_ble_eq_true b3
  have b4 := Nat.le_of_ble_eq_true b4
  have hk : k = .i64 := by cases k <;> simp [ikN] at b2 <;> rfl
  subst hk; subst b1
  have h1 := hA.opd hx hu
  have h2 := hA.opd hy hu2
  simp only [VR] at h1 h2
  obtain ⟨hm, hh, h1⟩ := h1
  obtain ⟨hlen, hel⟩ := elems_ok hL
  obtain ⟨bl, g1, g2, g3⟩ := unbytes_ok hs
  have hbl : bl.length = l := g1.trans hlen
  subst hbl
  have hCf := hC f _ (by rw [hu]; simp [famOf]) ⟨_, _, hh⟩ hg
  have hlast := hel (bl.length - 1) _ (List.getElem?_eq_getElem (by omega))
  obtain ⟨elem', es', bts', m', lo', fl', cs', x1, hg', q1, q2, q3, q4, q5, _⟩ := hlast
  rw [hg] at hg'
  cases hg'
  have hng : bl.length ≤ g := by simp at q4; omega
  obtain ⟨_, _, _, hrow⟩ := hR.obj f _ hCf g hm hh
  have hrow := hrow q1 q2
  have hoff := hrow.off0 hfl
  obtain ⟨cc, fz, hblk, hsz⟩ := hrow.row
  have hfit := hrow.fits
  have hsh : w.shape? hm.blk = some (e, cc.size) := by simp [World.shape?, hblk]
  have hrun := Lib.run_unsafeString_row (P := P) w pt it o.type e hp hce hm.blk cc.size hsh bl (by intro e0; rw [e0] at b3; simp at b3) (by omega) (by omega) (fun j b hj => by
    have hrd := hel j _ (g3 j b hj)
    obtain ⟨_, _, hcl⟩ := hR.rd hrd (hCf.trans hg.symm) hh (by omega)
    obtain ⟨cv, hc1, hc2⟩ := hcl 0 _ rfl
    simp only [VR] at hc2
    subst hc2
    rw [Addr.add_lit]
    simpa [hoff] using hc1)
  obtain ⟨r1, r2⟩ := hR.freeze (n := bl.length) hCf hh q1 q2 (by omega) hng hfl (Wr ⟨H.next, H.mrk, wrote f H.mrk H.ws, H.t.set f (.row e 1 bts m lo 2 cs)⟩) (wrote_Wr _ _ _) H.next
  refine .inl ⟨.string ⟨bl.toArray⟩, w.freeze ⟨hm.blk, 0, none⟩ bl.length, ?_, ρ, ?_, r1, ?_⟩
  · rw [hoff] at h1
    have h2 : a.eval y = .int .i64 bl.length := h2
    simp [execOp, ho, resolve, hc, hargs, invoke, builtin, h1, h2, hts, hrun]
  · simp only [VR]
    exact ⟨_, rfl, rfl, by rw [g2]⟩
  · rw [upd_write (hCf.trans hg.symm) hg]
    exact r2
end
end Go.Ev
namespace Go.Ev
section
variable {P : Program} {ρ : Ho} {nt : Nat} {E : Env} {a : Act} {C : Nat → Option AObj} {w : World} {H H' : AHeap} {v : AVal} {o : Oper}
theorem mm1_ok {mx : Bool} {k : IntKind} : ∀ {vs : List AVal} {cvs : List Value} {n : Int} {r : AVal}, VRs ρ vs cvs → mm1 mx k vs n = some r →
    ∃ m, r = .int k m ∧ (cvs.foldlM (if mx = true then Builtin.max2 else Builtin.min2) (.int k n)).run P w = .ok (.int k m) w
  | [], cvs, n, r, hv, h => by
    simp only [VRs] at hv
    subst hv
    cases h
    exact ⟨n, rfl, rfl⟩
  | x :: vs, cvs, n, r, hv, h => by
    simp only [VRs] at hv
    obtain ⟨cv, t, rfl, h1, h2⟩ := hv
    replace h : onIntA x none (fun _ b => seqInt (chk (chk mx (iLt n b) (iLt b n)) b n) (mm1 mx k vs)) = some r := h
    cases x <;> try (cases h; done)
    rename_i k' b
    replace h : seqInt (chk (chk mx (iLt n b) (iLt b n)) b n) (mm1 mx k vs) = some r := h
    rw [seqInt_eq] at h
    simp only [VR] at h1
    subst h1
    obtain ⟨m, hm, hr⟩ := mm1_ok (cvs := t) h2 h
    refine ⟨m, hm, ?_⟩
    rw [List.foldlM_cons]
    have e : ((if mx = true then Builtin.max2 else Builtin.min2) (.int k n) (.int k' b)).run P w = .ok (.int k (chk (chk mx (iLt n b) (iLt b n)) b n)) w := by
      cases mx
      · simp only [Bool.false_eq_true, if_false, chk_false, iLt_eq, chk_if, decide_eq_true_eq]; rfl
      · simp only [if_true, chk_true, iLt_eq, chk_if, decide_eq_true_eq]; rfl
    simp only [Sem.run_bind, e]
    exact hr
theorem minmax_sound (hA : AR P ρ nt E a) (hR : R ρ C w) {mx : Bool} {c : Call} {x : Operand} {r : List Operand} {x' : Opd} {r' : List Opd} (ho : o.op = .call c) (hc : c.callee = .builtin (if mx = true then .max else .min)) (hargs : c.args.toList = x :: r) (hx : opdOf P x = some x') (hr : opdsOf P r = some r')
    (h : eMinmax mx x' r' E H = .ok v H') : OpOk P o a w (Post ρ C w H v H') := by
  replace h := withO_ok h; obtain ⟨u, hu, h⟩ := h
  replace h := onInt_ok h; obtain ⟨k, n, rfl, h⟩ := h
  replace h := ob_ok h; obtain ⟨vs, hvs, h⟩ := h
  replace h := ob_ok h; obtain ⟨res, hres, h⟩ := h
  cases h
  have h1 := hA.opd hx hu
  have h2 := hA.opds hr hvs
  simp only [VR] at h1
  obtain ⟨m, rfl, hrun⟩ := mm1_ok (P := P) (w := w) h2 hres
  have hargs2 : c.args = (x :: r).toArray := by rw [← hargs]
  refine ok_value (cv := .int k m) ?_ hR (by simp only [VR])
  cases mx
  · simp only [Bool.false_eq_true, if_false] at hc hrun
    simp [execOp, ho, resolve, hc, hargs2, invoke, builtin, Builtin.min_, h1, hrun]
  · simp only [if_true] at hc hrun
    simp [execOp, ho, resolve, hc, hargs2, invoke, builtin, Builtin.max_, h1, hrun]
end
end Go.Ev
namespace Go.Ev
def Ins.opds : Ins → List Opd
  | .mov x => [x]
  | .pick c a b => [c, a, b]
  | .boxz _ _ _ _ => []
  | .box _ _ _ x => [x]
  | .load _ _ a => [a]
  | .store _ a x => [a, x]
  | .bin _ x y => [x, y]
  | .eqv _ _ x y => [x, y]
  | .un _ x => [x]
  | .offs x _ => [x]
  | .sub x _ _ _ => [x]
  | .idxArr _ _ x i => [x, i]
  | .idxSl _ x i => [x, i]
  | .idxVal _ _ _ x i => [x, i]
  | .idxStr x i => [x, i]
  | .slStr x lo hi => x :: (lo.toList ++ hi.toList)
  | .slSl _ x lo hi => x :: (lo.toList ++ hi.toList)
  | .slArr _ _ x lo hi => x :: (lo.toList ++ hi.toList)
  | .extr x _ => [x]
  | .nilck x => [x]
  | .mkfn _ fs l => fs ++ l
  | .mkif _ x => [x]
  | .mksl _ _ _ _ x y => [x, y]
  | .build _ ps => ps.map (·.2.2)
  | .buildSl _ _ _ _ _ ps => ps.map (·.2)
  | .len x => [x]
  | .lenK _ => []
  | .lenS x => [x]
  | .app _ _ _ x y => [x, y]
  | .appStr _ x y => [x, y]
  | .copy _ x y => [x, y]
  | .minmax _ x ys => x :: ys
  | .conv _ x => [x]
  | .convId x => [x]
  | .convSB _ x => [x]
  | .convBS x => [x]
  | .call _ l => l
  | .callv x l => x :: l
  | .uconv _ _ x => [x]
  | .usd x => [x]
  | .ustr _ x n => [x, n]
theorem withO_eq (x : Opd) (E : Env) (e : Res) (k : AVal → Res) : withO x E e k = ob (x.ev E) e k := by cases x <;> rfl
section
variable {E E' : Env}
theorem evs_congr : ∀ (l : List Opd), (∀ x ∈ l, x.ev E = x.ev E') → evs E l = evs E' l
  | [], _ => rfl
  | x :: r, h => by
    have h1 := h x (by simp)
    have h2 := evs_congr r (fun y hy => h y (by simp [hy]))
    show ob (x.ev E) none (fun v => ob (evs E r) none fun vs => some (v :: vs)) = ob (x.ev E') none (fun v => ob (evs E' r) none fun vs => some (v :: vs))
    rw [h1, h2]
theorem bnd_congr {x : Option Opd} {d y : Nat} {e : Res} {k : Nat → Res} (h : ∀ z ∈ x.toList, z.ev E = z.ev E') : bnd E x d y e k = bnd E' x d y e k := by
  cases x with
  | none => rfl
  | some z =>
    have h1 := h z (by simp)
    show ob (z.ev E) e _ = ob (z.ev E') e _
    rw [h1]
theorem buildA_congr : ∀ (ps : List (Nat × Nat × Opd)) (cells : List AVal), (∀ x ∈ ps.map (·.2.2), x.ev E = x.ev E') → buildA E ps cells = buildA E' ps cells
  | [], _, _ => rfl
  | p :: r, cells, h => by
    have h1 := h p.2.2 (by simp)
    have h2 := fun cells => buildA_congr r cells (fun y hy => h y (by simp only [List.map_cons, List.mem_cons]; exact .inr hy))
    show ob (p.2.2.ev E) none _ = ob (p.2.2.ev E') none _
    rw [h1]
    congr 1
    funext v
    congr 1
    funext new
    congr 1
    exact h2 _
theorem buildTr_congr (es ln : Nat) : ∀ (ps : List (Nat × Opd)) (t : RT), (∀ x ∈ ps.map (·.2), x.ev E = x.ev E') → buildTr E es ln ps t = buildTr E' es ln ps t
  | [], _, _ => rfl
  | p :: r, t, h => by
    have h1 := h p.2 (by simp)
    have h2 := fun t => buildTr_congr es ln r t (fun y hy => h y (by simp only [List.map_cons, List.mem_cons]; exact .inr hy))
    show ob (p.2.ev E) none _ = ob (p.2.ev E') none _
    rw [h1]
    congr 1
    funext v
    congr 1
    funext new
    congr 1
    congr 1
    exact h2 _
theorem Ins.ev_congr {call : CallF} {H : AHeap} (io : Ins) (h : ∀ x ∈ io.opds, x.ev E = x.ev E') : io.ev call E H = io.ev call E' H := by
  cases io with
  | mov x => have h1 := h x (by simp [Ins.opds]); show eMov x E H = eMov x E' H; simp only [eMov, withO_eq, h1]
  | pick c x y =>
    have h1 := h c (by simp [Ins.opds]); have h2 := h x (by simp [Ins.opds]); have h3 := h y (by simp [Ins.opds])
    show ePick c x y E H = ePick c x y E' H; simp only [ePick, eMov, withO_eq, h1, h2, h3]
  | boxz a b c d => rfl
  | box a b c x => have h1 := h x (by simp [Ins.opds]); show eBox a b c x E H = eBox a b c x E' H; simp only [eBox, eBoxz, withO_eq, h1]
  | load a b x => have h1 := h x (by simp [Ins.opds]); show eLoad a b x E H = eLoad a b x E' H; simp only [eLoad, withO_eq, h1]
  | store a x y => have h1 := h x (by simp [Ins.opds]); have h2 := h y (by simp [Ins.opds]); show eStore a x y E H = eStore a x y E' H; simp only [eStore, withO_eq, h1, h2]
  | bin a x y => have h1 := h x (by simp [Ins.opds]); have h2 := h y (by simp [Ins.opds]); show eBin a x y E H = eBin a x y E' H; simp only [eBin, withO_eq, h1, h2]
  | eqv a b x y => have h1 := h x (by simp [Ins.opds]); have h2 := h y (by simp [Ins.opds]); show eEq a b x y E H = eEq a b x y E' H; simp only [eEq, withO_eq, h1, h2]
  | un a x => have h1 := h x (by simp [Ins.opds]); show eUn a x E H = eUn a x E' H; simp only [eUn, withO_eq, h1]
  | offs x a => have h1 := h x (by simp [Ins.opds]); show eOffs x a E H = eOffs x a E' H; simp only [eOffs, withO_eq, h1]
  | sub x a b c => have h1 := h x (by simp [Ins.opds]); show eSub x a b c E H = eSub x a b c E' H; simp only [eSub, withO_eq, h1]
  | idxArr a b x y => have h1 := h x (by simp [Ins.opds]); have h2 := h y (by simp [Ins.opds]); show eIdxArr a b x y E H = eIdxArr a b x y E' H; simp only [eIdxArr, withO_eq, h1, h2]
  | idxSl a x y => have h1 := h x (by simp [Ins.opds]); have h2 := h y (by simp [Ins.opds]); show eIdxSl a x y E H = eIdxSl a x y E' H; simp only [eIdxSl, withO_eq, h1, h2]
  | idxVal a b c x y => have h1 := h x (by simp [Ins.opds]); have h2 := h y (by simp [Ins.opds]); show eIdxVal a b c x y E H = eIdxVal a b c x y E' H; simp only [eIdxVal, withO_eq, h1, h2]
  | idxStr x y => have h1 := h x (by simp [Ins.opds]); have h2 := h y (by simp [Ins.opds]); show eIdxStr x y E H = eIdxStr x y E' H; simp only [eIdxStr, withO_eq, h1, h2]
  | slStr x lo hi =>
    have h1 := h x (by simp [Ins.opds])
    have h2 : ∀ z ∈ lo.toList, z.ev E = z.ev E' := fun z hz => h z (by simp only [Ins.opds, List.mem_cons, List.mem_append]; exact .inr (.inl hz))
    have h3 : ∀ z ∈ hi.toList, z.ev E = z.ev E' := fun z hz => h z (by simp only [Ins.opds, List.mem_cons, List.mem_append]; exact .inr (.inr hz))
    show eSlStr x lo hi E H = eSlStr x lo hi E' H
    simp only [eSlStr, withO_eq, h1, bnd_congr h2, bnd_congr h3]
  | slSl n x lo hi =>
    have h1 := h x (by simp [Ins.opds])
    have h2 : ∀ z ∈ lo.toList, z.ev E = z.ev E' := fun z hz => h z (by simp only [Ins.opds, List.mem_cons, List.mem_append]; exact .inr (.inl hz))
    have h3 : ∀ z ∈ hi.toList, z.ev E = z.ev E' := fun z hz => h z (by simp only [Ins.opds, List.mem_cons, List.mem_append]; exact .inr (.inr hz))
    show eSlSl n x lo hi E H = eSlSl n x lo hi E' H
    simp only [eSlSl, withO_eq, h1, bnd_congr h2, bnd_congr h3]
  | slArr k n x lo hi =>
    have h1 := h x (by simp [Ins.opds])
    have h2 : ∀ z ∈ lo.toList, z.ev E = z.ev E' := fun z hz => h z (by simp only [Ins.opds, List.mem_cons, List.mem_append]; exact .inr (.inl hz))
    have h3 : ∀ z ∈ hi.toList, z.ev E = z.ev E' := fun z hz => h z (by simp only [Ins.opds, List.mem_cons, List.mem_append]; exact .inr (.inr hz))
    show eSlArr k n x lo hi E H = eSlArr k n x lo hi E' H
    simp only [eSlArr, withO_eq, h1, bnd_congr h2, bnd_congr h3]
  | extr x a => have h1 := h x (by simp [Ins.opds]); show eExtr x a E H = eExtr x a E' H; simp only [eExtr, withO_eq, h1]
  | nilck x => have h1 := h x (by simp [Ins.opds]); show eNilck x E H = eNilck x E' H; simp only [eNilck, withO_eq, h1]
  | mkfn f fs l =>
    have h1 := evs_congr fs (fun z hz => h z (by simp only [Ins.opds, List.mem_append]; exact .inl hz)); have h2 := evs_congr l (fun z hz => h z (by simp only [Ins.opds, List.mem_append]; exact .inr hz))
    show eMkfn f fs l E H = eMkfn f fs l E' H; simp only [eMkfn, h1, h2]
  | mkif t x => have h1 := h x (by simp [Ins.opds]); show eMkif t x E H = eMkif t x E' H; simp only [eMkif, withO_eq, h1]
  | mksl a b c d x y => have h1 := h x (by simp [Ins.opds]); have h2 := h y (by simp [Ins.opds]); show eMksl a b c d x y E H = eMksl a b c d x y E' H; simp only [eMksl, withO_eq, h1, h2]
  | build z ps => have h1 := buildA_congr ps z h; show eBuild z ps E H = eBuild z ps E' H; simp only [eBuild, h1]
  | buildSl a b c d z ps => have h1 := buildTr_congr b d ps (repTr z d) h; show eBuildSl a b c d z ps E H = eBuildSl a b c d z ps E' H; simp only [eBuildSl, h1]
  | len x => have h1 := h x (by simp [Ins.opds]); show eLen x E H = eLen x E' H; simp only [eLen, withO_eq, h1]
  | lenK n => rfl
  | lenS x => have h1 := h x (by simp [Ins.opds]); show eLenS x E H = eLenS x E' H; simp only [eLenS, withO_eq, h1]
  | app a b c x y => have h1 := h x (by simp [Ins.opds]); have h2 := h y (by simp [Ins.opds]); show eApp a b c x y E H = eApp a b c x y E' H; simp only [eApp, withO_eq, h1, h2]
  | appStr a x y => have h1 := h x (by simp [Ins.opds]); have h2 := h y (by simp [Ins.opds]); show eAppStr a x y E H = eAppStr a x y E' H; simp only [eAppStr, withO_eq, h1, h2]
  | copy a x y => rfl
  | minmax m x ys =>
    have h1 := h x (by simp [Ins.opds]); have h2 := evs_congr ys (fun z hz => h z (by simp only [Ins.opds, List.mem_cons]; exact .inr hz))
    show eMinmax m x ys E H = eMinmax m x ys E' H; simp only [eMinmax, withO_eq, h1, h2]
  | conv k x => have h1 := h x (by simp [Ins.opds]); show eConv k x E H = eConv k x E' H; simp only [eConv, withO_eq, h1]
  | convId x => have h1 := h x (by simp [Ins.opds]); show eMov x E H = eMov x E' H; simp only [eMov, withO_eq, h1]
  | convSB e x => have h1 := h x (by simp [Ins.opds]); show eConvSB e x E H = eConvSB e x E' H; simp only [eConvSB, withO_eq, h1]
  | convBS x => have h1 := h x (by simp [Ins.opds]); show eConvBS x E H = eConvBS x E' H; simp only [eConvBS, withO_eq, h1]
  | call f l => have h1 := evs_congr l h; show eCall f l call E H = eCall f l call E' H; simp only [eCall, h1]
  | callv x l =>
    have h1 := h x (by simp [Ins.opds]); have h2 := evs_congr l (fun z hz => h z (by simp only [Ins.opds, List.mem_cons]; exact .inr hz))
    show eCallv x l call E H = eCallv x l call E' H; simp only [eCallv, withO_eq, h1, h2]
  | uconv t n x => have h1 := h x (by simp [Ins.opds]); show eUconv t n x E H = eUconv t n x E' H; simp only [eUconv, withO_eq, h1]
  | usd x => have h1 := h x (by simp [Ins.opds]); show eUsd x E H = eUsd x E' H; simp only [eUsd, withO_eq, h1]
  | ustr e x n => have h1 := h x (by simp [Ins.opds]); have h2 := h n (by simp [Ins.opds]); show eUstr e x n E H = eUstr e x n E' H; simp only [eUstr, withO_eq, h1, h2]
theorem Ins.reads_congr (io : Ins) (h : ∀ x ∈ io.opds, x.ev E = x.ev E') : io.reads E = io.reads E' := by
  cases io with
  | load a b x => have h1 := h x (by simp [Ins.opds]); simp only [Ins.reads, h1]
  | app a b c x y => have h1 := h x (by simp [Ins.opds]); have h2 := h y (by simp [Ins.opds]); simp only [Ins.reads, h1, h2]
  | appStr a x y => have h1 := h x (by simp [Ins.opds]); simp only [Ins.reads, h1]
  | convBS x => have h1 := h x (by simp [Ins.opds]); simp only [Ins.reads, h1]
  | store a x y => have h1 := h x (by simp [Ins.opds]); simp only [Ins.reads, h1]
  | uconv t n x => have h1 := h x (by simp [Ins.opds]); simp only [Ins.reads, h1]
  | ustr t x n => have h1 := h x (by simp [Ins.opds]); simp only [Ins.reads, h1]
  | slArr a b x lo hi => have h1 := h x (by simp [Ins.opds]); simp only [Ins.reads, h1]
  | _ => rfl
end
def Known (ρ : Ho) (C : Nat → Option AObj) (H : AHeap) : Prop := ∀ f o, (∃ g h, ρ f g = some h) → H.t.get f = some o → C f = some o
def Globs (P : Program) (ρ : Ho) : Prop := ∀ g, g < P.globals.size → ∃ h, ρ g 1 = some h ∧ h.blk = g ∧ h.off = 0
structure CallOk (P : Program) (call : CallF) : Prop where
  tame : ∀ f args H, H.mrk ≤ H.next → TM H (call f args H)
  sound : ∀ f args H v H' ρ C w (cargs : Array Value), call f args H = .ok v H' → H.mrk ≤ H.next → (∀ x, H.next ≤ x → H.t.get x = none) → R ρ C w → Known ρ C H → Free ρ H.next H'.next → Globs P ρ → VRs ρ args cargs.toList →
    ((callFunc f cargs).run P w = .ok (.enter f cargs) w ∧ Calls P f cargs w fun e w' => ∃ cv, e = .returned cv ∧ Post ρ C w H v H' cv w') ∨
    ∃ cv w', (callFunc f cargs).run P w = .ok (.value cv) w' ∧ Post ρ C w H v H' cv w'
section
variable {P : Program} {ρ : Ho} {nt : Nat} {E : Env} {a : Act} {C : Nat → Option AObj} {w : World} {H H' : AHeap} {v : AVal} {o : Oper} {call : CallF}
theorem call_sound (hA : AR P ρ nt E a) (hR : R ρ C w) (hF : Free ρ H.next H'.next) (hK : Known ρ C H) (hm : H.mrk ≤ H.next) (hwf : ∀ x, H.next ≤ x → H.t.get x = none) (hc : CallOk P call) {c : Call} {f : Nat} {args : List Opd}
    (ho : o.op = .call c) (hcl : c.callee = .value (.func f)) (hx : opdsOf P c.args.toList = some args) (h : eCall f args call E H = .ok v H') : OpOk P o a w (Post ρ C w H v H') := by
  replace h := ob_ok h; obtain ⟨vs, hv, h⟩ := h
  have h1 := hA.opds hx hv
  rcases hc.sound f vs H v H' ρ C w (c.args.map a.eval) h hm hwf hR hK hF hA.glob (by simpa using h1) with ⟨hp, hcs⟩ | ⟨cv, w', hp, hpost⟩
  · refine .inr (.inr ⟨f, c.args.map a.eval, ?_, hcs⟩)
    simp [execOp, ho, resolve, hcl, Deferred.ofValue, Act.eval, invoke, hp]
  · refine .inl ⟨cv, w', ?_, hpost⟩
    simp [execOp, ho, resolve, hcl, Deferred.ofValue, Act.eval, invoke, hp]
theorem callv_sound (hA : AR P ρ nt E a) (hR : R ρ C w) (hF : Free ρ H.next H'.next) (hK : Known ρ C H) (hm : H.mrk ≤ H.next) (hwf : ∀ x, H.next ≤ x → H.t.get x = none) (hc : CallOk P call) {c : Call} {x : Operand} {x' : Opd} {args : List Opd}
    (ho : o.op = .call c) (hcl : c.callee = .value x) (hx' : opdOf P x = some x') (hx : opdsOf P c.args.toList = some args) (h : eCallv x' args call E H = .ok v H') : OpOk P o a w (Post ρ C w H v H') := by
  replace h := withO_ok h; obtain ⟨u, hu, h⟩ := h
  replace h := onFunc_ok h; obtain ⟨f, fs, caps, rfl, h⟩ := h
  replace h := ob_ok h; obtain ⟨vs, hv, h⟩ := h
  have h1 := hA.opds hx hv
  have h2 := hA.opd hx' hu
  simp only [VR] at h2
  obtain ⟨cf, cc, h2, h4, h3⟩ := h2
  rcases hc.sound f (fs ++ (vs ++ caps)) H v H' ρ C w (cf ++ c.args.map a.eval ++ cc) h hm hwf hR hK hF hA.glob (by simpa using VRs.append h4 (VRs.append h1 h3)) with ⟨hp, hcs⟩ | ⟨cv, w', hp, hpost⟩
  · refine .inr (.inr ⟨f, cf ++ c.args.map a.eval ++ cc, ?_, hcs⟩)
    rw [Array.append_assoc] at hp ⊢
    simp [execOp, ho, resolve, hcl, Deferred.ofValue, h2, invoke, hp]
  · refine .inl ⟨cv, w', ?_, hpost⟩
    rw [Array.append_assoc] at hp
    simp [execOp, ho, resolve, hcl, Deferred.ofValue, h2, invoke, hp]
end
end Go.Ev
namespace Go.Ev
section
variable {P : Program} {ρ : Ho} {nt : Nat} {E : Env} {a : Act} {C : Nat → Option AObj} {w : World} {H H' : AHeap} {v : AVal} {o : Oper} {call : CallF} {io : Ins}
def ReadsOk (io : Ins) (E : Env) (ρ : Ho) (C : Nat → Option AObj) (H : AHeap) : Prop :=
  ∀ f o, (∀ l, io.reads E = some l → f ∈ l) → (∃ g h, ρ f g = some h) → H.t.get f = some o → C f = some o
theorem opdsOf_one {l : List Operand} {x' : Opd} (h : opdsOf P l = some [x']) : ∃ x, l = [x] ∧ opdOf P x = some x' := by
  cases l with
  | nil => simp [opdsOf] at h
  | cons x r =>
    simp only [opdsOf] at h
    split at h
    · rename_i y l hy hl
      cases h
      cases r with
      | nil => exact ⟨x, rfl, hy⟩
      | cons z s =>
        simp only [opdsOf] at hl
        split at hl <;> cases hl
    · cases h
theorem opdsOf_cons {l : List Operand} {x' : Opd} {r' : List Opd} (h : opdsOf P l = some (x' :: r')) : ∃ x r, l = x :: r ∧ opdOf P x = some x' ∧ opdsOf P r = some r' := by
  cases l with
  | nil => simp [opdsOf] at h
  | cons x r =>
    simp only [opdsOf] at h
    split at h
    · rename_i y l hy hl
      cases h
      exact ⟨x, r, rfl, hy, hl⟩
    · cases h
theorem array_of_list {c : Array Operand} {l : List Operand} (h : c.toList = l) : c = l.toArray := by rw [← h]
theorem callOf_sound (hA : AR P ρ nt E a) (hR : R ρ C w) (hF : Free ρ H.next H'.next) (hK : ReadsOk io E ρ C H) (hm : H.mrk ≤ H.next) (hwf : ∀ x, H.next ≤ x → H.t.get x = none) (hc : CallOk P call) {c : Call}
    (ho : o.op = .call c) (hio : callOf P c = some io) (h : io.ev call E H = .ok v H') : OpOk P o a w (Post ρ C w H v H') := by
  unfold callOf at hio
  split at hio
  · rename_i f args hcl hargs
    split at hio
    · rename_i f
      cases hio
      exact call_sound hA hR hF (fun f o' => hK f o' (fun l e => by cases e)) hm hwf hc ho hcl hargs h
    · split at hio
      · rename_i y hy
        cases hio
        exact callv_sound hA hR hF (fun f o' => hK f o' (fun l e => by cases e)) hm hwf hc ho hcl hy hargs h
      · cases hio
  · rename_i x' hcl hargs
    obtain ⟨x, hl, hx⟩ := opdsOf_one hargs
    have hl := array_of_list hl
    split at hio
    · rename_i t ht
      split at hio
      · rename_i hu
        cases hio
        exact lenS_sound hA hR ho hcl hl hx ht hu h
      · rename_i e hu
        cases hio
        exact len_sound hA hR ho hcl hl hx ht hu h
      · rename_i n e hu
        cases hio
        exact lenK_sound (E := E) hR ho hcl hl ht hu h
      · cases hio
    · cases hio
  · rename_i x' y' hcl hargs
    obtain ⟨x, r, hl, hx, hr⟩ := opdsOf_cons hargs
    obtain ⟨y, hl2, hy⟩ := opdsOf_one hr
    subst hl2
    have hl := array_of_list hl
    split at hio
    · rename_i t u ht hu
      split at hio
      · rename_i e e2 hut huu
        split at hio
        · rename_i i z hi hz
          split at hio
          · rename_i hb
            cases hio
            exact app_sound hA hR hF ho hcl hl hx hy ht hu hut huu hi hz hb (fun f o' hf => hK f o' (fun l e => by cases e; exact hf)) h
          · cases hio
        · cases hio
      · rename_i e hut huu
        split at hio
        · rename_i i z hi hz
          split at hio
          · rename_i hb
            cases hio
            exact appStr_sound hA hR hF ho hcl hl hx hy ht hu hut huu hi hz hb.1 hb.2 (fun f o' hf => hK f o' (fun l e => by cases e; exact hf)) h
          · cases hio
        · cases hio
      · cases hio
    · cases hio
  · rename_i x' hcl hargs
    obtain ⟨x, hl, hx⟩ := opdsOf_one hargs
    have hl := array_of_list hl
    cases hio
    exact usd_sound hA hR ho hcl hl hx h
  · rename_i x' y' hcl hargs
    obtain ⟨x, r, hl, hx, hr⟩ := opdsOf_cons hargs
    obtain ⟨y, hl2, hy⟩ := opdsOf_one hr
    subst hl2
    have hl := array_of_list hl
    split at hio
    · rename_i pt it hpt
      have hpt : c.argTypes = #[pt, it] := Array.ext' hpt
      split at hio
      · rename_i e hp
        split at hio
        · rename_i he
          cases hio
          exact ustr_sound hA hR ho hcl hl hx hy hpt hp he (fun f o' hf => hK f o' (fun l e => by cases e; exact hf)) h
        · cases hio
      · cases hio
    · cases hio
  · rename_i l hcl hargs
    cases l with
    | nil => cases hio
    | cons x' r' =>
      obtain ⟨x, r, hl, hx, hr⟩ := opdsOf_cons hargs
      cases hio
      exact minmax_sound (mx := false) hA hR ho hcl hl hx hr h
  · rename_i l hcl hargs
    cases l with
    | nil => cases hio
    | cons x' r' =>
      obtain ⟨x, r, hl, hx, hr⟩ := opdsOf_cons hargs
      cases hio
      exact minmax_sound (mx := true) hA hR ho hcl hl hx hr h
  · cases hio
theorem ins_sound (hio : ioOf P o.op = some io) (hA : AR P ρ nt E a) (hR : R ρ C w) (hF : Free ρ H.next H'.next) (hK : ReadsOk io E ρ C H) (hm : H.mrk ≤ H.next) (hwf : ∀ x, H.next ≤ x → H.t.get x = none) (hc : CallOk P call)
    (h : io.ev call E H = .ok v H') : OpOk P o a w (Post ρ C w H v H') := by
  generalize hop : o.op = op at hio
  unfold ioOf at hio
  split at hio
  · split at hio
    · rename_i y hy; cases hio; exact mov_sound hA hR (.inl hop) hy h
    · cases hio
  · split at hio
    · rename_i y hy; cases hio; exact mov_sound hA hR (.inr hop) hy h
    · cases hio
  · split at hio
    · rename_i c' a' b' h1 h2 h3; cases hio; exact pick_sound hA hR hop h1 h2 h3 h
    · cases hio
  · split at hio
    · rename_i z i hz hi; cases hio; exact boxz_sound (E := E) hR hF hop hz hi h
    · cases hio
  · split at hio
    · rename_i n i y hn hi hy; cases hio; exact box_sound hA hR hF hop hy hn h
    · cases hio
  · exact build_sound hA hR hop hio h
  · exact buildSl_sound hA hR hF hop hio h
  · split at hio
    · rename_i n y hn hy; cases hio; exact load_sound hA hR hop hy hn (fun f o' hf => hK f o' (fun l e => by cases e; exact hf)) h
    · cases hio
  · split at hio
    · rename_i n y z hn hy hz; cases hio; exact store_sound hA hR hop hy hz hn (fun f o' hf => hK f o' (fun l e => by cases e; exact hf)) h
    · cases hio
  · split at hio
    · rename_i y hy; cases hio; exact nilck_sound hA hR hop hy h
    · cases hio
  · split at hio
    · rename_i x' y' hx hy
      unfold binOf at hio
      split at hio
      · cases hio; exact bin_sound hA hR hop hx hy h
      · cases hio; exact bin_sound hA hR hop hx hy h
      · rename_i fs hu; exact eqAgg_sound hA hR hop hx hy hu hio h
      · rename_i d _ _ _ hu; exact eqv_sound hA hR hop hx hy hu hio h
      · cases hio
    · cases hio
  · split at hio
    · rename_i y hy; cases hio; exact un_sound hA hR hop hy h
    · cases hio
  · split at hio
    · rename_i y hy
      unfold convOf at hio
      split at hio
      · rename_i hs hd; cases hio; exact conv_sound hA hR hop hy hs hd h
      · exact conv2_sound hA hR hF hop hy hio (fun f o' hl => hK f o' hl) h
    · cases hio
  · split at hio
    · cases hio
    · rename_i d y hne hd hy; cases hio; exact mkif_sound hA hR hop hd (fun ms e => hne ms (e ▸ rfl)) hy h
    · cases hio
  · split at hio
    · rename_i fs l hfs hl; cases hio; exact mkfn_sound hA hR hop hfs hl h
    · cases hio
  · split at hio
    · rename_i x' y' hx hy; exact mksl_sound hA hR hF hop hx hy hio h
    · cases hio
  · split at hio
    · rename_i x' lo' hi' ht hx hlo hhi; cases hio; exact slStr_sound hA hR hop hx hlo hhi ht h
    · rename_i e x' lo' hi' ht hx hlo hhi
      split at hio
      · rename_i n hn; cases hio; exact slSl_sound hA hR hop hx hlo hhi ht hn h
      · cases hio
    · cases hio
    · cases hio
  · split at hio
    · rename_i fs y hs hy
      split at hio
      · rename_i fd hf
        split at hio
        · rename_i n hn
          cases hio
          obtain ⟨i, d, hi, _, e, h0⟩ := sizeT_ok hn
          exact offs_sound hA hR hop hy hs hf hi (by omega) h
        · cases hio
      · cases hio
    · cases hio
  · split at hio
    · rename_i fs y hs hy
      split at hio
      · rename_i fd hf
        split at hio
        · rename_i n hn; cases hio; exact sub_sound hA hR hop hy hs hf hn h
        · cases hio
      · cases hio
    · cases hio
  · split at hio
    · rename_i k e x' i' ht hx hi
      split at hio
      · rename_i n hn
        split at hio
        · cases hio; exact idxArr_sound hA hR hop hx hi ht hn h
        · cases hio
      · cases hio
    · rename_i e x' i' ht hx hi
      split at hio
      · rename_i n hn; cases hio; exact idxSl_sound hA hR hop hx hi ht hn h
      · cases hio
    · cases hio
  · split at hio
    · rename_i k e x' i' ht hx hi
      split at hio
      · rename_i n hn; cases hio; exact idxVal_sound hA hR hop hx hi ht hn h
      · cases hio
    · rename_i x' i' ht hx hi
      cases hio
      exact idxStr_sound hA hR hop hx hi ht h
    · cases hio
  · split at hio
    · rename_i y hy; cases hio; exact extr_sound hA hR hop hy h
    · cases hio
  · exact callOf_sound hA hR hF hK hm hwf hc hop hio h
  · cases hio
end
end Go.Ev
