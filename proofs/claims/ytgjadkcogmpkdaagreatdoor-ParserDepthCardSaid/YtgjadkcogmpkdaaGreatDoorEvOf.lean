/- A part of an evaluator for the program's code: unsafe.String over a row of bytes. It holds for every program. -/
import Derived.Test.YtgjadkcogmpkdaaGreatDoorEvOe
/-! unsafe.String over a row of bytes. -/
set_option linter.unusedVariables false
set_option linter.unusedSimpArgs false
namespace Go.Ev
section
variable {P : Program} {ρ : Ho} {nt : Nat} {E : Env} {a : Act} {C : Nat → Option AObj} {w : World} {H H' : AHeap} {v : AVal} {o : Oper} {call : CallF}

theorem freeze_heap (w : World) (b n : Nat) (hn : n ≠ 0) (k : Nat) : (w.freeze ⟨b, 0, none⟩ n).heap[k]? = (w.heap[k]?).map fun ob => if k = b then (match ob with
      | .cells c elem (lo, hi) => .cells c elem (if lo == hi then (0, 0 + n) else (min lo 0, max hi (0 + n)))
      | o => o) else ob := by
  unfold World.freeze
  rw [if_neg hn]
  show (w.heap.modify b _)[k]? = _
  rw [Array.getElem?_modify]
  by_cases h : k = b
  · subst h
    rw [if_pos rfl]
    congr 1
    funext ob
    rw [if_pos rfl]
    cases ob <;> rfl
  · rw [if_neg (fun e => h e.symm)]
    cases w.heap[k]? <;> simp [h]

/-- the row's bytes below n are frozen -/
theorem R.freeze (hR : R ρ C w) {f g n m lo fl elem bts : Nat} {cs : RT} {hm : Hm} (hC : C f = some (.row elem 1 bts m lo fl cs)) (hh : ρ f g = some hm) (hlo : lo ≤ g) (hgm : g ≤ m) (hn : n ≠ 0) (hng : n ≤ g) (hfl : fl = 0 ∨ fl = 2)
    (W : Nat → Prop) (hW : W f) (n0 : Nat) : Ext W n0 n0 ρ ρ w (w.freeze ⟨hm.blk, 0, none⟩ n) ∧ R ρ (fun x => if x = f then some (.row elem 1 bts m lo 2 cs) else C x) (w.freeze ⟨hm.blk, 0, none⟩ n) := by
  obtain ⟨he, hro, _, hrow⟩ := hR.obj f _ hC g hm hh
  have hrow := hrow hlo hgm
  have hro' : hm.ro = false := by
    cases h : hm.ro
    · rfl
    · have := hro h; omega
  have hoff := hrow.off0 hfl
  obtain ⟨c, fz, hblk, hsz⟩ := hrow.row
  have hfz := hrow.fz0 hfl _ _ _ hblk
  have hheap := freeze_heap w hm.blk n hn
  have hoth : ∀ k, k ≠ hm.blk → (w.freeze ⟨hm.blk, 0, none⟩ n).heap[k]? = w.heap[k]? := fun k hk => by
    rw [hheap k]
    cases w.heap[k]? <;> simp [hk]
  obtain ⟨fz', hnew, hfz'⟩ : ∃ fz', (w.freeze ⟨hm.blk, 0, none⟩ n).heap[hm.blk]? = some (.cells c elem fz') ∧ fz'.2 ≤ m := by
    rw [hheap hm.blk, hblk]
    obtain ⟨l1, h1⟩ := fz
    simp only [Option.map_some, if_true]
    by_cases hb : l1 = h1
    · subst hb
      exact ⟨(0, 0 + n), by simp, by simp; omega⟩
    · refine ⟨(min l1 0, max h1 (0 + n)), by simp [hb], ?_⟩
      have : h1 ≤ m := by
        rcases hfz with h | h
        · exact absurd h hb
        · simpa using h
      simp only
      omega
  have hcell : ∀ ad : Addr, (w.freeze ⟨hm.blk, 0, none⟩ n).cell? ad = w.cell? ad := fun ad => by
    by_cases hb : ad.block = hm.blk
    · simp only [World.cell?, hb, hnew, hblk]
    · exact cell_of_heap (w := w) (hoth _ hb)
  have hsize : (w.freeze ⟨hm.blk, 0, none⟩ n).heap.size = w.heap.size := by
    unfold World.freeze
    rw [if_neg hn]
    simp
  refine ⟨⟨Ho.le_refl _, fun f' g' h' e => .inl ⟨g', h', e⟩, fun _ _ _ e => .inl e, fun b _ hb => hoth b fun e => hb f g hm hh hro' hW e.symm, by rw [hsize]; exact Nat.le_refl _, Nat.le_refl _, ?_, ?_, ?_⟩, ⟨?_, hR.disj, fun f' g' h' e => by rw [hsize]; exact hR.inb f' g' h' e, hR.uniq⟩⟩
  · unfold World.freeze; rw [if_neg hn]
  · unfold World.freeze; rw [if_neg hn]
  · unfold World.freeze; rw [if_neg hn]
  · intro f' o' ho' g' h' hx
    have ho2 : (if f' = f then some (AObj.row elem 1 bts m lo 2 cs) else C f') = some o' := ho'
    clear ho'
    by_cases e : f' = f
    · rw [if_pos e] at ho2
      subst e
      cases ho2
      obtain ⟨_, r1, r2, r3⟩ := hR.obj f' _ hC g' h' hx
      refine ⟨he, fun h => by have := r1 h; omega, r2, fun a1 a2 => ?_⟩
      have r := r3 a1 a2
      have cellOk : ∀ i, i < g' → ∃ l, cs.get i = some l ∧ l.length = 1 ∧ ∀ j x, l[j]? = some x → okCell x = true ∧ ∃ cv, (w.freeze ⟨hm.blk, 0, none⟩ n).cell? ⟨h'.blk, h'.off + i * 1 + j, none⟩ = some cv ∧ VR ρ x cv := fun i hi => by
        obtain ⟨l, l1, l2, l3⟩ := r.cell i hi
        exact ⟨l, l1, l2, fun j x hj => by rw [hcell]; exact l3 j x hj⟩
      by_cases hb : h'.blk = hm.blk
      · obtain ⟨c1, fz1, q1, q2⟩ := r.row
        rw [hb, hblk] at q1
        cases q1
        refine ⟨⟨c, fz', by rw [hb]; exact hnew, q2⟩, r.fits, cellOk, fun h => by omega, fun _ i hi _ => ?_, fun _ => r.off0 hfl, fun _ c1 e1 fz1 hc1 => ?_⟩
        · simp only [World.frozen?, hb, hnew]
          obtain ⟨l1, h1⟩ := fz'
          simp only at hfz' ⊢
          simp
          omega
        · rw [hb, hnew] at hc1
          cases hc1
          right; omega
      · have hw := hoth _ hb
        refine ⟨by rw [hw]; exact r.row, r.fits, cellOk, fun h => by omega, fun _ i hi hi2 => by rw [frozen_of_heap (w := w) hw]; exact r.open2 (by omega) i hi hi2, fun _ => r.off0 hfl, fun _ c1 e1 fz1 hc1 => r.fz0 hfl c1 e1 fz1 (by rw [← hw]; exact hc1)⟩
    · rw [if_neg e] at ho2
      refine (hR.obj f' o' ho2 g' h' hx).keep (Ho.le_refl _) (hoth _ fun hb => ?_)
      have := (hR.disj _ _ _ _ _ _ hx hh e hb).2
      rw [hro'] at this; cases this

theorem frz_ok {f e : Nat} {k : AHeap → Res} (h : frz f e H k = .ok v H') : ∃ bts m lo fl cs, H.t.get f = some (.row e 1 bts m lo fl cs) ∧ (fl = 0 ∨ fl = 2) ∧ k ⟨H.next, H.mrk, wrote f H.mrk H.ws, H.t.set f (.row e 1 bts m lo 2 cs)⟩ = .ok v H' := by
  cases H with
  | mk next mrk ws t =>
    have h : onRow (t.get f) (Res.err 46) (fun elem es bts m lo fl cs =>
      chk (Nat.beq elem e) (chk (Nat.beq es 1) (chk (chk (Nat.beq fl 0) true (Nat.beq fl 2)) (t.setC f (.row elem es bts m lo 2 cs) fun t => k ⟨next, mrk, wrote f mrk ws, t⟩) (.err 46)) (.err 46)) (.err 46)) = .ok v H' := h
    cases hg : t.get f with
    | none => rw [hg] at h; cases h
    | some ob => cases ob with
      | map => rw [hg] at h; cases h
      | row elem es bts m lo fl cs =>
        rw [hg] at h
        have h : chk (Nat.beq elem e) (chk (Nat.beq es 1) (chk (chk (Nat.beq fl 0) true (Nat.beq fl 2)) (t.setC f (.row elem es bts m lo 2 cs) fun t => k ⟨next, mrk, wrote f mrk ws, t⟩) (.err 46)) (.err 46)) (.err 46) = .ok v H' := h
        replace h := chk_ok h; obtain ⟨b1, h⟩ := h
        replace h := chk_ok h; obtain ⟨b2, h⟩ := h
        replace h := chk_ok h; obtain ⟨b3, h⟩ := h
        rw [HT.setC_eq] at h
        have b1 := Nat.eq_of_beq_eq_true b1
        have b2 := Nat.eq_of_beq_eq_true b2
        have hz := h
        subst b1; subst b2
        have hg2 : ({ next := next, mrk := mrk, ws := ws, t := t } : AHeap).t.get f = some (AObj.row elem 1 bts m lo fl cs) := hg
        refine ⟨bts, m, lo, fl, cs, rfl, ?_, hz⟩
        cases b4 : Nat.beq fl 0
        · rw [b4] at b3; exact .inr (Nat.eq_of_beq_eq_true b3)
        · exact .inl (Nat.eq_of_beq_eq_true b4)

theorem ustr_sound (hA : AR P ρ nt E a) (hR : R ρ C w) {c : Call} {x y : Operand} {x' y' : Opd} {pt it e : TypeId} (ho : o.op = .call c) (hc : c.callee = .builtin .unsafeString) (hargs : c.args = #[x, y]) (hx : opdOf P x = some x') (hy : opdOf P y = some y')
    (hts : c.argTypes = #[pt, it]) (hp : P.underlying pt = some (.pointer e)) (hce : P.cellsOf e = 1) (hC : ∀ f o, f ∈ famOf (x'.ev E) → (∃ g h, ρ f g = some h) → H.t.get f = some o → C f = some o)
    (h : eUstr e x' y' E H = .ok v H') : OpOk P o a w (Post ρ C w H v H') := by
  replace h := withO_ok h; obtain ⟨u, hu, h⟩ := h
  replace h := onPtr_ok h; obtain ⟨f, g, off, rfl, h⟩ := h
  replace h := withO_ok h; obtain ⟨u2, hu2, h⟩ := h
  replace h := onInt_ok h; obtain ⟨k, l0, rfl, h⟩ := h
  replace h := onNat_ok h; obtain ⟨l, rfl, h⟩ := h
  replace h := chk_ok h; obtain ⟨b1, h⟩ := h
  replace h := chk_ok h; obtain ⟨b2, h⟩ := h
  replace h := chk_ok h; obtain ⟨b3, h⟩ := h
  replace h := chk_ok h; obtain ⟨b4, h⟩ := h
  replace h := ob_ok h; obtain ⟨L, hL, h⟩ := h
  replace h := ob_ok h; obtain ⟨s, hs, h⟩ := h
  rw [seqNat_eq] at h
  obtain ⟨bts, m, lo, fl, cs, hg, hfl, h⟩ := frz_ok h
  cases h
  have b1 := Nat.eq_of_beq_eq_true b1
  have b2 := Nat.eq_of_beq_eq_true b2
  have b3 := Nat.le_of_ble_eq_true b3
  have b4 := Nat.le_of_ble_eq_true b4
  have hk : k = .i64 := by cases k <;> simp [ikN] at b2 <;> rfl
  subst hk; subst b1
  have h1 := hA.opd hx hu
  have h2 := hA.opd hy hu2
  simp only [VR] at h1 h2
  obtain ⟨hm, hh, h1⟩ := h1
  obtain ⟨hlen, hel⟩ := elems_ok hL
  obtain ⟨bl, g1, g2, g3⟩ := unbytes_ok hs
  have hbl : bl.length = l := g1.trans hlen
  subst hbl
  have hCf := hC f _ (by rw [hu]; simp [famOf]) ⟨_, _, hh⟩ hg
  have hlast := hel (bl.length - 1) _ (List.getElem?_eq_getElem (by omega))
  obtain ⟨elem', es', bts', m', lo', fl', cs', x1, hg', q1, q2, q3, q4, q5, _⟩ := hlast
  rw [hg] at hg'
  cases hg'
  have hng : bl.length ≤ g := by simp at q4; omega
  obtain ⟨_, _, _, hrow⟩ := hR.obj f _ hCf g hm hh
  have hrow := hrow q1 q2
  have hoff := hrow.off0 hfl
  obtain ⟨cc, fz, hblk, hsz⟩ := hrow.row
  have hfit := hrow.fits
  have hsh : w.shape? hm.blk = some (e, cc.size) := by simp [World.shape?, hblk]
  have hrun := Lib.run_unsafeString_row (P := P) w pt it o.type e hp hce hm.blk cc.size hsh bl (by intro e0; rw [e0] at b3; simp at b3) (by omega) (by omega) (fun j b hj => by
    have hrd := hel j _ (g3 j b hj)
    obtain ⟨_, _, hcl⟩ := hR.rd hrd (hCf.trans hg.symm) hh (by omega)
    obtain ⟨cv, hc1, hc2⟩ := hcl 0 _ rfl
    simp only [VR] at hc2
    subst hc2
    rw [Addr.add_lit]
    simpa [hoff] using hc1)
  obtain ⟨r1, r2⟩ := hR.freeze (n := bl.length) hCf hh q1 q2 (by omega) hng hfl (Wr ⟨H.next, H.mrk, wrote f H.mrk H.ws, H.t.set f (.row e 1 bts m lo 2 cs)⟩) (wrote_Wr _ _ _) H.next
  refine .inl ⟨.string ⟨bl.toArray⟩, w.freeze ⟨hm.blk, 0, none⟩ bl.length, ?_, ρ, ?_, r1, ?_⟩
  · rw [hoff] at h1
    have h2 : a.eval y = .int .i64 bl.length := h2
    simp [execOp, ho, resolve, hc, hargs, invoke, builtin, h1, h2, hts, hrun]
  · simp only [VR]
    exact ⟨_, rfl, rfl, by rw [g2]⟩
  · rw [upd_write (hCf.trans hg.symm) hg]
    exact r2
end
end Go.Ev
