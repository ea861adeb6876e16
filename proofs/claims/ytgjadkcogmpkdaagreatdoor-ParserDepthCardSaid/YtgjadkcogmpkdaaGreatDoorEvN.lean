/- A part of an evaluator for the program's code: append: the operation. It holds for every program. -/
import Derived.Test.YtgjadkcogmpkdaaGreatDoorEvM
/-! append: the operation. -/
set_option linter.unusedVariables false
set_option linter.unusedSimpArgs false
namespace Go.Ev
section
variable {P : Program} {ρ : Ho} {nt : Nat} {E : Env} {a : Act} {C : Nat → Option AObj} {w : World} {H H' : AHeap} {v : AVal} {o : Oper}

theorem zeroOf_ok {t : TypeId} {z : List AVal} (hz : zeroOf P t = some z) : ∃ i zv, P.info? t = some i ∧ i.zero = some zv ∧ (∀ ρ, VRs ρ z zv.cells.toList) ∧ z.all okCell = true ∧ z.length = i.size ∧ 0 < i.size ∧ zv.cells.size = i.size := by
  unfold zeroOf at hz
  split at hz
  · rename_i i hi
    split at hz
    · rename_i zv hzv
      split at hz
      · rename_i av hav
        split at hz
        · rename_i l hl
          split at hz
          · rename_i hsz
            cases hz
            have hc := fun ρ => (valOf_ok ρ _ _ hav).cells (cellsOf_ok hl)
            refine ⟨i, zv, hi, hzv, fun ρ => (hc ρ).1, (hc (fun _ _ => none)).2, hsz.1, hsz.2, ?_⟩
            have := (hc (fun _ _ => none)).1.length
            rw [Array.length_toList] at this
            omega
          · cases hz
        · cases hz
      · cases hz
    · cases hz
  · cases hz

theorem size_zeroCells (z : Array Value) (n : Nat) : (Builtin.zeroCells z n).size = n * z.size := by simp [Builtin.zeroCells]

theorem chk_no {b : Bool} {k : Res} {n : Nat} (h : chk b (.err n) k = .ok v H') : b = false ∧ k = .ok v H' := by
  cases b
  · exact ⟨rfl, h⟩
  · cases h

theorem nil_sound (hR : R ρ C w) (hF : Free ρ H.next H'.next) {t tx ty e : TypeId} {i : TypeInfo} {z : List AVal} {yc : Value} {n : Nat} {new : List (List AVal)} {news : List Value}
    (ht : P.underlying t = some (.slice e)) (hi : P.info? e = some i) (hz : zeroOf P e = some z) (hb : i.bytes ≠ 0) (hn : 0 < n) (hl : new.length = n) (hfl : Flat ρ i.size new news) (hs : Src P i.size tx yc n news w)
    (h : appNil e i.size i.bytes n new H = .ok v H') : ∃ cv w', (Builtin.append_ #[t, tx] ty #[.slice none 0 0, yc]).run P w = .ok cv w' ∧ Post ρ C w H v H' cv w' := by
  replace h := chk_ok h; obtain ⟨hbd, h⟩ := h
  rw [fillC_eq] at h
  have h := alloc_ok h
  cases h
  have hbd := Nat.le_of_ble_eq_true hbd
  have hbd : n * i.bytes ≤ 70368744177664 := hbd
  obtain ⟨i', zv, hi', hzv, _, _, _, hpos, hzs⟩ := zeroOf_ok hz
  rw [hi] at hi'
  cases hi'
  have hnb : n ≤ n * i.bytes := Nat.le_mul_of_pos_right _ (by omega)
  have hge := grownCap_ge w (0 + n) 0 e
  have hrun := run_append_grow_src (P := P) w t tx ty e i zv ht hi hzv none 0 0 [] (run_firstCells_none w.drew i.size 0 0 0) yc n news hs (by omega) (by omega) (growslice_fits (by omega) (by rw [Nat.zero_add]; omega))
  generalize grownCap w (0 + n) 0 e = cp at *
  have hnl : news.length = n * i.size := by rw [hfl.len, hl]
  obtain ⟨ρ', h1, h2, h3⟩ := hR.alloc (f := H.next) (elem := e) (es := i.size) (bts := i.bytes) (n := n) (cs := fillTr new .emp 0) (cells := ([] ++ news).toArray ++ Builtin.zeroCells zv.cells (cp - (0 + n)))
    (w' := w.drew.alloc (.cells (([] ++ news).toArray ++ Builtin.zeroCells zv.cells (cp - (0 + n))) e))
    (Wr ⟨H.next + 1, H.mrk, H.ws, H.t.set H.next (.row e i.size i.bytes n n 0 (fillTr new .emp 0))⟩) (fun g => hF _ g (Nat.le_refl _) (Nat.lt_succ_self _)) hpos
    (by rw [Array.size_append, size_zeroCells]; simp [hnl])
    (fun k hk => by
      rw [fillTr_get, if_pos (by omega)]
      have hkl : k < new.length := by omega
      obtain ⟨l1, l2⟩ := hfl.get k _ (List.getElem?_eq_getElem hkl)
      refine ⟨_, by rw [Nat.sub_zero]; exact List.getElem?_eq_getElem hkl, l1, fun j x hx => ?_⟩
      obtain ⟨k1, cv, k2, k3⟩ := l2 j x hx
      refine ⟨k1, cv, ?_, k3⟩
      have := lt_of_get k2
      rw [Array.getElem?_append_left (by simpa using this)]
      simpa using k2) rfl rfl rfl rfl
  refine ⟨_, _, hrun, ρ', ?_, h2, ?_⟩
  · simp only [VR]
    refine ⟨_, _, _, h1, by rw [Nat.zero_add], by omega, .inl ⟨rfl, ?_⟩⟩
    simp only
    rw [Array.size_append, size_zeroCells, hzs, Nat.zero_add]
    simp only [List.nil_append, List.size_toArray, hnl]
    rw [← Nat.add_mul]
    exact Nat.mul_le_mul_right _ (by omega)
  · rw [upd_alloc]
    exact h3

theorem upd_write {f : Nat} {o o' : AObj} (hC : C f = H.t.get f) (_ho : H.t.get f = some o) : upd C H ⟨H.next, H.mrk, wrote f H.mrk H.ws, H.t.set f o'⟩ = fun x => if x = f then some o' else C x := by
  funext x
  unfold upd
  simp only
  rw [if_neg (by omega), HT.get_set]
  by_cases h : x = f
  · subst h
    rw [if_pos rfl, if_pos rfl]
    split
    · rename_i e; rw [hC, ← e]
    · rfl
  · rw [if_neg h, if_neg h, if_pos rfl]

theorem wrote_Wr (H : AHeap) (f : Nat) (t : HT) : Wr ⟨H.next, H.mrk, wrote f H.mrk H.ws, t⟩ f := by
  unfold Wr
  simp only [wrote_mem]
  by_cases hlt : f < H.mrk
  · exact .inl (.inr ⟨trivial, hlt⟩)
  · exact .inr (by omega)

theorem row_sound (hR : R ρ C w) {t tx ty e : TypeId} {i : TypeInfo} {z : List AVal} {yc : Value} {n : Nat} {new : List (List AVal)} {news : List Value} {f g off ln es' : Nat} {xc : Value}
    (ht : P.underlying t = some (.slice e)) (hi : P.info? e = some i) (hz : zeroOf P e = some z) (hb : i.bytes ≠ 0) (hn : 0 < n) (hl : new.length = n) (hfl : Flat ρ i.size new news) (hs : Src P i.size tx yc n news w)
    (hx : VR ρ (.slice f g off ln es') xc) (hC0 : ∀ o, (∃ g h, ρ f g = some h) → H.t.get f = some o → C f = some o)
    (h : appRow e i.size i.bytes n new H f g off ln es' = .ok v H') : ∃ cv w', (Builtin.append_ #[t, tx] ty #[xc, yc]).run P w = .ok cv w' ∧ Post ρ C w H v H' cv w' := by
  have h : onRow (H.t.get f) (Res.err 33) (fun elem' es'' bts' m lo fl cs =>
    chk (Nat.beq off 0) (chk (Nat.beq g m) (chk (Nat.ble lo g) (chk (Nat.beq ln m) (chk (Nat.beq es' i.size) (chk (Nat.beq es'' i.size) (chk (Nat.beq fl 1) (Res.err 32)
      (chk (Nat.ble (Nat.mul (Nat.add m n) i.bytes) 70368744177664) (chk (Nat.beq e elem')
        (seqNat (Nat.add m n) fun m' => fillC new cs m fun cs => H.t.setC f (.row elem' es'' bts' m' lo fl cs) fun t =>
          Res.ok (.slice f m' 0 m' i.size) ⟨H.next, H.mrk, wrote f H.mrk H.ws, t⟩) (Res.err 32)) (Res.err 32))) (Res.err 32)) (Res.err 32)) (Res.err 32)) (Res.err 32)) (Res.err 32)) (Res.err 32)) = Res.ok v H' := by
    cases H; exact h
  obtain ⟨elem', es'', bts', m, lo, fl, cs, hg, h⟩ := onRow_ok h
  replace h := chk_ok h; obtain ⟨a1, h⟩ := h
  replace h := chk_ok h; obtain ⟨a2, h⟩ := h
  replace h := chk_ok h; obtain ⟨a3, h⟩ := h
  replace h := chk_ok h; obtain ⟨a4, h⟩ := h
  replace h := chk_ok h; obtain ⟨a5, h⟩ := h
  replace h := chk_ok h; obtain ⟨a6, h⟩ := h
  replace h := chk_no h; obtain ⟨a7, h⟩ := h
  replace h := chk_ok h; obtain ⟨a8, h⟩ := h
  replace h := chk_ok h; obtain ⟨a9, h⟩ := h
  rw [seqNat_eq, fillC_eq, HT.setC_eq] at h
  have a1 := Nat.eq_of_beq_eq_true a1
  have a2 := Nat.eq_of_beq_eq_true a2
  have a3 := Nat.le_of_ble_eq_true a3
  have a4 := Nat.eq_of_beq_eq_true a4
  have a5 := Nat.eq_of_beq_eq_true a5
  have a6 := Nat.eq_of_beq_eq_true a6
  have a7 : fl ≠ 1 := by intro e; subst e; cases a7
  have a8 := Nat.le_of_ble_eq_true a8
  have a9 := Nat.eq_of_beq_eq_true a9
  cases h
  subst a1 a2 a4 a6 a9
  obtain ⟨i', zv, hi', hzv, _, _, _, hpos, hzs⟩ := zeroOf_ok hz
  rw [hi] at hi'
  cases hi'
  simp only [VR] at hx
  obtain ⟨hm, ad, cap, hh, rfl, hlc, hsl⟩ := hx
  have hC : C f = H.t.get f := (hC0 _ ⟨_, _, hh⟩ hg).trans hg.symm
  have hCf : C f = some (.row e i.size bts' ln lo fl cs) := hC.trans hg
  rcases hsl with ⟨rfl, hsl⟩ | ⟨_, _, hsl⟩
  case inr => omega
  rw [a5] at hsl
  obtain ⟨_, hro, _, hrow⟩ := hR.obj f _ hCf ln hm hh
  have hrow := hrow a3 (Nat.le_refl _)
  obtain ⟨c, fz, hblk, hroom⟩ := hrow.row
  have hnl : news.length = n * i.size := by rw [hfl.len, hl]
  have hnb : ln + n ≤ (ln + n) * i.bytes := Nat.le_mul_of_pos_right _ (by omega)
  have hbd : (ln + n) * i.bytes ≤ 70368744177664 := a8
  have hadd : (ln + n) * i.size = ln * i.size + n * i.size := Nat.add_mul _ _ _
  by_cases hcap : ln + n ≤ cap
  · have hfitc : (ln + n) * i.size ≤ cap * i.size := Nat.mul_le_mul_right _ hcap
    have hc1 : ∀ j, j < news.length → (w.cell? ⟨hm.blk, hm.off + 0 + ln * i.size + j, none⟩).isSome = true := by
      intro j hj
      simp only [World.cell?, hblk]
      rw [Array.getElem?_eq_getElem (by omega)]
      rfl
    have hf1 : ∀ j, j < news.length → w.frozen? ⟨hm.blk, hm.off + 0 + ln * i.size + j, none⟩ = false := by
      intro j hj
      rw [show hm.off + 0 + ln * i.size + j = hm.off + (ln * i.size + j) by omega]
      exact hrow.open2 a7 _ (by omega) (by omega)
    have hrun := run_append_room_src (P := P) w t tx ty e i ht hi hm.blk (hm.off + 0) ln cap yc n news hs hcap hc1 hf1
    obtain ⟨s1, s2, s3, s4, s5, s6⟩ := setCells_heap hm.blk news (hm.off + 0 + ln * i.size) w
    obtain ⟨c', hc', hcs'⟩ := s3 c e fz hblk
    have hout : ∀ q, q < ln * i.size → (w.setCells hm.blk (hm.off + 0 + ln * i.size) news).cell? ⟨hm.blk, hm.off + q, none⟩ = w.cell? ⟨hm.blk, hm.off + q, none⟩ := by
      intro q hq
      exact World.cell?_setCells_out _ _ _ _ _ (fun _ _ => by simp only; omega)
    obtain ⟨ρ', k1, k2, k3⟩ := hR.grow (H := H) (bts' := bts') (w' := w.setCells hm.blk (hm.off + 0 + ln * i.size) news) (h2 := hm)
      (Wr ⟨H.next, H.mrk, wrote f H.mrk H.ws, H.t.set f (.row e i.size bts' (Nat.add ln n) lo fl (fillTr new cs ln))⟩) (wrote_Wr _ _ _) hCf hh hl hn a3 a7 hfl
      (by rw [s1]; exact Nat.le_refl _) s4 s5 s6 (fun b _ hb => s2 b hb) ⟨c, c', e, fz, hblk, hc', hcs'⟩ hout (.inl rfl) (by rw [s1]; exact hR.inb _ _ _ hh)
      ⟨c', fz, hc', by omega⟩ (by omega) hout
      (fun j hj => by
        rw [show hm.off + ln * i.size + j = hm.off + 0 + ln * i.size + j by omega]
        rw [World.cell?_setCells_in _ _ _ _ hc1 j (by omega), ← List.getElem?_eq_getElem])
      (fun hne => absurd rfl hne)
    refine ⟨_, _, hrun, ρ', ?_, k2, ?_⟩
    · simp only [VR]
      exact ⟨hm, _, _, k1, rfl, hcap, .inl ⟨rfl, by omega⟩⟩
    · rw [upd_write hC hg]
      exact k3
  · have hcap : cap < ln + n := by omega
    -- the cells that are there
    have cellAt : ∀ q, q < ln * i.size → ∃ cv, w.cell? ⟨hm.blk, hm.off + q, none⟩ = some cv ∧ cv.oneCell' = true := by
      intro q hq
      have hi1 : q / i.size < ln := by rw [Nat.div_lt_iff_lt_mul hpos]; exact hq
      have hj : q % i.size < i.size := Nat.mod_lt _ hpos
      obtain ⟨l, l1, l2, l3⟩ := hrow.cell _ hi1
      obtain ⟨k1, cv, k2, k3⟩ := l3 (q % i.size) _ (List.getElem?_eq_getElem (by rw [l2]; exact hj))
      refine ⟨cv, ?_, oneCell_of k3 k1⟩
      have : q / i.size * i.size + q % i.size = q := by rw [Nat.mul_comm]; exact Nat.div_add_mod q i.size
      rwa [Nat.add_assoc, this] at k2
    obtain ⟨olds, ho1, ho2⟩ : ∃ olds : List Value, olds.length = ln * i.size ∧ ∀ q, q < ln * i.size → olds[q]? = w.cell? ⟨hm.blk, hm.off + q, none⟩ := by
      refine ⟨(List.range (ln * i.size)).map fun q => (w.cell? ⟨hm.blk, hm.off + q, none⟩).getD undef, by simp, fun q hq => ?_⟩
      obtain ⟨cv, k1, _⟩ := cellAt q hq
      simp [hq, k1]
    have hold : (Builtin.firstCells i.size ln (.slice (some ⟨hm.blk, hm.off + 0, none⟩) ln cap)).run P w.drew = .ok olds.toArray w.drew := by
      refine run_firstCells_some w.drew i.size ln _ ln cap olds ho1 fun j u hu => ?_
      rw [Addr.add_lit, Nat.add_zero]
      show w.cell? _ = _
      rw [← ho2 j (by have := lt_of_get hu; omega)]
      exact hu
    have hrun := run_append_grow_src (P := P) w t tx ty e i zv ht hi hzv (some ⟨hm.blk, hm.off + 0, none⟩) ln cap olds hold yc n news hs hcap (by omega) (growslice_fits hcap (by omega))
    have hge := grownCap_ge w (ln + n) cap e
    generalize grownCap w (ln + n) cap e = cp at *
    generalize hcells : (olds ++ news).toArray ++ Builtin.zeroCells zv.cells (cp - (ln + n)) = cells at *
    have hcsz : cells.size = cp * i.size := by
      rw [← hcells, Array.size_append, size_zeroCells, hzs]
      simp only [List.size_toArray, List.length_append, ho1, hnl]
      rw [← Nat.add_mul, ← Nat.add_mul]
      congr 1
      omega
    have hcg : ∀ q, q < (ln + n) * i.size → cells[q]? = (olds ++ news)[q]? := by
      intro q hq
      rw [← hcells, Array.getElem?_append_left (by simp [ho1, hnl]; omega)]
      simp
    have hnewcell : ∀ q, (w.drew.alloc (.cells cells e)).cell? ⟨w.heap.size, q, none⟩ = cells[q]? := by
      intro q
      have : (w.drew.alloc (.cells cells e)).heap[w.heap.size]? = some (.cells cells e (0, 0)) := by
        show (w.heap.push _)[w.heap.size]? = _
        simp
      simp only [World.cell?, this]
      simp
    have hheap : ∀ b, b < w.heap.size → (w.drew.alloc (.cells cells e)).heap[b]? = w.heap[b]? := fun b hb => by
      show (w.heap.push _)[b]? = _
      rw [Array.getElem?_push, if_neg (by omega)]
    have hfz0 : ∀ q, (w.drew.alloc (.cells cells e)).frozen? ⟨w.heap.size, q, none⟩ = false := by
      intro q
      have : (w.drew.alloc (.cells cells e)).heap[w.heap.size]? = some (.cells cells e (0, 0)) := by
        show (w.heap.push _)[w.heap.size]? = _
        simp
      simp only [World.frozen?, this]
      simp
    have hfitc : (ln + n) * i.size ≤ cp * i.size := Nat.mul_le_mul_right _ hge
    obtain ⟨ρ', k1, k2, k3⟩ := hR.grow (H := H) (bts' := bts') (w' := w.drew.alloc (.cells cells e)) (h2 := ⟨w.heap.size, 0, cells.size, false⟩)
      (Wr ⟨H.next, H.mrk, wrote f H.mrk H.ws, H.t.set f (.row e i.size bts' (Nat.add ln n) lo fl (fillTr new cs ln))⟩) (wrote_Wr _ _ _) hCf hh hl hn a3 a7 hfl
      (by show w.heap.size ≤ (w.heap.push _).size; simp) rfl rfl rfl (fun b hb _ => hheap b hb) ⟨c, c, e, fz, hblk, by rw [hheap _ (hR.inb _ _ _ hh)]; exact hblk, rfl⟩
      (fun q _ => cell_of_heap (w := w) (hheap _ (hR.inb _ _ _ hh))) (.inr ⟨Nat.le_refl _, rfl⟩) (by show w.heap.size < (w.heap.push _).size; simp)
      ⟨cells, (0, 0), by show (w.heap.push _)[w.heap.size]? = _; simp, by simp⟩ (by simp only; omega)
      (fun q hq => by
        rw [Nat.zero_add, hnewcell, hcg q (by omega), List.getElem?_append_left (by omega)]
        exact ho2 q hq)
      (fun j hj => by
        rw [Nat.zero_add, hnewcell, hcg _ (by omega), List.getElem?_append_right (by omega), ho1]
        congr 1
        omega)
      (fun _ => ⟨rfl, fun q => hfz0 q, fun c1 e1 fz1 hc1 => by
        have h0 : (w.heap.push (Obj.cells cells e))[w.heap.size]? = some (.cells c1 e1 fz1) := hc1
        simp at h0
        rw [← h0.2.2]⟩)
    refine ⟨_, _, hrun, ρ', ?_, k2, ?_⟩
    · simp only [VR]
      exact ⟨_, _, _, k1, rfl, by show ln + n ≤ cp; exact hge, .inl ⟨rfl, by simp only; omega⟩⟩
    · rw [upd_write hC hg]
      exact k3

end
end Go.Ev
