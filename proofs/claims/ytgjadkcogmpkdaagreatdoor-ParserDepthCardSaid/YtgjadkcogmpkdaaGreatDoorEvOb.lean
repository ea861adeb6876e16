/- A part of an evaluator for the program's code: build, buildSlice, makeSlice. It holds for every program. -/
import Derived.Test.YtgjadkcogmpkdaaGreatDoorEvO
import Derived.Laws.Tables
import Derived.Laws.MakeOwn
import Derived.Great.FillDense
/-! build, buildSlice, makeSlice. -/
set_option linter.unusedVariables false
set_option linter.unusedSimpArgs false
namespace Go.Ev
section
variable {P : Program} {ρ : Ho} {nt : Nat} {E : Env} {a : Act} {C : Nat → Option AObj} {w : World} {H H' : AHeap} {v : AVal} {o : Oper} {call : CallF}

/-- one part's cells into the cells -/
def putCells (cells : Array Value) (off : Nat) (v : Array Value) : Array Value := v.zipIdx.foldl (fun cs (c, j) => cs.setIfInBounds (off + j) c) cells
theorem putCells_size (cells : Array Value) (off : Nat) (v : Array Value) : (putCells cells off v).size = cells.size := by
  unfold putCells
  rw [← Array.foldl_toList, Array.toList_zipIdx]
  exact (Great.foldl_set off v.toList 0 cells).1
theorem putCells_get (cells : Array Value) (off : Nat) (v : Array Value) (k : Nat) : (putCells cells off v)[k]? = if off ≤ k ∧ k < off + v.size ∧ k < cells.size then v[k - off]? else cells[k]? := by
  unfold putCells
  rw [← Array.foldl_toList, Array.toList_zipIdx]
  rw [(Great.foldl_set off v.toList 0 cells).2 k]
  simp
theorem fill_step {place : Nat → Option (Nat × Nat)} {cells : Array Value} {i off size : Nat} {v : Value} {rest : List (Nat × Value)} (hp : place i = some (off, size)) (hs : v.cells.size = size) (hl : off + size ≤ cells.size) :
    Instr.fill place cells ((i, v) :: rest) = Instr.fill place (putCells cells off v.cells) rest := by
  rw [Instr.fill]
  simp only [hp, hs]
  rw [if_neg (by simp; omega)]
  rfl

theorem splice_ok {z new : List AVal} {off : Nat} (hz : z.all okCell = true) (hn : new.all okCell = true) : (splice z off new).all okCell = true := by
  unfold splice
  simp only [List.all_eq_true, List.mem_append] at *
  rintro x (hx | hx | hx)
  · exact hz x (List.mem_of_mem_take hx)
  · exact hn x hx
  · exact hz x (List.mem_of_mem_drop hx)

theorem fill_ok (hA : AR P ρ nt E a) {place : Nat → Option (Nat × Nat)} : ∀ {ps : List (Nat × Operand)} {ips : List (Nat × Nat × Opd)} (_ : partsP P place ps = some ips) (z : List AVal) (cells : Array Value) (acs : List AVal),
    (∀ p ∈ ips, p.1 + p.2.1 ≤ z.length) → VRs ρ z cells.toList → z.all okCell = true → buildA E ips z = some acs → ∃ cells', Instr.fill place cells (ps.map fun p => (p.1, a.eval p.2)) = some cells' ∧ VRs ρ acs cells'.toList ∧ acs.all okCell = true
  | [], ips, hp, z, cells, acs, _, hv, hk, h => by
    cases hp
    cases h
    exact ⟨cells, rfl, hv, hk⟩
  | (i, x) :: r, ips, hp, z, cells, acs, hle, hv, hk, h => by
    unfold partsP at hp
    split at hp
    · rename_i q y l hq hy hl
      cases hp
      have h : ob (y.ev E) none (fun v => ob (cellsOk v) none fun new => chk (Nat.beq (lenL new) q.2) (buildA E l (splice z q.1 new)) none) = some acs := h
      cases hu : y.ev E with
      | none => rw [hu] at h; cases h
      | some u =>
        rw [hu] at h
        cases hc : cellsOk u with
        | none => simp only [ob] at h; rw [hc] at h; cases h
        | some new =>
          have h : ob (cellsOk u) none (fun new => chk (Nat.beq (lenL new) q.2) (buildA E l (splice z q.1 new)) none) = some acs := h
          rw [hc] at h
          have h : chk (Nat.beq (lenL new) q.2) (buildA E l (splice z q.1 new)) none = some acs := h
          cases hb : Nat.beq (lenL new) q.2
          · rw [hb] at h; cases h
          · rw [hb, chk_true] at h
            have hb := Nat.eq_of_beq_eq_true hb
            rw [lenL_eq] at hb
            have h1 := (hA.opd hy hu).cells hc
            have hsz : (a.eval x).cells.size = new.length := by have := h1.1.length; simpa using this
            have hzl : cells.size = z.length := by have := hv.length; simpa using this
            have hle1 := hle (q.1, q.2, y) (List.mem_cons_self ..)
            have hle1 : q.1 + q.2 ≤ z.length := hle1
            have hsl := splice_length (l := z) (new := new) (r := q.1) (n := q.2) hle1 hb
            obtain ⟨cells', k1, k2, k3⟩ := fill_ok hA hl (splice z q.1 new) (putCells cells q.1 (a.eval x).cells) acs (fun p hp => by rw [hsl]; exact hle p (List.mem_cons_of_mem _ hp)) (VRs.of_get (by simp [putCells_size, hsl, hzl]) fun k av hk => by
                rw [splice_get hle1 hb] at hk
                simp only [Array.getElem?_toList, putCells_get, hsz]
                split at hk
                · rename_i hin
                  rw [if_pos (by omega)]
                  obtain ⟨cv, g1, g2⟩ := h1.1.get _ av hk
                  exact ⟨cv, by simpa using g1, g2⟩
                · rename_i hin
                  rw [if_neg (by omega)]
                  obtain ⟨cv, g1, g2⟩ := hv.get _ av hk
                  exact ⟨cv, by simpa using g1, g2⟩) (splice_ok hk h1.2) h
            refine ⟨cells', ?_, k2, k3⟩
            rw [List.map_cons, fill_step (off := q.1) (size := q.2) hq (hsz.trans hb) (by rw [hzl]; exact hle1)]
            exact k1
    · cases hp

theorem built_sound (hA : AR P ρ nt E a) (hR : R ρ C w) {t : TypeId} {parts : Array (Nat × Operand)} {place : Nat → Option (Nat × Nat)} {z : List AVal} {cells : Array Value} {io : Ins} (ho : o.op = .build t parts)
    (hz : VRs ρ z cells.toList) (hk : z.all okCell = true) (hb : ∀ vs, Instr.fill place cells vs = P.built t vs) (hio : mkBuild z (partsP P place parts.toList) = some io) (h : io.ev call E H = .ok v H') : OpOk P o a w (Post ρ C w H v H') := by
  unfold mkBuild at hio
  split at hio
  · rename_i l hl
    split at hio
    · rename_i hall
      cases hio
      have h : ob (buildA E l z) (.err 23) (fun cs => Res.ok (.agg cs) H) = .ok v H' := h
      replace h := ob_ok h
      obtain ⟨acs, hacs, h⟩ := h
      cases h
      obtain ⟨cells', k1, k2, k3⟩ := fill_ok hA hl z cells acs (fun p hp => by
        have := List.all_eq_true.1 hall p hp
        simpa using this) hz hk hacs
      refine ok_value (cv := .agg cells') ?_ hR (by simp only [VR]; exact ⟨cells', rfl, k2, k3⟩)
      have := run_build (P := P) w t (parts.map fun (i, x) => (i, a.eval x)) cells' (by rw [← hb, ← k1]; simp)
      simp [execOp, ho, this]
    · cases hio
  · cases hio

theorem build_sound (hA : AR P ρ nt E a) (hR : R ρ C w) {t : TypeId} {parts : Array (Nat × Operand)} {io : Ins} (ho : o.op = .build t parts) (hio : buildOf P t parts.toList = some io) (h : io.ev call E H = .ok v H') : OpOk P o a w (Post ρ C w H v H') := by
  unfold buildOf at hio
  split at hio
  · rename_i z hz
    obtain ⟨i, zv, hi, hzv, hv, hk, _, _, _⟩ := zeroOf_ok hz
    split at hio
    · rename_i fs hu
      split at hio
      · rename_i places hp
        exact built_sound hA hR ho (hv ρ) hk (fun vs => by simp [Program.built, hi, hu, hzv, hp]) hio h
      · cases hio
    · rename_i n e hu
      split at hio
      · rename_i ie hie
        exact built_sound hA hR ho (hv ρ) hk (fun vs => by simp [Program.built, hi, hu, hzv, hie]) hio h
      · cases hio
    · cases hio
  · cases hio

/-! ### Slices -/
def Fl (ρ : Ho) (n es : Nat) (t : RT) (cells : Array Value) : Prop :=
  ∀ i, i < n → ∃ l, t.get i = some l ∧ l.length = es ∧ ∀ j x, l[j]? = some x → okCell x = true ∧ ∃ cv, cells[i * es + j]? = some cv ∧ VR ρ x cv

theorem repTr_get (x : List AVal) (i : Nat) : ∀ n, (repTr x n).get i = if i < n then some x else none
  | 0 => rfl
  | n + 1 => by
    show ((repTr x n).set n x).get i = _
    rw [RT.get_set, repTr_get x i n]
    by_cases h : i = n
    · rw [if_pos h, if_pos (by omega)]
    · rw [if_neg h]
      by_cases h2 : i < n
      · rw [if_pos h2, if_pos (by omega)]
      · rw [if_neg h2, if_neg (by omega)]

theorem madeCells_get {z : Array Value} {es i j N : Nat} (hz : z.size = es) (hj : j < es) (hN : i * es + j < N) : (madeCells z N)[i * es + j]? = z[j]? := by
  unfold madeCells
  rw [Array.getElem?_map, Array.getElem?_range, if_pos hN]
  have e : (i * es + j) % z.size = j := by rw [hz, Nat.add_comm, Nat.add_mul_mod_self_right, Nat.mod_eq_of_lt hj]
  simp only [Option.map_some, e]
  rw [getElem!_pos z j (by omega), Array.getElem?_eq_getElem (by omega)]
theorem made_fl {z : List AVal} {zc : Array Value} {es n N : Nat} (hv : VRs ρ z zc.toList) (hk : z.all okCell = true) (hl : z.length = es) (hN : n * es ≤ N) : Fl ρ n es (repTr z n) (madeCells zc N) := by
  intro i hi
  refine ⟨z, by rw [repTr_get, if_pos hi], hl, fun j x hx => ⟨List.all_eq_true.1 hk x (List.mem_of_getElem? hx), ?_⟩⟩
  obtain ⟨cv, h1, h2⟩ := hv.get j x hx
  have hj : j < es := by rw [← hl]; exact (List.getElem?_eq_some_iff.1 hx).1
  have hzs : zc.size = es := by have := hv.length; rw [← hl]; simpa using this
  have hlt : i * es + es ≤ n * es := by have := Nat.mul_le_mul_right es (show i + 1 ≤ n by omega); rwa [Nat.succ_mul] at this
  exact ⟨cv, by rw [madeCells_get hzs hj (by omega)]; simpa using h1, h2⟩

theorem fillSl_ok (hA : AR P ρ nt E a) {es ln : Nat} : ∀ {ps : List (Nat × Operand)} {ips : List (Nat × Opd)} (_ : partsSl P ps = some ips) (t t' : RT) (cells : Array Value), cells.size = ln * es → Fl ρ ln es t cells → buildTr E es ln ips t = some t' →
    ∃ cells', Instr.fill (fun i => some (i * es, es)) cells (ps.map fun p => (p.1, a.eval p.2)) = some cells' ∧ cells'.size = ln * es ∧ Fl ρ ln es t' cells'
  | [], ips, hp, t, t', cells, hs, hf, h => by
    cases hp
    cases h
    exact ⟨cells, rfl, hs, hf⟩
  | (i, x) :: r, ips, hp, t, t', cells, hs, hf, h => by
    unfold partsSl at hp
    split at hp
    · rename_i y l hy hl
      cases hp
      have h : ob (y.ev E) none (fun v => ob (cellsOk v) none fun new => chk (Nat.beq (lenL new) es) (chk (Nat.ble (Nat.succ i) ln) (buildTr E es ln l (t.set i new)) none) none) = some t' := h
      cases hu : y.ev E with
      | none => rw [hu] at h; cases h
      | some u =>
        rw [hu] at h
        have h : ob (cellsOk u) none (fun new => chk (Nat.beq (lenL new) es) (chk (Nat.ble (Nat.succ i) ln) (buildTr E es ln l (t.set i new)) none) none) = some t' := h
        cases hc : cellsOk u with
        | none => rw [hc] at h; cases h
        | some new =>
          rw [hc] at h
          have h : chk (Nat.beq (lenL new) es) (chk (Nat.ble (Nat.succ i) ln) (buildTr E es ln l (t.set i new)) none) none = some t' := h
          cases hb : Nat.beq (lenL new) es
          · rw [hb] at h; cases h
          · rw [hb, chk_true] at h
            cases hb2 : Nat.ble (Nat.succ i) ln
            · rw [hb2] at h; cases h
            · rw [hb2, chk_true] at h
              have hb := Nat.eq_of_beq_eq_true hb
              rw [lenL_eq] at hb
              have hb2 : i + 1 ≤ ln := Nat.le_of_ble_eq_true hb2
              have h1 := (hA.opd hy hu).cells hc
              have hsz : (a.eval x).cells.size = new.length := by have := h1.1.length; simpa using this
              have mono : ∀ {p q : Nat}, p + 1 ≤ q → p * es + es ≤ q * es := fun {p q} h => by have := Nat.mul_le_mul_right es h; rwa [Nat.succ_mul] at this
              have hin := mono hb2
              obtain ⟨cells', k1, k2, k3⟩ := fillSl_ok hA hl (t.set i new) t' (putCells cells (i * es) (a.eval x).cells) (by rw [putCells_size, hs]) (fun k hk => by
                rw [RT.get_set]
                by_cases hki : k = i
                · subst hki
                  rw [if_pos rfl]
                  refine ⟨new, rfl, hb, fun j av hj => ⟨List.all_eq_true.1 h1.2 av (List.mem_of_getElem? hj), ?_⟩⟩
                  obtain ⟨cv, g1, g2⟩ := h1.1.get j av hj
                  have hjl : j < es := by rw [← hb]; exact (List.getElem?_eq_some_iff.1 hj).1
                  refine ⟨cv, ?_, g2⟩
                  rw [putCells_get, if_pos (by omega), Nat.add_sub_cancel_left]
                  simpa using g1
                · rw [if_neg hki]
                  obtain ⟨l0, g1, g2, g3⟩ := hf k hk
                  refine ⟨l0, g1, g2, fun j av hj => ?_⟩
                  obtain ⟨m1, cv, m2, m3⟩ := g3 j av hj
                  have hjl : j < es := by rw [← g2]; exact (List.getElem?_eq_some_iff.1 hj).1
                  refine ⟨m1, cv, ?_, m3⟩
                  rw [putCells_get, if_neg ?_]
                  · exact m2
                  · rcases Nat.lt_or_gt_of_ne hki with hlt | hgt
                    · have := mono (show k + 1 ≤ i from hlt); omega
                    · have := mono (show i + 1 ≤ k from hgt); omega) h
              refine ⟨cells', ?_, k2, k3⟩
              rw [List.map_cons, fill_step (off := i * es) (size := es) rfl (hsz.trans hb) (by rw [hs]; exact hin)]
              exact k1
    · cases hp

/-- a new slice -/
theorem newSlice (hR : R ρ C w) (hF : Free ρ H.next (H.next + 1)) {e es bts n cap : Nat} {t : RT} {cells : Array Value} (he : 0 < es) (hcap : n ≤ cap) (hs : cells.size = cap * es) (hfl : Fl ρ n es t cells) {w' : World} (hw : w'.heap = w.heap.push (.cells cells e))
    (h1 : w'.os = w.os) (h2 : w'.tape = w.tape) (h3 : w'.output = w.output) : Post ρ C w H (.slice H.next n 0 n es) ⟨H.next + 1, H.mrk, H.ws, H.t.set H.next (.row e es bts n n 0 t)⟩ (.slice (some ⟨w.heap.size, 0, none⟩) n cap) w' := by
  obtain ⟨ρ', g1, g2, g3⟩ := hR.alloc (f := H.next) (elem := e) (es := es) (bts := bts) (n := n) (cs := t) (cells := cells) (w' := w')
    (Wr ⟨H.next + 1, H.mrk, H.ws, H.t.set H.next (.row e es bts n n 0 t)⟩) (fun g => hF _ g (Nat.le_refl _) (Nat.lt_succ_self _)) he (by rw [hs]; exact Nat.mul_le_mul_right _ hcap) hfl hw h1 h2 h3
  refine ⟨ρ', ?_, g2, ?_⟩
  · simp only [VR]
    refine ⟨_, _, _, g1, rfl, hcap, .inl ⟨rfl, ?_⟩⟩
    simp only
    rw [hs, Nat.zero_add]
    exact Nat.le_refl _
  · rw [upd_alloc]
    exact g3

theorem buildSl_sound (hA : AR P ρ nt E a) (hR : R ρ C w) (hF : Free ρ H.next H'.next) {t : TypeId} {ln : Nat} {parts : Array (Nat × Operand)} {io : Ins} (ho : o.op = .buildSlice t ln parts) (hio : buildSlOf P t ln parts.toList = some io)
    (h : io.ev call E H = .ok v H') : OpOk P o a w (Post ρ C w H v H') := by
  unfold buildSlOf at hio
  split at hio
  · rename_i e hu
    split at hio
    · rename_i i z hi hz
      split at hio
      · rename_i l hl
        split at hio
        · rename_i hle
          cases hio
          have h : ob (buildTr E i.size ln l (repTr z ln)) (.err 24) (fun t => H.alloc (.row e i.size i.bytes ln ln 0 t) fun f H => .ok (.slice f ln 0 ln i.size) H) = .ok v H' := h
          replace h := ob_ok h
          obtain ⟨tr, htr, h⟩ := h
          have h := alloc_ok h
          cases h
          obtain ⟨i', zv, hi', hzv, hv, hk, hzl, hpos, hzs⟩ := zeroOf_ok hz
          rw [hi] at hi'
          cases hi'
          obtain ⟨cells', k1, k2, k3⟩ := fillSl_ok hA hl (repTr z ln) tr (madeCells zv.cells (ln * i.size)) (size_madeCells _ _) (made_fl (hv ρ) hk hzl (Nat.le_refl _)) htr
          refine .inl ⟨_, w.alloc (.cells cells' e), ?_, newSlice hR hF hpos (Nat.le_refl _) k2 k3 rfl rfl rfl rfl⟩
          have hf : Instr.fill (fun j => some (j * i.size, i.size)) ((Array.range (ln * i.size)).map (zv.cells[· % zv.cells.size]!)) (parts.map fun (i, x) => (i, a.eval x)).toList = some cells' := by
            rw [← k1]; simp [madeCells]
          by_cases h0 : ln * i.size = 0
          · have e0 : (Array.range 0).map (zv.cells[· % zv.cells.size]!) = #[] := by rw [show Array.range 0 = #[] from rfl]; exact Array.map_empty ..
            rw [h0, e0] at hf
            have hf0 : Instr.fill (fun j => some (j * i.size, i.size)) #[] (parts.toList.map fun x => (x.1, a.eval x.2)) = some cells' := by rw [← hf]; simp
            simp [execOp, ho, Instr.buildSlice, run_underlying hu, sizeOf, typeInfo, hi, h0, newRow, hf0, show Array.range 0 = #[] from rfl]
          · have hle2 : ¬ (2 ^ 24 < ln * i.size) := by omega
            simp at hf hle2
            simp [execOp, ho, Instr.buildSlice, run_underlying hu, sizeOf, typeInfo, hi, hle2, h0, zeroValue, hzv, hf, newRow]
        · cases hio
      · cases hio
    · cases hio
  · cases hio

theorem mksl_sound (hA : AR P ρ nt E a) (hR : R ρ C w) (hF : Free ρ H.next H'.next) {t : TypeId} {x y : Operand} {x' y' : Opd} {io : Ins} (ho : o.op = .makeSlice t x y) (hx : opdOf P x = some x') (hy : opdOf P y = some y') (hio : mkslOf P t x' y' = some io)
    (h : io.ev call E H = .ok v H') : OpOk P o a w (Post ρ C w H v H') := by
  unfold mkslOf at hio
  split at hio
  · rename_i e hu
    split at hio
    · rename_i i z hi hz
      split at hio
      · rename_i hb
        cases hio
        have h : eMksl e i.size i.bytes z x' y' E H = .ok v H' := h
        replace h := withO_ok h; obtain ⟨u, hu1, h⟩ := h
        replace h := onInt_ok h; obtain ⟨kl, l0, rfl, h⟩ := h
        replace h := onNat_ok h; obtain ⟨l, rfl, h⟩ := h
        replace h := withO_ok h; obtain ⟨u2, hu2, h⟩ := h
        replace h := onInt_ok h; obtain ⟨kc, c0, rfl, h⟩ := h
        replace h := onNat_ok h; obtain ⟨c, rfl, h⟩ := h
        replace h := chk_ok h; obtain ⟨g1, h⟩ := h
        replace h := chk_ok h; obtain ⟨g2, h⟩ := h
        replace h := chk_ok h; obtain ⟨g3, h⟩ := h
        rw [repC_eq] at h
        have h := alloc_ok h
        cases h
        have g1 := Nat.le_of_ble_eq_true g1
        have g2 : c * i.bytes ≤ 70368744177664 := Nat.le_of_ble_eq_true g2
        have g3 := Nat.le_of_ble_eq_true g3
        obtain ⟨i', zv, hi', hzv, hv, hk, hzl, hpos, hzs⟩ := zeroOf_ok hz
        rw [hi] at hi'
        cases hi'
        have e1 := hA.opd hx hu1
        have e2 := hA.opd hy hu2
        simp only [VR] at e1 e2
        have hrun := run_make (P := P) w t e i zv hu hi hzv kl kc (l : Int) (c : Int) (Int.natCast_nonneg l) (Int.ofNat_le.2 g1) (by
          have : ((i.bytes * c : Nat) : Int) ≤ ((281474976710656 : Nat) : Int) := Int.ofNat_le.2 (by rw [Nat.mul_comm]; omega)
          rw [Int.natCast_mul] at this
          exact this) (by omega)
        simp only [Int.toNat_natCast] at hrun
        refine .inl ⟨_, w.alloc (.cells (madeCells zv.cells (c * i.size)) e), ?_, newSlice hR hF hpos g1 (size_madeCells _ _) (made_fl (hv ρ) hk hzl (Nat.mul_le_mul_right _ g1)) rfl rfl rfl rfl⟩
        rw [show (execOp a.eval o) = _ from rfl]
        simp only [execOp, ho, e1, e2]
        simp only [Sem.run_bind, hrun, Result.andThen_ok]
        rfl
      · cases hio
    · cases hio
  · cases hio

end
end Go.Ev
