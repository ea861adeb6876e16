/- A part of an evaluator for the program's code: The relation between the abstract and the concrete world. It holds for every program. -/
import Derived.Test.YtgjadkcogmpkdaaGreatDoorEvC
/-! The relation between the abstract and the concrete world. -/
set_option linter.unusedVariables false
set_option linter.unusedSimpArgs false
namespace Go.Ev

/-- Where a generation of a family lies: a block, the first cell, how many cells there are from there on; may it be written? -/
structure Hm where
  blk : Nat
  off : Nat
  room : Nat
  ro : Bool

abbrev Ho := Nat → Nat → Option Hm

def SlAt (h : Hm) (a : Addr) (l cap o es : Nat) : Prop :=
  (a = ⟨h.blk, h.off + o, none⟩ ∧ o + cap * es ≤ h.room) ∨ (l = 0 ∧ cap = 0 ∧ 0 < o)

mutual
def VR (ρ : Ho) : AVal → Value → Prop
  | .bool b, v => v = .bool b
  | .int k n, v => v = .int k n
  | .str l s, v => ∃ b : ByteArray, v = .string b ∧ l = b.size ∧ s = pack b.data.toList
  | .ptr f g o, v => ∃ h, ρ f g = some h ∧ v = .pointer (some ⟨h.blk, h.off + o, none⟩)
  | .nilptr, v => v = .pointer none
  | .slice f g o l es, v => ∃ h a cap, ρ f g = some h ∧ v = .slice (some a) l cap ∧ l ≤ cap ∧ SlAt h a l cap o es
  | .nilslice, v => v = .slice none 0 0
  | .agg cs, v => ∃ vs, v = .agg vs ∧ VRs ρ cs vs.toList ∧ cs.all okCell = true
  | .tuple cs, v => ∃ vs, v = .tuple vs ∧ VRs ρ cs vs.toList
  | .func f caps, v => ∃ vs, v = .func (.func f) #[] vs ∧ VRs ρ caps vs.toList
  | .nilfunc, v => v = .nilFunc
  | .iface t a, v => ∃ x, v = .iface t x ∧ VR ρ a x
  | .niliface, v => v = .nilIface
  | .map _, _ => False
  | .nilmap, v => v = .map none
  | .undef, v => v = undef
def VRs (ρ : Ho) : List AVal → List Value → Prop
  | [], vs => vs = []
  | a :: r, vs => ∃ v t, vs = v :: t ∧ VR ρ a v ∧ VRs ρ r t
end

def Ho.le (ρ ρ' : Ho) : Prop := ∀ f g h, ρ f g = some h → ρ' f g = some h
theorem Ho.le_refl (ρ : Ho) : ρ.le ρ := fun _ _ _ h => h
theorem Ho.le_trans {a b c : Ho} (h : a.le b) (k : b.le c) : a.le c := fun f g x hx => k f g x (h f g x hx)

mutual
theorem VR.mono {ρ ρ' : Ho} (hl : ρ.le ρ') : ∀ {a : AVal} {v : Value}, VR ρ a v → VR ρ' a v
  | .bool _, _, h => by simpa [VR] using h
  | .int _ _, _, h => by simpa [VR] using h
  | .str _ _, _, h => by simpa [VR] using h
  | .ptr _ _ _, _, h => by
    simp only [VR] at h ⊢
    obtain ⟨x, hx, e⟩ := h
    exact ⟨x, hl _ _ _ hx, e⟩
  | .nilptr, _, h => by simpa [VR] using h
  | .slice _ _ _ _ _, _, h => by
    simp only [VR] at h ⊢
    obtain ⟨x, a, c, hx, e⟩ := h
    exact ⟨x, a, c, hl _ _ _ hx, e⟩
  | .nilslice, _, h => by simpa [VR] using h
  | .agg cs, _, h => by
    simp only [VR] at h ⊢
    obtain ⟨vs, e, hv, ho⟩ := h
    exact ⟨vs, e, VRs.mono hl hv, ho⟩
  | .tuple cs, _, h => by
    simp only [VR] at h ⊢
    obtain ⟨vs, e, hv⟩ := h
    exact ⟨vs, e, VRs.mono hl hv⟩
  | .func _ cs, _, h => by
    simp only [VR] at h ⊢
    obtain ⟨vs, e, hv⟩ := h
    exact ⟨vs, e, VRs.mono hl hv⟩
  | .nilfunc, _, h => by simpa [VR] using h
  | .iface _ a, _, h => by
    simp only [VR] at h ⊢
    obtain ⟨x, e, hv⟩ := h
    exact ⟨x, e, VR.mono hl hv⟩
  | .niliface, _, h => by simpa [VR] using h
  | .map _, _, h => by simp [VR] at h
  | .nilmap, _, h => by simpa [VR] using h
  | .undef, _, h => by simpa [VR] using h
theorem VRs.mono {ρ ρ' : Ho} (hl : ρ.le ρ') : ∀ {a : List AVal} {v : List Value}, VRs ρ a v → VRs ρ' a v
  | [], _, h => by simpa [VRs] using h
  | a :: r, _, h => by
    simp only [VRs] at h ⊢
    obtain ⟨v, t, e, h1, h2⟩ := h
    exact ⟨v, t, e, VR.mono hl h1, VRs.mono hl h2⟩
end

theorem VRs.length {ρ : Ho} : ∀ {a : List AVal} {v : List Value}, VRs ρ a v → v.length = a.length
  | [], _, h => by simp only [VRs] at h; subst h; rfl
  | a :: r, _, h => by
    simp only [VRs] at h
    obtain ⟨v, t, rfl, _, h2⟩ := h
    simp [VRs.length h2]
theorem VRs.get {ρ : Ho} : ∀ {a : List AVal} {v : List Value}, VRs ρ a v → ∀ (i : Nat) (x : AVal), a[i]? = some x → ∃ y, v[i]? = some y ∧ VR ρ x y
  | [], _, _, i, x, hx => by simp at hx
  | a :: r, _, h, i, x, hx => by
    simp only [VRs] at h
    obtain ⟨v, t, rfl, h1, h2⟩ := h
    cases i with
    | zero => simp at hx; subst hx; exact ⟨v, rfl, h1⟩
    | succ i => simp at hx; obtain ⟨y, hy, k⟩ := VRs.get h2 i x hx; exact ⟨y, by simpa using hy, k⟩
theorem VRs.of_get {ρ : Ho} : ∀ {a : List AVal} {v : List Value}, v.length = a.length → (∀ (i : Nat) (x : AVal), a[i]? = some x → ∃ y, v[i]? = some y ∧ VR ρ x y) → VRs ρ a v
  | [], v, hl, _ => by simp only [VRs]; exact List.eq_nil_of_length_eq_zero (by simpa using hl)
  | a :: r, [], hl, _ => by simp at hl
  | a :: r, v :: t, hl, h => by
    simp only [VRs]
    refine ⟨v, t, rfl, ?_, VRs.of_get (by simpa using hl) fun i x hx => ?_⟩
    · obtain ⟨y, hy, k⟩ := h 0 a rfl; simp at hy; subst hy; exact k
    · obtain ⟨y, hy, k⟩ := h (i + 1) x (by simpa using hx); exact ⟨y, by simpa using hy, k⟩
theorem VRs.append {ρ : Ho} {a b : List AVal} {v u : List Value} (h : VRs ρ a v) (k : VRs ρ b u) : VRs ρ (a ++ b) (v ++ u) := by
  induction a generalizing v with
  | nil => simp only [VRs] at h; subst h; exact k
  | cons x r ih =>
    simp only [VRs] at h
    obtain ⟨y, t, rfl, h1, h2⟩ := h
    simp only [List.cons_append, VRs]
    exact ⟨y, t ++ u, rfl, h1, ih h2⟩
theorem VRs.take {ρ : Ho} {a : List AVal} {v : List Value} (h : VRs ρ a v) (n : Nat) : VRs ρ (a.take n) (v.take n) := by
  refine VRs.of_get (by simp [h.length]) fun i x hx => ?_
  rw [List.getElem?_take] at hx
  split at hx
  · obtain ⟨y, hy, k⟩ := h.get i x hx
    exact ⟨y, by rw [List.getElem?_take, if_pos (by assumption)]; exact hy, k⟩
  · cases hx
theorem VRs.drop {ρ : Ho} {a : List AVal} {v : List Value} (h : VRs ρ a v) (n : Nat) : VRs ρ (a.drop n) (v.drop n) := by
  refine VRs.of_get (by simp [h.length]) fun i x hx => ?_
  rw [List.getElem?_drop] at hx
  obtain ⟨y, hy, k⟩ := h.get _ x hx
  exact ⟨y, by rw [List.getElem?_drop]; exact hy, k⟩

/-- The cells of a value that may be stored are the cells of the concrete one. -/
theorem VR.cells {ρ : Ho} {a : AVal} {v : Value} {l : List AVal} (h : VR ρ a v) (hc : cellsOk a = some l) : VRs ρ l v.cells.toList ∧ l.all okCell = true := by
  have one : ∀ {x : AVal} {y : Value}, VR ρ x y → y.cells = #[y] → okCell x = true → l = [x] → VRs ρ l y.cells.toList ∧ l.all okCell = true := by
    intro x y hxy hy hk hl
    subst hl
    rw [hy]
    exact ⟨⟨y, [], rfl, hxy, rfl⟩, by simp [hk]⟩
  cases a <;> simp only [cellsOk, Option.some.injEq, reduceCtorEq] at hc
  case agg cs =>
    simp only [VR] at h
    obtain ⟨vs, rfl, hv, ho⟩ := h
    subst hc
    exact ⟨hv, ho⟩
  case bool b => exact one h (by simp only [VR] at h; subst h; rfl) rfl hc.symm
  case int k n => exact one h (by simp only [VR] at h; subst h; rfl) rfl hc.symm
  case str k n => exact one h (by simp only [VR] at h; obtain ⟨b, rfl, _⟩ := h; rfl) rfl hc.symm
  case ptr f g o => exact one h (by simp only [VR] at h; obtain ⟨b, _, rfl⟩ := h; rfl) rfl hc.symm
  case nilptr => exact one h (by simp only [VR] at h; subst h; rfl) rfl hc.symm
  case slice f g o l es => exact one h (by simp only [VR] at h; obtain ⟨_, _, _, _, rfl, _⟩ := h; rfl) rfl hc.symm
  case nilslice => exact one h (by simp only [VR] at h; subst h; rfl) rfl hc.symm
  case func f c => exact one h (by simp only [VR] at h; obtain ⟨_, rfl, _⟩ := h; rfl) rfl hc.symm
  case nilfunc => exact one h (by simp only [VR] at h; subst h; rfl) rfl hc.symm
  case iface t x => exact one h (by simp only [VR] at h; obtain ⟨_, rfl, _⟩ := h; rfl) rfl hc.symm
  case niliface => exact one h (by simp only [VR] at h; subst h; rfl) rfl hc.symm
  case map f => simp [VR] at h
  case nilmap => exact one h (by simp only [VR] at h; subst h; rfl) rfl hc.symm

/-- A cell's value is no aggregate. -/
theorem VR.noAgg {ρ : Ho} {a : AVal} {v : Value} (h : VR ρ a v) (hk : okCell a = true) : (∀ cs, v ≠ .agg cs) ∧ (∀ cs, v ≠ .tuple cs) := by
  cases a <;> simp only [VR, okCell, Bool.false_eq_true] at h hk
  all_goals first
    | (subst h; exact ⟨fun _ => by simp, fun _ => by simp⟩)
    | (obtain ⟨_, rfl, _⟩ := h; exact ⟨fun _ => by simp, fun _ => by simp⟩)
    | (obtain ⟨_, _, rfl⟩ := h; exact ⟨fun _ => by simp, fun _ => by simp⟩)
    | (obtain ⟨_, _, _, _, rfl, _⟩ := h; exact ⟨fun _ => by simp, fun _ => by simp⟩)

/-! ### Rows and worlds -/
/-- The cells of generation g of a family lie at h. -/
structure RowAt (ρ : Ho) (w : World) (h : Hm) (g elem es n fl : Nat) (cs : RT) : Prop where
  row : ∃ c fz, w.heap[h.blk]? = some (.cells c elem fz) ∧ h.off + h.room ≤ c.size
  fits : g * es ≤ h.room
  cell : ∀ i, i < g → ∃ l, cs.get i = some l ∧ l.length = es ∧ ∀ j x, l[j]? = some x → okCell x = true ∧ ∃ cv, w.cell? ⟨h.blk, h.off + i * es + j, none⟩ = some cv ∧ VR ρ x cv
  open0 : fl = 0 → ∀ i, i < h.room → w.frozen? ⟨h.blk, h.off + i, none⟩ = false
  open2 : fl ≠ 1 → ∀ i, n * es ≤ i → i < h.room → w.frozen? ⟨h.blk, h.off + i, none⟩ = false
  off0 : fl = 0 ∨ fl = 2 → h.off = 0
  fz0 : fl = 0 ∨ fl = 2 → ∀ c e fz, w.heap[h.blk]? = some (.cells c e fz) → fz.1 = fz.2 ∨ fz.2 ≤ n * es

def ObjAt (ρ : Ho) (w : World) (h : Hm) (g : Nat) : AObj → Prop
  | .row elem es _ n lo fl cs => 0 < es ∧ (h.ro = true → fl = 1) ∧ g ≤ n ∧ (lo ≤ g → g ≤ n → RowAt ρ w h g elem es n fl cs)
  | .map _ => False

structure R (ρ : Ho) (C : Nat → Option AObj) (w : World) : Prop where
  obj : ∀ f o, C f = some o → ∀ g h, ρ f g = some h → ObjAt ρ w h g o
  disj : ∀ f g h f' g' h', ρ f g = some h → ρ f' g' = some h' → f ≠ f' → h.blk = h'.blk → h.ro = true ∧ h'.ro = true
  inb : ∀ f g h, ρ f g = some h → h.blk < w.heap.size
  uniq : ∀ f g h g' h', ρ f g = some h → ρ f g' = some h' → h.blk = h'.blk → h.off = h'.off

/-- What a run may have done: new families lie from n0 on below n1; what was there and is no home of a family of W is as it was. -/
structure Ext (W : Nat → Prop) (n0 n1 : Nat) (ρ ρ' : Ho) (w w' : World) : Prop where
  le : ρ.le ρ'
  dom : ∀ f g h, ρ' f g = some h → (∃ g0 h0, ρ f g0 = some h0) ∨ (n0 ≤ f ∧ f < n1)
  blk : ∀ f g h, ρ' f g = some h → ρ f g = some h ∨ (w.heap.size ≤ h.blk ∧ h.ro = false) ∨ (∃ g0 h0, ρ f g0 = some h0 ∧ h0.blk = h.blk ∧ h0.ro = h.ro)
  frame : ∀ b, b < w.heap.size → (∀ f g h, ρ f g = some h → h.ro = false → W f → h.blk ≠ b) → w'.heap[b]? = w.heap[b]?
  size : w.heap.size ≤ w'.heap.size
  nn : n0 ≤ n1
  os : w'.os = w.os
  tape : w'.tape = w.tape
  output : w'.output = w.output

theorem Ext.refl (W : Nat → Prop) (n : Nat) (ρ : Ho) (w : World) : Ext W n n ρ ρ w w :=
  ⟨Ho.le_refl _, fun f g h e => .inl ⟨g, h, e⟩, fun _ _ _ e => .inl e, fun _ _ _ => rfl, Nat.le_refl _, Nat.le_refl _, rfl, rfl, rfl⟩
theorem Ext.mono {W W' : Nat → Prop} {n0 n1 : Nat} {ρ ρ' : Ho} {w w' : World} (h : Ext W n0 n1 ρ ρ' w w') (hW : ∀ f, W f → W' f) : Ext W' n0 n1 ρ ρ' w w' :=
  ⟨h.le, h.dom, h.blk, fun b hb k => h.frame b hb fun f g x hx hr hw => k f g x hx hr (hW f hw), h.size, h.nn, h.os, h.tape, h.output⟩
theorem Ext.trans {W : Nat → Prop} {n0 n1 n2 : Nat} {ρ ρ1 ρ2 : Ho} {w w1 w2 : World} (h : Ext W n0 n1 ρ ρ1 w w1) (k : Ext W n1 n2 ρ1 ρ2 w1 w2) : Ext W n0 n2 ρ ρ2 w w2 := by
  refine ⟨Ho.le_trans h.le k.le, ?_, ?_, ?_, Nat.le_trans h.size k.size, Nat.le_trans h.nn k.nn, k.os.trans h.os, k.tape.trans h.tape, k.output.trans h.output⟩
  · intro f g x hx
    have h1 := h.nn
    have h2 := k.nn
    rcases k.dom f g x hx with ⟨g0, h0, e⟩ | ⟨a, b⟩
    · rcases h.dom f g0 h0 e with e | ⟨a, b⟩
      · exact .inl e
      · exact .inr ⟨a, by omega⟩
    · exact .inr ⟨by omega, b⟩
  · intro f g x hx
    rcases k.blk f g x hx with e | ⟨a, b⟩ | ⟨g0, h0, e, e1, e2⟩
    · exact h.blk f g x e
    · exact .inr (.inl ⟨Nat.le_trans h.size a, b⟩)
    · rcases h.blk f g0 h0 e with e' | ⟨a, b⟩ | ⟨g1, h1, e', e3, e4⟩
      · exact .inr (.inr ⟨g0, h0, e', e1, e2⟩)
      · exact .inr (.inl ⟨e1 ▸ a, e2 ▸ b⟩)
      · exact .inr (.inr ⟨g1, h1, e', e3.trans e1, e4.trans e2⟩)
  · intro b hb hf
    rw [k.frame b (Nat.lt_of_lt_of_le hb h.size) ?_, h.frame b hb hf]
    intro f g x hx hr hw
    rcases h.blk f g x hx with e | ⟨a, _⟩ | ⟨g0, h0, e, e1, e2⟩
    · exact hf f g x e hr hw
    · intro hh; omega
    · exact e1 ▸ hf f g0 h0 e (e2.trans hr) hw

theorem cell_of_heap {w w' : World} {a : Addr} (h : w'.heap[a.block]? = w.heap[a.block]?) : w'.cell? a = w.cell? a := by simp only [World.cell?, h]
theorem frozen_of_heap {w w' : World} {a : Addr} (h : w'.heap[a.block]? = w.heap[a.block]?) : w'.frozen? a = w.frozen? a := by simp only [World.frozen?, h]

theorem RowAt.keep {ρ ρ' : Ho} {w w' : World} {h : Hm} {g elem es n fl : Nat} {cs : RT} (k : RowAt ρ w h g elem es n fl cs) (hl : ρ.le ρ') (hw : w'.heap[h.blk]? = w.heap[h.blk]?) :
    RowAt ρ' w' h g elem es n fl cs := by
  refine ⟨by rw [hw]; exact k.row, k.fits, fun i hi => ?_, fun h0 i hi => ?_, fun h0 i hi hr => ?_, k.off0, fun e c t fz hc => k.fz0 e c t fz (by rw [← hw]; exact hc)⟩
  · obtain ⟨l, e, e1, e2⟩ := k.cell i hi
    refine ⟨l, e, e1, fun j x hx => ?_⟩
    obtain ⟨o, cv, hc, hv⟩ := e2 j x hx
    exact ⟨o, cv, by rw [cell_of_heap (w := w) hw]; exact hc, hv.mono hl⟩
  · rw [frozen_of_heap (w := w) hw]; exact k.open0 h0 i hi
  · rw [frozen_of_heap (w := w) hw]; exact k.open2 h0 i hi hr
theorem ObjAt.keep {ρ ρ' : Ho} {w w' : World} {h : Hm} {g : Nat} {o : AObj} (k : ObjAt ρ w h g o) (hl : ρ.le ρ') (hw : w'.heap[h.blk]? = w.heap[h.blk]?) : ObjAt ρ' w' h g o := by
  cases o with
  | row elem es bts n lo fl cs => exact ⟨k.1, k.2.1, k.2.2.1, fun a b => (k.2.2.2 a b).keep hl hw⟩
  | map es => exact k

theorem R.weaken {ρ : Ho} {C C' : Nat → Option AObj} {w : World} (h : R ρ C w) (hC : ∀ f o, C' f = some o → (∃ g x, ρ f g = some x) → C f = some o) : R ρ C' w :=
  ⟨fun f o e g x hx => h.obj f o (hC f o e ⟨g, x, hx⟩) g x hx, h.disj, h.inb, h.uniq⟩

end Go.Ev
