/- A part of an evaluator for the program's code: Inversion of the evaluator's small steps; what a run leaves alone in the abstract heap. It holds for every program. -/
import Derived.Test.YtgjadkcogmpkdaaGreatDoorEvD
import Derived.IntWalk
/-! Inversion of the evaluator's small steps; what a run leaves alone in the abstract heap. -/
set_option linter.unusedVariables false
set_option linter.unusedSimpArgs false
namespace Go.Ev

theorem chk_true {β : Type} (k e : β) : chk true k e = k := rfl
theorem chk_false {β : Type} (k e : β) : chk false k e = e := rfl
theorem chk_if {β : Type} (b : Bool) (k e : β) : chk b k e = if b = true then k else e := by cases b <;> rfl

section
variable {v : AVal} {H' : AHeap} {n : Nat}
theorem chk_ok {b : Bool} {k : Res} (h : chk b k (.err n) = .ok v H') : b = true ∧ k = .ok v H' := by
  cases b
  · cases h
  · exact ⟨rfl, h⟩
theorem ob_ok {α : Type} {o : Option α} {k : α → Res} (h : ob o (.err n) k = .ok v H') : ∃ x, o = some x ∧ k x = .ok v H' := by
  cases o with
  | none => cases h
  | some x => exact ⟨x, rfl, h⟩
theorem withO_ok {x : Opd} {E : Env} {k : AVal → Res} (h : withO x E (.err n) k = .ok v H') : ∃ a, x.ev E = some a ∧ k a = .ok v H' := by
  cases x with
  | t i => exact ob_ok h
  | c a => exact ⟨a, rfl, h⟩
theorem onBool_ok {a : AVal} {k : Bool → Res} (h : onBool a (.err n) k = .ok v H') : ∃ b, a = .bool b ∧ k b = .ok v H' := by
  cases a <;> first | cases h; done | exact ⟨_, rfl, h⟩
theorem onInt_ok {a : AVal} {k : IntKind → Int → Res} (h : onInt a (.err n) k = .ok v H') : ∃ b i, a = .int b i ∧ k b i = .ok v H' := by
  cases a <;> first | cases h; done | exact ⟨_, _, rfl, h⟩
theorem onStr_ok {a : AVal} {k : Nat → Nat → Res} (h : onStr a (.err n) k = .ok v H') : ∃ l s, a = .str l s ∧ k l s = .ok v H' := by
  cases a <;> first | cases h; done | exact ⟨_, _, rfl, h⟩
theorem onPtr_ok {a : AVal} {k : Nat → Nat → Nat → Res} (h : onPtr a (.err n) k = .ok v H') : ∃ f g o, a = .ptr f g o ∧ k f g o = .ok v H' := by
  cases a <;> first | cases h; done | exact ⟨_, _, _, rfl, h⟩
theorem onSlice_ok {a : AVal} {e : Res} {k : Nat → Nat → Nat → Nat → Nat → Res} (h : onSlice a (.err n) e k = .ok v H') :
    (a = .nilslice ∧ e = .ok v H') ∨ ∃ f g o l es, a = .slice f g o l es ∧ k f g o l es = .ok v H' := by
  cases a <;> first | cases h; done | exact .inr ⟨_, _, _, _, _, rfl, h⟩ | exact .inl ⟨rfl, h⟩
theorem onAgg_ok {a : AVal} {k : List AVal → Res} (h : onAgg a (.err n) k = .ok v H') : ∃ l, a = .agg l ∧ k l = .ok v H' := by
  cases a <;> first | cases h; done | exact ⟨_, rfl, h⟩
theorem onTuple_ok {a : AVal} {k : List AVal → Res} (h : onTuple a (.err n) k = .ok v H') : ∃ l, a = .tuple l ∧ k l = .ok v H' := by
  cases a <;> first | cases h; done | exact ⟨_, rfl, h⟩
theorem onFunc_ok {a : AVal} {k : Nat → List AVal → Res} (h : onFunc a (.err n) k = .ok v H') : ∃ f l, a = .func f l ∧ k f l = .ok v H' := by
  cases a <;> first | cases h; done | exact ⟨_, _, rfl, h⟩
theorem onNat_ok {i : Int} {k : Nat → Res} (h : onNat i (.err n) k = .ok v H') : ∃ m : Nat, i = (m : Int) ∧ k m = .ok v H' := by
  cases i with
  | ofNat m => exact ⟨m, rfl, h⟩
  | negSucc m => cases h
theorem lenL_eq (l : List AVal) : lenL l = l.length := by
  induction l with
  | nil => rfl
  | cons a r ih => show Nat.succ (lenL r) = _; rw [ih]; rfl
theorem idx_ok {a : AVal} {m : Nat} {k : Nat → Res} (h : idx a m (.err n) k = .ok v H') : ∃ kd i, a = .int kd (i : Nat) ∧ i < m ∧ k i = .ok v H' := by
  obtain ⟨kd, i, rfl, h⟩ := onInt_ok h
  obtain ⟨j, rfl, h⟩ := onNat_ok h
  obtain ⟨hb, h⟩ := chk_ok h
  exact ⟨kd, j, rfl, Nat.le_of_ble_eq_true hb, h⟩
theorem bnd_ok {E : Env} {x : Option Opd} {d y : Nat} {k : Nat → Res} (h : bnd E x d y (.err n) k = .ok v H') :
    (x = none ∧ k d = .ok v H') ∨ ∃ z kd i, x = some z ∧ z.ev E = some (.int kd (i : Nat)) ∧ i ≤ y ∧ k i = .ok v H' := by
  cases x with
  | none => exact .inl ⟨rfl, h⟩
  | some z =>
    obtain ⟨a, ha, h⟩ := ob_ok h
    obtain ⟨kd, i, rfl, h⟩ := onInt_ok h
    obtain ⟨j, rfl, h⟩ := onNat_ok h
    obtain ⟨hb, h⟩ := chk_ok h
    exact .inr ⟨z, kd, j, rfl, ha, Nat.le_of_ble_eq_true hb, h⟩
theorem onRow_ok {o : Option AObj} {k : Nat → Nat → Nat → Nat → Nat → Nat → RT → Res} (h : onRow o (.err n) k = .ok v H') :
    ∃ elem es bts m lo fl cs, o = some (.row elem es bts m lo fl cs) ∧ k elem es bts m lo fl cs = .ok v H' := by
  cases o with
  | none => cases h
  | some o => cases o with
    | row => exact ⟨_, _, _, _, _, _, _, rfl, h⟩
    | map => cases h
theorem outA_ok {agg : Bool} {l : List AVal} {k : AVal → Res} (h : outA agg l (.err n) k = .ok v H') :
    (agg = true ∧ k (.agg l) = .ok v H') ∨ ∃ x, agg = false ∧ l = [x] ∧ k x = .ok v H' := by
  cases agg with
  | true => exact .inl ⟨rfl, h⟩
  | false =>
    cases l with
    | nil => cases h
    | cons x r => cases r with
      | nil => exact .inr ⟨x, rfl, rfl, h⟩
      | cons y s => cases h
theorem alloc_ok {H : AHeap} {o : AObj} {k : Nat → AHeap → Res} (h : H.alloc o k = .ok v H') : k H.next ⟨H.next + 1, H.mrk, H.ws, H.t.set H.next o⟩ = .ok v H' := by
  cases H with
  | mk next mrk ws t =>
    have h' : seqNat next (fun f => t.setC f o fun t => k f ⟨Nat.succ f, mrk, ws, t⟩) = .ok v H' := h
    rw [seqNat_eq, HT.setC_eq] at h'
    exact h'
end

theorem sbN_eq (m n : Nat) : sbN m n = (m : Int) - (n : Int) := by
  unfold sbN
  cases h : Nat.ble n m
  · have : ¬ n ≤ m := fun e => by rw [Nat.ble_eq_true_of_le e] at h; cases h
    show Int.negSucc (n - m - 1) = _
    rw [Int.negSucc_eq]; omega
  · have : n ≤ m := Nat.le_of_ble_eq_true h
    show Int.ofNat (m - n) = _
    rw [Int.ofNat_eq_natCast]; omega
theorem addI_eq (x y : Int) : addI x y = x + y := by
  cases x with
  | ofNat m => cases y with
    | ofNat n => rfl
    | negSucc n => show sbN m (n + 1) = _; rw [sbN_eq, Int.negSucc_eq, Int.ofNat_eq_natCast]; omega
  | negSucc m => cases y with
    | ofNat n => show sbN n (m + 1) = _; rw [sbN_eq, Int.negSucc_eq, Int.ofNat_eq_natCast]; omega
    | negSucc n => show Int.negSucc (m + n + 1) = _; rw [Int.negSucc_eq, Int.negSucc_eq, Int.negSucc_eq]; omega
theorem subI_eq (x y : Int) : subI x y = x - y := by
  cases x with
  | ofNat m => cases y with
    | ofNat n => show sbN m n = _; rw [sbN_eq]; rfl
    | negSucc n => show Int.ofNat (m + (n + 1)) = _; rw [Int.negSucc_eq, Int.ofNat_eq_natCast, Int.ofNat_eq_natCast]; omega
  | negSucc m => cases y with
    | ofNat n => show Int.negSucc (m + n) = _; rw [Int.negSucc_eq, Int.negSucc_eq, Int.ofNat_eq_natCast]; omega
    | negSucc n => show sbN n m = _; rw [sbN_eq, Int.negSucc_eq, Int.negSucc_eq]; omega
theorem ltI_eq (x y : Int) : ltI x y = iLt x y := by cases x <;> cases y <;> rfl
theorem eqI_eq (x y : Int) : eqI x y = iEq x y := by cases x <;> cases y <;> rfl
theorem w64_eq (n : Int) : w64 n = IntKind.wrap .i64 n := by
  cases n with
  | ofNat m =>
    show Bool.rec (motive := fun _ => Int) (IntKind.wrap .i64 (.ofNat m)) (.ofNat m) (Nat.ble m 9223372036854775807) = _
    cases h : Nat.ble m 9223372036854775807
    · rfl
    · have := Nat.le_of_ble_eq_true h
      exact (IntWalk.i64_in (Int.ofNat m) (by simp only [Int.ofNat_eq_natCast]; omega)).symm
  | negSucc m =>
    show Bool.rec (motive := fun _ => Int) (IntKind.wrap .i64 (.negSucc m)) (.negSucc m) (Nat.ble m 9223372036854775807) = _
    cases h : Nat.ble m 9223372036854775807
    · rfl
    · have := Nat.le_of_ble_eq_true h
      exact (IntWalk.i64_in (Int.negSucc m) (by rw [Int.negSucc_eq]; omega)).symm
theorem wU_eq (mx : Nat) (k : IntKind) (hk : ∀ n : Int, 0 ≤ n ∧ n ≤ mx → k.wrap n = n) (n : Int) : wU mx k n = IntKind.wrap k n := by
  cases n with
  | ofNat m =>
    show Bool.rec (motive := fun _ => Int) (IntKind.wrap k (.ofNat m)) (.ofNat m) (Nat.ble m mx) = _
    cases h : Nat.ble m mx
    · rfl
    · have := Nat.le_of_ble_eq_true h
      exact (hk (Int.ofNat m) (by simp only [Int.ofNat_eq_natCast]; omega)).symm
  | negSucc m => rfl
theorem wrapQ_eq (k : IntKind) (n : Int) : wrapQ k n = k.wrap n := by
  cases k with
  | i8 => rfl
  | i16 => rfl
  | i32 => rfl
  | i64 => exact w64_eq n
  | u8 => exact wU_eq _ _ IntWalk.u8_in n
  | u16 => exact wU_eq _ _ IntWalk.u16_in n
  | u32 => exact wU_eq _ _ IntWalk.u32_in n
  | u64 => exact wU_eq _ _ IntWalk.u64_in n
theorem wrapF_eq (k : IntKind) (n : Int) : wrapF k n = k.wrap n := by
  unfold wrapF
  split
  · rename_i m
    split
    · rename_i h
      have h := Nat.le_of_ble_eq_true h
      exact (IntWalk.i64_in (Int.ofNat m) (by simp only [Int.ofNat_eq_natCast]; omega)).symm
    · rfl
  · rename_i m
    split
    · rename_i h
      have h := Nat.le_of_ble_eq_true h
      exact (IntWalk.i64_in (Int.negSucc m) (by rw [Int.negSucc_eq]; omega)).symm
    · rfl
  · rfl


theorem chk_ite {β : Type} (b : Bool) (x y : β) : chk b x y = if b = true then x else y := by cases b <;> rfl
theorem rArith_eq {f : Int → Int → Int} {op : BinOp} (h : ∀ k a k' b, intBin op k a k' b = chk (Nat.beq (ikN k) (ikN k')) (some (.int k (wrapF k (f a b)))) none) (a b : AVal) (k : AVal → Res) : rArith f op a b k = slowB op a b k := by
  cases a <;> try rfl
  cases b <;> try rfl
  rename_i kd x kd' y
  show chk (Nat.beq (ikN kd) (ikN kd')) (seqInt (wrapQ kd (f x y)) fun r => k (.int kd r)) (.err 6) = ob (intBin op kd x kd' y) (.err 6) fun v => seqVal v k
  rw [h, seqInt_eq, wrapQ_eq, ← wrapF_eq]
  cases Nat.beq (ikN kd) (ikN kd')
  · rfl
  · exact (seqVal_eq (.int kd (wrapF kd (f x y))) k).symm
theorem rCmp_eq {f : Int → Int → Bool} {op : BinOp} (h : ∀ k a k' b, intBin op k a k' b = chk (Nat.beq (ikN k) (ikN k')) (some (.bool (f a b))) none) (a b : AVal) (k : AVal → Res) : rCmp f op a b k = slowB op a b k := by
  cases a <;> try rfl
  cases b <;> try rfl
  rename_i kd x kd' y
  show chk (Nat.beq (ikN kd) (ikN kd')) (seqBool (f x y) fun r => k (.bool r)) (.err 6) = ob (intBin op kd x kd' y) (.err 6) fun v => seqVal v k
  rw [h]
  cases Nat.beq (ikN kd) (ikN kd')
  · rfl
  · refine Eq.trans ?_ (seqVal_eq (.bool (f x y)) k).symm
    show seqBool (f x y) (fun r => k (.bool r)) = _
    cases f x y <;> rfl
theorem binR_eq (op : BinOp) (a b : AVal) (k : AVal → Res) : binR op a b k = ob (binA op a b) (.err 6) fun v => seqVal v k := by
  cases op with
  | add => exact rArith_eq (fun k a k' b => by rw [addI_eq]; rfl) a b k
  | sub => exact rArith_eq (fun k a k' b => by rw [subI_eq]; rfl) a b k
  | eql => exact rCmp_eq (fun k a k' b => by rw [eqI_eq]; rfl) a b k
  | neq => exact rCmp_eq (fun k a k' b => by unfold neI; rw [eqI_eq]; rfl) a b k
  | lss => exact rCmp_eq (fun k a k' b => by rw [ltI_eq]; rfl) a b k
  | leq => exact rCmp_eq (fun k a k' b => by unfold leI; rw [ltI_eq]; rfl) a b k
  | gtr => exact rCmp_eq (fun k a k' b => by unfold gtI; rw [ltI_eq]; rfl) a b k
  | geq => exact rCmp_eq (fun k a k' b => by unfold geI; rw [ltI_eq]; rfl) a b k
  | mul => rfl
  | quo => rfl
  | rem => rfl
  | and => rfl
  | or => rfl
  | xor => rfl
  | shl => rfl
  | shr => rfl
  | andNot => rfl

/-- The n cells at 'off' of generation g, as the abstract heap holds them. -/
structure RdAt (H : AHeap) (f g off n : Nat) (l : List AVal) : Prop where
  ex : ∃ elem es bts m lo fl cs x, H.t.get f = some (.row elem es bts m lo fl cs) ∧ lo ≤ g ∧ g ≤ m ∧ off % es + n ≤ es ∧ off / es < g ∧ cs.get (off / es) = some x ∧
    ((l = x ∧ n = es) ∨ l = (x.drop (off % es)).take n)

theorem rd_ok {β : Type} {H : AHeap} {f g off n : Nat} {e : β} {k : List AVal → β} {r : β} (h : rd H f g off n e k = r) (he : e ≠ r) : ∃ l, RdAt H f g off n l ∧ k l = r := by
  unfold rd at h
  cases ho : H.t.get f with
  | none => rw [ho] at h; exact absurd h he
  | some o =>
    rw [ho] at h
    cases o with
    | map => exact absurd h he
    | row elem es bts m lo fl cs =>
      simp only [onRow, chk_if] at h
      split at h
      · rename_i h1
        split at h
        · rename_i h2
          split at h
          · rename_i h3
            split at h
            · rename_i h4
              cases hg : cs.get (Nat.div off es) with
              | none => rw [hg] at h; exact absurd h he
              | some x =>
                rw [hg] at h
                simp only [ob] at h
                have a1 := Nat.le_of_ble_eq_true h1
                have a2 := Nat.le_of_ble_eq_true h2
                have a3 := Nat.le_of_ble_eq_true h3
                have a4 := Nat.le_of_ble_eq_true h4
                split at h
                · rename_i h5
                  exact ⟨x, ⟨_, _, _, _, _, _, _, x, ho, a1, a2, a3, a4, hg, .inl ⟨rfl, Nat.eq_of_beq_eq_true h5⟩⟩, h⟩
                · exact ⟨_, ⟨_, _, _, _, _, _, _, x, ho, a1, a2, a3, a4, hg, .inr rfl⟩, h⟩
            · exact absurd h he
          · exact absurd h he
        · exact absurd h he
      · exact absurd h he

theorem memN_iff (f : Nat) (l : List Nat) : memN f l = true ↔ f ∈ l := by
  induction l with
  | nil => simp [memN]
  | cons x r ih =>
    show chk (Nat.beq f x) true (memN f r) = true ↔ _
    rw [chk_if]
    by_cases h : f = x
    · simp [h]
    · have : ¬ (Nat.beq f x = true) := by simpa [Nat.beq_eq] using h
      simp [h, this, ih]
theorem wrote_mem (f mrk : Nat) (ws : List Nat) (x : Nat) : x ∈ wrote f mrk ws ↔ x ∈ ws ∨ (x = f ∧ f < mrk) := by
  unfold wrote
  rw [chk_if, chk_if]
  by_cases h : mrk ≤ f
  · rw [if_pos (Nat.ble_eq_true_of_le h)]
    constructor
    · exact .inl
    · rintro (h1 | ⟨_, h1⟩)
      · exact h1
      · omega
  · have hn : ¬ (Nat.ble mrk f = true) := by simpa using h
    rw [if_neg hn]
    by_cases hm : memN f ws = true
    · rw [if_pos hm]
      rw [memN_iff] at hm
      constructor
      · exact .inl
      · rintro (h1 | ⟨rfl, _⟩)
        · exact h1
        · exact hm
    · rw [if_neg hm]
      simp only [List.mem_cons]
      constructor
      · rintro (rfl | h1)
        · exact .inr ⟨rfl, by omega⟩
        · exact .inl h1
      · rintro (h1 | ⟨rfl, _⟩)
        · exact .inr h1
        · exact .inl rfl

/-- A write went through. -/
structure WrAt (H : AHeap) (f g off n : Nat) (new : List AVal) (H' : AHeap) : Prop where
  ex : ∃ elem es bts lo cs x, H.t.get f = some (.row elem es bts g lo 0 cs) ∧ lo ≤ g ∧ off % es + n ≤ es ∧ off / es < g ∧ new.length = n ∧ cs.get (off / es) = some x ∧
    H' = ⟨H.next, H.mrk, wrote f H.mrk H.ws, H.t.set f (.row elem es bts g g 0 (cs.set (off / es) (if n = es then new else splice x (off % es) new)))⟩
theorem wr_ok {H : AHeap} {f g off n m : Nat} {new : List AVal} {k : AHeap → Res} {v : AVal} {H' : AHeap} (h : wr H f g off n new (.err m) k = .ok v H') : ∃ H1, WrAt H f g off n new H1 ∧ k H1 = .ok v H' := by
  cases H with
  | mk next mrk ws t =>
    have h := onRow_ok h
    obtain ⟨elem, es, bts, mm, lo, fl, cs, ho, h⟩ := h
    obtain ⟨h1, h⟩ := chk_ok h
    obtain ⟨h2, h⟩ := chk_ok h
    obtain ⟨h6, h⟩ := chk_ok h
    obtain ⟨h3, h⟩ := chk_ok h
    obtain ⟨h4, h⟩ := chk_ok h
    obtain ⟨h5, h⟩ := chk_ok h
    obtain ⟨x, hx, hz⟩ := ob_ok h
    rw [RT.setC_eq, HT.setC_eq] at hz
    have e1 := Nat.eq_of_beq_eq_true h1
    have e2 := Nat.eq_of_beq_eq_true h2
    have e5 := Nat.eq_of_beq_eq_true h5
    rw [lenL_eq] at e5
    clear h h1 h2
    subst e1 e2
    refine ⟨_, ⟨elem, es, bts, lo, cs, x, ho, Nat.le_of_ble_eq_true h6, Nat.le_of_ble_eq_true h3, Nat.le_of_ble_eq_true h4, e5, hx, ?_⟩, hz⟩
    rw [chk_if]
    simp only [Nat.beq_eq]
    rfl

/-! ### What a run leaves alone -/
structure Tame (H H' : AHeap) : Prop where
  next : H.next ≤ H'.next
  mrk : H'.mrk = H.mrk
  ws : ∀ f, f ∈ H.ws → f ∈ H'.ws
  same : ∀ f, f < H.mrk → f ∉ H'.ws → H'.t.get f = H.t.get f
  wf : (∀ f, H.next ≤ f → H.t.get f = none) → ∀ f, H'.next ≤ f → H'.t.get f = none
  keep : ∀ f, H.t.get f ≠ none → H'.t.get f ≠ none
theorem Tame.refl (H : AHeap) : Tame H H := ⟨Nat.le_refl _, rfl, fun _ h => h, fun _ _ _ => rfl, fun h => h, fun _ h => h⟩
theorem Tame.trans {A B C : AHeap} (h : Tame A B) (k : Tame B C) : Tame A C :=
  ⟨Nat.le_trans h.next k.next, k.mrk.trans h.mrk, fun f hf => k.ws f (h.ws f hf), fun f hf hw => (k.same f (h.mrk ▸ hf) hw).trans (h.same f hf fun e => hw (k.ws f e)), fun x => k.wf (h.wf x), fun f x => k.keep f (h.keep f x)⟩

theorem Tame.alloc {H : AHeap} (o : AObj) (hm : H.mrk ≤ H.next) : Tame H ⟨H.next + 1, H.mrk, H.ws, H.t.set H.next o⟩ :=
  ⟨Nat.le_succ _, rfl, fun _ h => h, fun f hf _ => by show (H.t.set H.next o).get f = _; rw [HT.get_set, if_neg (by omega)],
   fun h f hf => by
    have hf : H.next + 1 ≤ f := hf
    show (H.t.set H.next o).get f = none
    rw [HT.get_set, if_neg (by omega)]; exact h f (by omega),
   fun f hf => by
    show (H.t.set H.next o).get f ≠ none
    rw [HT.get_set]
    split
    · simp
    · exact hf⟩
theorem Tame.write {H : AHeap} (f : Nat) (o : AObj) {o0 : AObj} (h0 : H.t.get f = some o0) : Tame H ⟨H.next, H.mrk, wrote f H.mrk H.ws, H.t.set f o⟩ :=
  ⟨Nat.le_refl _, rfl, fun x hx => (wrote_mem _ _ _ _).2 (.inl hx), fun x hx hw => by
    show (H.t.set f o).get x = _
    rw [HT.get_set]
    split
    · rename_i e; subst e; exact absurd ((wrote_mem _ _ _ _).2 (.inr ⟨rfl, hx⟩)) hw
    · rfl, fun h x hx => by
    have hx : H.next ≤ x := hx
    show (H.t.set f o).get x = none
    rw [HT.get_set]
    split
    · rename_i e; subst e; rw [h x hx] at h0; cases h0
    · exact h x hx, fun x hx => by
    show (H.t.set f o).get x ≠ none
    rw [HT.get_set]
    split
    · simp
    · exact hx⟩

/-- 'r', if it is a result, leaves H tamely. -/
def TM (H : AHeap) (r : Res) : Prop := ∀ v H', r = .ok v H' → Tame H H'
theorem TM.err {H : AHeap} {n : Nat} : TM H (.err n) := fun _ _ h => by cases h
theorem TM.ok {H : AHeap} {v : AVal} : TM H (.ok v H) := fun _ _ h => by cases h; exact Tame.refl _
theorem TM.chk {H : AHeap} {b : Bool} {k e : Res} (h : TM H k) (h' : TM H e) : TM H (chk b k e) := by cases b; exact h'; exact h
theorem TM.ob {H : AHeap} {α : Type} {o : Option α} {e : Res} {k : α → Res} (h : ∀ x, TM H (k x)) (h' : TM H e) : TM H (ob o e k) := by cases o; exact h'; exact h _
theorem TM.withO {H : AHeap} {x : Opd} {E : Env} {e : Res} {k : AVal → Res} (h : ∀ x, TM H (k x)) (h' : TM H e) : TM H (withO x E e k) := by
  cases x with
  | t i => exact TM.ob (o := E.get i) h h'
  | c a => exact h a
theorem TM.onBool {H : AHeap} {a : AVal} {e : Res} {k : Bool → Res} (h : ∀ x, TM H (k x)) (h' : TM H e) : TM H (onBool a e k) := by cases a <;> first | exact h' | exact h _
theorem TM.onInt {H : AHeap} {a : AVal} {e : Res} {k : IntKind → Int → Res} (h : ∀ x y, TM H (k x y)) (h' : TM H e) : TM H (onInt a e k) := by cases a <;> first | exact h' | exact h _ _
theorem TM.onStr {H : AHeap} {a : AVal} {e : Res} {k : Nat → Nat → Res} (h : ∀ x y, TM H (k x y)) (h' : TM H e) : TM H (onStr a e k) := by cases a <;> first | exact h' | exact h _ _
theorem TM.onPtr {H : AHeap} {a : AVal} {e : Res} {k : Nat → Nat → Nat → Res} (h : ∀ x y z, TM H (k x y z)) (h' : TM H e) : TM H (onPtr a e k) := by cases a <;> first | exact h' | exact h _ _ _
theorem TM.onSlice {H : AHeap} {a : AVal} {e e2 : Res} {k : Nat → Nat → Nat → Nat → Nat → Res} (h : ∀ x y z u w, TM H (k x y z u w)) (h2 : TM H e2) (h' : TM H e) : TM H (onSlice a e e2 k) := by cases a <;> first | exact h' | exact h2 | exact h _ _ _ _ _
theorem TM.onAgg {H : AHeap} {a : AVal} {e : Res} {k : List AVal → Res} (h : ∀ x, TM H (k x)) (h' : TM H e) : TM H (onAgg a e k) := by cases a <;> first | exact h' | exact h _
theorem TM.onTuple {H : AHeap} {a : AVal} {e : Res} {k : List AVal → Res} (h : ∀ x, TM H (k x)) (h' : TM H e) : TM H (onTuple a e k) := by cases a <;> first | exact h' | exact h _
theorem TM.onFunc {H : AHeap} {a : AVal} {e : Res} {k : Nat → List AVal → Res} (h : ∀ x y, TM H (k x y)) (h' : TM H e) : TM H (onFunc a e k) := by cases a <;> first | exact h' | exact h _ _
theorem TM.onNat {H : AHeap} {i : Int} {e : Res} {k : Nat → Res} (h : ∀ x, TM H (k x)) (h' : TM H e) : TM H (onNat i e k) := by cases i; exact h _; exact h'
theorem TM.idx {H : AHeap} {a : AVal} {n : Nat} {e : Res} {k : Nat → Res} (h : ∀ x, TM H (k x)) (h' : TM H e) : TM H (idx a n e k) := TM.onInt (fun _ _ => TM.onNat (fun _ => TM.chk (h _) h') h') h'
theorem TM.bnd {H : AHeap} {E : Env} {x : Option Opd} {d y : Nat} {e : Res} {k : Nat → Res} (h : ∀ x, TM H (k x)) (h' : TM H e) : TM H (bnd E x d y e k) := by
  cases x with
  | none => exact h _
  | some z => exact TM.ob (fun _ => TM.onInt (fun _ _ => TM.onNat (fun _ => TM.chk (h _) h') h') h') h'
theorem TM.onRow {H : AHeap} {o : Option AObj} {e : Res} {k : Nat → Nat → Nat → Nat → Nat → Nat → RT → Res} (h : ∀ a b c d e f g, TM H (k a b c d e f g)) (h' : TM H e) : TM H (onRow o e k) := by
  cases o with
  | none => exact h'
  | some o => cases o with
    | row => exact h _ _ _ _ _ _ _
    | map => exact h'
theorem TM.outA {H : AHeap} {agg : Bool} {l : List AVal} {e : Res} {k : AVal → Res} (h : ∀ x, TM H (k x)) (h' : TM H e) : TM H (outA agg l e k) := by
  refine TM.chk (h _) ?_
  cases l with
  | nil => exact h'
  | cons x r => cases r with
    | nil => exact h _
    | cons => exact h'
theorem TM.seqNat {H : AHeap} {n : Nat} {k : Nat → Res} (h : ∀ x, TM H (k x)) : TM H (seqNat n k) := by rw [seqNat_eq]; exact h _
theorem TM.seqInt {H : AHeap} {n : Int} {k : Int → Res} (h : ∀ x, TM H (k x)) : TM H (seqInt n k) := by rw [seqInt_eq]; exact h _
theorem TM.seqVal {H : AHeap} {n : AVal} {k : AVal → Res} (h : ∀ x, TM H (k x)) : TM H (seqVal n k) := by rw [seqVal_eq]; exact h _
theorem TM.seqBool {H : AHeap} {n : Bool} {k : Bool → Res} (h : ∀ x, TM H (k x)) : TM H (seqBool n k) := by cases n <;> exact h _
theorem TM.binR {H : AHeap} {op : BinOp} {a b : AVal} : TM H (binR op a b fun v => .ok v H) := by rw [binR_eq]; exact TM.ob (fun _ => TM.seqVal fun _ => TM.ok) TM.err
theorem TM.hset {H : AHeap} {t : HT} {n : Nat} {o : AObj} {k : HT → Res} (h : TM H (k (t.set n o))) : TM H (t.setC n o k) := by rw [HT.setC_eq]; exact h
theorem TM.fill {H : AHeap} {l : List (List AVal)} {t : RT} {i : Nat} {k : RT → Res} (h : TM H (k (fillTr l t i))) : TM H (fillC l t i k) := by rw [fillC_eq]; exact h
theorem TM.rep {H : AHeap} {x : List AVal} {n : Nat} {k : RT → Res} (h : TM H (k (repTr x n))) : TM H (repC x n k) := by rw [repC_eq]; exact h
theorem TM.alloc {H : AHeap} {o : AObj} {k : Nat → AHeap → Res} (hm : H.mrk ≤ H.next) (hk : ∀ f H2, ∃ v, k f H2 = .ok v H2) : TM H (H.alloc o k) := fun x H' h => by
  have h1 := alloc_ok h
  obtain ⟨v, hv⟩ := hk H.next ⟨H.next + 1, H.mrk, H.ws, H.t.set H.next o⟩
  rw [hv] at h1; cases h1; exact Tame.alloc o hm
theorem TM.rd {H : AHeap} {f g off n : Nat} {e : Res} {k : List AVal → Res} (h : ∀ x, TM H (k x)) (h' : TM H e) : TM H (rd H f g off n e k) :=
  TM.onRow (fun _ _ _ _ _ _ _ => TM.chk (TM.chk (TM.chk (TM.chk (TM.ob (fun _ => TM.chk (h _) (h _)) h') h') h') h') h') h'

theorem TM.appA {H : AHeap} {elem es bts n : Nat} {new : List (List AVal)} {x : AVal} (hm : H.mrk ≤ H.next) : TM H (appA elem es bts n new H x) := by
  cases n with
  | zero => exact TM.onSlice (fun _ _ _ _ _ => TM.ok) TM.ok TM.err
  | succ n =>
    refine TM.onSlice (fun f g off ln es' => ?_) (TM.chk (TM.fill (TM.alloc hm (fun _ _ => ⟨_, rfl⟩))) TM.err) TM.err
    cases H with
    | mk next mrk ws t =>
      show TM _ (Ev.onRow (t.get f) _ _)
      cases hg : t.get f with
      | none => exact TM.err
      | some ob => cases ob with
        | map => exact TM.err
        | row a1 a2 a3 a4 a5 a6 a7 =>
      refine TM.chk (TM.chk (TM.chk (TM.chk (TM.chk (TM.chk (TM.chk TM.err (TM.chk (TM.chk (TM.seqNat fun _ => TM.fill (TM.hset ?_)) TM.err) TM.err)) TM.err) TM.err) TM.err) TM.err) TM.err) TM.err
      exact fun v H' h => by cases h; exact Tame.write (H := ⟨next, mrk, ws, t⟩) f _ hg

theorem TM.wr {H : AHeap} {f g off n : Nat} {new : List AVal} {v : AVal} : TM H (wr H f g off n new (.err 5) fun H => .ok v H) := fun x H' h => by
  obtain ⟨H1, ⟨_, _, _, _, _, _, hg, _, _, _, _, _, e⟩, h⟩ := wr_ok h
  cases h
  subst e
  exact Tame.write f _ hg

theorem TM.boxz {H : AHeap} {a b c : Nat} {d : List AVal} {E : Env} (hm : H.mrk ≤ H.next) : TM H (eBoxz a b c d E H) :=
  TM.alloc (o := .row a b c 1 1 0 (.one d)) (k := fun f H => .ok (.ptr f 1 0) H) hm (fun _ _ => ⟨_, rfl⟩)

theorem TM.frz {H : AHeap} {f e : Nat} {v : AVal} : TM H (frz f e H fun H => .ok v H) := by
  cases H with
  | mk next mrk ws t =>
    show TM _ (Ev.onRow (t.get f) _ _)
    cases hg : t.get f with
    | none => exact TM.err
    | some ob => cases ob with
      | map => exact TM.err
      | row a1 a2 a3 a4 a5 a6 a7 =>
      refine TM.chk (TM.chk (TM.chk (TM.hset ?_) TM.err) TM.err) TM.err
      exact fun v H' h => by cases h; exact Tame.write (H := ⟨next, mrk, ws, t⟩) f _ hg
theorem TM.ins {call : CallF} {H : AHeap} (hm : H.mrk ≤ H.next) (hc : ∀ f a, TM H (call f a H)) (E : Env) (o : Ins) : TM H (o.ev call E H) := by
  cases o with
  | mov x => exact TM.withO (fun _ => TM.ok) TM.err
  | pick c a b => exact TM.withO (fun _ => TM.onBool (fun _ => TM.chk (TM.withO (fun _ => TM.ok) TM.err) (TM.withO (fun _ => TM.ok) TM.err)) TM.err) TM.err
  | boxz a b c d => exact TM.boxz (E := E) hm
  | box a b c d => exact TM.withO (fun _ => TM.ob (fun _ => TM.chk (TM.boxz (E := E) hm) TM.err) TM.err) TM.err
  | load a b c => exact TM.withO (fun _ => TM.onPtr (fun _ _ _ => TM.rd (fun _ => TM.outA (fun _ => TM.ok) TM.err) TM.err) TM.err) TM.err
  | store a b c => exact TM.withO (fun _ => TM.onPtr (fun _ _ _ => TM.withO (fun _ => TM.ob (fun _ => TM.wr) TM.err) TM.err) TM.err) TM.err
  | bin op x y => exact TM.withO (fun _ => TM.withO (fun _ => TM.binR) TM.err) TM.err
  | eqv c n x y => exact TM.withO (fun _ => TM.withO (fun _ => TM.ob (fun _ => TM.seqBool fun _ => TM.ok) TM.err) TM.err) TM.err
  | un op x => exact TM.withO (fun _ => TM.ob (fun _ => TM.seqVal fun _ => TM.ok) TM.err) TM.err
  | offs x k => exact TM.withO (fun _ => TM.onPtr (fun _ _ _ => TM.seqNat fun _ => TM.ok) TM.err) TM.err
  | sub x a b c => exact TM.withO (fun _ => TM.onAgg (fun _ => TM.chk (TM.outA (fun _ => TM.ok) TM.err) TM.err) TM.err) TM.err
  | idxArr a b x i => exact TM.withO (fun _ => TM.onPtr (fun _ _ _ => TM.withO (fun _ => TM.idx (fun _ => TM.seqNat fun _ => TM.ok) TM.err) TM.err) TM.err) TM.err
  | idxSl a x i => exact TM.withO (fun _ => TM.onSlice (fun _ _ _ _ _ => TM.withO (fun _ => TM.idx (fun _ => TM.seqNat fun _ => TM.ok) TM.err) TM.err) TM.err TM.err) TM.err
  | idxVal a b c x i => exact TM.withO (fun _ => TM.onAgg (fun _ => TM.withO (fun _ => TM.idx (fun _ => TM.chk (TM.outA (fun _ => TM.ok) TM.err) TM.err) TM.err) TM.err) TM.err) TM.err
  | idxStr x i => exact TM.withO (fun _ => TM.onStr (fun _ _ => TM.withO (fun _ => TM.idx (fun _ => TM.seqNat fun _ => TM.ok) TM.err) TM.err) TM.err) TM.err
  | slStr x a b => exact TM.withO (fun _ => TM.onStr (fun _ _ => TM.bnd (fun _ => TM.bnd (fun _ => TM.seqNat fun _ => TM.seqNat fun _ => TM.ok) TM.err) TM.err) TM.err) TM.err
  | slSl n x a b => exact TM.withO (fun _ => TM.onSlice (fun _ _ _ _ _ => TM.chk (TM.bnd (fun _ => TM.bnd (fun _ => TM.seqNat fun _ => TM.seqNat fun _ => TM.ok) TM.err) TM.err) TM.err) (TM.bnd (fun _ => TM.bnd (fun _ => TM.ok) TM.err) TM.err) TM.err) TM.err
  | slArr k n x a b => exact TM.withO (fun _ => TM.onPtr (fun _ _ _ => TM.onRow (fun _ _ _ _ _ _ _ => TM.chk (TM.chk (TM.chk (TM.bnd (fun _ => TM.bnd (fun _ => TM.seqNat fun _ => TM.seqNat fun _ => TM.ok) TM.err) TM.err) TM.err) TM.err) TM.err) TM.err) TM.err) TM.err
  | extr x i => exact TM.withO (fun _ => TM.onTuple (fun _ => TM.ob (fun _ => TM.ok) TM.err) TM.err) TM.err
  | nilck x => exact TM.withO (fun _ => TM.chk TM.ok TM.err) TM.err
  | mkfn f l => exact TM.ob (fun _ => TM.ok) TM.err
  | mkif t x => exact TM.withO (fun _ => TM.ok) TM.err
  | mksl a b c d e f => exact TM.withO (fun _ => TM.onInt (fun _ _ => TM.onNat (fun _ => TM.withO (fun _ => TM.onInt (fun _ _ => TM.onNat (fun _ => TM.chk (TM.chk (TM.chk (TM.rep (TM.alloc hm (fun _ _ => ⟨_, rfl⟩))) TM.err) TM.err) TM.err) TM.err) TM.err) TM.err) TM.err) TM.err) TM.err
  | build a b => exact TM.ob (fun _ => TM.ok) TM.err
  | buildSl a b c d e f => exact TM.ob (fun _ => TM.alloc hm (fun _ _ => ⟨_, rfl⟩)) TM.err
  | len x => exact TM.withO (fun _ => TM.onSlice (fun _ _ _ _ _ => TM.ok) TM.ok TM.err) TM.err
  | lenK n => exact TM.ok
  | lenS x => exact TM.withO (fun _ => TM.onStr (fun _ _ => TM.ok) TM.err) TM.err
  | app a b c x y => exact TM.withO (fun _ => TM.withO (fun _ => TM.onSlice (fun _ _ _ _ _ => TM.ob (fun _ => TM.appA hm) TM.err) (TM.appA hm) TM.err) TM.err) TM.err
  | appStr a x y => exact TM.withO (fun _ => TM.withO (fun _ => TM.onStr (fun _ _ => TM.appA hm) TM.err) TM.err) TM.err
  | copy a b c => exact TM.err
  | minmax a b c => exact TM.withO (fun _ => TM.onInt (fun _ _ => TM.ob (fun _ => TM.ob (fun _ => TM.ok) TM.err) TM.err) TM.err) TM.err
  | conv k x => exact TM.withO (fun _ => TM.onInt (fun _ _ => TM.seqInt fun _ => TM.ok) TM.err) TM.err
  | convId x => exact TM.withO (fun _ => TM.ok) TM.err
  | convSB e x => exact TM.withO (fun _ => TM.onStr (fun _ _ => TM.chk (TM.fill (TM.alloc hm (fun _ _ => ⟨_, rfl⟩))) TM.err) TM.err) TM.err
  | convBS x => exact TM.withO (fun _ => TM.onSlice (fun _ _ _ _ _ => TM.ob (fun _ => TM.ob (fun _ => TM.seqNat fun _ => TM.ok) TM.err) TM.err) TM.ok TM.err) TM.err
  | call f l => exact TM.ob (fun _ => hc _ _) TM.err
  | callv x l => exact TM.withO (fun _ => TM.onFunc (fun _ _ => TM.ob (fun _ => hc _ _) TM.err) TM.err) TM.err
  | uconv t n x => exact TM.withO (fun _ => TM.chk TM.ok (TM.onPtr (fun _ _ _ => TM.onRow (fun _ _ _ _ _ _ _ => TM.chk (TM.chk (TM.chk (TM.chk (TM.chk (TM.chk (TM.chk TM.ok TM.err) TM.err) TM.err) TM.err) TM.err) TM.err) TM.err) TM.err) TM.err)) TM.err
  | usd x => exact TM.withO (fun _ => TM.onSlice (fun _ _ _ _ _ => TM.chk TM.err TM.ok) TM.ok TM.err) TM.err
  | ustr e x n => exact TM.withO (fun _ => TM.onPtr (fun _ _ _ => TM.withO (fun _ => TM.onInt (fun _ _ => TM.onNat (fun _ => TM.chk (TM.chk (TM.chk (TM.chk (TM.ob (fun _ => TM.ob (fun _ => TM.seqNat fun _ => TM.frz) TM.err) TM.err) TM.err) TM.err) TM.err) TM.err) TM.err) TM.err) TM.err) TM.err) TM.err

end Go.Ev
