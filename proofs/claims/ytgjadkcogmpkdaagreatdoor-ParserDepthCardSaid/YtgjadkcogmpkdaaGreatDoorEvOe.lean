/- A part of an evaluator for the program's code: == of structs of numbers, bools and strings. It holds for every program. -/
import Derived.Test.YtgjadkcogmpkdaaGreatDoorEvOd
import Derived.DeepKeys
import Derived.OpenShut
import Derived.Laws.StructEq
/-! == of structs of numbers, bools and strings. -/
set_option linter.unusedVariables false
set_option linter.unusedSimpArgs false
namespace Go.Ev
section
variable {P : Program} {ρ : Ho} {nt : Nat} {E : Env} {a : Act} {C : Nat → Option AObj} {w : World} {H H' : AHeap} {v : AVal} {o : Oper} {call : CallF}

def litV : Value → Lit
  | .bool b => .bool b
  | .int k n => .int k n
  | .string s => .string s.data.toList
  | _ => .bool false
inductive leafV : Nat → Value → Prop
  | int {q : IntKind} {n : Int} : (Lit.int q n).wf = true → leafV (ikN q) (.int q n)
  | bool {b : Bool} : leafV 100 (.bool b)
  | str {s : ByteArray} : s.size ≤ maxLen → leafV 101 (.string s)
def LeafV : List Nat → List Value → Prop
  | [], [] => True
  | k :: r, c :: s => leafV k c ∧ LeafV r s
  | _, _ => False

theorem LeafV.split : ∀ {k l : List Nat} {cs : List Value}, LeafV (k ++ l) cs → LeafV k (cs.take k.length) ∧ LeafV l (cs.drop k.length)
  | [], l, cs, h => by simpa [LeafV] using h
  | x :: k, l, [], h => by simp [LeafV] at h
  | x :: k, l, c :: cs, h => by
    have h : leafV x c ∧ LeafV (k ++ l) cs := h
    obtain ⟨h1, h2⟩ := LeafV.split h.2
    exact ⟨by simpa [LeafV] using ⟨h.1, h1⟩, by simpa using h2⟩
theorem LeafV.length : ∀ {k : List Nat} {cs : List Value}, LeafV k cs → cs.length = k.length
  | [], [], _ => rfl
  | [], _ :: _, h => h.elim
  | _ :: _, [], h => h.elim
  | _ :: k, _ :: cs, h => by have := LeafV.length h.2; simp [this]

theorem fields_ok {g : TypeId → Option (List Nat)} {D : Nat} (hg : ∀ t ks, g t = some ks → ∀ cs, LeafV ks cs → P.keyLits D t cs = some (cs.map litV)) : ∀ (fs : List Field) (off : Nat) (ks : List Nat), fieldsK P g off fs = some ks → ∀ cs : List Value, LeafV ks (cs.drop off) →
    ∃ L, (fs.mapM fun f => P.keyLits D f.type ((cs.drop f.offset).take (P.cellsOf f.type))) = some L ∧ L.flatten = (cs.drop off).map litV
  | [], off, ks, h, cs, hl => by
    cases h
    have := hl.length
    have e : cs.drop off = [] := List.eq_nil_of_length_eq_zero (by simpa using this)
    exact ⟨[], rfl, by rw [e]; rfl⟩
  | f :: r, off, ks, h, cs, hl => by
    unfold fieldsK at h
    split at h
    · rename_i k hk
      split at h
      · rename_i hc
        split at h
        · rename_i l hl2
          cases h
          obtain ⟨h1, h2⟩ := hl.split
          rw [List.drop_drop] at h2
          obtain ⟨L, hL, hf⟩ := fields_ok hg r (off + k.length) l hl2 cs h2
          refine ⟨((cs.drop off).take k.length).map litV :: L, ?_, ?_⟩
          · rw [List.mapM_cons, hc.1, ← hc.2, hg _ _ hk _ h1]
            simp [hL]
          · rw [List.flatten_cons, hf, ← List.drop_drop, ← List.map_append, List.take_append_drop]
        · cases h
      · cases h
    · cases h

theorem keyLits_ok : ∀ (D : Nat) (t : TypeId) (ks : List Nat), kindsOf P D t = some ks → ∀ cs, LeafV ks cs → P.keyLits D t cs = some (cs.map litV)
  | 0, _, _, h, _, _ => by cases h
  | D + 1, t, ks, h, cs, hl => by
    unfold kindsOf at h
    unfold Program.keyLits
    split at h
    · rename_i hu
      cases h
      match cs, hl with
      | [c], hl =>
        obtain ⟨hl, _⟩ := hl
        generalize hk : (100 : Nat) = k at hl
        cases hl with
        | int h => rename_i q _; cases q <;> simp [ikN] at hk
        | bool => simp [hu, litV]
        | str => simp at hk
      | [], hl => exact hl.elim
      | _ :: _ :: _, hl => exact hl.2.elim
    · rename_i k hu
      cases h
      match cs, hl with
      | [c], hl =>
        obtain ⟨hl, _⟩ := hl
        generalize hk : ikN k = kk at hl
        cases hl with
        | int h =>
          rename_i q n
          have : k = q := ikN_inj (by rw [hk]; exact Nat.beq_refl _)
          subst this
          simp [hu, litV, h]
        | bool => cases k <;> simp [ikN] at hk
        | str => cases k <;> simp [ikN] at hk
      | [], hl => exact hl.elim
      | _ :: _ :: _, hl => exact hl.2.elim
    · rename_i hu
      cases h
      match cs, hl with
      | [c], hl =>
        obtain ⟨hl, _⟩ := hl
        generalize hk : (101 : Nat) = k at hl
        cases hl with
        | int h => rename_i q _; cases q <;> simp [ikN] at hk
        | bool => simp at hk
        | str h => simp [hu, litV, h]
      | [], hl => exact hl.elim
      | _ :: _ :: _, hl => exact hl.2.elim
    · rename_i fs hu
      split at h
      · rename_i ks' hk
        split at h
        · rename_i hc
          cases h
          obtain ⟨L, hL, hf⟩ := fields_ok (keyLits_ok D) fs.toList 0 ks hk cs (by simpa using hl)
          have hlen := hl.length
          simp only [hu]
          rw [if_pos ⟨by rw [hlen]; exact hc.1, hc.2⟩, hL]
          simp [hf]
        · cases h
      · cases h
    · cases h

theorem leaf_ok {c : Nat} {x : AVal} {cv : Value} (h : leafOk c x = true) (hv : VR ρ x cv) : leafV c cv := by
  unfold leafOk at h
  split at h
  · rename_i k n
    simp only [Bool.and_eq_true] at h
    have h1 := Nat.eq_of_beq_eq_true h.1
    have h2 := h.2
    rw [iEq_eq, wrapF_eq] at h2
    simp only [decide_eq_true_eq] at h2
    simp only [VR] at hv
    subst hv; subst h1
    exact .int (by rw [← h2]; exact wf_wrap k n)
  · have h1 := Nat.eq_of_beq_eq_true h
    simp only [VR] at hv
    subst hv; subst h1
    exact .bool
  · simp only [Bool.and_eq_true] at h
    have h1 := Nat.eq_of_beq_eq_true h.1
    have h2 := Nat.le_of_ble_eq_true h.2
    simp only [VR] at hv
    obtain ⟨b, rfl, rfl, _⟩ := hv
    subst h1
    exact .str (by simpa [maxLen] using h2)
  · cases h
theorem leaves_ok : ∀ {ks : List Nat} {l : List AVal} {cs : List Value}, leavesOk ks l = true → VRs ρ l cs → LeafV ks cs
  | [], [], _, _, hv => by simp only [VRs] at hv; subst hv; trivial
  | c :: r, x :: s, _, h, hv => by
    simp only [leavesOk, Bool.and_eq_true] at h
    simp only [VRs] at hv
    obtain ⟨cv, t, rfl, h1, h2⟩ := hv
    exact ⟨leaf_ok h.1 h1, leaves_ok h.2 h2⟩
  | [], _ :: _, _, h, _ => by simp [leavesOk] at h
  | _ :: _, [], _, h, _ => by simp [leavesOk] at h

theorem eqPlain1_ok {x y : AVal} {cx cy : Value} {r : Bool} (h : eqPlain1 x y = some r) (hx : VR ρ x cx) (hy : VR ρ y cy) : r = true ↔ litV cx = litV cy := by
  unfold eqPlain1 at h
  split at h
  · rename_i k a' k' b'
    split at h
    · rename_i hk
      cases h
      have := ikN_inj hk
      subst this
      simp only [VR] at hx hy
      subst hx; subst hy
      simp [litV, iEq_eq]
    · cases h
  · cases h
    simp only [VR] at hx hy
    subst hx; subst hy
    simp [litV]
  · cases h
    simp only [VR] at hx hy
    obtain ⟨b1, rfl, rfl, rfl⟩ := hx
    obtain ⟨b2, rfl, rfl, rfl⟩ := hy
    have h1 : b1.size = b1.data.toList.length := Array.length_toList.symm
    have h2 : b2.size = b2.data.toList.length := Array.length_toList.symm
    rw [h1, h2, strEq_pack]
    simp [litV]
  · cases h
theorem eqPlain_ok : ∀ {x y : List AVal} {cx cy : List Value} {r : Bool}, eqPlain x y = some r → VRs ρ x cx → VRs ρ y cy → (r = true ↔ cx.map litV = cy.map litV)
  | [], [], _, _, r, h, hx, hy => by
    cases h
    simp only [VRs] at hx hy
    subst hx; subst hy
    simp
  | x :: s, y :: t, _, _, r, h, hx, hy => by
    simp only [VRs] at hx hy
    obtain ⟨cv, ct, rfl, h1, h2⟩ := hx
    obtain ⟨dv, dt, rfl, h3, h4⟩ := hy
    unfold eqPlain at h
    split at h
    · rename_i e
      have k1 := eqPlain1_ok e h1 h3
      have k2 := eqPlain_ok h h2 h4
      simp only [List.map_cons, List.cons.injEq]
      exact ⟨fun hr => ⟨k1.1 rfl, k2.1 hr⟩, fun hr => k2.2 hr.2⟩
    · rename_i e
      have k1 := eqPlain1_ok e h1 h3
      split at h
      · cases h
        simp only [List.map_cons, List.cons.injEq]
        exact ⟨fun hr => (by cases hr), fun hr => absurd (k1.2 hr.1) (by simp)⟩
      · cases h
    · cases h
  | [], _ :: _, _, _, _, h, _, _ => by cases h
  | _ :: _, [], _, _, _, h, _, _ => by cases h

theorem eqAgg_sound (hA : AR P ρ nt E a) (hR : R ρ C w) {op : BinOp} {t t' : TypeId} {fs : Array Field} {x z : Operand} {x' z' : Opd} {io : Ins} (ho : o.op = .binOp op t x z t') (hx : opdOf P x = some x') (hz : opdOf P z = some z') (hu : P.underlying t = some (.struct fs))
    (hio : eqAgg P op t x' z' = some io) (h : io.ev call E H = .ok v H') : OpOk P o a w (Post ρ C w H v H') := by
  unfold eqAgg at hio
  split at hio
  · rename_i ks hks
    split at hio
    · rename_i hc
      have key : ∀ neg, (op = .eql ∧ neg = false) ∨ (op = .neq ∧ neg = true) → eEq (.agg ks) neg x' z' E H = .ok v H' → OpOk P o a w (Post ρ C w H v H') := by
        intro neg hop h
        replace h := withO_ok h; obtain ⟨u, hu1, h⟩ := h
        replace h := withO_ok h; obtain ⟨u2, hu2, h⟩ := h
        replace h := ob_ok h; obtain ⟨r, hr, h⟩ := h
        rw [seqBool_eq] at h
        cases h
        have hv1 := hA.opd hx hu1
        have hv2 := hA.opd hz hu2
        cases u <;> try (cases hr; done)
        rename_i la
        cases u2 <;> try (cases hr; done)
        rename_i lb
        have hr : chk (leavesOk ks la) (chk (leavesOk ks lb) (eqPlain la lb) none) none = some r := hr
        cases g1 : leavesOk ks la
        · rw [g1] at hr; cases hr
        rw [g1, chk_true] at hr
        cases g2 : leavesOk ks lb
        · rw [g2] at hr; cases hr
        rw [g2, chk_true] at hr
        simp only [VR] at hv1 hv2
        obtain ⟨ca, e1, hva, _⟩ := hv1
        obtain ⟨cb, e2, hvb, _⟩ := hv2
        have hla := leaves_ok g1 hva
        have hlb := leaves_ok g2 hvb
        have hsz : ks.length = P.cellsOf t := by
          unfold kindsOf at hks
          simp only [hu] at hks
          split at hks
          · split at hks
            · rename_i hcc; cases hks; exact hcc.1
            · cases hks
          · cases hks
        have f1 : (Value.agg ca).formed P t = true := by
          have := hla.length
          simp only [Value.formed, hu, beq_iff_eq]
          rw [← hsz, ← this]; simp
        have f2 : (Value.agg cb).formed P t = true := by
          have := hlb.length
          simp only [Value.formed, hu, beq_iff_eq]
          rw [← hsz, ← this]; simp
        obtain ⟨r', hr', hiff⟩ := run_equalIn_deep (P := P) 9988 12 t hc.1 w 12 12 (.agg ca) (.agg cb) _ _ f1 f2 (keyLits_ok 12 t ks hks _ hla) (keyLits_ok 12 t ks hks _ hlb)
        have hrr : r' = r := by
          have k := eqPlain_ok hr hva hvb
          exact Bool.eq_iff_iff.2 (hiff.trans k.symm)
        subst hrr
        have hg := run_eqGuard_agg (P := P) w op t x z ca cb hc.2
        refine ok_value (cv := .bool (Bool.xor neg r')) ?_ hR (by simp only [VR])
        simp only [execOp, ho, Sem.run_bind, e1, e2, hg, Result.andThen_ok]
        have hr' : (Op.equalIn 10000 t (.agg ca) (.agg cb)).run P w = .ok r' w := hr'
        have he : (Op.equal t (.agg ca) (.agg cb)).run P w = .ok r' w := hr'
        rcases hop with ⟨rfl, rfl⟩ | ⟨rfl, rfl⟩
        · simp only [binOp]; simp [he]
        · simp only [binOp]; simp [he]
      cases op <;> simp only [Option.some.injEq, reduceCtorEq] at hio
      · subst hio; exact key false (.inl ⟨rfl, rfl⟩) h
      · subst hio; exact key true (.inr ⟨rfl, rfl⟩) h
    · cases hio
  · cases hio
end
end Go.Ev
