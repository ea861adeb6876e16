/- A part of an evaluator for the program's code: Regions that draw their order: the trace of the text's order. It holds for every program. -/
import Derived.Test.YtgjadkcogmpkdaaGreatDoorEvR
/-! Regions that draw their order: the trace of the text's order. -/
set_option linter.unusedVariables false
set_option linter.unusedSimpArgs false
namespace Go.Ev

def AHeap.mark (H : AHeap) : AHeap := ⟨H.next, H.next, [], H.t⟩
noncomputable def unmark (H H1 : AHeap) : AHeap := ⟨H1.next, H.mrk, mergeWs H.mrk H.ws H1.ws, H1.t⟩

theorem mergeWs_mem (mrk : Nat) (ws : List Nat) : ∀ (new : List Nat) (x : Nat), x ∈ mergeWs mrk ws new ↔ x ∈ ws ∨ (x ∈ new ∧ x < mrk)
  | [], x => by show x ∈ ws ↔ _; simp
  | f :: r, x => by
    show x ∈ wrote f mrk (mergeWs mrk ws r) ↔ _
    rw [wrote_mem, mergeWs_mem mrk ws r]
    simp only [List.mem_cons]
    constructor
    · rintro ((h | ⟨h, k⟩) | ⟨rfl, k⟩)
      · exact .inl h
      · exact .inr ⟨.inr h, k⟩
      · exact .inr ⟨.inl rfl, k⟩
    · rintro (h | ⟨rfl | h, k⟩)
      · exact .inl (.inl h)
      · exact .inr ⟨rfl, k⟩
      · exact .inl (.inr ⟨h, k⟩)

theorem Tame.unmark {H H1 : AHeap} (hm : H.mrk ≤ H.next) (h : Tame H.mark H1) : Tame H (unmark H H1) :=
  ⟨h.next, rfl, fun f hf => (mergeWs_mem _ _ _ _).2 (.inl hf), fun f hf hw => h.same f (by show f < H.next; omega) (fun e => hw ((mergeWs_mem _ _ _ _).2 (.inr ⟨e, hf⟩))), h.wf, h.keep⟩

theorem disjN_mem {l m : List Nat} (h : disjN l m = true) : ∀ x, x ∈ l → x ∉ m := by
  induction l with
  | nil => intro x hx; cases hx
  | cons y r ih =>
    have h : chk (memN y m) false (disjN r m) = true := h
    intro x hx hm
    cases hy : memN y m
    · rw [hy] at h
      cases hx with
      | head => rw [(memN_iff _ _).2 hm] at hy; cases hy
      | tail _ hx => exact ih h x hx hm
    · rw [hy] at h; cases h
theorem disjR_mem {l : List Nat} {r : Option (List Nat)} (h : disjR l r = true) {x : Nat} (hx : x ∈ l) : ∃ m, r = some m ∧ x ∉ m := by
  cases l with
  | nil => cases hx
  | cons y s =>
    cases r with
    | none => cases h
    | some m => exact ⟨m, rfl, disjN_mem (l := y :: s) h x hx⟩
theorem outN_mem {l : List Nat} {lo hi : Nat} (h : outN l lo hi = true) : ∀ x, x ∈ l → ¬ (lo ≤ x ∧ x < hi) := by
  induction l with
  | nil => intro x hx; cases hx
  | cons y r ih =>
    have h : chk (Nat.ble lo y) (chk (Nat.ble hi y) (outN r lo hi) false) (outN r lo hi) = true := h
    intro x hx ⟨h1, h2⟩
    cases h3 : Nat.ble lo y
    · rw [h3] at h
      cases hx with
      | head => rw [Nat.ble_eq_true_of_le h1] at h3; cases h3
      | tail _ hx => exact ih h x hx ⟨h1, h2⟩
    · rw [h3] at h
      have h : chk (Nat.ble hi y) (outN r lo hi) false = true := h
      cases h4 : Nat.ble hi y
      · rw [h4] at h; cases h
      · rw [h4] at h
        cases hx with
        | head => have := Nat.le_of_ble_eq_true h4; omega
        | tail _ hx => exact ih h x hx ⟨h1, h2⟩

structure FPApart (a b : FP) : Prop where
  ab : ∀ x, x ∈ a.ws → ∃ m, b.rd = some m ∧ x ∉ m
  ba : ∀ x, x ∈ b.ws → ∃ m, a.rd = some m ∧ x ∉ m
  ww : ∀ x, x ∈ a.ws → x ∉ b.ws
  out : ∀ x, x ∈ a.ws → ¬ (b.lo ≤ x ∧ x < b.hi)
theorem apartFP_ok {a b : FP} (h : apartFP a b = true) : FPApart a b := by
  unfold apartFP at h
  have c1 : ∀ {p : Bool} {q : Bool}, chk p q false = true → p = true ∧ q = true := by intro p q h; cases p; cases h; exact ⟨rfl, h⟩
  obtain ⟨h1, h⟩ := c1 h
  obtain ⟨h2, h⟩ := c1 h
  obtain ⟨h3, h⟩ := c1 h
  exact ⟨fun x => disjR_mem h1, fun x => disjR_mem h2, disjN_mem h3, outN_mem h⟩
theorem apartAll_ok {a : FP} {recs : List FP} : ∀ {l : List Nat}, apartAll a recs l = true → ∀ k, k ∈ l → ∃ b, recs[k]? = some b ∧ FPApart a b
  | [], _, k, hk => by cases hk
  | i :: r, h, k, hk => by
    have h : ob (recs[i]?) false (fun b => chk (apartFP a b) (apartAll a recs r) false) = true := h
    cases hb : recs[i]? with
    | none => rw [hb] at h; cases h
    | some b =>
      rw [hb] at h
      have h : chk (apartFP a b) (apartAll a recs r) false = true := h
      cases hp : apartFP a b
      · rw [hp] at h; cases h
      · rw [hp] at h
        cases hk with
        | head => exact ⟨b, hb, apartFP_ok hp⟩
        | tail _ hk => exact apartAll_ok h k hk

/-- One operation's part of the trace. -/
inductive Step1 (call : CallF) (o : IOp) (E : Env) (H : AHeap) (recs : List FP) : Bool → AVal → FP → AHeap → Prop
  | skip {fp : FP} : Wants E o.g false → (o.q.isSome = true → fp = ⟨some [], [], 0, 0⟩) → Step1 call o E H recs false .undef fp H
  | plain {v : AVal} {fp : FP} {H1 : AHeap} : Wants E o.g true → o.q = none → o.op.ev call E H = .ok v H1 → Step1 call o E H recs true v fp H1
  | marked {v : AVal} {q : List Nat} {H1 : AHeap} : Wants E o.g true → o.q = some q → o.op.ev call E H.mark = .ok v H1 → apartAll ⟨o.op.reads E, H1.ws, H.next, H1.next⟩ recs q = true →
      Step1 call o E H recs true v ⟨o.op.reads E, H1.ws, H.next, H1.next⟩ (unmark H H1)

def recsNext (o : IOp) (fp : FP) (recs : List FP) : List FP := match o.q with | some _ => fp :: recs | none => recs

theorem finQ_ok {rs : Option (List Nat)} {l : List Nat} {next mrk : Nat} {ws : List Nat} {recs : List FP} {dst : Option Key} {E E' : Env} {H' : AHeap} {k : Env → AHeap → List FP → ORes} {v : AVal} {next' mrk' : Nat} {ws' : List Nat} {t' : HT}
    (h : finQ rs l next mrk ws recs dst E k (.ok v ⟨next', mrk', ws', t'⟩) = .ok E' H') :
    apartAll ⟨rs, ws', next, next'⟩ recs l = true ∧ k (putE E dst v) ⟨next', mrk, mergeWs mrk ws ws', t'⟩ (⟨rs, ws', next, next'⟩ :: recs) = .ok E' H' := by
  unfold finQ at h
  dsimp only at h
  cases ha : apartAll ⟨rs, ws', next, next'⟩ recs l
  · rw [ha] at h; cases h
  · rw [ha, chk_true] at h
    refine ⟨rfl, ?_⟩
    cases dst with
    | none => exact h
    | some d =>
      dsimp only at h
      rw [Env.setO_eq] at h
      exact h
theorem stepQ_ok {call : CallF} {o : IOp} {E E' : Env} {H H' : AHeap} {recs : List FP} {k : Env → AHeap → List FP → ORes} (h : o.stepQ call E H recs k = .ok E' H') :
    ∃ b v fp H1, Step1 call o E H recs b v fp H1 ∧ k (putE E o.dst v) H1 (recsNext o fp recs) = .ok E' H' := by
  have run : Wants E o.g true → o.runP call E H recs k = .ok E' H' → ∃ b v fp H1, Step1 call o E H recs b v fp H1 ∧ k (putE E o.dst v) H1 (recsNext o fp recs) = .ok E' H' := by
    intro hw h
    obtain ⟨dst, g, q, op⟩ := o
    cases q with
    | none =>
      obtain ⟨v, H1, h1, h2⟩ := fin_ok (k := fun E H => k E H recs) h
      exact ⟨true, v, ⟨none, [], 0, 0⟩, H1, .plain hw rfl h1, h2⟩
    | some q =>
      cases H with
      | mk next mrk ws t =>
        have h : seqNat next (fun next => finQ (op.reads E) q next mrk ws recs dst E k (op.ev call E ⟨next, next, [], t⟩)) = .ok E' H' := h
        rw [seqNat_eq] at h
        cases hr : op.ev call E ⟨next, next, [], t⟩ with
        | err n => rw [hr] at h; cases h
        | ok v H1 =>
          rw [hr] at h
          cases H1 with
          | mk next' mrk' ws' t' =>
            obtain ⟨ha, h⟩ := finQ_ok h
            exact ⟨true, v, ⟨op.reads E, ws', next, next'⟩, unmark ⟨next, mrk, ws, t⟩ ⟨next', mrk', ws', t'⟩, .marked (q := q) (H1 := ⟨next', mrk', ws', t'⟩) hw rfl hr ha, h⟩
  have skip : Wants E o.g false → skipD o.dst E H (fun E H => k E H (skipQ o.q recs)) = .ok E' H' → ∃ b v fp H1, Step1 call o E H recs b v fp H1 ∧ k (putE E o.dst v) H1 (recsNext o fp recs) = .ok E' H' := by
    intro hw h
    rw [skipD_eq] at h
    obtain ⟨dst, g, q, op⟩ := o
    refine ⟨false, .undef, ⟨some [], [], 0, 0⟩, H, .skip hw (fun _ => rfl), ?_⟩
    cases q <;> exact h
  obtain ⟨dst, g, q, op⟩ := o
  cases g with
  | none => exact run .none h
  | some tw =>
    obtain ⟨t, want⟩ := tw
    have h : ob (E.get t) (ORes.err 51) (fun v => onBoolO v (ORes.err 51) fun b => chk (Bool.xor b want) (skipD dst E H fun E H => k E H (skipQ q recs)) (IOp.runP call ⟨dst, some (t, want), q, op⟩ E H recs k)) = .ok E' H' := h
    cases hg : E.get t with
    | none => rw [hg] at h; cases h
    | some v =>
      rw [hg] at h
      cases v <;> try (cases h; done)
      rename_i b
      have h : chk (Bool.xor b want) (skipD dst E H fun E H => k E H (skipQ q recs)) (IOp.runP call ⟨dst, some (t, want), q, op⟩ E H recs k) = .ok E' H' := h
      have hw := Wants.slot (E := E) (want := want) hg
      cases b <;> cases want
      · exact run hw h
      · exact skip hw h
      · exact skip hw h
      · exact run hw h

/-- The trace. -/
structure Trace (call : CallF) (l : List IOp) (E : Env) (H : AHeap) (recs : List FP) (E' : Env) (H' : AHeap) (Es : Nat → Env) (Hs : Nat → AHeap) (Rs : Nat → List FP) (Wn : Nat → Bool) (Vs : Nat → AVal) (Fp : Nat → FP) : Prop where
  e0 : Es 0 = E
  h0 : Hs 0 = H
  r0 : Rs 0 = recs
  eN : Es l.length = E'
  hN : Hs l.length = H'
  step : ∀ i o, l[i]? = some o → Step1 call o (Es i) (Hs i) (Rs i) (Wn i) (Vs i) (Fp i) (Hs (i + 1)) ∧ Es (i + 1) = putE (Es i) o.dst (Vs i) ∧ Rs (i + 1) = recsNext o (Fp i) (Rs i)

theorem trace_ok {call : CallF} : ∀ (l : List IOp) (E : Env) (H : AHeap) (recs : List FP) (E' : Env) (H' : AHeap), evOpsQ call l E H recs = .ok E' H' →
    ∃ Es Hs Rs Wn Vs Fp, Trace call l E H recs E' H' Es Hs Rs Wn Vs Fp
  | [], E, H, recs, E', H', h => by
    cases h
    exact ⟨fun _ => E, fun _ => H, fun _ => recs, fun _ => true, fun _ => .undef, fun _ => ⟨none, [], 0, 0⟩, rfl, rfl, rfl, rfl, rfl, fun i o h => by simp at h⟩
  | o :: r, E, H, recs, E', H', h => by
    obtain ⟨b, v, fp, H1, h1, h2⟩ := stepQ_ok (show o.stepQ call E H recs (evOpsQ call r) = .ok E' H' from h)
    obtain ⟨Es, Hs, Rs, Wn, Vs, Fp, t⟩ := trace_ok r _ _ _ _ _ h2
    refine ⟨fun | 0 => E | i + 1 => Es i, fun | 0 => H | i + 1 => Hs i, fun | 0 => recs | i + 1 => Rs i, fun | 0 => b | i + 1 => Wn i, fun | 0 => v | i + 1 => Vs i, fun | 0 => fp | i + 1 => Fp i, rfl, rfl, rfl, t.eN, t.hN, fun i x hx => ?_⟩
    cases i with
    | zero =>
      simp at hx
      subst hx
      simp only [t.e0, t.h0, t.r0]
      exact ⟨h1, True.intro, True.intro⟩
    | succ i => exact t.step i x (by simpa using hx)

end Go.Ev
