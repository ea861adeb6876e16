/- A part of an evaluator for the program's code, and of rules for walks through it. It holds for every program. -/
import Derived.Test.YtffkihiledcilaaGreatDoorEv3
import Derived.LoopN
import Derived.Lib.Bytealg
import Derived.Laws.StandIn
set_option linter.unusedVariables false
set_option linter.unusedSimpArgs false
namespace Go.Ev
noncomputable def putE (E : Env) (d : Option Key) (v : AVal) : Env := match d with | some d => E.set d v | none => E
theorem fin_ok {dst : Option Key} {E E' : Env} {H' : AHeap} {k : Env → AHeap → ORes} {r : Res} (h : fin dst E k r = .ok E' H') : ∃ v H1, r = .ok v H1 ∧ k (putE E dst v) H1 = .ok E' H' := by
  cases r with
  | err n => cases h
  | ok v H1 =>
    refine ⟨v, H1, rfl, ?_⟩
    cases dst with
    | none => exact h
    | some d =>
      have h : E.setO d v (fun E => k E H1) = .ok E' H' := h
      rw [Env.setO_eq] at h
      exact h
theorem skipD_eq (dst : Option Key) (E : Env) (H : AHeap) (k : Env → AHeap → ORes) : skipD dst E H k = k (putE E dst .undef) H := by
  cases dst with
  | none => rfl
  | some d => show E.setO d .undef (fun E => k E H) = _; rw [Env.setO_eq]; rfl
inductive Wants (E : Env) : Option (Key × Bool) → Bool → Prop
  | none : Wants E none true
  | slot {t : Key} {want b : Bool} : E.get t = some (.bool b) → Wants E (some (t, want)) (b == want)
  | off {t : Key} {want : Bool} : E.get t = some .undef → Wants E (some (t, want)) false
theorem step_ok {call : CallF} {o : IOp} {E E' : Env} {H H' : AHeap} {k : Env → AHeap → ORes} (h : o.step call E H k = .ok E' H') :
    (Wants E o.g true ∧ ∃ v H1, o.op.ev call E H = .ok v H1 ∧ k (putE E o.dst v) H1 = .ok E' H') ∨ (Wants E o.g false ∧ k (putE E o.dst .undef) H = .ok E' H') := by
  obtain ⟨dst, g, q, op⟩ := o
  cases g with
  | none => exact .inl ⟨.none, fin_ok h⟩
  | some tw =>
    obtain ⟨t, want⟩ := tw
    have h : ob (E.get t) (ORes.err 51) (fun v => onGd v (skipD dst E H k) fun b => chk (Bool.xor b want) (skipD dst E H k) (IOp.run call ⟨dst, some (t, want), q, op⟩ E H k)) = .ok E' H' := h
    cases hg : E.get t with
    | none => rw [hg] at h; cases h
    | some v =>
      rw [hg] at h
      cases v <;> try (cases h; done)
      case undef =>
        have h : skipD dst E H k = .ok E' H' := h
        rw [skipD_eq] at h
        exact .inr ⟨.off hg, h⟩
      rename_i b
      have h : chk (Bool.xor b want) (skipD dst E H k) (IOp.run call ⟨dst, some (t, want), q, op⟩ E H k) = .ok E' H' := h
      have hw := Wants.slot (E := E) (want := want) hg
      cases b <;> cases want
      · exact .inl ⟨hw, fin_ok h⟩
      · rw [show Bool.xor false true = true from rfl, chk_true, skipD_eq] at h; exact .inr ⟨hw, h⟩
      · rw [show Bool.xor true false = true from rfl, chk_true, skipD_eq] at h; exact .inr ⟨hw, h⟩
      · exact .inl ⟨hw, fin_ok h⟩
structure OpOf (P : Program) (nt : Nat) (ops : Array Oper) (o : Oper) (io : IOp) : Prop where
  dst : o.dst = io.dst.map Key.n
  lt : ∀ d, io.dst = some d → d.n < nt
  g : (o.guard = none ∧ io.g = none) ∨ ∃ j want d, o.guard = some (j, want) ∧ (ops[j]?).bind (·.dst) = some d.n ∧ io.g = some (d, want)
  op : ioOf P o.op = some io.op ∨ io.op = bad
theorem bad_err {call : CallF} {E : Env} {H H' : AHeap} {v : AVal} (h : bad.ev call E H = .ok v H') : False := by cases h
section
variable {P : Program} {ρ : Ho} {nt : Nat} {E : Env} {a : Act} {C : Nat → Option AObj} {w : World} {H H' : AHeap} {v : AVal} {call : CallF} {ops : Array Oper} {Q : Exit → Act → World → Prop}
theorem wanted_ok {o : Oper} {io : IOp} {b : Bool} (ho : OpOf P nt ops o io) (hw : Wants E io.g b) (hA : ∀ t v, E.get t = some v → ∃ cv, a.tmps[t.n]? = some cv ∧ VR ρ v cv) : Region.wanted o (yielded ops a.tmps) = b := by
  unfold Region.wanted
  rcases ho.g with ⟨h1, h2⟩ | ⟨j, want, d, h1, h2, h3⟩
  · rw [h2] at hw
    rw [h1]
    cases hw
    rfl
  · rw [h3] at hw
    rw [h1]
    cases hw with
    | slot hg =>
      obtain ⟨cv, k1, k2⟩ := hA _ _ hg
      simp only [VR] at k2
      subst k2
      simp only [yielded, h2, Option.bind_some, k1]
      rename_i b
      cases b <;> cases want <;> rfl
    | off hg =>
      obtain ⟨cv, k1, k2⟩ := hA _ _ hg
      simp only [VR] at k2
      subst k2
      simp only [yielded, h2, Option.bind_some, k1, undef]
      cases want <;> rfl
theorem upd_known (hK : Known ρ C H) {ρ' : Ho} (hd : ∀ f g h, ρ' f g = some h → (∃ g0 h0, ρ f g0 = some h0) ∨ (H.next ≤ f ∧ f < H'.next)) : Known ρ' (upd C H H') H' := by
  intro f o hf ho
  obtain ⟨g, h, hf⟩ := hf
  unfold upd
  split
  · exact ho
  · rename_i hn
    split
    · rename_i he
      refine hK f o ?_ (he ▸ ho)
      rcases hd f g h hf with k | k
      · exact k
      · exact absurd k hn
    · exact ho
theorem Free.sub (h : Free ρ H.next H'.next) {ρ' : Ho} {n1 : Nat} (hd : ∀ f g h, ρ' f g = some h → (∃ g0 h0, ρ f g0 = some h0) ∨ (H.next ≤ f ∧ f < n1)) (h1 : H.next ≤ n1) : Free ρ' n1 H'.next := by
  intro f g h2 h3
  cases hx : ρ' f g with
  | none => rfl
  | some x =>
    rcases hd f g x hx with ⟨g0, h0, e⟩ | e
    · rw [h f g0 (by omega) h3] at e; cases e
    · omega
theorem Free.le {n0 n1 n2 : Nat} (h : Free ρ n0 n2) (h1 : n1 ≤ n2) : Free ρ n0 n1 := fun f g a b => h f g a (by omega)
theorem AR.putO (h : AR P ρ nt E a) {d : Option Key} (hd : ∀ x, d = some x → x.n < nt) {v : AVal} {cv : Value} (hv : VR ρ v cv) : AR P ρ nt (putE E d v) (a.put (d.map Key.n) cv) := by
  cases d with
  | none => exact h
  | some d => exact h.put (hd d rfl) hv
theorem evOps_tame (hc : CallOk P call) : ∀ (l : List IOp) (E : Env) (H : AHeap) (E' : Env) (H' : AHeap), H.mrk ≤ H.next → evOps call l E H = .ok E' H' → Tame H H'
  | [], E, H, E', H', _, h => by cases h; exact Tame.refl _
  | o :: r, E, H, E', H', hm, h => by
    rcases step_ok (show o.step call E H (evOps call r) = .ok E' H' from h) with ⟨_, v, H1, h1, h2⟩ | ⟨_, h2⟩
    · have t1 := TM.ins hm (fun f a => hc.tame f a H hm) E o.op v H1 h1
      exact t1.trans (evOps_tame hc r _ _ _ _ (by rw [t1.mrk]; exact Nat.le_trans hm t1.next) h2)
    · exact evOps_tame hc r _ _ _ _ hm h2
def WF (H : AHeap) : Prop := ∀ x, H.next ≤ x → H.t.get x = none
theorem Wr_mono {H1 H2 : AHeap} (h : Tame H1 H2) (f : Nat) (hf : Wr H1 f) : Wr H2 f := by
  rcases hf with hf | hf
  · exact .inl (h.ws f hf)
  · exact .inr (by rw [h.mrk]; exact hf)
def Then (P : Program) (nt : Nat) (E' : Env) (H H' : AHeap) (C : Nat → Option AObj) (ρ : Ho) (w : World) (K : Act → World → Prop) : Prop :=
  ∀ a' w' ρ', AR P ρ' nt E' a' → Ext (Wr H') H.next H'.next ρ ρ' w w' → R ρ' (upd C H H') w' → Known ρ' (upd C H H') H' → K a' w'
theorem upd_trans {ρ : Ho} (hK : Known ρ C H) {H1 H2 : AHeap} (h1 : H.next ≤ H1.next) (h2 : H1.next ≤ H2.next) (hkeep : ∀ f, H1.t.get f ≠ none → H2.t.get f ≠ none) {ρ' : Ho} (hd : ∀ f g h, ρ' f g = some h → (∃ g0 h0, ρ f g0 = some h0) ∨ (H.next ≤ f ∧ f < H2.next))
    (f : Nat) (o : AObj) (h : upd C H H2 f = some o) (hf : ∃ g x, ρ' f g = some x) : upd (upd C H H1) H1 H2 f = some o := by
  obtain ⟨g, x, hf⟩ := hf
  unfold upd at h ⊢
  by_cases c2 : H1.next ≤ f ∧ f < H2.next
  · rw [if_pos ⟨by omega, c2.2⟩] at h
    rw [if_pos c2]
    exact h
  · rw [if_neg c2]
    by_cases c1 : H.next ≤ f ∧ f < H1.next
    · rw [if_pos ⟨c1.1, by omega⟩] at h
      rw [if_pos c1]
      split
      · rename_i e; rw [← e]; exact h
      · exact h
    · have c3 : ¬ (H.next ≤ f ∧ f < H2.next) := by omega
      rw [if_neg c1]
      rw [if_neg c3] at h
      have hdom : ∃ g0 h0, ρ f g0 = some h0 := (hd f g x hf).resolve_right c3
      have hKf := fun o' => hK f o' hdom
      split
      · rename_i e
        split
        · rename_i e1
          rw [if_pos (e.trans e1)] at h
          exact h
        · rename_i e1
          rw [if_neg (by rw [e]; exact e1), e] at h
          exact h
      · rename_i e
        split at h
        · rename_i e2
          rw [e2]
          cases hg : H.t.get f with
          | none =>
            have h3 : H1.t.get f ≠ none := fun e3 => e (by rw [e2, hg, e3])
            exact absurd (e2.trans hg) (hkeep f h3)
          | some o' =>
            rw [hKf o' hg] at h
            exact h
        · exact h
theorem rest_ok {o : Oper} {io : IOp} {H1 : AHeap} {E' : Env} {K : Act → World → Prop} (ho : OpOf P nt ops o io) (hA : AR P ρ nt E a) (hK : Known ρ C H) (ht1 : Tame H H1) (ht2 : Tame H1 H')
    (hthen : Then P nt E' H H' C ρ w K) {cv : Value} {w' : World} (hp : Post ρ C w H v H1 cv w') {K' : Act → World → Prop}
    (hk : ∀ ρ' C', AR P ρ' nt (putE E io.dst v) (a.put o.dst cv) → R ρ' C' w' → Known ρ' C' H1 → (∀ f g h, ρ' f g = some h → (∃ g0 h0, ρ f g0 = some h0) ∨ (H.next ≤ f ∧ f < H1.next)) → Globs P ρ' → Then P nt E' H1 H' C' ρ' w' K → K' (a.put o.dst cv) w') :
    K' (a.put o.dst cv) w' := by
  obtain ⟨ρ', hv, hext, hR'⟩ := hp
  have hA2 : AR P ρ' nt (putE E io.dst v) (a.put o.dst cv) := by
    rw [ho.dst]
    exact (hA.mono hext.le).putO ho.lt hv
  refine hk ρ' (upd C H H1) hA2 hR' (upd_known hK hext.dom) hext.dom hA2.glob fun a2 w2 ρ2 hA2 he2 hR2 hK2 => ?_
  have hext2 : Ext (Wr H') H.next H'.next ρ ρ2 w w2 := (hext.mono (Wr_mono ht2)).trans he2
  refine hthen a2 w2 ρ2 hA2 hext2 ?_ (upd_known hK hext2.dom)
  exact hR2.weaken fun f o h hf => upd_trans hK ht1.next ht2.next ht2.keep hext2.dom f o h hf
theorem evOps_sound (hc : CallOk P call) {K : Act → World → Prop} : ∀ (l : List IOp) (os : List Oper) (k : Nat), os.length = l.length → (∀ (i : Nat) (o : Oper) (io : IOp), os[i]? = some o → l[i]? = some io → OpOf P nt ops o io) → (∀ (i : Nat) (o : Oper), os[i]? = some o → ops[k + i]? = some o) →
    ∀ (E : Env) (H : AHeap) (E' : Env) (H' : AHeap) (ρ : Ho) (C : Nat → Option AObj) (a : Act) (w : World), evOps call l E H = .ok E' H' → AR P ρ nt E a → R ρ C w → Known ρ C H → Free ρ H.next H'.next → H.mrk ≤ H.next → WF H →
    Then P nt E' H H' C ρ w K → (∀ a w, K a w → Q .normal a w) → wpOps P ops Q ((List.range' k l.length)) a w
  | [], os, k, hl, hop, hos, E, H, E', H', ρ, C, a, w, h, hA, hR, hK, hF, hm, hwf, hthen, hQ => by
    cases h
    refine hQ _ _ (hthen a w ρ hA (Ext.refl _ _ _ _) ?_ ?_)
    · rw [upd_same]; exact hR
    · rw [upd_same]; exact hK
  | io :: r, [], k, hl, _, _, _, _, _, _, _, _, _, _, _, _, _, _, _, _, _, _, _ => by simp at hl
  | io :: r, o :: os, k, hl, hop, hos, E, H, E', H', ρ, C, a, w, h, hA, hR, hK, hF, hm, hwf, hthen, hQ => by
    have ho := hop 0 o io rfl rfl
    have hok : ops[k]? = some o := by simpa using hos 0 o rfl
    have hrest := evOps_sound hc (K := K) r os (k + 1) (by simpa using hl) (fun i o io h1 h2 => hop (i + 1) o io (by simpa using h1) (by simpa using h2)) (fun i o h1 => by
      have := hos (i + 1) o (by simpa using h1); rwa [show k + (i + 1) = k + 1 + i by omega] at this)
    rw [List.length_cons, List.range'_succ, wpOps_cons]
    unfold wpOp
    simp only [hok]
    rcases step_ok (show io.step call E H (evOps call r) = .ok E' H' from h) with ⟨hw, v, H1, h1, h2⟩ | ⟨hw, h2⟩
    · rw [wanted_ok ho hw hA.tmp, if_pos rfl]
      left
      have ht1 := TM.ins hm (fun f a => hc.tame f a H hm) E io.op v H1 h1
      have hm1 : H1.mrk ≤ H1.next := by rw [ht1.mrk]; exact Nat.le_trans hm ht1.next
      have ht2 := evOps_tame hc r _ _ _ _ hm1 h2
      rcases ho.op with hio | hbad
      case inr => rw [hbad] at h1; exact (bad_err h1).elim
      have hok2 := ins_sound (o := o) hio hA hR (hF.le ht2.next) (fun f o' _ hf ho' => hK f o' hf ho') hm hwf hc h1
      refine wp_of_OpOk hok2 fun cv w' hp => ?_
      refine rest_ok ho hA hK ht1 ht2 hthen hp (K' := wpOps P ops Q (List.range' (k + 1) r.length)) fun ρ' C' hA' hR' hK' hd hg ht => ?_
      exact hrest _ H1 E' H' ρ' C' _ w' h2 hA' hR' hK' (hF.sub hd ht1.next) hm1 (ht1.wf hwf) ht hQ
    · rw [wanted_ok ho hw hA.tmp, if_neg (by simp)]
      have hA' : AR P ρ nt (putE E io.dst .undef) (a.put o.dst undef) := by
        rw [ho.dst]
        exact hA.putO ho.lt (by simp only [VR])
      exact hrest _ H E' H' ρ C _ w h2 hA' hR hK hF hm hwf hthen hQ
end
end Go.Ev
namespace Go.Ev
def AHeap.mark (H : AHeap) : AHeap := ⟨H.next, H.next, [], H.t⟩
noncomputable def unmark (H H1 : AHeap) : AHeap := ⟨H1.next, H.mrk, mergeWs H.mrk H.ws H1.ws, H1.t⟩
theorem mergeWs_mem (mrk : Nat) (ws : List Nat) : ∀ (new : List Nat) (x : Nat), x ∈ mergeWs mrk ws new ↔ x ∈ ws ∨ (x ∈ new ∧ x < mrk)
  | [], x => by show x ∈ ws ↔ _; simp
  | f :: r, x => by
    show x ∈ wrote f mrk (mergeWs mrk ws r) ↔ _
    rw [wrote_mem, mergeWs_mem mrk ws r]
    simp only [List.mem_cons]
    constructor
    · rintro ((h | ⟨h, k⟩) | ⟨rfl, k⟩)
      · exact .inl h
      · exact .inr ⟨.inr h, k⟩
      · exact .inr ⟨.inl rfl, k⟩
    · rintro (h | ⟨rfl | h, k⟩)
      · exact .inl (.inl h)
      · exact .inr ⟨rfl, k⟩
      · exact .inl (.inr ⟨h, k⟩)
theorem Tame.unmark {H H1 : AHeap} (hm : H.mrk ≤ H.next) (h : Tame H.mark H1) : Tame H (unmark H H1) :=
  ⟨h.next, rfl, fun f hf => (mergeWs_mem _ _ _ _).2 (.inl hf), fun f hf hw => h.same f (by show f < H.next; omega) (fun e => hw ((mergeWs_mem _ _ _ _).2 (.inr ⟨e, hf⟩))), h.wf, h.keep⟩
theorem disjN_mem {l m : List Nat} (h : disjN l m = true) : ∀ x, x ∈ l → x ∉ m := by
  induction l with
  | nil => intro x hx; cases hx
  | cons y r ih =>
    have h : chk (memN y m) false (disjN r m) = true := h
    intro x hx hm
    cases hy : memN y m
    · rw [hy] at h
      cases hx with
      | head => rw [(memN_iff _ _).2 hm] at hy; cases hy
      | tail _ hx => exact ih h x hx hm
    · rw [hy] at h; cases h
theorem disjR_mem {l : List Nat} {r : Option (List Nat)} (h : disjR l r = true) {x : Nat} (hx : x ∈ l) : ∃ m, r = some m ∧ x ∉ m := by
  cases l with
  | nil => cases hx
  | cons y s =>
    cases r with
    | none => cases h
    | some m => exact ⟨m, rfl, disjN_mem (l := y :: s) h x hx⟩
theorem outN_mem {l : List Nat} {lo hi : Nat} (h : outN l lo hi = true) : ∀ x, x ∈ l → ¬ (lo ≤ x ∧ x < hi) := by
  induction l with
  | nil => intro x hx; cases hx
  | cons y r ih =>
    have h : chk (Nat.ble lo y) (chk (Nat.ble hi y) (outN r lo hi) false) (outN r lo hi) = true := h
    intro x hx ⟨h1, h2⟩
    cases h3 : Nat.ble lo y
    · rw [h3] at h
      cases hx with
      | head => rw [Nat.ble_eq_true_of_le h1] at h3; cases h3
      | tail _ hx => exact ih h x hx ⟨h1, h2⟩
    · rw [h3] at h
      have h : chk (Nat.ble hi y) (outN r lo hi) false = true := h
      cases h4 : Nat.ble hi y
      · rw [h4] at h; cases h
      · rw [h4] at h
        cases hx with
        | head => have := Nat.le_of_ble_eq_true h4; omega
        | tail _ hx => exact ih h x hx ⟨h1, h2⟩
structure FPApart (a b : FP) : Prop where
  ab : ∀ x, x ∈ a.ws → ∃ m, b.rd = some m ∧ x ∉ m
  ba : ∀ x, x ∈ b.ws → ∃ m, a.rd = some m ∧ x ∉ m
  ww : ∀ x, x ∈ a.ws → x ∉ b.ws
  out : ∀ x, x ∈ a.ws → ¬ (b.lo ≤ x ∧ x < b.hi)
theorem apartFP_ok {a b : FP} (h : apartFP a b = true) : FPApart a b := by
  unfold apartFP at h
  have c1 : ∀ {p : Bool} {q : Bool}, chk p q false = true → p = true ∧ q = true := by intro p q h; cases p; cases h; exact ⟨rfl, h⟩
  obtain ⟨h1, h⟩ := c1 h
  obtain ⟨h2, h⟩ := c1 h
  obtain ⟨h3, h⟩ := c1 h
  exact ⟨fun x => disjR_mem h1, fun x => disjR_mem h2, disjN_mem h3, outN_mem h⟩
theorem apartAll_ok {a : FP} {recs : List FP} : ∀ {l : List Nat}, apartAll a recs l = true → ∀ k, k ∈ l → ∃ b, recs[k]? = some b ∧ FPApart a b
  | [], _, k, hk => by cases hk
  | i :: r, h, k, hk => by
    have h : ob (recs[i]?) false (fun b => chk (apartFP a b) (apartAll a recs r) false) = true := h
    cases hb : recs[i]? with
    | none => rw [hb] at h; cases h
    | some b =>
      rw [hb] at h
      have h : chk (apartFP a b) (apartAll a recs r) false = true := h
      cases hp : apartFP a b
      · rw [hp] at h; cases h
      · rw [hp] at h
        cases hk with
        | head => exact ⟨b, hb, apartFP_ok hp⟩
        | tail _ hk => exact apartAll_ok h k hk
inductive Step1 (call : CallF) (o : IOp) (E : Env) (H : AHeap) (recs : List FP) : Bool → AVal → FP → AHeap → Prop
  | skip {fp : FP} : Wants E o.g false → (o.q.isSome = true → fp = ⟨some [], [], 0, 0⟩) → Step1 call o E H recs false .undef fp H
  | plain {v : AVal} {fp : FP} {H1 : AHeap} : Wants E o.g true → o.q = none → o.op.ev call E H = .ok v H1 → Step1 call o E H recs true v fp H1
  | marked {v : AVal} {q : List Nat} {H1 : AHeap} : Wants E o.g true → o.q = some q → o.op.ev call E H.mark = .ok v H1 → apartAll ⟨o.op.reads E, H1.ws, H.next, H1.next⟩ recs q = true →
      Step1 call o E H recs true v ⟨o.op.reads E, H1.ws, H.next, H1.next⟩ (unmark H H1)
def recsNext (o : IOp) (fp : FP) (recs : List FP) : List FP := match o.q with | some _ => fp :: recs | none => recs
theorem finQ_ok {rs : Option (List Nat)} {l : List Nat} {next mrk : Nat} {ws : List Nat} {recs : List FP} {dst : Option Key} {E E' : Env} {H' : AHeap} {k : Env → AHeap → List FP → ORes} {v : AVal} {next' mrk' : Nat} {ws' : List Nat} {t' : HT}
    (h : finQ rs l next mrk ws recs dst E k (.ok v ⟨next', mrk', ws', t'⟩) = .ok E' H') :
    apartAll ⟨rs, ws', next, next'⟩ recs l = true ∧ k (putE E dst v) ⟨next', mrk, mergeWs mrk ws ws', t'⟩ (⟨rs, ws', next, next'⟩ :: recs) = .ok E' H' := by
  unfold finQ at h
  dsimp only at h
  cases ha : apartAll ⟨rs, ws', next, next'⟩ recs l
  · rw [ha] at h; cases h
  · rw [ha, chk_true] at h
    refine ⟨rfl, ?_⟩
    cases dst with
    | none => exact h
    | some d =>
      dsimp only at h
      rw [Env.setO_eq] at h
      exact h
theorem stepQ_ok {call : CallF} {o : IOp} {E E' : Env} {H H' : AHeap} {recs : List FP} {k : Env → AHeap → List FP → ORes} (h : o.stepQ call E H recs k = .ok E' H') :
    ∃ b v fp H1, Step1 call o E H recs b v fp H1 ∧ k (putE E o.dst v) H1 (recsNext o fp recs) = .ok E' H' := by
  have run : Wants E o.g true → o.runP call E H recs k = .ok E' H' → ∃ b v fp H1, Step1 call o E H recs b v fp H1 ∧ k (putE E o.dst v) H1 (recsNext o fp recs) = .ok E' H' := by
    intro hw h
    obtain ⟨dst, g, q, op⟩ := o
    cases q with
    | none =>
      obtain ⟨v, H1, h1, h2⟩ := fin_ok (k := fun E H => k E H recs) h
      exact ⟨true, v, ⟨none, [], 0, 0⟩, H1, .plain hw rfl h1, h2⟩
    | some q =>
      cases H with
      | mk next mrk ws t =>
        have h : seqNat next (fun next => finQ (op.reads E) q next mrk ws recs dst E k (op.ev call E ⟨next, next, [], t⟩)) = .ok E' H' := h
        rw [seqNat_eq] at h
        cases hr : op.ev call E ⟨next, next, [], t⟩ with
        | err n => rw [hr] at h; cases h
        | ok v H1 =>
          rw [hr] at h
          cases H1 with
          | mk next' mrk' ws' t' =>
            obtain ⟨ha, h⟩ := finQ_ok h
            exact ⟨true, v, ⟨op.reads E, ws', next, next'⟩, unmark ⟨next, mrk, ws, t⟩ ⟨next', mrk', ws', t'⟩, .marked (q := q) (H1 := ⟨next', mrk', ws', t'⟩) hw rfl hr ha, h⟩
  have skip : Wants E o.g false → skipD o.dst E H (fun E H => k E H (skipQ o.q recs)) = .ok E' H' → ∃ b v fp H1, Step1 call o E H recs b v fp H1 ∧ k (putE E o.dst v) H1 (recsNext o fp recs) = .ok E' H' := by
    intro hw h
    rw [skipD_eq] at h
    obtain ⟨dst, g, q, op⟩ := o
    refine ⟨false, .undef, ⟨some [], [], 0, 0⟩, H, .skip hw (fun _ => rfl), ?_⟩
    cases q <;> exact h
  obtain ⟨dst, g, q, op⟩ := o
  cases g with
  | none => exact run .none h
  | some tw =>
    obtain ⟨t, want⟩ := tw
    have h : ob (E.get t) (ORes.err 51) (fun v => onGd v (skipD dst E H fun E H => k E H (skipQ q recs)) fun b => chk (Bool.xor b want) (skipD dst E H fun E H => k E H (skipQ q recs)) (IOp.runP call ⟨dst, some (t, want), q, op⟩ E H recs k)) = .ok E' H' := h
    cases hg : E.get t with
    | none => rw [hg] at h; cases h
    | some v =>
      rw [hg] at h
      cases v <;> try (cases h; done)
      case undef => exact skip (.off hg) h
      rename_i b
      have h : chk (Bool.xor b want) (skipD dst E H fun E H => k E H (skipQ q recs)) (IOp.runP call ⟨dst, some (t, want), q, op⟩ E H recs k) = .ok E' H' := h
      have hw := Wants.slot (E := E) (want := want) hg
      cases b <;> cases want
      · exact run hw h
      · exact skip hw h
      · exact skip hw h
      · exact run hw h
structure Trace (call : CallF) (l : List IOp) (E : Env) (H : AHeap) (recs : List FP) (E' : Env) (H' : AHeap) (Es : Nat → Env) (Hs : Nat → AHeap) (Rs : Nat → List FP) (Wn : Nat → Bool) (Vs : Nat → AVal) (Fp : Nat → FP) : Prop where
  e0 : Es 0 = E
  h0 : Hs 0 = H
  r0 : Rs 0 = recs
  eN : Es l.length = E'
  hN : Hs l.length = H'
  step : ∀ i o, l[i]? = some o → Step1 call o (Es i) (Hs i) (Rs i) (Wn i) (Vs i) (Fp i) (Hs (i + 1)) ∧ Es (i + 1) = putE (Es i) o.dst (Vs i) ∧ Rs (i + 1) = recsNext o (Fp i) (Rs i)
theorem trace_ok {call : CallF} : ∀ (l : List IOp) (E : Env) (H : AHeap) (recs : List FP) (E' : Env) (H' : AHeap), evOpsQ call l E H recs = .ok E' H' →
    ∃ Es Hs Rs Wn Vs Fp, Trace call l E H recs E' H' Es Hs Rs Wn Vs Fp
  | [], E, H, recs, E', H', h => by
    cases h
    exact ⟨fun _ => E, fun _ => H, fun _ => recs, fun _ => true, fun _ => .undef, fun _ => ⟨none, [], 0, 0⟩, rfl, rfl, rfl, rfl, rfl, fun i o h => by simp at h⟩
  | o :: r, E, H, recs, E', H', h => by
    obtain ⟨b, v, fp, H1, h1, h2⟩ := stepQ_ok (show o.stepQ call E H recs (evOpsQ call r) = .ok E' H' from h)
    obtain ⟨Es, Hs, Rs, Wn, Vs, Fp, t⟩ := trace_ok r _ _ _ _ _ h2
    refine ⟨fun | 0 => E | i + 1 => Es i, fun | 0 => H | i + 1 => Hs i, fun | 0 => recs | i + 1 => Rs i, fun | 0 => b | i + 1 => Wn i, fun | 0 => v | i + 1 => Vs i, fun | 0 => fp | i + 1 => Fp i, rfl, rfl, rfl, t.eN, t.hN, fun i x hx => ?_⟩
    cases i with
    | zero =>
      simp at hx
      subst hx
      simp only [t.e0, t.h0, t.r0]
      exact ⟨h1, True.intro, True.intro⟩
    | succ i => exact t.step i x (by simpa using hx)
end Go.Ev
namespace Go.Ev
def PS (H : AHeap) (r : Res) : Prop := ∀ v H', r = .ok v H' → H' = H
theorem PS.err {H : AHeap} {n : Nat} : PS H (.err n) := fun _ _ h => by cases h
theorem PS.ok {H : AHeap} {v : AVal} : PS H (.ok v H) := fun _ _ h => by cases h; rfl
theorem PS.chk {H : AHeap} {b : Bool} {k e : Res} (h : PS H k) (h' : PS H e) : PS H (chk b k e) := by cases b; exact h'; exact h
theorem PS.ob {H : AHeap} {α : Type} {o : Option α} {e : Res} {k : α → Res} (h : ∀ x, PS H (k x)) (h' : PS H e) : PS H (ob o e k) := by cases o; exact h'; exact h _
theorem PS.withO {H : AHeap} {x : Opd} {E : Env} {e : Res} {k : AVal → Res} (h : ∀ x, PS H (k x)) (h' : PS H e) : PS H (withO x E e k) := by
  cases x with
  | t i => exact PS.ob (o := E.get i) h h'
  | c a => exact h a
theorem PS.onBool {H : AHeap} {a : AVal} {e : Res} {k : Bool → Res} (h : ∀ x, PS H (k x)) (h' : PS H e) : PS H (onBool a e k) := by cases a <;> first | exact h' | exact h _
theorem PS.onInt {H : AHeap} {a : AVal} {e : Res} {k : IntKind → Int → Res} (h : ∀ x y, PS H (k x y)) (h' : PS H e) : PS H (onInt a e k) := by cases a <;> first | exact h' | exact h _ _
theorem PS.onStr {H : AHeap} {a : AVal} {e : Res} {k : Nat → Nat → Res} (h : ∀ x y, PS H (k x y)) (h' : PS H e) : PS H (onStr a e k) := by cases a <;> first | exact h' | exact h _ _
theorem PS.onPtr {H : AHeap} {a : AVal} {e : Res} {k : Nat → Nat → Nat → Res} (h : ∀ x y z, PS H (k x y z)) (h' : PS H e) : PS H (onPtr a e k) := by cases a <;> first | exact h' | exact h _ _ _
theorem PS.onSlice {H : AHeap} {a : AVal} {e e2 : Res} {k : Nat → Nat → Nat → Nat → Nat → Res} (h : ∀ x y z u w, PS H (k x y z u w)) (h2 : PS H e2) (h' : PS H e) : PS H (onSlice a e e2 k) := by cases a <;> first | exact h' | exact h2 | exact h _ _ _ _ _
theorem PS.onAgg {H : AHeap} {a : AVal} {e : Res} {k : List AVal → Res} (h : ∀ x, PS H (k x)) (h' : PS H e) : PS H (onAgg a e k) := by cases a <;> first | exact h' | exact h _
theorem PS.onTuple {H : AHeap} {a : AVal} {e : Res} {k : List AVal → Res} (h : ∀ x, PS H (k x)) (h' : PS H e) : PS H (onTuple a e k) := by cases a <;> first | exact h' | exact h _
theorem PS.onFunc {H : AHeap} {a : AVal} {e : Res} {k : Nat → List AVal → List AVal → Res} (h : ∀ x y z, PS H (k x y z)) (h' : PS H e) : PS H (onFunc a e k) := by cases a <;> first | exact h' | exact h _ _ _
theorem PS.onNat {H : AHeap} {i : Int} {e : Res} {k : Nat → Res} (h : ∀ x, PS H (k x)) (h' : PS H e) : PS H (onNat i e k) := by cases i; exact h _; exact h'
theorem PS.idx {H : AHeap} {a : AVal} {n : Nat} {e : Res} {k : Nat → Res} (h : ∀ x, PS H (k x)) (h' : PS H e) : PS H (idx a n e k) := PS.onInt (fun _ _ => PS.onNat (fun _ => PS.chk (h _) h') h') h'
theorem PS.bnd {H : AHeap} {E : Env} {x : Option Opd} {d y : Nat} {e : Res} {k : Nat → Res} (h : ∀ x, PS H (k x)) (h' : PS H e) : PS H (bnd E x d y e k) := by
  cases x with
  | none => exact h _
  | some z => exact PS.ob (fun _ => PS.onInt (fun _ _ => PS.onNat (fun _ => PS.chk (h _) h') h') h') h'
theorem PS.onRow {H : AHeap} {o : Option AObj} {e : Res} {k : Nat → Nat → Nat → Nat → Nat → Nat → RT → Res} (h : ∀ a b c d e f g, PS H (k a b c d e f g)) (h' : PS H e) : PS H (onRow o e k) := by
  cases o with
  | none => exact h'
  | some o => cases o with
    | row => exact h _ _ _ _ _ _ _
    | map => exact h'
theorem PS.outA {H : AHeap} {agg : Bool} {l : List AVal} {e : Res} {k : AVal → Res} (h : ∀ x, PS H (k x)) (h' : PS H e) : PS H (outA agg l e k) := by
  refine PS.chk (h _) ?_
  cases l with
  | nil => exact h'
  | cons x r => cases r with
    | nil => exact h _
    | cons => exact h'
theorem PS.seqNat {H : AHeap} {n : Nat} {k : Nat → Res} (h : ∀ x, PS H (k x)) : PS H (seqNat n k) := by rw [seqNat_eq]; exact h _
theorem PS.seqInt {H : AHeap} {n : Int} {k : Int → Res} (h : ∀ x, PS H (k x)) : PS H (seqInt n k) := by rw [seqInt_eq]; exact h _
theorem PS.seqVal {H : AHeap} {n : AVal} {k : AVal → Res} (h : ∀ x, PS H (k x)) : PS H (seqVal n k) := by rw [seqVal_eq]; exact h _
theorem PS.seqBool {H : AHeap} {n : Bool} {k : Bool → Res} (h : ∀ x, PS H (k x)) : PS H (seqBool n k) := by cases n <;> exact h _
theorem pure_same {call : CallF} {H : AHeap} {E : Env} {o : Ins} (hp : pureIO o = true) : PS H (o.ev call E H) := by
  cases o with
  | mov x => exact PS.withO (fun _ => PS.ok) PS.err
  | pick c a b => exact PS.withO (fun _ => PS.onBool (fun _ => PS.chk (PS.withO (fun _ => PS.ok) PS.err) (PS.withO (fun _ => PS.ok) PS.err)) PS.err) PS.err
  | boxz a b c d => cases hp
  | box a b c d => cases hp
  | load a b c => cases hp
  | store a b c => cases hp
  | bin op x y => exact PS.withO (fun _ => PS.withO (fun _ => by rw [binR_eq]; exact PS.ob (fun _ => PS.seqVal fun _ => PS.ok) PS.err) PS.err) PS.err
  | eqv c n x y => exact PS.withO (fun _ => PS.withO (fun _ => PS.ob (fun _ => PS.seqBool fun _ => PS.ok) PS.err) PS.err) PS.err
  | un op x => exact PS.withO (fun _ => PS.ob (fun _ => PS.seqVal fun _ => PS.ok) PS.err) PS.err
  | offs x k => exact PS.withO (fun _ => PS.onPtr (fun _ _ _ => PS.seqNat fun _ => PS.ok) PS.err) PS.err
  | sub x a b c => exact PS.withO (fun _ => PS.onAgg (fun _ => PS.chk (PS.outA (fun _ => PS.ok) PS.err) PS.err) PS.err) PS.err
  | idxArr a b x i => exact PS.withO (fun _ => PS.onPtr (fun _ _ _ => PS.withO (fun _ => PS.idx (fun _ => PS.seqNat fun _ => PS.ok) PS.err) PS.err) PS.err) PS.err
  | idxSl a x i => exact PS.withO (fun _ => PS.onSlice (fun _ _ _ _ _ => PS.withO (fun _ => PS.idx (fun _ => PS.seqNat fun _ => PS.ok) PS.err) PS.err) PS.err PS.err) PS.err
  | idxVal a b c x i => exact PS.withO (fun _ => PS.onAgg (fun _ => PS.withO (fun _ => PS.idx (fun _ => PS.chk (PS.outA (fun _ => PS.ok) PS.err) PS.err) PS.err) PS.err) PS.err) PS.err
  | idxStr x i => exact PS.withO (fun _ => PS.onStr (fun _ _ => PS.withO (fun _ => PS.idx (fun _ => PS.seqNat fun _ => PS.ok) PS.err) PS.err) PS.err) PS.err
  | slStr x a b => exact PS.withO (fun _ => PS.onStr (fun _ _ => PS.bnd (fun _ => PS.bnd (fun _ => PS.seqNat fun _ => PS.seqNat fun _ => PS.ok) PS.err) PS.err) PS.err) PS.err
  | slSl n x a b => exact PS.withO (fun _ => PS.onSlice (fun _ _ _ _ _ => PS.chk (PS.bnd (fun _ => PS.bnd (fun _ => PS.seqNat fun _ => PS.seqNat fun _ => PS.ok) PS.err) PS.err) PS.err) (PS.bnd (fun _ => PS.bnd (fun _ => PS.ok) PS.err) PS.err) PS.err) PS.err
  | slArr k n x a b => cases hp
  | extr x i => exact PS.withO (fun _ => PS.onTuple (fun _ => PS.ob (fun _ => PS.ok) PS.err) PS.err) PS.err
  | nilck x => exact PS.withO (fun _ => PS.chk PS.ok PS.err) PS.err
  | mkfn f fs l => exact PS.ob (fun _ => PS.ob (fun _ => PS.ok) PS.err) PS.err
  | mkif t x => exact PS.withO (fun _ => PS.ok) PS.err
  | mksl a b c d e f => cases hp
  | build a b => exact PS.ob (fun _ => PS.ok) PS.err
  | buildSl a b c d e f => cases hp
  | len x => exact PS.withO (fun _ => PS.onSlice (fun _ _ _ _ _ => PS.ok) PS.ok PS.err) PS.err
  | lenK n => exact PS.ok
  | lenS x => exact PS.withO (fun _ => PS.onStr (fun _ _ => PS.ok) PS.err) PS.err
  | app a b c x y => cases hp
  | appStr a x y => cases hp
  | copy a b c => cases hp
  | minmax a b c => exact PS.withO (fun _ => PS.onInt (fun _ _ => PS.ob (fun _ => PS.ob (fun _ => PS.ok) PS.err) PS.err) PS.err) PS.err
  | conv k x => exact PS.withO (fun _ => PS.onInt (fun _ _ => PS.seqInt fun _ => PS.ok) PS.err) PS.err
  | convId x => exact PS.withO (fun _ => PS.ok) PS.err
  | convSB e x => cases hp
  | convBS x => cases hp
  | call f l => cases hp
  | callv x l => cases hp
  | uconv t n x => cases hp
  | usd x => exact PS.withO (fun _ => PS.onSlice (fun _ _ _ _ _ => PS.chk PS.err PS.ok) PS.ok PS.err) PS.err
  | ustr e x n => cases hp
theorem pure_reads {E : Env} {o : Ins} (hp : pureIO o = true) : o.reads E = some [] := by
  cases o <;> first | rfl | cases hp
inductive Before (ops : Array Oper) : Nat → Nat → Prop
  | edge {j : Nat} {o : Oper} {e : Edge} : ops[j]? = some o → e ∈ o.after → Region.binds .any e = true → Before ops e.on j
  | step {i k j : Nat} : Before ops i k → Before ops k j → Before ops i j
def Closed (ops : Array Oper) (S : Nat → Bool) : Prop := ∀ j o e, ops[j]? = some o → e ∈ o.after → Region.binds .any e = true → S j = true → S e.on = true
def Ready (ops : Array Oper) (S : Nat → Bool) (j : Nat) : Prop := ∀ o e, ops[j]? = some o → e ∈ o.after → Region.binds .any e = true → S e.on = true
theorem Before.closed {ops : Array Oper} {S : Nat → Bool} (hS : Closed ops S) {i j : Nat} (h : Before ops i j) : S j = true → S i = true := by
  induction h with
  | edge h1 h2 h3 => exact fun h => hS _ _ _ h1 h2 h3 h
  | step _ _ ih1 ih2 => exact fun h => ih1 (ih2 h)
theorem Before.ready {ops : Array Oper} {S : Nat → Bool} (hS : Closed ops S) {i j : Nat} (h : Before ops i j) : Ready ops S j → S i = true := by
  induction h with
  | edge h1 h2 h3 => exact fun h => h _ _ h1 h2 h3
  | step h1 _ _ ih2 => exact fun h => h1.closed hS (ih2 h)
def orE (ms : List Nat) : List Edge → Nat
  | [] => 0
  | e :: r => if Region.binds .any e = true then 2 ^ e.on ||| ms.getD e.on 0 ||| orE ms r else orE ms r
def masksFrom : List Oper → List Nat → List Nat
  | [], ms => ms
  | o :: r, ms => masksFrom r (ms ++ [orE ms o.after.toList])
def backFrom : Nat → List Oper → Bool
  | _, [] => true
  | k, o :: r => (o.after.toList.all fun e => !Region.binds .any e || decide (e.on < k)) && backFrom (k + 1) r
theorem orE_ok {ops : Array Oper} {ms : List Nat} (hms : ∀ j i, (ms.getD j 0).testBit i = true → Before ops i j) {j : Nat} {o : Oper} (ho : ops[j]? = some o) :
    ∀ (l : List Edge), (∀ e, e ∈ l → e ∈ o.after) → ∀ i, (orE ms l).testBit i = true → Before ops i j
  | [], _, i, h => by simp [orE] at h
  | e :: r, hl, i, h => by
    have hr := orE_ok hms ho r (fun e he => hl e (List.mem_cons_of_mem _ he)) i
    unfold orE at h
    split at h
    · rename_i hb
      rw [Nat.testBit_or, Nat.testBit_or] at h
      simp only [Bool.or_eq_true] at h
      rcases h with (h | h) | h
      · rw [Nat.testBit_two_pow] at h
        have : e.on = i := by simpa using h
        subst this
        exact .edge ho (hl e (List.mem_cons_self ..)) hb
      · exact .step (hms _ _ h) (.edge ho (hl e (List.mem_cons_self ..)) hb)
      · exact hr h
    · exact hr h
theorem masksFrom_ok {ops : Array Oper} : ∀ (l : List Oper) (ms : List Nat), (∀ n, l[n]? = ops[ms.length + n]?) → (∀ j i, (ms.getD j 0).testBit i = true → Before ops i j) →
    ∀ j i, ((masksFrom l ms).getD j 0).testBit i = true → Before ops i j
  | [], ms, _, h => h
  | o :: r, ms, hl, h => by
    refine masksFrom_ok r _ (fun n => ?_) fun j i hj => ?_
    · have := hl (n + 1)
      simp only [List.getElem?_cons_succ] at this
      rw [this]; simp only [List.length_append, List.length_cons, List.length_nil]; congr 1; omega
    · have ho : ops[ms.length]? = some o := by have := hl 0; simpa using this.symm
      rcases Nat.lt_trichotomy j ms.length with hlt | rfl | hgt
      · rw [List.getD_eq_getElem?_getD, List.getElem?_append_left hlt, ← List.getD_eq_getElem?_getD] at hj
        exact h j i hj
      · rw [List.getD_eq_getElem?_getD, List.getElem?_append_right (Nat.le_refl _)] at hj
        simp only [Nat.sub_self, List.getElem?_cons_zero, Option.getD_some] at hj
        exact orE_ok h ho _ (fun e he => by simpa using he) i hj
      · rw [List.getD_eq_getElem?_getD, List.getElem?_eq_none (by simp; omega)] at hj
        simp at hj
theorem backFrom_ok : ∀ (l : List Oper) (k : Nat), backFrom k l = true → ∀ n o e, l[n]? = some o → e ∈ o.after → Region.binds .any e = true → e.on < k + n
  | [], _, _, n, o, e, h, _, _ => by simp at h
  | x :: r, k, h, n, o, e, hn, he, hb => by
    unfold backFrom at h
    simp only [Bool.and_eq_true, List.all_eq_true] at h
    cases n with
    | zero =>
      simp at hn; subst hn
      have := h.1 e (by simpa using he)
      simpa [hb] using this
    | succ n =>
      have := backFrom_ok r (k + 1) h.2 n o e (by simpa using hn) he hb
      omega
def slotOf : Opd → Option Key
  | .t n => some n
  | _ => none
def looksI (o : IOp) : List Key := o.op.opds.filterMap slotOf ++ (match o.g with | some (t, _) => [t] | none => [])
def notIn (d : Option Key) (l : List Key) : Bool := match d with | some d => !(l.contains d) | none => true
def apartI (x y : IOp) : Bool := notIn x.dst (looksI y) && notIn x.dst y.dst.toList && notIn y.dst (looksI x)
def tmpsOk (ms : List Nat) (l : List IOp) : Bool :=
  (List.range l.length).all fun j => (List.range j).all fun i => (ms.getD j 0).testBit i || (match l[i]?, l[j]? with | some x, some y => apartI x y | _, _ => false)
theorem notIn_ok {d : Option Key} {l : List Key} (h : notIn d l = true) : ∀ t, t ∈ l → d ≠ some t := by
  intro t ht he
  subst he
  simp [notIn] at h
  exact h ht
structure ApartI (x y : IOp) : Prop where
  xy : ∀ t, t ∈ looksI y → x.dst ≠ some t
  dd : ∀ t, y.dst = some t → x.dst ≠ some t
  yx : ∀ t, t ∈ looksI x → y.dst ≠ some t
theorem apartI_ok {x y : IOp} (h : apartI x y = true) : ApartI x y := by
  unfold apartI at h
  simp only [Bool.and_eq_true] at h
  exact ⟨notIn_ok h.1.1, fun t ht => notIn_ok h.1.2 t (by simp [ht]), notIn_ok h.2⟩
theorem tmpsOk_ok {ms : List Nat} {l : List IOp} (h : tmpsOk ms l = true) {i j : Nat} {x y : IOp} (hij : i < j) (hx : l[i]? = some x) (hy : l[j]? = some y) : (ms.getD j 0).testBit i = true ∨ ApartI x y := by
  have hj : j < l.length := (List.getElem?_eq_some_iff.1 hy).1
  have h1 := List.all_eq_true.1 (List.all_eq_true.1 h j (List.mem_range.2 hj)) i (List.mem_range.2 hij)
  rw [hx, hy] at h1
  rcases Bool.or_eq_true _ _ |>.mp h1 with h1 | h1
  · exact .inl h1
  · exact .inr (apartI_ok h1)
theorem looks_opd {E E' : Env} {o : IOp} (h : ∀ t, t ∈ looksI o → E.get t = E'.get t) : ∀ x ∈ o.op.opds, x.ev E = x.ev E' := by
  intro x hx
  cases x with
  | t n => exact h n (List.mem_append_left _ (List.mem_filterMap.2 ⟨.t n, hx, rfl⟩))
  | c v => rfl
theorem looks_wants {E E' : Env} {o : IOp} (h : ∀ t, t ∈ looksI o → E.get t = E'.get t) {b : Bool} (hw : Wants E o.g b) : Wants E' o.g b := by
  generalize hg : o.g = g at hw
  cases hw with
  | none => exact .none
  | slot k =>
    rename_i t want b
    refine .slot ?_
    rw [← h t (List.mem_append_right _ (by rw [hg]; simp))]
    exact k
  | off k =>
    rename_i t want
    refine .off ?_
    rw [← h t (List.mem_append_right _ (by rw [hg]; simp))]
    exact k
def partnersM (m : Nat) : Nat → List Nat → List Nat
  | _, [] => []
  | k, j :: r => if m.testBit j then partnersM m (k + 1) r else k :: partnersM m (k + 1) r
def markM (ms : List Nat) : Nat → List Nat → List IOp → List IOp
  | _, _, [] => []
  | i, seen, o :: r => if pureIO o.op then { o with q := none } :: markM ms (i + 1) seen r else { o with q := some (partnersM (ms.getD i 0) 0 seen) } :: markM ms (i + 1) (i :: seen) r
def seenAt (L : List IOp) : Nat → List Nat
  | 0 => []
  | n + 1 => match L[n]? with
    | some o => if pureIO o.op then seenAt L n else n :: seenAt L n
    | none => seenAt L n
theorem partnersM_ok {m j : Nat} (hj : m.testBit j = false) : ∀ (seen : List Nat) (k n : Nat), seen[n]? = some j → k + n ∈ partnersM m k seen
  | [], _, _, h => by simp at h
  | x :: r, k, n, h => by
    unfold partnersM
    cases n with
    | zero => simp at h; subst h; rw [if_neg (by simp [hj])]; exact List.mem_cons_self ..
    | succ n =>
      have := partnersM_ok hj r (k + 1) n (by simpa using h)
      rw [show k + (n + 1) = k + 1 + n by omega]
      split
      · exact this
      · exact List.mem_cons_of_mem _ this
theorem markM_ok {ms : List Nat} {L : List IOp} : ∀ (l : List IOp) (i : Nat), (∀ n, l[n]? = L[i + n]?) → ∀ n io, (markM ms i (seenAt L i) l)[n]? = some io →
    ∃ io0, L[i + n]? = some io0 ∧ io.dst = io0.dst ∧ io.g = io0.g ∧ io.op = io0.op ∧ io.q = if pureIO io0.op then none else some (partnersM (ms.getD (i + n) 0) 0 (seenAt L (i + n)))
  | [], i, _, n, io, h => by simp [markM] at h
  | o :: r, i, hl, n, io, h => by
    have h0 : L[i]? = some o := by have := hl 0; simpa using this.symm
    have hr : ∀ n, r[n]? = L[i + 1 + n]? := fun n => by have := hl (n + 1); rw [show i + 1 + n = i + (n + 1) by omega]; simpa using this
    have ih := markM_ok (ms := ms) r (i + 1) hr
    have hs : seenAt L (i + 1) = if pureIO o.op then seenAt L i else i :: seenAt L i := by simp only [seenAt, h0]
    unfold markM at h
    cases n with
    | zero =>
      refine ⟨o, h0, ?_⟩
      split at h
      · rename_i hp; simp at h; subst h; exact ⟨rfl, rfl, rfl, by rw [if_pos hp]⟩
      · rename_i hp; simp at h; subst h; exact ⟨rfl, rfl, rfl, by rw [if_neg hp]; rfl⟩
    | succ n =>
      rw [show i + (n + 1) = i + 1 + n by omega]
      refine ih n io ?_
      rw [hs]
      split at h
      · rename_i hp; rw [if_pos hp]; simpa using h
      · rename_i hp; rw [if_neg hp]; simpa using h
theorem markM_length {ms : List Nat} : ∀ (l : List IOp) (i : Nat) (s : List Nat), (markM ms i s l).length = l.length
  | [], _, _ => rfl
  | o :: r, i, s => by
    unfold markM
    split <;> simp [markM_length r]
theorem seenAt_mem {L : List IOp} {i : Nat} {o : IOp} (h : L[i]? = some o) (hp : pureIO o.op = false) : ∀ n, i < n → i ∈ seenAt L n
  | 0, h => by omega
  | n + 1, hn => by
    unfold seenAt
    rcases Nat.lt_or_eq_of_le (Nat.le_of_lt_succ hn) with hlt | rfl
    · have := seenAt_mem h hp n hlt
      split
      · split
        · exact this
        · exact List.mem_cons_of_mem _ this
      · exact this
    · simp [h, hp]
end Go.Ev
namespace Go.Ev
theorem Ext.wide {W : Nat → Prop} {n0 n1 m0 m1 : Nat} {ρ ρ' : Ho} {w w' : World} (h : Ext W n0 n1 ρ ρ' w w') (h0 : m0 ≤ n0) (h1 : n1 ≤ m1) : Ext W m0 m1 ρ ρ' w w' :=
  ⟨h.le, fun f g x e => (h.dom f g x e).imp_right fun k => ⟨by omega, by omega⟩, h.blk, h.frame, h.size, by have := h.nn; omega, h.os, h.tape, h.output⟩
theorem Ext.transW {W : Nat → Prop} {n0 n1 : Nat} {ρ ρ1 ρ2 : Ho} {w w1 w2 : World} (h : Ext W n0 n1 ρ ρ1 w w1) (k : Ext W n0 n1 ρ1 ρ2 w1 w2) : Ext W n0 n1 ρ ρ2 w w2 := by
  refine ⟨Ho.le_trans h.le k.le, ?_, ?_, ?_, Nat.le_trans h.size k.size, h.nn, k.os.trans h.os, k.tape.trans h.tape, k.output.trans h.output⟩
  · intro f g x hx
    rcases k.dom f g x hx with ⟨g0, h0, e⟩ | e
    · exact h.dom f g0 h0 e
    · exact .inr e
  · intro f g x hx
    rcases k.blk f g x hx with e | ⟨a, b⟩ | ⟨g0, h0, e, e1, e2⟩
    · exact h.blk f g x e
    · exact .inr (.inl ⟨Nat.le_trans h.size a, b⟩)
    · rcases h.blk f g0 h0 e with e' | ⟨a, b⟩ | ⟨g1, h1, e', e3, e4⟩
      · exact .inr (.inr ⟨g0, h0, e', e1, e2⟩)
      · exact .inr (.inl ⟨e1 ▸ a, e2 ▸ b⟩)
      · exact .inr (.inr ⟨g1, h1, e', e3.trans e1, e4.trans e2⟩)
  · intro b hb hf
    rw [k.frame b (Nat.lt_of_lt_of_le hb h.size) ?_, h.frame b hb hf]
    intro f g x hx hr hw
    rcases h.blk f g x hx with e | ⟨a, _⟩ | ⟨g0, h0, e, e1, e2⟩
    · exact hf f g x e hr hw
    · intro hh; omega
    · exact e1 ▸ hf f g0 h0 e (e2.trans hr) hw
def dstAt (l : List IOp) (n : Nat) : Option Key := (l[n]?).bind (·.dst)
noncomputable def rE (l : List IOp) (E : Env) (V : Nat → AVal) (S : Nat → Bool) : Nat → Env
  | 0 => E
  | n + 1 => if S n = true then putE (rE l E V S n) (dstAt l n) (V n) else rE l E V S n
noncomputable def rC (C : Nat → Option AObj) (Hs : Nat → AHeap) (S : Nat → Bool) : Nat → Nat → Option AObj
  | 0 => C
  | n + 1 => if S n = true then upd (rC C Hs S n) (Hs n) (Hs (n + 1)) else rC C Hs S n
theorem rE_succ {l : List IOp} {E : Env} {V : Nat → AVal} {S : Nat → Bool} (n : Nat) : rE l E V S (n + 1) = if S n = true then putE (rE l E V S n) (dstAt l n) (V n) else rE l E V S n := rfl
theorem rC_succ {C : Nat → Option AObj} {Hs : Nat → AHeap} {S : Nat → Bool} (n : Nat) : rC C Hs S (n + 1) = if S n = true then upd (rC C Hs S n) (Hs n) (Hs (n + 1)) else rC C Hs S n := rfl
def ins (S : Nat → Bool) (j : Nat) : Nat → Bool := fun i => i == j || S i
theorem putE_get (E : Env) (d : Option Key) (v : AVal) (t : Key) : (putE E d v).get t = if d = some t then some v else E.get t := by
  cases d with
  | none => simp [putE]
  | some d =>
    show (E.set d v).get t = _
    rw [Env.get_set]
    by_cases h : t = d
    · subst h; simp
    · rw [if_neg h, if_neg (by simp; exact fun e => h e.symm)]
section
variable {l : List IOp} {E : Env} {V : Nat → AVal} {S : Nat → Bool} {j : Nat}
theorem rE_low (t : Key) {T : Nat → Bool} : ∀ n, (∀ i, i < n → S i ≠ T i → dstAt l i ≠ some t) → (rE l E V S n).get t = (rE l E V T n).get t
  | 0, _ => rfl
  | n + 1, h => by
    have ih := rE_low t n fun i hi => h i (by omega)
    have hn := h n (by omega)
    rw [rE_succ, rE_succ]
    cases hs : S n <;> cases ht : T n
    · simpa using ih
    · have := hn (by simp [hs, ht])
      simp only [Bool.false_eq_true, if_false, if_true, putE_get, if_neg this]; exact ih
    · have := hn (by simp [hs, ht])
      simp only [Bool.false_eq_true, if_false, if_true, putE_get, if_neg this]; exact ih
    · simp only [if_true, putE_get, ih]
theorem rE_high (t : Key) : ∀ n, j ≤ n → (∀ k, j ≤ k → k < n → S k = true → dstAt l k ≠ some t) → (rE l E V S n).get t = (rE l E V S j).get t
  | 0, hj, _ => by have : j = 0 := by omega
                   subst this; rfl
  | n + 1, hj, h => by
    rcases Nat.lt_or_eq_of_le hj with hlt | rfl
    · have ih := rE_high t n (by omega) fun k h1 h2 => h k h1 (by omega)
      rw [rE_succ]
      split
      · rename_i hs; rw [putE_get, if_neg (h n (by omega) (by omega) hs)]; exact ih
      · exact ih
    · rfl
theorem rE_ins (hjS : S j = false) (hjn : j < l.length) (hd : ∀ k t, j < k → S k = true → dstAt l j = some t → dstAt l k ≠ some t) (t : Key) :
    (rE l E V (ins S j) l.length).get t = (putE (rE l E V S l.length) (dstAt l j) (V j)).get t := by
  rw [putE_get]
  have e : ∀ i, ins S j i ≠ S i → i = j := by
    intro i hi
    unfold ins at hi
    by_cases h : i = j
    · exact h
    · simp [h] at hi
  split
  · rename_i hdt
    rw [rE_high (j := j + 1) t l.length hjn fun k h1 h2 hs => hd k t (by omega) (by unfold ins at hs; simpa [show k ≠ j by omega] using hs) hdt]
    rw [rE_succ]
    rw [if_pos (by simp [ins]), putE_get, if_pos hdt]
  · rename_i hdt
    exact rE_low t _ fun i _ hi => by rw [e i hi]; exact hdt
end
section
variable {C : Nat → Option AObj} {Hs : Nat → AHeap} {S : Nat → Bool} {j : Nat}
def Touch (Hs : Nat → AHeap) (n f : Nat) : Prop := ((Hs n).next ≤ f ∧ f < (Hs (n + 1)).next) ∨ (Hs (n + 1)).t.get f ≠ (Hs n).t.get f
theorem upd_touch {n f : Nat} (h : Touch Hs n f) : upd C (Hs n) (Hs (n + 1)) f = (Hs (n + 1)).t.get f := by
  unfold upd
  rcases h with h | h
  · rw [if_pos h]
  · rw [if_neg h]; split <;> rfl
theorem upd_untouch {n f : Nat} (h : ¬ Touch Hs n f) : upd C (Hs n) (Hs (n + 1)) f = C f := by
  unfold upd
  rw [if_neg (fun k => h (.inl k)), if_pos (Classical.byContradiction fun k => h (.inr k))]
theorem rC_low (f : Nat) {T : Nat → Bool} : ∀ n, (∀ i, i < n → S i ≠ T i → ¬ Touch Hs i f) → rC C Hs S n f = rC C Hs T n f
  | 0, _ => rfl
  | n + 1, h => by
    have ih := rC_low f n fun i hi => h i (by omega)
    have hn := h n (by omega)
    rw [rC_succ, rC_succ]
    by_cases ht : Touch Hs n f
    · have e : S n = T n := Classical.byContradiction fun k => hn k ht
      rw [e]
      cases T n
      · simpa using ih
      · simp only [if_true, upd_touch ht]
    · cases S n <;> cases T n <;> simp only [Bool.false_eq_true, if_false, if_true, upd_untouch ht] <;> exact ih
theorem rC_high (f : Nat) : ∀ n, j ≤ n → (∀ k, j ≤ k → k < n → S k = true → ¬ Touch Hs k f) → rC C Hs S n f = rC C Hs S j f
  | 0, hj, _ => by have : j = 0 := by omega
                   subst this; rfl
  | n + 1, hj, h => by
    rcases Nat.lt_or_eq_of_le hj with hlt | rfl
    · have ih := rC_high f n (by omega) fun k h1 h2 => h k h1 (by omega)
      rw [rC_succ]
      split
      · rename_i hs; rw [upd_untouch (h n (by omega) (by omega) hs)]; exact ih
      · exact ih
    · rfl
theorem rC_ins {N : Nat} (hjS : S j = false) (hjn : j < N) (hd : ∀ k f, j < k → k < N → S k = true → Touch Hs j f → ¬ Touch Hs k f) (f : Nat) :
    rC C Hs (ins S j) N f = upd (rC C Hs S N) (Hs j) (Hs (j + 1)) f := by
  have e : ∀ i, ins S j i ≠ S i → i = j := by
    intro i hi
    unfold ins at hi
    by_cases h : i = j
    · exact h
    · simp [h] at hi
  by_cases ht : Touch Hs j f
  · rw [upd_touch ht, rC_high (j := j + 1) f N hjn fun k h1 h2 hs => hd k f (by omega) h2 (by unfold ins at hs; simpa [show k ≠ j by omega] using hs) ht]
    rw [rC_succ]
    rw [if_pos (by simp [ins]), upd_touch ht]
  · rw [upd_untouch ht]
    exact rC_low f _ fun i _ hi => by rw [e i hi]; exact ht
theorem rC_known (f : Nat) (h0 : ∀ o, (Hs 0).t.get f = some o → C f = some o) : ∀ n, (∀ i, i < n → S i = false → ¬ Touch Hs i f) → ∀ o, (Hs n).t.get f = some o → rC C Hs S n f = some o
  | 0, _, o, h => h0 o h
  | n + 1, hn, o, h => by
    have ih := rC_known f h0 n (fun i hi => hn i (by omega)) o
    rw [rC_succ]
    by_cases ht : Touch Hs n f
    · have : S n = true := by
        cases hs : S n
        · exact absurd ht (hn n (by omega) hs)
        · rfl
      rw [if_pos this, upd_touch ht]; exact h
    · have e : (Hs (n + 1)).t.get f = (Hs n).t.get f := Classical.byContradiction fun k => ht (.inr k)
      rw [e] at h
      split
      · rw [upd_untouch ht]; exact ih h
      · exact ih h
end
end Go.Ev
namespace Go.Ev
structure Fact (call : CallF) (o : IOp) (E : Env) (H : AHeap) (b : Bool) (v : AVal) (fp : FP) (H1 : AHeap) : Prop where
  tame : Tame H H1
  touch : ∀ f, ((H.next ≤ f ∧ f < H1.next) ∨ H1.t.get f ≠ H.t.get f) → o.q.isSome = true ∧ (f ∈ fp.ws ∨ (fp.lo ≤ f ∧ f < fp.hi ∧ H.next ≤ f ∧ f < H1.next))
  wants : Wants E o.g b
  off : b = false → v = .undef ∧ H1 = H
  on : b = true → ∃ Hm Hn, o.op.ev call E Hm = .ok v Hn ∧ Hm.mrk ≤ Hm.next ∧ Hm.next = H.next ∧ Hm.t = H.t ∧ Hn.next = H1.next ∧ Hn.t = H1.t ∧ (∀ f, Wr Hn f → Wr H1 f) ∧ (o.q.isSome = true → fp.rd = o.op.reads E)
section
variable {P : Program} {call : CallF}
theorem Step1.fact {o : IOp} {E : Env} {H : AHeap} {recs : List FP} {b : Bool} {v : AVal} {fp : FP} {H1 : AHeap} (hc : CallOk P call) (hp : o.q = none → pureIO o.op = true) (hm : H.mrk ≤ H.next) (hwf : WF H) (h : Step1 call o E H recs b v fp H1) :
    Fact call o E H b v fp H1 := by
  cases h with
  | skip hw hq => exact ⟨Tame.refl _, fun f hf => absurd hf (by rintro (hf | hf); omega; exact hf rfl), hw, fun _ => ⟨rfl, rfl⟩, fun h => by cases h⟩
  | plain hw hq he =>
    have e := pure_same (hp hq) v H1 he
    subst e
    exact ⟨Tame.refl _, fun f hf => absurd hf (by rintro (hf | hf); omega; exact hf rfl), hw, fun h => (by cases h), fun _ => ⟨H1, H1, he, hm, rfl, rfl, rfl, rfl, fun _ h => h, fun h => by rw [hq] at h; cases h⟩⟩
  | marked hw hq he ha =>
    rename_i q H2
    have t := TM.ins (H := H.mark) (Nat.le_refl _) (fun f a => hc.tame f a _ (Nat.le_refl _)) E o.op v H2 he
    refine ⟨t.unmark hm, fun f hf => ⟨by rw [hq]; rfl, ?_⟩, hw, fun h => (by cases h), fun _ => ⟨H.mark, H2, he, Nat.le_refl _, rfl, rfl, rfl, rfl, fun f hf => ?_, fun _ => rfl⟩⟩
    · have hf : ((H.next ≤ f ∧ f < H2.next) ∨ H2.t.get f ≠ H.t.get f) := hf
      show f ∈ H2.ws ∨ (H.next ≤ f ∧ f < H2.next ∧ H.next ≤ f ∧ f < H2.next)
      by_cases h1 : f < H.next
      · rcases hf with hf | hf
        · omega
        · exact .inl (Classical.byContradiction fun k => hf (t.same f h1 k))
      · by_cases h2 : f < H2.next
        · exact .inr ⟨by omega, h2, by omega, h2⟩
        · rcases hf with hf | hf
          · omega
          · have e1 : H.t.get f = none := hwf f (by omega)
            have e2 : H2.t.get f = none := t.wf hwf f (by omega)
            exact absurd (e2.trans e1.symm) hf
    · rcases hf with hf | hf
      · by_cases h1 : f < H.mrk
        · exact .inl ((mergeWs_mem _ _ _ _).2 (.inr ⟨hf, h1⟩))
        · exact .inr (by show H.mrk ≤ f; omega)
      · have : H.next ≤ f := by rw [t.mrk] at hf; exact hf
        exact .inr (by show H.mrk ≤ f; omega)
end
structure RegOk (P : Program) (nt : Nat) (ops : Array Oper) (l : List IOp) : Prop where
  len : l.length = ops.size
  opof : ∀ (i : Nat) (o : Oper) (io : IOp), ops[i]? = some o → l[i]? = some io → OpOf P nt ops o io
  back : ∀ (j : Nat) (o : Oper) (e : Edge), ops[j]? = some o → e ∈ o.after → Region.binds .any e = true → e.on < j
  tmps : ∀ (i j : Nat) (x y : IOp), i < j → l[i]? = some x → l[j]? = some y → Before ops i j ∨ ApartI x y
  pure : ∀ (i : Nat) (x : IOp), l[i]? = some x → x.q = none → pureIO x.op = true
section
variable {P : Program} {call : CallF} {nt : Nat} {ops : Array Oper} {l : List IOp} {E E' : Env} {H H' : AHeap} {Es : Nat → Env} {Hs : Nat → AHeap} {Rs : Nat → List FP} {Wn : Nat → Bool} {Vs : Nat → AVal} {Fp : Nat → FP}
theorem Trace.wf (hc : CallOk P call) (hr : RegOk P nt ops l) (T : Trace call l E H [] E' H' Es Hs Rs Wn Vs Fp) (hm : H.mrk ≤ H.next) (hwf : WF H) : ∀ i, i ≤ l.length → (Hs i).mrk ≤ (Hs i).next ∧ WF (Hs i)
  | 0, _ => by rw [T.h0]; exact ⟨hm, hwf⟩
  | i + 1, hi => by
    obtain ⟨h1, h2⟩ := Trace.wf hc hr T hm hwf i (by omega)
    obtain ⟨o, ho⟩ : ∃ o, l[i]? = some o := ⟨_, List.getElem?_eq_getElem (by omega)⟩
    have t := ((T.step i o ho).1.fact hc (hr.pure i o ho) h1 h2).tame
    exact ⟨by rw [t.mrk]; exact Nat.le_trans h1 t.next, t.wf h2⟩
theorem Trace.fact (hc : CallOk P call) (hr : RegOk P nt ops l) (T : Trace call l E H [] E' H' Es Hs Rs Wn Vs Fp) (hm : H.mrk ≤ H.next) (hwf : WF H) {i : Nat} {o : IOp} (ho : l[i]? = some o) :
    Fact call o (Es i) (Hs i) (Wn i) (Vs i) (Fp i) (Hs (i + 1)) := by
  have hi : i < l.length := (List.getElem?_eq_some_iff.1 ho).1
  obtain ⟨h1, h2⟩ := T.wf hc hr hm hwf i (by omega)
  exact (T.step i o ho).1.fact hc (hr.pure i o ho) h1 h2
theorem Trace.tame (hc : CallOk P call) (hr : RegOk P nt ops l) (T : Trace call l E H [] E' H' Es Hs Rs Wn Vs Fp) (hm : H.mrk ≤ H.next) (hwf : WF H) {i : Nat} : ∀ k, i ≤ k → k ≤ l.length → Tame (Hs i) (Hs k)
  | 0, h, _ => by have : i = 0 := by omega
                  subst this; exact Tame.refl _
  | k + 1, h, hk => by
    rcases Nat.lt_or_eq_of_le h with hlt | rfl
    · obtain ⟨o, ho⟩ : ∃ o, l[k]? = some o := ⟨_, List.getElem?_eq_getElem (by omega)⟩
      exact (Trace.tame hc hr T hm hwf k (by omega) (by omega)).trans (T.fact hc hr hm hwf ho).tame
    · exact Tame.refl _
theorem Trace.env (T : Trace call l E H [] E' H' Es Hs Rs Wn Vs Fp) : ∀ n, n ≤ l.length → Es n = rE l E Vs (fun _ => true) n
  | 0, _ => T.e0
  | n + 1, hn => by
    obtain ⟨o, ho⟩ : ∃ o, l[n]? = some o := ⟨_, List.getElem?_eq_getElem (by omega)⟩
    rw [(T.step n o ho).2.1, rE_succ, Trace.env T n (by omega), if_pos rfl]
    simp [dstAt, ho]
structure Inv (P : Program) (nt : Nat) (l : List IOp) (E : Env) (H H' : AHeap) (Hs : Nat → AHeap) (Vs : Nat → AVal) (ρ0 : Ho) (C0 : Nat → Option AObj) (w0 : World) (S : Nat → Bool) (a : Act) (w : World) (ρ : Ho) : Prop where
  ar : AR P ρ nt (rE l E Vs S l.length) a
  r : R ρ (rC C0 Hs S l.length) w
  ext : Ext (Wr H') H.next H'.next ρ0 ρ w0 w
  dom : ∀ f g h, ρ f g = some h → (∃ g0 h0, ρ0 f g0 = some h0) ∨ ∃ k, k < l.length ∧ S k = true ∧ (Hs k).next ≤ f ∧ f < (Hs (k + 1)).next
theorem AR.congr {ρ : Ho} {a : Act} {E1 E2 : Env} (h : AR P ρ nt E1 a) (he : ∀ t, E2.get t = E1.get t) : AR P ρ nt E2 a :=
  ⟨h.size, h.defers, fun t v k => h.tmp t v (by rw [← he]; exact k), h.glob⟩
theorem step_any (hc : CallOk P call) (hr : RegOk P nt ops l) (T : Trace call l E H [] E' H' Es Hs Rs Wn Vs Fp)
    (hpairs : ∀ (i j : Nat) (x y : IOp), i < j → l[i]? = some x → l[j]? = some y → x.q.isSome = true → y.q.isSome = true → Before ops i j ∨ FPApart (Fp j) (Fp i))
    (hm : H.mrk ≤ H.next) (hwf : WF H) {ρ0 : Ho} {C0 : Nat → Option AObj} {w0 : World} (hK0 : Known ρ0 C0 H) (hF0 : Free ρ0 H.next H'.next)
    {S : Nat → Bool} (hS : Closed ops S) {j : Nat} (hj : j < l.length) (hjS : S j = false) (hjr : Ready ops S j) {a : Act} {w : World} {ρ : Ho} (hI : Inv P nt l E H H' Hs Vs ρ0 C0 w0 S a w ρ)
    {Q : Exit → Act → World → Prop} {K : Act → World → Prop} (hK : ∀ a' w' ρ', Inv P nt l E H H' Hs Vs ρ0 C0 w0 (ins S j) a' w' ρ' → K a' w') : wpOp P ops Q j K a w := by
  obtain ⟨io, hio⟩ : ∃ io, l[j]? = some io := ⟨_, List.getElem?_eq_getElem hj⟩
  obtain ⟨o, ho⟩ : ∃ o, ops[j]? = some o := ⟨_, Array.getElem?_eq_getElem (by rw [← hr.len]; exact hj)⟩
  have hof := hr.opof j o io ho hio
  have fj := T.fact hc hr hm hwf hio
  have nxt : ∀ i k, i ≤ k → k ≤ l.length → (Hs i).next ≤ (Hs k).next := fun i k h1 h2 => (T.tame hc hr hm hwf k h1 h2).next
  have h0 : Hs 0 = H := T.h0
  have hN : Hs l.length = H' := T.hN
  have notB : ∀ k, S k = true → ¬ Before ops j k := fun k hk hb => by rw [hb.closed hS hk] at hjS; cases hjS
  have notA : ∀ i, S i = false → ¬ Before ops i j := fun i hi hb => by rw [hb.ready hS hjr] at hi; cases hi
  have get : ∀ {k}, k < l.length → ∃ y, l[k]? = some y := fun hk => ⟨_, List.getElem?_eq_getElem hk⟩
  have dstOf : ∀ {k y}, l[k]? = some y → dstAt l k = y.dst := fun hy => by simp [dstAt, hy]
  -- the slots it looks at
  have hlk : ∀ t, t ∈ looksI io → (rE l E Vs S l.length).get t = (Es j).get t := by
    intro t ht
    rw [T.env j (by omega), rE_high (j := j) t l.length (by omega) fun k h1 h2 hs => ?_]
    · refine rE_low t j fun i hi hs => ?_
      obtain ⟨x, hx⟩ := get (k := i) (by omega)
      have hs : S i = false := by simpa using hs
      rw [dstOf hx]
      exact ((hr.tmps i j x io hi hx hio).resolve_left (notA i hs)).xy t ht
    · obtain ⟨y, hy⟩ := get h2
      have hne : j ≠ k := fun e => by rw [← e, hjS] at hs; cases hs
      rw [dstOf hy]
      exact ((hr.tmps j k io y (by omega) hio hy).resolve_left (notB k hs)).yx t ht
  have hdst : ∀ k t, j < k → S k = true → dstAt l j = some t → dstAt l k ≠ some t := by
    intro k t hk hs hd hd2
    by_cases hkl : k < l.length
    · obtain ⟨y, hy⟩ := get hkl
      rw [dstOf hy] at hd2; rw [dstOf hio] at hd
      exact ((hr.tmps j k io y hk hio hy).resolve_left (notB k hs)).dd t hd2 hd
    · simp [dstAt, List.getElem?_eq_none (Nat.le_of_not_lt hkl)] at hd2
  have touchOf : ∀ {k f y}, l[k]? = some y → Touch Hs k f → y.q.isSome = true ∧ (f ∈ (Fp k).ws ∨ ((Fp k).lo ≤ f ∧ f < (Fp k).hi ∧ (Hs k).next ≤ f ∧ f < (Hs (k + 1)).next)) :=
    fun hy ht => (T.fact hc hr hm hwf hy).touch _ ht
  have wfAt : ∀ i, i ≤ l.length → WF (Hs i) := fun i hi => (T.wf hc hr hm hwf i hi).2
  -- a family made by j, or touched by it
  have htouch : ∀ k f, j < k → k < l.length → S k = true → Touch Hs j f → ¬ Touch Hs k f := by
    intro k f hk hkl hs tj tk
    obtain ⟨y, hy⟩ := get hkl
    obtain ⟨qj, ej⟩ := touchOf hio tj
    obtain ⟨qk, ek⟩ := touchOf hy tk
    have fa := (hpairs j k io y hk hio hy qj qk).resolve_left (notB k hs)
    have n1 := nxt (j + 1) k hk (by omega)
    have n2 := nxt j (j + 1) (by omega) (by omega)
    rcases ek with ek | ⟨e1, e2, e3, e4⟩
    · rcases ej with ej | ⟨e1, e2, e3, e4⟩
      · exact fa.ww f ek ej
      · exact fa.out f ek ⟨e1, e2⟩
    · rcases tj with tj | tj
      · omega
      · refine tj ((wfAt (j + 1) (by omega) f (by omega)).trans (wfAt j (by omega) f (by omega)).symm)
  -- the homes of the families that j makes are free
  have hdis : ∀ {i f}, i < l.length → S i = false → (Hs i).next ≤ f → f < (Hs (i + 1)).next → ∀ g, ρ f g = none := by
    intro i f hi hs h1 h2 g
    cases hx : ρ f g with
    | none => rfl
    | some x =>
      rcases hI.dom f g x hx with ⟨g0, x0, e⟩ | ⟨k, hk, hsk, e1, e2⟩
      · have n1 := nxt 0 i (by omega) (by omega)
        have n2 := nxt (i + 1) l.length (by omega) (by omega)
        rw [h0] at n1; rw [hN] at n2
        rw [hF0 f g0 (by omega) (by omega)] at e; cases e
      · rcases Nat.lt_trichotomy i k with hlt | rfl | hgt
        · have := nxt (i + 1) k (by omega) (by omega); omega
        · rw [hs] at hsk; cases hsk
        · have := nxt (k + 1) i (by omega) (by omega); omega
  have hfree : Free ρ (Hs j).next (Hs (j + 1)).next := fun f g h1 h2 => hdis hj hjS h1 h2 g
  -- what it reads is as the trace has it
  have hreads : Wn j = true → ∀ f ob, (∀ ls, io.op.reads (Es j) = some ls → f ∈ ls) → (∃ g h, ρ f g = some h) → (Hs j).t.get f = some ob → rC C0 Hs S l.length f = some ob := by
    intro hon f ob hrd ⟨g, x, hx⟩ hob
    obtain ⟨_, _, _, _, _, _, _, _, _, hrd2⟩ := fj.on hon
    have noPure : io.q.isSome = true := by
      cases hq : io.q with
      | some q => rfl
      | none => have := hrd [] (pure_reads (hr.pure j io hio hq)); cases this
    have hrdj : (Fp j).rd = io.op.reads (Es j) := hrd2 noPure
    have noRd : ∀ m, (Fp j).rd = some m → f ∈ m := fun m hm => hrd m (hrdj ▸ hm)
    have fj2 : f < (Hs j).next := Classical.byContradiction fun k => by rw [wfAt j (by omega) f (by omega)] at hob; cases hob
    rw [rC_high (j := j) f l.length (by omega) fun k h1 h2 hs tk => ?_]
    · refine rC_known f (fun o' ho' => ?_) j (fun i hi hs ti => ?_) ob hob
      · rw [h0] at ho'
        refine hK0 f o' ?_ ho'
        rcases hI.dom f g x hx with e | ⟨k, hk, hsk, e1, e2⟩
        · exact e
        · have n1 := nxt 0 k (by omega) (by omega)
          rw [h0] at n1
          rw [hwf f (by omega)] at ho'; cases ho'
      · obtain ⟨y, hy⟩ := get (k := i) (by omega)
        obtain ⟨qi, ei⟩ := touchOf hy ti
        rcases ei with ei | ⟨_, _, e3, e4⟩
        · obtain ⟨m, hm1, hm2⟩ := ((hpairs i j y io hi hy hio qi noPure).resolve_left (notA i hs)).ba f ei
          exact hm2 (noRd m hm1)
        · rw [hdis (by omega) hs e3 e4 g] at hx; cases hx
    · obtain ⟨y, hy⟩ := get h2
      have hne : j ≠ k := fun e => by rw [← e, hjS] at hs; cases hs
      obtain ⟨qk, ek⟩ := touchOf hy tk
      rcases ek with ek | ⟨_, _, e3, e4⟩
      · obtain ⟨m, hm1, hm2⟩ := ((hpairs j k io y (by omega) hio hy noPure qk).resolve_left (notB k hs)).ab f ek
        exact hm2 (noRd m hm1)
      · have := nxt j k (by omega) (by omega); omega
  have insMono : ∀ k, S k = true → ins S j k = true := fun k hk => by simp [ins, hk]
  unfold wpOp
  simp only [ho]
  have hw := looks_wants (E' := rE l E Vs S l.length) (fun t ht => (hlk t ht).symm) fj.wants
  rw [wanted_ok hof hw hI.ar.tmp]
  cases hb : Wn j with
  | false =>
    rw [if_neg (by simp)]
    obtain ⟨e1, e2⟩ := fj.off hb
    refine hK _ _ ρ ⟨?_, ?_, hI.ext, fun f g x hx => (hI.dom f g x hx).imp_right fun ⟨k, h1, h2, h3⟩ => ⟨k, h1, insMono k h2, h3⟩⟩
    · refine AR.congr (E1 := putE (rE l E Vs S l.length) io.dst .undef) (by rw [hof.dst]; exact hI.ar.putO hof.lt (by simp only [VR])) fun t => ?_
      rw [rE_ins hjS hj hdst t, dstOf hio, e1]
    · rw [show rC C0 Hs (ins S j) l.length = rC C0 Hs S l.length from funext fun f => by rw [rC_ins hjS hj htouch f, e2, upd_same]]
      exact hI.r
  | true =>
    rw [if_pos rfl]
    left
    obtain ⟨Hm, Hn, he, k1, k2, k3, k4, k5, k6, k7⟩ := fj.on hb
    rcases hof.op with hop | hbad
    case inr => rw [hbad] at he; exact (bad_err he).elim
    have hop2 : io.op.ev call (rE l E Vs S l.length) Hm = .ok (Vs j) Hn := by
      rw [Ins.ev_congr io.op (looks_opd (E' := Es j) hlk)]; exact he
    have hok := ins_sound (o := o) hop hI.ar hI.r (by rw [k2, k4]; exact hfree) (fun f ob hrd hx hob => by
      rw [k3] at hob
      refine hreads hb f ob (fun ls hls => hrd ls ?_) hx hob
      rw [Ins.reads_congr io.op (looks_opd (E' := Es j) hlk)]; exact hls) k1 (fun x hx => by rw [k3]; exact wfAt j (by omega) x (by rw [← k2]; exact hx)) hc hop2
    refine wp_of_OpOk hok fun cv w' hp => ?_
    obtain ⟨ρ', hv, hext, hR'⟩ := hp
    have hupd : upd (rC C0 Hs S l.length) Hm Hn = upd (rC C0 Hs S l.length) (Hs j) (Hs (j + 1)) := by
      funext f; unfold upd; rw [k2, k3, k4, k5]
    refine hK _ _ ρ' ⟨?_, ?_, hI.ext.transW (Ext.wide (hext.mono fun f hf => ?_) ?_ ?_), fun f g x hx => ?_⟩
    · refine AR.congr (E1 := putE (rE l E Vs S l.length) io.dst (Vs j)) (by rw [hof.dst]; exact (hI.ar.mono hext.le).putO hof.lt hv) fun t => ?_
      rw [rE_ins hjS hj hdst t, dstOf hio]
    · rw [show rC C0 Hs (ins S j) l.length = upd (rC C0 Hs S l.length) Hm Hn from funext fun f => by rw [rC_ins hjS hj htouch f, hupd]]
      exact hR'
    · have t := T.tame hc hr hm hwf (i := j + 1) l.length (by omega) (by omega)
      rw [hN] at t
      exact Wr_mono t f (k6 f hf)
    · rw [k2, ← h0]; exact nxt 0 j (by omega) (by omega)
    · rw [k4, ← hN]; exact nxt (j + 1) l.length (by omega) (by omega)
    · rcases hext.dom f g x hx with ⟨g0, x0, e⟩ | e
      · exact (hI.dom f g0 x0 e).imp_right fun ⟨k, h1, h2, h3⟩ => ⟨k, h1, insMono k h2, h3⟩
      · rw [k2, k4] at e
        exact .inr ⟨j, hj, by simp [ins], e⟩
end
end Go.Ev
namespace Go.Ev
theorem filter_less {p q : Nat → Bool} : ∀ (l : List Nat) {j : Nat}, j ∈ l → p j = true → q j = false → (∀ i, q i = true → p i = true) → (l.filter q).length + 1 ≤ (l.filter p).length
  | [], _, hj, _, _, _ => by cases hj
  | x :: r, j, hj, hp, hq, h => by
    have le : (r.filter q).length ≤ (r.filter p).length := by
      clear hj
      induction r with
      | nil => simp
      | cons y s ih =>
        cases hy : q y
        · rw [List.filter_cons_of_neg (by simp [hy])]
          cases hz : p y
          · rw [List.filter_cons_of_neg (by simp [hz])]; exact ih
          · rw [List.filter_cons_of_pos hz]; simp; omega
        · rw [List.filter_cons_of_pos hy, List.filter_cons_of_pos (h y hy)]; simp; exact ih
    rcases List.mem_cons.1 hj with rfl | hj
    · rw [List.filter_cons_of_neg (by simp [hq]), List.filter_cons_of_pos hp]; simp; exact le
    · have ih := filter_less r hj hp hq h
      cases hy : q x
      · rw [List.filter_cons_of_neg (by simp [hy])]
        cases hz : p x
        · rw [List.filter_cons_of_neg (by simp [hz])]; exact ih
        · rw [List.filter_cons_of_pos hz]; simp; omega
      · rw [List.filter_cons_of_pos hy, List.filter_cons_of_pos (h x hy)]; simp; omega
def listedS (listed : Array Bool) : Nat → Bool := fun i => listed.getD i false
def unl (listed : Array Bool) (n : Nat) : Nat := ((List.range n).filter fun i => !listedS listed i).length
section
variable {P : Program} {call : CallF} {nt : Nat} {ops : Array Oper} {l : List IOp} {E E' : Env} {H H' : AHeap} {Es : Nat → Env} {Hs : Nat → AHeap} {Rs : Nat → List FP} {Wn : Nat → Bool} {Vs : Nat → AVal} {Fp : Nat → FP}
theorem listedS_set {listed : Array Bool} {j : Nat} (hj : j < listed.size) : listedS (listed.setIfInBounds j true) = ins (listedS listed) j := by
  funext i
  unfold listedS ins
  by_cases h : i = j
  · subst h; simp [hj]
  · rw [getD_set_ne false (Ne.symm h)]; simp [h]
theorem none_ready (hr : RegOk P nt ops l) {listed : Array Bool} (hs : listed.size = l.length) (h : Region.ready .any ops listed = []) : ∀ i, i < l.length → listedS listed i = true := by
  intro i
  induction i using Nat.strongRecOn with
  | _ i ih =>
    intro hi
    cases hl : listedS listed i with
    | true => rfl
    | false =>
      obtain ⟨o, ho⟩ : ∃ o, ops[i]? = some o := ⟨_, Array.getElem?_eq_getElem (by rw [← hr.len]; exact hi)⟩
      have : i ∈ Region.ready .any ops listed := by
        rw [mem_ready]
        refine ⟨?_, o, ho, fun e he hb => ih e.on (hr.back i o e ho he hb) (Nat.lt_trans (hr.back i o e ho he hb) hi)⟩
        unfold listedS at hl
        simp only [Array.getD_eq_getD_getElem?] at hl ⊢
        rw [Array.getElem?_eq_getElem (by rw [hs]; exact hi)] at hl ⊢
        simpa using hl
      rw [h] at this; cases this
theorem any_ok (hc : CallOk P call) (hr : RegOk P nt ops l) (T : Trace call l E H [] E' H' Es Hs Rs Wn Vs Fp)
    (hpairs : ∀ (i j : Nat) (x y : IOp), i < j → l[i]? = some x → l[j]? = some y → x.q.isSome = true → y.q.isSome = true → Before ops i j ∨ FPApart (Fp j) (Fp i))
    (hm : H.mrk ≤ H.next) (hwf : WF H) {ρ0 : Ho} {C0 : Nat → Option AObj} {w0 : World} (hK0 : Known ρ0 C0 H) (hF0 : Free ρ0 H.next H'.next) {Q : Exit → Act → World → Prop}
    (hfin : ∀ S a w ρ, (∀ i, i < l.length → S i = true) → Inv P nt l E H H' Hs Vs ρ0 C0 w0 S a w ρ → Q .normal a w) :
    ∀ (fuel : Nat) (listed : Array Bool) (a : Act) (w : World) (ρ : Ho), listed.size = l.length → Closed ops (listedS listed) → Inv P nt l E H H' Hs Vs ρ0 C0 w0 (listedS listed) a w ρ → unl listed l.length ≤ fuel →
      wpAny P .any ops Q fuel listed a w := by
  intro fuel
  induction fuel with
  | zero =>
    intro listed a w ρ hs hC hI hu
    have all : ∀ i, i < l.length → listedS listed i = true := by
      intro i hi
      cases hl : listedS listed i with
      | true => rfl
      | false =>
        have : i ∈ (List.range l.length).filter fun i => !listedS listed i := List.mem_filter.2 ⟨List.mem_range.2 hi, by simp [hl]⟩
        rw [List.eq_nil_of_length_eq_zero (Nat.le_zero.1 hu)] at this; cases this
    refine ⟨?_, hfin _ a w ρ all hI⟩
    cases hrd : Region.ready .any ops listed with
    | nil => rfl
    | cons j r =>
      have hj : j ∈ Region.ready .any ops listed := by rw [hrd]; exact List.mem_cons_self ..
      obtain ⟨h0, o, ho, _⟩ := mem_ready.1 hj
      have hjl : j < l.length := by rw [hr.len]; exact (Array.getElem?_eq_some_iff.1 ho).1
      have := all j hjl
      unfold listedS at this
      simp only [Array.getD_eq_getD_getElem?] at h0 this
      rw [Array.getElem?_eq_getElem (by rw [hs]; exact hjl)] at h0 this
      simp at h0 this; rw [h0] at this; cases this
  | succ fuel ih =>
    intro listed a w ρ hs hC hI hu
    refine ⟨fun h => hfin _ a w ρ (none_ready hr hs h) hI, fun j hj => ?_⟩
    obtain ⟨h0, o, ho, hrd⟩ := mem_ready.1 hj
    have hjl : j < l.length := by rw [hr.len]; exact (Array.getElem?_eq_some_iff.1 ho).1
    have hjS : listedS listed j = false := by
      unfold listedS
      simp only [Array.getD_eq_getD_getElem?] at h0 ⊢
      rw [Array.getElem?_eq_getElem (by rw [hs]; exact hjl)] at h0 ⊢
      simpa using h0
    have hjr : Ready ops (listedS listed) j := fun o' e ho' he hb => by
      rw [ho] at ho'; cases ho'
      exact hrd e he hb
    have hset := listedS_set (listed := listed) (j := j) (by rw [hs]; exact hjl)
    refine step_any hc hr T hpairs hm hwf hK0 hF0 hC hjl hjS hjr hI fun a' w' ρ' hI' => ?_
    refine ih _ a' w' ρ' (by simp [hs]) ?_ (by rw [hset]; exact hI') ?_
    · rw [hset]
      intro k o' e ho' he hb hk
      unfold ins at hk ⊢
      by_cases hkj : k = j
      · subst hkj; simp [hjr o' e ho' he hb]
      · simp [hkj] at hk; simp [hC k o' e ho' he hb hk]
    · have := filter_less (p := fun i => !listedS listed i) (q := fun i => !listedS (listed.setIfInBounds j true) i) (List.range l.length) (List.mem_range.2 hjl) (by simp [hjS]) (by rw [hset]; simp [ins]) (by
        intro i hi; rw [hset] at hi; simp [ins] at hi; simp [hi])
      have h2 : unl (listed.setIfInBounds j true) l.length + 1 ≤ unl listed l.length := this
      omega
theorem Inv.fin (hc : CallOk P call) (hr : RegOk P nt ops l) (T : Trace call l E H [] E' H' Es Hs Rs Wn Vs Fp) (hm : H.mrk ≤ H.next) (hwf : WF H) {ρ0 ρ : Ho} {C0 : Nat → Option AObj} {w0 w : World} (hK0 : Known ρ0 C0 H) (hF0 : Free ρ0 H.next H'.next)
    {S : Nat → Bool} {a : Act} (hall : ∀ i, i < l.length → S i = true) (hI : Inv P nt l E H H' Hs Vs ρ0 C0 w0 S a w ρ) : AR P ρ nt E' a ∧ R ρ (upd C0 H H') w := by
  have h0 : Hs 0 = H := T.h0
  have hN : Hs l.length = H' := T.hN
  have nxt : ∀ i k, i ≤ k → k ≤ l.length → (Hs i).next ≤ (Hs k).next := fun i k h1 h2 => (T.tame hc hr hm hwf k h1 h2).next
  refine ⟨AR.congr hI.ar fun t => ?_, hI.r.weaken fun f o hf hd => ?_⟩
  · rw [← T.eN, T.env l.length (Nat.le_refl _)]
    exact rE_low t _ fun i hi hs => absurd (hall i hi).symm hs
  · obtain ⟨g, x, hx⟩ := hd
    have hdom := hI.dom f g x hx
    have known : ∀ o', H'.t.get f = some o' → rC C0 Hs S l.length f = some o' := by
      rw [← hN]
      refine rC_known f (fun o' ho' => ?_) _ (fun i hi hs => by rw [hall i hi] at hs; cases hs)
      rw [h0] at ho'
      rcases hdom with e | ⟨k, hk, _, e1, e2⟩
      · exact hK0 f o' e ho'
      · have n1 := nxt 0 k (by omega) (by omega)
        rw [h0] at n1
        rw [hwf f (by omega)] at ho'; cases ho'
    unfold upd at hf
    split at hf
    · exact known o hf
    · rename_i hn
      split at hf
      · rename_i he
        have hd0 : ∃ g0 x0, ρ0 f g0 = some x0 := by
          rcases hdom with e | ⟨k, hk, _, e1, e2⟩
          · exact e
          · have n1 := nxt 0 k (by omega) (by omega)
            have n2 := nxt (k + 1) l.length (by omega) (by omega)
            rw [h0] at n1; rw [hN] at n2
            omega
        cases hg : H.t.get f with
        | some o' =>
          have := hK0 f o' hd0 hg
          rw [hf] at this; cases this
          exact known o (he.trans hg)
        | none =>
          have nn : ∀ i, i ≤ l.length → (Hs i).t.get f = none := by
            intro i hi
            cases hi2 : (Hs i).t.get f with
            | none => rfl
            | some o2 =>
              have := (T.tame hc hr hm hwf (i := i) l.length hi (Nat.le_refl _)).keep f (by rw [hi2]; simp)
              rw [hN, he, hg] at this; exact absurd rfl this
          rw [rC_high (j := 0) f l.length (Nat.zero_le _) fun k _ hk _ ht => ?_]
          · exact hf
          · rcases ht with ht | ht
            · have n1 := nxt 0 k (by omega) (by omega)
              have n2 := nxt (k + 1) l.length (by omega) (by omega)
              rw [h0] at n1; rw [hN] at n2
              omega
            · rw [nn k (by omega), nn (k + 1) (by omega)] at ht; exact ht rfl
      · exact known o hf
theorem recs_at {ms : List Nat} {l0 : List IOp} (hl : l = markM ms 0 [] l0) (T : Trace call l E H [] E' H' Es Hs Rs Wn Vs Fp) : ∀ n, n ≤ l.length → Rs n = (seenAt l0 n).map Fp
  | 0, _ => T.r0
  | n + 1, hn => by
    obtain ⟨o, ho⟩ : ∃ o, l[n]? = some o := ⟨_, List.getElem?_eq_getElem (by omega)⟩
    rw [(T.step n o ho).2.2, recs_at hl T n (by omega)]
    obtain ⟨io0, h0, _, _, _, hq⟩ := markM_ok (ms := ms) (L := l0) l0 0 (fun n => by simp) n o (by rw [← ho, hl]; rfl)
    rw [Nat.zero_add] at h0 hq
    unfold recsNext
    simp only [seenAt, h0]
    rw [hq]
    cases pureIO io0.op <;> rfl
theorem pairs_ok {ms : List Nat} {l0 : List IOp} (hl : l = markM ms 0 [] l0) (hms : ∀ j i, (ms.getD j 0).testBit i = true → Before ops i j) (T : Trace call l E H [] E' H' Es Hs Rs Wn Vs Fp)
    (i j : Nat) (x y : IOp) (hij : i < j) (hx : l[i]? = some x) (hy : l[j]? = some y) (qx : x.q.isSome = true) (qy : y.q.isSome = true) : Before ops i j ∨ FPApart (Fp j) (Fp i) := by
  have hjl : j < l.length := (List.getElem?_eq_some_iff.1 hy).1
  obtain ⟨x0, hx0, _, _, _, hqx⟩ := markM_ok (ms := ms) (L := l0) l0 0 (fun n => by simp) i x (by rw [← hx, hl]; rfl)
  obtain ⟨y0, hy0, _, _, _, hqy⟩ := markM_ok (ms := ms) (L := l0) l0 0 (fun n => by simp) j y (by rw [← hy, hl]; rfl)
  rw [Nat.zero_add] at hx0 hy0 hqx hqy
  have px : pureIO x0.op = false := by
    cases h : pureIO x0.op
    · rfl
    · rw [h] at hqx; rw [hqx] at qx; cases qx
  have py : pureIO y0.op = false := by
    cases h : pureIO y0.op
    · rfl
    · rw [h] at hqy; rw [hqy] at qy; cases qy
  rw [py] at hqy
  cases hb : (ms.getD j 0).testBit i
  case true => exact .inl (hms _ _ hb)
  right
  obtain ⟨n, hn⟩ := List.getElem?_of_mem (seenAt_mem hx0 px j hij)
  have hp := partnersM_ok hb (seenAt l0 j) 0 n hn
  rw [Nat.zero_add] at hp
  have hr := recs_at hl T j (by omega)
  generalize hWj : Wn j = wj at *
  generalize hVj : Vs j = vj at *
  have st := (T.step j y hy).1
  have key : ∀ {b : Bool} {v : AVal} {fp : FP} {H1 : AHeap}, Step1 call y (Es j) (Hs j) (Rs j) b v fp H1 → FPApart fp (Fp i) := by
    intro b v fp H1 st
    cases st with
    | skip hw hq =>
      rw [hq qy]
      exact ⟨fun _ h => (by cases h), fun _ _ => ⟨[], rfl, by simp⟩, fun _ h => (by cases h), fun _ h => (by cases h)⟩
    | plain hw hq _ => rw [hq] at qy; cases qy
    | marked hw hq he ha =>
      rename_i q H2
      rw [hq] at hqy
      simp at hqy
      subst hqy
      obtain ⟨b, hb1, hb2⟩ := apartAll_ok ha n hp
      rw [hr, List.getElem?_map, hn] at hb1
      cases hb1
      exact hb2
  exact key st
theorem regionQ_sound (hc : CallOk P call) (hr : RegOk P nt ops l) {ms : List Nat} {l0 : List IOp} (hl : l = markM ms 0 [] l0) (hms : ∀ j i, (ms.getD j 0).testBit i = true → Before ops i j) (hmix : P.follows .mixedOrders = true)
    {ρ : Ho} {C : Nat → Option AObj} {w : World} {a : Act} {id : Nat} {K : Act → World → Prop} {Q : Exit → Act → World → Prop} (h : evOpsQ call l E H [] = .ok E' H') (hA : AR P ρ nt E a) (hR : R ρ C w) (hK : Known ρ C H) (hF : Free ρ H.next H'.next) (hm : H.mrk ≤ H.next) (hwf : WF H)
    (hthen : Then P nt E' H H' C ρ w K) (hQ : ∀ a w, K a w → Q .normal a w) : (Code.region id ops true).wp P Q a w := by
  obtain ⟨Es, Hs, Rs, Wn, Vs, Fp, T⟩ := trace_ok l E H [] E' H' h
  have hnn : H.next ≤ H'.next := by
    have := (T.tame hc hr hm hwf (i := 0) l.length (Nat.zero_le _) (Nat.le_refl _)).next
    rw [T.h0, T.hN] at this; exact this
  refine wp_region_any hmix (any_ok hc hr T (pairs_ok hl hms T) hm hwf (ρ0 := ρ) (C0 := C) (w0 := { w with drawn := w.drawn + 1 }) hK hF (fun S a' w' ρ' hall hI => ?_) ops.size _ a _ ρ (by simp [hr.len]) ?_ ⟨?_, ?_, ?_, fun f g h e => .inl ⟨g, h, e⟩⟩ ?_)
  · obtain ⟨k1, k2⟩ := hI.fin hc hr T hm hwf hK hF hall
    have he := hI.ext
    exact hQ _ _ (hthen a' w' ρ' k1 ⟨he.le, he.dom, he.blk, he.frame, he.size, he.nn, he.os, he.tape, he.output⟩ k2 (upd_known hK he.dom))
  · intro j o e ho he hb hj
    exact absurd hj (by unfold listedS; by_cases hjs : j < ops.size <;> simp [Array.getD_eq_getD_getElem?, Array.getElem?_replicate, hjs])
  · refine AR.congr hA fun t => ?_
    rw [rE_high (j := 0) t l.length (Nat.zero_le _) fun k _ _ hk => ?_]
    · rfl
    · exact absurd hk (by unfold listedS; by_cases hjs : k < ops.size <;> simp [Array.getD_eq_getD_getElem?, Array.getElem?_replicate, hjs])
  · have e : rC C Hs (listedS (Array.replicate ops.size false)) l.length = C := funext fun f => by
      rw [rC_high (j := 0) f l.length (Nat.zero_le _) fun k _ _ hk => ?_]
      · rfl
      · exact absurd hk (by unfold listedS; by_cases hjs : k < ops.size <;> simp [Array.getD_eq_getD_getElem?, Array.getElem?_replicate, hjs])
    rw [e]
    exact ⟨fun f o ho g x hx => (hR.obj f o ho g x hx).keep (Ho.le_refl _) rfl, hR.disj, hR.inb, hR.uniq⟩
  · exact (Ext.refl _ H.next ρ _).wide (Nat.le_refl _) hnn
  · unfold unl
    refine Nat.le_trans (List.length_filter_le _ _) ?_
    simp [hr.len]
end
end Go.Ev
namespace Go.Ev
def guardOf (ops : Array Oper) : Option (Nat × Bool) → Option (Option (Key × Bool))
  | none => some none
  | some (j, want) => match (ops[j]?).bind (·.dst) with | some d => if d < 216 then some (some (pk d, want)) else none | none => none
def dstOk (nt : Nat) : Option Nat → Bool
  | some d => decide (d < nt) && decide (d < 216)
  | none => true
def insOf (P : Program) (o : Op) : Ins := match ioOf P o with | some io => io | none => bad
def iopOf (P : Program) (nt : Nat) (ops : Array Oper) (o : Oper) : Option IOp :=
  match guardOf ops o.guard with
  | none => none
  | some g => if dstOk nt o.dst = true then some { dst := o.dst.map pk, g := g, q := none, op := insOf P o.op } else none
def iopsOf (P : Program) (nt : Nat) (ops : Array Oper) : List Oper → Option (List IOp)
  | [] => some []
  | o :: r => match iopOf P nt ops o, iopsOf P nt ops r with
    | some a, some l => some (a :: l)
    | _, _ => none
def badIC : IC := .region false [{ dst := none, g := none, q := none, op := bad }]
def regionOf (P : Program) (nt : Nat) (ops : Array Oper) (draw : Bool) : IC :=
  match iopsOf P nt ops ops.toList with
  | none => badIC
  | some l =>
    if draw then
      let ms := masksFrom ops.toList []
      if backFrom 0 ops.toList && tmpsOk ms l then .region true (markM ms 0 [] l) else badIC
    else .region false l
def icOf (P : Program) (nt : Nat) : Code → IC
  | .skip => .skip
  | .region _ ops draw => regionOf P nt ops draw
  | .seq a b => .seq (icOf P nt a) (icOf P nt b)
  | .cond c a b => match opdOf P c with
    | some y => .cond y (icOf P nt a) (icOf P nt b)
    | none => badIC
  | .block id b => .block id (icOf P nt b)
  | .loop b => .loop (icOf P nt b)
  | .exit id => .exit id
  | .ret => .ret
  | _ => badIC
def resOf (P : Program) : List ResultVar → Option (List IRes)
  | [] => some []
  | .tmp t :: r => match resOf P r with | some l => if t < 216 then some (.tmp (pk t) :: l) else none | none => none
  | .cell a t :: r => match resOf P r, sizeT P t with | some l, some n => if a < 216 then some (.cell (pk a) n (isAggT P t) :: l) else none | _, _ => none
def fnOf (P : Program) (fn : Func) : Option IFn :=
  match fn.body, resOf P fn.results.toList with
  | some c, some rs => if fn.params.size + fn.nfree ≤ fn.ntmps ∧ fn.params.size + fn.nfree ≤ 216 ∧ (fn.name == "runtime.NumGoroutine") = false then some { nt := fn.ntmps, ps := (List.range (fn.params.size + fn.nfree)).map pk, res := rs, body := icOf P fn.ntmps c } else none
  | _, _ => none
section
variable {P : Program} {nt : Nat} {ops : Array Oper}
theorem iopOf_ok {o : Oper} {io : IOp} (h : iopOf P nt ops o = some io) : OpOf P nt ops o io := by
  unfold iopOf at h
  cases hg : guardOf ops o.guard with
  | none => rw [hg] at h; cases h
  | some g =>
    rw [hg] at h
    dsimp only at h
    split at h
    · rename_i hd
      cases h
      refine ⟨?_, fun d e => ?_, ?_, ?_⟩
      · show o.dst = (o.dst.map pk).map Key.n
        cases ho : o.dst with
        | none => rfl
        | some d =>
          rw [ho] at hd
          simp only [dstOk, Bool.and_eq_true, decide_eq_true_eq] at hd
          simp only [Option.map_some, pk_n hd.2]
      · have e : o.dst.map pk = some d := e
        cases ho : o.dst with
        | none => rw [ho] at e; cases e
        | some x =>
          rw [ho] at hd e
          simp only [dstOk, Bool.and_eq_true, decide_eq_true_eq] at hd
          cases e
          rw [pk_n hd.2]
          exact hd.1
      · cases h0 : o.guard with
        | none => rw [h0] at hg; cases hg; exact .inl ⟨rfl, rfl⟩
        | some jw =>
          obtain ⟨j, want⟩ := jw
          rw [h0] at hg
          unfold guardOf at hg
          split at hg
          · rename_i h1; cases h1
          · rename_i j' want' h1
            cases h1
            split at hg
            · rename_i d hd
              split at hg
              · rename_i hd2
                cases hg
                exact .inr ⟨j, want, pk d, rfl, by rw [pk_n hd2]; exact hd, rfl⟩
              · cases hg
            · cases hg
      · show ioOf P o.op = some (insOf P o.op) ∨ insOf P o.op = bad
        unfold insOf
        split
        · rename_i io h; exact .inl h
        · exact .inr rfl
    · cases h
theorem iopsOf_ok : ∀ {os : List Oper} {l : List IOp}, iopsOf P nt ops os = some l → l.length = os.length ∧ ∀ (i : Nat) (o : Oper) (io : IOp), os[i]? = some o → l[i]? = some io → OpOf P nt ops o io
  | [], l, h => by cases h; exact ⟨rfl, fun i o io h => by simp at h⟩
  | o :: r, l, h => by
    unfold iopsOf at h
    split at h
    · rename_i a l' h1 h2
      cases h
      obtain ⟨e, k⟩ := iopsOf_ok h2
      refine ⟨by simp [e], fun i x io hx hio => ?_⟩
      cases i with
      | zero => simp at hx hio; subst hx; subst hio; exact iopOf_ok h1
      | succ i => exact k i x io (by simpa using hx) (by simpa using hio)
    · cases h
def exOf : Ex → Exit
  | .normal => .normal
  | .exit id => .exit id
  | .ret => .ret
theorem onNormal_ok {r : Out} {k : Env → AHeap → Out} {x : Ex} {E' : Env} {H' : AHeap} (h : onNormal r k = .ok x E' H') :
    ∃ y E1 H1, r = .ok y E1 H1 ∧ ((y = .normal ∧ k E1 H1 = .ok x E' H') ∨ (y ≠ .normal ∧ y = x ∧ E1 = E' ∧ H1 = H')) := by
  cases r with
  | err n => cases h
  | ok y E1 H1 =>
    refine ⟨y, E1, H1, rfl, ?_⟩
    cases y with
    | normal => exact .inl ⟨rfl, h⟩
    | exit id => cases h; exact .inr ⟨by simp, rfl, rfl, rfl⟩
    | ret => cases h; exact .inr ⟨by simp, rfl, rfl, rfl⟩
theorem ofO_ok {r : ORes} {x : Ex} {E' : Env} {H' : AHeap} (h : ofO r = .ok x E' H') : x = .normal ∧ r = .ok E' H' := by
  cases r with
  | err n => cases h
  | ok E H => cases h; exact ⟨rfl, rfl⟩
theorem Step1.tame {call : CallF} (hc : CallOk P call) {o : IOp} {E : Env} {H : AHeap} {recs : List FP} {b : Bool} {v : AVal} {fp : FP} {H1 : AHeap} (hm : H.mrk ≤ H.next) (h : Step1 call o E H recs b v fp H1) : Tame H H1 := by
  cases h with
  | skip => exact Tame.refl _
  | plain _ _ he => exact TM.ins hm (fun f a => hc.tame f a H hm) E o.op v _ he
  | marked _ _ he _ => exact (TM.ins (H := H.mark) (Nat.le_refl _) (fun f a => hc.tame f a _ (Nat.le_refl _)) E o.op v _ he).unmark hm
theorem evOpsQ_tame {call : CallF} (hc : CallOk P call) : ∀ (l : List IOp) (E : Env) (H : AHeap) (recs : List FP) (E' : Env) (H' : AHeap), H.mrk ≤ H.next → evOpsQ call l E H recs = .ok E' H' → Tame H H'
  | [], E, H, recs, E', H', _, h => by cases h; exact Tame.refl _
  | o :: r, E, H, recs, E', H', hm, h => by
    obtain ⟨b, v, fp, H1, h1, h2⟩ := stepQ_ok (show o.stepQ call E H recs (evOpsQ call r) = .ok E' H' from h)
    have t1 := h1.tame hc hm
    exact t1.trans (evOpsQ_tame hc r _ _ _ _ _ (by rw [t1.mrk]; exact Nat.le_trans hm t1.next) h2)
def TF (f : Env → AHeap → Out) : Prop := ∀ E H x E' H', H.mrk ≤ H.next → f E H = .ok x E' H' → Tame H H'
theorem TF.seq {f g : Env → AHeap → Out} (hf : TF f) (hg : TF g) : TF fun E H => onNormal (f E H) g := by
  intro E H x E' H' hm h
  obtain ⟨y, E1, H1, h1, h2⟩ := onNormal_ok h
  have t1 := hf _ _ _ _ _ hm h1
  rcases h2 with ⟨_, h2⟩ | ⟨_, _, _, e⟩
  · exact t1.trans (hg _ _ _ _ _ (by rw [t1.mrk]; exact Nat.le_trans hm t1.next) h2)
  · exact e ▸ t1
theorem TF.loop {f : Env → AHeap → Out} (hf : TF f) : ∀ n, TF (loopN f n)
  | 0 => fun _ _ _ _ _ _ h => by cases h
  | n + 1 => TF.seq hf (TF.loop hf n)
theorem cCond_ok {c : Opd} {i j : IC} {f g : Env → AHeap → Out} {E E' : Env} {H H' : AHeap} {x : Ex} (h : cCond c i j f g E H = .ok x E' H') : ∃ t, c.ev E = some (.bool t) ∧ (if t then f E H else g E H) = .ok x E' H' := by
  unfold cCond at h
  cases hc : c.ev E with
  | none => rw [hc] at h; cases h
  | some v =>
    rw [hc] at h
    cases v <;> try (cases h; done)
    rename_i t
    refine ⟨t, rfl, ?_⟩
    cases t <;> exact h
theorem cBlock_ok {id : Nat} {i : IC} {f : Env → AHeap → Out} {E E' : Env} {H H' : AHeap} {x : Ex} (h : cBlock id i f E H = .ok x E' H') :
    ∃ y, f E H = .ok y E' H' ∧ ((y = .normal ∧ x = .normal) ∨ (y = .exit id ∧ x = .normal) ∨ (∃ id', id' ≠ id ∧ y = .exit id' ∧ x = .exit id') ∨ (y = .ret ∧ x = .ret)) := by
  unfold cBlock at h
  cases hf : f E H with
  | err n => rw [hf] at h; cases h
  | ok y E1 H1 =>
    rw [hf] at h
    cases y with
    | normal => cases h; exact ⟨_, rfl, .inl ⟨rfl, rfl⟩⟩
    | ret => cases h; exact ⟨_, rfl, .inr (.inr (.inr ⟨rfl, rfl⟩))⟩
    | exit id' =>
      have h : chk (Nat.beq id' id) (Out.ok .normal E1 H1) (.ok (.exit id') E1 H1) = .ok x E' H' := h
      by_cases he : id' = id
      · subst he
        rw [show Nat.beq id' id' = true from Nat.beq_refl id'] at h
        cases h; exact ⟨_, rfl, .inr (.inl ⟨rfl, rfl⟩)⟩
      · have e : Nat.beq id' id = false := by
          cases hb : Nat.beq id' id
          · rfl
          · exact absurd (Nat.eq_of_beq_eq_true hb) he
        rw [e] at h
        cases h; exact ⟨_, rfl, .inr (.inr (.inl ⟨id', he, rfl, rfl⟩))⟩
theorem ic_tame {call : CallF} {lf : Nat} (hc : CallOk P call) : ∀ c : IC, TF (c.ev call lf)
  | .skip => fun _ _ _ _ _ _ h => by cases h; exact Tame.refl _
  | .region d ops => fun E H x E' H' hm h => by
    cases d with
    | false => exact evOps_tame hc ops E H E' H' hm (ofO_ok h).2
    | true => exact evOpsQ_tame hc ops E H [] E' H' hm (ofO_ok h).2
  | .seq a b => TF.seq (ic_tame hc a) (ic_tame hc b)
  | .cond c a b => fun E H x E' H' hm h => by
    obtain ⟨t, _, h⟩ := cCond_ok (i := a) (j := b) (f := a.ev call lf) (g := b.ev call lf) h
    cases t
    · exact ic_tame hc b _ _ _ _ _ hm h
    · exact ic_tame hc a _ _ _ _ _ hm h
  | .block id b => fun E H x E' H' hm h => by
    obtain ⟨y, h, _⟩ := cBlock_ok (i := b) (f := b.ev call lf) h
    exact ic_tame hc b _ _ _ _ _ hm h
  | .loop b => TF.loop (ic_tame hc b) lf
  | .exit id => fun _ _ _ _ _ _ h => by cases h; exact Tame.refl _
  | .ret => fun _ _ _ _ _ _ h => by cases h; exact Tame.refl _
variable {ρ : Ho} {E E' : Env} {H H' H1 : AHeap} {C : Nat → Option AObj} {w : World} {a : Act} {call : CallF} {lf : Nat}
theorem Then.step (hK : Known ρ C H) (t1 : Tame H H1) (t2 : Tame H1 H') {K : Act → World → Prop} (hthen : Then P nt E' H H' C ρ w K) {ρ1 : Ho} {w1 : World} (hext : Ext (Wr H1) H.next H1.next ρ ρ1 w w1) : Then P nt E' H1 H' (upd C H H1) ρ1 w1 K :=
  fun a2 w2 ρ2 hA2 he2 hR2 _ => by
    have h2 := (hext.mono (Wr_mono t2)).trans he2
    exact hthen a2 w2 ρ2 hA2 h2 (hR2.weaken fun f o h hf => upd_trans hK t1.next t2.next t2.keep h2.dom f o h hf) (upd_known hK h2.dom)
theorem Then.refl {K : Act → World → Prop} (hA : AR P ρ nt E a) (hR : R ρ C w) (hK : Known ρ C H) (hthen : Then P nt E H H C ρ w K) : K a w := by
  refine hthen a w ρ hA (Ext.refl _ _ _ _) ?_ ?_
  · rw [upd_same]; exact hR
  · rw [upd_same]; exact hK
theorem badIC_err {x : Ex} (h : badIC.ev call lf E H = .ok x E' H') : False := by cases h
def CodeOk (P : Program) (nt : Nat) (c : Code) (f : Env → AHeap → Out) : Prop :=
  ∀ E H x E' H' ρ C a w Q, f E H = .ok x E' H' → AR P ρ nt E a → R ρ C w → Known ρ C H → Free ρ H.next H'.next → H.mrk ≤ H.next → WF H → Then P nt E' H H' C ρ w (Q (exOf x)) → c.wp P Q a w
theorem CodeOk.rounds {c : Code} {f : Env → AHeap → Out} (hf : CodeOk P nt c f) (tf : TF f) : ∀ n E H x E' H' ρ C a w (Q : Exit → Act → World → Prop), loopN f n E H = .ok x E' H' → AR P ρ nt E a → R ρ C w → Known ρ C H → Free ρ H.next H'.next → H.mrk ≤ H.next → WF H →
    Then P nt E' H H' C ρ w (Q (exOf x)) → Code.rounds P c Q n a w
  | 0, _, _, _, _, _, _, _, _, _, _, h, _, _, _, _, _, _, _ => by cases h
  | n + 1, E, H, x, E', H', ρ, C, a, w, Q, h, hA, hR, hK, hF, hm, hwf, ht => by
    rw [rounds_succ]
    obtain ⟨y, E1, H1, h1, h2⟩ := onNormal_ok (k := loopN f n) h
    have t1 := tf _ _ _ _ _ hm h1
    have hm1 : H1.mrk ≤ H1.next := by rw [t1.mrk]; exact Nat.le_trans hm t1.next
    rcases h2 with ⟨rfl, h2⟩ | ⟨hy, rfl, rfl, rfl⟩
    · have t2 := TF.loop tf n _ _ _ _ _ hm1 h2
      refine hf E H _ E1 H1 ρ C a w _ h1 hA hR hK (hF.le t2.next) hm hwf fun a1 w1 ρ1 hA1 he1 hR1 hK1 => ?_
      exact CodeOk.rounds hf tf n E1 H1 x E' H' ρ1 _ a1 w1 Q h2 hA1 hR1 hK1 (hF.sub he1.dom t1.next) hm1 (t1.wf hwf) (ht.step hK t1 t2 he1)
    · refine hf E H _ E1 H1 ρ C a w _ h1 hA hR hK hF hm hwf ?_
      cases y with
      | normal => exact absurd rfl hy
      | exit id => exact ht
      | ret => exact ht
theorem code_sound (hc : CallOk P call) (hmix : P.follows .mixedOrders = true) : ∀ c : Code, CodeOk P nt c ((icOf P nt c).ev call lf)
  | .skip => fun E H x E' H' ρ C a w Q h hA hR hK hF hm hwf ht => by
    cases h
    exact wp_skip (ht.refl hA hR hK)
  | .exit id => fun E H x E' H' ρ C a w Q h hA hR hK hF hm hwf ht => by
    cases h
    exact wp_exit (ht.refl hA hR hK)
  | .ret => fun E H x E' H' ρ C a w Q h hA hR hK hF hm hwf ht => by
    cases h
    exact wp_ret (ht.refl hA hR hK)
  | .seq c d => fun E H x E' H' ρ C a w Q h hA hR hK hF hm hwf ht => by
    have hcc := code_sound hc hmix c
    have hd := code_sound hc hmix d
    obtain ⟨y, E1, H1, h1, h2⟩ := onNormal_ok (k := (icOf P nt d).ev call lf) h
    have t1 := ic_tame hc (icOf P nt c) _ _ _ _ _ hm h1
    have hm1 : H1.mrk ≤ H1.next := by rw [t1.mrk]; exact Nat.le_trans hm t1.next
    refine wp_seq ?_
    rcases h2 with ⟨rfl, h2⟩ | ⟨hy, rfl, rfl, rfl⟩
    · have t2 := ic_tame hc (icOf P nt d) _ _ _ _ _ hm1 h2
      refine hcc E H _ E1 H1 ρ C a w _ h1 hA hR hK (hF.le t2.next) hm hwf fun a1 w1 ρ1 hA1 he1 hR1 hK1 => ?_
      exact hd E1 H1 x E' H' ρ1 _ a1 w1 Q h2 hA1 hR1 hK1 (hF.sub he1.dom t1.next) hm1 (t1.wf hwf) (ht.step hK t1 t2 he1)
    · refine hcc E H _ E1 H1 ρ C a w _ h1 hA hR hK hF hm hwf ?_
      cases y with
      | normal => exact absurd rfl hy
      | exit id => exact ht
      | ret => exact ht
  | .cond c d e => fun E H x E' H' ρ C a w Q h hA hR hK hF hm hwf ht => by
    unfold icOf at h
    split at h
    · rename_i y hy
      obtain ⟨t, h1, h2⟩ := cCond_ok (i := icOf P nt d) (j := icOf P nt e) (f := (icOf P nt d).ev call lf) (g := (icOf P nt e).ev call lf) h
      have k := hA.opd hy h1
      simp only [VR] at k
      refine wp_cond (t := t) k ?_
      cases t
      · exact code_sound hc hmix e E H x E' H' ρ C a w Q h2 hA hR hK hF hm hwf ht
      · exact code_sound hc hmix d E H x E' H' ρ C a w Q h2 hA hR hK hF hm hwf ht
    · exact (badIC_err h).elim
  | .block id c => fun E H x E' H' ρ C a w Q h hA hR hK hF hm hwf ht => by
    obtain ⟨y, h1, h2⟩ := cBlock_ok (i := icOf P nt c) (f := (icOf P nt c).ev call lf) h
    refine wp_block (code_sound hc hmix c E H y E' H' ρ C a w _ h1 hA hR hK hF hm hwf ?_)
    rcases h2 with ⟨rfl, rfl⟩ | ⟨rfl, rfl⟩ | ⟨id', hne, rfl, rfl⟩ | ⟨rfl, rfl⟩
    · exact ht
    · intro a1 w1 ρ1 b1 b2 b3 b4
      show Exit.inBlock id Q (.exit id) a1 w1
      simp only [Exit.inBlock, if_true]
      exact ht a1 w1 ρ1 b1 b2 b3 b4
    · intro a1 w1 ρ1 b1 b2 b3 b4
      show Exit.inBlock id Q (.exit id') a1 w1
      simp only [Exit.inBlock, if_neg hne]
      exact ht a1 w1 ρ1 b1 b2 b3 b4
    · exact ht
  | .loop c => fun E H x E' H' ρ C a w Q h hA hR hK hF hm hwf ht =>
    wp_loop_rounds lf (CodeOk.rounds (code_sound hc hmix c) (ic_tame hc _) lf E H x E' H' ρ C a w Q h hA hR hK hF hm hwf ht)
  | .region id ops draw => fun E H x E' H' ρ C a w Q h hA hR hK hF hm hwf ht => by
    unfold icOf regionOf at h
    split at h
    · exact (badIC_err h).elim
    · rename_i l hl
      obtain ⟨hlen, hop⟩ := iopsOf_ok hl
      cases draw with
      | false =>
        simp only [Bool.false_eq_true, if_false] at h
        obtain ⟨rfl, hz⟩ := ofO_ok (r := evOps call l E H) h
        refine wp_region ?_
        rw [show ops.size = l.length by rw [hlen]; simp, List.range_eq_range']
        exact evOps_sound hc (K := Q .normal) l ops.toList 0 hlen.symm hop (fun i o h => by simpa using h) E H E' H' ρ C a w hz hA hR hK hF hm hwf ht (fun _ _ h => h)
      | true =>
        simp only [if_true] at h
        split at h
        · rename_i hch
          simp only [Bool.and_eq_true] at hch
          obtain ⟨rfl, hz⟩ := ofO_ok (r := evOpsQ call (markM (masksFrom ops.toList []) 0 [] l) E H []) h
          have hms := masksFrom_ok (ops := ops) ops.toList [] (fun n => by simp) (fun j i h => by simp at h)
          have get : ∀ {i : Nat} {io : IOp}, (markM (masksFrom ops.toList []) 0 [] l)[i]? = some io → ∃ io0, l[i]? = some io0 ∧ io.dst = io0.dst ∧ io.g = io0.g ∧ io.op = io0.op ∧ (io.q = none → pureIO io.op = true) := by
            intro i io hio
            obtain ⟨io0, h0, h1, h2, h3, h4⟩ := markM_ok (ms := masksFrom ops.toList []) (L := l) l 0 (fun n => by simp) i io hio
            rw [Nat.zero_add] at h0
            refine ⟨io0, h0, h1, h2, h3, fun hq => ?_⟩
            rw [hq] at h4
            rw [h3]
            cases hp : pureIO io0.op
            · rw [hp] at h4; simp at h4
            · rfl
          refine regionQ_sound hc ⟨?_, ?_, ?_, ?_, ?_⟩ rfl hms hmix hz hA hR hK hF hm hwf ht (fun _ _ h => h)
          · rw [markM_length, hlen]; simp
          · intro i o io ho hio
            obtain ⟨io0, h0, h1, h2, h3, _⟩ := get hio
            have k := hop i o io0 (by simpa using ho) h0
            exact ⟨by rw [h1]; exact k.dst, fun d hd => k.lt d (by rw [← h1]; exact hd), by rw [h2]; exact k.g, by rw [h3]; exact k.op⟩
          · intro j o e ho he hb
            have := backFrom_ok ops.toList 0 hch.1 j o e (by simpa using ho) he hb
            omega
          · intro i j x y hij hx hy
            obtain ⟨x0, hx0, a1, a2, a3, _⟩ := get hx
            obtain ⟨y0, hy0, b1, b2, b3, _⟩ := get hy
            rcases tmpsOk_ok hch.2 hij hx0 hy0 with k | k
            · exact .inl (hms _ _ k)
            · refine .inr ⟨fun t ht => ?_, fun t ht => ?_, fun t ht => ?_⟩
              · rw [a1]; exact k.xy t (by unfold looksI at ht ⊢; rw [← b2, ← b3]; exact ht)
              · rw [a1]; exact k.dd t (by rw [← b1]; exact ht)
              · rw [b1]; exact k.yx t (by unfold looksI at ht ⊢; rw [← a2, ← a3]; exact ht)
          · intro i x hx hq
            obtain ⟨_, _, _, _, _, k⟩ := get hx
            exact k hq
        · exact (badIC_err h).elim
  | .rangeFunc .. => fun E H x E' H' ρ C a w Q h _ _ _ _ _ _ _ => (badIC_err h).elim
  | .scope _ => fun E H x E' H' ρ C a w Q h _ _ _ _ _ _ _ => (badIC_err h).elim
  | .label _ => fun E H x E' H' ρ C a w Q h _ _ _ _ _ _ _ => (badIC_err h).elim
  | .goto _ => fun E H x E' H' ρ C a w Q h _ _ _ _ _ _ _ => (badIC_err h).elim
  | .refuse _ => fun E H x E' H' ρ C a w Q h _ _ _ _ _ _ _ => (badIC_err h).elim
end
end Go.Ev
namespace Go.Ev
structure Kept (w w' : World) : Prop where
  os : w'.os = w.os
  tape : w'.tape = w.tape
  output : w'.output = w.output
  size : w.heap.size ≤ w'.heap.size
  old : ∀ b, b < w.heap.size → w'.heap[b]? = w.heap[b]?
section
variable {ρ : Ho} {C : Nat → Option AObj} {w w' : World}
theorem R.kept (hR : R ρ C w) (hk : Kept w w') : R ρ C w' :=
  ⟨fun f o ho g h hx => (hR.obj f o ho g h hx).keep (Ho.le_refl _) (hk.old _ (hR.inb f g h hx)), hR.disj, fun f g h hx => Nat.lt_of_lt_of_le (hR.inb f g h hx) hk.size, hR.uniq⟩
theorem Kept.ext (hk : Kept w w') (W : Nat → Prop) (n : Nat) (ρ : Ho) : Ext W n n ρ ρ w w' :=
  ⟨Ho.le_refl _, fun _ g h e => .inl ⟨g, h, e⟩, fun _ _ _ e => .inl e, fun b hb _ => hk.old b hb, hk.size, Nat.le_refl _, hk.os, hk.tape, hk.output⟩
end
section
variable {P : Program} {nt : Nat} {ρ : Ho} {E E' : Env} {H H' H1 : AHeap} {C : Nat → Option AObj} {w : World} {a : Act} {call : CallF} {lf : Nat}
theorem params_ok : ∀ (ks : List Key) (l : List AVal) (E : Env) (c : Env → Res) (v : AVal) (H' : AHeap), params ks l E c = .ok v H' →
    ks.length = l.length ∧ ∃ E', c E' = .ok v H' ∧ ∀ t x, E'.get t = some x → E.get t = some x ∨ ∃ i : Nat, ks[i]? = some t ∧ l[i]? = some x
  | [], [], E, c, v, H', h => ⟨rfl, E, h, fun t x hx => .inl hx⟩
  | [], _ :: _, E, c, v, H', h => by cases h
  | _ :: _, [], E, c, v, H', h => by cases h
  | k :: ks, y :: l, E, c, v, H', h => by
    have h : E.setC k y (fun E => params ks l E c) = .ok v H' := h
    rw [Env.setC_eq] at h
    obtain ⟨h1, E', h2, h3⟩ := params_ok ks l _ _ _ _ h
    refine ⟨by simp [h1], E', h2, fun t x hx => ?_⟩
    rcases h3 t x hx with h4 | ⟨i, h4, h5⟩
    · rw [Env.get_set] at h4
      split at h4
      · rename_i e
        subst e
        cases h4
        exact .inr ⟨0, rfl, rfl⟩
      · exact .inl h4
    · exact .inr ⟨i + 1, by simpa using h4, by simpa using h5⟩
theorem AR.init {args : List AVal} {cargs : Array Value} (hv : VRs ρ args cargs.toList) (hn : args.length ≤ nt) (hg : Globs P ρ) {E' : Env} {n : Nat} (hn2 : n ≤ 216)
    (hE : ∀ t x, E'.get t = some x → Env.emp.get t = some x ∨ ∃ i : Nat, ((List.range n).map pk)[i]? = some t ∧ args[i]? = some x) :
    AR P ρ nt E' { tmps := cargs ++ Array.replicate (nt - cargs.size) undef, defers := [] } := by
  have hl : cargs.size = args.length := by have := hv.length; simpa using this
  refine ⟨by simp; omega, rfl, fun t v h => ?_, hg⟩
  rcases hE t v h with h | ⟨i, h1, h2⟩
  · rw [Env.get_emp] at h; cases h
  · obtain ⟨y, hy, hvy⟩ := hv.get _ v h2
    refine ⟨y, ?_, hvy⟩
    have hi : i < n := by
      have := (List.getElem?_eq_some_iff.1 h1).1
      simpa using this
    have ht : pk i = t := by simpa [hi] using h1
    have hk : t.n = i := by rw [← ht]; exact pk_n (by omega)
    have : i < cargs.size := by
      have := (List.getElem?_eq_some_iff.1 h2).1
      omega
    rw [hk, Array.getElem?_append_left this]
    simpa using hy
def resM (tmps : Array Value) : ResultVar → Sem Value
  | .tmp t => pure (tmps.getD t undef)
  | .cell a t => do loadVar t (← asAddr (tmps.getD a undef))
theorem results_eq (fn : Func) (tmps : Array Value) : Go.results fn tmps = (do
    let vs ← fn.results.mapM (resM tmps)
    pure (if h : vs.size = 1 then vs[0] else .tuple vs)) := by
  unfold Go.results
  congr 2
theorem getD_of {tmps : Array Value} {t : Nat} {cv : Value} (h : tmps[t]? = some cv) : tmps.getD t undef = cv := by
  simp [Array.getD_eq_getD_getElem?, h]
theorem resA_ok (hA : AR P ρ nt E a) (hR : R ρ C w) (hK : Known ρ C H) {r : ResultVar} {rs : List IRes} {ir : IRes} (hr : resOf P (r :: []) = some [ir]) {k : AVal → Res} {e : Nat} {v : AVal} (h : resA E H ir (.err e) k = .ok v H') :
    ∃ x cx, (resM a.tmps r).run P w = .ok cx w ∧ VR ρ x cx ∧ k x = .ok v H' := by
  cases r with
  | tmp t =>
    simp only [resOf] at hr
    split at hr
    case isFalse => cases hr
    rename_i ht
    simp only [Option.some.injEq, List.cons.injEq, and_true] at hr
    subst hr
    replace h := ob_ok (o := E.get (pk t)) h
    obtain ⟨x, hx, h⟩ := h
    obtain ⟨cv, h1, h2⟩ := hA.tmp (pk t) x hx
    rw [pk_n ht] at h1
    exact ⟨x, cv, by simp [resM, getD_of h1], h2, h⟩
  | cell s t =>
    simp only [resOf] at hr
    split at hr
    · rename_i l n hl hn
      cases hl
      split at hr
      case isFalse => cases hr
      rename_i hs216
      simp only [Option.some.injEq, List.cons.injEq, and_true] at hr
      subst hr
      replace h := ob_ok (o := E.get (pk s)) h
      obtain ⟨x, hx, h⟩ := h
      replace h := onPtr_ok h; obtain ⟨f, g, off, rfl, h⟩ := h
      obtain ⟨l, hl, h⟩ := rd_ok h (by simp)
      obtain ⟨cv, h1, h2⟩ := hA.tmp (pk s) _ hx
      rw [pk_n hs216] at h1
      simp only [VR] at h2
      obtain ⟨hm, hh, rfl⟩ := h2
      obtain ⟨_, _, _, _, _, hn0⟩ := sizeT_ok hn
      have hCf : C f = H.t.get f := by
        obtain ⟨_, _, _, _, _, _, _, _, hg, _⟩ := hl
        exact (hK f _ ⟨_, _, hh⟩ hg).trans hg.symm
      obtain ⟨hlen, hk, hc⟩ := hR.rd hl hCf hh (by omega)
      have key : ∀ x, outA (isAggT P t) l (.err 0) (fun v => .ok v H) = .ok x H → k x = .ok v H' → ∃ x cx, (resM a.tmps (.cell s t)).run P w = .ok cx w ∧ VR ρ x cx ∧ k x = .ok v H' := by
        intro x hx hk'
        obtain ⟨_, cv, hrun, hcv⟩ := run_loadVar (P := P) (ρ := ρ) (w := w) (ad := ⟨hm.blk, hm.off + off, none⟩) hn hlen hk (fun j x hx => by rw [Addr.add_lit]; exact hc j x hx) hx
        exact ⟨x, cv, by simp [resM, getD_of h1, asAddr, hrun], hcv, hk'⟩
      rcases outA_ok h with ⟨hagg, h⟩ | ⟨x, hagg, hl1, h⟩
      · exact key _ (by rw [hagg]; rfl) h
      · exact key x (by rw [hagg, hl1]; rfl) h
    · cases hr
theorem resAs_ok (hA : AR P ρ nt E a) (hR : R ρ C w) (hK : Known ρ C H) {e : Nat} {v : AVal} : ∀ {l : List ResultVar} {rs : List IRes} (hr : resOf P l = some rs) {k : List AVal → Res}, resAs E H rs (.err e) k = .ok v H' →
    ∃ vs cvs, (l.mapM (resM a.tmps)).run P w = .ok cvs w ∧ VRs ρ vs cvs ∧ k vs = .ok v H'
  | [], rs, hr, k, h => by
    cases hr
    exact ⟨[], [], by simp, by simp only [VRs], h⟩
  | r :: l, rs, hr, k, h => by
    have hsplit : ∃ ir rs', rs = ir :: rs' ∧ resOf P [r] = some [ir] ∧ resOf P l = some rs' := by
      cases r with
      | tmp t =>
        unfold resOf at hr
        split at hr
        · rename_i l' hl
          split at hr
          · rename_i ht; cases hr; exact ⟨_, l', rfl, by simp [resOf, ht], hl⟩
          · cases hr
        · cases hr
      | cell s t =>
        unfold resOf at hr
        split at hr
        · rename_i l' n hl hn
          split at hr
          · rename_i ht; cases hr; exact ⟨_, l', rfl, by simp [resOf, hn, ht], hl⟩
          · cases hr
        · cases hr
    obtain ⟨ir, rs', rfl, h1, h2⟩ := hsplit
    have h : resA E H ir (.err e) (fun v => resAs E H rs' (.err e) fun vs => k (v :: vs)) = .ok v H' := h
    obtain ⟨x, cx, hx, hvx, h⟩ := resA_ok hA hR hK (rs := []) h1 h
    obtain ⟨vs, cvs, hm, hvs, h⟩ := resAs_ok hA hR hK h2 h
    exact ⟨x :: vs, cx :: cvs, by simp [hx, hm], ⟨cx, cvs, rfl, hvx, hvs⟩, h⟩
theorem resultsA_ok (hA : AR P ρ nt E a) (hR : R ρ C w) (hK : Known ρ C H) {fn : Func} {rs : List IRes} (hr : resOf P fn.results.toList = some rs) {v : AVal} (h : results E H rs = .ok v H') :
    H' = H ∧ ∃ cv, (Go.results fn a.tmps).run P w = .ok cv w ∧ VR ρ v cv := by
  obtain ⟨vs, cvs, hm, hv, h⟩ := resAs_ok (P := P) (e := 70) hA hR hK hr h
  rw [results_eq]
  cases vs with
  | nil =>
    cases h
    simp only [VRs] at hv
    subst hv
    refine ⟨rfl, .tuple #[], by simp [Array.mapM_eq_mapM_toList, hm], ?_⟩
    simp only [VR]
    exact ⟨#[], rfl, by simp only [VRs]⟩
  | cons x r =>
    cases r with
    | nil =>
      cases h
      simp only [VRs] at hv
      obtain ⟨c, t, rfl, hc, rfl⟩ := hv
      exact ⟨rfl, c, by simp [Array.mapM_eq_mapM_toList, hm], hc⟩
    | cons y s =>
      cases h
      refine ⟨rfl, .tuple cvs.toArray, ?_, ?_⟩
      · have hl := hv.length
        have : ¬ cvs.length = 1 := by simp at hl; omega
        simp [Array.mapM_eq_mapM_toList, hm, this]
      · simp only [VR]
        exact ⟨cvs.toArray, rfl, by simpa using hv⟩
theorem fnOf_ok {g : Func} {fn : IFn} (h : fnOf P g = some fn) : ∃ c, g.body = some c ∧ resOf P g.results.toList = some fn.res ∧ (∃ n, n ≤ g.ntmps ∧ n ≤ 216 ∧ fn.ps = (List.range n).map pk) ∧ fn.nt = g.ntmps ∧ fn.body = icOf P g.ntmps c ∧ (g.name == "runtime.NumGoroutine") = false := by
  unfold fnOf at h
  split at h
  · rename_i c rs hb hr
    split at h
    · rename_i hn
      cases h
      exact ⟨c, hb, hr, ⟨_, hn.1, hn.2.1, rfl⟩, rfl, rfl, hn.2.2⟩
    · cases h
  · cases h
theorem evFn_ok {fn : IFn} {args : List AVal} {v : AVal} (h : evFn call lf fn args H = .ok v H') :
    fn.ps.length = args.length ∧ ∃ E' x E1 H1, (∀ t y, E'.get t = some y → Env.emp.get t = some y ∨ ∃ i : Nat, fn.ps[i]? = some t ∧ args[i]? = some y) ∧ fn.body.ev call lf E' H = .ok x E1 H1 ∧ (x = .normal ∨ x = .ret) ∧ results E1 H1 fn.res = .ok v H' := by
  obtain ⟨h1, E', h2, h3⟩ := params_ok fn.ps args .emp _ _ _ h
  refine ⟨h1, E', ?_⟩
  cases hx : fn.body.ev call lf E' H with
  | err n => rw [hx] at h2; cases h2
  | ok x E1 H1 =>
    rw [hx] at h2
    refine ⟨x, E1, H1, h3, rfl, ?_⟩
    cases x with
    | normal => exact ⟨.inl rfl, h2⟩
    | exit id => cases h2
    | ret => exact ⟨.inr rfl, h2⟩
theorem PS.rd {H : AHeap} {f g off n : Nat} {e : Res} {k : List AVal → Res} (h : ∀ x, PS H (k x)) (h' : PS H e) : PS H (rd H f g off n e k) :=
  PS.onRow (fun _ _ _ _ _ _ _ => PS.chk (PS.chk (PS.chk (PS.chk (PS.ob (fun _ => PS.chk (h _) (h _)) h') h') h') h') h') h'
theorem results_tame {rs : List IRes} {v : AVal} (h : results E H rs = .ok v H') : H' = H := by
  have key : ∀ (rs : List IRes) (k : List AVal → Res), (∀ vs, PS H (k vs)) → PS H (resAs E H rs (.err 70) k) := by
    intro rs
    induction rs with
    | nil => intro k hk; exact hk []
    | cons r rs ih =>
      intro k hk
      show PS H (resA E H r (.err 70) fun v => resAs E H rs (.err 70) fun vs => k (v :: vs))
      have hk2 : ∀ v, PS H (resAs E H rs (.err 70) fun vs => k (v :: vs)) := fun v => ih _ fun vs => hk _
      cases r with
      | tmp t => exact PS.ob (fun x => hk2 x) PS.err
      | cell s n g => exact PS.ob (fun x => PS.onPtr (fun _ _ _ => PS.rd (fun _ => PS.outA (fun x => hk2 x) PS.err) PS.err) PS.err) PS.err
  exact key rs _ (fun vs => by
    cases vs with
    | nil => exact PS.ok
    | cons x r => cases r <;> exact PS.ok) v H' h
def TableOk (P : Program) (ft : Tr IFn) : Prop := ∀ f fn, ft.get f = some fn → ∃ g, P.funcs[f]? = some g ∧ fnOf P g = some fn
theorem evFn_sound (hc : CallOk P call) (hmix : P.follows .mixedOrders = true) {f : Nat} {g : Func} {fn : IFn} (hf : P.funcs[f]? = some g) (hg : fnOf P g = some fn) {args : List AVal} {v : AVal} {cargs : Array Value}
    (h : evFn call lf fn args H = .ok v H') (hm : H.mrk ≤ H.next) (hwf : WF H) (hR : R ρ C w) (hK : Known ρ C H) (hF : Free ρ H.next H'.next) (hG : Globs P ρ) (hv : VRs ρ args cargs.toList) :
    Calls P f cargs w fun e w' => ∃ cv, e = .returned cv ∧ Post ρ C w H v H' cv w' := by
  obtain ⟨c, hb, hr, ⟨np, hnp, hnp2, hps⟩, hnt, hbody, _⟩ := fnOf_ok hg
  obtain ⟨hlen, E', x, E1, H1, hE, h1, hx, h2⟩ := evFn_ok h
  have he := results_tame h2
  subst he
  rw [hps] at hE hlen
  have hA : AR P ρ g.ntmps E' { tmps := cargs ++ Array.replicate (g.ntmps - cargs.size) undef, defers := [] } := AR.init hv (by rw [← hlen]; simpa using hnp) hG hnp2 hE
  rw [hbody] at h1
  refine calls_of_wp hf hb (code_sound hc hmix c _ H x E1 H' ρ C _ w _ h1 hA hR hK hF hm hwf fun a1 w1 ρ1 hA1 he1 hR1 hK1 => ?_)
  obtain ⟨_, cv, hrun, hcv⟩ := resultsA_ok hA1 hR1 hK1 hr h2
  have fin : a1.defers = [] ∧ ∃ v, (Go.results g a1.tmps).run P w1 = .ok v w1 ∧ ∃ cv, Ending.returned v = .returned cv ∧ Post ρ C w H ‹AVal› H' cv w1 := ⟨hA1.defers, cv, hrun, cv, rfl, ρ1, hcv, he1, hR1⟩
  rcases hx with rfl | rfl
  · exact fin
  · exact fin
def extImpl : Nat → Option (Array Value → Sem Value)
  | 0 => some Extern.BytealgIndexByte.indexByte
  | 1 => some Extern.AbiNoEscape.same
  | _ => none
def TrueOk (P : Program) (f : Nat) : Prop := ∀ w : World, (∀ g, g < P.globals.size → g < w.heap.size) →
  ((callFunc f #[]).run P w = .ok (.enter f #[]) w ∧ Calls P f #[] w fun e w' => e = .returned (.bool true) ∧ Kept w w') ∨ ∃ w', (callFunc f #[]).run P w = .ok (.value (.bool true)) w' ∧ Kept w w'
def LibOk (P : Program) (f c : Nat) : Prop := ∃ fn, P.funcs[f]? = some fn ∧ (fn.name == "runtime.NumGoroutine") = false ∧ fn.body.isNone = true ∧ Extern.findNext fn = none ∧ ∃ e, extImpl c = some e ∧ Extern.find fn = some e
def ExtOk (P : Program) (xt : Tr Nat) : Prop := ∀ f c, xt.get f = some c → LibOk P f c ∨ (c = 2 ∧ TrueOk P f)
theorem idxB_ok (c : UInt8) : ∀ (l : List UInt8) (i : Nat), idxB c.toNat l.length (pack l) i = if Lib.indexByte l c = -1 then -1 else Lib.indexByte l c + i
  | [], i => rfl
  | b :: l, i => by
    show chk (Nat.beq (Nat.mod (pack (b :: l)) 256) c.toNat) (Int.ofNat i) (seqNat (Nat.div (pack (b :: l)) 256) fun s => seqNat (Nat.succ i) fun i => idxB c.toNat l.length s i) = _
    have e1 : Nat.mod (pack (b :: l)) 256 = b.toNat := by
      have := pack_take (b :: l) 1
      simp only [Nat.pow_one] at this
      rw [show Nat.mod (pack (b :: l)) 256 = pack (b :: l) % 256 from rfl, this]
      simp [pack]
    have e2 : Nat.div (pack (b :: l)) 256 = pack l := by
      have := pack_drop (b :: l) 1
      simp only [Nat.pow_one] at this
      exact this
    rw [e1, e2, seqNat_eq, seqNat_eq, idxB_ok c l (i + 1)]
    have hge := Lib.indexByte_ge l c
    by_cases hb : b = c
    · subst hb
      rw [show Nat.beq b.toNat b.toNat = true from Nat.beq_refl _, chk_true]
      simp [Lib.indexByte]
    · have : Nat.beq b.toNat c.toNat = false := by
        cases h : Nat.beq b.toNat c.toNat
        · rfl
        · exact absurd (UInt8.toNat_inj.1 (Nat.eq_of_beq_eq_true h)) hb
      rw [this]
      show (if Lib.indexByte l c = -1 then (-1 : Int) else Lib.indexByte l c + ((i + 1 : Nat) : Int)) = _
      have hb2 : (b == c) = false := by simpa using hb
      rw [show Lib.indexByte (b :: l) c = if (b == c) = true then 0 else if (Lib.indexByte l c == -1) = true then -1 else Lib.indexByte l c + 1 from rfl, hb2]
      by_cases h1 : Lib.indexByte l c = -1
      · simp [h1]
      · have h2 : (Lib.indexByte l c == -1) = false := by simpa using h1
        have h3 : ¬ (Lib.indexByte l c + 1 = -1) := by omega
        rw [if_neg h1, h2]
        simp only [Bool.false_eq_true, if_false, if_neg h3]
        omega
theorem ext_ok (hR : R ρ C w) {c : Nat} {e : Array Value → Sem Value} (he : extImpl c = some e) {args : List AVal} {cargs : Array Value} (hv : VRs ρ args cargs.toList) {v : AVal} (h : extF c args H = .ok v H') :
    H' = H ∧ ∃ cv, (e cargs).run P w = .ok cv w ∧ VR ρ v cv := by
  unfold extImpl at he
  split at he
  · cases he
    have h : xIndexByte args H = .ok v H' := h
    cases args with
    | nil => cases h
    | cons x r => cases r with
      | nil => cases h
      | cons y r =>
        have h : onStr x (.err 90) (fun l s => onInt y (.err 90) fun k c => onNat c (.err 90) fun c => chk (Nat.beq (ikN k) 4) (chk (Nat.ble c 255) (chk (Nat.beq (lenL (y :: r)) 1) (seqInt (idxB c l s 0) fun i => Res.ok (.int .i64 i) H) (.err 90)) (.err 90)) (.err 90)) = .ok v H' := h
        replace h := onStr_ok h; obtain ⟨l, s, rfl, h⟩ := h
        replace h := onInt_ok h; obtain ⟨k, c0, rfl, h⟩ := h
        replace h := onNat_ok h; obtain ⟨c, rfl, h⟩ := h
        replace h := chk_ok h; obtain ⟨g1, h⟩ := h
        replace h := chk_ok h; obtain ⟨g2, h⟩ := h
        replace h := chk_ok h; obtain ⟨g3, h⟩ := h
        rw [seqInt_eq] at h
        cases h
        rw [lenL_eq] at g3
        have g3 := Nat.eq_of_beq_eq_true g3
        have hr : r = [] := by simpa using g3
        subst hr
        have g2 := Nat.le_of_ble_eq_true g2
        have g1 := Nat.eq_of_beq_eq_true g1
        simp only [VRs, VR] at hv
        obtain ⟨_, _, e1, ⟨b, rfl, rfl, rfl⟩, _, _, rfl, rfl, rfl⟩ := hv
        have hk : k = .u8 := by cases k <;> simp [ikN] at g1 <;> rfl
        subst hk
        have hc : cargs = #[.string b, .int .u8 (Int.ofNat c)] := by have := congrArg List.toArray e1; simpa using this
        subst hc
        refine ⟨rfl, _, Lib.run_indexByteString (P := P) b (Int.ofNat c) w, ?_⟩
        simp only [VR]
        have hcc : (c.toUInt8).toNat = c := by show (UInt8.ofNat c).toNat = c; rw [UInt8.toNat_ofNat']; omega
        have := idxB_ok c.toUInt8 b.data.toList 0
        rw [hcc] at this
        have hl : b.data.toList.length = b.size := Array.length_toList
        rw [hl] at this
        rw [this]
        congr 1
        have e : (Int.ofNat c).toNat.toUInt8 = c.toUInt8 := rfl
        rw [e]
        split
        · rename_i h1; exact h1
        · simp
  · cases he
    have h : xSame args H = .ok v H' := h
    cases args with
    | nil => cases h
    | cons x r => cases r with
      | cons y r => cases h
      | nil =>
        cases h
        simp only [VRs] at hv
        obtain ⟨cx, _, e1, hx, rfl⟩ := hv
        have hc : cargs = #[cx] := by have := congrArg List.toArray e1; simpa using this
        subst hc
        exact ⟨rfl, cx, rfl, hx⟩
  · cases he
theorem ext_same {c : Nat} {args : List AVal} : PS H (extF c args H) := by
  cases c with
  | zero =>
    show PS H (xIndexByte args H)
    cases args with
    | nil => exact PS.err
    | cons x r => cases r with
      | nil => exact PS.err
      | cons y r => exact PS.onStr (fun _ _ => PS.onInt (fun _ _ => PS.onNat (fun _ => PS.chk (PS.chk (PS.chk (PS.seqInt fun _ => PS.ok) PS.err) PS.err) PS.err) PS.err) PS.err) PS.err
  | succ c => cases c with
    | zero =>
      show PS H (xSame args H)
      cases args with
      | nil => exact PS.err
      | cons x r => cases r with
        | nil => exact PS.ok
        | cons y r => exact PS.err
    | succ c => cases c with
      | zero =>
        show PS H (xTrue args H)
        cases args with
        | nil => exact PS.ok
        | cons x r => exact PS.err
      | succ c => exact PS.err
theorem evF_ok (hmix : P.follows .mixedOrders = true) {ft : Tr IFn} {xt : Tr Nat} (ht : TableOk P ft) (hx : ExtOk P xt) : ∀ n, CallOk P (evF ft xt lf n)
  | 0 => ⟨fun _ _ _ _ => TM.err, fun _ _ _ _ _ _ _ _ _ h => (by cases h)⟩
  | n + 1 => by
    have ih := evF_ok hmix ht hx n
    have key : ∀ f args H v H', evF ft xt lf (n + 1) f args H = .ok v H' → (∃ fn, ft.get f = some fn ∧ evFn (evF ft xt lf n) lf fn args H = .ok v H') ∨ ∃ c, xt.get f = some c ∧ extF c args H = .ok v H' := by
      intro f args H v H' h
      have h : ob (ft.get f) (ob (xt.get f) (.err (Nat.add 10000 f)) fun c => extF c args H) (fun fn => evFn (evF ft xt lf n) lf fn args H) = .ok v H' := h
      cases hf : ft.get f with
      | some fn => rw [hf] at h; exact .inl ⟨fn, rfl, h⟩
      | none =>
        rw [hf] at h
        exact .inr (ob_ok (o := xt.get f) h)
    refine ⟨fun f args H hm v H' h => ?_, fun f args H v H' ρ C w cargs h hm hwf hR hK hF hG hv => ?_⟩
    · rcases key _ _ _ _ _ h with ⟨fn, _, h⟩ | ⟨c, _, h⟩
      · obtain ⟨_, _, x, E1, H1, _, h1, _, h2⟩ := evFn_ok h
        rw [results_tame h2]
        exact ic_tame ih fn.body _ _ _ _ _ hm h1
      · rw [ext_same v H' h]; exact Tame.refl _
    · rcases key _ _ _ _ _ h with ⟨fn, hfn, h⟩ | ⟨c, hc, h⟩
      · obtain ⟨g, hg, hfg⟩ := ht f fn hfn
        obtain ⟨cd, hb, _, _, _, _, hname⟩ := fnOf_ok hfg
        have h1 : g.name ≠ "runtime.NumGoroutine" := by simpa using hname
        exact .inl ⟨by simp [callFunc, hg, h1, hb], evFn_sound ih hmix hg hfg h hm hwf hR hK hF hG hv⟩
      · rcases hx f c hc with ⟨fn, hf, hname, hb, hn, e, he, hfind⟩ | ⟨rfl, htrue⟩
        rotate_left
        · have h : xTrue args H = .ok v H' := h
          cases args with
          | cons x r => cases h
          | nil =>
            cases h
            simp only [VRs] at hv
            have hcg : cargs = #[] := by have := congrArg List.toArray hv; simpa using this
            subst hcg
            have hin : ∀ g, g < P.globals.size → g < w.heap.size := fun g hg => by
              obtain ⟨x, hx, hb, _⟩ := hG g hg
              have := hR.inb g 1 x hx
              omega
            have post : ∀ {w' : World}, Kept w w' → Post ρ C w H (.bool true) H (.bool true) w' := fun hk => ⟨ρ, by simp only [VR], hk.ext _ _ _, by rw [upd_same]; exact hR.kept hk⟩
            rcases htrue w hin with ⟨h1, h2⟩ | ⟨w', h1, h2⟩
            · exact .inl ⟨h1, Calls.mono h2 fun e w' ⟨he, hk⟩ => ⟨_, he, post hk⟩⟩
            · exact .inr ⟨_, w', h1, post h2⟩
        obtain ⟨rfl, cv, hrun, hcv⟩ := ext_ok (P := P) hR he hv h
        refine .inr ⟨cv, w, ?_, ρ, hcv, Ext.refl _ _ _ _, ?_⟩
        · rw [run_callFunc_standIn hf hname hb hn hfind, hrun]
          rfl
        · rw [upd_same]; exact hR
end
end Go.Ev
namespace Go.Ev
def base (P : Program) : Ho := fun f g => if f < P.globals.size ∧ g = 1 then some ⟨f, 0, 0, true⟩ else none
def H0 (n : Nat) : AHeap := ⟨n, 0, [], .emp⟩
section
variable {P : Program} {ρ : Ho} {C : Nat → Option AObj} {w w' : World} {H H' : AHeap} {call : CallF} {f n : Nat} {args : List AVal} {cargs : Array Value} {v : AVal}
theorem base_some {f g : Nat} {h : Hm} (e : base P f g = some h) : f < P.globals.size ∧ g = 1 ∧ h = ⟨f, 0, 0, true⟩ := by
  unfold base at e
  split at e
  · rename_i k; cases e; exact ⟨k.1, k.2, rfl⟩
  · cases e
theorem base_R (hin : ∀ g, g < P.globals.size → g < w.heap.size) : R (base P) (fun _ => none) w := by
  refine ⟨fun f o h => (by cases h), fun f g h f' g' h' e e' _ _ => ?_, fun f g h e => ?_, fun f g h g' h' e e' _ => ?_⟩
  · obtain ⟨_, _, rfl⟩ := base_some e
    obtain ⟨_, _, rfl⟩ := base_some e'
    exact ⟨rfl, rfl⟩
  · obtain ⟨k, _, rfl⟩ := base_some e
    exact hin f k
  · obtain ⟨_, _, rfl⟩ := base_some e
    obtain ⟨_, _, rfl⟩ := base_some e'
    rfl
theorem base_globs : Globs P (base P) := fun g hg => ⟨⟨g, 0, 0, true⟩, by simp [base, hg], rfl, rfl⟩
theorem base_free (hn : P.globals.size ≤ n) (m : Nat) : Free (base P) n m := fun f g h1 _ => by
  unfold base
  rw [if_neg (by omega)]
theorem H0_wf : WF (H0 n) := fun x _ => HT.get_emp x
theorem H0_known : Known (base P) (fun _ => none) (H0 n) := fun f o _ h => by
  rw [show (H0 n).t.get f = none from HT.get_emp f] at h; cases h
theorem Post.kept {cv : Value} (h : Post (base P) C w H v H' cv w') : Kept w w' := by
  obtain ⟨ρ', _, he, _⟩ := h
  exact ⟨he.os, he.tape, he.output, he.size, fun b hb => he.frame b hb fun f g x hx hr _ => by obtain ⟨_, _, rfl⟩ := base_some hx; cases hr⟩
theorem evFn_kept (hc : CallOk P call) (hmix : P.follows .mixedOrders = true) {g : Func} {fn : IFn} {lf : Nat} (hf : P.funcs[f]? = some g) (hg : fnOf P g = some fn) (hn : P.globals.size ≤ n) (hin : ∀ g, g < P.globals.size → g < w.heap.size)
    (h : evFn call lf fn args (H0 n) = .ok v H') (hv : VRs (base P) args cargs.toList) : Calls P f cargs w fun e w' => ∃ cv ρ', e = .returned cv ∧ VR ρ' v cv ∧ Kept w w' :=
  Calls.mono (evFn_sound hc hmix hf hg h (Nat.zero_le _) H0_wf (base_R hin) H0_known (base_free hn _) base_globs hv) fun e w' ⟨cv, he, hp⟩ => by
    have hk := hp.kept
    obtain ⟨ρ', hvr, _, _⟩ := hp
    exact ⟨cv, ρ', he, hvr, hk⟩
theorem trueOk_of (hc : CallOk P call) {fa : Nat} (hn : P.globals.size ≤ n) (ha : call fa [] (H0 n) = .ok (.bool true) H') : TrueOk P fa := fun w hin => by
  have post : ∀ {cv : Value} {w' : World}, Post (base P) (fun _ => none) w (H0 n) (.bool true) H' cv w' → cv = .bool true ∧ Kept w w' := by
    intro cv w' hp
    have hk := hp.kept
    obtain ⟨_, hvr, _, _⟩ := hp
    simp only [VR] at hvr
    exact ⟨hvr, hk⟩
  rcases hc.sound fa [] (H0 n) (.bool true) H' (base P) (fun _ => none) w #[] ha (Nat.zero_le _) H0_wf (base_R hin) H0_known (base_free hn _) base_globs (by simp only [VRs]) with ⟨h1, h2⟩ | ⟨cv, w', h1, h2⟩
  · exact .inl ⟨h1, Calls.mono h2 fun e w' ⟨cv, he, hp⟩ => by
      obtain ⟨rfl, hk⟩ := post hp
      exact ⟨he, hk⟩⟩
  · obtain ⟨rfl, hk⟩ := post h2
    exact .inr ⟨w', h1, hk⟩
noncomputable def evTop (fa : Nat) (call : CallF) : CallF := fun f args H =>
  Bool.rec (motive := fun _ => Res) (call f args H) (List.rec (motive := fun _ => Res) (.ok (.bool true) H) (fun _ _ _ => .err 99) args) (Nat.beq f fa)
theorem evTop_ok (hc : CallOk P call) {fa : Nat} (hn : P.globals.size ≤ n) (ha : call fa [] (H0 n) = .ok (.bool true) H') : CallOk P (evTop fa call) := by
  have hcase : ∀ f args H v H1, evTop fa call f args H = .ok v H1 → (f = fa ∧ args = [] ∧ v = .bool true ∧ H1 = H) ∨ call f args H = .ok v H1 := by
    intro f args H v H1 h
    unfold evTop at h
    cases hb : Nat.beq f fa
    · rw [hb] at h; exact .inr h
    · rw [hb] at h
      have hb := Nat.eq_of_beq_eq_true hb
      cases args with
      | nil => cases h; exact .inl ⟨hb, rfl, rfl, rfl⟩
      | cons a r => cases h
  refine ⟨fun f args H hm v H1 h => ?_, fun f args H v H1 ρ C w cargs h hm hwf hR hK hF hG hv => ?_⟩
  · rcases hcase _ _ _ _ _ h with ⟨_, _, _, rfl⟩ | h
    · exact Tame.refl _
    · exact hc.tame f args H hm v H1 h
  · rcases hcase _ _ _ _ _ h with ⟨rfl, rfl, rfl, rfl⟩ | h
    · have hin : ∀ g, g < P.globals.size → g < w.heap.size := fun g hg => by
        obtain ⟨x, hx, hb, _⟩ := hG g hg
        have := hR.inb g 1 x hx
        omega
      have post : ∀ {cv : Value} {w' : World}, Post (base P) (fun _ => none) w (H0 n) (.bool true) H' cv w' → Post ρ C w H1 (.bool true) H1 cv w' := by
        intro cv w' hp
        have hk := hp.kept
        obtain ⟨_, hvr, _, _⟩ := hp
        refine ⟨ρ, ?_, hk.ext _ _ _, ?_⟩
        · simp only [VR] at hvr ⊢; exact hvr
        · rw [upd_same]; exact hR.kept hk
      have hv2 : VRs (base P) [] cargs.toList := by simp only [VRs] at hv ⊢; exact hv
      rcases hc.sound f [] (H0 n) (.bool true) H' (base P) (fun _ => none) w cargs ha (Nat.zero_le _) H0_wf (base_R hin) H0_known (base_free hn _) base_globs hv2 with ⟨h1, h2⟩ | ⟨cv, w', h1, h2⟩
      · exact .inl ⟨h1, Calls.mono h2 fun e w' ⟨cv, he, hp⟩ => ⟨cv, he, post hp⟩⟩
      · exact .inr ⟨cv, w', h1, post h2⟩
    · exact hc.sound f args H v H1 ρ C w cargs h hm hwf hR hK hF hG hv
noncomputable def tabOf {α : Type} (l : List (Nat × α)) : Tr α := List.rec (motive := fun _ => Tr α) .leaf (fun p _ ih => ih.set p.1 p.2) l
theorem tabOf_get {α : Type} {f : Nat} {x : α} : ∀ {l : List (Nat × α)}, (tabOf l).get f = some x → (f, x) ∈ l
  | [], h => by rw [show tabOf ([] : List (Nat × α)) = .leaf from rfl, Tr.get_leaf] at h; cases h
  | p :: r, h => by
    have h : ((tabOf r).set p.1 p.2).get f = some x := h
    rw [Tr.get_set] at h
    split at h
    · rename_i e; cases h; subst e; exact List.mem_cons_self ..
    · exact List.mem_cons_of_mem _ (tabOf_get h)
def RowOk (P : Program) (p : Nat × IFn) : Prop := ∃ g, P.funcs[p.1]? = some g ∧ fnOf P g = some p.2
theorem tabOf_ok {l : List (Nat × IFn)} (h : ∀ p, p ∈ l → RowOk P p) : TableOk P (tabOf l) := fun f fn hf => h (f, fn) (tabOf_get hf)
theorem rows_nil : ∀ p, p ∈ ([] : List (Nat × IFn)) → RowOk P p := fun _ h => by cases h
theorem rows_cons {k : Nat} {fn : IFn} {g : Func} {l : List (Nat × IFn)} (h1 : P.funcs[k]? = some g) (h2 : fnOf P g = some fn) (h : ∀ p, p ∈ l → RowOk P p) : ∀ p, p ∈ (k, fn) :: l → RowOk P p := fun p hp => by
  rcases List.mem_cons.1 hp with rfl | hp
  · exact ⟨g, h1, h2⟩
  · exact h p hp
theorem rows_append {l m : List (Nat × IFn)} (h : ∀ p, p ∈ l → RowOk P p) (k : ∀ p, p ∈ m → RowOk P p) : ∀ p, p ∈ l ++ m → RowOk P p := fun p hp => (List.mem_append.1 hp).elim (h p) (k p)
end
noncomputable def okT (r : Res) : Bool := Res.rec (motive := fun _ => Bool) (fun v _ => AVal.rec (motive_1 := fun _ => Bool) (motive_2 := fun _ => Unit) (fun b => b) (fun _ _ => false) (fun _ _ => false) (fun _ _ _ => false) false (fun _ _ _ _ _ => false) false (fun _ _ => false) (fun _ _ => false) (fun _ _ _ _ _ => false) false (fun _ _ _ => false) false (fun _ => false) false false () (fun _ _ _ _ => ()) v) (fun _ => false) r
theorem okT_ok {r : Res} (h : okT r = true) : ∃ H, r = .ok (.bool true) H := by
  cases r with
  | err n => cases h
  | ok v H =>
    cases v with
    | bool b => cases b with
      | true => exact ⟨H, rfl⟩
      | false => cases h
    | _ => cases h
end Go.Ev
namespace Go.Ev
section
variable {call : CallF} {lf : Nat} {E : Env} {H : AHeap}
theorem Env.get_same (E : Env) (k : Key) (v : AVal) : (E.set k v).get k = some v := by rw [Env.get_set, if_pos rfl]
theorem Env.get_ne (E : Env) {k k' : Key} (v : AVal) (h : k' ≠ k) : (E.set k v).get k' = E.get k' := by rw [Env.get_set, if_neg h]
theorem params_nil (E : Env) (c : Env → Res) : params [] [] E c = c E := rfl
theorem params_cons (k : Key) (ks : List Key) (v : AVal) (l : List AVal) (E : Env) (c : Env → Res) : params (k :: ks) (v :: l) E c = params ks l (E.set k v) c :=
  Env.setC_eq E k v fun E => params ks l E c
theorem region_ev (ops : List IOp) : (IC.region false ops).ev call lf E H = ofO (evOps call ops E H) := rfl
theorem regionQ_ev (ops : List IOp) : (IC.region true ops).ev call lf E H = ofO (evOpsQ call ops E H []) := rfl
theorem seq_ev (a b : IC) : (IC.seq a b).ev call lf E H = onNormal (a.ev call lf E H) (b.ev call lf) := rfl
theorem ofO_mk (E : Env) (H : AHeap) : ofO (.ok E H) = .ok .normal E H := rfl
theorem onNormal_mk (E : Env) (H : AHeap) (k : Env → AHeap → Out) : onNormal (.ok .normal E H) k = k E H := rfl
theorem evOps_nil : evOps call [] E H = .ok E H := rfl
theorem evOps_plain (d : Option Key) (q : Option (List Nat)) (op : Ins) (r : List IOp) : evOps call (⟨d, none, q, op⟩ :: r) E H = fin d E (evOps call r) (op.ev call E H) := rfl
theorem fin_some (d : Key) (v : AVal) (k : Env → AHeap → ORes) : fin (some d) E k (.ok v H) = k (E.set d v) H := Env.setO_eq E d v fun E => k E H
theorem fin_none (v : AVal) (k : Env → AHeap → ORes) : fin none E k (.ok v H) = k E H := rfl
theorem t_ev (k : Key) : (Opd.t k).ev E = E.get k := rfl
theorem c_ev (v : AVal) : (Opd.c v).ev E = some v := rfl
theorem ob_mk {α β : Type} (x : α) (e : β) (k : α → β) : ob (some x) e k = k x := rfl
theorem mov_ev (x : Opd) : (Ins.mov x).ev call E H = ob (x.ev E) (.err 1) fun v => .ok v H := withO_eq x E _ _
theorem bin_ev (op : BinOp) (x y : Opd) : (Ins.bin op x y).ev call E H = ob (x.ev E) (.err 6) fun a => ob (y.ev E) (.err 6) fun b => ob (binA op a b) (.err 6) fun v => .ok v H := by
  show withO x E (.err 6) (fun a => withO y E (.err 6) fun b => binR op a b fun v => .ok v H) = _
  simp only [withO_eq, binR_eq, seqVal_eq]
theorem conv_ev (k : IntKind) (x : Opd) : (Ins.conv k x).ev call E H = ob (x.ev E) (.err 36) fun v => onInt v (.err 36) fun _ n => .ok (.int k (wrapF k n)) H := by
  show withO x E (.err 36) (fun v => onInt v (.err 36) fun _ n => seqInt (wrapF k n) fun n => .ok (.int k n) H) = _
  simp only [withO_eq, seqInt_eq]
theorem onInt_mk (k : IntKind) (n : Int) (e : Res) (f : IntKind → Int → Res) : onInt (.int k n) e f = f k n := rfl
noncomputable def fnEnd (fn : IFn) (o : Out) : Res :=
  Out.rec (motive := fun _ => Res) (fun x E H => Ex.rec (motive := fun _ => Res) (results E H fn.res) (fun _ => .err 72) (results E H fn.res) x) .err o
theorem evFn_eq (fn : IFn) (args : List AVal) (H : AHeap) : evFn call lf fn args H = params fn.ps args .emp fun E => fnEnd fn (fn.body.ev call lf E H) := rfl
theorem evFn_seq2 {fn : IFn} {a b c : IC} (hb : fn.body = .seq a (.seq b c)) (args : List AVal) (H : AHeap) :
    evFn call lf fn args H = params fn.ps args .emp fun E => fnEnd fn (onNormal (a.ev call lf E H) fun E H => onNormal (b.ev call lf E H) (c.ev call lf)) := by
  rw [evFn_eq, hb]; rfl
end
theorem Kept.keptBut {w w' : World} (h : Kept w w') (may : MemPlace → Prop) : w.keptBut w' may := by
  refine ⟨h.os, h.output, fun i hi => ?_⟩
  rw [h.old i hi]
  cases w.heap[i]? with
  | none => rfl
  | some o => cases o with
    | cells c t fr => exact ⟨rfl, rfl, rfl, fun _ _ => rfl⟩
    | map es clock => exact .inr ⟨rfl, rfl⟩
    | _ => rfl
theorem low_of_shaped {P : Program} {w : World} (h : w.ShapedOpen P) (hr : ((List.range P.globals.size).all fun g => ((((begin P (fun _ _ => 0) default).world.heap[g]?).bind Obj.row?).isSome)) = true) : ∀ g, g < P.globals.size → g < w.heap.size := by
  intro g hg
  have h1 := List.all_eq_true.1 hr g (List.mem_range.2 hg)
  cases hx : ((begin P (fun _ _ => 0) default).world.heap[g]?).bind Obj.row? with
  | none => rw [hx] at h1; cases h1
  | some x =>
    obtain ⟨zero, t⟩ := x
    obtain ⟨cs, hc, _⟩ := h.1 g zero t hg hx
    exact (Array.getElem?_eq_some_iff.1 hc).1
mutual
def flatD {H : Type} : DataW H → List Value
  | .lit (.int k n) => [.int k n]
  | .lit (.bool b) => [.bool b]
  | .lit (.string bs) => [.string ⟨bs.toArray⟩]
  | .agg parts => flatDs parts
  | _ => []
def flatDs {H : Type} : List (DataW H) → List Value
  | [] => []
  | d :: r => flatD d ++ flatDs r
end
def putG (h : Array Obj) (g : Nat) (cs : List Value) : Array Obj := h.modify g fun
  | .cells _ t frozen => .cells cs.toArray t frozen
  | o => o
end Go.Ev
