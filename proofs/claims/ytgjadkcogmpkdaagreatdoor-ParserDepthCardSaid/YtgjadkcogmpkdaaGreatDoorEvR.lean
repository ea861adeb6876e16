/- A part of an evaluator for the program's code: Regions in the text's order. It holds for every program. -/
import Derived.Test.YtgjadkcogmpkdaaGreatDoorEvQ
/-! Regions in the text's order. -/
set_option linter.unusedVariables false
set_option linter.unusedSimpArgs false
namespace Go.Ev

/-- a value into a slot, if there is one -/
noncomputable def putE (E : Env) (d : Option Key) (v : AVal) : Env := match d with | some d => E.set d v | none => E

theorem fin_ok {dst : Option Key} {E E' : Env} {H' : AHeap} {k : Env → AHeap → ORes} {r : Res} (h : fin dst E k r = .ok E' H') : ∃ v H1, r = .ok v H1 ∧ k (putE E dst v) H1 = .ok E' H' := by
  cases r with
  | err n => cases h
  | ok v H1 =>
    refine ⟨v, H1, rfl, ?_⟩
    cases dst with
    | none => exact h
    | some d =>
      have h : E.setO d v (fun E => k E H1) = .ok E' H' := h
      rw [Env.setO_eq] at h
      exact h
theorem skipD_eq (dst : Option Key) (E : Env) (H : AHeap) (k : Env → AHeap → ORes) : skipD dst E H k = k (putE E dst .undef) H := by
  cases dst with
  | none => rfl
  | some d => show E.setO d .undef (fun E => k E H) = _; rw [Env.setO_eq]; rfl

/-- whether an operation is wanted, off its guard's slot -/
inductive Wants (E : Env) : Option (Key × Bool) → Bool → Prop
  | none : Wants E none true
  | slot {t : Key} {want b : Bool} : E.get t = some (.bool b) → Wants E (some (t, want)) (b == want)

theorem step_ok {call : CallF} {o : IOp} {E E' : Env} {H H' : AHeap} {k : Env → AHeap → ORes} (h : o.step call E H k = .ok E' H') :
    (Wants E o.g true ∧ ∃ v H1, o.op.ev call E H = .ok v H1 ∧ k (putE E o.dst v) H1 = .ok E' H') ∨ (Wants E o.g false ∧ k (putE E o.dst .undef) H = .ok E' H') := by
  obtain ⟨dst, g, q, op⟩ := o
  cases g with
  | none => exact .inl ⟨.none, fin_ok h⟩
  | some tw =>
    obtain ⟨t, want⟩ := tw
    have h : ob (E.get t) (ORes.err 51) (fun v => onBoolO v (ORes.err 51) fun b => chk (Bool.xor b want) (skipD dst E H k) (IOp.run call ⟨dst, some (t, want), q, op⟩ E H k)) = .ok E' H' := h
    cases hg : E.get t with
    | none => rw [hg] at h; cases h
    | some v =>
      rw [hg] at h
      cases v <;> try (cases h; done)
      rename_i b
      have h : chk (Bool.xor b want) (skipD dst E H k) (IOp.run call ⟨dst, some (t, want), q, op⟩ E H k) = .ok E' H' := h
      have hw := Wants.slot (E := E) (want := want) hg
      cases b <;> cases want
      · exact .inl ⟨hw, fin_ok h⟩
      · rw [show Bool.xor false true = true from rfl, chk_true, skipD_eq] at h; exact .inr ⟨hw, h⟩
      · rw [show Bool.xor true false = true from rfl, chk_true, skipD_eq] at h; exact .inr ⟨hw, h⟩
      · exact .inl ⟨hw, fin_ok h⟩

/-- an operation and its instruction -/
structure OpOf (P : Program) (nt : Nat) (ops : Array Oper) (o : Oper) (io : IOp) : Prop where
  dst : o.dst = io.dst.map Key.n
  lt : ∀ d, io.dst = some d → d.n < nt
  g : (o.guard = none ∧ io.g = none) ∨ ∃ j want d, o.guard = some (j, want) ∧ (ops[j]?).bind (·.dst) = some d.n ∧ io.g = some (d, want)
  op : ioOf P o.op = some io.op ∨ io.op = bad

theorem bad_err {call : CallF} {E : Env} {H H' : AHeap} {v : AVal} (h : bad.ev call E H = .ok v H') : False := by cases h

section
variable {P : Program} {ρ : Ho} {nt : Nat} {E : Env} {a : Act} {C : Nat → Option AObj} {w : World} {H H' : AHeap} {v : AVal} {call : CallF} {ops : Array Oper} {Q : Exit → Act → World → Prop}

theorem wanted_ok {o : Oper} {io : IOp} {b : Bool} (ho : OpOf P nt ops o io) (hw : Wants E io.g b) (hA : ∀ t v, E.get t = some v → ∃ cv, a.tmps[t.n]? = some cv ∧ VR ρ v cv) : Region.wanted o (yielded ops a.tmps) = b := by
  unfold Region.wanted
  rcases ho.g with ⟨h1, h2⟩ | ⟨j, want, d, h1, h2, h3⟩
  · rw [h2] at hw
    rw [h1]
    cases hw
    rfl
  · rw [h3] at hw
    rw [h1]
    cases hw with
    | slot hg =>
      obtain ⟨cv, k1, k2⟩ := hA _ _ hg
      simp only [VR] at k2
      subst k2
      simp only [yielded, h2, Option.bind_some, k1]
      rename_i b
      cases b <;> cases want <;> rfl

theorem upd_known (hK : Known ρ C H) {ρ' : Ho} (hd : ∀ f g h, ρ' f g = some h → (∃ g0 h0, ρ f g0 = some h0) ∨ (H.next ≤ f ∧ f < H'.next)) : Known ρ' (upd C H H') H' := by
  intro f o hf ho
  obtain ⟨g, h, hf⟩ := hf
  unfold upd
  split
  · exact ho
  · rename_i hn
    split
    · rename_i he
      refine hK f o ?_ (he ▸ ho)
      rcases hd f g h hf with k | k
      · exact k
      · exact absurd k hn
    · exact ho

theorem Free.sub (h : Free ρ H.next H'.next) {ρ' : Ho} {n1 : Nat} (hd : ∀ f g h, ρ' f g = some h → (∃ g0 h0, ρ f g0 = some h0) ∨ (H.next ≤ f ∧ f < n1)) (h1 : H.next ≤ n1) : Free ρ' n1 H'.next := by
  intro f g h2 h3
  cases hx : ρ' f g with
  | none => rfl
  | some x =>
    rcases hd f g x hx with ⟨g0, h0, e⟩ | e
    · rw [h f g0 (by omega) h3] at e; cases e
    · omega
theorem Free.le {n0 n1 n2 : Nat} (h : Free ρ n0 n2) (h1 : n1 ≤ n2) : Free ρ n0 n1 := fun f g a b => h f g a (by omega)

theorem AR.putO (h : AR P ρ nt E a) {d : Option Key} (hd : ∀ x, d = some x → x.n < nt) {v : AVal} {cv : Value} (hv : VR ρ v cv) : AR P ρ nt (putE E d v) (a.put (d.map Key.n) cv) := by
  cases d with
  | none => exact h
  | some d => exact h.put (hd d rfl) hv

/-- the tame lemma of a list of operations -/
theorem evOps_tame (hc : CallOk P call) : ∀ (l : List IOp) (E : Env) (H : AHeap) (E' : Env) (H' : AHeap), H.mrk ≤ H.next → evOps call l E H = .ok E' H' → Tame H H'
  | [], E, H, E', H', _, h => by cases h; exact Tame.refl _
  | o :: r, E, H, E', H', hm, h => by
    rcases step_ok (show o.step call E H (evOps call r) = .ok E' H' from h) with ⟨_, v, H1, h1, h2⟩ | ⟨_, h2⟩
    · have t1 := TM.ins hm (fun f a => hc.tame f a H hm) E o.op v H1 h1
      exact t1.trans (evOps_tame hc r _ _ _ _ (by rw [t1.mrk]; exact Nat.le_trans hm t1.next) h2)
    · exact evOps_tame hc r _ _ _ _ hm h2

def WF (H : AHeap) : Prop := ∀ x, H.next ≤ x → H.t.get x = none

theorem Wr_mono {H1 H2 : AHeap} (h : Tame H1 H2) (f : Nat) (hf : Wr H1 f) : Wr H2 f := by
  rcases hf with hf | hf
  · exact .inl (h.ws f hf)
  · exact .inr (by rw [h.mrk]; exact hf)

/-- What is asked of the rest: behind the run. -/
def Then (P : Program) (nt : Nat) (E' : Env) (H H' : AHeap) (C : Nat → Option AObj) (ρ : Ho) (w : World) (K : Act → World → Prop) : Prop :=
  ∀ a' w' ρ', AR P ρ' nt E' a' → Ext (Wr H') H.next H'.next ρ ρ' w w' → R ρ' (upd C H H') w' → Known ρ' (upd C H H') H' → K a' w'

theorem upd_trans {ρ : Ho} (hK : Known ρ C H) {H1 H2 : AHeap} (h1 : H.next ≤ H1.next) (h2 : H1.next ≤ H2.next) (hkeep : ∀ f, H1.t.get f ≠ none → H2.t.get f ≠ none) {ρ' : Ho} (hd : ∀ f g h, ρ' f g = some h → (∃ g0 h0, ρ f g0 = some h0) ∨ (H.next ≤ f ∧ f < H2.next))
    (f : Nat) (o : AObj) (h : upd C H H2 f = some o) (hf : ∃ g x, ρ' f g = some x) : upd (upd C H H1) H1 H2 f = some o := by
  obtain ⟨g, x, hf⟩ := hf
  unfold upd at h ⊢
  by_cases c2 : H1.next ≤ f ∧ f < H2.next
  · rw [if_pos ⟨by omega, c2.2⟩] at h
    rw [if_pos c2]
    exact h
  · rw [if_neg c2]
    by_cases c1 : H.next ≤ f ∧ f < H1.next
    · rw [if_pos ⟨c1.1, by omega⟩] at h
      rw [if_pos c1]
      split
      · rename_i e; rw [← e]; exact h
      · exact h
    · have c3 : ¬ (H.next ≤ f ∧ f < H2.next) := by omega
      rw [if_neg c1]
      rw [if_neg c3] at h
      have hdom : ∃ g0 h0, ρ f g0 = some h0 := (hd f g x hf).resolve_right c3
      have hKf := fun o' => hK f o' hdom
      split
      · rename_i e
        split
        · rename_i e1
          rw [if_pos (e.trans e1)] at h
          exact h
        · rename_i e1
          rw [if_neg (by rw [e]; exact e1), e] at h
          exact h
      · rename_i e
        split at h
        · rename_i e2
          rw [e2]
          cases hg : H.t.get f with
          | none =>
            have h3 : H1.t.get f ≠ none := fun e3 => e (by rw [e2, hg, e3])
            exact absurd (e2.trans hg) (hkeep f h3)
          | some o' =>
            rw [hKf o' hg] at h
            exact h
        · exact h

/-- From an operation's post to the rest. -/
theorem rest_ok {o : Oper} {io : IOp} {H1 : AHeap} {E' : Env} {K : Act → World → Prop} (ho : OpOf P nt ops o io) (hA : AR P ρ nt E a) (hK : Known ρ C H) (ht1 : Tame H H1) (ht2 : Tame H1 H')
    (hthen : Then P nt E' H H' C ρ w K) {cv : Value} {w' : World} (hp : Post ρ C w H v H1 cv w') {K' : Act → World → Prop}
    (hk : ∀ ρ' C', AR P ρ' nt (putE E io.dst v) (a.put o.dst cv) → R ρ' C' w' → Known ρ' C' H1 → (∀ f g h, ρ' f g = some h → (∃ g0 h0, ρ f g0 = some h0) ∨ (H.next ≤ f ∧ f < H1.next)) → Globs P ρ' → Then P nt E' H1 H' C' ρ' w' K → K' (a.put o.dst cv) w') :
    K' (a.put o.dst cv) w' := by
  obtain ⟨ρ', hv, hext, hR'⟩ := hp
  have hA2 : AR P ρ' nt (putE E io.dst v) (a.put o.dst cv) := by
    rw [ho.dst]
    exact (hA.mono hext.le).putO ho.lt hv
  refine hk ρ' (upd C H H1) hA2 hR' (upd_known hK hext.dom) hext.dom hA2.glob fun a2 w2 ρ2 hA2 he2 hR2 hK2 => ?_
  have hext2 : Ext (Wr H') H.next H'.next ρ ρ2 w w2 := (hext.mono (Wr_mono ht2)).trans he2
  refine hthen a2 w2 ρ2 hA2 hext2 ?_ (upd_known hK hext2.dom)
  exact hR2.weaken fun f o h hf => upd_trans hK ht1.next ht2.next ht2.keep hext2.dom f o h hf

/-- A region in the text's order. -/
theorem evOps_sound (hc : CallOk P call) {K : Act → World → Prop} : ∀ (l : List IOp) (os : List Oper) (k : Nat), os.length = l.length → (∀ (i : Nat) (o : Oper) (io : IOp), os[i]? = some o → l[i]? = some io → OpOf P nt ops o io) → (∀ (i : Nat) (o : Oper), os[i]? = some o → ops[k + i]? = some o) →
    ∀ (E : Env) (H : AHeap) (E' : Env) (H' : AHeap) (ρ : Ho) (C : Nat → Option AObj) (a : Act) (w : World), evOps call l E H = .ok E' H' → AR P ρ nt E a → R ρ C w → Known ρ C H → Free ρ H.next H'.next → H.mrk ≤ H.next → WF H →
    Then P nt E' H H' C ρ w K → (∀ a w, K a w → Q .normal a w) → wpOps P ops Q ((List.range' k l.length)) a w
  | [], os, k, hl, hop, hos, E, H, E', H', ρ, C, a, w, h, hA, hR, hK, hF, hm, hwf, hthen, hQ => by
    cases h
    refine hQ _ _ (hthen a w ρ hA (Ext.refl _ _ _ _) ?_ ?_)
    · rw [upd_same]; exact hR
    · rw [upd_same]; exact hK
  | io :: r, [], k, hl, _, _, _, _, _, _, _, _, _, _, _, _, _, _, _, _, _, _, _ => by simp at hl
  | io :: r, o :: os, k, hl, hop, hos, E, H, E', H', ρ, C, a, w, h, hA, hR, hK, hF, hm, hwf, hthen, hQ => by
    have ho := hop 0 o io rfl rfl
    have hok : ops[k]? = some o := by simpa using hos 0 o rfl
    have hrest := evOps_sound hc (K := K) r os (k + 1) (by simpa using hl) (fun i o io h1 h2 => hop (i + 1) o io (by simpa using h1) (by simpa using h2)) (fun i o h1 => by
      have := hos (i + 1) o (by simpa using h1); rwa [show k + (i + 1) = k + 1 + i by omega] at this)
    rw [List.length_cons, List.range'_succ, wpOps_cons]
    unfold wpOp
    simp only [hok]
    rcases step_ok (show io.step call E H (evOps call r) = .ok E' H' from h) with ⟨hw, v, H1, h1, h2⟩ | ⟨hw, h2⟩
    · rw [wanted_ok ho hw hA.tmp, if_pos rfl]
      left
      have ht1 := TM.ins hm (fun f a => hc.tame f a H hm) E io.op v H1 h1
      have hm1 : H1.mrk ≤ H1.next := by rw [ht1.mrk]; exact Nat.le_trans hm ht1.next
      have ht2 := evOps_tame hc r _ _ _ _ hm1 h2
      rcases ho.op with hio | hbad
      case inr => rw [hbad] at h1; exact (bad_err h1).elim
      have hok2 := ins_sound (o := o) hio hA hR (hF.le ht2.next) (fun f o' _ hf ho' => hK f o' hf ho') hm hwf hc h1
      refine wp_of_OpOk hok2 fun cv w' hp => ?_
      refine rest_ok ho hA hK ht1 ht2 hthen hp (K' := wpOps P ops Q (List.range' (k + 1) r.length)) fun ρ' C' hA' hR' hK' hd hg ht => ?_
      exact hrest _ H1 E' H' ρ' C' _ w' h2 hA' hR' hK' (hF.sub hd ht1.next) hm1 (ht1.wf hwf) ht hQ
    · rw [wanted_ok ho hw hA.tmp, if_neg (by simp)]
      have hA' : AR P ρ nt (putE E io.dst .undef) (a.put o.dst undef) := by
        rw [ho.dst]
        exact hA.putO ho.lt (by simp only [VR])
      exact hrest _ H E' H' ρ C _ w h2 hA' hR hK hF hm hwf hthen hQ

end
end Go.Ev
