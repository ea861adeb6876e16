/- A part of an evaluator for the program's code: Every operation that is turned into an instruction is sound. It holds for every program. -/
import Derived.Test.YtgjadkcogmpkdaaGreatDoorEvP
import Derived.Test.YtgjadkcogmpkdaaGreatDoorEvOf
/-! Every operation that is turned into an instruction is sound. -/
set_option linter.unusedVariables false
set_option linter.unusedSimpArgs false
namespace Go.Ev
section
variable {P : Program} {ρ : Ho} {nt : Nat} {E : Env} {a : Act} {C : Nat → Option AObj} {w : World} {H H' : AHeap} {v : AVal} {o : Oper} {call : CallF} {io : Ins}

def ReadsOk (io : Ins) (E : Env) (ρ : Ho) (C : Nat → Option AObj) (H : AHeap) : Prop :=
  ∀ f o, (∀ l, io.reads E = some l → f ∈ l) → (∃ g h, ρ f g = some h) → H.t.get f = some o → C f = some o

theorem opdsOf_one {l : List Operand} {x' : Opd} (h : opdsOf P l = some [x']) : ∃ x, l = [x] ∧ opdOf P x = some x' := by
  cases l with
  | nil => simp [opdsOf] at h
  | cons x r =>
    simp only [opdsOf] at h
    split at h
    · rename_i y l hy hl
      cases h
      cases r with
      | nil => exact ⟨x, rfl, hy⟩
      | cons z s =>
        simp only [opdsOf] at hl
        split at hl <;> cases hl
    · cases h
theorem opdsOf_cons {l : List Operand} {x' : Opd} {r' : List Opd} (h : opdsOf P l = some (x' :: r')) : ∃ x r, l = x :: r ∧ opdOf P x = some x' ∧ opdsOf P r = some r' := by
  cases l with
  | nil => simp [opdsOf] at h
  | cons x r =>
    simp only [opdsOf] at h
    split at h
    · rename_i y l hy hl
      cases h
      exact ⟨x, r, rfl, hy, hl⟩
    · cases h
theorem array_of_list {c : Array Operand} {l : List Operand} (h : c.toList = l) : c = l.toArray := by rw [← h]

theorem callOf_sound (hA : AR P ρ nt E a) (hR : R ρ C w) (hF : Free ρ H.next H'.next) (hK : ReadsOk io E ρ C H) (hm : H.mrk ≤ H.next) (hwf : ∀ x, H.next ≤ x → H.t.get x = none) (hc : CallOk P call) {c : Call}
    (ho : o.op = .call c) (hio : callOf P c = some io) (h : io.ev call E H = .ok v H') : OpOk P o a w (Post ρ C w H v H') := by
  unfold callOf at hio
  split at hio
  · rename_i f args hcl hargs
    split at hio
    · rename_i f
      cases hio
      exact call_sound hA hR hF (fun f o' => hK f o' (fun l e => by cases e)) hm hwf hc ho hcl hargs h
    · split at hio
      · rename_i y hy
        cases hio
        exact callv_sound hA hR hF (fun f o' => hK f o' (fun l e => by cases e)) hm hwf hc ho hcl hy hargs h
      · cases hio
  · rename_i x' hcl hargs
    obtain ⟨x, hl, hx⟩ := opdsOf_one hargs
    have hl := array_of_list hl
    split at hio
    · rename_i t ht
      split at hio
      · rename_i hu
        cases hio
        exact lenS_sound hA hR ho hcl hl hx ht hu h
      · rename_i e hu
        cases hio
        exact len_sound hA hR ho hcl hl hx ht hu h
      · rename_i n e hu
        cases hio
        exact lenK_sound (E := E) hR ho hcl hl ht hu h
      · cases hio
    · cases hio
  · rename_i x' y' hcl hargs
    obtain ⟨x, r, hl, hx, hr⟩ := opdsOf_cons hargs
    obtain ⟨y, hl2, hy⟩ := opdsOf_one hr
    subst hl2
    have hl := array_of_list hl
    split at hio
    · rename_i t u ht hu
      split at hio
      · rename_i e e2 hut huu
        split at hio
        · rename_i i z hi hz
          split at hio
          · rename_i hb
            cases hio
            exact app_sound hA hR hF ho hcl hl hx hy ht hu hut huu hi hz hb (fun f o' hf => hK f o' (fun l e => by cases e; exact hf)) h
          · cases hio
        · cases hio
      · rename_i e hut huu
        split at hio
        · rename_i i z hi hz
          split at hio
          · rename_i hb
            cases hio
            exact appStr_sound hA hR hF ho hcl hl hx hy ht hu hut huu hi hz hb.1 hb.2 (fun f o' hf => hK f o' (fun l e => by cases e; exact hf)) h
          · cases hio
        · cases hio
      · cases hio
    · cases hio
  · rename_i x' hcl hargs
    obtain ⟨x, hl, hx⟩ := opdsOf_one hargs
    have hl := array_of_list hl
    cases hio
    exact usd_sound hA hR ho hcl hl hx h
  · rename_i x' y' hcl hargs
    obtain ⟨x, r, hl, hx, hr⟩ := opdsOf_cons hargs
    obtain ⟨y, hl2, hy⟩ := opdsOf_one hr
    subst hl2
    have hl := array_of_list hl
    split at hio
    · rename_i pt it hpt
      have hpt : c.argTypes = #[pt, it] := Array.ext' hpt
      split at hio
      · rename_i e hp
        split at hio
        · rename_i he
          cases hio
          exact ustr_sound hA hR ho hcl hl hx hy hpt hp he (fun f o' hf => hK f o' (fun l e => by cases e; exact hf)) h
        · cases hio
      · cases hio
    · cases hio
  · cases hio
  · cases hio
  · cases hio

theorem ins_sound (hio : ioOf P o.op = some io) (hA : AR P ρ nt E a) (hR : R ρ C w) (hF : Free ρ H.next H'.next) (hK : ReadsOk io E ρ C H) (hm : H.mrk ≤ H.next) (hwf : ∀ x, H.next ≤ x → H.t.get x = none) (hc : CallOk P call)
    (h : io.ev call E H = .ok v H') : OpOk P o a w (Post ρ C w H v H') := by
  generalize hop : o.op = op at hio
  unfold ioOf at hio
  split at hio
  · split at hio
    · rename_i y hy; cases hio; exact mov_sound hA hR (.inl hop) hy h
    · cases hio
  · split at hio
    · rename_i y hy; cases hio; exact mov_sound hA hR (.inr hop) hy h
    · cases hio
  · split at hio
    · rename_i c' a' b' h1 h2 h3; cases hio; exact pick_sound hA hR hop h1 h2 h3 h
    · cases hio
  · split at hio
    · rename_i z i hz hi; cases hio; exact boxz_sound (E := E) hR hF hop hz hi h
    · cases hio
  · split at hio
    · rename_i n i y hn hi hy; cases hio; exact box_sound hA hR hF hop hy hn h
    · cases hio
  · exact build_sound hA hR hop hio h
  · exact buildSl_sound hA hR hF hop hio h
  · split at hio
    · rename_i n y hn hy; cases hio; exact load_sound hA hR hop hy hn (fun f o' hf => hK f o' (fun l e => by cases e; exact hf)) h
    · cases hio
  · split at hio
    · rename_i n y z hn hy hz; cases hio; exact store_sound hA hR hop hy hz hn (fun f o' hf => hK f o' (fun l e => by cases e; exact hf)) h
    · cases hio
  · split at hio
    · rename_i y hy; cases hio; exact nilck_sound hA hR hop hy h
    · cases hio
  · split at hio
    · rename_i x' y' hx hy
      unfold binOf at hio
      split at hio
      · cases hio; exact bin_sound hA hR hop hx hy h
      · cases hio; exact bin_sound hA hR hop hx hy h
      · rename_i fs hu; exact eqAgg_sound hA hR hop hx hy hu hio h
      · rename_i d _ _ _ hu; exact eqv_sound hA hR hop hx hy hu hio h
      · cases hio
    · cases hio
  · split at hio
    · rename_i y hy; cases hio; exact un_sound hA hR hop hy h
    · cases hio
  · split at hio
    · rename_i y hy
      unfold convOf at hio
      split at hio
      · rename_i hs hd; cases hio; exact conv_sound hA hR hop hy hs hd h
      · exact conv2_sound hA hR hF hop hy hio (fun f o' hl => hK f o' hl) h
    · cases hio
  · split at hio
    · cases hio
    · rename_i d y hne hd hy; cases hio; exact mkif_sound hA hR hop hd (fun ms e => hne ms (e ▸ rfl)) hy h
    · cases hio
  · split at hio
    · rename_i h0
      split at hio
      · rename_i l hl; cases hio; exact mkfn_sound hA hR hop h0 hl h
      · cases hio
    · cases hio
  · split at hio
    · rename_i x' y' hx hy; exact mksl_sound hA hR hF hop hx hy hio h
    · cases hio
  · split at hio
    · rename_i x' lo' hi' ht hx hlo hhi; cases hio; exact slStr_sound hA hR hop hx hlo hhi ht h
    · rename_i e x' lo' hi' ht hx hlo hhi
      split at hio
      · rename_i n hn; cases hio; exact slSl_sound hA hR hop hx hlo hhi ht hn h
      · cases hio
    · cases hio
    · cases hio
  · split at hio
    · rename_i fs y hs hy
      split at hio
      · rename_i fd hf
        split at hio
        · rename_i n hn
          cases hio
          obtain ⟨i, d, hi, _, e, h0⟩ := sizeT_ok hn
          exact offs_sound hA hR hop hy hs hf hi (by omega) h
        · cases hio
      · cases hio
    · cases hio
  · split at hio
    · rename_i fs y hs hy
      split at hio
      · rename_i fd hf
        split at hio
        · rename_i n hn; cases hio; exact sub_sound hA hR hop hy hs hf hn h
        · cases hio
      · cases hio
    · cases hio
  · split at hio
    · rename_i k e x' i' ht hx hi
      split at hio
      · rename_i n hn
        split at hio
        · cases hio; exact idxArr_sound hA hR hop hx hi ht hn h
        · cases hio
      · cases hio
    · rename_i e x' i' ht hx hi
      split at hio
      · rename_i n hn; cases hio; exact idxSl_sound hA hR hop hx hi ht hn h
      · cases hio
    · cases hio
  · split at hio
    · rename_i k e x' i' ht hx hi
      split at hio
      · rename_i n hn; cases hio; exact idxVal_sound hA hR hop hx hi ht hn h
      · cases hio
    · rename_i x' i' ht hx hi
      cases hio
      exact idxStr_sound hA hR hop hx hi ht h
    · cases hio
  · split at hio
    · rename_i y hy; cases hio; exact extr_sound hA hR hop hy h
    · cases hio
  · exact callOf_sound hA hR hF hK hm hwf hc hop hio h
  · cases hio

end
end Go.Ev
