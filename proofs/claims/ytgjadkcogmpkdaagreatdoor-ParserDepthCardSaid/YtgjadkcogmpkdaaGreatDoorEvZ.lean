/- A part of an evaluator for the program's code: From an evaluated call to the program's: a start that knows no contents; a call that is known ahead. It holds for every program. -/
import Derived.Test.YtgjadkcogmpkdaaGreatDoorEvY
/-! From an evaluated call to the program's: a start that knows no contents; a call that is known ahead. -/
set_option linter.unusedVariables false
set_option linter.unusedSimpArgs false
namespace Go.Ev

/-- the homes of the package-level variables; nothing is known of what they hold -/
def base (P : Program) : Ho := fun f g => if f < P.globals.size ∧ g = 1 then some ⟨f, 0, 0, true⟩ else none
def H0 (n : Nat) : AHeap := ⟨n, 0, [], .emp⟩

/-- what was there is as it was -/
structure Kept (w w' : World) : Prop where
  os : w'.os = w.os
  tape : w'.tape = w.tape
  output : w'.output = w.output
  size : w.heap.size ≤ w'.heap.size
  old : ∀ b, b < w.heap.size → w'.heap[b]? = w.heap[b]?

section
variable {P : Program} {ρ : Ho} {C : Nat → Option AObj} {w w' : World} {H H' : AHeap} {call : CallF} {f n : Nat} {args : List AVal} {cargs : Array Value} {v : AVal}

theorem base_some {f g : Nat} {h : Hm} (e : base P f g = some h) : f < P.globals.size ∧ g = 1 ∧ h = ⟨f, 0, 0, true⟩ := by
  unfold base at e
  split at e
  · rename_i k; cases e; exact ⟨k.1, k.2, rfl⟩
  · cases e
theorem base_R (hin : ∀ g, g < P.globals.size → g < w.heap.size) : R (base P) (fun _ => none) w := by
  refine ⟨fun f o h => (by cases h), fun f g h f' g' h' e e' _ _ => ?_, fun f g h e => ?_, fun f g h g' h' e e' _ => ?_⟩
  · obtain ⟨_, _, rfl⟩ := base_some e
    obtain ⟨_, _, rfl⟩ := base_some e'
    exact ⟨rfl, rfl⟩
  · obtain ⟨k, _, rfl⟩ := base_some e
    exact hin f k
  · obtain ⟨_, _, rfl⟩ := base_some e
    obtain ⟨_, _, rfl⟩ := base_some e'
    rfl
theorem base_globs : Globs P (base P) := fun g hg => ⟨⟨g, 0, 0, true⟩, by simp [base, hg], rfl, rfl⟩
theorem base_free (hn : P.globals.size ≤ n) (m : Nat) : Free (base P) n m := fun f g h1 _ => by
  unfold base
  rw [if_neg (by omega)]
theorem H0_wf : WF (H0 n) := fun x _ => HT.get_emp x
theorem H0_known : Known (base P) (fun _ => none) (H0 n) := fun f o _ h => by
  rw [show (H0 n).t.get f = none from HT.get_emp f] at h; cases h

theorem Post.kept {cv : Value} (h : Post (base P) C w H v H' cv w') : Kept w w' := by
  obtain ⟨ρ', _, he, _⟩ := h
  exact ⟨he.os, he.tape, he.output, he.size, fun b hb => he.frame b hb fun f g x hx hr _ => by obtain ⟨_, _, rfl⟩ := base_some hx; cases hr⟩

theorem R.kept (hR : R ρ C w) (hk : Kept w w') : R ρ C w' :=
  ⟨fun f o ho g h hx => (hR.obj f o ho g h hx).keep (Ho.le_refl _) (hk.old _ (hR.inb f g h hx)), hR.disj, fun f g h hx => Nat.lt_of_lt_of_le (hR.inb f g h hx) hk.size, hR.uniq⟩
theorem Kept.ext (hk : Kept w w') (W : Nat → Prop) (n : Nat) (ρ : Ho) : Ext W n n ρ ρ w w' :=
  ⟨Ho.le_refl _, fun _ g h e => .inl ⟨g, h, e⟩, fun _ _ _ e => .inl e, fun b hb _ => hk.old b hb, hk.size, Nat.le_refl _, hk.os, hk.tape, hk.output⟩

/-- a law's evaluation, at a start that knows nothing -/
theorem evFn_kept (hc : CallOk P call) (hmix : P.follows .mixedOrders = true) {g : Func} {fn : IFn} {lf : Nat} (hf : P.funcs[f]? = some g) (hg : fnOf P g = some fn) (hn : P.globals.size ≤ n) (hin : ∀ g, g < P.globals.size → g < w.heap.size)
    (h : evFn call lf fn args (H0 n) = .ok v H') (hv : VRs (base P) args cargs.toList) : Calls P f cargs w fun e w' => ∃ cv ρ', e = .returned cv ∧ VR ρ' v cv ∧ Kept w w' :=
  Calls.mono (evFn_sound hc hmix hf hg h (Nat.zero_le _) H0_wf (base_R hin) H0_known (base_free hn _) base_globs hv) fun e w' ⟨cv, he, hp⟩ => by
    have hk := hp.kept
    obtain ⟨ρ', hvr, _, _⟩ := hp
    exact ⟨cv, ρ', he, hvr, hk⟩

/-- A call without arguments whose answer, true, is known ahead. -/
noncomputable def evTop (fa : Nat) (call : CallF) : CallF := fun f args H =>
  Bool.rec (motive := fun _ => Res) (call f args H) (List.rec (motive := fun _ => Res) (.ok (.bool true) H) (fun _ _ _ => .err 99) args) (Nat.beq f fa)

theorem evTop_ok (hc : CallOk P call) {fa : Nat} (hn : P.globals.size ≤ n) (ha : call fa [] (H0 n) = .ok (.bool true) H') : CallOk P (evTop fa call) := by
  have hcase : ∀ f args H v H1, evTop fa call f args H = .ok v H1 → (f = fa ∧ args = [] ∧ v = .bool true ∧ H1 = H) ∨ call f args H = .ok v H1 := by
    intro f args H v H1 h
    unfold evTop at h
    cases hb : Nat.beq f fa
    · rw [hb] at h; exact .inr h
    · rw [hb] at h
      have hb := Nat.eq_of_beq_eq_true hb
      cases args with
      | nil => cases h; exact .inl ⟨hb, rfl, rfl, rfl⟩
      | cons a r => cases h
  refine ⟨fun f args H hm v H1 h => ?_, fun f args H v H1 ρ C w cargs h hm hwf hR hK hF hG hv => ?_⟩
  · rcases hcase _ _ _ _ _ h with ⟨_, _, _, rfl⟩ | h
    · exact Tame.refl _
    · exact hc.tame f args H hm v H1 h
  · rcases hcase _ _ _ _ _ h with ⟨rfl, rfl, rfl, rfl⟩ | h
    · have hin : ∀ g, g < P.globals.size → g < w.heap.size := fun g hg => by
        obtain ⟨x, hx, hb, _⟩ := hG g hg
        have := hR.inb g 1 x hx
        omega
      have post : ∀ {cv : Value} {w' : World}, Post (base P) (fun _ => none) w (H0 n) (.bool true) H' cv w' → Post ρ C w H1 (.bool true) H1 cv w' := by
        intro cv w' hp
        have hk := hp.kept
        obtain ⟨_, hvr, _, _⟩ := hp
        refine ⟨ρ, ?_, hk.ext _ _ _, ?_⟩
        · simp only [VR] at hvr ⊢; exact hvr
        · rw [upd_same]; exact hR.kept hk
      have hv2 : VRs (base P) [] cargs.toList := by simp only [VRs] at hv ⊢; exact hv
      rcases hc.sound f [] (H0 n) (.bool true) H' (base P) (fun _ => none) w cargs ha (Nat.zero_le _) H0_wf (base_R hin) H0_known (base_free hn _) base_globs hv2 with ⟨h1, h2⟩ | ⟨cv, w', h1, h2⟩
      · exact .inl ⟨h1, Calls.mono h2 fun e w' ⟨cv, he, hp⟩ => ⟨cv, he, post hp⟩⟩
      · exact .inr ⟨cv, w', h1, post h2⟩
    · exact hc.sound f args H v H1 ρ C w cargs h hm hwf hR hK hF hG hv

/-! ### Tables -/
noncomputable def tabOf {α : Type} (l : List (Nat × α)) : Tr α := List.rec (motive := fun _ => Tr α) .leaf (fun p _ ih => ih.set p.1 p.2) l
theorem tabOf_get {α : Type} {f : Nat} {x : α} : ∀ {l : List (Nat × α)}, (tabOf l).get f = some x → (f, x) ∈ l
  | [], h => by rw [show tabOf ([] : List (Nat × α)) = .leaf from rfl, Tr.get_leaf] at h; cases h
  | p :: r, h => by
    have h : ((tabOf r).set p.1 p.2).get f = some x := h
    rw [Tr.get_set] at h
    split at h
    · rename_i e; cases h; subst e; exact List.mem_cons_self ..
    · exact List.mem_cons_of_mem _ (tabOf_get h)
def RowOk (P : Program) (p : Nat × IFn) : Prop := ∃ g, P.funcs[p.1]? = some g ∧ fnOf P g = some p.2
theorem tabOf_ok {l : List (Nat × IFn)} (h : ∀ p, p ∈ l → RowOk P p) : TableOk P (tabOf l) := fun f fn hf => h (f, fn) (tabOf_get hf)
theorem rows_nil : ∀ p, p ∈ ([] : List (Nat × IFn)) → RowOk P p := fun _ h => by cases h
theorem rows_cons {k : Nat} {fn : IFn} {g : Func} {l : List (Nat × IFn)} (h1 : P.funcs[k]? = some g) (h2 : fnOf P g = some fn) (h : ∀ p, p ∈ l → RowOk P p) : ∀ p, p ∈ (k, fn) :: l → RowOk P p := fun p hp => by
  rcases List.mem_cons.1 hp with rfl | hp
  · exact ⟨g, h1, h2⟩
  · exact h p hp
theorem rows_append {l m : List (Nat × IFn)} (h : ∀ p, p ∈ l → RowOk P p) (k : ∀ p, p ∈ m → RowOk P p) : ∀ p, p ∈ l ++ m → RowOk P p := fun p hp => (List.mem_append.1 hp).elim (h p) (k p)
end

/-- is it a result, and true? -/
noncomputable def okT (r : Res) : Bool := Res.rec (motive := fun _ => Bool) (fun v _ => AVal.rec (motive_1 := fun _ => Bool) (motive_2 := fun _ => Unit) (fun b => b) (fun _ _ => false) (fun _ _ => false) (fun _ _ _ => false) false (fun _ _ _ _ _ => false) false (fun _ _ => false) (fun _ _ => false) (fun _ _ _ => false) false (fun _ _ _ => false) false (fun _ => false) false false () (fun _ _ _ _ => ()) v) (fun _ => false) r
theorem okT_ok {r : Res} (h : okT r = true) : ∃ H, r = .ok (.bool true) H := by
  cases r with
  | err n => cases h
  | ok v H =>
    cases v with
    | bool b => cases b with
      | true => exact ⟨H, rfl⟩
      | false => cases h
    | _ => cases h
end Go.Ev
