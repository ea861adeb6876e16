/- The tables of the program's functions are the program's; the sanity check of these laws returns true. It holds without any condition. -/
import Derived.Test.YtdgcofocbhbjcaaGreatChecked
import Derived.KernelRfl
import Derived.Test.YtdgcofocbhbjcaaGreatRows
import Derived.Test.YtdgcofocbhbjcaaGreatS28
import Derived.Below
import Derived.Deep.DeepHandedRow
namespace Go.Proofs.YtdgcofocbhbjcaaGreat
open Go Go.Ev Go.Ev.Pp Go.Ev.Rp
set_option linter.unusedSimpArgs false
set_option linter.unusedVariables false
set_option maxRecDepth 100000
noncomputable def jfP (P : Program) (k : Nat) : bT := match P.funcs[k]? with
  | some g => (tH P g).getD ⟨0, [], [], .skip⟩
  | none => ⟨0, [], [], .skip⟩
noncomputable def okP (P : Program) (k : Nat) : Bool := match P.funcs[k]? with
  | some g => (tH P g).isSome
  | none => false
theorem okP_row {P : Program} {k : Nat} (h : okP P k = true) : RowOk P (k, jfP P k) := by
  unfold okP at h
  unfold jfP
  cases e : P.funcs[k]? with
  | none => rw [e] at h; cases h
  | some g =>
    rw [e] at h
    simp only at h ⊢
    cases e2 : tH P g with
    | none => rw [e2] at h; cases h
    | some x => exact ⟨g, e, e2⟩
noncomputable def tabP (P : Program) (l : List Nat) : Tr bT := Jm (l.map fun k => (k, jfP P k))
theorem tabP_ok {P : Program} {l : List Nat} (h : ∀ k, k ∈ l → okP P k = true) : Md P (tabP P l) := tabOf_ok fun p hp => by
  obtain ⟨k, hk, rfl⟩ := List.mem_map.1 hp
  exact okP_row (h k hk)
theorem all2 {P : Program} {l m : List Nat} (h : ∀ k, k ∈ l → okP P k = true) (h2 : ∀ k, k ∈ m → okP P k = true) : ∀ k, k ∈ l ++ m → okP P k = true := fun k hk => (List.mem_append.1 hk).elim (h k) (h2 k)
def kw0 : List Nat := [5,13,14,15,16,17,19,20,21,22,23,30,31,32,33,34,36,37,38,39,40,42,43,44,45,46,51,55,62,64,65]
theorem kw0_ok : ∀ k, k ∈ kw0 → okP Tryz.prog k = true := List.all_eq_true.1 (by kernel_rfl)
def kw1 : List Nat := [66,67,69,70,71,72,73,74,75,76,77,78,79,80,81,82,83,84,85,86,91,96,97,99,100,101,102,103,104,105,107]
theorem kw1_ok : ∀ k, k ∈ kw1 → okP Tryz.prog k = true := List.all_eq_true.1 (by kernel_rfl)
def kw2 : List Nat := [108,109,110,111,112,113,114,115,116,117,118,119,120,121,122,123,124,125,126,127,128,129,130,150,151,152,153,154,155,156,157]
theorem kw2_ok : ∀ k, k ∈ kw2 → okP Tryz.prog k = true := List.all_eq_true.1 (by kernel_rfl)
def kw3 : List Nat := [158,159,160,161,162,163,164,165,166,195,208,209,210,211,212,213,214,215,216,217,240,241,246,252,253,275,280,281,294,295]
theorem kw3_ok : ∀ k, k ∈ kw3 → okP Tryz.prog k = true := List.all_eq_true.1 (by kernel_rfl)
def ko0 : List Nat := [7,8,10,11,12,24,25,26,27,28,29,41,47,48,49,50,52,54,56,57,87,88]
theorem ko0_ok : ∀ k, k ∈ ko0 → okP Tryz.prog k = true := List.all_eq_true.1 (by kernel_rfl)
def ko1 : List Nat := [89,90,131,132,133,167,168,169,170,171,172,173,174,175,176,218,219,220,221,222,254]
theorem ko1_ok : ∀ k, k ∈ ko1 → okP Tryz.prog k = true := List.all_eq_true.1 (by kernel_rfl)
noncomputable def ft0 : Tr bT := tabP Tryz.prog (kw0 ++ (kw1 ++ (kw2 ++ (kw3 ++ (ko0 ++ (ko1))))))
theorem ft0_ok : Md Tryz.prog ft0 := tabP_ok (all2 kw0_ok (all2 kw1_ok (all2 kw2_ok (all2 kw3_ok (all2 ko0_ok (ko1_ok))))))
noncomputable def xt0 : Tr Nat := Jm []
theorem mix : Tryz.prog.follows .mixedOrders = true := by kernel_rfl
theorem low : Tryz.prog.globals.size = 0 := by kernel_rfl
theorem xt0_ok : Y2 Tryz.prog xt0 := fun f c h => by
  have h := Uh h
  cases h
noncomputable def call0 : dr := GA ft0 xt0 1000000000 1000
theorem call0_ok : jc Tryz.prog call0 := W3 mix ft0_ok xt0_ok 1000
theorem awake_true : okT (call0 8 [] (H0 1000)) = true := by kernel_rfl
theorem awake_ok : W2 Tryz.prog 8 := by
  obtain ⟨H, h⟩ := okT_ok awake_true
  exact trueOk_of call0_ok (by rw [low]; decide) h
noncomputable def ft1 : Tr bT := tabP Tryz.prog (kw0 ++ (kw1 ++ (kw2 ++ (kw3))))
theorem ft1_ok : Md Tryz.prog ft1 := tabP_ok (all2 kw0_ok (all2 kw1_ok (all2 kw2_ok (kw3_ok))))
noncomputable def xt1 : Tr Nat := Jm [(8, 2)]
theorem xt1_ok : Y2 Tryz.prog xt1 := fun f c h => by
  have h := Uh h
  simp only [List.mem_cons, Prod.mk.injEq, List.not_mem_nil, or_false] at h
  rcases h with ⟨rfl, rfl⟩
  · exact .inr (.inl ⟨rfl, awake_ok⟩)
noncomputable def TT : bC := ⟨ft1, xt1⟩
theorem ftT : FT TT := by constructor <;> kernel_rfl
end Go.Proofs.YtdgcofocbhbjcaaGreat
