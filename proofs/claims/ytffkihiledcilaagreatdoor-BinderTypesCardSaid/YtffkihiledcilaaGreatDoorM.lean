/- The table of the program's functions is the program's; the sanity check of these laws returns true. -/
import Derived.Test.YtffkihiledcilaaGreatDoorI2
namespace Go.Proofs.YtffkihiledcilaaGreatDoor
open Go Go.Ev
set_option maxRecDepth 100000

noncomputable def ft0 : Tr IFn := tabOf (rows0 ++ (rows1 ++ (rows2)))
theorem ft0_ok : TableOk Tryz.prog ft0 := tabOf_ok (rows_append rows0_ok (rows_append rows1_ok (rows2_ok)))
noncomputable def xt0 : Tr Nat := tabOf [(240, 0), (214, 1)]
theorem xt0_ok : ExtOk Tryz.prog xt0 := fun f c h => by
  have h := tabOf_get h
  simp only [List.mem_cons, Prod.mk.injEq, List.not_mem_nil, or_false] at h
  rcases h with ⟨rfl, rfl⟩ | ⟨rfl, rfl⟩
  · exact .inl ⟨Tryz.f240, Tryz.func240, by kernel_rfl, by kernel_rfl, by kernel_rfl, _, rfl, by kernel_rfl⟩
  · exact .inl ⟨Tryz.f214, Tryz.func214, by kernel_rfl, by kernel_rfl, by kernel_rfl, _, rfl, by kernel_rfl⟩
theorem mix : Tryz.prog.follows .mixedOrders = true := by kernel_rfl
theorem low : Tryz.prog.globals.size = 8 := by kernel_rfl
noncomputable def call0 : CallF := evF ft0 xt0 1000000000 1000
theorem call0_ok : CallOk Tryz.prog call0 := evF_ok mix ft0_ok xt0_ok 1000
theorem awake_true : okT (call0 4 [] (H0 1000)) = true := by kernel_rfl
theorem awake_ok : TrueOk Tryz.prog 4 := by
  obtain ⟨H, h⟩ := okT_ok awake_true
  exact trueOk_of call0_ok (by rw [low]; decide) h
noncomputable def rowsT : List (Nat × IFn) := [(3, i3), (5, i5), (6, i6), (12, i12), (13, i13), (14, i14), (15, i15), (21, i21), (30, i30), (36, i36), (48, i48), (49, i49), (75, i75), (76, i76), (101, i101), (174, i174)]
theorem rowsT_ok : ∀ p, p ∈ rowsT → RowOk Tryz.prog p :=
  rows_cons Tryz.func3 fn3 <|
  rows_cons Tryz.func5 fn5 <|
  rows_cons Tryz.func6 fn6 <|
  rows_cons Tryz.func12 fn12 <|
  rows_cons Tryz.func13 fn13 <|
  rows_cons Tryz.func14 fn14 <|
  rows_cons Tryz.func15 fn15 <|
  rows_cons Tryz.func21 fn21 <|
  rows_cons Tryz.func30 fn30 <|
  rows_cons Tryz.func36 fn36 <|
  rows_cons Tryz.func48 fn48 <|
  rows_cons Tryz.func49 fn49 <|
  rows_cons Tryz.func75 fn75 <|
  rows_cons Tryz.func76 fn76 <|
  rows_cons Tryz.func101 fn101 <|
  rows_cons Tryz.func174 fn174 <|
  rows_nil
noncomputable def ft1 : Tr IFn := tabOf rowsT
theorem ft1_ok : TableOk Tryz.prog ft1 := tabOf_ok rowsT_ok
noncomputable def xt1 : Tr Nat := tabOf [(4, 2)]
theorem xt1_ok : ExtOk Tryz.prog xt1 := fun f c h => by
  have h := tabOf_get h
  simp only [List.mem_cons, Prod.mk.injEq, List.not_mem_nil, or_false] at h
  obtain ⟨rfl, rfl⟩ := h
  exact .inr ⟨rfl, awake_ok⟩
noncomputable def TT : Tab := ⟨ft1, xt1⟩
end Go.Proofs.YtffkihiledcilaaGreatDoor
