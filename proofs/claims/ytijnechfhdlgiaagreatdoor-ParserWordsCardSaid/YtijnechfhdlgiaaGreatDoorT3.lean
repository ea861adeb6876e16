/- The program's functions, turned into instructions: part 3. It holds without any condition. -/
import Derived.Test.YtijnechfhdlgiaaGreatDoorChecked
import Derived.KernelRfl
import Derived.Test.YtijnechfhdlgiaaGreatDoorS12
namespace Go.Proofs.YtijnechfhdlgiaaGreatDoor
open Go Go.Ev Go.Ev.Pp
set_option maxRecDepth 100000
set_option maxHeartbeats 4000000
noncomputable def jf3 (f : Func) : bA := (uO Tryz.prog f).getD ⟨0, [], [], .skip⟩
theorem jf3_ok {k : Nat} {g : Func} {l : List (Nat × bA)} (h1 : Tryz.prog.funcs[k]? = some g) (h2 : (uO Tryz.prog g).isSome = true) (h : ∀ p, p ∈ l → vV Tryz.prog p) : ∀ p, p ∈ (k, jf3 g) :: l → vV Tryz.prog p :=
  rows_cons h1 (by unfold jf3; cases e : uO Tryz.prog g with
    | none => rw [e] at h2; cases h2
    | some x => rfl) h
noncomputable def rows3 : List (Nat × bA) := [(6, jf3 Tryz.f6), (15, jf3 Tryz.f15), (16, jf3 Tryz.f16), (31, jf3 Tryz.f31), (32, jf3 Tryz.f32), (33, jf3 Tryz.f33), (34, jf3 Tryz.f34), (35, jf3 Tryz.f35), (36, jf3 Tryz.f36), (37, jf3 Tryz.f37), (38, jf3 Tryz.f38), (39, jf3 Tryz.f39), (40, jf3 Tryz.f40), (65, jf3 Tryz.f65), (66, jf3 Tryz.f66), (67, jf3 Tryz.f67), (68, jf3 Tryz.f68), (69, jf3 Tryz.f69), (70, jf3 Tryz.f70), (71, jf3 Tryz.f71), (72, jf3 Tryz.f72), (73, jf3 Tryz.f73), (74, jf3 Tryz.f74), (75, jf3 Tryz.f75), (76, jf3 Tryz.f76), (77, jf3 Tryz.f77), (78, jf3 Tryz.f78), (79, jf3 Tryz.f79), (80, jf3 Tryz.f80), (81, jf3 Tryz.f81), (82, jf3 Tryz.f82), (83, jf3 Tryz.f83), (84, jf3 Tryz.f84), (85, jf3 Tryz.f85), (86, jf3 Tryz.f86), (87, jf3 Tryz.f87), (88, jf3 Tryz.f88), (89, jf3 Tryz.f89), (90, jf3 Tryz.f90), (92, jf3 Tryz.f92), (93, jf3 Tryz.f93), (95, jf3 Tryz.f95), (96, jf3 Tryz.f96), (97, jf3 Tryz.f97), (98, jf3 Tryz.f98), (133, jf3 Tryz.f133), (134, jf3 Tryz.f134), (135, jf3 Tryz.f135), (136, jf3 Tryz.f136)]
theorem rows3_ok : ∀ p, p ∈ rows3 → vV Tryz.prog p :=
  jf3_ok Tryz.func6 (by kernel_rfl) <|
  jf3_ok Tryz.func15 (by kernel_rfl) <|
  jf3_ok Tryz.func16 (by kernel_rfl) <|
  jf3_ok Tryz.func31 (by kernel_rfl) <|
  jf3_ok Tryz.func32 (by kernel_rfl) <|
  jf3_ok Tryz.func33 (by kernel_rfl) <|
  jf3_ok Tryz.func34 (by kernel_rfl) <|
  jf3_ok Tryz.func35 (by kernel_rfl) <|
  jf3_ok Tryz.func36 (by kernel_rfl) <|
  jf3_ok Tryz.func37 (by kernel_rfl) <|
  jf3_ok Tryz.func38 (by kernel_rfl) <|
  jf3_ok Tryz.func39 (by kernel_rfl) <|
  jf3_ok Tryz.func40 (by kernel_rfl) <|
  jf3_ok Tryz.func65 (by kernel_rfl) <|
  jf3_ok Tryz.func66 (by kernel_rfl) <|
  jf3_ok Tryz.func67 (by kernel_rfl) <|
  jf3_ok Tryz.func68 (by kernel_rfl) <|
  jf3_ok Tryz.func69 (by kernel_rfl) <|
  jf3_ok Tryz.func70 (by kernel_rfl) <|
  jf3_ok Tryz.func71 (by kernel_rfl) <|
  jf3_ok Tryz.func72 (by kernel_rfl) <|
  jf3_ok Tryz.func73 (by kernel_rfl) <|
  jf3_ok Tryz.func74 (by kernel_rfl) <|
  jf3_ok Tryz.func75 (by kernel_rfl) <|
  jf3_ok Tryz.func76 (by kernel_rfl) <|
  jf3_ok Tryz.func77 (by kernel_rfl) <|
  jf3_ok Tryz.func78 (by kernel_rfl) <|
  jf3_ok Tryz.func79 (by kernel_rfl) <|
  jf3_ok Tryz.func80 (by kernel_rfl) <|
  jf3_ok Tryz.func81 (by kernel_rfl) <|
  jf3_ok Tryz.func82 (by kernel_rfl) <|
  jf3_ok Tryz.func83 (by kernel_rfl) <|
  jf3_ok Tryz.func84 (by kernel_rfl) <|
  jf3_ok Tryz.func85 (by kernel_rfl) <|
  jf3_ok Tryz.func86 (by kernel_rfl) <|
  jf3_ok Tryz.func87 (by kernel_rfl) <|
  jf3_ok Tryz.func88 (by kernel_rfl) <|
  jf3_ok Tryz.func89 (by kernel_rfl) <|
  jf3_ok Tryz.func90 (by kernel_rfl) <|
  jf3_ok Tryz.func92 (by kernel_rfl) <|
  jf3_ok Tryz.func93 (by kernel_rfl) <|
  jf3_ok Tryz.func95 (by kernel_rfl) <|
  jf3_ok Tryz.func96 (by kernel_rfl) <|
  jf3_ok Tryz.func97 (by kernel_rfl) <|
  jf3_ok Tryz.func98 (by kernel_rfl) <|
  jf3_ok Tryz.func133 (by kernel_rfl) <|
  jf3_ok Tryz.func134 (by kernel_rfl) <|
  jf3_ok Tryz.func135 (by kernel_rfl) <|
  jf3_ok Tryz.func136 (by kernel_rfl) <|
  rows_nil
end Go.Proofs.YtijnechfhdlgiaaGreatDoor
