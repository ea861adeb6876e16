/- The program's functions, turned into instructions: part 0. It holds without any condition. -/
import Derived.Test.YtddbkonalipepaaGreatDoorChecked
import Derived.KernelRfl
import Derived.Test.YtddbkonalipepaaGreatDoorS12
namespace Go.Proofs.YtddbkonalipepaaGreatDoor
open Go Go.Ev Go.Ev.Pp
set_option maxRecDepth 100000
set_option maxHeartbeats 4000000
theorem fn3 : uL Tryz.prog Tryz.f3 = some i3 := by kernel_rfl
theorem fn5 : uL Tryz.prog Tryz.f5 = some i5 := by kernel_rfl
theorem fn6 : uL Tryz.prog Tryz.f6 = some i6 := by kernel_rfl
theorem fn7 : uL Tryz.prog Tryz.f7 = some i7 := by kernel_rfl
theorem fn10 : uL Tryz.prog Tryz.f10 = some i10 := by kernel_rfl
theorem fn11 : uL Tryz.prog Tryz.f11 = some i11 := by kernel_rfl
theorem fn12 : uL Tryz.prog Tryz.f12 = some i12 := by kernel_rfl
theorem fn13 : uL Tryz.prog Tryz.f13 = some i13 := by kernel_rfl
theorem fn14 : uL Tryz.prog Tryz.f14 = some i14 := by kernel_rfl
theorem fn15 : uL Tryz.prog Tryz.f15 = some i15 := by kernel_rfl
theorem fn16 : uL Tryz.prog Tryz.f16 = some i16 := by kernel_rfl
theorem fn27 : uL Tryz.prog Tryz.f27 = some i27 := by kernel_rfl
theorem fn28 : uL Tryz.prog Tryz.f28 = some i28 := by kernel_rfl
theorem fn29 : uL Tryz.prog Tryz.f29 = some i29 := by kernel_rfl
theorem fn30 : uL Tryz.prog Tryz.f30 = some i30 := by kernel_rfl
theorem fn31 : uL Tryz.prog Tryz.f31 = some i31 := by kernel_rfl
theorem fn32 : uL Tryz.prog Tryz.f32 = some i32 := by kernel_rfl
theorem fn33 : uL Tryz.prog Tryz.f33 = some i33 := by kernel_rfl
theorem fn34 : uL Tryz.prog Tryz.f34 = some i34 := by kernel_rfl
theorem fn35 : uL Tryz.prog Tryz.f35 = some i35 := by kernel_rfl
theorem fn36 : uL Tryz.prog Tryz.f36 = some i36 := by kernel_rfl
theorem fn37 : uL Tryz.prog Tryz.f37 = some i37 := by kernel_rfl
theorem fn38 : uL Tryz.prog Tryz.f38 = some i38 := by kernel_rfl
theorem fn39 : uL Tryz.prog Tryz.f39 = some i39 := by kernel_rfl
theorem fn40 : uL Tryz.prog Tryz.f40 = some i40 := by kernel_rfl
theorem fn41 : uL Tryz.prog Tryz.f41 = some i41 := by kernel_rfl
theorem fn42 : uL Tryz.prog Tryz.f42 = some i42 := by kernel_rfl
theorem fn69 : uL Tryz.prog Tryz.f69 = some i69 := by kernel_rfl
theorem fn72 : uL Tryz.prog Tryz.f72 = some i72 := by kernel_rfl
theorem fn77 : uL Tryz.prog Tryz.f77 = some i77 := by kernel_rfl
theorem fn78 : uL Tryz.prog Tryz.f78 = some i78 := by kernel_rfl
theorem fn79 : uL Tryz.prog Tryz.f79 = some i79 := by kernel_rfl
theorem fn80 : uL Tryz.prog Tryz.f80 = some hO := by kernel_rfl
theorem fn81 : uL Tryz.prog Tryz.f81 = some i81 := by kernel_rfl
theorem fn82 : uL Tryz.prog Tryz.f82 = some i82 := by kernel_rfl
theorem fn83 : uL Tryz.prog Tryz.f83 = some i83 := by kernel_rfl
theorem fn84 : uL Tryz.prog Tryz.f84 = some i84 := by kernel_rfl
theorem fn85 : uL Tryz.prog Tryz.f85 = some i85 := by kernel_rfl
theorem fn86 : uL Tryz.prog Tryz.f86 = some i86 := by kernel_rfl
theorem fn87 : uL Tryz.prog Tryz.f87 = some i87 := by kernel_rfl
theorem fn88 : uL Tryz.prog Tryz.f88 = some i88 := by kernel_rfl
theorem fn89 : uL Tryz.prog Tryz.f89 = some i89 := by kernel_rfl
theorem fn90 : uL Tryz.prog Tryz.f90 = some i90 := by kernel_rfl
theorem fn91 : uL Tryz.prog Tryz.f91 = some i91 := by kernel_rfl
theorem fn92 : uL Tryz.prog Tryz.f92 = some i92 := by kernel_rfl
theorem fn93 : uL Tryz.prog Tryz.f93 = some i93 := by kernel_rfl
theorem fn94 : uL Tryz.prog Tryz.f94 = some i94 := by kernel_rfl
theorem fn95 : uL Tryz.prog Tryz.f95 = some i95 := by kernel_rfl
theorem fn96 : uL Tryz.prog Tryz.f96 = some i96 := by kernel_rfl
theorem fn97 : uL Tryz.prog Tryz.f97 = some i97 := by kernel_rfl
theorem fn98 : uL Tryz.prog Tryz.f98 = some i98 := by kernel_rfl
noncomputable def rows0 : List (Nat × bD) := [(3, i3), (5, i5), (6, i6), (7, i7), (10, i10), (11, i11), (12, i12), (13, i13), (14, i14), (15, i15), (16, i16), (27, i27), (28, i28), (29, i29), (30, i30), (31, i31), (32, i32), (33, i33), (34, i34), (35, i35), (36, i36), (37, i37), (38, i38), (39, i39), (40, i40), (41, i41), (42, i42), (69, i69), (72, i72), (77, i77), (78, i78), (79, i79), (80, hO), (81, i81), (82, i82), (83, i83), (84, i84), (85, i85), (86, i86), (87, i87), (88, i88), (89, i89), (90, i90), (91, i91), (92, i92), (93, i93), (94, i94), (95, i95), (96, i96), (97, i97), (98, i98)]
theorem rows0_ok : ∀ p, p ∈ rows0 → vU Tryz.prog p :=
  rows_cons Tryz.func3 fn3 <|
  rows_cons Tryz.func5 fn5 <|
  rows_cons Tryz.func6 fn6 <|
  rows_cons Tryz.func7 fn7 <|
  rows_cons Tryz.func10 fn10 <|
  rows_cons Tryz.func11 fn11 <|
  rows_cons Tryz.func12 fn12 <|
  rows_cons Tryz.func13 fn13 <|
  rows_cons Tryz.func14 fn14 <|
  rows_cons Tryz.func15 fn15 <|
  rows_cons Tryz.func16 fn16 <|
  rows_cons Tryz.func27 fn27 <|
  rows_cons Tryz.func28 fn28 <|
  rows_cons Tryz.func29 fn29 <|
  rows_cons Tryz.func30 fn30 <|
  rows_cons Tryz.func31 fn31 <|
  rows_cons Tryz.func32 fn32 <|
  rows_cons Tryz.func33 fn33 <|
  rows_cons Tryz.func34 fn34 <|
  rows_cons Tryz.func35 fn35 <|
  rows_cons Tryz.func36 fn36 <|
  rows_cons Tryz.func37 fn37 <|
  rows_cons Tryz.func38 fn38 <|
  rows_cons Tryz.func39 fn39 <|
  rows_cons Tryz.func40 fn40 <|
  rows_cons Tryz.func41 fn41 <|
  rows_cons Tryz.func42 fn42 <|
  rows_cons Tryz.func69 fn69 <|
  rows_cons Tryz.func72 fn72 <|
  rows_cons Tryz.func77 fn77 <|
  rows_cons Tryz.func78 fn78 <|
  rows_cons Tryz.func79 fn79 <|
  rows_cons Tryz.func80 fn80 <|
  rows_cons Tryz.func81 fn81 <|
  rows_cons Tryz.func82 fn82 <|
  rows_cons Tryz.func83 fn83 <|
  rows_cons Tryz.func84 fn84 <|
  rows_cons Tryz.func85 fn85 <|
  rows_cons Tryz.func86 fn86 <|
  rows_cons Tryz.func87 fn87 <|
  rows_cons Tryz.func88 fn88 <|
  rows_cons Tryz.func89 fn89 <|
  rows_cons Tryz.func90 fn90 <|
  rows_cons Tryz.func91 fn91 <|
  rows_cons Tryz.func92 fn92 <|
  rows_cons Tryz.func93 fn93 <|
  rows_cons Tryz.func94 fn94 <|
  rows_cons Tryz.func95 fn95 <|
  rows_cons Tryz.func96 fn96 <|
  rows_cons Tryz.func97 fn97 <|
  rows_cons Tryz.func98 fn98 <|
  rows_nil
end Go.Proofs.YtddbkonalipepaaGreatDoor
