/- The program's functions, turned into instructions: part 0. It holds without any condition. -/
import Derived.Test.YtijnechfhdlgiaaGreatDoorChecked
import Derived.KernelRfl
import Derived.Test.YtijnechfhdlgiaaGreatDoorS12
namespace Go.Proofs.YtijnechfhdlgiaaGreatDoor
open Go Go.Ev Go.Ev.Pp
set_option maxRecDepth 100000
set_option maxHeartbeats 4000000
theorem fn3 : uO Tryz.prog Tryz.f3 = some i3 := by kernel_rfl
theorem fn7 : uO Tryz.prog Tryz.f7 = some i7 := by kernel_rfl
theorem fn8 : uO Tryz.prog Tryz.f8 = some i8 := by kernel_rfl
theorem fn13 : uO Tryz.prog Tryz.f13 = some i13 := by kernel_rfl
theorem fn14 : uO Tryz.prog Tryz.f14 = some i14 := by kernel_rfl
theorem fn17 : uO Tryz.prog Tryz.f17 = some i17 := by kernel_rfl
theorem fn18 : uO Tryz.prog Tryz.f18 = some i18 := by kernel_rfl
theorem fn19 : uO Tryz.prog Tryz.f19 = some i19 := by kernel_rfl
theorem fn20 : uO Tryz.prog Tryz.f20 = some i20 := by kernel_rfl
theorem fn21 : uO Tryz.prog Tryz.f21 = some i21 := by kernel_rfl
theorem fn28 : uO Tryz.prog Tryz.f28 = some i28 := by kernel_rfl
theorem fn29 : uO Tryz.prog Tryz.f29 = some i29 := by kernel_rfl
theorem fn30 : uO Tryz.prog Tryz.f30 = some i30 := by kernel_rfl
theorem fn41 : uO Tryz.prog Tryz.f41 = some i41 := by kernel_rfl
theorem fn42 : uO Tryz.prog Tryz.f42 = some i42 := by kernel_rfl
theorem fn43 : uO Tryz.prog Tryz.f43 = some i43 := by kernel_rfl
theorem fn44 : uO Tryz.prog Tryz.f44 = some i44 := by kernel_rfl
theorem fn45 : uO Tryz.prog Tryz.f45 = some i45 := by kernel_rfl
theorem fn46 : uO Tryz.prog Tryz.f46 = some i46 := by kernel_rfl
theorem fn47 : uO Tryz.prog Tryz.f47 = some i47 := by kernel_rfl
theorem fn48 : uO Tryz.prog Tryz.f48 = some i48 := by kernel_rfl
theorem fn49 : uO Tryz.prog Tryz.f49 = some i49 := by kernel_rfl
theorem fn56 : uO Tryz.prog Tryz.f56 = some i56 := by kernel_rfl
theorem fn57 : uO Tryz.prog Tryz.f57 = some i57 := by kernel_rfl
theorem fn58 : uO Tryz.prog Tryz.f58 = some i58 := by kernel_rfl
theorem fn59 : uO Tryz.prog Tryz.f59 = some i59 := by kernel_rfl
theorem fn60 : uO Tryz.prog Tryz.f60 = some i60 := by kernel_rfl
theorem fn61 : uO Tryz.prog Tryz.f61 = some i61 := by kernel_rfl
theorem fn62 : uO Tryz.prog Tryz.f62 = some i62 := by kernel_rfl
theorem fn63 : uO Tryz.prog Tryz.f63 = some i63 := by kernel_rfl
theorem fn64 : uO Tryz.prog Tryz.f64 = some i64 := by kernel_rfl
theorem fn91 : uO Tryz.prog Tryz.f91 = some i91 := by kernel_rfl
theorem fn94 : uO Tryz.prog Tryz.f94 = some i94 := by kernel_rfl
theorem fn99 : uO Tryz.prog Tryz.f99 = some hM := by kernel_rfl
theorem fn100 : uO Tryz.prog Tryz.f100 = some W7 := by kernel_rfl
theorem fn101 : uO Tryz.prog Tryz.f101 = some W8 := by kernel_rfl
theorem fn102 : uO Tryz.prog Tryz.f102 = some W9 := by kernel_rfl
theorem fn103 : uO Tryz.prog Tryz.f103 = some Xa := by kernel_rfl
theorem fn104 : uO Tryz.prog Tryz.f104 = some Xb := by kernel_rfl
theorem fn105 : uO Tryz.prog Tryz.f105 = some Xc := by kernel_rfl
theorem fn106 : uO Tryz.prog Tryz.f106 = some Xd := by kernel_rfl
theorem fn107 : uO Tryz.prog Tryz.f107 = some Xe := by kernel_rfl
theorem fn113 : uO Tryz.prog Tryz.f113 = some Xf := by kernel_rfl
theorem fn114 : uO Tryz.prog Tryz.f114 = some Xg := by kernel_rfl
theorem fn115 : uO Tryz.prog Tryz.f115 = some Xh := by kernel_rfl
theorem fn116 : uO Tryz.prog Tryz.f116 = some Xi := by kernel_rfl
theorem fn117 : uO Tryz.prog Tryz.f117 = some Xj := by kernel_rfl
theorem fn118 : uO Tryz.prog Tryz.f118 = some Xk := by kernel_rfl
theorem fn119 : uO Tryz.prog Tryz.f119 = some Xl := by kernel_rfl
theorem fn120 : uO Tryz.prog Tryz.f120 = some Xm := by kernel_rfl
theorem fn121 : uO Tryz.prog Tryz.f121 = some Xn := by kernel_rfl
theorem fn122 : uO Tryz.prog Tryz.f122 = some Xo := by kernel_rfl
noncomputable def rows0 : List (Nat × bA) := [(3, i3), (7, i7), (8, i8), (13, i13), (14, i14), (17, i17), (18, i18), (19, i19), (20, i20), (21, i21), (28, i28), (29, i29), (30, i30), (41, i41), (42, i42), (43, i43), (44, i44), (45, i45), (46, i46), (47, i47), (48, i48), (49, i49), (56, i56), (57, i57), (58, i58), (59, i59), (60, i60), (61, i61), (62, i62), (63, i63), (64, i64), (91, i91), (94, i94), (99, hM), (100, W7), (101, W8), (102, W9), (103, Xa), (104, Xb), (105, Xc), (106, Xd), (107, Xe), (113, Xf), (114, Xg), (115, Xh), (116, Xi), (117, Xj), (118, Xk), (119, Xl), (120, Xm), (121, Xn), (122, Xo)]
theorem rows0_ok : ∀ p, p ∈ rows0 → vV Tryz.prog p :=
  rows_cons Tryz.func3 fn3 <|
  rows_cons Tryz.func7 fn7 <|
  rows_cons Tryz.func8 fn8 <|
  rows_cons Tryz.func13 fn13 <|
  rows_cons Tryz.func14 fn14 <|
  rows_cons Tryz.func17 fn17 <|
  rows_cons Tryz.func18 fn18 <|
  rows_cons Tryz.func19 fn19 <|
  rows_cons Tryz.func20 fn20 <|
  rows_cons Tryz.func21 fn21 <|
  rows_cons Tryz.func28 fn28 <|
  rows_cons Tryz.func29 fn29 <|
  rows_cons Tryz.func30 fn30 <|
  rows_cons Tryz.func41 fn41 <|
  rows_cons Tryz.func42 fn42 <|
  rows_cons Tryz.func43 fn43 <|
  rows_cons Tryz.func44 fn44 <|
  rows_cons Tryz.func45 fn45 <|
  rows_cons Tryz.func46 fn46 <|
  rows_cons Tryz.func47 fn47 <|
  rows_cons Tryz.func48 fn48 <|
  rows_cons Tryz.func49 fn49 <|
  rows_cons Tryz.func56 fn56 <|
  rows_cons Tryz.func57 fn57 <|
  rows_cons Tryz.func58 fn58 <|
  rows_cons Tryz.func59 fn59 <|
  rows_cons Tryz.func60 fn60 <|
  rows_cons Tryz.func61 fn61 <|
  rows_cons Tryz.func62 fn62 <|
  rows_cons Tryz.func63 fn63 <|
  rows_cons Tryz.func64 fn64 <|
  rows_cons Tryz.func91 fn91 <|
  rows_cons Tryz.func94 fn94 <|
  rows_cons Tryz.func99 fn99 <|
  rows_cons Tryz.func100 fn100 <|
  rows_cons Tryz.func101 fn101 <|
  rows_cons Tryz.func102 fn102 <|
  rows_cons Tryz.func103 fn103 <|
  rows_cons Tryz.func104 fn104 <|
  rows_cons Tryz.func105 fn105 <|
  rows_cons Tryz.func106 fn106 <|
  rows_cons Tryz.func107 fn107 <|
  rows_cons Tryz.func113 fn113 <|
  rows_cons Tryz.func114 fn114 <|
  rows_cons Tryz.func115 fn115 <|
  rows_cons Tryz.func116 fn116 <|
  rows_cons Tryz.func117 fn117 <|
  rows_cons Tryz.func118 fn118 <|
  rows_cons Tryz.func119 fn119 <|
  rows_cons Tryz.func120 fn120 <|
  rows_cons Tryz.func121 fn121 <|
  rows_cons Tryz.func122 fn122 <|
  rows_nil
end Go.Proofs.YtijnechfhdlgiaaGreatDoor
