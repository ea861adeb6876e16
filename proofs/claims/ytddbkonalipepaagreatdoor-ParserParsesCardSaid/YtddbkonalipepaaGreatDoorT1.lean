/- The program's functions, turned into instructions: part 1. It holds without any condition. -/
import Derived.Test.YtddbkonalipepaaGreatDoorChecked
import Derived.KernelRfl
import Derived.Test.YtddbkonalipepaaGreatDoorS12
namespace Go.Proofs.YtddbkonalipepaaGreatDoor
open Go Go.Ev Go.Ev.Pp
set_option maxRecDepth 100000
set_option maxHeartbeats 4000000
theorem fn99 : uL Tryz.prog Tryz.f99 = some i99 := by kernel_rfl
theorem fn100 : uL Tryz.prog Tryz.f100 = some WO := by kernel_rfl
theorem fn101 : uL Tryz.prog Tryz.f101 = some WQ := by kernel_rfl
theorem fn102 : uL Tryz.prog Tryz.f102 = some WR := by kernel_rfl
theorem fn110 : uL Tryz.prog Tryz.f110 = some WS := by kernel_rfl
theorem fn116 : uL Tryz.prog Tryz.f116 = some WT := by kernel_rfl
theorem fn117 : uL Tryz.prog Tryz.f117 = some WU := by kernel_rfl
theorem fn118 : uL Tryz.prog Tryz.f118 = some WV := by kernel_rfl
theorem fn119 : uL Tryz.prog Tryz.f119 = some WW := by kernel_rfl
theorem fn120 : uL Tryz.prog Tryz.f120 = some WX := by kernel_rfl
theorem fn121 : uL Tryz.prog Tryz.f121 = some WY := by kernel_rfl
theorem fn122 : uL Tryz.prog Tryz.f122 = some WZ := by kernel_rfl
theorem fn123 : uL Tryz.prog Tryz.f123 = some W0 := by kernel_rfl
theorem fn124 : uL Tryz.prog Tryz.f124 = some W2 := by kernel_rfl
theorem fn125 : uL Tryz.prog Tryz.f125 = some W3 := by kernel_rfl
theorem fn126 : uL Tryz.prog Tryz.f126 = some W4 := by kernel_rfl
theorem fn127 : uL Tryz.prog Tryz.f127 = some W5 := by kernel_rfl
theorem fn128 : uL Tryz.prog Tryz.f128 = some W6 := by kernel_rfl
theorem fn129 : uL Tryz.prog Tryz.f129 = some W7 := by kernel_rfl
theorem fn130 : uL Tryz.prog Tryz.f130 = some W8 := by kernel_rfl
theorem fn131 : uL Tryz.prog Tryz.f131 = some W9 := by kernel_rfl
theorem fn132 : uL Tryz.prog Tryz.f132 = some Xa := by kernel_rfl
theorem fn133 : uL Tryz.prog Tryz.f133 = some Xb := by kernel_rfl
theorem fn134 : uL Tryz.prog Tryz.f134 = some Xc := by kernel_rfl
theorem fn135 : uL Tryz.prog Tryz.f135 = some Xd := by kernel_rfl
theorem fn136 : uL Tryz.prog Tryz.f136 = some Xe := by kernel_rfl
theorem fn137 : uL Tryz.prog Tryz.f137 = some Xf := by kernel_rfl
theorem fn138 : uL Tryz.prog Tryz.f138 = some Xg := by kernel_rfl
theorem fn139 : uL Tryz.prog Tryz.f139 = some Xh := by kernel_rfl
theorem fn140 : uL Tryz.prog Tryz.f140 = some Xi := by kernel_rfl
theorem fn141 : uL Tryz.prog Tryz.f141 = some Xj := by kernel_rfl
theorem fn142 : uL Tryz.prog Tryz.f142 = some Xk := by kernel_rfl
theorem fn143 : uL Tryz.prog Tryz.f143 = some Xl := by kernel_rfl
theorem fn144 : uL Tryz.prog Tryz.f144 = some Xm := by kernel_rfl
theorem fn145 : uL Tryz.prog Tryz.f145 = some Xn := by kernel_rfl
theorem fn146 : uL Tryz.prog Tryz.f146 = some Xo := by kernel_rfl
theorem fn147 : uL Tryz.prog Tryz.f147 = some Xp := by kernel_rfl
theorem fn148 : uL Tryz.prog Tryz.f148 = some Xq := by kernel_rfl
theorem fn149 : uL Tryz.prog Tryz.f149 = some Xr := by kernel_rfl
theorem fn150 : uL Tryz.prog Tryz.f150 = some Xs := by kernel_rfl
theorem fn151 : uL Tryz.prog Tryz.f151 = some Xt := by kernel_rfl
theorem fn152 : uL Tryz.prog Tryz.f152 = some Xu := by kernel_rfl
theorem fn153 : uL Tryz.prog Tryz.f153 = some Xv := by kernel_rfl
theorem fn155 : uL Tryz.prog Tryz.f155 = some Xw := by kernel_rfl
theorem fn156 : uL Tryz.prog Tryz.f156 = some Xx := by kernel_rfl
theorem fn157 : uL Tryz.prog Tryz.f157 = some Xy := by kernel_rfl
theorem fn168 : uL Tryz.prog Tryz.f168 = some Xz := by kernel_rfl
theorem fn169 : uL Tryz.prog Tryz.f169 = some XA := by kernel_rfl
theorem fn170 : uL Tryz.prog Tryz.f170 = some XC := by kernel_rfl
theorem fn171 : uL Tryz.prog Tryz.f171 = some XD := by kernel_rfl
theorem fn172 : uL Tryz.prog Tryz.f172 = some XE := by kernel_rfl
noncomputable def rows1 : List (Nat × bD) := [(99, i99), (100, WO), (101, WQ), (102, WR), (110, WS), (116, WT), (117, WU), (118, WV), (119, WW), (120, WX), (121, WY), (122, WZ), (123, W0), (124, W2), (125, W3), (126, W4), (127, W5), (128, W6), (129, W7), (130, W8), (131, W9), (132, Xa), (133, Xb), (134, Xc), (135, Xd), (136, Xe), (137, Xf), (138, Xg), (139, Xh), (140, Xi), (141, Xj), (142, Xk), (143, Xl), (144, Xm), (145, Xn), (146, Xo), (147, Xp), (148, Xq), (149, Xr), (150, Xs), (151, Xt), (152, Xu), (153, Xv), (155, Xw), (156, Xx), (157, Xy), (168, Xz), (169, XA), (170, XC), (171, XD), (172, XE)]
theorem rows1_ok : ∀ p, p ∈ rows1 → vU Tryz.prog p :=
  rows_cons Tryz.func99 fn99 <|
  rows_cons Tryz.func100 fn100 <|
  rows_cons Tryz.func101 fn101 <|
  rows_cons Tryz.func102 fn102 <|
  rows_cons Tryz.func110 fn110 <|
  rows_cons Tryz.func116 fn116 <|
  rows_cons Tryz.func117 fn117 <|
  rows_cons Tryz.func118 fn118 <|
  rows_cons Tryz.func119 fn119 <|
  rows_cons Tryz.func120 fn120 <|
  rows_cons Tryz.func121 fn121 <|
  rows_cons Tryz.func122 fn122 <|
  rows_cons Tryz.func123 fn123 <|
  rows_cons Tryz.func124 fn124 <|
  rows_cons Tryz.func125 fn125 <|
  rows_cons Tryz.func126 fn126 <|
  rows_cons Tryz.func127 fn127 <|
  rows_cons Tryz.func128 fn128 <|
  rows_cons Tryz.func129 fn129 <|
  rows_cons Tryz.func130 fn130 <|
  rows_cons Tryz.func131 fn131 <|
  rows_cons Tryz.func132 fn132 <|
  rows_cons Tryz.func133 fn133 <|
  rows_cons Tryz.func134 fn134 <|
  rows_cons Tryz.func135 fn135 <|
  rows_cons Tryz.func136 fn136 <|
  rows_cons Tryz.func137 fn137 <|
  rows_cons Tryz.func138 fn138 <|
  rows_cons Tryz.func139 fn139 <|
  rows_cons Tryz.func140 fn140 <|
  rows_cons Tryz.func141 fn141 <|
  rows_cons Tryz.func142 fn142 <|
  rows_cons Tryz.func143 fn143 <|
  rows_cons Tryz.func144 fn144 <|
  rows_cons Tryz.func145 fn145 <|
  rows_cons Tryz.func146 fn146 <|
  rows_cons Tryz.func147 fn147 <|
  rows_cons Tryz.func148 fn148 <|
  rows_cons Tryz.func149 fn149 <|
  rows_cons Tryz.func150 fn150 <|
  rows_cons Tryz.func151 fn151 <|
  rows_cons Tryz.func152 fn152 <|
  rows_cons Tryz.func153 fn153 <|
  rows_cons Tryz.func155 fn155 <|
  rows_cons Tryz.func156 fn156 <|
  rows_cons Tryz.func157 fn157 <|
  rows_cons Tryz.func168 fn168 <|
  rows_cons Tryz.func169 fn169 <|
  rows_cons Tryz.func170 fn170 <|
  rows_cons Tryz.func171 fn171 <|
  rows_cons Tryz.func172 fn172 <|
  rows_nil
end Go.Proofs.YtddbkonalipepaaGreatDoor
