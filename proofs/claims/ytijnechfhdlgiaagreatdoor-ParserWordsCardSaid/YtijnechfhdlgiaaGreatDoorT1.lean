/- The program's functions, turned into instructions: part 1. It holds without any condition. -/
import Derived.Test.YtijnechfhdlgiaaGreatDoorChecked
import Derived.KernelRfl
import Derived.Test.YtijnechfhdlgiaaGreatDoorS12
namespace Go.Proofs.YtijnechfhdlgiaaGreatDoor
open Go Go.Ev Go.Ev.Pp
set_option maxRecDepth 100000
set_option maxHeartbeats 4000000
theorem fn123 : uO Tryz.prog Tryz.f123 = some Xp := by kernel_rfl
theorem fn124 : uO Tryz.prog Tryz.f124 = some Xq := by kernel_rfl
theorem fn125 : uO Tryz.prog Tryz.f125 = some Xr := by kernel_rfl
theorem fn126 : uO Tryz.prog Tryz.f126 = some Xs := by kernel_rfl
theorem fn127 : uO Tryz.prog Tryz.f127 = some Xt := by kernel_rfl
theorem fn128 : uO Tryz.prog Tryz.f128 = some Xu := by kernel_rfl
theorem fn129 : uO Tryz.prog Tryz.f129 = some Xv := by kernel_rfl
theorem fn130 : uO Tryz.prog Tryz.f130 = some Xw := by kernel_rfl
theorem fn131 : uO Tryz.prog Tryz.f131 = some Xx := by kernel_rfl
theorem fn132 : uO Tryz.prog Tryz.f132 = some Xy := by kernel_rfl
theorem fn140 : uO Tryz.prog Tryz.f140 = some Xz := by kernel_rfl
theorem fn146 : uO Tryz.prog Tryz.f146 = some XA := by kernel_rfl
theorem fn147 : uO Tryz.prog Tryz.f147 = some XC := by kernel_rfl
theorem fn148 : uO Tryz.prog Tryz.f148 = some XD := by kernel_rfl
theorem fn149 : uO Tryz.prog Tryz.f149 = some XE := by kernel_rfl
theorem fn150 : uO Tryz.prog Tryz.f150 = some XF := by kernel_rfl
theorem fn151 : uO Tryz.prog Tryz.f151 = some XG := by kernel_rfl
theorem fn152 : uO Tryz.prog Tryz.f152 = some XH := by kernel_rfl
theorem fn153 : uO Tryz.prog Tryz.f153 = some XI := by kernel_rfl
theorem fn154 : uO Tryz.prog Tryz.f154 = some XJ := by kernel_rfl
theorem fn155 : uO Tryz.prog Tryz.f155 = some XK := by kernel_rfl
theorem fn156 : uO Tryz.prog Tryz.f156 = some XL := by kernel_rfl
theorem fn157 : uO Tryz.prog Tryz.f157 = some XM := by kernel_rfl
theorem fn158 : uO Tryz.prog Tryz.f158 = some XN := by kernel_rfl
theorem fn159 : uO Tryz.prog Tryz.f159 = some XO := by kernel_rfl
theorem fn160 : uO Tryz.prog Tryz.f160 = some XP := by kernel_rfl
theorem fn161 : uO Tryz.prog Tryz.f161 = some XQ := by kernel_rfl
theorem fn162 : uO Tryz.prog Tryz.f162 = some XR := by kernel_rfl
theorem fn165 : uO Tryz.prog Tryz.f165 = some XS := by kernel_rfl
theorem fn166 : uO Tryz.prog Tryz.f166 = some XT := by kernel_rfl
theorem fn167 : uO Tryz.prog Tryz.f167 = some XU := by kernel_rfl
theorem fn168 : uO Tryz.prog Tryz.f168 = some XV := by kernel_rfl
theorem fn169 : uO Tryz.prog Tryz.f169 = some XW := by kernel_rfl
theorem fn170 : uO Tryz.prog Tryz.f170 = some XX := by kernel_rfl
theorem fn171 : uO Tryz.prog Tryz.f171 = some XY := by kernel_rfl
theorem fn172 : uO Tryz.prog Tryz.f172 = some XZ := by kernel_rfl
theorem fn173 : uO Tryz.prog Tryz.f173 = some X1 := by kernel_rfl
theorem fn174 : uO Tryz.prog Tryz.f174 = some X2 := by kernel_rfl
theorem fn175 : uO Tryz.prog Tryz.f175 = some X3 := by kernel_rfl
theorem fn176 : uO Tryz.prog Tryz.f176 = some X4 := by kernel_rfl
theorem fn177 : uO Tryz.prog Tryz.f177 = some X5 := by kernel_rfl
theorem fn178 : uO Tryz.prog Tryz.f178 = some X6 := by kernel_rfl
theorem fn179 : uO Tryz.prog Tryz.f179 = some X7 := by kernel_rfl
theorem fn180 : uO Tryz.prog Tryz.f180 = some X8 := by kernel_rfl
theorem fn181 : uO Tryz.prog Tryz.f181 = some X9 := by kernel_rfl
theorem fn183 : uO Tryz.prog Tryz.f183 = some Ya := by kernel_rfl
theorem fn184 : uO Tryz.prog Tryz.f184 = some Yb := by kernel_rfl
theorem fn185 : uO Tryz.prog Tryz.f185 = some Yc := by kernel_rfl
theorem fn196 : uO Tryz.prog Tryz.f196 = some Yd := by kernel_rfl
theorem fn197 : uO Tryz.prog Tryz.f197 = some Ye := by kernel_rfl
theorem fn198 : uO Tryz.prog Tryz.f198 = some Yf := by kernel_rfl
theorem fn199 : uO Tryz.prog Tryz.f199 = some Yg := by kernel_rfl
noncomputable def rows1 : List (Nat × bA) := [(123, Xp), (124, Xq), (125, Xr), (126, Xs), (127, Xt), (128, Xu), (129, Xv), (130, Xw), (131, Xx), (132, Xy), (140, Xz), (146, XA), (147, XC), (148, XD), (149, XE), (150, XF), (151, XG), (152, XH), (153, XI), (154, XJ), (155, XK), (156, XL), (157, XM), (158, XN), (159, XO), (160, XP), (161, XQ), (162, XR), (165, XS), (166, XT), (167, XU), (168, XV), (169, XW), (170, XX), (171, XY), (172, XZ), (173, X1), (174, X2), (175, X3), (176, X4), (177, X5), (178, X6), (179, X7), (180, X8), (181, X9), (183, Ya), (184, Yb), (185, Yc), (196, Yd), (197, Ye), (198, Yf), (199, Yg)]
theorem rows1_ok : ∀ p, p ∈ rows1 → vV Tryz.prog p :=
  rows_cons Tryz.func123 fn123 <|
  rows_cons Tryz.func124 fn124 <|
  rows_cons Tryz.func125 fn125 <|
  rows_cons Tryz.func126 fn126 <|
  rows_cons Tryz.func127 fn127 <|
  rows_cons Tryz.func128 fn128 <|
  rows_cons Tryz.func129 fn129 <|
  rows_cons Tryz.func130 fn130 <|
  rows_cons Tryz.func131 fn131 <|
  rows_cons Tryz.func132 fn132 <|
  rows_cons Tryz.func140 fn140 <|
  rows_cons Tryz.func146 fn146 <|
  rows_cons Tryz.func147 fn147 <|
  rows_cons Tryz.func148 fn148 <|
  rows_cons Tryz.func149 fn149 <|
  rows_cons Tryz.func150 fn150 <|
  rows_cons Tryz.func151 fn151 <|
  rows_cons Tryz.func152 fn152 <|
  rows_cons Tryz.func153 fn153 <|
  rows_cons Tryz.func154 fn154 <|
  rows_cons Tryz.func155 fn155 <|
  rows_cons Tryz.func156 fn156 <|
  rows_cons Tryz.func157 fn157 <|
  rows_cons Tryz.func158 fn158 <|
  rows_cons Tryz.func159 fn159 <|
  rows_cons Tryz.func160 fn160 <|
  rows_cons Tryz.func161 fn161 <|
  rows_cons Tryz.func162 fn162 <|
  rows_cons Tryz.func165 fn165 <|
  rows_cons Tryz.func166 fn166 <|
  rows_cons Tryz.func167 fn167 <|
  rows_cons Tryz.func168 fn168 <|
  rows_cons Tryz.func169 fn169 <|
  rows_cons Tryz.func170 fn170 <|
  rows_cons Tryz.func171 fn171 <|
  rows_cons Tryz.func172 fn172 <|
  rows_cons Tryz.func173 fn173 <|
  rows_cons Tryz.func174 fn174 <|
  rows_cons Tryz.func175 fn175 <|
  rows_cons Tryz.func176 fn176 <|
  rows_cons Tryz.func177 fn177 <|
  rows_cons Tryz.func178 fn178 <|
  rows_cons Tryz.func179 fn179 <|
  rows_cons Tryz.func180 fn180 <|
  rows_cons Tryz.func181 fn181 <|
  rows_cons Tryz.func183 fn183 <|
  rows_cons Tryz.func184 fn184 <|
  rows_cons Tryz.func185 fn185 <|
  rows_cons Tryz.func196 fn196 <|
  rows_cons Tryz.func197 fn197 <|
  rows_cons Tryz.func198 fn198 <|
  rows_cons Tryz.func199 fn199 <|
  rows_nil
end Go.Proofs.YtijnechfhdlgiaaGreatDoor
