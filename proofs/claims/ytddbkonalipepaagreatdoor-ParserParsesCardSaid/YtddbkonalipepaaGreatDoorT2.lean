/- The program's functions, turned into instructions: part 2. It holds without any condition. -/
import Derived.Test.YtddbkonalipepaaGreatDoorChecked
import Derived.KernelRfl
import Derived.Test.YtddbkonalipepaaGreatDoorS12
namespace Go.Proofs.YtddbkonalipepaaGreatDoor
open Go Go.Ev Go.Ev.Pp
set_option maxRecDepth 100000
set_option maxHeartbeats 4000000
theorem fn173 : uL Tryz.prog Tryz.f173 = some XF := by kernel_rfl
theorem fn174 : uL Tryz.prog Tryz.f174 = some XG := by kernel_rfl
theorem fn175 : uL Tryz.prog Tryz.f175 = some XH := by kernel_rfl
theorem fn176 : uL Tryz.prog Tryz.f176 = some XI := by kernel_rfl
theorem fn177 : uL Tryz.prog Tryz.f177 = some XJ := by kernel_rfl
theorem fn179 : uL Tryz.prog Tryz.f179 = some XK := by kernel_rfl
theorem fn180 : uL Tryz.prog Tryz.f180 = some XL := by kernel_rfl
theorem fn181 : uL Tryz.prog Tryz.f181 = some XM := by kernel_rfl
theorem fn182 : uL Tryz.prog Tryz.f182 = some XN := by kernel_rfl
theorem fn183 : uL Tryz.prog Tryz.f183 = some XO := by kernel_rfl
theorem fn184 : uL Tryz.prog Tryz.f184 = some XP := by kernel_rfl
theorem fn185 : uL Tryz.prog Tryz.f185 = some XQ := by kernel_rfl
theorem fn186 : uL Tryz.prog Tryz.f186 = some XR := by kernel_rfl
theorem fn187 : uL Tryz.prog Tryz.f187 = some XS := by kernel_rfl
theorem fn190 : uL Tryz.prog Tryz.f190 = some XT := by kernel_rfl
theorem fn191 : uL Tryz.prog Tryz.f191 = some XU := by kernel_rfl
theorem fn192 : uL Tryz.prog Tryz.f192 = some XV := by kernel_rfl
theorem fn198 : uL Tryz.prog Tryz.f198 = some XW := by kernel_rfl
theorem fn199 : uL Tryz.prog Tryz.f199 = some XX := by kernel_rfl
theorem fn203 : uL Tryz.prog Tryz.f203 = some XY := by kernel_rfl
theorem fn205 : uL Tryz.prog Tryz.f205 = some XZ := by kernel_rfl
theorem fn206 : uL Tryz.prog Tryz.f206 = some X1 := by kernel_rfl
theorem fn207 : uL Tryz.prog Tryz.f207 = some X2 := by kernel_rfl
theorem fn208 : uL Tryz.prog Tryz.f208 = some X3 := by kernel_rfl
theorem fn209 : uL Tryz.prog Tryz.f209 = some X4 := by kernel_rfl
theorem fn211 : uL Tryz.prog Tryz.f211 = some X5 := by kernel_rfl
theorem fn212 : uL Tryz.prog Tryz.f212 = some X6 := by kernel_rfl
theorem fn213 : uL Tryz.prog Tryz.f213 = some X7 := by kernel_rfl
theorem fn214 : uL Tryz.prog Tryz.f214 = some X8 := by kernel_rfl
theorem fn215 : uL Tryz.prog Tryz.f215 = some X9 := by kernel_rfl
theorem fn216 : uL Tryz.prog Tryz.f216 = some Ya := by kernel_rfl
theorem fn217 : uL Tryz.prog Tryz.f217 = some Yb := by kernel_rfl
theorem fn229 : uL Tryz.prog Tryz.f229 = some Yc := by kernel_rfl
theorem fn234 : uL Tryz.prog Tryz.f234 = some Yd := by kernel_rfl
theorem fn235 : uL Tryz.prog Tryz.f235 = some Ye := by kernel_rfl
theorem fn236 : uL Tryz.prog Tryz.f236 = some Yf := by kernel_rfl
theorem fn238 : uL Tryz.prog Tryz.f238 = some Yg := by kernel_rfl
theorem fn239 : uL Tryz.prog Tryz.f239 = some Yh := by kernel_rfl
theorem fn240 : uL Tryz.prog Tryz.f240 = some Yi := by kernel_rfl
theorem fn241 : uL Tryz.prog Tryz.f241 = some Yj := by kernel_rfl
theorem fn247 : uL Tryz.prog Tryz.f247 = some Yk := by kernel_rfl
theorem fn248 : uL Tryz.prog Tryz.f248 = some Yl := by kernel_rfl
theorem fn249 : uL Tryz.prog Tryz.f249 = some Ym := by kernel_rfl
theorem fn250 : uL Tryz.prog Tryz.f250 = some Yn := by kernel_rfl
theorem fn251 : uL Tryz.prog Tryz.f251 = some Yo := by kernel_rfl
theorem fn252 : uL Tryz.prog Tryz.f252 = some Yp := by kernel_rfl
theorem fn253 : uL Tryz.prog Tryz.f253 = some Yq := by kernel_rfl
theorem fn254 : uL Tryz.prog Tryz.f254 = some Yr := by kernel_rfl
theorem fn255 : uL Tryz.prog Tryz.f255 = some Ys := by kernel_rfl
theorem fn256 : uL Tryz.prog Tryz.f256 = some Yt := by kernel_rfl
theorem fn257 : uL Tryz.prog Tryz.f257 = some Yu := by kernel_rfl
noncomputable def rows2 : List (Nat × bD) := [(173, XF), (174, XG), (175, XH), (176, XI), (177, XJ), (179, XK), (180, XL), (181, XM), (182, XN), (183, XO), (184, XP), (185, XQ), (186, XR), (187, XS), (190, XT), (191, XU), (192, XV), (198, XW), (199, XX), (203, XY), (205, XZ), (206, X1), (207, X2), (208, X3), (209, X4), (211, X5), (212, X6), (213, X7), (214, X8), (215, X9), (216, Ya), (217, Yb), (229, Yc), (234, Yd), (235, Ye), (236, Yf), (238, Yg), (239, Yh), (240, Yi), (241, Yj), (247, Yk), (248, Yl), (249, Ym), (250, Yn), (251, Yo), (252, Yp), (253, Yq), (254, Yr), (255, Ys), (256, Yt), (257, Yu)]
theorem rows2_ok : ∀ p, p ∈ rows2 → vU Tryz.prog p :=
  rows_cons Tryz.func173 fn173 <|
  rows_cons Tryz.func174 fn174 <|
  rows_cons Tryz.func175 fn175 <|
  rows_cons Tryz.func176 fn176 <|
  rows_cons Tryz.func177 fn177 <|
  rows_cons Tryz.func179 fn179 <|
  rows_cons Tryz.func180 fn180 <|
  rows_cons Tryz.func181 fn181 <|
  rows_cons Tryz.func182 fn182 <|
  rows_cons Tryz.func183 fn183 <|
  rows_cons Tryz.func184 fn184 <|
  rows_cons Tryz.func185 fn185 <|
  rows_cons Tryz.func186 fn186 <|
  rows_cons Tryz.func187 fn187 <|
  rows_cons Tryz.func190 fn190 <|
  rows_cons Tryz.func191 fn191 <|
  rows_cons Tryz.func192 fn192 <|
  rows_cons Tryz.func198 fn198 <|
  rows_cons Tryz.func199 fn199 <|
  rows_cons Tryz.func203 fn203 <|
  rows_cons Tryz.func205 fn205 <|
  rows_cons Tryz.func206 fn206 <|
  rows_cons Tryz.func207 fn207 <|
  rows_cons Tryz.func208 fn208 <|
  rows_cons Tryz.func209 fn209 <|
  rows_cons Tryz.func211 fn211 <|
  rows_cons Tryz.func212 fn212 <|
  rows_cons Tryz.func213 fn213 <|
  rows_cons Tryz.func214 fn214 <|
  rows_cons Tryz.func215 fn215 <|
  rows_cons Tryz.func216 fn216 <|
  rows_cons Tryz.func217 fn217 <|
  rows_cons Tryz.func229 fn229 <|
  rows_cons Tryz.func234 fn234 <|
  rows_cons Tryz.func235 fn235 <|
  rows_cons Tryz.func236 fn236 <|
  rows_cons Tryz.func238 fn238 <|
  rows_cons Tryz.func239 fn239 <|
  rows_cons Tryz.func240 fn240 <|
  rows_cons Tryz.func241 fn241 <|
  rows_cons Tryz.func247 fn247 <|
  rows_cons Tryz.func248 fn248 <|
  rows_cons Tryz.func249 fn249 <|
  rows_cons Tryz.func250 fn250 <|
  rows_cons Tryz.func251 fn251 <|
  rows_cons Tryz.func252 fn252 <|
  rows_cons Tryz.func253 fn253 <|
  rows_cons Tryz.func254 fn254 <|
  rows_cons Tryz.func255 fn255 <|
  rows_cons Tryz.func256 fn256 <|
  rows_cons Tryz.func257 fn257 <|
  rows_nil
end Go.Proofs.YtddbkonalipepaaGreatDoor
