/- The program's functions, turned into instructions: part 2. It holds without any condition. -/
import Derived.Test.YtijnechfhdlgiaaGreatDoorChecked
import Derived.KernelRfl
import Derived.Test.YtijnechfhdlgiaaGreatDoorS12
namespace Go.Proofs.YtijnechfhdlgiaaGreatDoor
open Go Go.Ev Go.Ev.Pp
set_option maxRecDepth 100000
set_option maxHeartbeats 4000000
theorem fn200 : uO Tryz.prog Tryz.f200 = some Yh := by kernel_rfl
theorem fn201 : uO Tryz.prog Tryz.f201 = some Yi := by kernel_rfl
theorem fn202 : uO Tryz.prog Tryz.f202 = some Yj := by kernel_rfl
theorem fn203 : uO Tryz.prog Tryz.f203 = some Yk := by kernel_rfl
theorem fn204 : uO Tryz.prog Tryz.f204 = some Yl := by kernel_rfl
theorem fn205 : uO Tryz.prog Tryz.f205 = some Ym := by kernel_rfl
theorem fn206 : uO Tryz.prog Tryz.f206 = some Yn := by kernel_rfl
theorem fn208 : uO Tryz.prog Tryz.f208 = some Yo := by kernel_rfl
theorem fn209 : uO Tryz.prog Tryz.f209 = some Yp := by kernel_rfl
theorem fn210 : uO Tryz.prog Tryz.f210 = some Yq := by kernel_rfl
theorem fn211 : uO Tryz.prog Tryz.f211 = some Yr := by kernel_rfl
theorem fn212 : uO Tryz.prog Tryz.f212 = some Ys := by kernel_rfl
theorem fn213 : uO Tryz.prog Tryz.f213 = some Yt := by kernel_rfl
theorem fn214 : uO Tryz.prog Tryz.f214 = some Yu := by kernel_rfl
theorem fn215 : uO Tryz.prog Tryz.f215 = some Yv := by kernel_rfl
theorem fn216 : uO Tryz.prog Tryz.f216 = some Yw := by kernel_rfl
theorem fn219 : uO Tryz.prog Tryz.f219 = some Yx := by kernel_rfl
theorem fn220 : uO Tryz.prog Tryz.f220 = some Yy := by kernel_rfl
theorem fn221 : uO Tryz.prog Tryz.f221 = some Yz := by kernel_rfl
theorem fn227 : uO Tryz.prog Tryz.f227 = some YA := by kernel_rfl
theorem fn228 : uO Tryz.prog Tryz.f228 = some YB := by kernel_rfl
theorem fn232 : uO Tryz.prog Tryz.f232 = some YC := by kernel_rfl
theorem fn234 : uO Tryz.prog Tryz.f234 = some YD := by kernel_rfl
theorem fn235 : uO Tryz.prog Tryz.f235 = some YE := by kernel_rfl
theorem fn236 : uO Tryz.prog Tryz.f236 = some YF := by kernel_rfl
theorem fn237 : uO Tryz.prog Tryz.f237 = some YG := by kernel_rfl
theorem fn238 : uO Tryz.prog Tryz.f238 = some YH := by kernel_rfl
theorem fn240 : uO Tryz.prog Tryz.f240 = some YI := by kernel_rfl
theorem fn241 : uO Tryz.prog Tryz.f241 = some YJ := by kernel_rfl
theorem fn242 : uO Tryz.prog Tryz.f242 = some YK := by kernel_rfl
theorem fn243 : uO Tryz.prog Tryz.f243 = some YL := by kernel_rfl
theorem fn244 : uO Tryz.prog Tryz.f244 = some YM := by kernel_rfl
theorem fn245 : uO Tryz.prog Tryz.f245 = some YN := by kernel_rfl
theorem fn246 : uO Tryz.prog Tryz.f246 = some YO := by kernel_rfl
theorem fn258 : uO Tryz.prog Tryz.f258 = some YP := by kernel_rfl
theorem fn263 : uO Tryz.prog Tryz.f263 = some YQ := by kernel_rfl
theorem fn265 : uO Tryz.prog Tryz.f265 = some YS := by kernel_rfl
theorem fn266 : uO Tryz.prog Tryz.f266 = some YT := by kernel_rfl
theorem fn267 : uO Tryz.prog Tryz.f267 = some YU := by kernel_rfl
theorem fn268 : uO Tryz.prog Tryz.f268 = some YV := by kernel_rfl
theorem fn274 : uO Tryz.prog Tryz.f274 = some YW := by kernel_rfl
theorem fn275 : uO Tryz.prog Tryz.f275 = some YX := by kernel_rfl
theorem fn276 : uO Tryz.prog Tryz.f276 = some YY := by kernel_rfl
theorem fn277 : uO Tryz.prog Tryz.f277 = some YZ := by kernel_rfl
theorem fn278 : uO Tryz.prog Tryz.f278 = some Y0 := by kernel_rfl
theorem fn279 : uO Tryz.prog Tryz.f279 = some Y1 := by kernel_rfl
theorem fn280 : uO Tryz.prog Tryz.f280 = some Y2 := by kernel_rfl
theorem fn281 : uO Tryz.prog Tryz.f281 = some Y3 := by kernel_rfl
theorem fn282 : uO Tryz.prog Tryz.f282 = some Y4 := by kernel_rfl
theorem fn283 : uO Tryz.prog Tryz.f283 = some Y5 := by kernel_rfl
noncomputable def rows2 : List (Nat × bA) := [(200, Yh), (201, Yi), (202, Yj), (203, Yk), (204, Yl), (205, Ym), (206, Yn), (208, Yo), (209, Yp), (210, Yq), (211, Yr), (212, Ys), (213, Yt), (214, Yu), (215, Yv), (216, Yw), (219, Yx), (220, Yy), (221, Yz), (227, YA), (228, YB), (232, YC), (234, YD), (235, YE), (236, YF), (237, YG), (238, YH), (240, YI), (241, YJ), (242, YK), (243, YL), (244, YM), (245, YN), (246, YO), (258, YP), (263, YQ), (265, YS), (266, YT), (267, YU), (268, YV), (274, YW), (275, YX), (276, YY), (277, YZ), (278, Y0), (279, Y1), (280, Y2), (281, Y3), (282, Y4), (283, Y5)]
theorem rows2_ok : ∀ p, p ∈ rows2 → vV Tryz.prog p :=
  rows_cons Tryz.func200 fn200 <|
  rows_cons Tryz.func201 fn201 <|
  rows_cons Tryz.func202 fn202 <|
  rows_cons Tryz.func203 fn203 <|
  rows_cons Tryz.func204 fn204 <|
  rows_cons Tryz.func205 fn205 <|
  rows_cons Tryz.func206 fn206 <|
  rows_cons Tryz.func208 fn208 <|
  rows_cons Tryz.func209 fn209 <|
  rows_cons Tryz.func210 fn210 <|
  rows_cons Tryz.func211 fn211 <|
  rows_cons Tryz.func212 fn212 <|
  rows_cons Tryz.func213 fn213 <|
  rows_cons Tryz.func214 fn214 <|
  rows_cons Tryz.func215 fn215 <|
  rows_cons Tryz.func216 fn216 <|
  rows_cons Tryz.func219 fn219 <|
  rows_cons Tryz.func220 fn220 <|
  rows_cons Tryz.func221 fn221 <|
  rows_cons Tryz.func227 fn227 <|
  rows_cons Tryz.func228 fn228 <|
  rows_cons Tryz.func232 fn232 <|
  rows_cons Tryz.func234 fn234 <|
  rows_cons Tryz.func235 fn235 <|
  rows_cons Tryz.func236 fn236 <|
  rows_cons Tryz.func237 fn237 <|
  rows_cons Tryz.func238 fn238 <|
  rows_cons Tryz.func240 fn240 <|
  rows_cons Tryz.func241 fn241 <|
  rows_cons Tryz.func242 fn242 <|
  rows_cons Tryz.func243 fn243 <|
  rows_cons Tryz.func244 fn244 <|
  rows_cons Tryz.func245 fn245 <|
  rows_cons Tryz.func246 fn246 <|
  rows_cons Tryz.func258 fn258 <|
  rows_cons Tryz.func263 fn263 <|
  rows_cons Tryz.func265 fn265 <|
  rows_cons Tryz.func266 fn266 <|
  rows_cons Tryz.func267 fn267 <|
  rows_cons Tryz.func268 fn268 <|
  rows_cons Tryz.func274 fn274 <|
  rows_cons Tryz.func275 fn275 <|
  rows_cons Tryz.func276 fn276 <|
  rows_cons Tryz.func277 fn277 <|
  rows_cons Tryz.func278 fn278 <|
  rows_cons Tryz.func279 fn279 <|
  rows_cons Tryz.func280 fn280 <|
  rows_cons Tryz.func281 fn281 <|
  rows_cons Tryz.func282 fn282 <|
  rows_cons Tryz.func283 fn283 <|
  rows_nil
end Go.Proofs.YtijnechfhdlgiaaGreatDoor
