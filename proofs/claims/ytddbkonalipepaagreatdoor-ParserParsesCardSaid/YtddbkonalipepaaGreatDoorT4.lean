/- The program's functions, turned into instructions: part 4. It holds without any condition. -/
import Derived.Test.YtddbkonalipepaaGreatDoorChecked
import Derived.KernelRfl
import Derived.Test.YtddbkonalipepaaGreatDoorS12
namespace Go.Proofs.YtddbkonalipepaaGreatDoor
open Go Go.Ev Go.Ev.Pp
set_option maxRecDepth 100000
set_option maxHeartbeats 4000000
noncomputable def jf4 (f : Func) : bD := (uL Tryz.prog f).getD ⟨0, [], [], .skip⟩
theorem jf4_ok {k : Nat} {g : Func} {l : List (Nat × bD)} (h1 : Tryz.prog.funcs[k]? = some g) (h2 : (uL Tryz.prog g).isSome = true) (h : ∀ p, p ∈ l → vU Tryz.prog p) : ∀ p, p ∈ (k, jf4 g) :: l → vU Tryz.prog p :=
  rows_cons h1 (by unfold jf4; cases e : uL Tryz.prog g with
    | none => rw [e] at h2; cases h2
    | some x => rfl) h
noncomputable def rows4 : List (Nat × bD) := [(107, jf4 Tryz.f107), (108, jf4 Tryz.f108), (109, jf4 Tryz.f109), (111, jf4 Tryz.f111), (112, jf4 Tryz.f112), (113, jf4 Tryz.f113), (114, jf4 Tryz.f114), (115, jf4 Tryz.f115), (154, jf4 Tryz.f154), (158, jf4 Tryz.f158), (159, jf4 Tryz.f159), (160, jf4 Tryz.f160), (161, jf4 Tryz.f161), (163, jf4 Tryz.f163), (164, jf4 Tryz.f164), (165, jf4 Tryz.f165), (166, jf4 Tryz.f166), (167, jf4 Tryz.f167), (188, jf4 Tryz.f188), (189, jf4 Tryz.f189), (193, jf4 Tryz.f193), (194, jf4 Tryz.f194), (195, jf4 Tryz.f195), (196, jf4 Tryz.f196), (197, jf4 Tryz.f197), (200, jf4 Tryz.f200), (202, jf4 Tryz.f202), (204, jf4 Tryz.f204), (210, jf4 Tryz.f210), (218, jf4 Tryz.f218), (219, jf4 Tryz.f219), (220, jf4 Tryz.f220), (221, jf4 Tryz.f221), (222, jf4 Tryz.f222), (223, jf4 Tryz.f223), (224, jf4 Tryz.f224), (225, jf4 Tryz.f225), (226, jf4 Tryz.f226), (227, jf4 Tryz.f227), (228, jf4 Tryz.f228), (232, jf4 Tryz.f232), (233, jf4 Tryz.f233), (237, jf4 Tryz.f237), (242, jf4 Tryz.f242), (243, jf4 Tryz.f243), (244, jf4 Tryz.f244), (245, jf4 Tryz.f245), (246, jf4 Tryz.f246)]
theorem rows4_ok : ∀ p, p ∈ rows4 → vU Tryz.prog p :=
  jf4_ok Tryz.func107 (by kernel_rfl) <|
  jf4_ok Tryz.func108 (by kernel_rfl) <|
  jf4_ok Tryz.func109 (by kernel_rfl) <|
  jf4_ok Tryz.func111 (by kernel_rfl) <|
  jf4_ok Tryz.func112 (by kernel_rfl) <|
  jf4_ok Tryz.func113 (by kernel_rfl) <|
  jf4_ok Tryz.func114 (by kernel_rfl) <|
  jf4_ok Tryz.func115 (by kernel_rfl) <|
  jf4_ok Tryz.func154 (by kernel_rfl) <|
  jf4_ok Tryz.func158 (by kernel_rfl) <|
  jf4_ok Tryz.func159 (by kernel_rfl) <|
  jf4_ok Tryz.func160 (by kernel_rfl) <|
  jf4_ok Tryz.func161 (by kernel_rfl) <|
  jf4_ok Tryz.func163 (by kernel_rfl) <|
  jf4_ok Tryz.func164 (by kernel_rfl) <|
  jf4_ok Tryz.func165 (by kernel_rfl) <|
  jf4_ok Tryz.func166 (by kernel_rfl) <|
  jf4_ok Tryz.func167 (by kernel_rfl) <|
  jf4_ok Tryz.func188 (by kernel_rfl) <|
  jf4_ok Tryz.func189 (by kernel_rfl) <|
  jf4_ok Tryz.func193 (by kernel_rfl) <|
  jf4_ok Tryz.func194 (by kernel_rfl) <|
  jf4_ok Tryz.func195 (by kernel_rfl) <|
  jf4_ok Tryz.func196 (by kernel_rfl) <|
  jf4_ok Tryz.func197 (by kernel_rfl) <|
  jf4_ok Tryz.func200 (by kernel_rfl) <|
  jf4_ok Tryz.func202 (by kernel_rfl) <|
  jf4_ok Tryz.func204 (by kernel_rfl) <|
  jf4_ok Tryz.func210 (by kernel_rfl) <|
  jf4_ok Tryz.func218 (by kernel_rfl) <|
  jf4_ok Tryz.func219 (by kernel_rfl) <|
  jf4_ok Tryz.func220 (by kernel_rfl) <|
  jf4_ok Tryz.func221 (by kernel_rfl) <|
  jf4_ok Tryz.func222 (by kernel_rfl) <|
  jf4_ok Tryz.func223 (by kernel_rfl) <|
  jf4_ok Tryz.func224 (by kernel_rfl) <|
  jf4_ok Tryz.func225 (by kernel_rfl) <|
  jf4_ok Tryz.func226 (by kernel_rfl) <|
  jf4_ok Tryz.func227 (by kernel_rfl) <|
  jf4_ok Tryz.func228 (by kernel_rfl) <|
  jf4_ok Tryz.func232 (by kernel_rfl) <|
  jf4_ok Tryz.func233 (by kernel_rfl) <|
  jf4_ok Tryz.func237 (by kernel_rfl) <|
  jf4_ok Tryz.func242 (by kernel_rfl) <|
  jf4_ok Tryz.func243 (by kernel_rfl) <|
  jf4_ok Tryz.func244 (by kernel_rfl) <|
  jf4_ok Tryz.func245 (by kernel_rfl) <|
  jf4_ok Tryz.func246 (by kernel_rfl) <|
  rows_nil
end Go.Proofs.YtddbkonalipepaaGreatDoor
