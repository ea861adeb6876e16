/- The program's functions, turned into instructions: part 4. It holds without any condition. -/
import Derived.Test.YtijnechfhdlgiaaGreatDoorChecked
import Derived.KernelRfl
import Derived.Test.YtijnechfhdlgiaaGreatDoorS12
namespace Go.Proofs.YtijnechfhdlgiaaGreatDoor
open Go Go.Ev Go.Ev.Pp
set_option maxRecDepth 100000
set_option maxHeartbeats 4000000
noncomputable def jf4 (f : Func) : bA := (uO Tryz.prog f).getD ⟨0, [], [], .skip⟩
theorem jf4_ok {k : Nat} {g : Func} {l : List (Nat × bA)} (h1 : Tryz.prog.funcs[k]? = some g) (h2 : (uO Tryz.prog g).isSome = true) (h : ∀ p, p ∈ l → vV Tryz.prog p) : ∀ p, p ∈ (k, jf4 g) :: l → vV Tryz.prog p :=
  rows_cons h1 (by unfold jf4; cases e : uO Tryz.prog g with
    | none => rw [e] at h2; cases h2
    | some x => rfl) h
noncomputable def rows4 : List (Nat × bA) := [(137, jf4 Tryz.f137), (138, jf4 Tryz.f138), (139, jf4 Tryz.f139), (141, jf4 Tryz.f141), (142, jf4 Tryz.f142), (143, jf4 Tryz.f143), (144, jf4 Tryz.f144), (145, jf4 Tryz.f145), (182, jf4 Tryz.f182), (186, jf4 Tryz.f186), (187, jf4 Tryz.f187), (188, jf4 Tryz.f188), (189, jf4 Tryz.f189), (191, jf4 Tryz.f191), (192, jf4 Tryz.f192), (193, jf4 Tryz.f193), (194, jf4 Tryz.f194), (195, jf4 Tryz.f195), (217, jf4 Tryz.f217), (218, jf4 Tryz.f218), (222, jf4 Tryz.f222), (223, jf4 Tryz.f223), (224, jf4 Tryz.f224), (225, jf4 Tryz.f225), (226, jf4 Tryz.f226), (229, jf4 Tryz.f229), (231, jf4 Tryz.f231), (233, jf4 Tryz.f233), (239, jf4 Tryz.f239), (247, jf4 Tryz.f247), (248, jf4 Tryz.f248), (249, jf4 Tryz.f249), (250, jf4 Tryz.f250), (251, jf4 Tryz.f251), (252, jf4 Tryz.f252), (253, jf4 Tryz.f253), (254, jf4 Tryz.f254), (255, jf4 Tryz.f255), (256, jf4 Tryz.f256), (257, jf4 Tryz.f257), (261, jf4 Tryz.f261), (262, jf4 Tryz.f262), (264, jf4 Tryz.f264), (269, jf4 Tryz.f269), (270, jf4 Tryz.f270), (271, jf4 Tryz.f271), (272, jf4 Tryz.f272), (273, jf4 Tryz.f273)]
theorem rows4_ok : ∀ p, p ∈ rows4 → vV Tryz.prog p :=
  jf4_ok Tryz.func137 (by kernel_rfl) <|
  jf4_ok Tryz.func138 (by kernel_rfl) <|
  jf4_ok Tryz.func139 (by kernel_rfl) <|
  jf4_ok Tryz.func141 (by kernel_rfl) <|
  jf4_ok Tryz.func142 (by kernel_rfl) <|
  jf4_ok Tryz.func143 (by kernel_rfl) <|
  jf4_ok Tryz.func144 (by kernel_rfl) <|
  jf4_ok Tryz.func145 (by kernel_rfl) <|
  jf4_ok Tryz.func182 (by kernel_rfl) <|
  jf4_ok Tryz.func186 (by kernel_rfl) <|
  jf4_ok Tryz.func187 (by kernel_rfl) <|
  jf4_ok Tryz.func188 (by kernel_rfl) <|
  jf4_ok Tryz.func189 (by kernel_rfl) <|
  jf4_ok Tryz.func191 (by kernel_rfl) <|
  jf4_ok Tryz.func192 (by kernel_rfl) <|
  jf4_ok Tryz.func193 (by kernel_rfl) <|
  jf4_ok Tryz.func194 (by kernel_rfl) <|
  jf4_ok Tryz.func195 (by kernel_rfl) <|
  jf4_ok Tryz.func217 (by kernel_rfl) <|
  jf4_ok Tryz.func218 (by kernel_rfl) <|
  jf4_ok Tryz.func222 (by kernel_rfl) <|
  jf4_ok Tryz.func223 (by kernel_rfl) <|
  jf4_ok Tryz.func224 (by kernel_rfl) <|
  jf4_ok Tryz.func225 (by kernel_rfl) <|
  jf4_ok Tryz.func226 (by kernel_rfl) <|
  jf4_ok Tryz.func229 (by kernel_rfl) <|
  jf4_ok Tryz.func231 (by kernel_rfl) <|
  jf4_ok Tryz.func233 (by kernel_rfl) <|
  jf4_ok Tryz.func239 (by kernel_rfl) <|
  jf4_ok Tryz.func247 (by kernel_rfl) <|
  jf4_ok Tryz.func248 (by kernel_rfl) <|
  jf4_ok Tryz.func249 (by kernel_rfl) <|
  jf4_ok Tryz.func250 (by kernel_rfl) <|
  jf4_ok Tryz.func251 (by kernel_rfl) <|
  jf4_ok Tryz.func252 (by kernel_rfl) <|
  jf4_ok Tryz.func253 (by kernel_rfl) <|
  jf4_ok Tryz.func254 (by kernel_rfl) <|
  jf4_ok Tryz.func255 (by kernel_rfl) <|
  jf4_ok Tryz.func256 (by kernel_rfl) <|
  jf4_ok Tryz.func257 (by kernel_rfl) <|
  jf4_ok Tryz.func261 (by kernel_rfl) <|
  jf4_ok Tryz.func262 (by kernel_rfl) <|
  jf4_ok Tryz.func264 (by kernel_rfl) <|
  jf4_ok Tryz.func269 (by kernel_rfl) <|
  jf4_ok Tryz.func270 (by kernel_rfl) <|
  jf4_ok Tryz.func271 (by kernel_rfl) <|
  jf4_ok Tryz.func272 (by kernel_rfl) <|
  jf4_ok Tryz.func273 (by kernel_rfl) <|
  rows_nil
end Go.Proofs.YtijnechfhdlgiaaGreatDoor
