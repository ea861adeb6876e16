/- The program's functions, turned into instructions: part 3. It holds without any condition. -/
import Derived.Test.YtddbkonalipepaaGreatDoorChecked
import Derived.KernelRfl
import Derived.Test.YtddbkonalipepaaGreatDoorS12
namespace Go.Proofs.YtddbkonalipepaaGreatDoor
open Go Go.Ev Go.Ev.Pp
set_option maxRecDepth 100000
set_option maxHeartbeats 4000000
noncomputable def jf3 (f : Func) : bD := (uL Tryz.prog f).getD ⟨0, [], [], .skip⟩
theorem jf3_ok {k : Nat} {g : Func} {l : List (Nat × bD)} (h1 : Tryz.prog.funcs[k]? = some g) (h2 : (uL Tryz.prog g).isSome = true) (h : ∀ p, p ∈ l → vU Tryz.prog p) : ∀ p, p ∈ (k, jf3 g) :: l → vU Tryz.prog p :=
  rows_cons h1 (by unfold jf3; cases e : uL Tryz.prog g with
    | none => rw [e] at h2; cases h2
    | some x => rfl) h
noncomputable def rows3 : List (Nat × bD) := [(4, jf3 Tryz.f4), (8, jf3 Tryz.f8), (9, jf3 Tryz.f9), (17, jf3 Tryz.f17), (18, jf3 Tryz.f18), (19, jf3 Tryz.f19), (20, jf3 Tryz.f20), (21, jf3 Tryz.f21), (22, jf3 Tryz.f22), (23, jf3 Tryz.f23), (24, jf3 Tryz.f24), (25, jf3 Tryz.f25), (26, jf3 Tryz.f26), (43, jf3 Tryz.f43), (44, jf3 Tryz.f44), (45, jf3 Tryz.f45), (46, jf3 Tryz.f46), (47, jf3 Tryz.f47), (48, jf3 Tryz.f48), (49, jf3 Tryz.f49), (50, jf3 Tryz.f50), (51, jf3 Tryz.f51), (52, jf3 Tryz.f52), (53, jf3 Tryz.f53), (54, jf3 Tryz.f54), (55, jf3 Tryz.f55), (56, jf3 Tryz.f56), (57, jf3 Tryz.f57), (58, jf3 Tryz.f58), (59, jf3 Tryz.f59), (60, jf3 Tryz.f60), (61, jf3 Tryz.f61), (62, jf3 Tryz.f62), (63, jf3 Tryz.f63), (64, jf3 Tryz.f64), (65, jf3 Tryz.f65), (66, jf3 Tryz.f66), (67, jf3 Tryz.f67), (68, jf3 Tryz.f68), (70, jf3 Tryz.f70), (71, jf3 Tryz.f71), (73, jf3 Tryz.f73), (74, jf3 Tryz.f74), (75, jf3 Tryz.f75), (76, jf3 Tryz.f76), (103, jf3 Tryz.f103), (104, jf3 Tryz.f104), (105, jf3 Tryz.f105), (106, jf3 Tryz.f106)]
theorem rows3_ok : ∀ p, p ∈ rows3 → vU Tryz.prog p :=
  jf3_ok Tryz.func4 (by kernel_rfl) <|
  jf3_ok Tryz.func8 (by kernel_rfl) <|
  jf3_ok Tryz.func9 (by kernel_rfl) <|
  jf3_ok Tryz.func17 (by kernel_rfl) <|
  jf3_ok Tryz.func18 (by kernel_rfl) <|
  jf3_ok Tryz.func19 (by kernel_rfl) <|
  jf3_ok Tryz.func20 (by kernel_rfl) <|
  jf3_ok Tryz.func21 (by kernel_rfl) <|
  jf3_ok Tryz.func22 (by kernel_rfl) <|
  jf3_ok Tryz.func23 (by kernel_rfl) <|
  jf3_ok Tryz.func24 (by kernel_rfl) <|
  jf3_ok Tryz.func25 (by kernel_rfl) <|
  jf3_ok Tryz.func26 (by kernel_rfl) <|
  jf3_ok Tryz.func43 (by kernel_rfl) <|
  jf3_ok Tryz.func44 (by kernel_rfl) <|
  jf3_ok Tryz.func45 (by kernel_rfl) <|
  jf3_ok Tryz.func46 (by kernel_rfl) <|
  jf3_ok Tryz.func47 (by kernel_rfl) <|
  jf3_ok Tryz.func48 (by kernel_rfl) <|
  jf3_ok Tryz.func49 (by kernel_rfl) <|
  jf3_ok Tryz.func50 (by kernel_rfl) <|
  jf3_ok Tryz.func51 (by kernel_rfl) <|
  jf3_ok Tryz.func52 (by kernel_rfl) <|
  jf3_ok Tryz.func53 (by kernel_rfl) <|
  jf3_ok Tryz.func54 (by kernel_rfl) <|
  jf3_ok Tryz.func55 (by kernel_rfl) <|
  jf3_ok Tryz.func56 (by kernel_rfl) <|
  jf3_ok Tryz.func57 (by kernel_rfl) <|
  jf3_ok Tryz.func58 (by kernel_rfl) <|
  jf3_ok Tryz.func59 (by kernel_rfl) <|
  jf3_ok Tryz.func60 (by kernel_rfl) <|
  jf3_ok Tryz.func61 (by kernel_rfl) <|
  jf3_ok Tryz.func62 (by kernel_rfl) <|
  jf3_ok Tryz.func63 (by kernel_rfl) <|
  jf3_ok Tryz.func64 (by kernel_rfl) <|
  jf3_ok Tryz.func65 (by kernel_rfl) <|
  jf3_ok Tryz.func66 (by kernel_rfl) <|
  jf3_ok Tryz.func67 (by kernel_rfl) <|
  jf3_ok Tryz.func68 (by kernel_rfl) <|
  jf3_ok Tryz.func70 (by kernel_rfl) <|
  jf3_ok Tryz.func71 (by kernel_rfl) <|
  jf3_ok Tryz.func73 (by kernel_rfl) <|
  jf3_ok Tryz.func74 (by kernel_rfl) <|
  jf3_ok Tryz.func75 (by kernel_rfl) <|
  jf3_ok Tryz.func76 (by kernel_rfl) <|
  jf3_ok Tryz.func103 (by kernel_rfl) <|
  jf3_ok Tryz.func104 (by kernel_rfl) <|
  jf3_ok Tryz.func105 (by kernel_rfl) <|
  jf3_ok Tryz.func106 (by kernel_rfl) <|
  rows_nil
end Go.Proofs.YtddbkonalipepaaGreatDoor
