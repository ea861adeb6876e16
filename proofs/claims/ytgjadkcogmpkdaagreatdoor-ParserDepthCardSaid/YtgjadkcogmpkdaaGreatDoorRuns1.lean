/- ParserDepth returns true: the runs for the remainders of n by 70 that are 1 modulo 7 (printed by program). They hold for every n with that remainder. -/
import Derived.Test.YtgjadkcogmpkdaaGreatDoorM
namespace Go.Proofs.YtgjadkcogmpkdaaGreatDoor
open Go Go.Ev
set_option maxRecDepth 100000
theorem r1t (a : Int) : okT (after a true (.ofNat 1) (.ofNat 1)) = true := by kernel_rfl
theorem r1f (a : Int) : okT (after a false (.ofNat 1) (.ofNat 1)) = true := by kernel_rfl
theorem r8t (a : Int) : okT (after a true (.ofNat 8) (.ofNat 8)) = true := by kernel_rfl
theorem r8f (a : Int) : okT (after a false (.ofNat 8) (.ofNat 8)) = true := by kernel_rfl
theorem r15t (a : Int) : okT (after a true (.ofNat 15) (.ofNat 15)) = true := by kernel_rfl
theorem r15f (a : Int) : okT (after a false (.ofNat 15) (.ofNat 15)) = true := by kernel_rfl
theorem r22t (a : Int) : okT (after a true (.ofNat 22) (.ofNat 22)) = true := by kernel_rfl
theorem r22f (a : Int) : okT (after a false (.ofNat 22) (.ofNat 22)) = true := by kernel_rfl
theorem r29t (a : Int) : okT (after a true (.ofNat 29) (.ofNat 29)) = true := by kernel_rfl
theorem r29f (a : Int) : okT (after a false (.ofNat 29) (.ofNat 29)) = true := by kernel_rfl
theorem r36t (a : Int) : okT (after a true (.ofNat 36) (.ofNat 36)) = true := by kernel_rfl
theorem r36f (a : Int) : okT (after a false (.ofNat 36) (.ofNat 36)) = true := by kernel_rfl
theorem r43t (a : Int) : okT (after a true (.ofNat 43) (.ofNat 43)) = true := by kernel_rfl
theorem r43f (a : Int) : okT (after a false (.ofNat 43) (.ofNat 43)) = true := by kernel_rfl
theorem r50t (a : Int) : okT (after a true (.ofNat 50) (.ofNat 50)) = true := by kernel_rfl
theorem r50f (a : Int) : okT (after a false (.ofNat 50) (.ofNat 50)) = true := by kernel_rfl
theorem r57t (a : Int) : okT (after a true (.ofNat 57) (.ofNat 57)) = true := by kernel_rfl
theorem r57f (a : Int) : okT (after a false (.ofNat 57) (.ofNat 57)) = true := by kernel_rfl
theorem r64t (a : Int) : okT (after a true (.ofNat 64) (.ofNat 64)) = true := by kernel_rfl
theorem r64f (a : Int) : okT (after a false (.ofNat 64) (.ofNat 64)) = true := by kernel_rfl
end Go.Proofs.YtgjadkcogmpkdaaGreatDoor
