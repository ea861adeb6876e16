/- ParserDepth returns true: the runs for the remainders of n by 70 that are 3 modulo 7 (printed by program). They hold for every n with that remainder. -/
import Derived.Test.YtgjadkcogmpkdaaGreatDoorM
namespace Go.Proofs.YtgjadkcogmpkdaaGreatDoor
open Go Go.Ev
set_option maxRecDepth 100000
theorem r3t (a : Int) : okT (after a true (.ofNat 3) (.ofNat 3)) = true := by kernel_rfl
theorem r3f (a : Int) : okT (after a false (.ofNat 3) (.ofNat 3)) = true := by kernel_rfl
theorem r10t (a : Int) : okT (after a true (.ofNat 10) (.ofNat 10)) = true := by kernel_rfl
theorem r10f (a : Int) : okT (after a false (.ofNat 10) (.ofNat 10)) = true := by kernel_rfl
theorem r17t (a : Int) : okT (after a true (.ofNat 17) (.ofNat 17)) = true := by kernel_rfl
theorem r17f (a : Int) : okT (after a false (.ofNat 17) (.ofNat 17)) = true := by kernel_rfl
theorem r24t (a : Int) : okT (after a true (.ofNat 24) (.ofNat 24)) = true := by kernel_rfl
theorem r24f (a : Int) : okT (after a false (.ofNat 24) (.ofNat 24)) = true := by kernel_rfl
theorem r31t (a : Int) : okT (after a true (.ofNat 31) (.ofNat 31)) = true := by kernel_rfl
theorem r31f (a : Int) : okT (after a false (.ofNat 31) (.ofNat 31)) = true := by kernel_rfl
theorem r38t (a : Int) : okT (after a true (.ofNat 38) (.ofNat 38)) = true := by kernel_rfl
theorem r38f (a : Int) : okT (after a false (.ofNat 38) (.ofNat 38)) = true := by kernel_rfl
theorem r45t (a : Int) : okT (after a true (.ofNat 45) (.ofNat 45)) = true := by kernel_rfl
theorem r45f (a : Int) : okT (after a false (.ofNat 45) (.ofNat 45)) = true := by kernel_rfl
theorem r52t (a : Int) : okT (after a true (.ofNat 52) (.ofNat 52)) = true := by kernel_rfl
theorem r52f (a : Int) : okT (after a false (.ofNat 52) (.ofNat 52)) = true := by kernel_rfl
theorem r59t (a : Int) : okT (after a true (.ofNat 59) (.ofNat 59)) = true := by kernel_rfl
theorem r59f (a : Int) : okT (after a false (.ofNat 59) (.ofNat 59)) = true := by kernel_rfl
theorem r66t (a : Int) : okT (after a true (.ofNat 66) (.ofNat 66)) = true := by kernel_rfl
theorem r66f (a : Int) : okT (after a false (.ofNat 66) (.ofNat 66)) = true := by kernel_rfl
end Go.Proofs.YtgjadkcogmpkdaaGreatDoor
