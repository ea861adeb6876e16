/- ParserDepth returns true: the runs for the remainders of n by 70 that are 5 modulo 7 (printed by program). They hold for every n with that remainder. -/
import Derived.Test.YtgjadkcogmpkdaaGreatDoorM
namespace Go.Proofs.YtgjadkcogmpkdaaGreatDoor
open Go Go.Ev
set_option maxRecDepth 100000
theorem r5t (a : Int) : okT (after a true (.ofNat 5) (.ofNat 5)) = true := by kernel_rfl
theorem r5f (a : Int) : okT (after a false (.ofNat 5) (.ofNat 5)) = true := by kernel_rfl
theorem r12t (a : Int) : okT (after a true (.ofNat 12) (.ofNat 12)) = true := by kernel_rfl
theorem r12f (a : Int) : okT (after a false (.ofNat 12) (.ofNat 12)) = true := by kernel_rfl
theorem r19t (a : Int) : okT (after a true (.ofNat 19) (.ofNat 19)) = true := by kernel_rfl
theorem r19f (a : Int) : okT (after a false (.ofNat 19) (.ofNat 19)) = true := by kernel_rfl
theorem r26t (a : Int) : okT (after a true (.ofNat 26) (.ofNat 26)) = true := by kernel_rfl
theorem r26f (a : Int) : okT (after a false (.ofNat 26) (.ofNat 26)) = true := by kernel_rfl
theorem r33t (a : Int) : okT (after a true (.ofNat 33) (.ofNat 33)) = true := by kernel_rfl
theorem r33f (a : Int) : okT (after a false (.ofNat 33) (.ofNat 33)) = true := by kernel_rfl
theorem r40t (a : Int) : okT (after a true (.ofNat 40) (.ofNat 40)) = true := by kernel_rfl
theorem r40f (a : Int) : okT (after a false (.ofNat 40) (.ofNat 40)) = true := by kernel_rfl
theorem r47t (a : Int) : okT (after a true (.ofNat 47) (.ofNat 47)) = true := by kernel_rfl
theorem r47f (a : Int) : okT (after a false (.ofNat 47) (.ofNat 47)) = true := by kernel_rfl
theorem r54t (a : Int) : okT (after a true (.ofNat 54) (.ofNat 54)) = true := by kernel_rfl
theorem r54f (a : Int) : okT (after a false (.ofNat 54) (.ofNat 54)) = true := by kernel_rfl
theorem r61t (a : Int) : okT (after a true (.ofNat 61) (.ofNat 61)) = true := by kernel_rfl
theorem r61f (a : Int) : okT (after a false (.ofNat 61) (.ofNat 61)) = true := by kernel_rfl
theorem r68t (a : Int) : okT (after a true (.ofNat 68) (.ofNat 68)) = true := by kernel_rfl
theorem r68f (a : Int) : okT (after a false (.ofNat 68) (.ofNat 68)) = true := by kernel_rfl
end Go.Proofs.YtgjadkcogmpkdaaGreatDoor
