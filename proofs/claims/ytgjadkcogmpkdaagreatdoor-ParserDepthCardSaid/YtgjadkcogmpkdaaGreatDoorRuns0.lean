/- ParserDepth returns true: the runs for the remainders of n by 70 that are 0 modulo 7 (printed by program). They hold for every n with that remainder. -/
import Derived.Test.YtgjadkcogmpkdaaGreatDoorM
namespace Go.Proofs.YtgjadkcogmpkdaaGreatDoor
open Go Go.Ev
set_option maxRecDepth 100000
theorem r0t (a : Int) : okT (after a true (.ofNat 0) (.ofNat 0)) = true := by kernel_rfl
theorem r0f (a : Int) : okT (after a false (.ofNat 0) (.ofNat 0)) = true := by kernel_rfl
theorem r7t (a : Int) : okT (after a true (.ofNat 7) (.ofNat 7)) = true := by kernel_rfl
theorem r7f (a : Int) : okT (after a false (.ofNat 7) (.ofNat 7)) = true := by kernel_rfl
theorem r14t (a : Int) : okT (after a true (.ofNat 14) (.ofNat 14)) = true := by kernel_rfl
theorem r14f (a : Int) : okT (after a false (.ofNat 14) (.ofNat 14)) = true := by kernel_rfl
theorem r21t (a : Int) : okT (after a true (.ofNat 21) (.ofNat 21)) = true := by kernel_rfl
theorem r21f (a : Int) : okT (after a false (.ofNat 21) (.ofNat 21)) = true := by kernel_rfl
theorem r28t (a : Int) : okT (after a true (.ofNat 28) (.ofNat 28)) = true := by kernel_rfl
theorem r28f (a : Int) : okT (after a false (.ofNat 28) (.ofNat 28)) = true := by kernel_rfl
theorem r35t (a : Int) : okT (after a true (.ofNat 35) (.ofNat 35)) = true := by kernel_rfl
theorem r35f (a : Int) : okT (after a false (.ofNat 35) (.ofNat 35)) = true := by kernel_rfl
theorem r42t (a : Int) : okT (after a true (.ofNat 42) (.ofNat 42)) = true := by kernel_rfl
theorem r42f (a : Int) : okT (after a false (.ofNat 42) (.ofNat 42)) = true := by kernel_rfl
theorem r49t (a : Int) : okT (after a true (.ofNat 49) (.ofNat 49)) = true := by kernel_rfl
theorem r49f (a : Int) : okT (after a false (.ofNat 49) (.ofNat 49)) = true := by kernel_rfl
theorem r56t (a : Int) : okT (after a true (.ofNat 56) (.ofNat 56)) = true := by kernel_rfl
theorem r56f (a : Int) : okT (after a false (.ofNat 56) (.ofNat 56)) = true := by kernel_rfl
theorem r63t (a : Int) : okT (after a true (.ofNat 63) (.ofNat 63)) = true := by kernel_rfl
theorem r63f (a : Int) : okT (after a false (.ofNat 63) (.ofNat 63)) = true := by kernel_rfl
end Go.Proofs.YtgjadkcogmpkdaaGreatDoor
