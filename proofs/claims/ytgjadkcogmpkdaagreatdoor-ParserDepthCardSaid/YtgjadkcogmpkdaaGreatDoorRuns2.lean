/- ParserDepth returns true: the runs for the remainders of n by 70 that are 2 modulo 7 (printed by program). They hold for every n with that remainder. -/
import Derived.Test.YtgjadkcogmpkdaaGreatDoorM
namespace Go.Proofs.YtgjadkcogmpkdaaGreatDoor
open Go Go.Ev
set_option maxRecDepth 100000
theorem r2t (a : Int) : okT (after a true (.ofNat 2) (.ofNat 2)) = true := by kernel_rfl
theorem r2f (a : Int) : okT (after a false (.ofNat 2) (.ofNat 2)) = true := by kernel_rfl
theorem r9t (a : Int) : okT (after a true (.ofNat 9) (.ofNat 9)) = true := by kernel_rfl
theorem r9f (a : Int) : okT (after a false (.ofNat 9) (.ofNat 9)) = true := by kernel_rfl
theorem r16t (a : Int) : okT (after a true (.ofNat 16) (.ofNat 16)) = true := by kernel_rfl
theorem r16f (a : Int) : okT (after a false (.ofNat 16) (.ofNat 16)) = true := by kernel_rfl
theorem r23t (a : Int) : okT (after a true (.ofNat 23) (.ofNat 23)) = true := by kernel_rfl
theorem r23f (a : Int) : okT (after a false (.ofNat 23) (.ofNat 23)) = true := by kernel_rfl
theorem r30t (a : Int) : okT (after a true (.ofNat 30) (.ofNat 30)) = true := by kernel_rfl
theorem r30f (a : Int) : okT (after a false (.ofNat 30) (.ofNat 30)) = true := by kernel_rfl
theorem r37t (a : Int) : okT (after a true (.ofNat 37) (.ofNat 37)) = true := by kernel_rfl
theorem r37f (a : Int) : okT (after a false (.ofNat 37) (.ofNat 37)) = true := by kernel_rfl
theorem r44t (a : Int) : okT (after a true (.ofNat 44) (.ofNat 44)) = true := by kernel_rfl
theorem r44f (a : Int) : okT (after a false (.ofNat 44) (.ofNat 44)) = true := by kernel_rfl
theorem r51t (a : Int) : okT (after a true (.ofNat 51) (.ofNat 51)) = true := by kernel_rfl
theorem r51f (a : Int) : okT (after a false (.ofNat 51) (.ofNat 51)) = true := by kernel_rfl
theorem r58t (a : Int) : okT (after a true (.ofNat 58) (.ofNat 58)) = true := by kernel_rfl
theorem r58f (a : Int) : okT (after a false (.ofNat 58) (.ofNat 58)) = true := by kernel_rfl
theorem r65t (a : Int) : okT (after a true (.ofNat 65) (.ofNat 65)) = true := by kernel_rfl
theorem r65f (a : Int) : okT (after a false (.ofNat 65) (.ofNat 65)) = true := by kernel_rfl
end Go.Proofs.YtgjadkcogmpkdaaGreatDoor
