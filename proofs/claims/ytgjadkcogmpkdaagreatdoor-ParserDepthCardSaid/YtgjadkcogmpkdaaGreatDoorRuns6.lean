/- ParserDepth returns true: the runs for the remainders of n by 70 that are 6 modulo 7 (printed by program). They hold for every n with that remainder. -/
import Derived.Test.YtgjadkcogmpkdaaGreatDoorM
namespace Go.Proofs.YtgjadkcogmpkdaaGreatDoor
open Go Go.Ev
set_option maxRecDepth 100000
theorem r6t (a : Int) : okT (after a true (.ofNat 6) (.ofNat 6)) = true := by kernel_rfl
theorem r6f (a : Int) : okT (after a false (.ofNat 6) (.ofNat 6)) = true := by kernel_rfl
theorem r13t (a : Int) : okT (after a true (.ofNat 13) (.ofNat 13)) = true := by kernel_rfl
theorem r13f (a : Int) : okT (after a false (.ofNat 13) (.ofNat 13)) = true := by kernel_rfl
theorem r20t (a : Int) : okT (after a true (.ofNat 20) (.ofNat 20)) = true := by kernel_rfl
theorem r20f (a : Int) : okT (after a false (.ofNat 20) (.ofNat 20)) = true := by kernel_rfl
theorem r27t (a : Int) : okT (after a true (.ofNat 27) (.ofNat 27)) = true := by kernel_rfl
theorem r27f (a : Int) : okT (after a false (.ofNat 27) (.ofNat 27)) = true := by kernel_rfl
theorem r34t (a : Int) : okT (after a true (.ofNat 34) (.ofNat 34)) = true := by kernel_rfl
theorem r34f (a : Int) : okT (after a false (.ofNat 34) (.ofNat 34)) = true := by kernel_rfl
theorem r41t (a : Int) : okT (after a true (.ofNat 41) (.ofNat 41)) = true := by kernel_rfl
theorem r41f (a : Int) : okT (after a false (.ofNat 41) (.ofNat 41)) = true := by kernel_rfl
theorem r48t (a : Int) : okT (after a true (.ofNat 48) (.ofNat 48)) = true := by kernel_rfl
theorem r48f (a : Int) : okT (after a false (.ofNat 48) (.ofNat 48)) = true := by kernel_rfl
theorem r55t (a : Int) : okT (after a true (.ofNat 55) (.ofNat 55)) = true := by kernel_rfl
theorem r55f (a : Int) : okT (after a false (.ofNat 55) (.ofNat 55)) = true := by kernel_rfl
theorem r62t (a : Int) : okT (after a true (.ofNat 62) (.ofNat 62)) = true := by kernel_rfl
theorem r62f (a : Int) : okT (after a false (.ofNat 62) (.ofNat 62)) = true := by kernel_rfl
theorem r69t (a : Int) : okT (after a true (.ofNat 69) (.ofNat 69)) = true := by kernel_rfl
theorem r69f (a : Int) : okT (after a false (.ofNat 69) (.ofNat 69)) = true := by kernel_rfl
end Go.Proofs.YtgjadkcogmpkdaaGreatDoor
