/- ParserDepth returns true: the runs for the remainders of n by 70 that are 4 modulo 7 (printed by program). They hold for every n with that remainder. -/
import Derived.Test.YtgjadkcogmpkdaaGreatDoorM
namespace Go.Proofs.YtgjadkcogmpkdaaGreatDoor
open Go Go.Ev
set_option maxRecDepth 100000
theorem r4t (a : Int) : okT (after a true (.ofNat 4) (.ofNat 4)) = true := by kernel_rfl
theorem r4f (a : Int) : okT (after a false (.ofNat 4) (.ofNat 4)) = true := by kernel_rfl
theorem r11t (a : Int) : okT (after a true (.ofNat 11) (.ofNat 11)) = true := by kernel_rfl
theorem r11f (a : Int) : okT (after a false (.ofNat 11) (.ofNat 11)) = true := by kernel_rfl
theorem r18t (a : Int) : okT (after a true (.ofNat 18) (.ofNat 18)) = true := by kernel_rfl
theorem r18f (a : Int) : okT (after a false (.ofNat 18) (.ofNat 18)) = true := by kernel_rfl
theorem r25t (a : Int) : okT (after a true (.ofNat 25) (.ofNat 25)) = true := by kernel_rfl
theorem r25f (a : Int) : okT (after a false (.ofNat 25) (.ofNat 25)) = true := by kernel_rfl
theorem r32t (a : Int) : okT (after a true (.ofNat 32) (.ofNat 32)) = true := by kernel_rfl
theorem r32f (a : Int) : okT (after a false (.ofNat 32) (.ofNat 32)) = true := by kernel_rfl
theorem r39t (a : Int) : okT (after a true (.ofNat 39) (.ofNat 39)) = true := by kernel_rfl
theorem r39f (a : Int) : okT (after a false (.ofNat 39) (.ofNat 39)) = true := by kernel_rfl
theorem r46t (a : Int) : okT (after a true (.ofNat 46) (.ofNat 46)) = true := by kernel_rfl
theorem r46f (a : Int) : okT (after a false (.ofNat 46) (.ofNat 46)) = true := by kernel_rfl
theorem r53t (a : Int) : okT (after a true (.ofNat 53) (.ofNat 53)) = true := by kernel_rfl
theorem r53f (a : Int) : okT (after a false (.ofNat 53) (.ofNat 53)) = true := by kernel_rfl
theorem r60t (a : Int) : okT (after a true (.ofNat 60) (.ofNat 60)) = true := by kernel_rfl
theorem r60f (a : Int) : okT (after a false (.ofNat 60) (.ofNat 60)) = true := by kernel_rfl
theorem r67t (a : Int) : okT (after a true (.ofNat 67) (.ofNat 67)) = true := by kernel_rfl
theorem r67f (a : Int) : okT (after a false (.ofNat 67) (.ofNat 67)) = true := by kernel_rfl
end Go.Proofs.YtgjadkcogmpkdaaGreatDoor
