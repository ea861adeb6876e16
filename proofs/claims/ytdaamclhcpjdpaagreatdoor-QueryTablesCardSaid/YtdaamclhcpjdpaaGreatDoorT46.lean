/- Part 46 of walks through the code of a program. -/
import Derived.Test.YtdaamclhcpjdpaaGreatDoorT45
set_option linter.unusedVariables false
set_option linter.unusedSimpArgs false
noncomputable section
set_option maxRecDepth 100000
set_option maxHeartbeats 4000000
namespace Go.Ev.Rp
open Go Go.Ev.Pp
theorem tx_0(el:Nat→Nat):ck el (tl 0 0 0 0 0)=true:=by kernel_rfl
theorem tx_1(el:Nat→Nat):ck el (tl 0 0 0 1 0)=true:=by kernel_rfl
theorem tx_2(el:Nat→Nat):ck el (tl 1 0 0 0 0)=true:=by kernel_rfl
theorem tx_3(el:Nat→Nat):ck el (tl 1 0 0 1 0)=true:=by kernel_rfl
theorem tx_4(el:Nat→Nat):ck el (tl 1 0 1 0 0)=true:=by kernel_rfl
theorem tx_5(el:Nat→Nat):ck el (tl 1 0 1 1 0)=true:=by kernel_rfl
theorem tx_6(el:Nat→Nat):ck el (tl 1 0 2 0 0)=true:=by kernel_rfl
theorem tx_7(el:Nat→Nat):ck el (tl 1 0 2 1 0)=true:=by kernel_rfl
theorem tx_8(el:Nat→Nat):ck el (tl 1 1 0 0 0)=true:=by kernel_rfl
theorem tx_9(el:Nat→Nat):ck el (tl 1 1 0 1 0)=true:=by kernel_rfl
theorem tx_10(el:Nat→Nat):ck el (tl 1 1 1 0 0)=true:=by kernel_rfl
theorem tx_11(el:Nat→Nat):ck el (tl 1 1 1 1 0)=true:=by kernel_rfl
theorem tx_12(el:Nat→Nat):ck el (tl 1 1 2 0 0)=true:=by kernel_rfl
theorem tx_13(el:Nat→Nat):ck el (tl 1 1 2 1 0)=true:=by kernel_rfl
theorem tx_14(el:Nat→Nat):ck el (tl 1 2 0 0 0)=true:=by kernel_rfl
end Go.Ev.Rp
namespace Go.Ev.Rp
open Go Go.Ev.Pp
theorem tx_15(el:Nat→Nat):ck el (tl 1 2 0 1 0)=true:=by kernel_rfl
theorem tx_16(el:Nat→Nat):ck el (tl 1 2 1 0 0)=true:=by kernel_rfl
theorem tx_17(el:Nat→Nat):ck el (tl 1 2 1 1 0)=true:=by kernel_rfl
theorem tx_18(el:Nat→Nat):ck el (tl 1 2 2 0 0)=true:=by kernel_rfl
theorem tx_19(el:Nat→Nat):ck el (tl 1 2 2 1 0)=true:=by kernel_rfl
theorem tx_20(el:Nat→Nat):ck el (tl 1 3 0 0 0)=true:=by kernel_rfl
theorem tx_21(el:Nat→Nat):ck el (tl 1 3 0 1 0)=true:=by kernel_rfl
theorem tx_22(el:Nat→Nat):ck el (tl 1 3 1 0 0)=true:=by kernel_rfl
theorem tx_23(el:Nat→Nat):ck el (tl 1 3 1 1 0)=true:=by kernel_rfl
theorem tx_24(el:Nat→Nat):ck el (tl 1 3 2 0 0)=true:=by kernel_rfl
theorem tx_25(el:Nat→Nat):ck el (tl 1 3 2 1 0)=true:=by kernel_rfl
theorem tx_26(el:Nat→Nat):ck el (tl 2 0 0 0 0)=true:=by kernel_rfl
theorem tx_27(el:Nat→Nat):ck el (tl 2 0 0 1 0)=true:=by kernel_rfl
theorem tx_28(el:Nat→Nat):ck el (tl 2 1 0 0 0)=true:=by kernel_rfl
theorem tx_29(el:Nat→Nat):ck el (tl 2 1 0 1 0)=true:=by kernel_rfl
end Go.Ev.Rp
