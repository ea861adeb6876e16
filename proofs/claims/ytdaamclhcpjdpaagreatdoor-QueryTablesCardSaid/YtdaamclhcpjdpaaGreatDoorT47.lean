/- Part 47 of walks through the code of a program. -/
import Derived.Test.YtdaamclhcpjdpaaGreatDoorT45
set_option linter.unusedVariables false
set_option linter.unusedSimpArgs false
noncomputable section
set_option maxRecDepth 100000
set_option maxHeartbeats 4000000
namespace Go.Ev.Rp
open Go Go.Ev.Pp
theorem tx_30(el:Nat→Nat):ck el (tl 2 2 0 0 0)=true:=by kernel_rfl
theorem tx_31(el:Nat→Nat):ck el (tl 2 2 0 1 0)=true:=by kernel_rfl
theorem tx_32(el:Nat→Nat):ck el (tl 2 3 0 0 0)=true:=by kernel_rfl
theorem tx_33(el:Nat→Nat):ck el (tl 2 3 0 1 0)=true:=by kernel_rfl
theorem tx_34(el:Nat→Nat):ck el (tl 3 0 0 0 0)=true:=by kernel_rfl
theorem tx_35(el:Nat→Nat):ck el (tl 3 0 0 1 0)=true:=by kernel_rfl
theorem tx_36(el:Nat→Nat):ck el (tl 4 0 0 0 0)=true:=by kernel_rfl
theorem tx_37(el:Nat→Nat):ck el (tl 4 0 0 1 0)=true:=by kernel_rfl
theorem tx_38(el:Nat→Nat):ck el (tl 5 0 0 0 0)=true:=by kernel_rfl
theorem tx_39(el:Nat→Nat):ck el (tl 5 0 0 1 0)=true:=by kernel_rfl
theorem tx_40(el:Nat→Nat):ck el (tl 5 1 0 0 0)=true:=by kernel_rfl
theorem tx_41(el:Nat→Nat):ck el (tl 5 1 0 1 0)=true:=by kernel_rfl
theorem tx_42(el:Nat→Nat):ck el (tl 5 2 0 0 0)=true:=by kernel_rfl
theorem tx_43(el:Nat→Nat):ck el (tl 5 2 0 1 0)=true:=by kernel_rfl
theorem tx_44(el:Nat→Nat):ck el (tl 5 3 0 0 0)=true:=by kernel_rfl
end Go.Ev.Rp
namespace Go.Ev.Rp
open Go Go.Ev.Pp
theorem tx_45(el:Nat→Nat):ck el (tl 5 3 0 1 0)=true:=by kernel_rfl
theorem tx_46(el:Nat→Nat):ck el (tl 6 0 0 0 0)=true:=by kernel_rfl
theorem tx_47(el:Nat→Nat):ck el (tl 7 0 0 0 0)=true:=by kernel_rfl
theorem tx_48(el:Nat→Nat):ck el (tl 7 0 0 0 1)=true:=by kernel_rfl
theorem tx_49(el:Nat→Nat):ck el (tl 7 0 0 1 0)=true:=by kernel_rfl
theorem tx_50(el:Nat→Nat):ck el (tl 7 0 0 1 1)=true:=by kernel_rfl
theorem tx_51(el:Nat→Nat):ck el (tl 8 0 0 0 0)=true:=by kernel_rfl
theorem tx_52(el:Nat→Nat):ck el (tl 8 0 0 0 1)=true:=by kernel_rfl
theorem tx_53(el:Nat→Nat):ck el (tl 8 0 0 1 0)=true:=by kernel_rfl
theorem tx_54(el:Nat→Nat):ck el (tl 8 0 0 1 1)=true:=by kernel_rfl
theorem tx_55(el:Nat→Nat):ck el (tl 9 0 0 0 0)=true:=by kernel_rfl
theorem tx_56(el:Nat→Nat):ck el (tl 9 0 0 0 1)=true:=by kernel_rfl
theorem tx_57(el:Nat→Nat):ck el (tl 9 0 0 1 0)=true:=by kernel_rfl
theorem tx_58(el:Nat→Nat):ck el (tl 9 0 0 1 1)=true:=by kernel_rfl
theorem tx_59(el:Nat→Nat):ck el (tl 10 0 0 0 0)=true:=by kernel_rfl
end Go.Ev.Rp
