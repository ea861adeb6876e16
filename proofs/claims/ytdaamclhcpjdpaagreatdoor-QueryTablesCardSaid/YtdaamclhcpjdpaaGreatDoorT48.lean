/- Part 48 of walks through the code of a program. -/
import Derived.Test.YtdaamclhcpjdpaaGreatDoorT45
set_option linter.unusedVariables false
set_option linter.unusedSimpArgs false
noncomputable section
set_option maxRecDepth 100000
set_option maxHeartbeats 4000000
namespace Go.Ev.Rp
open Go Go.Ev.Pp
theorem tx_60(el:Nat→Nat):ck el (tl 10 0 0 0 1)=true:=by kernel_rfl
theorem tx_61(el:Nat→Nat):ck el (tl 10 0 0 1 0)=true:=by kernel_rfl
theorem tx_62(el:Nat→Nat):ck el (tl 10 0 0 1 1)=true:=by kernel_rfl
theorem tx_63(el:Nat→Nat):ck el (tl 11 0 0 0 0)=true:=by kernel_rfl
theorem tx_64(el:Nat→Nat):ck el (tl 11 0 0 1 0)=true:=by kernel_rfl
theorem tx_65(el:Nat→Nat):ck el (tl 12 0 0 0 0)=true:=by kernel_rfl
theorem tx_66(el:Nat→Nat):ck el (tl 12 0 0 1 0)=true:=by kernel_rfl
theorem tx_67(el:Nat→Nat):ck el (tl 13 0 0 0 0)=true:=by kernel_rfl
theorem tx_68(el:Nat→Nat):ck el (tl 13 0 0 1 0)=true:=by kernel_rfl
theorem tx_69(el:Nat→Nat):ck el (tl 14 0 0 0 0)=true:=by kernel_rfl
theorem tx_70(el:Nat→Nat):ck el (tl 14 0 0 0 1)=true:=by kernel_rfl
theorem tx_71(el:Nat→Nat):ck el (tl 14 0 0 1 0)=true:=by kernel_rfl
theorem tx_72(el:Nat→Nat):ck el (tl 14 0 0 1 1)=true:=by kernel_rfl
theorem tx_73(el:Nat→Nat):ck el (tl 14 1 0 0 0)=true:=by kernel_rfl
theorem tx_74(el:Nat→Nat):ck el (tl 14 1 0 0 1)=true:=by kernel_rfl
end Go.Ev.Rp
namespace Go.Ev.Rp
open Go Go.Ev.Pp
theorem tx_75(el:Nat→Nat):ck el (tl 14 1 0 1 0)=true:=by kernel_rfl
theorem tx_76(el:Nat→Nat):ck el (tl 14 1 0 1 1)=true:=by kernel_rfl
theorem tx_77(el:Nat→Nat):ck el (tl 14 2 0 0 0)=true:=by kernel_rfl
theorem tx_78(el:Nat→Nat):ck el (tl 14 2 0 0 1)=true:=by kernel_rfl
theorem tx_79(el:Nat→Nat):ck el (tl 14 2 0 1 0)=true:=by kernel_rfl
theorem tx_80(el:Nat→Nat):ck el (tl 14 2 0 1 1)=true:=by kernel_rfl
theorem tx_81(el:Nat→Nat):ck el (tl 14 3 0 0 0)=true:=by kernel_rfl
theorem tx_82(el:Nat→Nat):ck el (tl 14 3 0 0 1)=true:=by kernel_rfl
theorem tx_83(el:Nat→Nat):ck el (tl 14 3 0 1 0)=true:=by kernel_rfl
theorem tx_84(el:Nat→Nat):ck el (tl 14 3 0 1 1)=true:=by kernel_rfl
theorem tx_e(el:Nat→Nat):ck el []=true:=by kernel_rfl
end Go.Ev.Rp
