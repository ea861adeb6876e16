/- The row's closed facts of the law RetentionRemoves, one by one. -/
import Derived.Test.YtmpoloiempjdpaaGreatRows
import Derived.KernelRfl
import Derived.ProofKit
namespace Go.Proofs.YtmpoloiempjdpaaGreat
open Go
set_option maxRecDepth 100000
theorem and2{a b:Bool}(h:a=true)(k:b=true):(a&&b)=true:=by rw[h,k];rfl
theorem cl0:Rows.retentionRemovesRow.wf (OpenSpec.ofChange (OpenSpec.ofChange Rows.retentionRemovesSpec).bare)=true:=by kernel_rfl
theorem cl1:laidOutB Tryz.pinned.checked.prog=true:=by kernel_rfl
theorem cl2:mapsRowed Tryz.pinned.checked.prog=true:=by kernel_rfl
theorem cl3:Tryz.f3.params.all (Tryz.pinned.checked.prog.readableRec ·)=true:=by kernel_rfl
theorem cl4:namedTie Tryz.pinned.checked.prog Rows.retentionRemovesRow.named (OpenSpec.ofChange Rows.retentionRemovesSpec).bare.vars=true:=by kernel_rfl
theorem cl5:(Rows.retentionRemovesRow.stops==[])=true:=by kernel_rfl
theorem cl6:(Tryz.pinned.checked.prog.stops==[])=true:=by kernel_rfl
theorem cl7:(Rows.retentionRemovesRow.knobs==[])=true:=by kernel_rfl
theorem cl8:(Tryz.pinned.checked.prog.stopKnobs==[])=true:=by kernel_rfl
theorem cl9:(Rows.retentionRemovesRow.inPlace==Tryz.pinned.checked.prog.inPlace 3)=true:=by kernel_rfl
theorem cl10:(Rows.retentionRemovesRow.unfollowed==Tryz.pinned.checked.prog.unfollowed 3)=true:=by kernel_rfl
theorem cl11:(Rows.retentionRemovesRow.recurses==Tryz.pinned.checked.prog.recurses 3)=true:=by kernel_rfl
theorem cl12:(Rows.retentionRemovesRow.named==Tryz.pinned.checked.prog.varsNamed 3)=true:=by kernel_rfl
theorem cl13:(Rows.retentionRemovesRow.maps==(Tryz.f3.params.toList++(OpenSpec.ofChange Rows.retentionRemovesSpec).bare.plain.varTypes Tryz.pinned.checked.prog).any (Tryz.pinned.checked.prog.mapsRec ·))=true:=by kernel_rfl
theorem cl14:(Rows.retentionRemovesRow.ifaces==(Tryz.f3.params.toList++(OpenSpec.ofChange Rows.retentionRemovesSpec).bare.plain.varTypes Tryz.pinned.checked.prog).any (Tryz.pinned.checked.prog.ifacesRec ·))=true:=by kernel_rfl
theorem cl15:(Rows.retentionRemovesRow.mapsOut==Tryz.pinned.checked.prog.mapsAmong Tryz.f3.resultTypes.toList)=true:=by kernel_rfl
theorem cl16:(Rows.retentionRemovesRow.loops==(Tryz.f3.params.toList++(OpenSpec.ofChange Rows.retentionRemovesSpec).bare.plain.varTypes Tryz.pinned.checked.prog).any (Tryz.pinned.checked.prog.loopsFrom ·))=true:=by kernel_rfl
theorem cl17:(Rows.retentionRemovesRow.wideKeys==(Tryz.f3.params.toList++(OpenSpec.ofChange Rows.retentionRemovesSpec).bare.plain.varTypes Tryz.pinned.checked.prog++Tryz.f3.resultTypes.toList).any (Tryz.pinned.checked.prog.wideKeysFrom ·))=true:=by kernel_rfl
theorem cl18:(OpenSpec.ofChange Rows.retentionRemovesSpec).bare.vars.all (Tryz.pinned.checked.prog.varReadable ·)=true:=by kernel_rfl
theorem cl19:Tryz.f3.resultTypes.all (fun t=>Tryz.pinned.checked.prog.readableRec t&&decide (t<Tryz.pinned.checked.prog.types.size))=true:=by kernel_rfl
theorem cl20:(Rows.retentionRemovesRow.ifacesOut==Tryz.f3.resultTypes.toList.any (Tryz.pinned.checked.prog.ifacesRec ·))=true:=by kernel_rfl
theorem cl21:(Rows.retentionRemovesRow.loopsOut==Tryz.f3.resultTypes.toList.any (Tryz.pinned.checked.prog.loopsFrom ·))=true:=by kernel_rfl
theorem cl22:(Rows.retentionRemovesRow.plainKeys==Tryz.pinned.checked.prog.plainKeys)=true:=by kernel_rfl
theorem cl23:Rows.retentionRemovesRow.shortTexts.isNone=true:=by kernel_rfl
theorem cl24:Tryz.pinned.checked.prog.stopsHeard=true:=by kernel_rfl
theorem cl25:Tryz.pinned.checked.prog.mayEnter=true:=by kernel_rfl
theorem cl26:(Rows.retentionRemovesRow.lifted==Tryz.pinned.checked.prog.liftsFinal)=true:=by kernel_rfl
theorem cl27:(Tryz.pinned.checked.prog.make==some Rows.retentionRemovesRow.make)=true:=by kernel_rfl
theorem cl28:(Rows.retentionRemovesRow.kinds==(if Rows.retentionRemovesRow.domain.isEmpty then [] else Tryz.f3.params.toList.map fun t=>match Tryz.pinned.checked.prog.underlying t with|some (.int k)=>some k|_=>none))=true:=by kernel_rfl
theorem cl29:(Rows.retentionRemovesRow.pinned==Rows.retentionRemovesRow.pinnedBy)=true:=by kernel_rfl
theorem cl30:(Rows.retentionRemovesRow.veiled==(Tryz.f3.params.toList++(OpenSpec.ofChange Rows.retentionRemovesSpec).bare.plain.varTypes Tryz.pinned.checked.prog++Tryz.f3.resultTypes.toList).any (Tryz.pinned.checked.prog.veiledRec ·))=true:=by kernel_rfl
theorem cl31:Rows.retentionRemovesRow.veiledFits Tryz.pinned.checked.prog Tryz.f3.params.toList (Tryz.f3.params.toList++(OpenSpec.ofChange Rows.retentionRemovesSpec).bare.plain.varTypes Tryz.pinned.checked.prog++Tryz.f3.resultTypes.toList)=true:=by kernel_rfl
theorem closed:joinedFacts Tryz.pinned.checked.prog 3 Tryz.f3 (OpenSpec.ofChange Rows.retentionRemovesSpec).bare Rows.retentionRemovesRow=true:=
 (and2 (and2 (and2 (and2 (and2 (and2 (and2 (and2 (and2 (and2 (and2 (and2 (and2 (and2 (and2 (and2 (and2 (and2 (and2 (and2 (and2 (and2 (and2 (and2 (and2 (and2 (and2 (and2 (and2 (and2 (and2 cl0 cl1) cl2) cl3) cl4) cl5) cl6) cl7) cl8) cl9) cl10) cl11) cl12) cl13) cl14) cl15) cl16) cl17) cl18) cl19) cl20) cl21) cl22) cl23) cl24) cl25) cl26) cl27) cl28) cl29) cl30) cl31)
end Go.Proofs.YtmpoloiempjdpaaGreat
