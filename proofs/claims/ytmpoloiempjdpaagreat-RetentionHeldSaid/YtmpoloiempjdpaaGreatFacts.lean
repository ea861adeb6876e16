/- The row's closed facts of the law RetentionHeld, one by one. -/
import Derived.Test.YtmpoloiempjdpaaGreatRows
import Derived.KernelRfl
import Derived.ProofKit
namespace Go.Proofs.YtmpoloiempjdpaaGreat
open Go
set_option maxRecDepth 100000
theorem and2{a b:Bool}(h:a=true)(k:b=true):(a&&b)=true:=by rw[h,k];rfl
theorem cl0:Rows.retentionHeldRow.wf (OpenSpec.ofChange (OpenSpec.ofChange Rows.retentionHeldSpec).bare)=true:=by kernel_rfl
theorem cl1:laidOutB Tryz.pinned.checked.prog=true:=by kernel_rfl
theorem cl2:mapsRowed Tryz.pinned.checked.prog=true:=by kernel_rfl
theorem cl3:Tryz.f4.params.all (Tryz.pinned.checked.prog.readableRec ·)=true:=by kernel_rfl
theorem cl4:namedTie Tryz.pinned.checked.prog Rows.retentionHeldRow.named (OpenSpec.ofChange Rows.retentionHeldSpec).bare.vars=true:=by kernel_rfl
theorem cl5:(Rows.retentionHeldRow.stops==[])=true:=by kernel_rfl
theorem cl6:(Tryz.pinned.checked.prog.stops==[])=true:=by kernel_rfl
theorem cl7:(Rows.retentionHeldRow.knobs==[])=true:=by kernel_rfl
theorem cl8:(Tryz.pinned.checked.prog.stopKnobs==[])=true:=by kernel_rfl
theorem cl9:(Rows.retentionHeldRow.inPlace==Tryz.pinned.checked.prog.inPlace 4)=true:=by kernel_rfl
theorem cl10:(Rows.retentionHeldRow.unfollowed==Tryz.pinned.checked.prog.unfollowed 4)=true:=by kernel_rfl
theorem cl11:(Rows.retentionHeldRow.recurses==Tryz.pinned.checked.prog.recurses 4)=true:=by kernel_rfl
theorem cl12:(Rows.retentionHeldRow.named==Tryz.pinned.checked.prog.varsNamed 4)=true:=by kernel_rfl
theorem cl13:(Rows.retentionHeldRow.maps==(Tryz.f4.params.toList++(OpenSpec.ofChange Rows.retentionHeldSpec).bare.plain.varTypes Tryz.pinned.checked.prog).any (Tryz.pinned.checked.prog.mapsRec ·))=true:=by kernel_rfl
theorem cl14:(Rows.retentionHeldRow.ifaces==(Tryz.f4.params.toList++(OpenSpec.ofChange Rows.retentionHeldSpec).bare.plain.varTypes Tryz.pinned.checked.prog).any (Tryz.pinned.checked.prog.ifacesRec ·))=true:=by kernel_rfl
theorem cl15:(Rows.retentionHeldRow.mapsOut==Tryz.pinned.checked.prog.mapsAmong Tryz.f4.resultTypes.toList)=true:=by kernel_rfl
theorem cl16:(Rows.retentionHeldRow.loops==(Tryz.f4.params.toList++(OpenSpec.ofChange Rows.retentionHeldSpec).bare.plain.varTypes Tryz.pinned.checked.prog).any (Tryz.pinned.checked.prog.loopsFrom ·))=true:=by kernel_rfl
theorem cl17:(Rows.retentionHeldRow.wideKeys==(Tryz.f4.params.toList++(OpenSpec.ofChange Rows.retentionHeldSpec).bare.plain.varTypes Tryz.pinned.checked.prog++Tryz.f4.resultTypes.toList).any (Tryz.pinned.checked.prog.wideKeysFrom ·))=true:=by kernel_rfl
theorem cl18:(OpenSpec.ofChange Rows.retentionHeldSpec).bare.vars.all (Tryz.pinned.checked.prog.varReadable ·)=true:=by kernel_rfl
theorem cl19:Tryz.f4.resultTypes.all (fun t=>Tryz.pinned.checked.prog.readableRec t&&decide (t<Tryz.pinned.checked.prog.types.size))=true:=by kernel_rfl
theorem cl20:(Rows.retentionHeldRow.ifacesOut==Tryz.f4.resultTypes.toList.any (Tryz.pinned.checked.prog.ifacesRec ·))=true:=by kernel_rfl
theorem cl21:(Rows.retentionHeldRow.loopsOut==Tryz.f4.resultTypes.toList.any (Tryz.pinned.checked.prog.loopsFrom ·))=true:=by kernel_rfl
theorem cl22:(Rows.retentionHeldRow.plainKeys==Tryz.pinned.checked.prog.plainKeys)=true:=by kernel_rfl
theorem cl23:Rows.retentionHeldRow.shortTexts.isNone=true:=by kernel_rfl
theorem cl24:Tryz.pinned.checked.prog.stopsHeard=true:=by kernel_rfl
theorem cl25:Tryz.pinned.checked.prog.mayEnter=true:=by kernel_rfl
theorem cl26:(Rows.retentionHeldRow.lifted==Tryz.pinned.checked.prog.liftsFinal)=true:=by kernel_rfl
theorem cl27:(Tryz.pinned.checked.prog.make==some Rows.retentionHeldRow.make)=true:=by kernel_rfl
theorem cl28:(Rows.retentionHeldRow.kinds==(if Rows.retentionHeldRow.domain.isEmpty then [] else Tryz.f4.params.toList.map fun t=>match Tryz.pinned.checked.prog.underlying t with|some (.int k)=>some k|_=>none))=true:=by kernel_rfl
theorem cl29:(Rows.retentionHeldRow.pinned==Rows.retentionHeldRow.pinnedBy)=true:=by kernel_rfl
theorem cl30:(Rows.retentionHeldRow.veiled==(Tryz.f4.params.toList++(OpenSpec.ofChange Rows.retentionHeldSpec).bare.plain.varTypes Tryz.pinned.checked.prog++Tryz.f4.resultTypes.toList).any (Tryz.pinned.checked.prog.veiledRec ·))=true:=by kernel_rfl
theorem cl31:Rows.retentionHeldRow.veiledFits Tryz.pinned.checked.prog Tryz.f4.params.toList (Tryz.f4.params.toList++(OpenSpec.ofChange Rows.retentionHeldSpec).bare.plain.varTypes Tryz.pinned.checked.prog++Tryz.f4.resultTypes.toList)=true:=by kernel_rfl
theorem closed:joinedFacts Tryz.pinned.checked.prog 4 Tryz.f4 (OpenSpec.ofChange Rows.retentionHeldSpec).bare Rows.retentionHeldRow=true:=
 (and2 (and2 (and2 (and2 (and2 (and2 (and2 (and2 (and2 (and2 (and2 (and2 (and2 (and2 (and2 (and2 (and2 (and2 (and2 (and2 (and2 (and2 (and2 (and2 (and2 (and2 (and2 (and2 (and2 (and2 (and2 cl0 cl1) cl2) cl3) cl4) cl5) cl6) cl7) cl8) cl9) cl10) cl11) cl12) cl13) cl14) cl15) cl16) cl17) cl18) cl19) cl20) cl21) cl22) cl23) cl24) cl25) cl26) cl27) cl28) cl29) cl30) cl31)
end Go.Proofs.YtmpoloiempjdpaaGreat
