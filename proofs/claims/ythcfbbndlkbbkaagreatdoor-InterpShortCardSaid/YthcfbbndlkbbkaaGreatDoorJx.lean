/- On the way to: InterpShort returns true; its listed variables read as the text lays them. -/
import Derived.Test.YthcfbbndlkbbkaaGreatDoorRows
import Derived.ProofKit
import Derived.JoinedOf
import Derived.KernelRfl
namespace Go.Proofs.YthcfbbndlkbbkaaGreatDoor
open Go Go.RowKit
theorem fact24:Tryz.pinned.checked.prog.stopsHeard=true:=by kernel_rfl
end Go.Proofs.YthcfbbndlkbbkaaGreatDoor
namespace Go.Proofs.YthcfbbndlkbbkaaGreatDoor
open Go Go.RowKit
theorem fact25:Tryz.pinned.checked.prog.mayEnter=true:=by kernel_rfl
end Go.Proofs.YthcfbbndlkbbkaaGreatDoor
namespace Go.Proofs.YthcfbbndlkbbkaaGreatDoor
open Go Go.RowKit
theorem fact26:(Rows.interpShortRow.lifted==Tryz.pinned.checked.prog.liftsFinal)=true:=by kernel_rfl
end Go.Proofs.YthcfbbndlkbbkaaGreatDoor
namespace Go.Proofs.YthcfbbndlkbbkaaGreatDoor
open Go Go.RowKit
theorem fact0:Rows.interpShortRow.wf (OpenSpec.ofChange Rows.interpShortSpec)=true:=by kernel_rfl
theorem fact3:Tryz.f4.params.all (Tryz.pinned.checked.prog.readableRec ·)=true:=by kernel_rfl
theorem fact4:namedTie Tryz.pinned.checked.prog Rows.interpShortRow.named Rows.interpShortSpec.vars=true:=by kernel_rfl
theorem fact5:(Rows.interpShortRow.stops==[])=true:=by kernel_rfl
theorem fact6:(Tryz.pinned.checked.prog.stops==[])=true:=by kernel_rfl
theorem fact7:(Rows.interpShortRow.knobs==[])=true:=by kernel_rfl
theorem fact8:(Tryz.pinned.checked.prog.stopKnobs==[])=true:=by kernel_rfl
theorem fact13:(Rows.interpShortRow.maps==(Tryz.f4.params.toList++Rows.interpShortSpec.plain.varTypes Tryz.pinned.checked.prog).any (Tryz.pinned.checked.prog.mapsRec ·))=true:=by kernel_rfl
theorem fact14:(Rows.interpShortRow.ifaces==(Tryz.f4.params.toList++Rows.interpShortSpec.plain.varTypes Tryz.pinned.checked.prog).any (Tryz.pinned.checked.prog.ifacesRec ·))=true:=by kernel_rfl
theorem fact15:(Rows.interpShortRow.mapsOut==Tryz.pinned.checked.prog.mapsAmong Tryz.f4.resultTypes.toList)=true:=by kernel_rfl
theorem fact16:(Rows.interpShortRow.loops==(Tryz.f4.params.toList++Rows.interpShortSpec.plain.varTypes Tryz.pinned.checked.prog).any (Tryz.pinned.checked.prog.loopsFrom ·))=true:=by kernel_rfl
theorem fact17:(Rows.interpShortRow.wideKeys==(Tryz.f4.params.toList++Rows.interpShortSpec.plain.varTypes Tryz.pinned.checked.prog++Tryz.f4.resultTypes.toList).any (Tryz.pinned.checked.prog.wideKeysFrom ·))=true:=by kernel_rfl
theorem fact18:Rows.interpShortSpec.vars.all (Tryz.pinned.checked.prog.varReadable ·)=true:=by kernel_rfl
theorem fact19:Tryz.f4.resultTypes.all (fun t=>Tryz.pinned.checked.prog.readableRec t && decide (t < Tryz.pinned.checked.prog.types.size))=true:=by kernel_rfl
theorem fact20:(Rows.interpShortRow.ifacesOut==Tryz.f4.resultTypes.toList.any (Tryz.pinned.checked.prog.ifacesRec ·))=true:=by kernel_rfl
theorem fact21:(Rows.interpShortRow.loopsOut==Tryz.f4.resultTypes.toList.any (Tryz.pinned.checked.prog.loopsFrom ·))=true:=by kernel_rfl
theorem fact22:(Rows.interpShortRow.plainKeys==Tryz.pinned.checked.prog.plainKeys)=true:=by kernel_rfl
theorem fact23:Rows.interpShortRow.shortTexts.isNone=true:=by kernel_rfl
theorem fact27:(Tryz.pinned.checked.prog.make==some Rows.interpShortRow.make)=true:=by kernel_rfl
theorem fact28:(Rows.interpShortRow.kinds==(if Rows.interpShortRow.domain.isEmpty then [] else Tryz.f4.params.toList.map fun t=>match Tryz.pinned.checked.prog.underlying t with | some (.int k)=>some k | _=>none))=true:=by kernel_rfl
theorem fact29:(Rows.interpShortRow.pinned==Rows.interpShortRow.pinnedBy)=true:=by kernel_rfl
theorem fact30:(Rows.interpShortRow.veiled==(Tryz.f4.params.toList++Rows.interpShortSpec.plain.varTypes Tryz.pinned.checked.prog++Tryz.f4.resultTypes.toList).any (Tryz.pinned.checked.prog.veiledRec ·))=true:=by kernel_rfl
theorem fact31:Rows.interpShortRow.veiledFits Tryz.pinned.checked.prog Tryz.f4.params.toList (Tryz.f4.params.toList++Rows.interpShortSpec.plain.varTypes Tryz.pinned.checked.prog++Tryz.f4.resultTypes.toList)=true:=by kernel_rfl
end Go.Proofs.YthcfbbndlkbbkaaGreatDoor
