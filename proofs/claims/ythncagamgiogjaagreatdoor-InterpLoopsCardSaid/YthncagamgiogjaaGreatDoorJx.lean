/- On the way to: InterpLoops returns true; its listed variables read as the text lays them. -/
import Derived.Test.YthncagamgiogjaaGreatDoorRows
import Derived.ProofKit
import Derived.JoinedOf
import Derived.KernelRfl
namespace Go.Proofs.YthncagamgiogjaaGreatDoor
open Go Go.RowKit
theorem fact24:Tryz.pinned.checked.prog.stopsHeard=true:=by kernel_rfl
end Go.Proofs.YthncagamgiogjaaGreatDoor
namespace Go.Proofs.YthncagamgiogjaaGreatDoor
open Go Go.RowKit
theorem fact25:Tryz.pinned.checked.prog.mayEnter=true:=by kernel_rfl
end Go.Proofs.YthncagamgiogjaaGreatDoor
namespace Go.Proofs.YthncagamgiogjaaGreatDoor
open Go Go.RowKit
theorem fact26:(Rows.interpLoopsRow.lifted==Tryz.pinned.checked.prog.liftsFinal)=true:=by kernel_rfl
end Go.Proofs.YthncagamgiogjaaGreatDoor
namespace Go.Proofs.YthncagamgiogjaaGreatDoor
open Go Go.RowKit
theorem fact0:Rows.interpLoopsRow.wf (OpenSpec.ofChange Rows.interpLoopsSpec)=true:=by kernel_rfl
theorem fact3:Tryz.f3.params.all (Tryz.pinned.checked.prog.readableRec ·)=true:=by kernel_rfl
theorem fact4:namedTie Tryz.pinned.checked.prog Rows.interpLoopsRow.named Rows.interpLoopsSpec.vars=true:=by kernel_rfl
theorem fact5:(Rows.interpLoopsRow.stops==[])=true:=by kernel_rfl
theorem fact6:(Tryz.pinned.checked.prog.stops==[])=true:=by kernel_rfl
theorem fact7:(Rows.interpLoopsRow.knobs==[])=true:=by kernel_rfl
theorem fact8:(Tryz.pinned.checked.prog.stopKnobs==[])=true:=by kernel_rfl
theorem fact13:(Rows.interpLoopsRow.maps==(Tryz.f3.params.toList++Rows.interpLoopsSpec.plain.varTypes Tryz.pinned.checked.prog).any (Tryz.pinned.checked.prog.mapsRec ·))=true:=by kernel_rfl
theorem fact14:(Rows.interpLoopsRow.ifaces==(Tryz.f3.params.toList++Rows.interpLoopsSpec.plain.varTypes Tryz.pinned.checked.prog).any (Tryz.pinned.checked.prog.ifacesRec ·))=true:=by kernel_rfl
theorem fact15:(Rows.interpLoopsRow.mapsOut==Tryz.pinned.checked.prog.mapsAmong Tryz.f3.resultTypes.toList)=true:=by kernel_rfl
theorem fact16:(Rows.interpLoopsRow.loops==(Tryz.f3.params.toList++Rows.interpLoopsSpec.plain.varTypes Tryz.pinned.checked.prog).any (Tryz.pinned.checked.prog.loopsFrom ·))=true:=by kernel_rfl
theorem fact17:(Rows.interpLoopsRow.wideKeys==(Tryz.f3.params.toList++Rows.interpLoopsSpec.plain.varTypes Tryz.pinned.checked.prog++Tryz.f3.resultTypes.toList).any (Tryz.pinned.checked.prog.wideKeysFrom ·))=true:=by kernel_rfl
theorem fact18:Rows.interpLoopsSpec.vars.all (Tryz.pinned.checked.prog.varReadable ·)=true:=by kernel_rfl
theorem fact19:Tryz.f3.resultTypes.all (fun t=>Tryz.pinned.checked.prog.readableRec t && decide (t < Tryz.pinned.checked.prog.types.size))=true:=by kernel_rfl
theorem fact20:(Rows.interpLoopsRow.ifacesOut==Tryz.f3.resultTypes.toList.any (Tryz.pinned.checked.prog.ifacesRec ·))=true:=by kernel_rfl
theorem fact21:(Rows.interpLoopsRow.loopsOut==Tryz.f3.resultTypes.toList.any (Tryz.pinned.checked.prog.loopsFrom ·))=true:=by kernel_rfl
theorem fact22:(Rows.interpLoopsRow.plainKeys==Tryz.pinned.checked.prog.plainKeys)=true:=by kernel_rfl
theorem fact23:Rows.interpLoopsRow.shortTexts.isNone=true:=by kernel_rfl
theorem fact27:(Tryz.pinned.checked.prog.make==some Rows.interpLoopsRow.make)=true:=by kernel_rfl
theorem fact28:(Rows.interpLoopsRow.kinds==(if Rows.interpLoopsRow.domain.isEmpty then [] else Tryz.f3.params.toList.map fun t=>match Tryz.pinned.checked.prog.underlying t with | some (.int k)=>some k | _=>none))=true:=by kernel_rfl
theorem fact29:(Rows.interpLoopsRow.pinned==Rows.interpLoopsRow.pinnedBy)=true:=by kernel_rfl
theorem fact30:(Rows.interpLoopsRow.veiled==(Tryz.f3.params.toList++Rows.interpLoopsSpec.plain.varTypes Tryz.pinned.checked.prog++Tryz.f3.resultTypes.toList).any (Tryz.pinned.checked.prog.veiledRec ·))=true:=by kernel_rfl
theorem fact31:Rows.interpLoopsRow.veiledFits Tryz.pinned.checked.prog Tryz.f3.params.toList (Tryz.f3.params.toList++Rows.interpLoopsSpec.plain.varTypes Tryz.pinned.checked.prog++Tryz.f3.resultTypes.toList)=true:=by kernel_rfl
end Go.Proofs.YthncagamgiogjaaGreatDoor
