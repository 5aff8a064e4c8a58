/- On the way to: InterpDown returns true; its listed variables read as the text lays them. -/
import Derived.Test.YtheeljbogjbplaaGreatDoorRows
import Derived.ProofKit
import Derived.JoinedOf
import Derived.KernelRfl
namespace Go.Proofs.YtheeljbogjbplaaGreatDoor
open Go Go.RowKit
theorem fact24:Tryz.pinned.checked.prog.stopsHeard=true:=by kernel_rfl
end Go.Proofs.YtheeljbogjbplaaGreatDoor
namespace Go.Proofs.YtheeljbogjbplaaGreatDoor
open Go Go.RowKit
theorem fact25:Tryz.pinned.checked.prog.mayEnter=true:=by kernel_rfl
end Go.Proofs.YtheeljbogjbplaaGreatDoor
namespace Go.Proofs.YtheeljbogjbplaaGreatDoor
open Go Go.RowKit
theorem fact26:(Rows.interpDownRow.lifted==Tryz.pinned.checked.prog.liftsFinal)=true:=by kernel_rfl
end Go.Proofs.YtheeljbogjbplaaGreatDoor
namespace Go.Proofs.YtheeljbogjbplaaGreatDoor
open Go Go.RowKit
theorem fact0:Rows.interpDownRow.wf (OpenSpec.ofChange Rows.interpDownSpec)=true:=by kernel_rfl
theorem fact3:Tryz.f3.params.all (Tryz.pinned.checked.prog.readableRec ·)=true:=by kernel_rfl
theorem fact4:namedTie Tryz.pinned.checked.prog Rows.interpDownRow.named Rows.interpDownSpec.vars=true:=by kernel_rfl
theorem fact5:(Rows.interpDownRow.stops==[])=true:=by kernel_rfl
theorem fact6:(Tryz.pinned.checked.prog.stops==[])=true:=by kernel_rfl
theorem fact7:(Rows.interpDownRow.knobs==[])=true:=by kernel_rfl
theorem fact8:(Tryz.pinned.checked.prog.stopKnobs==[])=true:=by kernel_rfl
theorem fact13:(Rows.interpDownRow.maps==(Tryz.f3.params.toList++Rows.interpDownSpec.plain.varTypes Tryz.pinned.checked.prog).any (Tryz.pinned.checked.prog.mapsRec ·))=true:=by kernel_rfl
theorem fact14:(Rows.interpDownRow.ifaces==(Tryz.f3.params.toList++Rows.interpDownSpec.plain.varTypes Tryz.pinned.checked.prog).any (Tryz.pinned.checked.prog.ifacesRec ·))=true:=by kernel_rfl
theorem fact15:(Rows.interpDownRow.mapsOut==Tryz.pinned.checked.prog.mapsAmong Tryz.f3.resultTypes.toList)=true:=by kernel_rfl
theorem fact16:(Rows.interpDownRow.loops==(Tryz.f3.params.toList++Rows.interpDownSpec.plain.varTypes Tryz.pinned.checked.prog).any (Tryz.pinned.checked.prog.loopsFrom ·))=true:=by kernel_rfl
theorem fact17:(Rows.interpDownRow.wideKeys==(Tryz.f3.params.toList++Rows.interpDownSpec.plain.varTypes Tryz.pinned.checked.prog++Tryz.f3.resultTypes.toList).any (Tryz.pinned.checked.prog.wideKeysFrom ·))=true:=by kernel_rfl
theorem fact18:Rows.interpDownSpec.vars.all (Tryz.pinned.checked.prog.varReadable ·)=true:=by kernel_rfl
theorem fact19:Tryz.f3.resultTypes.all (fun t=>Tryz.pinned.checked.prog.readableRec t && decide (t < Tryz.pinned.checked.prog.types.size))=true:=by kernel_rfl
theorem fact20:(Rows.interpDownRow.ifacesOut==Tryz.f3.resultTypes.toList.any (Tryz.pinned.checked.prog.ifacesRec ·))=true:=by kernel_rfl
theorem fact21:(Rows.interpDownRow.loopsOut==Tryz.f3.resultTypes.toList.any (Tryz.pinned.checked.prog.loopsFrom ·))=true:=by kernel_rfl
theorem fact22:(Rows.interpDownRow.plainKeys==Tryz.pinned.checked.prog.plainKeys)=true:=by kernel_rfl
theorem fact23:Rows.interpDownRow.shortTexts.isNone=true:=by kernel_rfl
theorem fact27:(Tryz.pinned.checked.prog.make==some Rows.interpDownRow.make)=true:=by kernel_rfl
theorem fact28:(Rows.interpDownRow.kinds==(if Rows.interpDownRow.domain.isEmpty then [] else Tryz.f3.params.toList.map fun t=>match Tryz.pinned.checked.prog.underlying t with | some (.int k)=>some k | _=>none))=true:=by kernel_rfl
theorem fact29:(Rows.interpDownRow.pinned==Rows.interpDownRow.pinnedBy)=true:=by kernel_rfl
theorem fact30:(Rows.interpDownRow.veiled==(Tryz.f3.params.toList++Rows.interpDownSpec.plain.varTypes Tryz.pinned.checked.prog++Tryz.f3.resultTypes.toList).any (Tryz.pinned.checked.prog.veiledRec ·))=true:=by kernel_rfl
theorem fact31:Rows.interpDownRow.veiledFits Tryz.pinned.checked.prog Tryz.f3.params.toList (Tryz.f3.params.toList++Rows.interpDownSpec.plain.varTypes Tryz.pinned.checked.prog++Tryz.f3.resultTypes.toList)=true:=by kernel_rfl
end Go.Proofs.YtheeljbogjbplaaGreatDoor
