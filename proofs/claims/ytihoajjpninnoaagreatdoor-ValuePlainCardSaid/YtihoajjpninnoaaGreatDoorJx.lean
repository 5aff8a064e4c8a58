/- On the way to: ValuePlain returns true; its listed variables read as the text lays them. -/
import Derived.Test.YtihoajjpninnoaaGreatDoorRows
import Derived.ProofKit
import Derived.JoinedOf
import Derived.KernelRfl
namespace Go.Proofs.YtihoajjpninnoaaGreatDoor
open Go Go.RowKit
theorem fact24:Tryz.pinned.checked.prog.stopsHeard=true:=by kernel_rfl
end Go.Proofs.YtihoajjpninnoaaGreatDoor
namespace Go.Proofs.YtihoajjpninnoaaGreatDoor
open Go Go.RowKit
theorem fact25:Tryz.pinned.checked.prog.mayEnter=true:=by kernel_rfl
end Go.Proofs.YtihoajjpninnoaaGreatDoor
namespace Go.Proofs.YtihoajjpninnoaaGreatDoor
open Go Go.RowKit
theorem fact26:(Rows.valuePlainRow.lifted==Tryz.pinned.checked.prog.liftsFinal)=true:=by kernel_rfl
end Go.Proofs.YtihoajjpninnoaaGreatDoor
namespace Go.Proofs.YtihoajjpninnoaaGreatDoor
open Go Go.RowKit
theorem fact0:Rows.valuePlainRow.wf (OpenSpec.ofChange Rows.valuePlainSpec)=true:=by kernel_rfl
theorem fact3:Tryz.f3.params.all (Tryz.pinned.checked.prog.readableRec ·)=true:=by kernel_rfl
theorem fact4:namedTie Tryz.pinned.checked.prog Rows.valuePlainRow.named Rows.valuePlainSpec.vars=true:=by kernel_rfl
theorem fact5:(Rows.valuePlainRow.stops==[])=true:=by kernel_rfl
theorem fact6:(Tryz.pinned.checked.prog.stops==[])=true:=by kernel_rfl
theorem fact7:(Rows.valuePlainRow.knobs==[])=true:=by kernel_rfl
theorem fact8:(Tryz.pinned.checked.prog.stopKnobs==[])=true:=by kernel_rfl
theorem fact13:(Rows.valuePlainRow.maps==(Tryz.f3.params.toList++Rows.valuePlainSpec.plain.varTypes Tryz.pinned.checked.prog).any (Tryz.pinned.checked.prog.mapsRec ·))=true:=by kernel_rfl
theorem fact14:(Rows.valuePlainRow.ifaces==(Tryz.f3.params.toList++Rows.valuePlainSpec.plain.varTypes Tryz.pinned.checked.prog).any (Tryz.pinned.checked.prog.ifacesRec ·))=true:=by kernel_rfl
theorem fact15:(Rows.valuePlainRow.mapsOut==Tryz.pinned.checked.prog.mapsAmong Tryz.f3.resultTypes.toList)=true:=by kernel_rfl
theorem fact16:(Rows.valuePlainRow.loops==(Tryz.f3.params.toList++Rows.valuePlainSpec.plain.varTypes Tryz.pinned.checked.prog).any (Tryz.pinned.checked.prog.loopsFrom ·))=true:=by kernel_rfl
theorem fact17:(Rows.valuePlainRow.wideKeys==(Tryz.f3.params.toList++Rows.valuePlainSpec.plain.varTypes Tryz.pinned.checked.prog++Tryz.f3.resultTypes.toList).any (Tryz.pinned.checked.prog.wideKeysFrom ·))=true:=by kernel_rfl
theorem fact18:Rows.valuePlainSpec.vars.all (Tryz.pinned.checked.prog.varReadable ·)=true:=by kernel_rfl
theorem fact19:Tryz.f3.resultTypes.all (fun t=>Tryz.pinned.checked.prog.readableRec t && decide (t < Tryz.pinned.checked.prog.types.size))=true:=by kernel_rfl
theorem fact20:(Rows.valuePlainRow.ifacesOut==Tryz.f3.resultTypes.toList.any (Tryz.pinned.checked.prog.ifacesRec ·))=true:=by kernel_rfl
theorem fact21:(Rows.valuePlainRow.loopsOut==Tryz.f3.resultTypes.toList.any (Tryz.pinned.checked.prog.loopsFrom ·))=true:=by kernel_rfl
theorem fact22:(Rows.valuePlainRow.plainKeys==Tryz.pinned.checked.prog.plainKeys)=true:=by kernel_rfl
theorem fact23:Rows.valuePlainRow.shortTexts.isNone=true:=by kernel_rfl
theorem fact27:(Tryz.pinned.checked.prog.make==some Rows.valuePlainRow.make)=true:=by kernel_rfl
theorem fact28:(Rows.valuePlainRow.kinds==(if Rows.valuePlainRow.domain.isEmpty then [] else Tryz.f3.params.toList.map fun t=>match Tryz.pinned.checked.prog.underlying t with | some (.int k)=>some k | _=>none))=true:=by kernel_rfl
theorem fact29:(Rows.valuePlainRow.pinned==Rows.valuePlainRow.pinnedBy)=true:=by kernel_rfl
theorem fact30:(Rows.valuePlainRow.veiled==(Tryz.f3.params.toList++Rows.valuePlainSpec.plain.varTypes Tryz.pinned.checked.prog++Tryz.f3.resultTypes.toList).any (Tryz.pinned.checked.prog.veiledRec ·))=true:=by kernel_rfl
theorem fact31:Rows.valuePlainRow.veiledFits Tryz.pinned.checked.prog Tryz.f3.params.toList (Tryz.f3.params.toList++Rows.valuePlainSpec.plain.varTypes Tryz.pinned.checked.prog++Tryz.f3.resultTypes.toList)=true:=by kernel_rfl
end Go.Proofs.YtihoajjpninnoaaGreatDoor
