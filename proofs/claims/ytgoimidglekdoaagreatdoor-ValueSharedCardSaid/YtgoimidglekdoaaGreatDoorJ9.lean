/- Proved on the way to: ValueShared returns true whatever the memory, its listed package variables reading as the program's text lays them. -/
import Derived.Test.YtgoimidglekdoaaGreatDoorRows
import Derived.ProofKit
import Derived.JoinedOf
import Derived.KernelRfl
set_option autoImplicit false
set_option linter.unusedSectionVars false
set_option linter.unusedSimpArgs false
set_option linter.unusedVariables false
namespace Go.Proofs.YtgoimidglekdoaaGreatDoor
open Go Go.RowKit
theorem fact0 : Rows.valueSharedRow.wf (OpenSpec.ofChange Rows.valueSharedSpec) = true := by kernel_rfl
theorem fact3 : Tryz.f5.params.all (Tryz.pinned.checked.prog.readableRec ·) = true := by kernel_rfl
theorem fact4 : namedTie Tryz.pinned.checked.prog Rows.valueSharedRow.named Rows.valueSharedSpec.vars = true := by kernel_rfl
theorem fact5 : (Rows.valueSharedRow.stops == []) = true := by kernel_rfl
theorem fact6 : (Tryz.pinned.checked.prog.stops == []) = true := by kernel_rfl
theorem fact7 : (Rows.valueSharedRow.knobs == []) = true := by kernel_rfl
theorem fact8 : (Tryz.pinned.checked.prog.stopKnobs == []) = true := by kernel_rfl
theorem fact13 : (Rows.valueSharedRow.maps == (Tryz.f5.params.toList ++ Rows.valueSharedSpec.plain.varTypes Tryz.pinned.checked.prog).any (Tryz.pinned.checked.prog.mapsRec ·)) = true := by kernel_rfl
theorem fact14 : (Rows.valueSharedRow.ifaces == (Tryz.f5.params.toList ++ Rows.valueSharedSpec.plain.varTypes Tryz.pinned.checked.prog).any (Tryz.pinned.checked.prog.ifacesRec ·)) = true := by kernel_rfl
theorem fact15 : (Rows.valueSharedRow.mapsOut == Tryz.pinned.checked.prog.mapsAmong Tryz.f5.resultTypes.toList) = true := by kernel_rfl
theorem fact16 : (Rows.valueSharedRow.loops == (Tryz.f5.params.toList ++ Rows.valueSharedSpec.plain.varTypes Tryz.pinned.checked.prog).any (Tryz.pinned.checked.prog.loopsFrom ·)) = true := by kernel_rfl
theorem fact17 : (Rows.valueSharedRow.wideKeys == (Tryz.f5.params.toList ++ Rows.valueSharedSpec.plain.varTypes Tryz.pinned.checked.prog ++ Tryz.f5.resultTypes.toList).any (Tryz.pinned.checked.prog.wideKeysFrom ·)) = true := by kernel_rfl
theorem fact18 : Rows.valueSharedSpec.vars.all (Tryz.pinned.checked.prog.varReadable ·) = true := by kernel_rfl
theorem fact19 : Tryz.f5.resultTypes.all (fun t => Tryz.pinned.checked.prog.readableRec t && decide (t < Tryz.pinned.checked.prog.types.size)) = true := by kernel_rfl
theorem fact20 : (Rows.valueSharedRow.ifacesOut == Tryz.f5.resultTypes.toList.any (Tryz.pinned.checked.prog.ifacesRec ·)) = true := by kernel_rfl
theorem fact21 : (Rows.valueSharedRow.loopsOut == Tryz.f5.resultTypes.toList.any (Tryz.pinned.checked.prog.loopsFrom ·)) = true := by kernel_rfl
theorem fact22 : (Rows.valueSharedRow.plainKeys == Tryz.pinned.checked.prog.plainKeys) = true := by kernel_rfl
theorem fact23 : Rows.valueSharedRow.shortTexts.isNone = true := by kernel_rfl
theorem fact27 : (Tryz.pinned.checked.prog.make == some Rows.valueSharedRow.make) = true := by kernel_rfl
theorem fact28 : (Rows.valueSharedRow.kinds == (if Rows.valueSharedRow.domain.isEmpty then [] else Tryz.f5.params.toList.map fun t => match Tryz.pinned.checked.prog.underlying t with | some (.int k) => some k | _ => none)) = true := by kernel_rfl
theorem fact29 : (Rows.valueSharedRow.pinned == Rows.valueSharedRow.pinnedBy) = true := by kernel_rfl
theorem fact30 : (Rows.valueSharedRow.veiled == (Tryz.f5.params.toList ++ Rows.valueSharedSpec.plain.varTypes Tryz.pinned.checked.prog ++ Tryz.f5.resultTypes.toList).any (Tryz.pinned.checked.prog.veiledRec ·)) = true := by kernel_rfl
theorem fact31 : Rows.valueSharedRow.veiledFits Tryz.pinned.checked.prog Tryz.f5.params.toList (Tryz.f5.params.toList ++ Rows.valueSharedSpec.plain.varTypes Tryz.pinned.checked.prog ++ Tryz.f5.resultTypes.toList) = true := by kernel_rfl
end Go.Proofs.YtgoimidglekdoaaGreatDoor
