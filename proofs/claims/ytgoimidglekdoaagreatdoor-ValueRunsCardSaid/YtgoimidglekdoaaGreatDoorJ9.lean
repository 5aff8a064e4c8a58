/- Proved on the way to: coillaw10.ValueRuns returns true whatever the memory, its listed package variables reading as the program's text lays them. -/
import Derived.Test.YtgoimidglekdoaaGreatDoorRows
import Derived.ProofKit
import Derived.JoinedOf
import Derived.KernelRfl
set_option autoImplicit false
set_option linter.unusedSectionVars false
set_option linter.unusedSimpArgs false
set_option linter.unusedVariables false
namespace Go.Proofs.YtgoimidglekdoaaGreatDoor
open Go Go.RowKit
theorem fact0 : Rows.valueRunsRow.wf (OpenSpec.ofChange Rows.valueRunsSpec) = true := by kernel_rfl
theorem fact3 : Tryz.f3.params.all (Tryz.pinned.checked.prog.readableRec ·) = true := by kernel_rfl
theorem fact4 : namedTie Tryz.pinned.checked.prog Rows.valueRunsRow.named Rows.valueRunsSpec.vars = true := by kernel_rfl
theorem fact5 : (Rows.valueRunsRow.stops == []) = true := by kernel_rfl
theorem fact6 : (Tryz.pinned.checked.prog.stops == []) = true := by kernel_rfl
theorem fact7 : (Rows.valueRunsRow.knobs == []) = true := by kernel_rfl
theorem fact8 : (Tryz.pinned.checked.prog.stopKnobs == []) = true := by kernel_rfl
theorem fact13 : (Rows.valueRunsRow.maps == (Tryz.f3.params.toList ++ Rows.valueRunsSpec.plain.varTypes Tryz.pinned.checked.prog).any (Tryz.pinned.checked.prog.mapsRec ·)) = true := by kernel_rfl
theorem fact14 : (Rows.valueRunsRow.ifaces == (Tryz.f3.params.toList ++ Rows.valueRunsSpec.plain.varTypes Tryz.pinned.checked.prog).any (Tryz.pinned.checked.prog.ifacesRec ·)) = true := by kernel_rfl
theorem fact15 : (Rows.valueRunsRow.mapsOut == Tryz.pinned.checked.prog.mapsAmong Tryz.f3.resultTypes.toList) = true := by kernel_rfl
theorem fact16 : (Rows.valueRunsRow.loops == (Tryz.f3.params.toList ++ Rows.valueRunsSpec.plain.varTypes Tryz.pinned.checked.prog).any (Tryz.pinned.checked.prog.loopsFrom ·)) = true := by kernel_rfl
theorem fact17 : (Rows.valueRunsRow.wideKeys == (Tryz.f3.params.toList ++ Rows.valueRunsSpec.plain.varTypes Tryz.pinned.checked.prog ++ Tryz.f3.resultTypes.toList).any (Tryz.pinned.checked.prog.wideKeysFrom ·)) = true := by kernel_rfl
theorem fact18 : Rows.valueRunsSpec.vars.all (Tryz.pinned.checked.prog.varReadable ·) = true := by kernel_rfl
theorem fact19 : Tryz.f3.resultTypes.all (fun t => Tryz.pinned.checked.prog.readableRec t && decide (t < Tryz.pinned.checked.prog.types.size)) = true := by kernel_rfl
theorem fact20 : (Rows.valueRunsRow.ifacesOut == Tryz.f3.resultTypes.toList.any (Tryz.pinned.checked.prog.ifacesRec ·)) = true := by kernel_rfl
theorem fact21 : (Rows.valueRunsRow.loopsOut == Tryz.f3.resultTypes.toList.any (Tryz.pinned.checked.prog.loopsFrom ·)) = true := by kernel_rfl
theorem fact22 : (Rows.valueRunsRow.plainKeys == Tryz.pinned.checked.prog.plainKeys) = true := by kernel_rfl
theorem fact23 : Rows.valueRunsRow.shortTexts.isNone = true := by kernel_rfl
theorem fact27 : (Tryz.pinned.checked.prog.make == some Rows.valueRunsRow.make) = true := by kernel_rfl
theorem fact28 : (Rows.valueRunsRow.kinds == (if Rows.valueRunsRow.domain.isEmpty then [] else Tryz.f3.params.toList.map fun t => match Tryz.pinned.checked.prog.underlying t with | some (.int k) => some k | _ => none)) = true := by kernel_rfl
theorem fact29 : (Rows.valueRunsRow.pinned == Rows.valueRunsRow.pinnedBy) = true := by kernel_rfl
theorem fact30 : (Rows.valueRunsRow.veiled == (Tryz.f3.params.toList ++ Rows.valueRunsSpec.plain.varTypes Tryz.pinned.checked.prog ++ Tryz.f3.resultTypes.toList).any (Tryz.pinned.checked.prog.veiledRec ·)) = true := by kernel_rfl
theorem fact31 : Rows.valueRunsRow.veiledFits Tryz.pinned.checked.prog Tryz.f3.params.toList (Tryz.f3.params.toList ++ Rows.valueRunsSpec.plain.varTypes Tryz.pinned.checked.prog ++ Tryz.f3.resultTypes.toList) = true := by kernel_rfl
end Go.Proofs.YtgoimidglekdoaaGreatDoor

