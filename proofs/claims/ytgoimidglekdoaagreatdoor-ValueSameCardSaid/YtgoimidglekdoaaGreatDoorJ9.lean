/- Proved on the way to: coillaw10.ValueSame returns true whatever the memory, its listed package variables reading as the program's text lays them. -/
import Derived.Test.YtgoimidglekdoaaGreatDoorRows
import Derived.ProofKit
import Derived.JoinedOf
import Derived.KernelRfl
set_option autoImplicit false
set_option linter.unusedSectionVars false
set_option linter.unusedSimpArgs false
set_option linter.unusedVariables false
namespace Go.Proofs.YtgoimidglekdoaaGreatDoor
open Go Go.RowKit
theorem fact0 : Rows.valueSameRow.wf (OpenSpec.ofChange Rows.valueSameSpec) = true := by kernel_rfl
theorem fact3 : Tryz.f4.params.all (Tryz.pinned.checked.prog.readableRec ·) = true := by kernel_rfl
theorem fact4 : namedTie Tryz.pinned.checked.prog Rows.valueSameRow.named Rows.valueSameSpec.vars = true := by kernel_rfl
theorem fact5 : (Rows.valueSameRow.stops == []) = true := by kernel_rfl
theorem fact6 : (Tryz.pinned.checked.prog.stops == []) = true := by kernel_rfl
theorem fact7 : (Rows.valueSameRow.knobs == []) = true := by kernel_rfl
theorem fact8 : (Tryz.pinned.checked.prog.stopKnobs == []) = true := by kernel_rfl
theorem fact13 : (Rows.valueSameRow.maps == (Tryz.f4.params.toList ++ Rows.valueSameSpec.plain.varTypes Tryz.pinned.checked.prog).any (Tryz.pinned.checked.prog.mapsRec ·)) = true := by kernel_rfl
theorem fact14 : (Rows.valueSameRow.ifaces == (Tryz.f4.params.toList ++ Rows.valueSameSpec.plain.varTypes Tryz.pinned.checked.prog).any (Tryz.pinned.checked.prog.ifacesRec ·)) = true := by kernel_rfl
theorem fact15 : (Rows.valueSameRow.mapsOut == Tryz.pinned.checked.prog.mapsAmong Tryz.f4.resultTypes.toList) = true := by kernel_rfl
theorem fact16 : (Rows.valueSameRow.loops == (Tryz.f4.params.toList ++ Rows.valueSameSpec.plain.varTypes Tryz.pinned.checked.prog).any (Tryz.pinned.checked.prog.loopsFrom ·)) = true := by kernel_rfl
theorem fact17 : (Rows.valueSameRow.wideKeys == (Tryz.f4.params.toList ++ Rows.valueSameSpec.plain.varTypes Tryz.pinned.checked.prog ++ Tryz.f4.resultTypes.toList).any (Tryz.pinned.checked.prog.wideKeysFrom ·)) = true := by kernel_rfl
theorem fact18 : Rows.valueSameSpec.vars.all (Tryz.pinned.checked.prog.varReadable ·) = true := by kernel_rfl
theorem fact19 : Tryz.f4.resultTypes.all (fun t => Tryz.pinned.checked.prog.readableRec t && decide (t < Tryz.pinned.checked.prog.types.size)) = true := by kernel_rfl
theorem fact20 : (Rows.valueSameRow.ifacesOut == Tryz.f4.resultTypes.toList.any (Tryz.pinned.checked.prog.ifacesRec ·)) = true := by kernel_rfl
theorem fact21 : (Rows.valueSameRow.loopsOut == Tryz.f4.resultTypes.toList.any (Tryz.pinned.checked.prog.loopsFrom ·)) = true := by kernel_rfl
theorem fact22 : (Rows.valueSameRow.plainKeys == Tryz.pinned.checked.prog.plainKeys) = true := by kernel_rfl
theorem fact23 : Rows.valueSameRow.shortTexts.isNone = true := by kernel_rfl
theorem fact27 : (Tryz.pinned.checked.prog.make == some Rows.valueSameRow.make) = true := by kernel_rfl
theorem fact28 : (Rows.valueSameRow.kinds == (if Rows.valueSameRow.domain.isEmpty then [] else Tryz.f4.params.toList.map fun t => match Tryz.pinned.checked.prog.underlying t with | some (.int k) => some k | _ => none)) = true := by kernel_rfl
theorem fact29 : (Rows.valueSameRow.pinned == Rows.valueSameRow.pinnedBy) = true := by kernel_rfl
theorem fact30 : (Rows.valueSameRow.veiled == (Tryz.f4.params.toList ++ Rows.valueSameSpec.plain.varTypes Tryz.pinned.checked.prog ++ Tryz.f4.resultTypes.toList).any (Tryz.pinned.checked.prog.veiledRec ·)) = true := by kernel_rfl
theorem fact31 : Rows.valueSameRow.veiledFits Tryz.pinned.checked.prog Tryz.f4.params.toList (Tryz.f4.params.toList ++ Rows.valueSameSpec.plain.varTypes Tryz.pinned.checked.prog ++ Tryz.f4.resultTypes.toList) = true := by kernel_rfl
end Go.Proofs.YtgoimidglekdoaaGreatDoor

