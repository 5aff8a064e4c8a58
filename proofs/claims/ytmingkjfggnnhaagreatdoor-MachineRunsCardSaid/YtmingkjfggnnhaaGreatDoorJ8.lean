/- Proved on the way to: coillaw14.MachineRuns returns true whatever the memory, its listed package variables reading as the program's text lays them. -/
import Derived.Test.YtmingkjfggnnhaaGreatDoorRows
import Derived.ProofKit
import Derived.JoinedOf
import Derived.KernelRfl
set_option linter.unusedSectionVars false
set_option linter.unusedSimpArgs false
set_option linter.unusedVariables false
namespace Go.Proofs.YtmingkjfggnnhaaGreatDoor
open Go Go.RowKit
theorem fact26 : (Rows.machineRunsRow.lifted == Tryz.pinned.checked.prog.liftsFinal) = true := by kernel_rfl
end Go.Proofs.YtmingkjfggnnhaaGreatDoor

