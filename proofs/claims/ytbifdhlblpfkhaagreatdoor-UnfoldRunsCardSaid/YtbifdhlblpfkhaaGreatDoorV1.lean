/- Proved on the way to: coil/coillaw5.UnfoldRuns returns true whatever the memory, its seven listed package variables reading as the program's text lays them. -/
import Derived.Test.YtbifdhlblpfkhaaGreatDoorC4
import Derived.KernelRfl
set_option linter.unusedSectionVars false
set_option linter.unusedSimpArgs false
set_option linter.unusedVariables false
namespace Go.Abs.Run
open Go Go.Abs Go.Proofs
noncomputable def intrR : Nat → Option IntrT := withR intr [(4, [r0]), (5, [r3])]
theorem run_true : isTrueR (callN tab intrR 2000 3 [] [] 1 ⟨[], [], []⟩) = true := by kernel_rfl
end Go.Abs.Run

