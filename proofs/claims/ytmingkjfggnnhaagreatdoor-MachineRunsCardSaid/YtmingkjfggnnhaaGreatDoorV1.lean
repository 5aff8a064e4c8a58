/- Proved on the way to: coillaw14.MachineRuns returns true whatever the memory, its listed package variables reading as the program's text lays them. -/
import Derived.Test.YtmingkjfggnnhaaGreatDoorC5
import Derived.KernelRfl
set_option linter.unusedSectionVars false
set_option linter.unusedSimpArgs false
set_option linter.unusedVariables false
namespace Go.Abs.Run
open Go Go.Abs Go.Proofs
noncomputable def intrR : Nat → Option IntrT := withR intr [(15, [r1]), (16, [r7]), (6, [r8, r9]), (8, [r10])]
theorem run_true : isTrueR (callN tab intrR 2000 3 [] [] 1 ⟨[], [], []⟩) = true := by kernel_rfl
end Go.Abs.Run

