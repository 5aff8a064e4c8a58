/- Proved on the way to: coillaw14.MachineRuns returns true whatever the memory, its listed package variables reading as the program's text lays them. -/
import Derived.Test.YtmingkjfggnnhaaGreatDoorRows
import Derived.ProofKit
import Derived.LaidMore
import Derived.OpenShut
import Derived.Stop.Joined
import Derived.SevenTiedAt
import Derived.KernelRfl
set_option linter.unusedSectionVars false
set_option linter.unusedSimpArgs false
set_option linter.unusedVariables false
namespace Go.Proofs.YtmingkjfggnnhaaGreatDoor
open Go Go.ChangeShapes Go.WideShapes Go.ChangeAt Go.RowKit
theorem door5 (os : Os) : ((World.doorLaid Tryz.prog 100 os).forCall (fun _ _ => 0) ⟨#[], #[], []⟩).variablesRefB Tryz.prog = true := by kernel_rfl
end Go.Proofs.YtmingkjfggnnhaaGreatDoor

