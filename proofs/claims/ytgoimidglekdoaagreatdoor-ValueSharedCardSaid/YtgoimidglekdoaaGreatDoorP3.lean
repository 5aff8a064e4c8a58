/- Proved on the way to: ValueShared returns true whatever the memory, its listed package variables reading as the program's text lays them. -/
import Derived.Test.YtgoimidglekdoaaGreatDoorRows
import Derived.ProofKit
import Derived.LaidMore
import Derived.OpenShut
import Derived.Stop.Joined
import Derived.SevenTiedAt
import Derived.KernelRfl
set_option autoImplicit false
set_option linter.unusedSectionVars false
set_option linter.unusedSimpArgs false
set_option linter.unusedVariables false
namespace Go.Proofs.YtgoimidglekdoaaGreatDoor
open Go Go.ChangeShapes Go.WideShapes Go.ChangeAt Go.RowKit
theorem door3 (os : Os) (args : Array Value) : (Rows.valueSharedRow.laid.filter fun x => x.2.handleName?.isSome && x.2.funcsIn?.isNone).all (handleAtB Tryz.prog ((World.doorLaid Tryz.prog 78 os).forCall (fun _ _ => 0) ⟨#[], args, []⟩).memory) = true := by kernel_rfl
theorem door4 (os : Os) (args : Array Value) : funcsRun Tryz.prog ((World.doorLaid Tryz.prog 78 os).forCall (fun _ _ => 0) ⟨#[], args, []⟩).memory 8 ((funcsListed Rows.valueSharedRow.laid).map (·.1)) = some ((funcsListed Rows.valueSharedRow.laid).map (·.2.funcsOut)) := by kernel_rfl
end Go.Proofs.YtgoimidglekdoaaGreatDoor
