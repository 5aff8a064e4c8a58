/- Proved on the way to: ValueShared returns true whatever the memory, its listed package variables reading as the program's text lays them. -/
import Derived.Test.YtgoimidglekdoaaGreatDoorRows
import Derived.ProofKit
import Derived.LaidMore
import Derived.OpenShut
import Derived.Stop.Joined
import Derived.SevenTiedAt
import Derived.KernelRfl
set_option autoImplicit false
set_option linter.unusedSectionVars false
set_option linter.unusedSimpArgs false
set_option linter.unusedVariables false
namespace Go.Proofs.YtgoimidglekdoaaGreatDoor
open Go Go.ChangeShapes Go.WideShapes Go.ChangeAt Go.RowKit
theorem door7 (os : Os) : Input.okWideB Tryz.prog ((World.doorLaid Tryz.prog 78 os).forCall (fun _ _ => 0) ⟨#[], #[.int .i64 0], []⟩) 5 ⟨#[], #[.int .i64 0], []⟩ = true := by kernel_rfl
end Go.Proofs.YtgoimidglekdoaaGreatDoor
