/- Proved on the way to: ValueShared returns true whatever the memory, its listed package variables reading as the program's text lays them. -/
import Derived.Test.YtgoimidglekdoaaGreatDoorS2
set_option autoImplicit false
set_option linter.unusedSectionVars false
set_option linter.unusedSimpArgs false
set_option linter.unusedVariables false
namespace Go.Abs.Run
open Go Go.Abs Go.Proofs
theorem post_true : retTrue s0 (run (callN tab intrV 2000) 2000 1 [] postC ⟨sgE, 11⟩ (EV (.vec 1 (List.replicate 4097 (vu 97))))) = true := by kernel_rfl
end Go.Abs.Run
