/- Proved on the way to: ValueShared returns true whatever the memory, its listed package variables reading as the program's text lays them. -/
import Derived.Test.YtgoimidglekdoaaGreatDoorC5
import Derived.Test.YtgoimidglekdoaaGreatDoorL2
import Derived.KernelRfl
set_option autoImplicit false
set_option linter.unusedSectionVars false
set_option linter.unusedSimpArgs false
set_option linter.unusedVariables false
namespace Go.Abs.Run
open Go Go.Abs Go.Proofs
theorem w1 : RecOK Tryz.prog tab r1 := .of (I := intrP) 2000 intrP_ok (by kernel_rfl)
end Go.Abs.Run
