/- Proved on the way to: coil/coillaw5.UnfoldRuns returns true whatever the memory, its seven listed package variables reading as the program's text lays them. -/
import Derived.Test.YtbifdhlblpfkhaaGreatDoorW1
import Derived.Test.YtbifdhlblpfkhaaGreatDoorW2
import Derived.Test.YtbifdhlblpfkhaaGreatDoorC4
import Derived.KernelRfl
set_option linter.unusedSectionVars false
set_option linter.unusedSimpArgs false
set_option linter.unusedVariables false
namespace Go.Abs.Run
open Go Go.Abs Go.Proofs
theorem w3 : RecOK Tryz.prog tab r3 := .of (I := (withR intr [(53, [r1, r2])])) 2000 (withR_ok tab_ok mixed intr_ok (recsCons (oneCons rfl w1 (oneCons rfl w2 oneNil)) recsNil)) (by kernel_rfl)
end Go.Abs.Run

