/- Proved on the way to: coillaw14.MachineRuns returns true whatever the memory, its listed package variables reading as the program's text lays them. -/
import Derived.Test.YtmingkjfggnnhaaGreatDoorW0
import Derived.Test.YtmingkjfggnnhaaGreatDoorC5
import Derived.KernelRfl
set_option linter.unusedSectionVars false
set_option linter.unusedSimpArgs false
set_option linter.unusedVariables false
namespace Go.Abs.Run
open Go Go.Abs Go.Proofs
theorem w1 : RecOK Tryz.prog tab r1 := .of (I := (withR intr [(31, [r0])])) 2000 (withR_ok tab_ok mixed intr_ok (recsCons (oneCons rfl w0 oneNil) recsNil)) (by kernel_rfl)
end Go.Abs.Run

