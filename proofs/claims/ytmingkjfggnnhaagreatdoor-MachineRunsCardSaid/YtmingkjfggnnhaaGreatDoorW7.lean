/- Proved on the way to: coillaw14.MachineRuns returns true whatever the memory, its listed package variables reading as the program's text lays them. -/
import Derived.Test.YtmingkjfggnnhaaGreatDoorW2
import Derived.Test.YtmingkjfggnnhaaGreatDoorW3
import Derived.Test.YtmingkjfggnnhaaGreatDoorW4
import Derived.Test.YtmingkjfggnnhaaGreatDoorW5
import Derived.Test.YtmingkjfggnnhaaGreatDoorW6
import Derived.Test.YtmingkjfggnnhaaGreatDoorC5
import Derived.KernelRfl
set_option linter.unusedSectionVars false
set_option linter.unusedSimpArgs false
set_option linter.unusedVariables false
namespace Go.Abs.Run
open Go Go.Abs Go.Proofs
theorem w7 : RecOK Tryz.prog tab r7 := .of (I := (withR intr [(174, [r2]), (105, [r3]), (58, [r4]), (60, [r5]), (63, [r6])])) 2000 (withR_ok tab_ok mixed intr_ok (recsCons (oneCons rfl w2 oneNil) (recsCons (oneCons rfl w3 oneNil) (recsCons (oneCons rfl w4 oneNil) (recsCons (oneCons rfl w5 oneNil) (recsCons (oneCons rfl w6 oneNil) recsNil)))))) (by kernel_rfl)
end Go.Abs.Run

