/- On the way to: ValuePlain returns true; its listed variables read as the text lays them. -/
import Derived.Test.YtihoajjpninnoaaGreatDoorC5
import Derived.Test.YtihoajjpninnoaaGreatDoorL2
import Derived.KernelRfl
namespace Go.Abs.Run
open Go Go.Abs Go.Proofs
theorem w1:zce Tryz.prog tab r1:=.of (I:=zhw) 2000 zaf (by kernel_rfl)
end Go.Abs.Run
