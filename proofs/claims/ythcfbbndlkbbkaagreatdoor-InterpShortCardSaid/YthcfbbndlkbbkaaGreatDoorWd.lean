/- On the way to: InterpShort returns true; its listed variables read as the text lays them. -/
import Derived.Test.YthcfbbndlkbbkaaGreatDoorWa
import Derived.Test.YthcfbbndlkbbkaaGreatDoorDa
import Derived.KernelRfl
namespace Go.Abs.Run
open Go Go.Abs Go.Proofs
theorem ntfw1:z1m Tryz.prog tab ntfr1:=.of (I:=(z2b z1g [(16,[ntfr0])])) 2000 (z0p z1d z2o z0d (z0g (z0k rfl ntfw0 z1c) z13)) (by kernel_rfl)
end Go.Abs.Run
namespace Go.Abs.Run
open Go Go.Abs Go.Proofs
theorem ntfw3:z1m Tryz.prog tab ntfr3:=.of (I:=(z2b z1g [(16,[ntfr2])])) 2000 (z0p z1d z2o z0d (z0g (z0k rfl ntfw2 z1c) z13)) (by kernel_rfl)
end Go.Abs.Run
