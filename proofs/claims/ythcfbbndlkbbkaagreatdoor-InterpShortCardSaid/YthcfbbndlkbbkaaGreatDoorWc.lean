/- On the way to: InterpShort returns true; its listed variables read as the text lays them. -/
import Derived.Test.YthcfbbndlkbbkaaGreatDoorWa
import Derived.Test.YthcfbbndlkbbkaaGreatDoorDa
import Derived.KernelRfl
namespace Go.Abs.Run
open Go Go.Abs Go.Proofs
theorem nttw1:z1m Tryz.prog tab nttr1:=.of (I:=(z2b z1g [(16,[nttr0])])) 2000 (z0p z1d z2o z0d (z0g (z0k rfl nttw0 z1c) z13)) (by kernel_rfl)
end Go.Abs.Run
namespace Go.Abs.Run
open Go Go.Abs Go.Proofs
theorem nttw3:z1m Tryz.prog tab nttr3:=.of (I:=(z2b z1g [(16,[nttr2])])) 2000 (z0p z1d z2o z0d (z0g (z0k rfl nttw2 z1c) z13)) (by kernel_rfl)
end Go.Abs.Run
