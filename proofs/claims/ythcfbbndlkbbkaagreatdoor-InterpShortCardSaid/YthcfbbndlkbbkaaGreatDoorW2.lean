/- On the way to: InterpShort returns true; its listed variables read as the text lays them. -/
import Derived.Test.YthcfbbndlkbbkaaGreatDoorD1
import Derived.KernelRfl
namespace Go.Abs.Run
open Go Go.Abs Go.Proofs
theorem qfw0:z1m Tryz.prog tab qfr0:=.of (I:=z2q) 2000 z0m (by kernel_rfl)
end Go.Abs.Run
namespace Go.Abs.Run
open Go Go.Abs Go.Proofs
theorem qfw1:z1m Tryz.prog tab qfr1:=.of (I:=z2q) 2000 z0m (by kernel_rfl)
end Go.Abs.Run
namespace Go.Abs.Run
open Go Go.Abs Go.Proofs
theorem qfw3:z1m Tryz.prog tab qfr3:=.of (I:=z2q) 2000 z0m (by kernel_rfl)
end Go.Abs.Run
namespace Go.Abs.Run
open Go Go.Abs Go.Proofs
theorem qfw5:z1m Tryz.prog tab qfr5:=.of (I:=z2q) 2000 z0m (by kernel_rfl)
end Go.Abs.Run
namespace Go.Abs.Run
open Go Go.Abs Go.Proofs
theorem qfw2:z1m Tryz.prog tab qfr2:=.of (I:=(z2b z2q [(151,[qfr1])])) 2000 (z0p z1d z2o z0m (z0g (z0k rfl qfw1 z1c) z13)) (by kernel_rfl)
end Go.Abs.Run
namespace Go.Abs.Run
open Go Go.Abs Go.Proofs
theorem qfw4:z1m Tryz.prog tab qfr4:=.of (I:=(z2b z2q [(151,[qfr1]),(89,[qfr2]),(94,[qfr3])])) 2000 (z0p z1d z2o z0m (z0g (z0k rfl qfw1 z1c) (z0g (z0k rfl qfw2 z1c) (z0g (z0k rfl qfw3 z1c) z13)))) (by kernel_rfl)
end Go.Abs.Run
