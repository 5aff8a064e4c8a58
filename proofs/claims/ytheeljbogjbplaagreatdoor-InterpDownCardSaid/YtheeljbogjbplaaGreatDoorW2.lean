/- On the way to: InterpDown returns true; its listed variables read as the text lays them. -/
import Derived.Test.YtheeljbogjbplaaGreatDoorD1
import Derived.KernelRfl
namespace Go.Abs.Run
open Go Go.Abs Go.Proofs
theorem qfw0:z4k Tryz.prog tab qfr0:=.of (I:=z0w) 2000 z0a (by kernel_rfl)
end Go.Abs.Run
namespace Go.Abs.Run
open Go Go.Abs Go.Proofs
theorem qfw1:z4k Tryz.prog tab qfr1:=.of (I:=z0w) 2000 z0a (by kernel_rfl)
end Go.Abs.Run
namespace Go.Abs.Run
open Go Go.Abs Go.Proofs
theorem qfw3:z4k Tryz.prog tab qfr3:=.of (I:=z0w) 2000 z0a (by kernel_rfl)
end Go.Abs.Run
namespace Go.Abs.Run
open Go Go.Abs Go.Proofs
theorem qfw5:z4k Tryz.prog tab qfr5:=.of (I:=z0w) 2000 z0a (by kernel_rfl)
end Go.Abs.Run
namespace Go.Abs.Run
open Go Go.Abs Go.Proofs
theorem qfw2:z4k Tryz.prog tab qfr2:=.of (I:=(z5u z0w [(136,[qfr1])])) 2000 (z3h z3n z5v z0a (z1s (z2l rfl qfw1 z3y) z4l)) (by kernel_rfl)
end Go.Abs.Run
namespace Go.Abs.Run
open Go Go.Abs Go.Proofs
theorem qfw4:z4k Tryz.prog tab qfr4:=.of (I:=(z5u z0w [(136,[qfr1]),(68,[qfr2]),(73,[qfr3])])) 2000 (z3h z3n z5v z0a (z1s (z2l rfl qfw1 z3y) (z1s (z2l rfl qfw2 z3y) (z1s (z2l rfl qfw3 z3y) z4l)))) (by kernel_rfl)
end Go.Abs.Run
