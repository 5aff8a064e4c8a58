/- On the way to: InterpLoops returns true; its listed variables read as the text lays them. -/
import Derived.Test.YthncagamgiogjaaGreatDoorD1
import Derived.KernelRfl
namespace Go.Abs.Run
open Go Go.Abs Go.Proofs
theorem qfw0:z6h Tryz.prog tab qfr0:=.of (I:=z3u) 2000 z0x (by kernel_rfl)
end Go.Abs.Run
namespace Go.Abs.Run
open Go Go.Abs Go.Proofs
theorem qfw1:z6h Tryz.prog tab qfr1:=.of (I:=z3u) 2000 z0x (by kernel_rfl)
end Go.Abs.Run
namespace Go.Abs.Run
open Go Go.Abs Go.Proofs
theorem qfw3:z6h Tryz.prog tab qfr3:=.of (I:=z3u) 2000 z0x (by kernel_rfl)
end Go.Abs.Run
namespace Go.Abs.Run
open Go Go.Abs Go.Proofs
theorem qfw5:z6h Tryz.prog tab qfr5:=.of (I:=z3u) 2000 z0x (by kernel_rfl)
end Go.Abs.Run
namespace Go.Abs.Run
open Go Go.Abs Go.Proofs
theorem qfw2:z6h Tryz.prog tab qfr2:=.of (I:=(z8g z3u [(139,[qfr1])])) 2000 (z4u z2e mixed z0x (z2b (z3n rfl qfw1 z5g) z6i)) (by kernel_rfl)
end Go.Abs.Run
namespace Go.Abs.Run
open Go Go.Abs Go.Proofs
theorem qfw4:z6h Tryz.prog tab qfr4:=.of (I:=(z8g z3u [(139,[qfr1]),(71,[qfr2]),(76,[qfr3])])) 2000 (z4u z2e mixed z0x (z2b (z3n rfl qfw1 z5g) (z2b (z3n rfl qfw2 z5g) (z2b (z3n rfl qfw3 z5g) z6i)))) (by kernel_rfl)
end Go.Abs.Run
