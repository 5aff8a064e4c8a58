/- On the way to: InterpDepth returns true; its listed variables read as the text lays them. -/
import Derived.Test.YthncagamgiogjaaGreatDoorD1
import Derived.KernelRfl
namespace Go.Abs.Run
open Go Go.Abs Go.Proofs
theorem qfw0:z5w Tryz.prog tab qfr0:=.of (I:=z3d) 2000 z0s (by kernel_rfl)
end Go.Abs.Run
namespace Go.Abs.Run
open Go Go.Abs Go.Proofs
theorem qfw1:z5w Tryz.prog tab qfr1:=.of (I:=z3d) 2000 z0s (by kernel_rfl)
end Go.Abs.Run
namespace Go.Abs.Run
open Go Go.Abs Go.Proofs
theorem qfw3:z5w Tryz.prog tab qfr3:=.of (I:=z3d) 2000 z0s (by kernel_rfl)
end Go.Abs.Run
namespace Go.Abs.Run
open Go Go.Abs Go.Proofs
theorem qfw5:z5w Tryz.prog tab qfr5:=.of (I:=z3d) 2000 z0s (by kernel_rfl)
end Go.Abs.Run
namespace Go.Abs.Run
open Go Go.Abs Go.Proofs
theorem qfw2:z5w Tryz.prog tab qfr2:=.of (I:=(z7o z3d [(139,[qfr1])])) 2000 (z4g z24 mixed z0s (z23 (z39 rfl qfw1 z4z) z5x)) (by kernel_rfl)
end Go.Abs.Run
namespace Go.Abs.Run
open Go Go.Abs Go.Proofs
theorem qfw4:z5w Tryz.prog tab qfr4:=.of (I:=(z7o z3d [(139,[qfr1]),(71,[qfr2]),(76,[qfr3])])) 2000 (z4g z24 mixed z0s (z23 (z39 rfl qfw1 z4z) (z23 (z39 rfl qfw2 z4z) (z23 (z39 rfl qfw3 z4z) z5x)))) (by kernel_rfl)
end Go.Abs.Run
