/- On the way to: InterpShort returns true; its listed variables read as the text lays them. -/
import Derived.Test.YthcfbbndlkbbkaaGreatDoorD1
import Derived.KernelRfl
namespace Go.Abs.Run
open Go Go.Abs Go.Proofs
theorem qdw0:z1m Tryz.prog tab qdr0:=.of (I:=z2q) 2000 z0m (by kernel_rfl)
end Go.Abs.Run
namespace Go.Abs.Run
open Go Go.Abs Go.Proofs
theorem qew0:z1m Tryz.prog tab qer0:=.of (I:=z2q) 2000 z0m (by kernel_rfl)
end Go.Abs.Run
