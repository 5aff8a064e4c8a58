/- On the way to: InterpLoops returns true; its listed variables read as the text lays them. -/
import Derived.Test.YthncagamgiogjaaGreatDoorD1
import Derived.KernelRfl
namespace Go.Abs.Run
open Go Go.Abs Go.Proofs
theorem qdw0:z6h Tryz.prog tab qdr0:=.of (I:=z3u) 2000 z0x (by kernel_rfl)
end Go.Abs.Run
namespace Go.Abs.Run
open Go Go.Abs Go.Proofs
theorem qew0:z6h Tryz.prog tab qer0:=.of (I:=z3u) 2000 z0x (by kernel_rfl)
end Go.Abs.Run
namespace Go.Abs.Run
open Go Go.Abs Go.Proofs
theorem qgw0:z6h Tryz.prog tab qgr0:=.of (I:=z3u) 2000 z0x (by kernel_rfl)
end Go.Abs.Run
namespace Go.Abs.Run
open Go Go.Abs Go.Proofs
theorem qhw0:z6h Tryz.prog tab qhr0:=.of (I:=z3u) 2000 z0x (by kernel_rfl)
end Go.Abs.Run
