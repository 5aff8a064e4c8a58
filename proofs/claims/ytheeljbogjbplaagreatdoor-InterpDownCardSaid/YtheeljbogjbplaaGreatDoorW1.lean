/- On the way to: InterpDown returns true; its listed variables read as the text lays them. -/
import Derived.Test.YtheeljbogjbplaaGreatDoorD1
import Derived.KernelRfl
namespace Go.Abs.Run
open Go Go.Abs Go.Proofs
theorem qdw0:z4k Tryz.prog tab qdr0:=.of (I:=z0w) 2000 z0a (by kernel_rfl)
end Go.Abs.Run
namespace Go.Abs.Run
open Go Go.Abs Go.Proofs
theorem qew0:z4k Tryz.prog tab qer0:=.of (I:=z0w) 2000 z0a (by kernel_rfl)
end Go.Abs.Run
namespace Go.Abs.Run
open Go Go.Abs Go.Proofs
theorem qgw0:z4k Tryz.prog tab qgr0:=.of (I:=z0w) 2000 z0a (by kernel_rfl)
end Go.Abs.Run
namespace Go.Abs.Run
open Go Go.Abs Go.Proofs
theorem qhw0:z4k Tryz.prog tab qhr0:=.of (I:=z0w) 2000 z0a (by kernel_rfl)
end Go.Abs.Run
