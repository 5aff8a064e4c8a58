/- On the way to: InterpRuns returns true; its listed variables read as the text lays them. -/
import Derived.Test.YthcfbbndlkbbkaaGreatDoorD1
import Derived.KernelRfl
namespace Go.Abs.Run
open Go Go.Abs Go.Proofs
theorem qgw0 : RecOK Tryz.prog tab qgr0 := .of (I := intrO) 2000 intrO_ok (by kernel_rfl)
end Go.Abs.Run
namespace Go.Abs.Run
open Go Go.Abs Go.Proofs
theorem qhw0 : RecOK Tryz.prog tab qhr0 := .of (I := intrO) 2000 intrO_ok (by kernel_rfl)
end Go.Abs.Run
