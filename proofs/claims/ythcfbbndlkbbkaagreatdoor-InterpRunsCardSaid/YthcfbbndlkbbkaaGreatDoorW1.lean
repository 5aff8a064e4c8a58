/- On the way to: InterpRuns returns true; its listed variables read as the text lays them. -/
import Derived.Test.YthcfbbndlkbbkaaGreatDoorD1
import Derived.KernelRfl
namespace Go.Abs.Run
open Go Go.Abs Go.Proofs
theorem qdw0 : RecOK Tryz.prog tab qdr0 := .of (I := intrO) 2000 intrO_ok (by kernel_rfl)
end Go.Abs.Run
namespace Go.Abs.Run
open Go Go.Abs Go.Proofs
theorem qew0 : RecOK Tryz.prog tab qer0 := .of (I := intrO) 2000 intrO_ok (by kernel_rfl)
end Go.Abs.Run
