/- On the way to: InterpRuns returns true; its listed variables read as the text lays them. -/
import Derived.Test.YthcfbbndlkbbkaaGreatDoorD1
import Derived.KernelRfl
namespace Go.Abs.Run
open Go Go.Abs Go.Proofs
theorem qfw0 : RecOK Tryz.prog tab qfr0 := .of (I := intrO) 2000 intrO_ok (by kernel_rfl)
end Go.Abs.Run
namespace Go.Abs.Run
open Go Go.Abs Go.Proofs
theorem qfw1 : RecOK Tryz.prog tab qfr1 := .of (I := intrO) 2000 intrO_ok (by kernel_rfl)
end Go.Abs.Run
namespace Go.Abs.Run
open Go Go.Abs Go.Proofs
theorem qfw3 : RecOK Tryz.prog tab qfr3 := .of (I := intrO) 2000 intrO_ok (by kernel_rfl)
end Go.Abs.Run
namespace Go.Abs.Run
open Go Go.Abs Go.Proofs
theorem qfw5 : RecOK Tryz.prog tab qfr5 := .of (I := intrO) 2000 intrO_ok (by kernel_rfl)
end Go.Abs.Run
namespace Go.Abs.Run
open Go Go.Abs Go.Proofs
theorem qfw2 : RecOK Tryz.prog tab qfr2 := .of (I := (withR intrO [(151, [qfr1])])) 2000 (withR_ok tab_ok mixed intrO_ok (recsCons (oneCons rfl qfw1 oneNil) recsNil)) (by kernel_rfl)
end Go.Abs.Run
namespace Go.Abs.Run
open Go Go.Abs Go.Proofs
theorem qfw4 : RecOK Tryz.prog tab qfr4 := .of (I := (withR intrO [(151, [qfr1]), (89, [qfr2]), (94, [qfr3])])) 2000 (withR_ok tab_ok mixed intrO_ok (recsCons (oneCons rfl qfw1 oneNil) (recsCons (oneCons rfl qfw2 oneNil) (recsCons (oneCons rfl qfw3 oneNil) recsNil)))) (by kernel_rfl)
end Go.Abs.Run
