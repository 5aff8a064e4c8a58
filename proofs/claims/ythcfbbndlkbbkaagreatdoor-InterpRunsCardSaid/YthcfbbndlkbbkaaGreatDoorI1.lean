/- On the way to: InterpRuns returns true; its listed variables read as the text lays them. -/
import Derived.Test.YthcfbbndlkbbkaaGreatDoorW1
import Derived.Test.YthcfbbndlkbbkaaGreatDoorD1
import Derived.Test.YthcfbbndlkbbkaaGreatDoorW2
import Derived.Test.YthcfbbndlkbbkaaGreatDoorW4
namespace Go.Abs.Run
open Go Go.Abs Go.Proofs
noncomputable def intrOd : Nat → Option IntrT := withR intrO [(16, [qdr0])]
theorem intrOd_ok : IntrOK Tryz.prog intrOd ∧ IntrPure intrOd := withR_ok tab_ok mixed intrO_ok (recsCons (oneCons rfl qdw0 oneNil) recsNil)
end Go.Abs.Run
namespace Go.Abs.Run
open Go Go.Abs Go.Proofs
noncomputable def intrOe : Nat → Option IntrT := withR intrO [(16, [qer0])]
theorem intrOe_ok : IntrOK Tryz.prog intrOe ∧ IntrPure intrOe := withR_ok tab_ok mixed intrO_ok (recsCons (oneCons rfl qew0 oneNil) recsNil)
end Go.Abs.Run
namespace Go.Abs.Run
open Go Go.Abs Go.Proofs
noncomputable def intrOf : Nat → Option IntrT := withR intrO [(16, [qfr0]), (49, [qfr4]), (54, [qfr5])]
theorem intrOf_ok : IntrOK Tryz.prog intrOf ∧ IntrPure intrOf := withR_ok tab_ok mixed intrO_ok (recsCons (oneCons rfl qfw0 oneNil) (recsCons (oneCons rfl qfw4 oneNil) (recsCons (oneCons rfl qfw5 oneNil) recsNil)))
end Go.Abs.Run
namespace Go.Abs.Run
open Go Go.Abs Go.Proofs
noncomputable def intrOg : Nat → Option IntrT := withR intrO [(16, [qgr0])]
theorem intrOg_ok : IntrOK Tryz.prog intrOg ∧ IntrPure intrOg := withR_ok tab_ok mixed intrO_ok (recsCons (oneCons rfl qgw0 oneNil) recsNil)
end Go.Abs.Run
namespace Go.Abs.Run
open Go Go.Abs Go.Proofs
noncomputable def intrOh : Nat → Option IntrT := withR intrO [(16, [qhr0])]
theorem intrOh_ok : IntrOK Tryz.prog intrOh ∧ IntrPure intrOh := withR_ok tab_ok mixed intrO_ok (recsCons (oneCons rfl qhw0 oneNil) recsNil)
end Go.Abs.Run
