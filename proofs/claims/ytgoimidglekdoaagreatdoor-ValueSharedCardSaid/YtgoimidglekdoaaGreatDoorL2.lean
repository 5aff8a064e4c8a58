/- Proved on the way to: ValueShared returns true whatever the memory, its listed package variables reading as the program's text lays them. -/
import Derived.Test.YtgoimidglekdoaaGreatDoorC4
import Derived.Test.YtgoimidglekdoaaGreatDoorL1
set_option autoImplicit false
set_option linter.unusedSectionVars false
set_option linter.unusedSimpArgs false
set_option linter.unusedVariables false
namespace Go.Abs.Run
open Go Go.Abs Go.Proofs
theorem condG {α : Type} {b : Bool} {x y : Option α} {a : α} {C : Prop} (hx : x = some a → C) (hy : y = some a → C) (h : cond b x y = some a) : C := by
  cases b
  · exact hy h
  · exact hx h
theorem fgInts (k : IntKind) (l : List Nat) : Fg (.agg (l.map fun m => .int k (.ofNat m))) (.agg (l.map fun m => .int k (.ofNat m))) :=
  .agg rfl fun i c d h1 h2 => by
    rw [h1] at h2; cases h2
    simp only [List.getElem?_map, Option.map_eq_some_iff] at h1
    obtain ⟨m, _, rfl⟩ := h1
    exact .int _ _
theorem gvs_fg (g : Nat) (cs : List AV) : gvs g = some cs → Fg (.agg cs) (.agg cs) := by
  unfold gvs
  exact fun h => condG (fun h => by cases h; rw [g3_eq]; exact fgInts _ _) (fun h => by cases h) h
instance gplain : GPlain := ⟨gvs_fg⟩
theorem lB0 : LBuilder tab intr := by constructor <;> rfl
theorem lQ0 : LQuote tab intr := { lB0 with pQ := rfl, iQ := rfl }
noncomputable def intrQ : Nat → Option IntrT := addI intr 262 (pureI quoteG)
theorem quote_ok : IOK Tryz.prog 262 (pureI quoteG) := quote_iok tab_ok intr_ok mixed lQ0
theorem intrQ_ok : IntrOK Tryz.prog intrQ ∧ IntrPure intrQ := addI_ok intr_ok quote_ok
theorem lBQ : LBuilder tab intrQ := by constructor <;> rfl
theorem lTQ : LText tab intrQ := { lBQ with p298 := rfl, i298 := rfl, p315 := rfl, i315 := rfl }
theorem lKQ : LToken tab intrQ := { lTQ with p311 := rfl, i311 := rfl, p312 := rfl, i312 := rfl, p293 := rfl, i293 := rfl, p294 := rfl, i294 := rfl, p263 := rfl, i263 := rfl, p264 := rfl, i264 := rfl }
theorem lWQ : LWritten tab intrQ := { lKQ with iQ := rfl, p220 := rfl, i220 := rfl }
theorem written_ok : IOK Tryz.prog 220 (pureI writtenG) := written_iok tab_ok intrQ_ok mixed lWQ
noncomputable def intrW : Nat → Option IntrT := addI intr 220 (pureI writtenG)
theorem intrW_ok : IntrOK Tryz.prog intrW ∧ IntrPure intrW := addI_ok intr_ok written_ok
theorem lBW : LBuilder tab intrW := by constructor <;> rfl
theorem lJW : LJoin tab intrW := { lBW with iWr := rfl, p165 := rfl, i165 := rfl, p106 := rfl, i106 := rfl }
theorem plain_ok : IOK Tryz.prog 106 (pureI plainG) := plain_iok tab_ok intrW_ok mixed lJW
theorem lT0 : LTold tab intr := { lB0 with p102 := rfl, i102 := rfl, p38 := rfl, i38 := rfl }
theorem told_ok : IOK Tryz.prog 38 (pureI toldG) := told_iok tab_ok intr_ok mixed lT0
noncomputable def intrP : Nat → Option IntrT := addI (addI intr 106 (pureI plainG)) 38 (pureI toldG)
theorem intrP_ok : IntrOK Tryz.prog intrP ∧ IntrPure intrP := addI_ok (addI_ok intr_ok plain_ok) told_ok
end Go.Abs.Run
