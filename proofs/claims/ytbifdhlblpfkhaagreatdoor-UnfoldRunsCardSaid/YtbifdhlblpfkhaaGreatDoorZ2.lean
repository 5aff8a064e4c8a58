/- Proved on the way to: coil/coillaw5.UnfoldRuns returns true whatever the memory, its seven listed package variables reading as the program's text lays them. -/
import Derived.Test.YtbifdhlblpfkhaaGreatDoorZ1
set_option linter.unusedSectionVars false
set_option linter.unusedSimpArgs false
set_option linter.unusedVariables false
namespace Go.Proofs.YtbifdhlblpfkhaaGreatDoor
open Go

/-- THE TIED CARD of UnfoldRuns. -/
theorem unfoldRuns_card : Rows.UnfoldRunsCardSaid :=
  Claim7.holds_tied_plain_at .later [] [.data, .data, .data, .sentinel, .sentinel, .listed, .data] true (true, "0bae57ce37564b7afec00c3b52b2e8861b1032fe567fae3aed3ad0d98a278d92") true
    unfoldRuns_said (fun _ h => by cases h) (by kernel_rfl) (fun _ h => by cases h) unfoldRuns_row_tie rfl ⟨rfl, rfl⟩ (by kernel_rfl) rfl
    (fun f fn hf hfn => by
      obtain rfl : f = 3 := Option.some.inj ((show Tryz.prog.funcNamed "coil/coillaw5.UnfoldRuns" = some 3 by kernel_rfl).symm.trans hf) |>.symm
      obtain rfl : fn = Tryz.f3 := (Option.some.inj (Tryz.func3.symm.trans hfn)).symm
      exact ⟨by kernel_rfl, fun j t ht => by
        rw [Tryz.params3] at ht
        simp at ht⟩)
    (by kernel_rfl)
#print axioms unfoldRuns_card
end Go.Proofs.YtbifdhlblpfkhaaGreatDoor

