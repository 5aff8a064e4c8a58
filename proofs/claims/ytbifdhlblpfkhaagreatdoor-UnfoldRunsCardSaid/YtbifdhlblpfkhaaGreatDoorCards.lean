/-
  DERIVED. GIVEN WITH THE SEED: THE CARDS: each row of YtbifdhlblpfkhaaGreatDoorRows.lean that lists a variable, with what it lists TIED to the program's text (the seventh form; the later family's looks); each row that meets fmt, with fmt's text TOLD by the authors' own Lean function (tested against real Go, not proved from fmt's source: count such statements apart). THE CARD IS WHAT COUNTS. Prove the row's statement (the work); the ties are given (YtbifdhlblpfkhaaGreatDoorTie.lean); close each card by the builder's one call (the guide's Derived/Test/ToyasCard.lean, 'card_holds'). Laid BY PROGRAM, IN A SANDBOX (cutbox-door.mjs). By AI agents, Wed Nov 11 2026. No macro, syntax, notation, axiom, sorry.
-/
import Derived.Test.YtbifdhlblpfkhaaGreatDoorRows
import GoSem.ClaimSeven
namespace Go.Proofs.YtbifdhlblpfkhaaGreatDoor
namespace Rows

/-- THE TIED CARD OF 'coillaw5.UnfoldRuns'. -/
def unfoldRunsCard : Claim7 := { stood := { row := unfoldRunsRow, standIns := [], harness := (true, "0bae57ce37564b7afec00c3b52b2e8861b1032fe567fae3aed3ad0d98a278d92"), looks := true }, kinds := [], alts := [], laidByText := true, laidKinds := [.data, .data, .data, .sentinel, .sentinel, .listed, .data], laidTests := true, laidLooks := .later }
def UnfoldRunsCardSaid : Prop := Claim7.holds Tryz.pinned (.plain (OpenSpec.ofChange unfoldRunsSpec)) unfoldRunsCard

/-- THE SECOND FORM's CARD OF 'coillaw5.UnfoldRuns'. -/
def unfoldRunsUptoCard : Claim7 := { stood := { row := unfoldRunsUptoRow, standIns := [], harness := (true, "0bae57ce37564b7afec00c3b52b2e8861b1032fe567fae3aed3ad0d98a278d92"), looks := true }, kinds := [], alts := [], laidByText := true, laidKinds := [.data, .data, .data, .sentinel, .sentinel, .listed, .data], laidTests := true, laidLooks := .later }
def UnfoldRunsUptoCardSaid : Prop := Claim7.holds Tryz.pinned (.plain (OpenSpec.upto unfoldRunsSpec)) unfoldRunsUptoCard
end Rows
end Go.Proofs.YtbifdhlblpfkhaaGreatDoor
