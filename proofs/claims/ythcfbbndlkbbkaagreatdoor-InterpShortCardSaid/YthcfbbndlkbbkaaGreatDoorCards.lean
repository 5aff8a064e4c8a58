/-
  DERIVED. GIVEN WITH THE SEED: THE CARDS: each row of YthcfbbndlkbbkaaGreatDoorRows.lean that lists a variable, with what it lists TIED to the program's text (the seventh form; the later family's looks); each row that meets fmt, with fmt's text TOLD by the authors' own Lean function (tested against real Go, not proved from fmt's source: count such statements apart). THE CARD IS WHAT COUNTS. Prove the row's statement (the work); the ties are given (YthcfbbndlkbbkaaGreatDoorTie.lean); close each card by the builder's one call (the guide's Derived/Test/ToyasCard.lean, 'card_holds'). Laid BY PROGRAM, IN A SANDBOX (cutbox-door.mjs). By AI agents, Wed Nov 11 2026. No macro, syntax, notation, axiom, sorry.
-/
import Derived.Test.YthcfbbndlkbbkaaGreatDoorRows
import GoSem.ClaimSeven
namespace Go.Proofs.YthcfbbndlkbbkaaGreatDoor
namespace Rows

/-- THE TIED CARD OF 'coillaw11.InterpRuns'. -/
def interpRunsCard : Claim7 := { stood := { row := interpRunsRow, standIns := [], harness := (true, "afbe5d4ad4b61015288c6f703eba121733e7fbe57f055a50aa655311cde2ca07"), looks := true }, kinds := [], alts := [], laidByText := true, laidKinds := [.data, .data, .data, .data, .listed, .sentinel, .sentinel], laidTests := true, laidLooks := .later }
def InterpRunsCardSaid : Prop := Claim7.holds Tryz.pinned (.plain (OpenSpec.ofChange interpRunsSpec)) interpRunsCard

/-- THE TIED CARD OF 'coillaw11.InterpShort'. -/
def interpShortCard : Claim7 := { stood := { row := interpShortRow, standIns := [], harness := (true, "afbe5d4ad4b61015288c6f703eba121733e7fbe57f055a50aa655311cde2ca07"), looks := true }, kinds := [], alts := [], laidByText := true, laidKinds := [.data, .data, .data, .data, .listed, .sentinel, .sentinel], laidTests := true, laidLooks := .later }
def InterpShortCardSaid : Prop := Claim7.holds Tryz.pinned (.plain (OpenSpec.ofChange interpShortSpec)) interpShortCard

/-- THE SECOND FORM's CARD OF 'coillaw11.InterpRuns'. -/
def interpRunsUptoCard : Claim7 := { stood := { row := interpRunsUptoRow, standIns := [], harness := (true, "afbe5d4ad4b61015288c6f703eba121733e7fbe57f055a50aa655311cde2ca07"), looks := true }, kinds := [], alts := [], laidByText := true, laidKinds := [.data, .data, .data, .data, .listed, .sentinel, .sentinel], laidTests := true, laidLooks := .later }
def InterpRunsUptoCardSaid : Prop := Claim7.holds Tryz.pinned (.plain (OpenSpec.upto interpRunsSpec)) interpRunsUptoCard

/-- THE SECOND FORM's CARD OF 'coillaw11.InterpShort'. -/
def interpShortUptoCard : Claim7 := { stood := { row := interpShortUptoRow, standIns := [], harness := (true, "afbe5d4ad4b61015288c6f703eba121733e7fbe57f055a50aa655311cde2ca07"), looks := true }, kinds := [], alts := [], laidByText := true, laidKinds := [.data, .data, .data, .data, .listed, .sentinel, .sentinel], laidTests := true, laidLooks := .later }
def InterpShortUptoCardSaid : Prop := Claim7.holds Tryz.pinned (.plain (OpenSpec.upto interpShortSpec)) interpShortUptoCard
end Rows
end Go.Proofs.YthcfbbndlkbbkaaGreatDoor
