/-
  DERIVED. GIVEN WITH THE SEED: THE CARDS: each row of YthncagamgiogjaaGreatDoorRows.lean that lists a variable, with what it lists TIED to the program's text (the seventh form; the later family's looks); each row that meets fmt, with fmt's text TOLD by the authors' own Lean function (tested against real Go, not proved from fmt's source: count such statements apart). THE CARD IS WHAT COUNTS. Prove the row's statement (the work); the ties are given (YthncagamgiogjaaGreatDoorTie.lean); close each card by the builder's one call (the guide's Derived/Test/ToyasCard.lean, 'card_holds'). Laid BY PROGRAM, IN A SANDBOX (cutbox-door.mjs). By AI agents, Wed Nov 11 2026. No macro, syntax, notation, axiom, sorry.
-/
import Derived.Test.YthncagamgiogjaaGreatDoorRows
import GoSem.ClaimSeven
namespace Go.Proofs.YthncagamgiogjaaGreatDoor
namespace Rows

/-- THE TIED CARD OF 'coillaw11.InterpLoops'. -/
def interpLoopsCard : Claim7 := { stood := { row := interpLoopsRow, standIns := [], harness := (true, "7cfa2c8371d7e071bb17b0cf8cbac3c42c9bd218b684da8d17990dcf66e90302"), looks := true }, kinds := [], alts := [], laidByText := true, laidKinds := [.data, .data, .data, .data, .listed, .sentinel, .sentinel], laidTests := true, laidLooks := .later }
def InterpLoopsCardSaid : Prop := Claim7.holds Tryz.pinned (.plain (OpenSpec.ofChange interpLoopsSpec)) interpLoopsCard

/-- THE TIED CARD OF 'coillaw11.InterpDepth'. -/
def interpDepthCard : Claim7 := { stood := { row := interpDepthRow, standIns := [], harness := (true, "7cfa2c8371d7e071bb17b0cf8cbac3c42c9bd218b684da8d17990dcf66e90302"), looks := true }, kinds := [], alts := [], laidByText := true, laidKinds := [.data, .data, .data, .data, .listed, .sentinel, .sentinel], laidTests := true, laidLooks := .later }
def InterpDepthCardSaid : Prop := Claim7.holds Tryz.pinned (.plain (OpenSpec.ofChange interpDepthSpec)) interpDepthCard

/-- THE SECOND FORM's CARD OF 'coillaw11.InterpLoops'. -/
def interpLoopsUptoCard : Claim7 := { stood := { row := interpLoopsUptoRow, standIns := [], harness := (true, "7cfa2c8371d7e071bb17b0cf8cbac3c42c9bd218b684da8d17990dcf66e90302"), looks := true }, kinds := [], alts := [], laidByText := true, laidKinds := [.data, .data, .data, .data, .listed, .sentinel, .sentinel], laidTests := true, laidLooks := .later }
def InterpLoopsUptoCardSaid : Prop := Claim7.holds Tryz.pinned (.plain (OpenSpec.upto interpLoopsSpec)) interpLoopsUptoCard

/-- THE SECOND FORM's CARD OF 'coillaw11.InterpDepth'. -/
def interpDepthUptoCard : Claim7 := { stood := { row := interpDepthUptoRow, standIns := [], harness := (true, "7cfa2c8371d7e071bb17b0cf8cbac3c42c9bd218b684da8d17990dcf66e90302"), looks := true }, kinds := [], alts := [], laidByText := true, laidKinds := [.data, .data, .data, .data, .listed, .sentinel, .sentinel], laidTests := true, laidLooks := .later }
def InterpDepthUptoCardSaid : Prop := Claim7.holds Tryz.pinned (.plain (OpenSpec.upto interpDepthSpec)) interpDepthUptoCard
end Rows
end Go.Proofs.YthncagamgiogjaaGreatDoor
