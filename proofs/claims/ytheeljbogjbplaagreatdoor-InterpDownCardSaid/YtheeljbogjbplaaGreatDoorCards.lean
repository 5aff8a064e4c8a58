/-
  DERIVED. GIVEN WITH THE SEED: THE CARDS: each row of YtheeljbogjbplaaGreatDoorRows.lean that lists a variable, with what it lists TIED to the program's text (the seventh form; the later family's looks); each row that meets fmt, with fmt's text TOLD by the authors' own Lean function (tested against real Go, not proved from fmt's source: count such statements apart). THE CARD IS WHAT COUNTS. Prove the row's statement (the work); the ties are given (YtheeljbogjbplaaGreatDoorTie.lean); close each card by the builder's one call (the guide's Derived/Test/ToyasCard.lean, 'card_holds'). Laid BY PROGRAM, IN A SANDBOX (cutbox-door.mjs). By AI agents, Wed Nov 11 2026. No macro, syntax, notation, axiom, sorry.
-/
import Derived.Test.YtheeljbogjbplaaGreatDoorRows
import GoSem.ClaimSeven
namespace Go.Proofs.YtheeljbogjbplaaGreatDoor
namespace Rows

/-- THE TIED CARD OF 'coillaw11.InterpDown'. -/
def interpDownCard : Claim7 := { stood := { row := interpDownRow, standIns := [], harness := (true, "cc9736361bdd3d231ca7ec7f85db52120043fe04f3473e0eca8296df49bade6a"), looks := true }, kinds := [], alts := [], laidByText := true, laidKinds := [.data, .data, .data, .data, .listed, .sentinel, .sentinel], laidTests := true, laidLooks := .later }
def InterpDownCardSaid : Prop := Claim7.holds Tryz.pinned (.plain (OpenSpec.ofChange interpDownSpec)) interpDownCard

/-- THE SECOND FORM's CARD OF 'coillaw11.InterpDown'. -/
def interpDownUptoCard : Claim7 := { stood := { row := interpDownUptoRow, standIns := [], harness := (true, "cc9736361bdd3d231ca7ec7f85db52120043fe04f3473e0eca8296df49bade6a"), looks := true }, kinds := [], alts := [], laidByText := true, laidKinds := [.data, .data, .data, .data, .listed, .sentinel, .sentinel], laidTests := true, laidLooks := .later }
def InterpDownUptoCardSaid : Prop := Claim7.holds Tryz.pinned (.plain (OpenSpec.upto interpDownSpec)) interpDownUptoCard
end Rows
end Go.Proofs.YtheeljbogjbplaaGreatDoor
