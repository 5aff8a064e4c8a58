/-
  DERIVED. GIVEN WITH THE SEED: THE CARDS: each row of YtihoajjpninnoaaGreatDoorRows.lean that lists a variable, with what it lists TIED to the program's text (the seventh form; the later family's looks); each row that meets fmt, with fmt's text TOLD by the authors' own Lean function (tested against real Go, not proved from fmt's source: count such statements apart). THE CARD IS WHAT COUNTS. Prove the row's statement (the work); the ties are given (YtihoajjpninnoaaGreatDoorTie.lean); close each card by the builder's one call (the guide's Derived/Test/ToyasCard.lean, 'card_holds'). Laid BY PROGRAM, IN A SANDBOX (cutbox-door.mjs). By AI agents, Wed Nov 11 2026. No macro, syntax, notation, axiom, sorry.
-/
import Derived.Test.YtihoajjpninnoaaGreatDoorRows
import GoSem.ClaimSeven
namespace Go.Proofs.YtihoajjpninnoaaGreatDoor
namespace Rows

/-- THE TIED CARD OF 'coillaw10.ValuePlain'. -/
def valuePlainCard : Claim7 := { stood := { row := valuePlainRow, standIns := [], harness := (true, "784a067013c144c608ea668db3c555bb3f674d762d1709f1caedaf30a9cb9942"), looks := true }, kinds := [], alts := [], laidByText := true, laidKinds := [.data, .data, .data, .sentinel, .sentinel, .listed, .data], laidTests := true, laidLooks := .later }
def ValuePlainCardSaid : Prop := Claim7.holds Tryz.pinned (.plain (OpenSpec.ofChange valuePlainSpec)) valuePlainCard

/-- THE SECOND FORM's CARD OF 'coillaw10.ValuePlain'. -/
def valuePlainUptoCard : Claim7 := { stood := { row := valuePlainUptoRow, standIns := [], harness := (true, "784a067013c144c608ea668db3c555bb3f674d762d1709f1caedaf30a9cb9942"), looks := true }, kinds := [], alts := [], laidByText := true, laidKinds := [.data, .data, .data, .sentinel, .sentinel, .listed, .data], laidTests := true, laidLooks := .later }
def ValuePlainUptoCardSaid : Prop := Claim7.holds Tryz.pinned (.plain (OpenSpec.upto valuePlainSpec)) valuePlainUptoCard
end Rows
end Go.Proofs.YtihoajjpninnoaaGreatDoor
