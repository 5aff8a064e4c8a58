/-
  DERIVED. GIVEN WITH THE SEED: THE CARDS: each row of YtgoimidglekdoaaGreatDoorRows.lean that lists a variable, with what it lists TIED to the program's text (the seventh form; the later family's looks); each row that meets fmt, with fmt's text TOLD by the authors' own Lean function (tested against real Go, not proved from fmt's source: count such statements apart). THE CARD IS WHAT COUNTS. Prove the row's statement (the work); the ties are given (YtgoimidglekdoaaGreatDoorTie.lean); close each card by the builder's one call (the guide's Derived/Test/ToyasCard.lean, 'card_holds'). Laid BY PROGRAM, IN A SANDBOX (cutbox-door.mjs). By AI agents, Wed Nov 11 2026. No macro, syntax, notation, axiom, sorry.
-/
import Derived.Test.YtgoimidglekdoaaGreatDoorRows
import GoSem.ClaimSeven
namespace Go.Proofs.YtgoimidglekdoaaGreatDoor
namespace Rows

/-- THE TIED CARD OF 'coillaw10.ValueRuns'. -/
def valueRunsCard : Claim7 := { stood := { row := valueRunsRow, standIns := [], harness := (true, "7193459712abdeba47b52d3fb6a76517b6bd9658a34ca6cb51aef077e588b061"), looks := true }, kinds := [], alts := [], laidByText := true, laidKinds := [.data, .data, .data, .sentinel, .sentinel, .listed, .data], laidTests := true, laidLooks := .later }
def ValueRunsCardSaid : Prop := Claim7.holds Tryz.pinned (.plain (OpenSpec.ofChange valueRunsSpec)) valueRunsCard

/-- THE TIED CARD OF 'coillaw10.ValueSame'. -/
def valueSameCard : Claim7 := { stood := { row := valueSameRow, standIns := [], harness := (true, "7193459712abdeba47b52d3fb6a76517b6bd9658a34ca6cb51aef077e588b061"), looks := true }, kinds := [], alts := [], laidByText := true, laidKinds := [.data, .data, .data, .sentinel, .sentinel, .listed, .data], laidTests := true, laidLooks := .later }
def ValueSameCardSaid : Prop := Claim7.holds Tryz.pinned (.plain (OpenSpec.ofChange valueSameSpec)) valueSameCard

/-- THE TIED CARD OF 'coillaw10.ValueShared'. -/
def valueSharedCard : Claim7 := { stood := { row := valueSharedRow, standIns := [], harness := (true, "7193459712abdeba47b52d3fb6a76517b6bd9658a34ca6cb51aef077e588b061"), looks := true }, kinds := [], alts := [], laidByText := true, laidKinds := [.data, .data, .data, .sentinel, .sentinel, .listed, .data], laidTests := true, laidLooks := .later }
def ValueSharedCardSaid : Prop := Claim7.holds Tryz.pinned (.plain (OpenSpec.ofChange valueSharedSpec)) valueSharedCard

/-- THE TIED CARD OF 'coillaw10.ValuePlain'. -/
def valuePlainCard : Claim7 := { stood := { row := valuePlainRow, standIns := [], harness := (true, "7193459712abdeba47b52d3fb6a76517b6bd9658a34ca6cb51aef077e588b061"), looks := true }, kinds := [], alts := [], laidByText := true, laidKinds := [.data, .data, .data, .sentinel, .sentinel, .listed, .data], laidTests := true, laidLooks := .later }
def ValuePlainCardSaid : Prop := Claim7.holds Tryz.pinned (.plain (OpenSpec.ofChange valuePlainSpec)) valuePlainCard

/-- THE SECOND FORM's CARD OF 'coillaw10.ValueRuns'. -/
def valueRunsUptoCard : Claim7 := { stood := { row := valueRunsUptoRow, standIns := [], harness := (true, "7193459712abdeba47b52d3fb6a76517b6bd9658a34ca6cb51aef077e588b061"), looks := true }, kinds := [], alts := [], laidByText := true, laidKinds := [.data, .data, .data, .sentinel, .sentinel, .listed, .data], laidTests := true, laidLooks := .later }
def ValueRunsUptoCardSaid : Prop := Claim7.holds Tryz.pinned (.plain (OpenSpec.upto valueRunsSpec)) valueRunsUptoCard

/-- THE SECOND FORM's CARD OF 'coillaw10.ValueSame'. -/
def valueSameUptoCard : Claim7 := { stood := { row := valueSameUptoRow, standIns := [], harness := (true, "7193459712abdeba47b52d3fb6a76517b6bd9658a34ca6cb51aef077e588b061"), looks := true }, kinds := [], alts := [], laidByText := true, laidKinds := [.data, .data, .data, .sentinel, .sentinel, .listed, .data], laidTests := true, laidLooks := .later }
def ValueSameUptoCardSaid : Prop := Claim7.holds Tryz.pinned (.plain (OpenSpec.upto valueSameSpec)) valueSameUptoCard

/-- THE SECOND FORM's CARD OF 'coillaw10.ValueShared'. -/
def valueSharedUptoCard : Claim7 := { stood := { row := valueSharedUptoRow, standIns := [], harness := (true, "7193459712abdeba47b52d3fb6a76517b6bd9658a34ca6cb51aef077e588b061"), looks := true }, kinds := [], alts := [], laidByText := true, laidKinds := [.data, .data, .data, .sentinel, .sentinel, .listed, .data], laidTests := true, laidLooks := .later }
def ValueSharedUptoCardSaid : Prop := Claim7.holds Tryz.pinned (.plain (OpenSpec.upto valueSharedSpec)) valueSharedUptoCard

/-- THE SECOND FORM's CARD OF 'coillaw10.ValuePlain'. -/
def valuePlainUptoCard : Claim7 := { stood := { row := valuePlainUptoRow, standIns := [], harness := (true, "7193459712abdeba47b52d3fb6a76517b6bd9658a34ca6cb51aef077e588b061"), looks := true }, kinds := [], alts := [], laidByText := true, laidKinds := [.data, .data, .data, .sentinel, .sentinel, .listed, .data], laidTests := true, laidLooks := .later }
def ValuePlainUptoCardSaid : Prop := Claim7.holds Tryz.pinned (.plain (OpenSpec.upto valuePlainSpec)) valuePlainUptoCard
end Rows
end Go.Proofs.YtgoimidglekdoaaGreatDoor
