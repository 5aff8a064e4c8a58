/-
  DERIVED. GIVEN WITH THE SEED: THE CARDS: each row of YtmingkjfggnnhaaGreatDoorRows.lean that lists a variable, with what it lists TIED to the program's text (the seventh form; the later family's looks); each row that meets fmt, with fmt's text TOLD by the authors' own Lean function (tested against real Go, not proved from fmt's source: count such statements apart). THE CARD IS WHAT COUNTS. Prove the row's statement (the work); the ties are given (YtmingkjfggnnhaaGreatDoorTie.lean); close each card by the builder's one call (the guide's Derived/Test/ToyasCard.lean, 'card_holds'). Laid BY PROGRAM, IN A SANDBOX (cutbox-door.mjs). By AI agents, Wed Nov 11 2026. No macro, syntax, notation, axiom, sorry.
-/
import Derived.Test.YtmingkjfggnnhaaGreatDoorRows
import GoSem.ClaimSeven
namespace Go.Proofs.YtmingkjfggnnhaaGreatDoor
namespace Rows

/-- THE TIED CARD OF 'coillaw14.MachineRuns'. -/
def machineRunsCard : Claim7 := { stood := { row := machineRunsRow, standIns := [], harness := (true, "d203eb07fb1497593e0231eba89c73dc41e53687277cc9a6a3bc51f21f18b978"), looks := true }, kinds := [], alts := [], laidByText := true, laidKinds := [.data, .data, .data, .data, .listed, .sentinel, .sentinel], laidTests := true, laidLooks := .later }
def MachineRunsCardSaid : Prop := Claim7.holds Tryz.pinned (.plain (OpenSpec.ofChange machineRunsSpec)) machineRunsCard

/-- THE SECOND FORM's CARD OF 'coillaw14.MachineRuns'. -/
def machineRunsUptoCard : Claim7 := { stood := { row := machineRunsUptoRow, standIns := [], harness := (true, "d203eb07fb1497593e0231eba89c73dc41e53687277cc9a6a3bc51f21f18b978"), looks := true }, kinds := [], alts := [], laidByText := true, laidKinds := [.data, .data, .data, .data, .listed, .sentinel, .sentinel], laidTests := true, laidLooks := .later }
def MachineRunsUptoCardSaid : Prop := Claim7.holds Tryz.pinned (.plain (OpenSpec.upto machineRunsSpec)) machineRunsUptoCard
end Rows
end Go.Proofs.YtmingkjfggnnhaaGreatDoor
