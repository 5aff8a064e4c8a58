/- Proved on the way to: ValueShared returns true whatever the memory, its listed package variables reading as the program's text lays them. -/
import Derived.Test.YtgoimidglekdoaaGreatDoorRows
import Derived.SevenTiedAt
import Derived.KernelRfl
import Derived.Test.YtgoimidglekdoaaGreatDoorZ1
import Derived.Test.YtgoimidglekdoaaGreatDoorTie
import Derived.Test.YtgoimidglekdoaaGreatDoorCards
set_option autoImplicit false
set_option linter.unusedSectionVars false
set_option linter.unusedSimpArgs false
set_option linter.unusedVariables false
namespace Go.Proofs.YtgoimidglekdoaaGreatDoor
open Go
theorem cardWf : Rows.valueSharedRow.wfByText (OpenSpec.ofChange Rows.valueSharedSpec) = true := by kernel_rfl
end Go.Proofs.YtgoimidglekdoaaGreatDoor
namespace Go.Proofs.YtgoimidglekdoaaGreatDoor
open Go
theorem cardMain : Tryz.pinned.checked.prog.mainIs = some (((true, "7193459712abdeba47b52d3fb6a76517b6bd9658a34ca6cb51aef077e588b061") : Bool × String).1, ((true, "7193459712abdeba47b52d3fb6a76517b6bd9658a34ca6cb51aef077e588b061") : Bool × String).2.toList) := by kernel_rfl
end Go.Proofs.YtgoimidglekdoaaGreatDoor
namespace Go.Proofs.YtgoimidglekdoaaGreatDoor
open Go
theorem cardFn : Tryz.prog.funcNamed "coil/coillaw10.ValueShared" = some 5 := by kernel_rfl
end Go.Proofs.YtgoimidglekdoaaGreatDoor
namespace Go.Proofs.YtgoimidglekdoaaGreatDoor
open Go
theorem cardLooks : true = Tryz.pinned.checked.prog.looks [] := by kernel_rfl
end Go.Proofs.YtgoimidglekdoaaGreatDoor
namespace Go.Proofs.YtgoimidglekdoaaGreatDoor
open Go
theorem noneGoes : Tryz.pinned.checked.prog.funcs.any Func.goes = false := by kernel_rfl
theorem goes_off {P : Program} (h : P.funcs.any Func.goes = false) (f : FuncId) : P.goes f = false := by
  unfold Program.goes
  rw [h, Bool.and_false, Bool.or_false, List.any_eq_false]
  intro g _ hg
  cases e : P.funcs[g]? with
  | none => rw [e] at hg; simp at hg
  | some fn =>
    rw [e] at hg
    have hgo : Func.goes fn = true := by simpa using hg
    obtain ⟨hlt, he⟩ := Array.getElem?_eq_some_iff.1 e
    rw [Array.any_eq_false] at h
    exact absurd (he ▸ hgo) (h g hlt)
theorem cardGoes : false = Rows.valueSharedRow.goesBy Tryz.pinned.checked.prog := by
  have hs : Rows.valueSharedRow.start = .entering := rfl
  unfold OpenClaim.goesBy Program.goesAt Program.goesFrom
  rw [hs]
  cases e : Tryz.pinned.checked.prog.funcNamed Rows.valueSharedRow.func with
  | none => rfl
  | some f => simp [goes_off noneGoes f]
end Go.Proofs.YtgoimidglekdoaaGreatDoor
namespace Go.Proofs.YtgoimidglekdoaaGreatDoor
open Go
theorem cardParams : (Tryz.f5.params.toList.all fun t => !Tryz.pinned.checked.prog.wantsStandIn t) = true := by kernel_rfl
end Go.Proofs.YtgoimidglekdoaaGreatDoor
namespace Go.Proofs.YtgoimidglekdoaaGreatDoor
open Go
theorem valueShared_card : Rows.ValueSharedCardSaid :=
  Claim7.holds_tied_plain_at .later [] [.data, .data, .data, .sentinel, .sentinel, .listed, .data] true (true, "7193459712abdeba47b52d3fb6a76517b6bd9658a34ca6cb51aef077e588b061") true
    valueShared_said (fun _ h => by cases h) cardWf (fun _ h => by cases h) valueShared_row_tie rfl ⟨rfl, rfl⟩ cardMain rfl
    (fun f fn hf hfn => by
      obtain rfl : f = 5 := Option.some.inj (cardFn.symm.trans hf) |>.symm
      obtain rfl : fn = Tryz.f5 := (Option.some.inj (Tryz.func5.symm.trans hfn)).symm
      exact ⟨cardLooks, fun j t ht => by
        have hm : t ∈ Tryz.f5.params.toList := List.mem_of_getElem? (i := j) (by simpa using ht)
        simpa using List.all_eq_true.1 cardParams t hm⟩)
    cardGoes
#print axioms valueShared_card
end Go.Proofs.YtgoimidglekdoaaGreatDoor
