/- On the way to: InterpLoops returns true; its listed variables read as the text lays them. -/
import Derived.Test.YthncagamgiogjaaGreatDoorRows
import Derived.SevenTiedAt
import Derived.KernelRfl
import Derived.Test.YthncagamgiogjaaGreatDoorZ1
import Derived.Test.YthncagamgiogjaaGreatDoorK2
import Derived.Test.YthncagamgiogjaaGreatDoorCards
namespace Go.Proofs.YthncagamgiogjaaGreatDoor
open Go
theorem cardWf:Rows.interpLoopsRow.wfByText (OpenSpec.ofChange Rows.interpLoopsSpec)=true:=by kernel_rfl
end Go.Proofs.YthncagamgiogjaaGreatDoor
namespace Go.Proofs.YthncagamgiogjaaGreatDoor
open Go
theorem cardMain:Tryz.pinned.checked.prog.mainIs=some (((true, "7cfa2c8371d7e071bb17b0cf8cbac3c42c9bd218b684da8d17990dcf66e90302"):Bool × String).1,((true, "7cfa2c8371d7e071bb17b0cf8cbac3c42c9bd218b684da8d17990dcf66e90302"):Bool × String).2.toList):=by kernel_rfl
end Go.Proofs.YthncagamgiogjaaGreatDoor
namespace Go.Proofs.YthncagamgiogjaaGreatDoor
open Go
theorem cardFn:Tryz.prog.funcNamed "coil/coillaw11.InterpLoops" = some 3:=by kernel_rfl
end Go.Proofs.YthncagamgiogjaaGreatDoor
namespace Go.Proofs.YthncagamgiogjaaGreatDoor
open Go
theorem cardLooks:true=Tryz.pinned.checked.prog.looks []:=by kernel_rfl
end Go.Proofs.YthncagamgiogjaaGreatDoor
namespace Go.Proofs.YthncagamgiogjaaGreatDoor
open Go
theorem noneGoes:Tryz.pinned.checked.prog.funcs.any Func.goes=false:=by kernel_rfl
theorem goes_off {P:Program} (h:P.funcs.any Func.goes=false) (f:FuncId):P.goes f=false:=by
 unfold Program.goes
 rw[h,Bool.and_false,Bool.or_false,List.any_eq_false]
 intro g _ hg
 cases e:P.funcs[g]? with
 | none=>rw[e] at hg; simp at hg
 | some fn =>
  rw[e] at hg
  have hgo:Func.goes fn=true:=by simpa using hg
  obtain⟨hlt,he⟩:=Array.getElem?_eq_some_iff.1 e
  rw[Array.any_eq_false] at h
  exact absurd (he ▸ hgo) (h g hlt)
theorem cardGoes:false=Rows.interpLoopsRow.goesBy Tryz.pinned.checked.prog:=by
 have hs:Rows.interpLoopsRow.start=.entering:=rfl
 unfold OpenClaim.goesBy Program.goesAt Program.goesFrom
 rw[hs]
 cases e:Tryz.pinned.checked.prog.funcNamed Rows.interpLoopsRow.func with
 | none=>rfl
 | some f=>simp[goes_off noneGoes f]
end Go.Proofs.YthncagamgiogjaaGreatDoor
namespace Go.Proofs.YthncagamgiogjaaGreatDoor
open Go
theorem cardParams:(Tryz.f3.params.toList.all fun t=>!Tryz.pinned.checked.prog.wantsStandIn t)=true:=by kernel_rfl
end Go.Proofs.YthncagamgiogjaaGreatDoor
namespace Go.Proofs.YthncagamgiogjaaGreatDoor
open Go
theorem interpLoops_card:Rows.InterpLoopsCardSaid :=
 Claim7.holds_tied_plain_at .later [] [.data,.data,.data,.data,.listed,.sentinel,.sentinel] true (true, "7cfa2c8371d7e071bb17b0cf8cbac3c42c9bd218b684da8d17990dcf66e90302") true
  interpLoops_said (fun _ h=>by cases h) cardWf (fun _ h=>by cases h) interpLoops_row_tie rfl ⟨rfl,rfl⟩ cardMain rfl
  (fun f fn hf hfn=>by
   obtain rfl:f=3:=Option.some.inj (cardFn.symm.trans hf) |>.symm
   obtain rfl:fn=Tryz.f3:=(Option.some.inj (Tryz.func3.symm.trans hfn)).symm
   exact⟨cardLooks,fun j t ht=>by
    have hm:t∈Tryz.f3.params.toList:=List.mem_of_getElem? (i:=j) (by simpa using ht)
    simpa using List.all_eq_true.1 cardParams t hm⟩)
  cardGoes
#print axioms interpLoops_card
end Go.Proofs.YthncagamgiogjaaGreatDoor
