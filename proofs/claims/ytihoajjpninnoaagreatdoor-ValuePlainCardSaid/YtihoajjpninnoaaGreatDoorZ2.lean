/- On the way to: ValuePlain returns true; its listed variables read as the text lays them. -/
import Derived.Test.YtihoajjpninnoaaGreatDoorRows
import Derived.SevenTiedAt
import Derived.KernelRfl
import Derived.Test.YtihoajjpninnoaaGreatDoorZ1
import Derived.Test.YtihoajjpninnoaaGreatDoorTie
import Derived.Test.YtihoajjpninnoaaGreatDoorCards
namespace Go.Proofs.YtihoajjpninnoaaGreatDoor
open Go
theorem cardWf:Rows.valuePlainRow.wfByText (OpenSpec.ofChange Rows.valuePlainSpec)=true:=by kernel_rfl
end Go.Proofs.YtihoajjpninnoaaGreatDoor
namespace Go.Proofs.YtihoajjpninnoaaGreatDoor
open Go
theorem cardMain:Tryz.pinned.checked.prog.mainIs=some (((true, "784a067013c144c608ea668db3c555bb3f674d762d1709f1caedaf30a9cb9942"):Bool × String).1,((true, "784a067013c144c608ea668db3c555bb3f674d762d1709f1caedaf30a9cb9942"):Bool × String).2.toList):=by kernel_rfl
end Go.Proofs.YtihoajjpninnoaaGreatDoor
namespace Go.Proofs.YtihoajjpninnoaaGreatDoor
open Go
theorem cardFn:Tryz.prog.funcNamed "coil/coillaw10.ValuePlain" = some 3:=by kernel_rfl
end Go.Proofs.YtihoajjpninnoaaGreatDoor
namespace Go.Proofs.YtihoajjpninnoaaGreatDoor
open Go
theorem cardLooks:true=Tryz.pinned.checked.prog.looks []:=by kernel_rfl
end Go.Proofs.YtihoajjpninnoaaGreatDoor
namespace Go.Proofs.YtihoajjpninnoaaGreatDoor
open Go
theorem noneGoes:Tryz.pinned.checked.prog.funcs.any Func.goes=false:=by kernel_rfl
theorem goes_off {P:Program} (h:P.funcs.any Func.goes=false) (f:FuncId):P.goes f=false:=by
 unfold Program.goes
 rw[h,Bool.and_false,Bool.or_false,List.any_eq_false]
 intro g _ hg
 cases e:P.funcs[g]? with
 | none=>rw[e] at hg; simp at hg
 | some fn =>
  rw[e] at hg
  have hgo:Func.goes fn=true:=by simpa using hg
  obtain⟨hlt,he⟩:=Array.getElem?_eq_some_iff.1 e
  rw[Array.any_eq_false] at h
  exact absurd (he ▸ hgo) (h g hlt)
theorem cardGoes:false=Rows.valuePlainRow.goesBy Tryz.pinned.checked.prog:=by
 have hs:Rows.valuePlainRow.start=.entering:=rfl
 unfold OpenClaim.goesBy Program.goesAt Program.goesFrom
 rw[hs]
 cases e:Tryz.pinned.checked.prog.funcNamed Rows.valuePlainRow.func with
 | none=>rfl
 | some f=>simp[goes_off noneGoes f]
end Go.Proofs.YtihoajjpninnoaaGreatDoor
namespace Go.Proofs.YtihoajjpninnoaaGreatDoor
open Go
theorem cardParams:(Tryz.f3.params.toList.all fun t=>!Tryz.pinned.checked.prog.wantsStandIn t)=true:=by kernel_rfl
end Go.Proofs.YtihoajjpninnoaaGreatDoor
namespace Go.Proofs.YtihoajjpninnoaaGreatDoor
open Go
theorem valuePlain_card:Rows.ValuePlainCardSaid :=
 Claim7.holds_tied_plain_at .later [] [.data,.data,.data,.sentinel,.sentinel,.listed,.data] true (true, "784a067013c144c608ea668db3c555bb3f674d762d1709f1caedaf30a9cb9942") true
  valuePlain_said (fun _ h=>by cases h) cardWf (fun _ h=>by cases h) valuePlain_row_tie rfl ⟨rfl,rfl⟩ cardMain rfl
  (fun f fn hf hfn=>by
   obtain rfl:f=3:=Option.some.inj (cardFn.symm.trans hf) |>.symm
   obtain rfl:fn=Tryz.f3:=(Option.some.inj (Tryz.func3.symm.trans hfn)).symm
   exact⟨cardLooks,fun j t ht=>by
    have hm:t∈Tryz.f3.params.toList:=List.mem_of_getElem? (i:=j) (by simpa using ht)
    simpa using List.all_eq_true.1 cardParams t hm⟩)
  cardGoes
#print axioms valuePlain_card
end Go.Proofs.YtihoajjpninnoaaGreatDoor
