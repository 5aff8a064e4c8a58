/- On the way to: InterpDown returns true; its listed variables read as the text lays them. -/
import Derived.Test.YtheeljbogjbplaaGreatDoorRows
import Derived.SevenTiedAt
import Derived.KernelRfl
import Derived.Test.YtheeljbogjbplaaGreatDoorZ1
import Derived.Test.YtheeljbogjbplaaGreatDoorK2
import Derived.Test.YtheeljbogjbplaaGreatDoorCards
namespace Go.Proofs.YtheeljbogjbplaaGreatDoor
open Go
theorem cardWf:Rows.interpDownRow.wfByText (OpenSpec.ofChange Rows.interpDownSpec)=true:=by kernel_rfl
end Go.Proofs.YtheeljbogjbplaaGreatDoor
namespace Go.Proofs.YtheeljbogjbplaaGreatDoor
open Go
theorem cardMain:Tryz.pinned.checked.prog.mainIs=some (((true, "cc9736361bdd3d231ca7ec7f85db52120043fe04f3473e0eca8296df49bade6a"):Bool × String).1,((true, "cc9736361bdd3d231ca7ec7f85db52120043fe04f3473e0eca8296df49bade6a"):Bool × String).2.toList):=by kernel_rfl
end Go.Proofs.YtheeljbogjbplaaGreatDoor
namespace Go.Proofs.YtheeljbogjbplaaGreatDoor
open Go
theorem cardFn:Tryz.prog.funcNamed "coil/coillaw11.InterpDown" = some 3:=by kernel_rfl
end Go.Proofs.YtheeljbogjbplaaGreatDoor
namespace Go.Proofs.YtheeljbogjbplaaGreatDoor
open Go
theorem cardLooks:true=Tryz.pinned.checked.prog.looks []:=by kernel_rfl
end Go.Proofs.YtheeljbogjbplaaGreatDoor
namespace Go.Proofs.YtheeljbogjbplaaGreatDoor
open Go
theorem noneGoes:Tryz.pinned.checked.prog.funcs.any Func.goes=false:=by kernel_rfl
theorem goes_off {P:Program} (h:P.funcs.any Func.goes=false) (f:FuncId):P.goes f=false:=by
 unfold Program.goes
 rw[h,Bool.and_false,Bool.or_false,List.any_eq_false]
 intro g _ hg
 cases e:P.funcs[g]? with
 | none=>rw[e] at hg; simp at hg
 | some fn =>
  rw[e] at hg
  have hgo:Func.goes fn=true:=by simpa using hg
  obtain⟨hlt,he⟩:=Array.getElem?_eq_some_iff.1 e
  rw[Array.any_eq_false] at h
  exact absurd (he ▸ hgo) (h g hlt)
theorem cardGoes:false=Rows.interpDownRow.goesBy Tryz.pinned.checked.prog:=by
 have hs:Rows.interpDownRow.start=.entering:=rfl
 unfold OpenClaim.goesBy Program.goesAt Program.goesFrom
 rw[hs]
 cases e:Tryz.pinned.checked.prog.funcNamed Rows.interpDownRow.func with
 | none=>rfl
 | some f=>simp[goes_off noneGoes f]
end Go.Proofs.YtheeljbogjbplaaGreatDoor
namespace Go.Proofs.YtheeljbogjbplaaGreatDoor
open Go
theorem cardParams:(Tryz.f3.params.toList.all fun t=>!Tryz.pinned.checked.prog.wantsStandIn t)=true:=by kernel_rfl
end Go.Proofs.YtheeljbogjbplaaGreatDoor
namespace Go.Proofs.YtheeljbogjbplaaGreatDoor
open Go
theorem interpDown_card:Rows.InterpDownCardSaid :=
 Claim7.holds_tied_plain_at .later [] [.data,.data,.data,.data,.listed,.sentinel,.sentinel] true (true, "cc9736361bdd3d231ca7ec7f85db52120043fe04f3473e0eca8296df49bade6a") true
  interpDown_said (fun _ h=>by cases h) cardWf (fun _ h=>by cases h) interpDown_row_tie rfl ⟨rfl,rfl⟩ cardMain rfl
  (fun f fn hf hfn=>by
   obtain rfl:f=3:=Option.some.inj (cardFn.symm.trans hf) |>.symm
   obtain rfl:fn=Tryz.f3:=(Option.some.inj (Tryz.func3.symm.trans hfn)).symm
   exact⟨cardLooks,fun j t ht=>by
    have hm:t∈Tryz.f3.params.toList:=List.mem_of_getElem? (i:=j) (by simpa using ht)
    simpa using List.all_eq_true.1 cardParams t hm⟩)
  cardGoes
#print axioms interpDown_card
end Go.Proofs.YtheeljbogjbplaaGreatDoor
