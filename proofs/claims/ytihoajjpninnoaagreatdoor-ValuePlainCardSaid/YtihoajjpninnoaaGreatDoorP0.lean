/- On the way to: ValuePlain returns true; its listed variables read as the text lays them. -/
import Derived.Test.YtihoajjpninnoaaGreatDoorRows
import Derived.ProofKit
import Derived.LaidMore
import Derived.OpenShut
import Derived.Stop.Joined
import Derived.SevenTiedAt
import Derived.KernelRfl
set_option autoImplicit false
set_option linter.unusedSectionVars false
set_option linter.unusedSimpArgs false
set_option linter.unusedVariables false
namespace Go.Proofs.YtihoajjpninnoaaGreatDoor
open Go Go.ChangeShapes Go.WideShapes Go.ChangeAt Go.RowKit
theorem door3 (os:Os) (args:Array Value):(Rows.valuePlainRow.laid.filter fun x=>x.2.handleName?.isSome && x.2.funcsIn?.isNone).all (handleAtB Tryz.prog ((World.doorLaid Tryz.prog 86 os).forCall (fun _ _=>0) ⟨#[],args,[]⟩).memory)=true:=by kernel_rfl
theorem door4 (os:Os) (args:Array Value):funcsRun Tryz.prog ((World.doorLaid Tryz.prog 86 os).forCall (fun _ _=>0) ⟨#[],args,[]⟩).memory 8 ((funcsListed Rows.valuePlainRow.laid).map (·.1))=some ((funcsListed Rows.valuePlainRow.laid).map (·.2.funcsOut)):=by kernel_rfl
end Go.Proofs.YtihoajjpninnoaaGreatDoor
namespace Go.Proofs.YtihoajjpninnoaaGreatDoor
open Go Go.ChangeShapes Go.WideShapes Go.ChangeAt Go.RowKit
theorem door7 (os:Os):Input.okWideB Tryz.prog ((World.doorLaid Tryz.prog 86 os).forCall (fun _ _=>0) ⟨#[],#[.int .i64 0,.string .empty],[]⟩) 3 ⟨#[],#[.int .i64 0,.string .empty],[]⟩=true:=by kernel_rfl
end Go.Proofs.YtihoajjpninnoaaGreatDoor
namespace Go.Proofs.YtihoajjpninnoaaGreatDoor
open Go Go.ChangeShapes Go.WideShapes Go.ChangeAt Go.RowKit
variable {H:Type} {enc:TypeId × Value→H}
theorem door8 (os:Os):Rows.valuePlainSpec.preB enc Tryz.prog Tryz.f3 [] false ((World.doorLaid Tryz.prog 86 os).forCall (fun _ _=>0) ⟨#[],#[.int .i64 0,.string .empty],[]⟩).memory #[.int .i64 0,.string .empty] 8=true:=by kernel_rfl
theorem door9 (os:Os):Rows.valuePlainSpec.sizedB enc Tryz.prog Tryz.f3 false ((World.doorLaid Tryz.prog 86 os).forCall (fun _ _=>0) ⟨#[],#[.int .i64 0,.string .empty],[]⟩).memory #[.int .i64 0,.string .empty] 8=true:=by kernel_rfl
end Go.Proofs.YtihoajjpninnoaaGreatDoor
