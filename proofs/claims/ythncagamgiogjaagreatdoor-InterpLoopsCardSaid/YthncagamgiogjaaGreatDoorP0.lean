/- On the way to: InterpLoops returns true; its listed variables read as the text lays them. -/
import Derived.Test.YthncagamgiogjaaGreatDoorRows
import Derived.ProofKit
import Derived.LaidMore
import Derived.OpenShut
import Derived.Stop.Joined
import Derived.SevenTiedAt
import Derived.KernelRfl
set_option autoImplicit false
set_option linter.unusedSectionVars false
set_option linter.unusedSimpArgs false
set_option linter.unusedVariables false
namespace Go.Proofs.YthncagamgiogjaaGreatDoor
open Go Go.ChangeShapes Go.WideShapes Go.ChangeAt Go.RowKit
theorem door3 (os:Os) (args:Array Value):(Rows.interpLoopsRow.laid.filter fun x=>x.2.handleName?.isSome && x.2.funcsIn?.isNone).all (handleAtB Tryz.prog ((World.doorLaid Tryz.prog 100 os).forCall (fun _ _=>0) ⟨#[],args,[]⟩).memory)=true:=by kernel_rfl
theorem door4 (os:Os) (args:Array Value):funcsRun Tryz.prog ((World.doorLaid Tryz.prog 100 os).forCall (fun _ _=>0) ⟨#[],args,[]⟩).memory 8 ((funcsListed Rows.interpLoopsRow.laid).map (·.1))=some ((funcsListed Rows.interpLoopsRow.laid).map (·.2.funcsOut)):=by kernel_rfl
end Go.Proofs.YthncagamgiogjaaGreatDoor
namespace Go.Proofs.YthncagamgiogjaaGreatDoor
open Go Go.ChangeShapes Go.WideShapes Go.ChangeAt Go.RowKit
theorem door7 (os:Os):Input.okWideB Tryz.prog ((World.doorLaid Tryz.prog 100 os).forCall (fun _ _=>0) ⟨#[],#[.int .i64 0],[]⟩) 3 ⟨#[],#[.int .i64 0],[]⟩=true:=by kernel_rfl
end Go.Proofs.YthncagamgiogjaaGreatDoor
namespace Go.Proofs.YthncagamgiogjaaGreatDoor
open Go Go.ChangeShapes Go.WideShapes Go.ChangeAt Go.RowKit
variable {H:Type} {enc:TypeId × Value→H}
theorem door8 (os:Os):Rows.interpLoopsSpec.preB enc Tryz.prog Tryz.f3 [] false ((World.doorLaid Tryz.prog 100 os).forCall (fun _ _=>0) ⟨#[],#[.int .i64 0],[]⟩).memory #[.int .i64 0] 8=true:=by kernel_rfl
theorem door9 (os:Os):Rows.interpLoopsSpec.sizedB enc Tryz.prog Tryz.f3 false ((World.doorLaid Tryz.prog 100 os).forCall (fun _ _=>0) ⟨#[],#[.int .i64 0],[]⟩).memory #[.int .i64 0] 8=true:=by kernel_rfl
end Go.Proofs.YthncagamgiogjaaGreatDoor
