/- On the way to: InterpLoops returns true; its listed variables read as the text lays them. -/
import Derived.Test.YthncagamgiogjaaGreatDoorRows
import Derived.ProofKit
import Derived.LaidMore
import Derived.OpenShut
import Derived.Stop.Joined
import Derived.SevenTiedAt
import Derived.KernelRfl
namespace Go.Proofs.YthncagamgiogjaaGreatDoor
open Go Go.ChangeShapes Go.WideShapes Go.ChangeAt Go.RowKit
theorem door5 (os:Os):((World.doorLaid Tryz.prog 100 os).forCall (fun _ _=>0) ⟨#[],#[.int .i64 0],[]⟩).variablesRefB Tryz.prog=true:=by kernel_rfl
end Go.Proofs.YthncagamgiogjaaGreatDoor
