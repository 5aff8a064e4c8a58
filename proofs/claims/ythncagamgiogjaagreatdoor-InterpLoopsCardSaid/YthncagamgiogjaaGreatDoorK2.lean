/- On the way to: InterpLoops returns true; its listed variables read as the text lays them. -/
import Derived.Test.YthncagamgiogjaaGreatDoorRows
import Derived.LaidByTextLater
import Derived.SevenTiedAt
import Derived.LaidOnce
import Derived.KernelRfl
import Derived.Test.YthncagamgiogjaaGreatDoorK1
namespace Go.Proofs.YthncagamgiogjaaGreatDoor
open Go
set_option maxRecDepth 100000
theorem tieGen:(Tryz.prog.funcNamed "gosem.cut.vars").isSome=true:=by kernel_rfl
end Go.Proofs.YthncagamgiogjaaGreatDoor
namespace Go.Proofs.YthncagamgiogjaaGreatDoor
open Go
set_option maxRecDepth 100000
theorem tieNamed:varsNamedLaterB Tryz.prog (varsId Tryz.prog) tieList=true:=by kernel_rfl
end Go.Proofs.YthncagamgiogjaaGreatDoor
namespace Go.Proofs.YthncagamgiogjaaGreatDoor
open Go
set_option maxRecDepth 100000
theorem tieRun (os:Os) (tape:Tape):doorLeaves Tryz.prog 100 8 257 tieList os tape=some (tieList.filter fun x=>x.2.handleName?.isNone,(funcsListed tieList).map (·.2.funcsOut)):=by kernel_rfl
end Go.Proofs.YthncagamgiogjaaGreatDoor
namespace Go.Proofs.YthncagamgiogjaaGreatDoor
open Go
set_option maxRecDepth 100000
theorem tie:Tryz.prog.laidByTextLater tieList [.data,.data,.data,.data,.listed,.sentinel,.sentinel] true :=
 Program.laidByTextLater_by_one 100 8 257 tieW tieW' tieRoot tieKinds tieGen tieNamed tieRun
theorem interpLoops_row_tie:Rows.interpLoopsRow.laidByTextAt .later Tryz.pinned [.data,.data,.data,.data,.listed,.sentinel,.sentinel] true :=
 OpenClaim.laidByTextAt_later rfl rfl tie noOwnUnsafe
end Go.Proofs.YthncagamgiogjaaGreatDoor
