/- On the way to: InterpDepth returns true; its listed variables read as the text lays them. -/
import Derived.Test.YthncagamgiogjaaGreatDoorRows
import Derived.ProofKit
import Derived.JoinedOf
import Derived.KernelRfl
namespace Go.Proofs.YthncagamgiogjaaGreatDoor
open Go Go.RowKit
theorem fact10:(Rows.interpDepthRow.unfollowed==Tryz.pinned.checked.prog.unfollowed 4)=true:=by kernel_rfl
end Go.Proofs.YthncagamgiogjaaGreatDoor
