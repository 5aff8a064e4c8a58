/- On the way to: InterpDown returns true; its listed variables read as the text lays them. -/
import Derived.Test.YtheeljbogjbplaaGreatDoorRows
import Derived.ProofKit
import Derived.JoinedOf
import Derived.KernelRfl
namespace Go.Proofs.YtheeljbogjbplaaGreatDoor
open Go Go.RowKit
theorem fact11:(Rows.interpDownRow.recurses==Tryz.pinned.checked.prog.recurses 3)=true:=by kernel_rfl
end Go.Proofs.YtheeljbogjbplaaGreatDoor
