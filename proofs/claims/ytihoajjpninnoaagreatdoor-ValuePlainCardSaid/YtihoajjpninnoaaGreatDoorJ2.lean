/- On the way to: ValuePlain returns true; its listed variables read as the text lays them. -/
import Derived.Test.YtihoajjpninnoaaGreatDoorRows
import Derived.ProofKit
import Derived.JoinedOf
import Derived.KernelRfl
namespace Go.Proofs.YtihoajjpninnoaaGreatDoor
open Go Go.RowKit
theorem fact9:(Rows.valuePlainRow.inPlace==Tryz.pinned.checked.prog.inPlace 3)=true:=by kernel_rfl
end Go.Proofs.YtihoajjpninnoaaGreatDoor
