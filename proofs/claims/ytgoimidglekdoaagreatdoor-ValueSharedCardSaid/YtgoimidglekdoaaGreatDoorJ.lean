/- Proved on the way to: ValueShared returns true whatever the memory, its listed package variables reading as the program's text lays them. -/
import Derived.Test.YtgoimidglekdoaaGreatDoorJ0
import Derived.Test.YtgoimidglekdoaaGreatDoorJ1
import Derived.Test.YtgoimidglekdoaaGreatDoorJ2
import Derived.Test.YtgoimidglekdoaaGreatDoorJ3
import Derived.Test.YtgoimidglekdoaaGreatDoorJ4
import Derived.Test.YtgoimidglekdoaaGreatDoorJ5
import Derived.Test.YtgoimidglekdoaaGreatDoorJ6
import Derived.Test.YtgoimidglekdoaaGreatDoorJ7
import Derived.Test.YtgoimidglekdoaaGreatDoorJ8
import Derived.Test.YtgoimidglekdoaaGreatDoorJ9
set_option autoImplicit false
set_option linter.unusedSectionVars false
set_option linter.unusedSimpArgs false
set_option linter.unusedVariables false
namespace Go.Proofs.YtgoimidglekdoaaGreatDoor
open Go Go.RowKit
set_option maxRecDepth 100000
theorem and2 {a b : Bool} (h : a = true) (h' : b = true) : (a && b) = true := by rw [h, h']; rfl
theorem facts : joinedFacts Tryz.pinned.checked.prog 5 Tryz.f5 Rows.valueSharedSpec Rows.valueSharedRow = true := by
  unfold joinedFacts
  exact (and2 (and2 (and2 (and2 (and2 (and2 (and2 (and2 (and2 (and2 (and2 (and2 (and2 (and2 (and2 (and2 (and2 (and2 (and2 (and2 (and2 (and2 (and2 (and2 (and2 (and2 (and2 (and2 (and2 (and2 (and2 fact0 fact1) fact2) fact3) fact4) fact5) fact6) fact7) fact8) fact9) fact10) fact11) fact12) fact13) fact14) fact15) fact16) fact17) fact18) fact19) fact20) fact21) fact22) fact23) fact24) fact25) fact26) fact27) fact28) fact29) fact30) fact31)
end Go.Proofs.YtgoimidglekdoaaGreatDoor
