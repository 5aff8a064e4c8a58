/- On the way to: InterpLoops returns true; its listed variables read as the text lays them. -/
import Derived.Test.YthncagamgiogjaaGreatDoorJ0
import Derived.Test.YthncagamgiogjaaGreatDoorJ1
import Derived.Test.YthncagamgiogjaaGreatDoorJ2
import Derived.Test.YthncagamgiogjaaGreatDoorJ3
import Derived.Test.YthncagamgiogjaaGreatDoorJ4
import Derived.Test.YthncagamgiogjaaGreatDoorJ5
import Derived.Test.YthncagamgiogjaaGreatDoorJx
namespace Go.Proofs.YthncagamgiogjaaGreatDoor
open Go Go.RowKit
set_option maxRecDepth 100000
theorem and2 {a b:Bool} (h:a=true) (h':b=true):(a && b)=true:=by rw[h,h']; rfl
theorem facts:joinedFacts Tryz.pinned.checked.prog 3 Tryz.f3 Rows.interpLoopsSpec Rows.interpLoopsRow=true:=by
 unfold joinedFacts
 exact(and2 (and2 (and2 (and2 (and2 (and2 (and2 (and2 (and2 (and2 (and2 (and2 (and2 (and2 (and2 (and2 (and2 (and2 (and2 (and2 (and2 (and2 (and2 (and2 (and2 (and2 (and2 (and2 (and2 (and2 (and2 fact0 fact1) fact2) fact3) fact4) fact5) fact6) fact7) fact8) fact9) fact10) fact11) fact12) fact13) fact14) fact15) fact16) fact17) fact18) fact19) fact20) fact21) fact22) fact23) fact24) fact25) fact26) fact27) fact28) fact29) fact30) fact31)
end Go.Proofs.YthncagamgiogjaaGreatDoor
