/- Proved on the way to: ValueShared returns true whatever the memory, its listed package variables reading as the program's text lays them. -/
import Derived.Test.YtgoimidglekdoaaGreatDoorS1
import Derived.Test.YtgoimidglekdoaaGreatDoorL2
import Derived.KernelRfl
set_option autoImplicit false
set_option linter.unusedSectionVars false
set_option linter.unusedSimpArgs false
set_option linter.unusedVariables false
namespace Go.Abs.Run
open Go Go.Abs Go.Proofs
noncomputable def intrV : Nat → Option IntrT := withR intrP [(8, [r0]), (11, [r1])]
theorem pre_true : goAns fr0 11 (EV (.vec 1 (List.replicate 4097 (vu 0)))) (run (callN tab intrV 2000) 2000 1 [] preC ⟨.nil, 0⟩ ⟨[⟨1, List.replicate 12 (0, .none, .none), []⟩], [], []⟩) = true := by kernel_rfl
end Go.Abs.Run
