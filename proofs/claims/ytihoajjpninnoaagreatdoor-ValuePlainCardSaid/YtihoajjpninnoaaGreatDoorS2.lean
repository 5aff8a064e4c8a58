/- On the way to: ValuePlain returns true; its listed variables read as the text lays them. -/
import Derived.Test.YtihoajjpninnoaaGreatDoorS1
import Derived.Test.YtihoajjpninnoaaGreatDoorL2
import Derived.KernelRfl
namespace Go.Abs.Run
open Go Go.Abs Go.Proofs
noncomputable def zcs:Nat→Option z0b:=zei zhw [(4,[r0]),(22,[r1])]
theorem zkd:goAns fr0 11 (EV (.vec 1 (List.replicate 4097 (vu 0)))) (run (z0a tab zcs 2000) 2000 1 [] preC ⟨.nil,0⟩ ⟨[⟨1,List.replicate 12 (0,.none,.none),[]⟩],[],[]⟩)=true:=by kernel_rfl
end Go.Abs.Run
