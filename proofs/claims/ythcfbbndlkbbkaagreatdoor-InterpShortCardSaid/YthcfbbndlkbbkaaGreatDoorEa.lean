/- On the way to: InterpShort returns true; its listed variables read as the text lays them. -/
import Derived.Test.YthcfbbndlkbbkaaGreatDoorWc
import Derived.Test.YthcfbbndlkbbkaaGreatDoorDa
import Derived.Test.YthcfbbndlkbbkaaGreatDoorWd
import Derived.Test.YthcfbbndlkbbkaaGreatDoorWe
import Derived.Test.YthcfbbndlkbbkaaGreatDoorWf
import Derived.KernelRfl
namespace Go.Abs.Run
open Go Go.Abs Go.Proofs
noncomputable def z9n:Nat→Option z0c:=z2b z1g [(6,[nttr1,nttr3])]
theorem zgf:z0r Tryz.prog z9n∧z09 z9n:=z0p z1d z2o z0d (z0g (z0k rfl nttw1 (z0k rfl nttw3 z1c)) z13)
end Go.Abs.Run
namespace Go.Abs.Run
open Go Go.Abs Go.Proofs
noncomputable def z9o:Nat→Option z0c:=z2b z1g [(6,[ntfr1,ntfr3])]
theorem zgg:z0r Tryz.prog z9o∧z09 z9o:=z0p z1d z2o z0d (z0g (z0k rfl ntfw1 (z0k rfl ntfw3 z1c)) z13)
end Go.Abs.Run
namespace Go.Abs.Run
open Go Go.Abs Go.Proofs
noncomputable def z9p:Nat→Option z0c:=z2b z1g [(6,[nftr1,nftr3])]
theorem zgh:z0r Tryz.prog z9p∧z09 z9p:=z0p z1d z2o z0d (z0g (z0k rfl nftw1 (z0k rfl nftw3 z1c)) z13)
end Go.Abs.Run
namespace Go.Abs.Run
open Go Go.Abs Go.Proofs
noncomputable def z9q:Nat→Option z0c:=z2b z1g [(6,[nffr1,nffr3])]
theorem zgi:z0r Tryz.prog z9q∧z09 z9q:=z0p z1d z2o z0d (z0g (z0k rfl nffw1 (z0k rfl nffw3 z1c)) z13)
end Go.Abs.Run
namespace Go.Abs.Run
open Go Go.Abs Go.Proofs
theorem zlt:z2m (z0a tab z9n 2000 4 [.bool true,.bool true] [] 1 ⟨[],[],[]⟩)=true:=by kernel_rfl
end Go.Abs.Run
namespace Go.Abs.Run
open Go Go.Abs Go.Proofs
theorem zlu:z2m (z0a tab z9o 2000 4 [.bool true,.bool false] [] 1 ⟨[],[],[]⟩)=true:=by kernel_rfl
end Go.Abs.Run
namespace Go.Abs.Run
open Go Go.Abs Go.Proofs
theorem zlv:z2m (z0a tab z9p 2000 4 [.bool false,.bool true] [] 1 ⟨[],[],[]⟩)=true:=by kernel_rfl
end Go.Abs.Run
namespace Go.Abs.Run
open Go Go.Abs Go.Proofs
theorem zlw:z2m (z0a tab z9q 2000 4 [.bool false,.bool false] [] 1 ⟨[],[],[]⟩)=true:=by kernel_rfl
end Go.Abs.Run
