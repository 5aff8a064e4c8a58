/- On the way to: InterpShort returns true; its listed variables read as the text lays them. -/
import Derived.Test.YthcfbbndlkbbkaaGreatDoorWa
import Derived.Test.YthcfbbndlkbbkaaGreatDoorDa
import Derived.KernelRfl
namespace Go.Abs.Run
open Go Go.Abs Go.Proofs
theorem nftw1:z1m Tryz.prog tab nftr1:=.of (I:=(z2b z1g [(16,[nftr0])])) 2000 (z0p z1d z2o z0d (z0g (z0k rfl nftw0 z1c) z13)) (by kernel_rfl)
end Go.Abs.Run
namespace Go.Abs.Run
open Go Go.Abs Go.Proofs
theorem nftw3:z1m Tryz.prog tab nftr3:=.of (I:=(z2b z1g [(16,[nftr2])])) 2000 (z0p z1d z2o z0d (z0g (z0k rfl nftw2 z1c) z13)) (by kernel_rfl)
end Go.Abs.Run
