/- On the way to: InterpShort returns true; its listed variables read as the text lays them. -/
import Derived.Test.YthcfbbndlkbbkaaGreatDoorDa
import Derived.KernelRfl
namespace Go.Abs.Run
open Go Go.Abs Go.Proofs
theorem nttw0:z1m Tryz.prog tab nttr0:=.of (I:=z1g) 2000 z0d (by kernel_rfl)
end Go.Abs.Run
namespace Go.Abs.Run
open Go Go.Abs Go.Proofs
theorem ntfw0:z1m Tryz.prog tab ntfr0:=.of (I:=z1g) 2000 z0d (by kernel_rfl)
end Go.Abs.Run
namespace Go.Abs.Run
open Go Go.Abs Go.Proofs
theorem nftw0:z1m Tryz.prog tab nftr0:=.of (I:=z1g) 2000 z0d (by kernel_rfl)
end Go.Abs.Run
namespace Go.Abs.Run
open Go Go.Abs Go.Proofs
theorem nffw0:z1m Tryz.prog tab nffr0:=.of (I:=z1g) 2000 z0d (by kernel_rfl)
end Go.Abs.Run
namespace Go.Abs.Run
open Go Go.Abs Go.Proofs
theorem nttw2:z1m Tryz.prog tab nttr2:=.of (I:=z1g) 2000 z0d (by kernel_rfl)
end Go.Abs.Run
namespace Go.Abs.Run
open Go Go.Abs Go.Proofs
theorem ntfw2:z1m Tryz.prog tab ntfr2:=.of (I:=z1g) 2000 z0d (by kernel_rfl)
end Go.Abs.Run
namespace Go.Abs.Run
open Go Go.Abs Go.Proofs
theorem nftw2:z1m Tryz.prog tab nftr2:=.of (I:=z1g) 2000 z0d (by kernel_rfl)
end Go.Abs.Run
namespace Go.Abs.Run
open Go Go.Abs Go.Proofs
theorem nffw2:z1m Tryz.prog tab nffr2:=.of (I:=z1g) 2000 z0d (by kernel_rfl)
end Go.Abs.Run
