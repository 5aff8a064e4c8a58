/- On the way to: InterpDown returns true; its listed variables read as the text lays them. -/
import Derived.Test.YtheeljbogjbplaaGreatDoorPa1
import Derived.KernelRfl
import Derived.Test.YtheeljbogjbplaaGreatDoorPa2
namespace Go.Abs.Run
open Go Go.Abs Go.Proofs
theorem ru24:retF (.agg [.sl 1 0 [],.int .i64 52,.str [],.int .i64 2]) (z04 tab zca 2000 5 [.str sr24,.int .i64 99] [] 1 ⟨[],[],[]⟩)=true:=by kernel_rfl
end Go.Abs.Run
namespace Go.Abs.Run
open Go Go.Abs Go.Proofs
theorem ru30:retF (.agg [.sl 1 0 [],.int .i64 52,.str [],.int .i64 2]) (z04 tab zcb 2000 5 [.str sr30,.int .i64 99] [] 1 ⟨[],[],[]⟩)=true:=by kernel_rfl
end Go.Abs.Run
namespace Go.Abs.Run
open Go Go.Abs Go.Proofs
theorem ru31:retF (.agg [.sl 1 0 [],.int .i64 52,.str [],.int .i64 2]) (z04 tab zcc 2000 5 [.str sr31,.int .i64 99] [] 1 ⟨[],[],[]⟩)=true:=by kernel_rfl
end Go.Abs.Run
namespace Go.Abs.Run
open Go Go.Abs Go.Proofs
theorem ru32:retF (.agg [.sl 1 0 [],.int .i64 52,.str [],.int .i64 2]) (z04 tab zcd 2000 5 [.str sr32,.int .i64 99] [] 1 ⟨[],[],[]⟩)=true:=by kernel_rfl
end Go.Abs.Run
namespace Go.Abs.Run
open Go Go.Abs Go.Proofs
theorem ru33:retF (.agg [.sl 1 0 [],.int .i64 0,.str [55],.int .i64 3]) (z04 tab zce 2000 5 [.str sr33,.int .i64 99] [] 1 ⟨[],[],[]⟩)=true:=by kernel_rfl
end Go.Abs.Run
namespace Go.Abs.Run
open Go Go.Abs Go.Proofs
theorem ru34:retF (.agg [.sl 1 0 [],.int .i64 52,.str [],.int .i64 2]) (z04 tab zcf 2000 5 [.str sr34,.int .i64 99] [] 1 ⟨[],[],[]⟩)=true:=by kernel_rfl
end Go.Abs.Run
namespace Go.Abs.Run
open Go Go.Abs Go.Proofs
theorem ru40:retF (.agg [.sl 1 0 [],.int .i64 52,.str [],.int .i64 2]) (z04 tab zcg 2000 5 [.str sr40,.int .i64 99] [] 1 ⟨[],[],[]⟩)=true:=by kernel_rfl
end Go.Abs.Run
