/- On the way to: InterpDown returns true; its listed variables read as the text lays them. -/
import Derived.Test.YtheeljbogjbplaaGreatDoorPa0
import Derived.KernelRfl
import Derived.Test.YtheeljbogjbplaaGreatDoorPa1
namespace Go.Abs.Run
open Go Go.Abs Go.Proofs
theorem ru12:retF (.agg [.sl 1 0 [],.int .i64 52,.str [],.int .i64 2]) (z04 tab zc3 2000 5 [.str sr12,.int .i64 99] [] 1 ⟨[],[],[]⟩)=true:=by kernel_rfl
end Go.Abs.Run
namespace Go.Abs.Run
open Go Go.Abs Go.Proofs
theorem ru13:retF (.agg [.sl 1 0 [],.int .i64 52,.str [],.int .i64 2]) (z04 tab zc4 2000 5 [.str sr13,.int .i64 99] [] 1 ⟨[],[],[]⟩)=true:=by kernel_rfl
end Go.Abs.Run
namespace Go.Abs.Run
open Go Go.Abs Go.Proofs
theorem ru14:retF (.agg [.sl 1 0 [],.int .i64 52,.str [],.int .i64 2]) (z04 tab zc5 2000 5 [.str sr14,.int .i64 99] [] 1 ⟨[],[],[]⟩)=true:=by kernel_rfl
end Go.Abs.Run
namespace Go.Abs.Run
open Go Go.Abs Go.Proofs
theorem ru20:retF (.agg [.sl 1 0 [],.int .i64 52,.str [],.int .i64 2]) (z04 tab zc6 2000 5 [.str sr20,.int .i64 99] [] 1 ⟨[],[],[]⟩)=true:=by kernel_rfl
end Go.Abs.Run
namespace Go.Abs.Run
open Go Go.Abs Go.Proofs
theorem ru21:retF (.agg [.sl 1 0 [],.int .i64 52,.str [],.int .i64 2]) (z04 tab zc7 2000 5 [.str sr21,.int .i64 99] [] 1 ⟨[],[],[]⟩)=true:=by kernel_rfl
end Go.Abs.Run
namespace Go.Abs.Run
open Go Go.Abs Go.Proofs
theorem ru22:retF (.agg [.sl 1 0 [],.int .i64 0,.str [55],.int .i64 3]) (z04 tab zc8 2000 5 [.str sr22,.int .i64 99] [] 1 ⟨[],[],[]⟩)=true:=by kernel_rfl
end Go.Abs.Run
namespace Go.Abs.Run
open Go Go.Abs Go.Proofs
theorem ru23:retF (.agg [.sl 1 0 [],.int .i64 52,.str [],.int .i64 2]) (z04 tab zc9 2000 5 [.str sr23,.int .i64 99] [] 1 ⟨[],[],[]⟩)=true:=by kernel_rfl
end Go.Abs.Run
