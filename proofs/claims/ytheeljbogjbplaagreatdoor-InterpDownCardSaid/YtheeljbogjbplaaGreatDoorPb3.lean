/- On the way to: InterpDown returns true; its listed variables read as the text lays them. -/
import Derived.Test.YtheeljbogjbplaaGreatDoorPa2
import Derived.KernelRfl
namespace Go.Abs.Run
open Go Go.Abs Go.Proofs
theorem ru41:retF (.agg [.sl 1 0 [],.int .i64 52,.str [],.int .i64 2]) (z04 tab zch 2000 5 [.str sr41,.int .i64 99] [] 1 ⟨[],[],[]⟩)=true:=by kernel_rfl
end Go.Abs.Run
namespace Go.Abs.Run
open Go Go.Abs Go.Proofs
theorem ru42:retF (.agg [.sl 1 0 [],.int .i64 52,.str [],.int .i64 2]) (z04 tab zci 2000 5 [.str sr42,.int .i64 99] [] 1 ⟨[],[],[]⟩)=true:=by kernel_rfl
end Go.Abs.Run
namespace Go.Abs.Run
open Go Go.Abs Go.Proofs
theorem ru43:retF (.agg [.sl 1 0 [],.int .i64 52,.str [],.int .i64 2]) (z04 tab zcj 2000 5 [.str sr43,.int .i64 99] [] 1 ⟨[],[],[]⟩)=true:=by kernel_rfl
end Go.Abs.Run
namespace Go.Abs.Run
open Go Go.Abs Go.Proofs
theorem ru44:retF (.agg [.sl 1 0 [],.int .i64 0,.str [55],.int .i64 3]) (z04 tab zck 2000 5 [.str sr44,.int .i64 99] [] 1 ⟨[],[],[]⟩)=true:=by kernel_rfl
end Go.Abs.Run
