/- On the way to: InterpDown returns true; its listed variables read as the text lays them. -/
import Derived.Test.YtheeljbogjbplaaGreatDoorPa0
import Derived.KernelRfl
namespace Go.Abs.Run
open Go Go.Abs Go.Proofs
theorem ru00:retF (.agg [.sl 1 0 [],.int .i64 0,.str [55],.int .i64 3]) (z04 tab zbx 2000 5 [.str sr00,.int .i64 99] [] 1 ⟨[],[],[]⟩)=true:=by kernel_rfl
end Go.Abs.Run
namespace Go.Abs.Run
open Go Go.Abs Go.Proofs
theorem ru01:retF (.agg [.sl 1 0 [],.int .i64 52,.str [],.int .i64 2]) (z04 tab zby 2000 5 [.str sr01,.int .i64 99] [] 1 ⟨[],[],[]⟩)=true:=by kernel_rfl
end Go.Abs.Run
namespace Go.Abs.Run
open Go Go.Abs Go.Proofs
theorem ru02:retF (.agg [.sl 1 0 [],.int .i64 52,.str [],.int .i64 2]) (z04 tab zbz 2000 5 [.str sr02,.int .i64 99] [] 1 ⟨[],[],[]⟩)=true:=by kernel_rfl
end Go.Abs.Run
namespace Go.Abs.Run
open Go Go.Abs Go.Proofs
theorem ru03:retF (.agg [.sl 1 0 [],.int .i64 52,.str [],.int .i64 2]) (z04 tab zc 2000 5 [.str sr03,.int .i64 99] [] 1 ⟨[],[],[]⟩)=true:=by kernel_rfl
end Go.Abs.Run
namespace Go.Abs.Run
open Go Go.Abs Go.Proofs
theorem ru04:retF (.agg [.sl 1 0 [],.int .i64 52,.str [],.int .i64 2]) (z04 tab zc0 2000 5 [.str sr04,.int .i64 99] [] 1 ⟨[],[],[]⟩)=true:=by kernel_rfl
end Go.Abs.Run
namespace Go.Abs.Run
open Go Go.Abs Go.Proofs
theorem ru10:retF (.agg [.sl 1 0 [],.int .i64 52,.str [],.int .i64 2]) (z04 tab zc1 2000 5 [.str sr10,.int .i64 99] [] 1 ⟨[],[],[]⟩)=true:=by kernel_rfl
end Go.Abs.Run
namespace Go.Abs.Run
open Go Go.Abs Go.Proofs
theorem ru11:retF (.agg [.sl 1 0 [],.int .i64 0,.str [55],.int .i64 3]) (z04 tab zc2 2000 5 [.str sr11,.int .i64 99] [] 1 ⟨[],[],[]⟩)=true:=by kernel_rfl
end Go.Abs.Run
