/- On the way to: InterpRuns returns true; its listed variables read as the text lays them. -/
import Derived.Test.YthcfbbndlkbbkaaGreatDoorI1
import Derived.KernelRfl
namespace Go.Abs.Run
open Go Go.Abs Go.Proofs
theorem rr_h : retV (.agg [.sl 1 0 [], .int .i64 53, .str [], .int .i64 27]) (callN tab intrOh 2000 6 [.str [109,97,105,110,32,116,101,120,116,32,123,32,108,101,116,32,97,32,61,32,34,120,34,59,32,119,104,105,108,101,32,116,114,117,101,32,123,32,97,32,61,32,97,32,43,32,97,59,32,125,32,114,101,116,117,114,110,32,97,59,32,125], .int .i64 99] [] 1 ⟨[], [], []⟩) = true := by kernel_rfl
end Go.Abs.Run
