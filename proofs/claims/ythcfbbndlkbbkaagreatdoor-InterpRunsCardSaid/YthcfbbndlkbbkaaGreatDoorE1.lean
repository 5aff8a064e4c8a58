/- On the way to: InterpRuns returns true; its listed variables read as the text lays them. -/
import Derived.Test.YthcfbbndlkbbkaaGreatDoorL2
import Derived.KernelRfl
namespace Go.Abs.Run
open Go Go.Abs Go.Proofs
theorem rr_a : retV (.agg [.sl 1 0 [], .int .i64 50, .str [], .int .i64 0]) (callN tab intrO 2000 6 [.str [109,97,105,110,32,105,110,116,32,123,32,112,114,105,110,116,32,49,59,32,114,101,116,117,114,110,32,50,59,32,125], .int .i64 0] [] 1 ⟨[], [], []⟩) = true := by kernel_rfl
end Go.Abs.Run
namespace Go.Abs.Run
open Go Go.Abs Go.Proofs
theorem rr_b : retV (.agg [.sl 1 0 [], .int .i64 4, .str [], .int .i64 0]) (callN tab intrO 2000 6 [.str [109,97,105,110,32,105,110,116,32,123,32,112,114,105,110,116,32,49,59,32,114,101,116,117,114,110,32,50,59,32,125], .int .i64 (-1)] [] 1 ⟨[], [], []⟩) = true := by kernel_rfl
end Go.Abs.Run
namespace Go.Abs.Run
open Go Go.Abs Go.Proofs
theorem rr_c : retV (.agg [.sl 1 0 [], .int .i64 4, .str [], .int .i64 0]) (callN tab intrO 2000 6 [.str [109,97,105,110,32,105,110,116,32,123,32,112,114,105,110,116,32,49,59,32,114,101,116,117,114,110,32,50,59,32,125], .int .i64 100001] [] 1 ⟨[], [], []⟩) = true := by kernel_rfl
end Go.Abs.Run
namespace Go.Abs.Run
open Go Go.Abs Go.Proofs
theorem rr_i : retV (.agg [.sl 1 0 [], .int .i64 50, .str [], .int .i64 77]) (callN tab intrO 2000 6 [.str [109,97,105,110,32,105,110,116,32,123,32,119,104,105,108,101,32,116,114,117,101,32,123,32,125,32,114,101,116,117,114,110,32,49,59,32,125], .int .i64 77] [] 1 ⟨[], [], []⟩) = true := by kernel_rfl
end Go.Abs.Run
