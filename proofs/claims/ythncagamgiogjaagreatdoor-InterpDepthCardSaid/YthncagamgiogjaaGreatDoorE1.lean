/- On the way to: InterpDepth returns true; its listed variables read as the text lays them. -/
import Derived.Test.YthncagamgiogjaaGreatDoorW1
import Derived.Test.YthncagamgiogjaaGreatDoorD1
import Derived.Test.YthncagamgiogjaaGreatDoorW2
import Derived.Test.YthncagamgiogjaaGreatDoorL2
import Derived.KernelRfl
namespace Go.Abs.Run
open Go Go.Abs Go.Proofs
noncomputable def zjr:Nat→Option z08:=z7o z3d [(13,[qdr0])]
theorem zjs:z0r Tryz.prog zjr∧z0c zjr:=z4g z24 mixed z0s (z23 (z39 rfl qdw0 z4z) z5x)
end Go.Abs.Run
namespace Go.Abs.Run
open Go Go.Abs Go.Proofs
noncomputable def zjt:Nat→Option z08:=z7o z3d [(13,[qer0])]
theorem zju:z0r Tryz.prog zjt∧z0c zjt:=z4g z24 mixed z0s (z23 (z39 rfl qew0 z4z) z5x)
end Go.Abs.Run
namespace Go.Abs.Run
open Go Go.Abs Go.Proofs
noncomputable def zjv:Nat→Option z08:=z7o z3d [(13,[qfr0]),(42,[qfr4]),(47,[qfr5])]
theorem zjw:z0r Tryz.prog zjv∧z0c zjv:=z4g z24 mixed z0s (z23 (z39 rfl qfw0 z4z) (z23 (z39 rfl qfw4 z4z) (z23 (z39 rfl qfw5 z4z) z5x)))
end Go.Abs.Run
namespace Go.Abs.Run
open Go Go.Abs Go.Proofs
noncomputable def zjx:Nat→Option z08:=z7o z3d [(13,[qgr0])]
theorem zjy:z0r Tryz.prog zjx∧z0c zjx:=z4g z24 mixed z0s (z23 (z39 rfl qgw0 z4z) z5x)
end Go.Abs.Run
namespace Go.Abs.Run
open Go Go.Abs Go.Proofs
noncomputable def zjz:Nat→Option z08:=z7o z3d [(13,[qhr0])]
theorem zk0:z0r Tryz.prog zjz∧z0c zjz:=z4g z24 mixed z0s (z23 (z39 rfl qhw0 z4z) z5x)
end Go.Abs.Run
namespace Go.Abs.Run
open Go Go.Abs Go.Proofs
theorem rr_a:retV (.agg [.sl 1 0 [],.int .i64 50,.str [],.int .i64 0]) (z09 tab z3d 2000 6 [.str [109,97,105,110,32,105,110,116,32,123,32,112,114,105,110,116,32,49,59,32,114,101,116,117,114,110,32,50,59,32,125],.int .i64 0] [] 1 ⟨[],[],[]⟩)=true:=by kernel_rfl
end Go.Abs.Run
namespace Go.Abs.Run
open Go Go.Abs Go.Proofs
theorem rr_b:retV (.agg [.sl 1 0 [],.int .i64 4,.str [],.int .i64 0]) (z09 tab z3d 2000 6 [.str [109,97,105,110,32,105,110,116,32,123,32,112,114,105,110,116,32,49,59,32,114,101,116,117,114,110,32,50,59,32,125],.int .i64 (-1)] [] 1 ⟨[],[],[]⟩)=true:=by kernel_rfl
end Go.Abs.Run
namespace Go.Abs.Run
open Go Go.Abs Go.Proofs
theorem rr_c:retV (.agg [.sl 1 0 [],.int .i64 4,.str [],.int .i64 0]) (z09 tab z3d 2000 6 [.str [109,97,105,110,32,105,110,116,32,123,32,112,114,105,110,116,32,49,59,32,114,101,116,117,114,110,32,50,59,32,125],.int .i64 100001] [] 1 ⟨[],[],[]⟩)=true:=by kernel_rfl
end Go.Abs.Run
namespace Go.Abs.Run
open Go Go.Abs Go.Proofs
theorem rr_i:retV (.agg [.sl 1 0 [],.int .i64 50,.str [],.int .i64 77]) (z09 tab z3d 2000 6 [.str [109,97,105,110,32,105,110,116,32,123,32,119,104,105,108,101,32,116,114,117,101,32,123,32,125,32,114,101,116,117,114,110,32,49,59,32,125],.int .i64 77] [] 1 ⟨[],[],[]⟩)=true:=by kernel_rfl
end Go.Abs.Run
namespace Go.Abs.Run
open Go Go.Abs Go.Proofs
theorem rr_h:retV (.agg [.sl 1 0 [],.int .i64 53,.str [],.int .i64 27]) (z09 tab zjz 2000 6 [.str [109,97,105,110,32,116,101,120,116,32,123,32,108,101,116,32,97,32,61,32,34,120,34,59,32,119,104,105,108,101,32,116,114,117,101,32,123,32,97,32,61,32,97,32,43,32,97,59,32,125,32,114,101,116,117,114,110,32,97,59,32,125],.int .i64 99] [] 1 ⟨[],[],[]⟩)=true:=by kernel_rfl
end Go.Abs.Run
