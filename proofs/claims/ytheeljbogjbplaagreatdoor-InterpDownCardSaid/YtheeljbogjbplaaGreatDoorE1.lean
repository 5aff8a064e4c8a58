/- On the way to: InterpDown returns true; its listed variables read as the text lays them. -/
import Derived.Test.YtheeljbogjbplaaGreatDoorW1
import Derived.Test.YtheeljbogjbplaaGreatDoorD1
import Derived.Test.YtheeljbogjbplaaGreatDoorW2
import Derived.Test.YtheeljbogjbplaaGreatDoorL2
import Derived.KernelRfl
namespace Go.Abs.Run
open Go Go.Abs Go.Proofs
noncomputable def zhf:Nat→Option z0c:=z5u z0w [(11,[qdr0])]
theorem zhg:z0f Tryz.prog zhf∧z06 zhf:=z3h z3n z5v z0a (z1s (z2l rfl qdw0 z3y) z4l)
end Go.Abs.Run
namespace Go.Abs.Run
open Go Go.Abs Go.Proofs
noncomputable def zhh:Nat→Option z0c:=z5u z0w [(11,[qer0])]
theorem zhi:z0f Tryz.prog zhh∧z06 zhh:=z3h z3n z5v z0a (z1s (z2l rfl qew0 z3y) z4l)
end Go.Abs.Run
namespace Go.Abs.Run
open Go Go.Abs Go.Proofs
noncomputable def zhj:Nat→Option z0c:=z5u z0w [(11,[qfr0]),(39,[qfr4]),(44,[qfr5])]
theorem zhk:z0f Tryz.prog zhj∧z06 zhj:=z3h z3n z5v z0a (z1s (z2l rfl qfw0 z3y) (z1s (z2l rfl qfw4 z3y) (z1s (z2l rfl qfw5 z3y) z4l)))
end Go.Abs.Run
namespace Go.Abs.Run
open Go Go.Abs Go.Proofs
noncomputable def zhl:Nat→Option z0c:=z5u z0w [(11,[qgr0])]
theorem zhm:z0f Tryz.prog zhl∧z06 zhl:=z3h z3n z5v z0a (z1s (z2l rfl qgw0 z3y) z4l)
end Go.Abs.Run
namespace Go.Abs.Run
open Go Go.Abs Go.Proofs
noncomputable def zhn:Nat→Option z0c:=z5u z0w [(11,[qhr0])]
theorem zho:z0f Tryz.prog zhn∧z06 zhn:=z3h z3n z5v z0a (z1s (z2l rfl qhw0 z3y) z4l)
end Go.Abs.Run
namespace Go.Abs.Run
open Go Go.Abs Go.Proofs
theorem rr_a:retV (.agg [.sl 1 0 [],.int .i64 50,.str [],.int .i64 0]) (z04 tab z0w 2000 5 [.str [109,97,105,110,32,105,110,116,32,123,32,112,114,105,110,116,32,49,59,32,114,101,116,117,114,110,32,50,59,32,125],.int .i64 0] [] 1 ⟨[],[],[]⟩)=true:=by kernel_rfl
end Go.Abs.Run
namespace Go.Abs.Run
open Go Go.Abs Go.Proofs
theorem rr_b:retV (.agg [.sl 1 0 [],.int .i64 4,.str [],.int .i64 0]) (z04 tab z0w 2000 5 [.str [109,97,105,110,32,105,110,116,32,123,32,112,114,105,110,116,32,49,59,32,114,101,116,117,114,110,32,50,59,32,125],.int .i64 (-1)] [] 1 ⟨[],[],[]⟩)=true:=by kernel_rfl
end Go.Abs.Run
namespace Go.Abs.Run
open Go Go.Abs Go.Proofs
theorem rr_c:retV (.agg [.sl 1 0 [],.int .i64 4,.str [],.int .i64 0]) (z04 tab z0w 2000 5 [.str [109,97,105,110,32,105,110,116,32,123,32,112,114,105,110,116,32,49,59,32,114,101,116,117,114,110,32,50,59,32,125],.int .i64 100001] [] 1 ⟨[],[],[]⟩)=true:=by kernel_rfl
end Go.Abs.Run
namespace Go.Abs.Run
open Go Go.Abs Go.Proofs
theorem rr_i:retV (.agg [.sl 1 0 [],.int .i64 50,.str [],.int .i64 77]) (z04 tab z0w 2000 5 [.str [109,97,105,110,32,105,110,116,32,123,32,119,104,105,108,101,32,116,114,117,101,32,123,32,125,32,114,101,116,117,114,110,32,49,59,32,125],.int .i64 77] [] 1 ⟨[],[],[]⟩)=true:=by kernel_rfl
end Go.Abs.Run
namespace Go.Abs.Run
open Go Go.Abs Go.Proofs
theorem rr_h:retV (.agg [.sl 1 0 [],.int .i64 53,.str [],.int .i64 27]) (z04 tab zhn 2000 5 [.str [109,97,105,110,32,116,101,120,116,32,123,32,108,101,116,32,97,32,61,32,34,120,34,59,32,119,104,105,108,101,32,116,114,117,101,32,123,32,97,32,61,32,97,32,43,32,97,59,32,125,32,114,101,116,117,114,110,32,97,59,32,125],.int .i64 99] [] 1 ⟨[],[],[]⟩)=true:=by kernel_rfl
end Go.Abs.Run
