/- On the way to: InterpLoops returns true; its listed variables read as the text lays them. -/
import Derived.Test.YthncagamgiogjaaGreatDoorW1
import Derived.Test.YthncagamgiogjaaGreatDoorD1
import Derived.Test.YthncagamgiogjaaGreatDoorW2
import Derived.Test.YthncagamgiogjaaGreatDoorL2
import Derived.KernelRfl
namespace Go.Abs.Run
open Go Go.Abs Go.Proofs
noncomputable def zkg:Nat→Option z07:=z8g z3u [(13,[qdr0])]
theorem zkh:z0v Tryz.prog zkg∧z0d zkg:=z4u z2e mixed z0x (z2b (z3n rfl qdw0 z5g) z6i)
end Go.Abs.Run
namespace Go.Abs.Run
open Go Go.Abs Go.Proofs
noncomputable def zki:Nat→Option z07:=z8g z3u [(13,[qer0])]
theorem zkj:z0v Tryz.prog zki∧z0d zki:=z4u z2e mixed z0x (z2b (z3n rfl qew0 z5g) z6i)
end Go.Abs.Run
namespace Go.Abs.Run
open Go Go.Abs Go.Proofs
noncomputable def zkk:Nat→Option z07:=z8g z3u [(13,[qfr0]),(42,[qfr4]),(47,[qfr5])]
theorem zkl:z0v Tryz.prog zkk∧z0d zkk:=z4u z2e mixed z0x (z2b (z3n rfl qfw0 z5g) (z2b (z3n rfl qfw4 z5g) (z2b (z3n rfl qfw5 z5g) z6i)))
end Go.Abs.Run
namespace Go.Abs.Run
open Go Go.Abs Go.Proofs
noncomputable def zkm:Nat→Option z07:=z8g z3u [(13,[qgr0])]
theorem zkn:z0v Tryz.prog zkm∧z0d zkm:=z4u z2e mixed z0x (z2b (z3n rfl qgw0 z5g) z6i)
end Go.Abs.Run
namespace Go.Abs.Run
open Go Go.Abs Go.Proofs
noncomputable def zko:Nat→Option z07:=z8g z3u [(13,[qhr0])]
theorem zkp:z0v Tryz.prog zko∧z0d zko:=z4u z2e mixed z0x (z2b (z3n rfl qhw0 z5g) z6i)
end Go.Abs.Run
namespace Go.Abs.Run
open Go Go.Abs Go.Proofs
theorem rr_a:retV (.agg [.sl 1 0 [],.int .i64 50,.str [],.int .i64 0]) (z09 tab z3u 2000 6 [.str [109,97,105,110,32,105,110,116,32,123,32,112,114,105,110,116,32,49,59,32,114,101,116,117,114,110,32,50,59,32,125],.int .i64 0] [] 1 ⟨[],[],[]⟩)=true:=by kernel_rfl
end Go.Abs.Run
namespace Go.Abs.Run
open Go Go.Abs Go.Proofs
theorem rr_b:retV (.agg [.sl 1 0 [],.int .i64 4,.str [],.int .i64 0]) (z09 tab z3u 2000 6 [.str [109,97,105,110,32,105,110,116,32,123,32,112,114,105,110,116,32,49,59,32,114,101,116,117,114,110,32,50,59,32,125],.int .i64 (-1)] [] 1 ⟨[],[],[]⟩)=true:=by kernel_rfl
end Go.Abs.Run
namespace Go.Abs.Run
open Go Go.Abs Go.Proofs
theorem rr_c:retV (.agg [.sl 1 0 [],.int .i64 4,.str [],.int .i64 0]) (z09 tab z3u 2000 6 [.str [109,97,105,110,32,105,110,116,32,123,32,112,114,105,110,116,32,49,59,32,114,101,116,117,114,110,32,50,59,32,125],.int .i64 100001] [] 1 ⟨[],[],[]⟩)=true:=by kernel_rfl
end Go.Abs.Run
namespace Go.Abs.Run
open Go Go.Abs Go.Proofs
theorem rr_i:retV (.agg [.sl 1 0 [],.int .i64 50,.str [],.int .i64 77]) (z09 tab z3u 2000 6 [.str [109,97,105,110,32,105,110,116,32,123,32,119,104,105,108,101,32,116,114,117,101,32,123,32,125,32,114,101,116,117,114,110,32,49,59,32,125],.int .i64 77] [] 1 ⟨[],[],[]⟩)=true:=by kernel_rfl
end Go.Abs.Run
namespace Go.Abs.Run
open Go Go.Abs Go.Proofs
theorem rr_h:retV (.agg [.sl 1 0 [],.int .i64 53,.str [],.int .i64 27]) (z09 tab zko 2000 6 [.str [109,97,105,110,32,116,101,120,116,32,123,32,108,101,116,32,97,32,61,32,34,120,34,59,32,119,104,105,108,101,32,116,114,117,101,32,123,32,97,32,61,32,97,32,43,32,97,59,32,125,32,114,101,116,117,114,110,32,97,59,32,125],.int .i64 99] [] 1 ⟨[],[],[]⟩)=true:=by kernel_rfl
end Go.Abs.Run
