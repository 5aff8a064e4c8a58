/- On the way to: InterpShort returns true; its listed variables read as the text lays them. -/
import Derived.Test.YthcfbbndlkbbkaaGreatDoorW1
import Derived.Test.YthcfbbndlkbbkaaGreatDoorD1
import Derived.Test.YthcfbbndlkbbkaaGreatDoorW2
import Derived.Test.YthcfbbndlkbbkaaGreatDoorW4
import Derived.Test.YthcfbbndlkbbkaaGreatDoorL2
import Derived.KernelRfl
namespace Go.Abs.Run
open Go Go.Abs Go.Proofs
noncomputable def zjh:Nat→Option z0c:=z2b z2q [(16,[qdr0])]
theorem zji:z0r Tryz.prog zjh∧z09 zjh:=z0p z1d z2o z0m (z0g (z0k rfl qdw0 z1c) z13)
end Go.Abs.Run
namespace Go.Abs.Run
open Go Go.Abs Go.Proofs
noncomputable def zjj:Nat→Option z0c:=z2b z2q [(16,[qer0])]
theorem zjk:z0r Tryz.prog zjj∧z09 zjj:=z0p z1d z2o z0m (z0g (z0k rfl qew0 z1c) z13)
end Go.Abs.Run
namespace Go.Abs.Run
open Go Go.Abs Go.Proofs
noncomputable def zjl:Nat→Option z0c:=z2b z2q [(16,[qfr0]),(49,[qfr4]),(54,[qfr5])]
theorem zjm:z0r Tryz.prog zjl∧z09 zjl:=z0p z1d z2o z0m (z0g (z0k rfl qfw0 z1c) (z0g (z0k rfl qfw4 z1c) (z0g (z0k rfl qfw5 z1c) z13)))
end Go.Abs.Run
namespace Go.Abs.Run
open Go Go.Abs Go.Proofs
noncomputable def zjn:Nat→Option z0c:=z2b z2q [(16,[qgr0])]
theorem zjo:z0r Tryz.prog zjn∧z09 zjn:=z0p z1d z2o z0m (z0g (z0k rfl qgw0 z1c) z13)
end Go.Abs.Run
namespace Go.Abs.Run
open Go Go.Abs Go.Proofs
noncomputable def zjp:Nat→Option z0c:=z2b z2q [(16,[qhr0])]
theorem zjq:z0r Tryz.prog zjp∧z09 zjp:=z0p z1d z2o z0m (z0g (z0k rfl qhw0 z1c) z13)
end Go.Abs.Run
namespace Go.Abs.Run
open Go Go.Abs Go.Proofs
theorem rr_a:retV (.agg [.sl 1 0 [],.int .i64 50,.str [],.int .i64 0]) (z0a tab z2q 2000 6 [.str [109,97,105,110,32,105,110,116,32,123,32,112,114,105,110,116,32,49,59,32,114,101,116,117,114,110,32,50,59,32,125],.int .i64 0] [] 1 ⟨[],[],[]⟩)=true:=by kernel_rfl
end Go.Abs.Run
namespace Go.Abs.Run
open Go Go.Abs Go.Proofs
theorem rr_b:retV (.agg [.sl 1 0 [],.int .i64 4,.str [],.int .i64 0]) (z0a tab z2q 2000 6 [.str [109,97,105,110,32,105,110,116,32,123,32,112,114,105,110,116,32,49,59,32,114,101,116,117,114,110,32,50,59,32,125],.int .i64 (-1)] [] 1 ⟨[],[],[]⟩)=true:=by kernel_rfl
end Go.Abs.Run
namespace Go.Abs.Run
open Go Go.Abs Go.Proofs
theorem rr_c:retV (.agg [.sl 1 0 [],.int .i64 4,.str [],.int .i64 0]) (z0a tab z2q 2000 6 [.str [109,97,105,110,32,105,110,116,32,123,32,112,114,105,110,116,32,49,59,32,114,101,116,117,114,110,32,50,59,32,125],.int .i64 100001] [] 1 ⟨[],[],[]⟩)=true:=by kernel_rfl
end Go.Abs.Run
namespace Go.Abs.Run
open Go Go.Abs Go.Proofs
theorem rr_i:retV (.agg [.sl 1 0 [],.int .i64 50,.str [],.int .i64 77]) (z0a tab z2q 2000 6 [.str [109,97,105,110,32,105,110,116,32,123,32,119,104,105,108,101,32,116,114,117,101,32,123,32,125,32,114,101,116,117,114,110,32,49,59,32,125],.int .i64 77] [] 1 ⟨[],[],[]⟩)=true:=by kernel_rfl
end Go.Abs.Run
namespace Go.Abs.Run
open Go Go.Abs Go.Proofs
theorem rr_h:retV (.agg [.sl 1 0 [],.int .i64 53,.str [],.int .i64 27]) (z0a tab zjp 2000 6 [.str [109,97,105,110,32,116,101,120,116,32,123,32,108,101,116,32,97,32,61,32,34,120,34,59,32,119,104,105,108,101,32,116,114,117,101,32,123,32,97,32,61,32,97,32,43,32,97,59,32,125,32,114,101,116,117,114,110,32,97,59,32,125],.int .i64 99] [] 1 ⟨[],[],[]⟩)=true:=by kernel_rfl
end Go.Abs.Run
