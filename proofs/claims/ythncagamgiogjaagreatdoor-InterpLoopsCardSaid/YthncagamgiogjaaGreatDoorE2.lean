/- On the way to: InterpLoops returns true; its listed variables read as the text lays them. -/
import Derived.Test.YthncagamgiogjaaGreatDoorE1
import Derived.KernelRfl
namespace Go.Abs.Run
open Go Go.Abs Go.Proofs
theorem rr_d:retV (.agg [.sl 1 0 [],.int .i64 0,.str [51],.int .i64 13]) (z09 tab zkg 2000 6 [.str [102,117,110,99,32,102,40,110,32,105,110,116,41,32,105,110,116,32,123,32,105,102,32,110,32,60,32,49,32,123,32,114,101,116,117,114,110,32,48,59,32,125,32,114,101,116,117,114,110,32,102,40,110,32,45,32,49,41,32,43,32,49,59,32,125,32,109,97,105,110,32,105,110,116,32,123,32,114,101,116,117,114,110,32,102,40,51,41,59,32,125],.int .i64 99] [] 1 ⟨[],[],[]⟩)=true:=by kernel_rfl
end Go.Abs.Run
