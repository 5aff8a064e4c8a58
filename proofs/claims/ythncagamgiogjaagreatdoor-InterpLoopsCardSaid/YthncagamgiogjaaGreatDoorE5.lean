/- On the way to: InterpLoops returns true; its listed variables read as the text lays them. -/
import Derived.Test.YthncagamgiogjaaGreatDoorE1
import Derived.KernelRfl
namespace Go.Abs.Run
open Go Go.Abs Go.Proofs
theorem rr_g:retV (.agg [.sl 1 0 [],.int .i64 51,.str [],.int .i64 2]) (z09 tab zkm 2000 6 [.str [116,121,112,101,32,65,32,61,32,123,120,32,105,110,116,59,125,59,32,109,97,105,110,32,105,110,116,32,123,32,108,101,116,32,97,32,61,32,110,105,108,32,42,65,59,32,114,101,116,117,114,110,32,97,46,120,59,32,125],.int .i64 9] [] 1 ⟨[],[],[]⟩)=true:=by kernel_rfl
end Go.Abs.Run
