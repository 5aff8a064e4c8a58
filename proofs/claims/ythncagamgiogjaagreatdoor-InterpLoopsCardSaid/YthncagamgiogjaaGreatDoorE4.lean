/- On the way to: InterpLoops returns true; its listed variables read as the text lays them. -/
import Derived.Test.YthncagamgiogjaaGreatDoorE1
import Derived.KernelRfl
namespace Go.Abs.Run
open Go Go.Abs Go.Proofs
theorem rr_f:retV (.agg [.sl 1 0 [],.int .i64 0,.str [55],.int .i64 4]) (z09 tab zkk 2000 6 [.str [116,121,112,101,32,73,32,61,32,105,110,116,101,114,102,97,99,101,32,123,109,40,41,32,105,110,116,59,125,59,32,116,121,112,101,32,65,32,61,32,123,120,32,105,110,116,59,125,59,32,109,101,116,104,111,100,32,65,46,109,40,41,32,105,110,116,32,123,32,114,101,116,117,114,110,32,115,101,108,102,46,120,59,32,125,32,109,97,105,110,32,105,110,116,32,123,32,108,101,116,32,105,32,73,32,61,32,65,123,120,58,32,55,125,59,32,114,101,116,117,114,110,32,105,46,109,40,41,59,32,125],.int .i64 9] [] 1 ⟨[],[],[]⟩)=true:=by kernel_rfl
end Go.Abs.Run
