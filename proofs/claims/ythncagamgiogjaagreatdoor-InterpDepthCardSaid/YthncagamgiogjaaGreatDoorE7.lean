/- On the way to: InterpDepth returns true; its listed variables read as the text lays them. -/
import Derived.Test.YthncagamgiogjaaGreatDoorE1
import Derived.Test.YthncagamgiogjaaGreatDoorE2
import Derived.Test.YthncagamgiogjaaGreatDoorE3
import Derived.Test.YthncagamgiogjaaGreatDoorE4
import Derived.Test.YthncagamgiogjaaGreatDoorE5
import Derived.KernelRfl
namespace Go.Abs.Run
open Go Go.Abs Go.Proofs
noncomputable def gr_a:List AV→Option AV:=oneG [109,97,105,110,32,105,110,116,32,123,32,112,114,105,110,116,32,49,59,32,114,101,116,117,114,110,32,50,59,32,125] 0 (.agg [.sl 1 0 [],.int .i64 50,.str [],.int .i64 0])
theorem gr_a_ok:IOK Tryz.prog 6 (z0j gr_a):=z4l z0s (z6l _ _ _) rr_a
noncomputable def gr_b:List AV→Option AV:=oneG [109,97,105,110,32,105,110,116,32,123,32,112,114,105,110,116,32,49,59,32,114,101,116,117,114,110,32,50,59,32,125] (-1) (.agg [.sl 1 0 [],.int .i64 4,.str [],.int .i64 0])
theorem gr_b_ok:IOK Tryz.prog 6 (z0j gr_b):=z4l z0s (z6l _ _ _) rr_b
noncomputable def gr_c:List AV→Option AV:=oneG [109,97,105,110,32,105,110,116,32,123,32,112,114,105,110,116,32,49,59,32,114,101,116,117,114,110,32,50,59,32,125] 100001 (.agg [.sl 1 0 [],.int .i64 4,.str [],.int .i64 0])
theorem gr_c_ok:IOK Tryz.prog 6 (z0j gr_c):=z4l z0s (z6l _ _ _) rr_c
noncomputable def gr_d:List AV→Option AV:=oneG [102,117,110,99,32,102,40,110,32,105,110,116,41,32,105,110,116,32,123,32,105,102,32,110,32,60,32,49,32,123,32,114,101,116,117,114,110,32,48,59,32,125,32,114,101,116,117,114,110,32,102,40,110,32,45,32,49,41,32,43,32,49,59,32,125,32,109,97,105,110,32,105,110,116,32,123,32,114,101,116,117,114,110,32,102,40,51,41,59,32,125] 99 (.agg [.sl 1 0 [],.int .i64 0,.str [51],.int .i64 13])
theorem gr_d_ok:IOK Tryz.prog 6 (z0j gr_d):=z4l zjs (z6l _ _ _) rr_d
noncomputable def gr_e:List AV→Option AV:=oneG [102,117,110,99,32,102,40,110,32,105,110,116,41,32,105,110,116,32,123,32,105,102,32,110,32,60,32,49,32,123,32,114,101,116,117,114,110,32,48,59,32,125,32,114,101,116,117,114,110,32,102,40,110,32,45,32,49,41,32,43,32,49,59,32,125,32,109,97,105,110,32,105,110,116,32,123,32,114,101,116,117,114,110,32,102,40,54,48,48,41,59,32,125] 99999 (.agg [.sl 1 0 [],.int .i64 54,.str [],.int .i64 1502])
theorem gr_e_ok:IOK Tryz.prog 6 (z0j gr_e):=z4l zju (z6l _ _ _) rr_e
noncomputable def gr_f:List AV→Option AV:=oneG [116,121,112,101,32,73,32,61,32,105,110,116,101,114,102,97,99,101,32,123,109,40,41,32,105,110,116,59,125,59,32,116,121,112,101,32,65,32,61,32,123,120,32,105,110,116,59,125,59,32,109,101,116,104,111,100,32,65,46,109,40,41,32,105,110,116,32,123,32,114,101,116,117,114,110,32,115,101,108,102,46,120,59,32,125,32,109,97,105,110,32,105,110,116,32,123,32,108,101,116,32,105,32,73,32,61,32,65,123,120,58,32,55,125,59,32,114,101,116,117,114,110,32,105,46,109,40,41,59,32,125] 9 (.agg [.sl 1 0 [],.int .i64 0,.str [55],.int .i64 4])
theorem gr_f_ok:IOK Tryz.prog 6 (z0j gr_f):=z4l zjw (z6l _ _ _) rr_f
noncomputable def gr_g:List AV→Option AV:=oneG [116,121,112,101,32,65,32,61,32,123,120,32,105,110,116,59,125,59,32,109,97,105,110,32,105,110,116,32,123,32,108,101,116,32,97,32,61,32,110,105,108,32,42,65,59,32,114,101,116,117,114,110,32,97,46,120,59,32,125] 9 (.agg [.sl 1 0 [],.int .i64 51,.str [],.int .i64 2])
theorem gr_g_ok:IOK Tryz.prog 6 (z0j gr_g):=z4l zjy (z6l _ _ _) rr_g
noncomputable def gr_h:List AV→Option AV:=oneG [109,97,105,110,32,116,101,120,116,32,123,32,108,101,116,32,97,32,61,32,34,120,34,59,32,119,104,105,108,101,32,116,114,117,101,32,123,32,97,32,61,32,97,32,43,32,97,59,32,125,32,114,101,116,117,114,110,32,97,59,32,125] 99 (.agg [.sl 1 0 [],.int .i64 53,.str [],.int .i64 27])
theorem gr_h_ok:IOK Tryz.prog 6 (z0j gr_h):=z4l zk0 (z6l _ _ _) rr_h
noncomputable def gr_i:List AV→Option AV:=oneG [109,97,105,110,32,105,110,116,32,123,32,119,104,105,108,101,32,116,114,117,101,32,123,32,125,32,114,101,116,117,114,110,32,49,59,32,125] 77 (.agg [.sl 1 0 [],.int .i64 50,.str [],.int .i64 77])
theorem gr_i_ok:IOK Tryz.prog 6 (z0j gr_i):=z4l z0s (z6l _ _ _) rr_i
noncomputable def intrR:Nat→Option z08:=addI z3d 6 (z0j (orG gr_a (orG gr_b (orG gr_c (orG gr_d (orG gr_e (orG gr_f (orG gr_g (orG gr_h gr_i)))))))))
theorem zme:z0r Tryz.prog intrR∧z0c intrR:=z3a z0s (z7l gr_a_ok (z7l gr_b_ok (z7l gr_c_ok (z7l gr_d_ok (z7l gr_e_ok (z7l gr_f_ok (z7l gr_g_ok (z7l gr_h_ok gr_i_ok))))))))
end Go.Abs.Run
namespace Go.Abs.Run
open Go Go.Abs Go.Proofs
theorem zmf:z5y (z09 tab intrR 2000 8 [] [] 1 ⟨[],[],[]⟩)=true:=by kernel_rfl
end Go.Abs.Run
namespace Go.Abs.Run
open Go Go.Abs Go.Proofs
noncomputable def zk1 (args:List AV):Option AV:=match args with | []=>some (.bool true) | _::_=>none
theorem zmg:IOK Tryz.prog 8 (z0j zk1) :=
 zj1 z24 zme mixed fun args v h=>by
  unfold zk1 at h
  split at h
  ·cases h
   have h:=zmf
   cases hc:z09 tab intrR 2000 8 [] [] 1 ⟨[],[],[]⟩ with
   | ret v' e' =>
    rw[hc] at h
    refine⟨.bool true,[],e',rfl,fun i a a' h1=>by simp at h1,?_⟩
    have hv:v'=.bool true:=by
     unfold z5y at h
     split at h
     ·rename_i heq; cases heq; rfl
     ·cases h
    subst hv
    exact(z6b 2000 8 [] [] 1 ⟨[],[],[]⟩ (by rw[hc]; simp)).trans hc
   | _=>rw[hc] at h; cases h
  ·cases h
noncomputable def intrN0:Nat→Option z08:=addI z3d 8 (z0j zk1)
end Go.Abs.Run
