/- On the way to: InterpRuns returns true; its listed variables read as the text lays them. -/
import Derived.Test.YthcfbbndlkbbkaaGreatDoorE1
import Derived.Test.YthcfbbndlkbbkaaGreatDoorE2
import Derived.Test.YthcfbbndlkbbkaaGreatDoorE3
import Derived.Test.YthcfbbndlkbbkaaGreatDoorE4
import Derived.Test.YthcfbbndlkbbkaaGreatDoorE5
import Derived.Test.YthcfbbndlkbbkaaGreatDoorE6
import Derived.KernelRfl
namespace Go.Abs.Run
open Go Go.Abs Go.Proofs
noncomputable def gr_a : List AV → Option AV := oneG [109,97,105,110,32,105,110,116,32,123,32,112,114,105,110,116,32,49,59,32,114,101,116,117,114,110,32,50,59,32,125] 0 (.agg [.sl 1 0 [], .int .i64 50, .str [], .int .i64 0])
theorem gr_a_ok : IOK Tryz.prog 6 (pureI gr_a) := one_iok intrO_ok (rf_out _ _ _) rr_a
noncomputable def gr_b : List AV → Option AV := oneG [109,97,105,110,32,105,110,116,32,123,32,112,114,105,110,116,32,49,59,32,114,101,116,117,114,110,32,50,59,32,125] (-1) (.agg [.sl 1 0 [], .int .i64 4, .str [], .int .i64 0])
theorem gr_b_ok : IOK Tryz.prog 6 (pureI gr_b) := one_iok intrO_ok (rf_out _ _ _) rr_b
noncomputable def gr_c : List AV → Option AV := oneG [109,97,105,110,32,105,110,116,32,123,32,112,114,105,110,116,32,49,59,32,114,101,116,117,114,110,32,50,59,32,125] 100001 (.agg [.sl 1 0 [], .int .i64 4, .str [], .int .i64 0])
theorem gr_c_ok : IOK Tryz.prog 6 (pureI gr_c) := one_iok intrO_ok (rf_out _ _ _) rr_c
noncomputable def gr_d : List AV → Option AV := oneG [102,117,110,99,32,102,40,110,32,105,110,116,41,32,105,110,116,32,123,32,105,102,32,110,32,60,32,49,32,123,32,114,101,116,117,114,110,32,48,59,32,125,32,114,101,116,117,114,110,32,102,40,110,32,45,32,49,41,32,43,32,49,59,32,125,32,109,97,105,110,32,105,110,116,32,123,32,114,101,116,117,114,110,32,102,40,51,41,59,32,125] 99 (.agg [.sl 1 0 [], .int .i64 0, .str [51], .int .i64 13])
theorem gr_d_ok : IOK Tryz.prog 6 (pureI gr_d) := one_iok intrOd_ok (rf_out _ _ _) rr_d
noncomputable def gr_e : List AV → Option AV := oneG [102,117,110,99,32,102,40,110,32,105,110,116,41,32,105,110,116,32,123,32,105,102,32,110,32,60,32,49,32,123,32,114,101,116,117,114,110,32,48,59,32,125,32,114,101,116,117,114,110,32,102,40,110,32,45,32,49,41,32,43,32,49,59,32,125,32,109,97,105,110,32,105,110,116,32,123,32,114,101,116,117,114,110,32,102,40,54,48,48,41,59,32,125] 99999 (.agg [.sl 1 0 [], .int .i64 54, .str [], .int .i64 1502])
theorem gr_e_ok : IOK Tryz.prog 6 (pureI gr_e) := one_iok intrOe_ok (rf_out _ _ _) rr_e
noncomputable def gr_f : List AV → Option AV := oneG [116,121,112,101,32,73,32,61,32,105,110,116,101,114,102,97,99,101,32,123,109,40,41,32,105,110,116,59,125,59,32,116,121,112,101,32,65,32,61,32,123,120,32,105,110,116,59,125,59,32,109,101,116,104,111,100,32,65,46,109,40,41,32,105,110,116,32,123,32,114,101,116,117,114,110,32,115,101,108,102,46,120,59,32,125,32,109,97,105,110,32,105,110,116,32,123,32,108,101,116,32,105,32,73,32,61,32,65,123,120,58,32,55,125,59,32,114,101,116,117,114,110,32,105,46,109,40,41,59,32,125] 9 (.agg [.sl 1 0 [], .int .i64 0, .str [55], .int .i64 4])
theorem gr_f_ok : IOK Tryz.prog 6 (pureI gr_f) := one_iok intrOf_ok (rf_out _ _ _) rr_f
noncomputable def gr_g : List AV → Option AV := oneG [116,121,112,101,32,65,32,61,32,123,120,32,105,110,116,59,125,59,32,109,97,105,110,32,105,110,116,32,123,32,108,101,116,32,97,32,61,32,110,105,108,32,42,65,59,32,114,101,116,117,114,110,32,97,46,120,59,32,125] 9 (.agg [.sl 1 0 [], .int .i64 51, .str [], .int .i64 2])
theorem gr_g_ok : IOK Tryz.prog 6 (pureI gr_g) := one_iok intrOg_ok (rf_out _ _ _) rr_g
noncomputable def gr_h : List AV → Option AV := oneG [109,97,105,110,32,116,101,120,116,32,123,32,108,101,116,32,97,32,61,32,34,120,34,59,32,119,104,105,108,101,32,116,114,117,101,32,123,32,97,32,61,32,97,32,43,32,97,59,32,125,32,114,101,116,117,114,110,32,97,59,32,125] 99 (.agg [.sl 1 0 [], .int .i64 53, .str [], .int .i64 27])
theorem gr_h_ok : IOK Tryz.prog 6 (pureI gr_h) := one_iok intrOh_ok (rf_out _ _ _) rr_h
noncomputable def gr_i : List AV → Option AV := oneG [109,97,105,110,32,105,110,116,32,123,32,119,104,105,108,101,32,116,114,117,101,32,123,32,125,32,114,101,116,117,114,110,32,49,59,32,125] 77 (.agg [.sl 1 0 [], .int .i64 50, .str [], .int .i64 77])
theorem gr_i_ok : IOK Tryz.prog 6 (pureI gr_i) := one_iok intrO_ok (rf_out _ _ _) rr_i
noncomputable def intrR : Nat → Option IntrT := addI intrO 6 (pureI (orG gr_a (orG gr_b (orG gr_c (orG gr_d (orG gr_e (orG gr_f (orG gr_g (orG gr_h gr_i)))))))))
theorem intrR_ok : IntrOK Tryz.prog intrR ∧ IntrPure intrR := addI_ok intrO_ok (or_iok gr_a_ok (or_iok gr_b_ok (or_iok gr_c_ok (or_iok gr_d_ok (or_iok gr_e_ok (or_iok gr_f_ok (or_iok gr_g_ok (or_iok gr_h_ok gr_i_ok))))))))
end Go.Abs.Run
namespace Go.Abs.Run
open Go Go.Abs Go.Proofs
theorem run_true : isTrueR (callN tab intrR 2000 3 [] [] 1 ⟨[], [], []⟩) = true := by kernel_rfl
end Go.Abs.Run
