/- On the way to: InterpLoops returns true; its listed variables read as the text lays them. -/
import Derived.Test.YthncagamgiogjaaGreatDoorE1
import Derived.Test.YthncagamgiogjaaGreatDoorE2
import Derived.Test.YthncagamgiogjaaGreatDoorE3
import Derived.Test.YthncagamgiogjaaGreatDoorE4
import Derived.Test.YthncagamgiogjaaGreatDoorE5
import Derived.KernelRfl
namespace Go.Abs.Run
open Go Go.Abs Go.Proofs
noncomputable def gr_a:List AV→Option AV:=oneG [109,97,105,110,32,105,110,116,32,123,32,112,114,105,110,116,32,49,59,32,114,101,116,117,114,110,32,50,59,32,125] 0 (.agg [.sl 1 0 [],.int .i64 50,.str [],.int .i64 0])
theorem gr_a_ok:IOK Tryz.prog 6 (z0q gr_a):=z54 z0x (z76 _ _ _) rr_a
noncomputable def gr_b:List AV→Option AV:=oneG [109,97,105,110,32,105,110,116,32,123,32,112,114,105,110,116,32,49,59,32,114,101,116,117,114,110,32,50,59,32,125] (-1) (.agg [.sl 1 0 [],.int .i64 4,.str [],.int .i64 0])
theorem gr_b_ok:IOK Tryz.prog 6 (z0q gr_b):=z54 z0x (z76 _ _ _) rr_b
noncomputable def gr_c:List AV→Option AV:=oneG [109,97,105,110,32,105,110,116,32,123,32,112,114,105,110,116,32,49,59,32,114,101,116,117,114,110,32,50,59,32,125] 100001 (.agg [.sl 1 0 [],.int .i64 4,.str [],.int .i64 0])
theorem gr_c_ok:IOK Tryz.prog 6 (z0q gr_c):=z54 z0x (z76 _ _ _) rr_c
noncomputable def gr_d:List AV→Option AV:=oneG [102,117,110,99,32,102,40,110,32,105,110,116,41,32,105,110,116,32,123,32,105,102,32,110,32,60,32,49,32,123,32,114,101,116,117,114,110,32,48,59,32,125,32,114,101,116,117,114,110,32,102,40,110,32,45,32,49,41,32,43,32,49,59,32,125,32,109,97,105,110,32,105,110,116,32,123,32,114,101,116,117,114,110,32,102,40,51,41,59,32,125] 99 (.agg [.sl 1 0 [],.int .i64 0,.str [51],.int .i64 13])
theorem gr_d_ok:IOK Tryz.prog 6 (z0q gr_d):=z54 zkh (z76 _ _ _) rr_d
noncomputable def gr_e:List AV→Option AV:=oneG [102,117,110,99,32,102,40,110,32,105,110,116,41,32,105,110,116,32,123,32,105,102,32,110,32,60,32,49,32,123,32,114,101,116,117,114,110,32,48,59,32,125,32,114,101,116,117,114,110,32,102,40,110,32,45,32,49,41,32,43,32,49,59,32,125,32,109,97,105,110,32,105,110,116,32,123,32,114,101,116,117,114,110,32,102,40,54,48,48,41,59,32,125] 99999 (.agg [.sl 1 0 [],.int .i64 54,.str [],.int .i64 1502])
theorem gr_e_ok:IOK Tryz.prog 6 (z0q gr_e):=z54 zkj (z76 _ _ _) rr_e
noncomputable def gr_f:List AV→Option AV:=oneG [116,121,112,101,32,73,32,61,32,105,110,116,101,114,102,97,99,101,32,123,109,40,41,32,105,110,116,59,125,59,32,116,121,112,101,32,65,32,61,32,123,120,32,105,110,116,59,125,59,32,109,101,116,104,111,100,32,65,46,109,40,41,32,105,110,116,32,123,32,114,101,116,117,114,110,32,115,101,108,102,46,120,59,32,125,32,109,97,105,110,32,105,110,116,32,123,32,108,101,116,32,105,32,73,32,61,32,65,123,120,58,32,55,125,59,32,114,101,116,117,114,110,32,105,46,109,40,41,59,32,125] 9 (.agg [.sl 1 0 [],.int .i64 0,.str [55],.int .i64 4])
theorem gr_f_ok:IOK Tryz.prog 6 (z0q gr_f):=z54 zkl (z76 _ _ _) rr_f
noncomputable def gr_g:List AV→Option AV:=oneG [116,121,112,101,32,65,32,61,32,123,120,32,105,110,116,59,125,59,32,109,97,105,110,32,105,110,116,32,123,32,108,101,116,32,97,32,61,32,110,105,108,32,42,65,59,32,114,101,116,117,114,110,32,97,46,120,59,32,125] 9 (.agg [.sl 1 0 [],.int .i64 51,.str [],.int .i64 2])
theorem gr_g_ok:IOK Tryz.prog 6 (z0q gr_g):=z54 zkn (z76 _ _ _) rr_g
noncomputable def gr_h:List AV→Option AV:=oneG [109,97,105,110,32,116,101,120,116,32,123,32,108,101,116,32,97,32,61,32,34,120,34,59,32,119,104,105,108,101,32,116,114,117,101,32,123,32,97,32,61,32,97,32,43,32,97,59,32,125,32,114,101,116,117,114,110,32,97,59,32,125] 99 (.agg [.sl 1 0 [],.int .i64 53,.str [],.int .i64 27])
theorem gr_h_ok:IOK Tryz.prog 6 (z0q gr_h):=z54 zkp (z76 _ _ _) rr_h
noncomputable def gr_i:List AV→Option AV:=oneG [109,97,105,110,32,105,110,116,32,123,32,119,104,105,108,101,32,116,114,117,101,32,123,32,125,32,114,101,116,117,114,110,32,49,59,32,125] 77 (.agg [.sl 1 0 [],.int .i64 50,.str [],.int .i64 77])
theorem gr_i_ok:IOK Tryz.prog 6 (z0q gr_i):=z54 z0x (z76 _ _ _) rr_i
noncomputable def intrR:Nat→Option z07:=addI z3u 6 (z0q (orG gr_a (orG gr_b (orG gr_c (orG gr_d (orG gr_e (orG gr_f (orG gr_g (orG gr_h gr_i)))))))))
theorem zne:z0v Tryz.prog intrR∧z0d intrR:=z3o z0x (z8b gr_a_ok (z8b gr_b_ok (z8b gr_c_ok (z8b gr_d_ok (z8b gr_e_ok (z8b gr_f_ok (z8b gr_g_ok (z8b gr_h_ok gr_i_ok))))))))
end Go.Abs.Run
namespace Go.Abs.Run
open Go Go.Abs Go.Proofs
theorem znf:z6j (z09 tab intrR 2000 8 [] [] 1 ⟨[],[],[]⟩)=true:=by kernel_rfl
end Go.Abs.Run
namespace Go.Abs.Run
open Go Go.Abs Go.Proofs
noncomputable def zkq (args:List AV):Option AV:=match args with | []=>some (.bool true) | _::_=>none
theorem zng:IOK Tryz.prog 8 (z0q zkq) :=
 zjr z2e zne mixed fun args v h=>by
  unfold zkq at h
  split at h
  ·cases h
   have h:=znf
   cases hc:z09 tab intrR 2000 8 [] [] 1 ⟨[],[],[]⟩ with
   | ret v' e' =>
    rw[hc] at h
    refine⟨.bool true,[],e',rfl,fun i a a' h1=>by simp at h1,?_⟩
    have hv:v'=.bool true:=by
     unfold z6j at h
     split at h
     ·rename_i heq; cases heq; rfl
     ·cases h
    subst hv
    exact(z6y 2000 8 [] [] 1 ⟨[],[],[]⟩ (by rw[hc]; simp)).trans hc
   | _=>rw[hc] at h; cases h
  ·cases h
noncomputable def intrN0:Nat→Option z07:=addI z3u 8 (z0q zkq)
end Go.Abs.Run
