/- On the way to: InterpDown returns true; its listed variables read as the text lays them. -/
import Derived.Test.YtheeljbogjbplaaGreatDoorE1
import Derived.Test.YtheeljbogjbplaaGreatDoorE2
import Derived.Test.YtheeljbogjbplaaGreatDoorE3
import Derived.Test.YtheeljbogjbplaaGreatDoorE4
import Derived.KernelRfl
import Derived.Test.YtheeljbogjbplaaGreatDoorL2
import Derived.Test.YtheeljbogjbplaaGreatDoorB4
namespace Go.Abs.Run
open Go Go.Abs Go.Proofs
noncomputable def gr_a:List AV→Option AV:=oneG [109,97,105,110,32,105,110,116,32,123,32,112,114,105,110,116,32,49,59,32,114,101,116,117,114,110,32,50,59,32,125] 0 (.agg [.sl 1 0 [],.int .i64 50,.str [],.int .i64 0])
theorem gr_a_ok:IOK Tryz.prog 5 (z0e gr_a):=z3j z0a (z53 _ _ _) rr_a
noncomputable def gr_b:List AV→Option AV:=oneG [109,97,105,110,32,105,110,116,32,123,32,112,114,105,110,116,32,49,59,32,114,101,116,117,114,110,32,50,59,32,125] (-1) (.agg [.sl 1 0 [],.int .i64 4,.str [],.int .i64 0])
theorem gr_b_ok:IOK Tryz.prog 5 (z0e gr_b):=z3j z0a (z53 _ _ _) rr_b
noncomputable def gr_c:List AV→Option AV:=oneG [109,97,105,110,32,105,110,116,32,123,32,112,114,105,110,116,32,49,59,32,114,101,116,117,114,110,32,50,59,32,125] 100001 (.agg [.sl 1 0 [],.int .i64 4,.str [],.int .i64 0])
theorem gr_c_ok:IOK Tryz.prog 5 (z0e gr_c):=z3j z0a (z53 _ _ _) rr_c
noncomputable def gr_d:List AV→Option AV:=oneG [102,117,110,99,32,102,40,110,32,105,110,116,41,32,105,110,116,32,123,32,105,102,32,110,32,60,32,49,32,123,32,114,101,116,117,114,110,32,48,59,32,125,32,114,101,116,117,114,110,32,102,40,110,32,45,32,49,41,32,43,32,49,59,32,125,32,109,97,105,110,32,105,110,116,32,123,32,114,101,116,117,114,110,32,102,40,51,41,59,32,125] 99 (.agg [.sl 1 0 [],.int .i64 0,.str [51],.int .i64 13])
theorem gr_d_ok:IOK Tryz.prog 5 (z0e gr_d):=z3j zhg (z53 _ _ _) rr_d
noncomputable def gr_e:List AV→Option AV:=oneG [102,117,110,99,32,102,40,110,32,105,110,116,41,32,105,110,116,32,123,32,105,102,32,110,32,60,32,49,32,123,32,114,101,116,117,114,110,32,48,59,32,125,32,114,101,116,117,114,110,32,102,40,110,32,45,32,49,41,32,43,32,49,59,32,125,32,109,97,105,110,32,105,110,116,32,123,32,114,101,116,117,114,110,32,102,40,54,48,48,41,59,32,125] 99999 (.agg [.sl 1 0 [],.int .i64 54,.str [],.int .i64 1502])
theorem gr_e_ok:IOK Tryz.prog 5 (z0e gr_e):=z3j zhi (z53 _ _ _) rr_e
noncomputable def gr_f:List AV→Option AV:=oneG [116,121,112,101,32,73,32,61,32,105,110,116,101,114,102,97,99,101,32,123,109,40,41,32,105,110,116,59,125,59,32,116,121,112,101,32,65,32,61,32,123,120,32,105,110,116,59,125,59,32,109,101,116,104,111,100,32,65,46,109,40,41,32,105,110,116,32,123,32,114,101,116,117,114,110,32,115,101,108,102,46,120,59,32,125,32,109,97,105,110,32,105,110,116,32,123,32,108,101,116,32,105,32,73,32,61,32,65,123,120,58,32,55,125,59,32,114,101,116,117,114,110,32,105,46,109,40,41,59,32,125] 9 (.agg [.sl 1 0 [],.int .i64 0,.str [55],.int .i64 4])
theorem gr_f_ok:IOK Tryz.prog 5 (z0e gr_f):=z3j zhk (z53 _ _ _) rr_f
noncomputable def gr_g:List AV→Option AV:=oneG [116,121,112,101,32,65,32,61,32,123,120,32,105,110,116,59,125,59,32,109,97,105,110,32,105,110,116,32,123,32,108,101,116,32,97,32,61,32,110,105,108,32,42,65,59,32,114,101,116,117,114,110,32,97,46,120,59,32,125] 9 (.agg [.sl 1 0 [],.int .i64 51,.str [],.int .i64 2])
theorem gr_g_ok:IOK Tryz.prog 5 (z0e gr_g):=z3j zhm (z53 _ _ _) rr_g
noncomputable def gr_h:List AV→Option AV:=oneG [109,97,105,110,32,116,101,120,116,32,123,32,108,101,116,32,97,32,61,32,34,120,34,59,32,119,104,105,108,101,32,116,114,117,101,32,123,32,97,32,61,32,97,32,43,32,97,59,32,125,32,114,101,116,117,114,110,32,97,59,32,125] 99 (.agg [.sl 1 0 [],.int .i64 53,.str [],.int .i64 27])
theorem gr_h_ok:IOK Tryz.prog 5 (z0e gr_h):=z3j zho (z53 _ _ _) rr_h
noncomputable def gr_i:List AV→Option AV:=oneG [109,97,105,110,32,105,110,116,32,123,32,119,104,105,108,101,32,116,114,117,101,32,123,32,125,32,114,101,116,117,114,110,32,49,59,32,125] 77 (.agg [.sl 1 0 [],.int .i64 50,.str [],.int .i64 77])
theorem gr_i_ok:IOK Tryz.prog 5 (z0e gr_i):=z3j z0a (z53 _ _ _) rr_i
noncomputable def intrR:Nat→Option z0c:=addI z0w 5 (z0e (orG gr_a (orG gr_b (orG gr_c (orG gr_d (orG gr_e (orG gr_f (orG gr_g (orG gr_h gr_i)))))))))
theorem zjp:z0f Tryz.prog intrR∧z06 intrR:=z0j z0a (z0i gr_a_ok (z0i gr_b_ok (z0i gr_c_ok (z0i gr_d_ok (z0i gr_e_ok (z0i gr_f_ok (z0i gr_g_ok (z0i gr_h_ok gr_i_ok))))))))
end Go.Abs.Run
namespace Go.Abs.Run
open Go Go.Abs Go.Proofs
theorem zjq:z4m (z04 tab intrR 2000 7 [] [] 1 ⟨[],[],[]⟩)=true:=by kernel_rfl
end Go.Abs.Run
namespace Go.Abs.Run
open Go Go.Abs Go.Proofs
noncomputable def zjr (args:List AV):Option AV:=match args with | []=>some (.bool true) | _::_=>none
theorem zjs:IOK Tryz.prog 7 (z0e zjr) :=
 iso_ok z3n zjp z5v fun args v h=>by
  unfold zjr at h
  split at h
  ·cases h
   have h:=zjq
   cases hc:z04 tab intrR 2000 7 [] [] 1 ⟨[],[],[]⟩ with
   | ret v' e' =>
    rw[hc] at h
    refine⟨.bool true,[],e',rfl,fun i a a' h1=>by simp at h1,?_⟩
    have hv:v'=.bool true:=by
     unfold z4m at h
     split at h
     ·rename_i heq; cases heq; rfl
     ·cases h
    subst hv
    exact(z7a 2000 7 [] [] 1 ⟨[],[],[]⟩ (by rw[hc]; simp)).trans hc
   | _=>rw[hc] at h; cases h
  ·cases h
noncomputable def zhp:Nat→Option z0c:=addI z0w 7 (z0e zjr)
theorem zhq:z0f Tryz.prog zhp∧z06 zhp:=z0j z0a zjs
end Go.Abs.Run
namespace Go.Abs.Run
open Go Go.Abs Go.Proofs
noncomputable def retF (v:AV):CR→Bool
 | .ret v' _=>fgB v' v
 | _=>false
noncomputable def oneA (bs:List AV) (v:AV) (args:List AV):Option AV:=cond (fgsB args bs) (some v) none
theorem z05 {I:Nat→Option z0c} (hI:z0f Tryz.prog I∧z06 I) {f:Nat} {bs:List AV} {v:AV} {k:Nat} (h:retF v (z04 tab I k f bs [] 1 ⟨[],[],[]⟩)=true):IOK Tryz.prog f (z0e (oneA bs v)) :=
 iso_okF z3n hI z5v fun args v' h'=>by
  unfold oneA at h'
  obtain⟨h1,h2⟩:=z02 h'
  cases h2
  cases hc:z04 tab I k f bs [] 1 ⟨[],[],[]⟩ with
  | ret w e' =>
   rw[hc] at h
   obtain⟨h3,h4⟩:=z25 _ _ h1
   exact⟨w,z7d _ _ h,bs,e',h3,h4,(z7a k f bs [] 1 ⟨[],[],[]⟩ (by rw[hc]; simp)).trans hc⟩
  | _=>rw[hc] at h; cases h
end Go.Abs.Run
namespace Go.Abs.Run
open Go Go.Abs Go.Proofs
theorem sm0:retF (.bool true) (z04 tab z0w 400 185 [.int .i64 2,.str [65]] [] 1 ⟨[],[],[]⟩)=true:=by kernel_rfl
theorem sm1:retF (.bool true) (z04 tab z0w 400 185 [.int .i64 2,.str [66]] [] 1 ⟨[],[],[]⟩)=true:=by kernel_rfl
theorem sm2:retF (.bool true) (z04 tab z0w 400 185 [.int .i64 1,.str [120]] [] 1 ⟨[],[],[]⟩)=true:=by kernel_rfl
theorem sm3:retF (.bool true) (z04 tab z0w 400 185 [.int .i64 1,.str [109]] [] 1 ⟨[],[],[]⟩)=true:=by kernel_rfl
theorem sm4:retF (.bool true) (z04 tab z0w 400 185 [.int .i64 1,.str [101]] [] 1 ⟨[],[],[]⟩)=true:=by kernel_rfl
theorem sm5:retF (.bool true) (z04 tab z0w 400 185 [.int .i64 5,.str [113]] [] 1 ⟨[],[],[]⟩)=true:=by kernel_rfl
theorem sm6:retF (.bool true) (z04 tab z0w 400 181 [.str [116,121,112,101]] [] 1 ⟨[],[],[]⟩)=true:=by kernel_rfl
theorem sm7:retF (.bool true) (z04 tab z0w 400 181 [.str [105,110,116]] [] 1 ⟨[],[],[]⟩)=true:=by kernel_rfl
theorem sm8:retF (.bool true) (z04 tab z0w 400 181 [.str [109,101,116,104,111,100]] [] 1 ⟨[],[],[]⟩)=true:=by kernel_rfl
theorem sm9:retF (.bool true) (z04 tab z0w 400 181 [.str [114,101,116,117,114,110]] [] 1 ⟨[],[],[]⟩)=true:=by kernel_rfl
theorem sm10:retF (.bool true) (z04 tab z0w 400 181 [.str [109,97,105,110]] [] 1 ⟨[],[],[]⟩)=true:=by kernel_rfl
theorem sm11:retF (.bool true) (z04 tab z0w 400 181 [.str [108,101,116]] [] 1 ⟨[],[],[]⟩)=true:=by kernel_rfl
theorem sm12:retF (.bool true) (z04 tab z0w 400 181 [.str [105,110,116,101,114,102,97,99,101]] [] 1 ⟨[],[],[]⟩)=true:=by kernel_rfl
theorem sm13:retF (.bool true) (z04 tab z0w 400 181 [.str [116,111]] [] 1 ⟨[],[],[]⟩)=true:=by kernel_rfl
theorem sm14:retF (.bool true) (z04 tab z0w 400 181 [.str [116,101,120,116]] [] 1 ⟨[],[],[]⟩)=true:=by kernel_rfl
theorem sm15:retF (.bool true) (z04 tab z0w 400 181 [.str [110,105,108]] [] 1 ⟨[],[],[]⟩)=true:=by kernel_rfl
theorem sm16:retF (.bool false) (z04 tab z0w 400 181 [.str [120]] [] 1 ⟨[],[],[]⟩)=true:=by kernel_rfl
theorem sm17:retF (.bool false) (z04 tab z0w 400 181 [.str [109]] [] 1 ⟨[],[],[]⟩)=true:=by kernel_rfl
theorem sm18:retF (.bool false) (z04 tab z0w 400 181 [.str [101]] [] 1 ⟨[],[],[]⟩)=true:=by kernel_rfl
theorem sm19:retF (.sl 1 1 [.str [61,61],.str [40],.str [41],.str [123],.str [125],.str [59],.str [58],.str [44],.str [46],.str [61],.str [60],.str [43],.str [45],.str [42]]) (z04 tab z0w 400 126 [] [] 1 ⟨[],[],[]⟩)=true:=by kernel_rfl
noncomputable def g185S:List AV→Option AV:=(orG (oneA [.int .i64 2,.str [65]] (.bool true)) (orG (oneA [.int .i64 2,.str [66]] (.bool true)) (orG (oneA [.int .i64 1,.str [120]] (.bool true)) (orG (oneA [.int .i64 1,.str [109]] (.bool true)) (orG (oneA [.int .i64 1,.str [101]] (.bool true)) (oneA [.int .i64 5,.str [113]] (.bool true)))))))
theorem zjt:IOK Tryz.prog 185 (z0e g185S):=(z0i (z05 z0a sm0) (z0i (z05 z0a sm1) (z0i (z05 z0a sm2) (z0i (z05 z0a sm3) (z0i (z05 z0a sm4) (z05 z0a sm5))))))
noncomputable def g181S:List AV→Option AV:=(orG (oneA [.str [116,121,112,101]] (.bool true)) (orG (oneA [.str [105,110,116]] (.bool true)) (orG (oneA [.str [109,101,116,104,111,100]] (.bool true)) (orG (oneA [.str [114,101,116,117,114,110]] (.bool true)) (orG (oneA [.str [109,97,105,110]] (.bool true)) (orG (oneA [.str [108,101,116]] (.bool true)) (orG (oneA [.str [105,110,116,101,114,102,97,99,101]] (.bool true)) (orG (oneA [.str [116,111]] (.bool true)) (orG (oneA [.str [116,101,120,116]] (.bool true)) (orG (oneA [.str [110,105,108]] (.bool true)) (orG (oneA [.str [120]] (.bool false)) (orG (oneA [.str [109]] (.bool false)) (oneA [.str [101]] (.bool false))))))))))))))
theorem zju:IOK Tryz.prog 181 (z0e g181S):=(z0i (z05 z0a sm6) (z0i (z05 z0a sm7) (z0i (z05 z0a sm8) (z0i (z05 z0a sm9) (z0i (z05 z0a sm10) (z0i (z05 z0a sm11) (z0i (z05 z0a sm12) (z0i (z05 z0a sm13) (z0i (z05 z0a sm14) (z0i (z05 z0a sm15) (z0i (z05 z0a sm16) (z0i (z05 z0a sm17) (z05 z0a sm18)))))))))))))
noncomputable def g126S:List AV→Option AV:=(oneA [] (.sl 1 1 [.str [61,61],.str [40],.str [41],.str [123],.str [125],.str [59],.str [58],.str [44],.str [46],.str [61],.str [60],.str [43],.str [45],.str [42]]))
theorem zjv:IOK Tryz.prog 126 (z0e g126S):=(z05 z0a sm19)
noncomputable def z0q:Nat→Option z0c:=(addI (addI (addI z0w 185 (z0e g185S)) 181 (z0e g181S)) 126 (z0e g126S))
theorem z08:z0f Tryz.prog z0q∧z06 z0q:=(z0j (z0j (z0j z0a zjt) zju) zjv)
end Go.Abs.Run
