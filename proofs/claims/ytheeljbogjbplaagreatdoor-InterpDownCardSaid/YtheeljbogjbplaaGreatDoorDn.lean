/- On the way to: InterpDown returns true; its listed variables read as the text lays them. -/
import Derived.Test.YtheeljbogjbplaaGreatDoorPb0
import Derived.Test.YtheeljbogjbplaaGreatDoorPb1
import Derived.Test.YtheeljbogjbplaaGreatDoorPb2
import Derived.Test.YtheeljbogjbplaaGreatDoorPb3
import Derived.Test.YtheeljbogjbplaaGreatDoorE7
import Derived.Test.YtheeljbogjbplaaGreatDoorL1
import Derived.KernelRfl
namespace Go.Abs.Run
open Go Go.Abs Go.Proofs
noncomputable def gd44:List AV→Option AV:=oneA [.str sr44,.int .i64 99] (.agg [.sl 1 0 [],.int .i64 0,.str [55],.int .i64 3])
theorem gd44_ok:IOK Tryz.prog 5 (z0e gd44):=z05 zff ru44
noncomputable def gd43:List AV→Option AV:=oneA [.str sr43,.int .i64 99] (.agg [.sl 1 0 [],.int .i64 52,.str [],.int .i64 2])
theorem gd43_ok:IOK Tryz.prog 5 (z0e gd43):=z05 zfe ru43
noncomputable def gd42:List AV→Option AV:=oneA [.str sr42,.int .i64 99] (.agg [.sl 1 0 [],.int .i64 52,.str [],.int .i64 2])
theorem gd42_ok:IOK Tryz.prog 5 (z0e gd42):=z05 zfd ru42
noncomputable def gd41:List AV→Option AV:=oneA [.str sr41,.int .i64 99] (.agg [.sl 1 0 [],.int .i64 52,.str [],.int .i64 2])
theorem gd41_ok:IOK Tryz.prog 5 (z0e gd41):=z05 zfc ru41
noncomputable def gd40:List AV→Option AV:=oneA [.str sr40,.int .i64 99] (.agg [.sl 1 0 [],.int .i64 52,.str [],.int .i64 2])
theorem gd40_ok:IOK Tryz.prog 5 (z0e gd40):=z05 zfb ru40
noncomputable def gd34:List AV→Option AV:=oneA [.str sr34,.int .i64 99] (.agg [.sl 1 0 [],.int .i64 52,.str [],.int .i64 2])
theorem gd34_ok:IOK Tryz.prog 5 (z0e gd34):=z05 zfa ru34
noncomputable def gd33:List AV→Option AV:=oneA [.str sr33,.int .i64 99] (.agg [.sl 1 0 [],.int .i64 0,.str [55],.int .i64 3])
theorem gd33_ok:IOK Tryz.prog 5 (z0e gd33):=z05 zf9 ru33
noncomputable def gd32:List AV→Option AV:=oneA [.str sr32,.int .i64 99] (.agg [.sl 1 0 [],.int .i64 52,.str [],.int .i64 2])
theorem gd32_ok:IOK Tryz.prog 5 (z0e gd32):=z05 zf8 ru32
noncomputable def gd31:List AV→Option AV:=oneA [.str sr31,.int .i64 99] (.agg [.sl 1 0 [],.int .i64 52,.str [],.int .i64 2])
theorem gd31_ok:IOK Tryz.prog 5 (z0e gd31):=z05 zf7 ru31
noncomputable def gd30:List AV→Option AV:=oneA [.str sr30,.int .i64 99] (.agg [.sl 1 0 [],.int .i64 52,.str [],.int .i64 2])
theorem gd30_ok:IOK Tryz.prog 5 (z0e gd30):=z05 zf6 ru30
noncomputable def gd24:List AV→Option AV:=oneA [.str sr24,.int .i64 99] (.agg [.sl 1 0 [],.int .i64 52,.str [],.int .i64 2])
theorem gd24_ok:IOK Tryz.prog 5 (z0e gd24):=z05 zf5 ru24
noncomputable def gd23:List AV→Option AV:=oneA [.str sr23,.int .i64 99] (.agg [.sl 1 0 [],.int .i64 52,.str [],.int .i64 2])
theorem gd23_ok:IOK Tryz.prog 5 (z0e gd23):=z05 zf4 ru23
noncomputable def gd22:List AV→Option AV:=oneA [.str sr22,.int .i64 99] (.agg [.sl 1 0 [],.int .i64 0,.str [55],.int .i64 3])
theorem gd22_ok:IOK Tryz.prog 5 (z0e gd22):=z05 zf3 ru22
noncomputable def gd21:List AV→Option AV:=oneA [.str sr21,.int .i64 99] (.agg [.sl 1 0 [],.int .i64 52,.str [],.int .i64 2])
theorem gd21_ok:IOK Tryz.prog 5 (z0e gd21):=z05 zf2 ru21
noncomputable def gd20:List AV→Option AV:=oneA [.str sr20,.int .i64 99] (.agg [.sl 1 0 [],.int .i64 52,.str [],.int .i64 2])
theorem gd20_ok:IOK Tryz.prog 5 (z0e gd20):=z05 zf1 ru20
noncomputable def gd14:List AV→Option AV:=oneA [.str sr14,.int .i64 99] (.agg [.sl 1 0 [],.int .i64 52,.str [],.int .i64 2])
theorem gd14_ok:IOK Tryz.prog 5 (z0e gd14):=z05 zf0 ru14
noncomputable def gd13:List AV→Option AV:=oneA [.str sr13,.int .i64 99] (.agg [.sl 1 0 [],.int .i64 52,.str [],.int .i64 2])
theorem zo:IOK Tryz.prog 5 (z0e gd13):=z05 zez ru13
noncomputable def gd12:List AV→Option AV:=oneA [.str sr12,.int .i64 99] (.agg [.sl 1 0 [],.int .i64 52,.str [],.int .i64 2])
theorem gd12_ok:IOK Tryz.prog 5 (z0e gd12):=z05 zey ru12
noncomputable def gd11:List AV→Option AV:=oneA [.str sr11,.int .i64 99] (.agg [.sl 1 0 [],.int .i64 0,.str [55],.int .i64 3])
theorem gd11_ok:IOK Tryz.prog 5 (z0e gd11):=z05 zex ru11
noncomputable def gd10:List AV→Option AV:=oneA [.str sr10,.int .i64 99] (.agg [.sl 1 0 [],.int .i64 52,.str [],.int .i64 2])
theorem gd10_ok:IOK Tryz.prog 5 (z0e gd10):=z05 zew ru10
noncomputable def gd04:List AV→Option AV:=oneA [.str sr04,.int .i64 99] (.agg [.sl 1 0 [],.int .i64 52,.str [],.int .i64 2])
theorem gd04_ok:IOK Tryz.prog 5 (z0e gd04):=z05 zev ru04
noncomputable def gd03:List AV→Option AV:=oneA [.str sr03,.int .i64 99] (.agg [.sl 1 0 [],.int .i64 52,.str [],.int .i64 2])
theorem gd03_ok:IOK Tryz.prog 5 (z0e gd03):=z05 zeu ru03
noncomputable def gd02:List AV→Option AV:=oneA [.str sr02,.int .i64 99] (.agg [.sl 1 0 [],.int .i64 52,.str [],.int .i64 2])
theorem gd02_ok:IOK Tryz.prog 5 (z0e gd02):=z05 zet ru02
noncomputable def gd01:List AV→Option AV:=oneA [.str sr01,.int .i64 99] (.agg [.sl 1 0 [],.int .i64 52,.str [],.int .i64 2])
theorem gd01_ok:IOK Tryz.prog 5 (z0e gd01):=z05 zes ru01
noncomputable def gd00:List AV→Option AV:=oneA [.str sr00,.int .i64 99] (.agg [.sl 1 0 [],.int .i64 0,.str [55],.int .i64 3])
theorem gd00_ok:IOK Tryz.prog 5 (z0e gd00):=z05 zer ru00
noncomputable def z1t:List AV→Option AV:=(orG gd00 (orG gd01 (orG gd02 (orG gd03 (orG gd04 (orG gd10 (orG gd11 (orG gd12 (orG gd13 (orG gd14 (orG gd20 (orG gd21 (orG gd22 (orG gd23 (orG gd24 (orG gd30 (orG gd31 (orG gd32 (orG gd33 (orG gd34 (orG gd40 (orG gd41 (orG gd42 (orG gd43 gd44))))))))))))))))))))))))
theorem zjm:IOK Tryz.prog 5 (z0e z1t):=(z0i gd00_ok (z0i gd01_ok (z0i gd02_ok (z0i gd03_ok (z0i gd04_ok (z0i gd10_ok (z0i gd11_ok (z0i gd12_ok (z0i zo (z0i gd14_ok (z0i gd20_ok (z0i gd21_ok (z0i gd22_ok (z0i gd23_ok (z0i gd24_ok (z0i gd30_ok (z0i gd31_ok (z0i gd32_ok (z0i gd33_ok (z0i gd34_ok (z0i gd40_ok (z0i gd41_ok (z0i gd42_ok (z0i gd43_ok gd44_ok))))))))))))))))))))))))
theorem oc0:retF (.bool true) (z04 tab z0w 400 6 [(.agg [.sl 1 0 [],.int .i64 0,.str [55],.int .i64 3]),(.agg [.sl 1 0 [],.int .i64 0,.str [55],.int .i64 3])] [] 1 ⟨[],[],[]⟩)=true:=by kernel_rfl
theorem oc1:retF (.bool true) (z04 tab z0w 400 6 [(.agg [.sl 1 0 [],.int .i64 52,.str [],.int .i64 2]),(.agg [.sl 1 0 [],.int .i64 52,.str [],.int .i64 2])] [] 1 ⟨[],[],[]⟩)=true:=by kernel_rfl
noncomputable def gOut:List AV→Option AV:=orG (oneA [(.agg [.sl 1 0 [],.int .i64 0,.str [55],.int .i64 3]),(.agg [.sl 1 0 [],.int .i64 0,.str [55],.int .i64 3])] (.bool true)) (oneA [(.agg [.sl 1 0 [],.int .i64 52,.str [],.int .i64 2]),(.agg [.sl 1 0 [],.int .i64 52,.str [],.int .i64 2])] (.bool true))
theorem gOut_ok:IOK Tryz.prog 6 (z0e gOut):=z0i (z05 z0a oc0) (z05 z0a oc1)
noncomputable def zjn:Nat→Option z0c:=addI (addI zhp 5 (z0e z1t)) 6 (z0e gOut)
theorem zjo:z0f Tryz.prog zjn∧z06 zjn:=z0j (z0j zhq zjm) gOut_ok
theorem gk00:z1t [.str (z1v 0 0),.int .i64 99]=some (z1h (decide (0=0))):=by kernel_rfl
theorem gk01:z1t [.str (z1v 0 1),.int .i64 99]=some (z1h (decide (0=1))):=by kernel_rfl
theorem gk02:z1t [.str (z1v 0 2),.int .i64 99]=some (z1h (decide (0=2))):=by kernel_rfl
theorem gk03:z1t [.str (z1v 0 3),.int .i64 99]=some (z1h (decide (0=3))):=by kernel_rfl
theorem gk04:z1t [.str (z1v 0 4),.int .i64 99]=some (z1h (decide (0=4))):=by kernel_rfl
theorem gk10:z1t [.str (z1v 1 0),.int .i64 99]=some (z1h (decide (1=0))):=by kernel_rfl
theorem gk11:z1t [.str (z1v 1 1),.int .i64 99]=some (z1h (decide (1=1))):=by kernel_rfl
theorem gk12:z1t [.str (z1v 1 2),.int .i64 99]=some (z1h (decide (1=2))):=by kernel_rfl
theorem gk13:z1t [.str (z1v 1 3),.int .i64 99]=some (z1h (decide (1=3))):=by kernel_rfl
theorem gk14:z1t [.str (z1v 1 4),.int .i64 99]=some (z1h (decide (1=4))):=by kernel_rfl
theorem gk20:z1t [.str (z1v 2 0),.int .i64 99]=some (z1h (decide (2=0))):=by kernel_rfl
theorem gk21:z1t [.str (z1v 2 1),.int .i64 99]=some (z1h (decide (2=1))):=by kernel_rfl
theorem gk22:z1t [.str (z1v 2 2),.int .i64 99]=some (z1h (decide (2=2))):=by kernel_rfl
theorem gk23:z1t [.str (z1v 2 3),.int .i64 99]=some (z1h (decide (2=3))):=by kernel_rfl
theorem gk24:z1t [.str (z1v 2 4),.int .i64 99]=some (z1h (decide (2=4))):=by kernel_rfl
theorem gk30:z1t [.str (z1v 3 0),.int .i64 99]=some (z1h (decide (3=0))):=by kernel_rfl
theorem gk31:z1t [.str (z1v 3 1),.int .i64 99]=some (z1h (decide (3=1))):=by kernel_rfl
theorem gk32:z1t [.str (z1v 3 2),.int .i64 99]=some (z1h (decide (3=2))):=by kernel_rfl
theorem gk33:z1t [.str (z1v 3 3),.int .i64 99]=some (z1h (decide (3=3))):=by kernel_rfl
theorem gk34:z1t [.str (z1v 3 4),.int .i64 99]=some (z1h (decide (3=4))):=by kernel_rfl
theorem gk40:z1t [.str (z1v 4 0),.int .i64 99]=some (z1h (decide (4=0))):=by kernel_rfl
theorem gk41:z1t [.str (z1v 4 1),.int .i64 99]=some (z1h (decide (4=1))):=by kernel_rfl
theorem gk42:z1t [.str (z1v 4 2),.int .i64 99]=some (z1h (decide (4=2))):=by kernel_rfl
theorem gk43:z1t [.str (z1v 4 3),.int .i64 99]=some (z1h (decide (4=3))):=by kernel_rfl
theorem gk44:z1t [.str (z1v 4 4),.int .i64 99]=some (z1h (decide (4=4))):=by kernel_rfl
theorem go_t:gOut [z1h true,z1h true]=some (.bool true):=by kernel_rfl
theorem go_f:gOut [z1h false,z1h false]=some (.bool true):=by kernel_rfl
theorem gAll (k l:Nat) (hk:k < 5) (hl:l < 5):z1t [.str (z1v k l),.int .i64 99]=some (z1h (decide (k=l))):=by
 obtain rfl | rfl | rfl | rfl | rfl:k=0∨k=1∨k=2∨k=3∨k=4:=by omega
 ·obtain rfl | rfl | rfl | rfl | rfl:l=0∨l=1∨l=2∨l=3∨l=4:=by omega
  ·exact gk00
  ·exact gk01
  ·exact gk02
  ·exact gk03
  ·exact gk04
 ·obtain rfl | rfl | rfl | rfl | rfl:l=0∨l=1∨l=2∨l=3∨l=4:=by omega
  ·exact gk10
  ·exact gk11
  ·exact gk12
  ·exact gk13
  ·exact gk14
 ·obtain rfl | rfl | rfl | rfl | rfl:l=0∨l=1∨l=2∨l=3∨l=4:=by omega
  ·exact gk20
  ·exact gk21
  ·exact gk22
  ·exact gk23
  ·exact gk24
 ·obtain rfl | rfl | rfl | rfl | rfl:l=0∨l=1∨l=2∨l=3∨l=4:=by omega
  ·exact gk30
  ·exact gk31
  ·exact gk32
  ·exact gk33
  ·exact gk34
 ·obtain rfl | rfl | rfl | rfl | rfl:l=0∨l=1∨l=2∨l=3∨l=4:=by omega
  ·exact gk40
  ·exact gk41
  ·exact gk42
  ·exact gk43
  ·exact gk44
theorem lDown:LDown tab zjn where
 p4:=rfl
 i4:=rfl
 p3:=rfl
 i3:=rfl
 rn:=fun k l hk hl W fid e=>z99 (g:=z0e z1t) rfl (by unfold z0e; rw[gAll k l hk hl])
 oc:=fun b W fid e=>z99 (g:=z0e gOut) rfl (by unfold z0e; cases b<;>first | rw[go_t] | rw[go_f])
 ru:=fun W fid e=>z99 (g:=z0e zjr) rfl rfl
end Go.Abs.Run
