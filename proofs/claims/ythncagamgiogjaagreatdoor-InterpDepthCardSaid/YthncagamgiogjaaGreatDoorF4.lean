/- On the way to: InterpDepth returns true; its listed variables read as the text lays them. -/
import Derived.Test.YthncagamgiogjaaGreatDoorF1
import Derived.KernelRfl
namespace Go.Abs.Run
open Go Go.Abs Go.Proofs
theorem sp1 (m a:Nat):z42 (z1n (z1x 1393801891823950040228012640547720414625793 (z2t (askB (.lo 1 1 1) 1267655435934966627825761648643 tA 1 tB) 1099516870658 (.tup [.int .i64 (.ofNat 59),.tup [.ptr (.lo 1 1 1) 0],.tup (z0b [48+a])]) (.str (tA++([48+a]++tB))) noX)) tab z0f 3000 42 [astQ m] [] 1 ⟨[],[],[]⟩)=some (mark 111 [nV m] []):=by kernel_rfl
theorem sq1 (m a:Nat):z42 (z1n (z4n (askB (.lo 1 1 1) 1267655435934966627825761648643 tA 1 tB) 1099516870658 (ansX 1393801891823950040228012640547720414625793 (.str [48+a]) noX)) tab z0f 3000 42 [astQ m] [] 1 ⟨[],[],[]⟩)=some (.tup [.int .i64 (.ofNat 59),.tup [.ptr (.lo 1 1 1) 0],.tup (z0b [48+a])]):=by kernel_rfl
theorem sr1 (m a:Nat):zjo (z0t (ansX 1099516870658 (.str (tA++([48+a]++tB))) (ansX 1393801891823950040228012640547720414625793 (.str [48+a]) noX)) tab z0f 3000 42 [astQ m] [] 1 ⟨[],[],[]⟩)=some (.tup [.str (tA++([48+a]++tB)),.int .i64 0]):=by kernel_rfl
theorem syn1 {m a:Nat} (ha:a≤9) (hd:∀ W fid e,cal tab z0f 111 [nV m] W fid e=.ret (.str [48+a]) e):z40 tab z0f 42 [astQ m] (.tup [.str (tA++([48+a]++tB)),.int .i64 0]):=by
 obtain⟨e1,h1⟩:=z13 (sp1 m a)
 obtain⟨e2,h2⟩:=z13 (sq1 m a)
 obtain⟨e3,h3⟩:=z9d (sr1 m a)
 refine⟨e3,zbz (x:=1) (F1:=1393801891823950040228012640547720414625793) (F2:=1099516870658) (by decide) (.step (.step (.step (.step (.step (.step (.step .refl (show 3 < cap by decide)) (show 2 < cap by decide)) (show 1 < cap by decide)) (show 1 < cap by decide)) (show 1 < cap by decide)) (show 2 < cap by decide)) (show 0 < cap by decide)) (.step (.step .refl (show 4 < cap by decide)) (show 1 < cap by decide)) (fun e=>hd [] _ e) (z63 lBG (by decide) (by decide) (by simp) ?_ (by simp[tA,tB]) (by decide)) h1 h2 h3 (by simp)⟩
 intro x hx
 simp[tA,tB] at hx
 omega
end Go.Abs.Run
