/- On the way to: InterpLoops returns true; its listed variables read as the text lays them. -/
import Derived.Test.YthncagamgiogjaaGreatDoorF1
import Derived.KernelRfl
namespace Go.Abs.Run
open Go Go.Abs Go.Proofs
theorem sp2 (m a b:Nat):z2d (z1g (z1d 1461505818724615329218187072294699980175177678849 (z35 (askB (.lo 1 1 1) 1267654227009147013196586942467 tA 2 tB) 1099515822082 (.tup [.int .i64 (.ofNat 59),.tup [.ptr (.lo 1 1 1) 0],.tup (z0c [48+a,48+b])]) (.str (tA++([48+a,48+b]++tB))) noX)) tab z0l 3000 42 [astQ 2 m] [] 1 ⟨[],[],[]⟩)=some (mark 111 [nV m] []):=by kernel_rfl
theorem sq2 (m a b:Nat):z2d (z1g (z56 (askB (.lo 1 1 1) 1267654227009147013196586942467 tA 2 tB) 1099515822082 (ansX 1461505818724615329218187072294699980175177678849 (.str [48+a,48+b]) noX)) tab z0l 3000 42 [astQ 2 m] [] 1 ⟨[],[],[]⟩)=some (.tup [.int .i64 (.ofNat 59),.tup [.ptr (.lo 1 1 1) 0],.tup (z0c [48+a,48+b])]):=by kernel_rfl
theorem sr2 (m a b:Nat):zkd (z0w (ansX 1099515822082 (.str (tA++([48+a,48+b]++tB))) (ansX 1461505818724615329218187072294699980175177678849 (.str [48+a,48+b]) noX)) tab z0l 3000 42 [astQ 2 m] [] 1 ⟨[],[],[]⟩)=some (.tup [.str (tA++([48+a,48+b]++tB)),.int .i64 0]):=by kernel_rfl
theorem syn2 {m a b:Nat} (ha:a≤9) (hb:b≤9) (hd:∀ W fid e,cal tab z0l 111 [nV m] W fid e=.ret (.str [48+a,48+b]) e):z4i tab z0l 42 [astQ 2 m] (.tup [.str (tA++([48+a,48+b]++tB)),.int .i64 0]):=by
 obtain⟨e1,h1⟩:=z1a (sp2 m a b)
 obtain⟨e2,h2⟩:=z1a (sq2 m a b)
 obtain⟨e3,h3⟩:=za4 (sr2 m a b)
 refine⟨e3,zcq (x:=1) (F1:=1461505818724615329218187072294699980175177678849) (F2:=1099515822082) (by decide) (.step (.step (.step (.step (.step (.step (.step (.step .refl (show 2 < cap by decide)) (show 2 < cap by decide)) (show 1 < cap by decide)) (show 5 < cap by decide)) (show 0 < cap by decide)) (show 4 < cap by decide)) (show 1 < cap by decide)) (show 0 < cap by decide)) (.step (.step .refl (show 3 < cap by decide)) (show 1 < cap by decide)) (fun e=>hd [] _ e) (z6q lBG (by decide) (by decide) (by simp) ?_ (by simp[tA,tB]) (by decide)) h1 h2 h3 (by simp)⟩
 intro x hx
 simp[tA,tB] at hx
 omega
end Go.Abs.Run
