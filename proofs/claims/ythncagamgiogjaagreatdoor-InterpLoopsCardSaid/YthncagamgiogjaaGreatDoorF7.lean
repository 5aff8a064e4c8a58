/- On the way to: InterpLoops returns true; its listed variables read as the text lays them. -/
import Derived.Test.YthncagamgiogjaaGreatDoorF1
import Derived.KernelRfl
namespace Go.Abs.Run
open Go Go.Abs Go.Proofs
theorem cp1 (S t:List Nat) (tv:AV) (m:Nat):z2d (z1g (z1d 1099512676353 (z2l 1208926972538332805857281 (mark 42 [astQ 1 m] []) (.tup [.str t,.int .i64 0]) noX)) tab (z1e S tv (astV 1 m) (astQ 1 m) (.tup [.str t,.int .i64 0])) 3000 9 [.str S] [] 1048577 (psh fRs ⟨[],[],[]⟩))=some (mark 13 [.str S] []):=by kernel_rfl
theorem cq1 (S t:List Nat) (tv:AV) (m:Nat):z2d (z1g (z1d 1208926972538332805857281 (ansX 1099512676353 (astV 1 m) noX)) tab (z1e S tv (astV 1 m) (astQ 1 m) (.tup [.str t,.int .i64 0])) 3000 9 [.str S] [] 1048577 (psh fRs ⟨[],[],[]⟩))=some (mark 42 [astQ 1 m] []):=by kernel_rfl
theorem cr1 (S t:List Nat) (tv:AV) (m:Nat):matE (E1p 1) (z0w (ansX 1208926972538332805857281 (.tup [.str t,.int .i64 0]) (ansX 1099512676353 (astV 1 m) noX)) tab (z1e S tv (astV 1 m) (astQ 1 m) (.tup [.str t,.int .i64 0])) 3000 9 [.str S] [] 1048577 (psh fRs ⟨[],[],[]⟩))=some (.tup [.ptr (.gl 0) 0,.nili],[nV m,nV m]):=by kernel_rfl
end Go.Abs.Run
namespace Go.Abs.Run
open Go Go.Abs Go.Proofs
theorem cp2 (S t:List Nat) (tv:AV) (m:Nat):z2d (z1g (z1d 1099512676353 (z2l 1208926972538332805857281 (mark 42 [astQ 2 m] []) (.tup [.str t,.int .i64 0]) noX)) tab (z1e S tv (astV 2 m) (astQ 2 m) (.tup [.str t,.int .i64 0])) 3000 9 [.str S] [] 1048577 (psh fRs ⟨[],[],[]⟩))=some (mark 13 [.str S] []):=by kernel_rfl
theorem cq2 (S t:List Nat) (tv:AV) (m:Nat):z2d (z1g (z1d 1208926972538332805857281 (ansX 1099512676353 (astV 2 m) noX)) tab (z1e S tv (astV 2 m) (astQ 2 m) (.tup [.str t,.int .i64 0])) 3000 9 [.str S] [] 1048577 (psh fRs ⟨[],[],[]⟩))=some (mark 42 [astQ 2 m] []):=by kernel_rfl
theorem cr2 (S t:List Nat) (tv:AV) (m:Nat):matE (E1p 2) (z0w (ansX 1208926972538332805857281 (.tup [.str t,.int .i64 0]) (ansX 1099512676353 (astV 2 m) noX)) tab (z1e S tv (astV 2 m) (astQ 2 m) (.tup [.str t,.int .i64 0])) 3000 9 [.str S] [] 1048577 (psh fRs ⟨[],[],[]⟩))=some (.tup [.ptr (.gl 0) 0,.nili],[nV m,nV m]):=by kernel_rfl
end Go.Abs.Run
namespace Go.Abs.Run
open Go Go.Abs Go.Proofs
theorem cp3 (S t:List Nat) (tv:AV) (m:Nat):z2d (z1g (z1d 1099512676353 (z2l 1208926972538332805857281 (mark 42 [astQ 3 m] []) (.tup [.str t,.int .i64 0]) noX)) tab (z1e S tv (astV 3 m) (astQ 3 m) (.tup [.str t,.int .i64 0])) 3000 9 [.str S] [] 1048577 (psh fRs ⟨[],[],[]⟩))=some (mark 13 [.str S] []):=by kernel_rfl
theorem cq3 (S t:List Nat) (tv:AV) (m:Nat):z2d (z1g (z1d 1208926972538332805857281 (ansX 1099512676353 (astV 3 m) noX)) tab (z1e S tv (astV 3 m) (astQ 3 m) (.tup [.str t,.int .i64 0])) 3000 9 [.str S] [] 1048577 (psh fRs ⟨[],[],[]⟩))=some (mark 42 [astQ 3 m] []):=by kernel_rfl
theorem cr3 (S t:List Nat) (tv:AV) (m:Nat):matE (E1p 3) (z0w (ansX 1208926972538332805857281 (.tup [.str t,.int .i64 0]) (ansX 1099512676353 (astV 3 m) noX)) tab (z1e S tv (astV 3 m) (astQ 3 m) (.tup [.str t,.int .i64 0])) 3000 9 [.str S] [] 1048577 (psh fRs ⟨[],[],[]⟩))=some (.tup [.ptr (.gl 0) 0,.nili],[nV m,nV m]):=by kernel_rfl
end Go.Abs.Run
namespace Go.Abs.Run
open Go Go.Abs Go.Proofs
theorem d_b1 (S:List Nat) (tv av qa qv:AV) (m:Nat):matE (E2p 1) (z09 tab (z1e S tv av qa qv) 3000 16 [.ptr (.gl 0) 0,.int .i64 (.ofNat 100000)] [] 1099513724930 (psh (fR1 1048578 (.gl 0)) (subE (nV m) (E1p 1))))=some (.ptr (.gl 35) 0,[nV m,nV m]):=by kernel_rfl
theorem d_o1 (m:Nat):outW 1099513724931 (psh (fR2 1048578 (.gl 0) (.gl 35)) (subE (nV m) (X2p 1))) 35 31 (.lo 1048578 2 1) (.lo 1048578 0 1) ((psh (fR2 1048578 (.gl 0) (.gl 35)) (subE (nV m) (X2p 1))).get (.gl 35))=some (.ofNat m):=by kernel_rfl
theorem ast_fg1 (m:Nat):Fg (subA (nV m) (za7 1)) (astV 1 m):=zbg (z33 _ _ (by kernel_rfl))
theorem zni (m:Nat):∀ a∈[astQ 1 m],Fg a a:=by
 intro a ha
 simp only[List.mem_singleton] at ha
 subst ha
 exact zbg (z33 _ _ (by kernel_rfl))
theorem d_b2 (S:List Nat) (tv av qa qv:AV) (m:Nat):matE (E2p 2) (z09 tab (z1e S tv av qa qv) 3000 16 [.ptr (.gl 0) 0,.int .i64 (.ofNat 100000)] [] 1099513724930 (psh (fR1 1048578 (.gl 0)) (subE (nV m) (E1p 2))))=some (.ptr (.gl 35) 0,[nV m,nV m]):=by kernel_rfl
theorem d_o2 (m:Nat):outW 1099513724931 (psh (fR2 1048578 (.gl 0) (.gl 35)) (subE (nV m) (X2p 2))) 35 31 (.lo 1048578 2 1) (.lo 1048578 0 1) ((psh (fR2 1048578 (.gl 0) (.gl 35)) (subE (nV m) (X2p 2))).get (.gl 35))=some (.ofNat m):=by kernel_rfl
theorem ast_fg2 (m:Nat):Fg (subA (nV m) (za7 2)) (astV 2 m):=zbg (z33 _ _ (by kernel_rfl))
theorem znj (m:Nat):∀ a∈[astQ 2 m],Fg a a:=by
 intro a ha
 simp only[List.mem_singleton] at ha
 subst ha
 exact zbg (z33 _ _ (by kernel_rfl))
theorem d_b3 (S:List Nat) (tv av qa qv:AV) (m:Nat):matE (E2p 3) (z09 tab (z1e S tv av qa qv) 3000 16 [.ptr (.gl 0) 0,.int .i64 (.ofNat 100000)] [] 1099513724930 (psh (fR1 1048578 (.gl 0)) (subE (nV m) (E1p 3))))=some (.ptr (.gl 35) 0,[nV m,nV m]):=by kernel_rfl
theorem d_o3 (m:Nat):outW 1099513724931 (psh (fR2 1048578 (.gl 0) (.gl 35)) (subE (nV m) (X2p 3))) 35 31 (.lo 1048578 2 1) (.lo 1048578 0 1) ((psh (fR2 1048578 (.gl 0) (.gl 35)) (subE (nV m) (X2p 3))).get (.gl 35))=some (.ofNat m):=by kernel_rfl
theorem ast_fg3 (m:Nat):Fg (subA (nV m) (za7 3)) (astV 3 m):=zbg (z33 _ _ (by kernel_rfl))
theorem znk (m:Nat):∀ a∈[astQ 3 m],Fg a a:=by
 intro a ha
 simp only[List.mem_singleton] at ha
 subst ha
 exact zbg (z33 _ _ (by kernel_rfl))
end Go.Abs.Run
