/- On the way to: InterpDepth returns true; its listed variables read as the text lays them. -/
import Derived.Test.YthncagamgiogjaaGreatDoorF1
import Derived.KernelRfl
namespace Go.Abs.Run
open Go Go.Abs Go.Proofs
theorem cp (S t:List Nat) (tv:AV) (m:Nat):z42 (z1n (z1x 1099512676353 (z3b 1208926972538332805857281 (mark 42 [astQ m] []) (.tup [.str t,.int .i64 0]) noX)) tab (z3k S tv (astV m) (astQ m) (.tup [.str t,.int .i64 0])) 3000 9 [.str S] [] 1048577 (psh fRs ⟨[],[],[]⟩))=some (mark 13 [.str S] []):=by kernel_rfl
theorem cq (S t:List Nat) (tv:AV) (m:Nat):z42 (z1n (z1x 1208926972538332805857281 (ansX 1099512676353 (astV m) noX)) tab (z3k S tv (astV m) (astQ m) (.tup [.str t,.int .i64 0])) 3000 9 [.str S] [] 1048577 (psh fRs ⟨[],[],[]⟩))=some (mark 42 [astQ m] []):=by kernel_rfl
theorem cr (S t:List Nat) (tv:AV) (m:Nat):matE E1p (z0t (ansX 1208926972538332805857281 (.tup [.str t,.int .i64 0]) (ansX 1099512676353 (astV m) noX)) tab (z3k S tv (astV m) (astQ m) (.tup [.str t,.int .i64 0])) 3000 9 [.str S] [] 1048577 (psh fRs ⟨[],[],[]⟩))=some (.tup [.ptr (.gl 0) 0,.nili],[nV m,nV m]):=by kernel_rfl
end Go.Abs.Run
namespace Go.Abs.Run
open Go Go.Abs Go.Proofs
theorem d_b (S:List Nat) (tv av qa qv:AV) (m:Nat):matE E2p (z09 tab (z3k S tv av qa qv) 3000 16 [.ptr (.gl 0) 0,.int .i64 (.ofNat 100000)] [] 1099513724930 (psh (fR1 1048578 (.gl 0)) (subE (nV m) E1p)))=some (.ptr (.gl 40) 0,[nV m,nV m]):=by kernel_rfl
theorem d_o (m:Nat):outN 1099513724931 (psh (fR2 1048578 (.gl 0) (.gl 40)) (subE (nV m) X2p)) 40 36 (.lo 1048578 2 1) (.lo 1048578 0 1) ((psh (fR2 1048578 (.gl 0) (.gl 40)) (subE (nV m) X2p)).get (.gl 40))=some (.ofNat m):=by kernel_rfl
end Go.Abs.Run
