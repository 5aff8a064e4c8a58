/- On the way to: InterpDepth returns true; its listed variables read as the text lays them. -/
import Derived.Test.YthncagamgiogjaaGreatDoorF2
import Derived.KernelRfl
namespace Go.Abs.Run
open Go Go.Abs Go.Proofs
theorem bp1 (S:List Nat) (m:Nat):z42 (z1n (z1x 1099512676353 noX) tab (z43 S (tokV (tk1 m))) 3000 13 [.str S] [] 1 ⟨[],[],[]⟩)=some (mark 34 [.str S] []):=by kernel_rfl
theorem br1 (S:List Nat) (m:Nat):matR zdf (z0t (ansX 1099512676353 (tokV (tk1 m)) noX) tab (z43 S (tokV (tk1 m))) 3000 13 [.str S] [] 1 ⟨[],[],[]⟩)=some [nV m]:=by kernel_rfl
theorem ast1 (S:List Nat) (m:Nat):z40 tab (z43 S (tokV (tk1 m))) 13 [.str S] (subA (nV m) zdf):=by
 obtain⟨e1,h1⟩:=z13 (bp1 S m)
 obtain⟨e2,h2⟩:=zbx (v:=nV m) (br1 S m) (by simp)
 exact⟨e2,zel (x:=1) (F:=1099512676353) (.step (.step .refl (show 0 < cap by decide)) (show 0 < cap by decide)) (fun e=>z2m rfl (z41 _ _) [] _ e) h1 h2 (by simp)⟩
end Go.Abs.Run
namespace Go.Abs.Run
open Go Go.Abs Go.Proofs
theorem bp2 (S:List Nat) (m:Nat):z42 (z1n (z1x 1099512676353 noX) tab (z43 S (tokV (tk2 m))) 3000 13 [.str S] [] 1 ⟨[],[],[]⟩)=some (mark 34 [.str S] []):=by kernel_rfl
theorem br2 (S:List Nat) (m:Nat):matR zdf (z0t (ansX 1099512676353 (tokV (tk2 m)) noX) tab (z43 S (tokV (tk2 m))) 3000 13 [.str S] [] 1 ⟨[],[],[]⟩)=some [nV m]:=by kernel_rfl
theorem ast2 (S:List Nat) (m:Nat):z40 tab (z43 S (tokV (tk2 m))) 13 [.str S] (subA (nV m) zdf):=by
 obtain⟨e1,h1⟩:=z13 (bp2 S m)
 obtain⟨e2,h2⟩:=zbx (v:=nV m) (br2 S m) (by simp)
 exact⟨e2,zel (x:=1) (F:=1099512676353) (.step (.step .refl (show 0 < cap by decide)) (show 0 < cap by decide)) (fun e=>z2m rfl (z41 _ _) [] _ e) h1 h2 (by simp)⟩
end Go.Abs.Run
namespace Go.Abs.Run
open Go Go.Abs Go.Proofs
theorem bp3 (S:List Nat) (m:Nat):z42 (z1n (z1x 1099512676353 noX) tab (z43 S (tokV (tk3 m))) 3000 13 [.str S] [] 1 ⟨[],[],[]⟩)=some (mark 34 [.str S] []):=by kernel_rfl
theorem br3 (S:List Nat) (m:Nat):matR zdf (z0t (ansX 1099512676353 (tokV (tk3 m)) noX) tab (z43 S (tokV (tk3 m))) 3000 13 [.str S] [] 1 ⟨[],[],[]⟩)=some [nV m]:=by kernel_rfl
theorem ast3 (S:List Nat) (m:Nat):z40 tab (z43 S (tokV (tk3 m))) 13 [.str S] (subA (nV m) zdf):=by
 obtain⟨e1,h1⟩:=z13 (bp3 S m)
 obtain⟨e2,h2⟩:=zbx (v:=nV m) (br3 S m) (by simp)
 exact⟨e2,zel (x:=1) (F:=1099512676353) (.step (.step .refl (show 0 < cap by decide)) (show 0 < cap by decide)) (fun e=>z2m rfl (z41 _ _) [] _ e) h1 h2 (by simp)⟩
end Go.Abs.Run
