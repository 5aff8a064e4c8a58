/- On the way to: InterpLoops returns true; its listed variables read as the text lays them. -/
import Derived.Test.YthncagamgiogjaaGreatDoorC4
import Derived.Test.YthncagamgiogjaaGreatDoorL1
namespace Go.Abs.Run
open Go Go.Abs Go.Proofs
theorem condG {α:Type} {b:Bool} {x y:Option α} {a:α} {C:Prop} (hx:x=some a→C) (hy:y=some a→C) (h:cond b x y=some a):C:=by
 cases b
 ·exact hy h
 ·exact hx h
theorem fgInts (k:IntKind) (l:List Nat):Fg (.agg (l.map fun m=>.int k (.ofNat m))) (.agg (l.map fun m=>.int k (.ofNat m))) :=
 .agg rfl fun i c d h1 h2=>by
  rw[h1] at h2; cases h2
  simp only[List.getElem?_map,Option.map_eq_some_iff] at h1
  obtain⟨m,_,rfl⟩:=h1
  exact .int _ _
theorem gfg_g3:Fg (.agg g3) (.agg g3):=by first | (rw[g3_eq]; exact fgInts _ _) | exact fgRf (by unfold g3; exact RfL.all (by repeat constructor))
theorem gfg_g2:Fg (.agg g2) (.agg g2):=by first | (rw[g2_eq]; exact fgInts _ _) | exact fgRf (by unfold g2; exact RfL.all (by repeat constructor))
theorem gvs_fg (g:Nat) (cs:List AV):gvs g=some cs→Fg (.agg cs) (.agg cs):=by
 unfold gvs
 exact fun h=>condG (fun h=>by cases h; exact gfg_g3) (fun h=>condG (fun h=>by cases h; exact gfg_g2) (fun h=>by cases h) h) h
instance gplain:GPlain:=⟨gvs_fg⟩
theorem lI0:LInterp tab intr:=by constructor<;>rfl
theorem lT0:LTop tab intr:={ lI0 with p18:=rfl,i18:=rfl,p17:=rfl,i17:=rfl }
noncomputable def z3u:Nat→Option z07:=addI intr 17 outI
theorem z0x:z0v Tryz.prog z3u∧z0d z3u:=addL_ok z2e mixed zf8 (zl3 zf8 lT0)
theorem fg_same {l:List AV} (h:∀ a∈l,Fg a a):∀ (i:Nat) (a a':AV),l[i]?=some a→l[i]?=some a'→Fg a a':=fun i a a' h1 h2=>by
 rw[h1] at h2; cases h2; exact h a (List.mem_of_getElem? h1)
noncomputable def retV (v:AV):CR→Bool
 | .ret v' _=>avEq v' v
 | _=>false
theorem retV_of {v:AV} {n:Nat} {I:Nat→Option z07} {f:Nat} {args:List AV} (h:retV v (z09 tab I n f args [] 1 ⟨[],[],[]⟩)=true):∃ e',cal tab I f args [] 1 ⟨[],[],[]⟩=.ret v e':=by
 cases hc:z09 tab I n f args [] 1 ⟨[],[],[]⟩ with
 | ret v' e' =>
  rw[hc] at h
  cases z1 _ _ h
  exact⟨e',(z6y n f args [] 1 ⟨[],[],[]⟩ (by rw[hc]; simp)).trans hc⟩
 | _=>rw[hc] at h; cases h
noncomputable def oneG (S:List Nat) (n:Int) (v:AV):List AV→Option AV
 | [.str s,.int .i64 m]=>cond (z25 s S && iEq m n) (some v) none
 | _=>none
theorem z54 {I:Nat→Option z07} (hI:z0v Tryz.prog I∧z0d I) {S:List Nat} {n:Int} {v:AV} (hv:Rf v) {k:Nat} (h:retV v (z09 tab I k 6 [.str S,.int .i64 n] [] 1 ⟨[],[],[]⟩)=true):IOK Tryz.prog 6 (z0q (oneG S n v)) :=
 zjr z2e hI mixed fun args v' h'=>by
  unfold oneG at h'
  split at h'
  ·next s m =>
   obtain⟨h1,h2⟩:=z00 h'
   cases h2
   simp only[Bool.and_eq_true] at h1
   obtain⟨e',he⟩:=retV_of h
   have hs:=z1z h1.1
   have hm:=z9r h1.2
   subst hs hm
   exact⟨hv,[.str s,.int .i64 m],e',rfl,fg_same (by simp; exact⟨.str s,.int _ _⟩),he⟩
  ·cases h'
noncomputable def orG (g h:List AV→Option AV) (l:List AV):Option AV :=
 match g l with
 | some v=>some v
 | none=>h l
theorem z8b {P:Program} {f:Nat} {g h:List AV→Option AV} (hg:IOK P f (z0q g)) (hh:IOK P f (z0q h)):IOK P f (z0q (orG g h)):=by
 have key:∀ args W fid e r,z0q (orG g h) args W fid e=some r→z0q g args W fid e=some r∨z0q h args W fid e=some r:=by
  intro args W fid e r hr
  unfold z0q orG at hr
  cases h1:g args with
  | some v=>rw[h1] at hr; exact .inl (by unfold z0q; rw[h1]; exact hr)
  | none=>rw[h1] at hr; exact .inr hr
 constructor
 ·intro κ e B fid w₀ w args vals W v e' hr
  rcases key _ _ _ _ _ hr with h1 | h1
  ·exact hg.1 κ e B fid w₀ w args vals W v e' h1
  ·exact hh.1 κ e B fid w₀ w args vals W v e' h1
 ·intro args W fid e v e' hr
  rcases key _ _ _ _ _ hr with h1 | h1
  ·exact hg.2 args W fid e v e' h1
  ·exact hh.2 args W fid e v e' h1
theorem z76 (w n:Int) (s:List Nat):Rf (.agg [.sl 1 0 [],.int .i64 w,.str s,.int .i64 n]):=.agg (by simp; exact⟨.slnil 1,.int _ _,.str s,.int _ _⟩)
end Go.Abs.Run
