/- On the way to: ValuePlain returns true; its listed variables read as the text lays them. -/
import Derived.Test.YtihoajjpninnoaaGreatDoorC4
import Derived.Test.YtihoajjpninnoaaGreatDoorL1
namespace Go.Abs.Run
open Go Go.Abs Go.Proofs
theorem condG {α:Type} {b:Bool} {x y:Option α} {a:α} {C:Prop} (hx:x=some a→C) (hy:y=some a→C) (h:cond b x y=some a):C:=by
 cases b
 ·exact hy h
 ·exact hx h
theorem fgInts (k:IntKind) (l:List Nat):Fg (.agg (l.map fun m=>.int k (.ofNat m))) (.agg (l.map fun m=>.int k (.ofNat m))) :=
 .agg rfl fun i c d h1 h2=>by
  rw[h1] at h2; cases h2
  simp only[List.getElem?_map,Option.map_eq_some_iff] at h1
  obtain⟨m,_,rfl⟩:=h1
  exact .int _ _
theorem gvs_fg (g:Nat) (cs:List AV):gvs g=some cs→Fg (.agg cs) (.agg cs):=by
 unfold gvs
 exact fun h=>condG (fun h=>by cases h; rw[g3_eq]; exact fgInts _ _) (fun h=>condG (fun h=>by cases h; rw[g2_eq]; exact fgInts _ _) (fun h=>by cases h) h) h
instance gplain:GPlain:=⟨gvs_fg⟩
theorem lB0:LBuilder tab intr:=by constructor<;>rfl
theorem lQ0:LQuote tab intr:={ lB0 with pQ:=rfl,iQ:=rfl }
noncomputable def zf3:Nat→Option z0b:=addI intr 272 (z0p z96)
theorem zk9:IOK Tryz.prog 272 (z0p z96):=zhl z68 z4y mixed lQ0
theorem zka:z0z Tryz.prog zf3∧z0d zf3:=z47 z4y zk9
theorem lBQ:LBuilder tab zf3:=by constructor<;>rfl
theorem lTQ:LText tab zf3:={ lBQ with p298:=rfl,i298:=rfl,p319:=rfl,i319:=rfl }
theorem lKQ:LToken tab zf3:={ lTQ with p315:=rfl,i315:=rfl,p316:=rfl,i316:=rfl,p293:=rfl,i293:=rfl,p294:=rfl,i294:=rfl,p273:=rfl,i273:=rfl,p274:=rfl,i274:=rfl }
theorem lWQ:LWritten tab zf3:={ lKQ with iQ:=rfl,p229:=rfl,i229:=rfl }
theorem zf4:IOK Tryz.prog 229 (z0p z4n):=zcr z68 zka mixed lWQ
noncomputable def zkb:Nat→Option z0b:=addI intr 229 (z0p z4n)
theorem zkc:z0z Tryz.prog zkb∧z0d zkb:=z47 z4y zf4
theorem lBW:LBuilder tab zkb:=by constructor<;>rfl
theorem lJW:LJoin tab zkb:={ lBW with iWr:=rfl,p189:=rfl,i189:=rfl,p133:=rfl,i133:=rfl }
theorem zdt:IOK Tryz.prog 133 (z0p z7y):=zhm z68 zkc mixed lJW
theorem lT0:LTold tab intr:={ lB0 with p78:=rfl,i78:=rfl,p18:=rfl,i18:=rfl }
theorem zhv:IOK Tryz.prog 18 (z0p zbr):=zk5 z68 z4y mixed lT0
noncomputable def zhw:Nat→Option z0b:=addI (addI intr 133 (z0p z7y)) 18 (z0p zbr)
theorem zaf:z0z Tryz.prog zhw∧z0d zhw:=z47 (z47 z4y zdt) zhv
end Go.Abs.Run
