/- On the way to: ValuePlain returns true; its listed variables read as the text lays them. -/
import Derived.Test.YtihoajjpninnoaaGreatDoorS2
import Derived.Test.YtihoajjpninnoaaGreatDoorS1
import Derived.Test.YtihoajjpninnoaaGreatDoorB5
import Derived.Test.YtihoajjpninnoaaGreatDoorW0
import Derived.Test.YtihoajjpninnoaaGreatDoorW1
set_option autoImplicit false
set_option linter.unusedSectionVars false
set_option linter.unusedSimpArgs false
set_option linter.unusedVariables false
namespace Go.Abs.Run
open Go Go.Abs Go.Proofs
theorem zhx:zcg s0 (run (z0a tab zcs 2000) 2000 1 [] postC ⟨sgE,11⟩ (EV (.vec 1 (List.replicate 4097 (vu 97)))))=true:=by kernel_rfl
end Go.Abs.Run
namespace Go.Abs.Run
open Go Go.Abs Go.Proofs
attribute [local simp] oM oN oF oE oQ oP oG oL oR oC oX oS oY vi vj vu vz ci cu eI eS eB
attribute [local simp] s0 t0 s28 t28 s29 t29 s176 t176 s177 t177 s178 t178 s179 t179 s180 t180 s181 t181 s182 t182 s183 t183 s184 t184
theorem zke (n:Nat) (h:n < 4097):(List.replicate n (vu 97)++List.replicate (4097 - n) (vu 0)).set n (vu 97)=List.replicate (n+1) (vu 97)++List.replicate (4097 - (n+1)) (vu 0):=by
 rw[List.set_append_right _ _ (by simp)]
 simp only[List.length_replicate,Nat.sub_self]
 have:4097 - n=(4097 - (n+1))+1:=by omega
 rw[this,List.replicate_succ,List.set_cons_zero,List.replicate_succ']
 simp
theorem zkf (n:Nat) (h:n < 4097):(List.replicate n (vu 97)++List.replicate (4097 - n) (vu 0))[n]?=some (vu 0):=by
 rw[List.getElem?_append_right (by simp)]
 simp only[List.length_replicate,Nat.sub_self,List.getElem?_replicate]
 rw[if_pos (by omega)]
theorem zkg (n:Nat) (h:n≤4097):(List.replicate n (vu 97)++List.replicate (4097 - n) (vu 0)).length=4097:=by
 simp only[List.length_append,List.length_replicate]; omega
theorem EV_psh (v:Ob):EV v=psh ⟨1,oA v,[1208931584223251724763138,1099515822084]⟩ ⟨[],glA,[1208938501752279363747866,1208938501752279363747864,1267663898413398085021744496666,1267663898413398085021744496664,1208937348830774756900890,1208937348830774756900888,1267662689487578470392569790490,1267662689487578470392569790488,1208936195909270150053914,1208936195909270150053912,1267661480561758855763395084314,1267661480561758855763395084312,1208935042987765543206938,1208935042987765543206936,1267660271635939241134220378138,1267660271635939241134220378136,1152929201190338586,1152929201190338584,1208933890066260935311386,1208933890066260935311384,1152928101678710810,1152928101678710808,1208932737144756328464410,1208932737144756328464408,1208931584223251723714582,1152923703637442604,1152923703637442602,1152923703637442600,1208928125465334979231746,1152923703633248264,1208928125465334970843138,1152923703636394004,1208926972537233294229556]⟩:=rfl
theorem oA_get (v:Ob):(oA v)[8]?=some (1,v,.none):=rfl
theorem oA_set (v w:Ob):(oA v).set 8 (1,w,.none)=oA w:=rfl
variable {call:z05} {s:Tm} {c j:Nat}
theorem round (h1:s.get (.r (.l (.r (.r .e))))=(.hs (.lo 1 8 1) 1 4097 0 4097 false)) (h2:s.get (.l (.r (.r (.r .e))))=.int .i64 j) (hj:j < 4097) :
  runW call 1 [] b8x0 ⟨s,c⟩ (EV (vecA j))=.go ⟨((((((((((((((((((((s).set s176 (.int .i64 (j:Nat)))).set s177 (.hs (.lo 1 8 1) 1 4097 0 4097 false))).set s178 (.int .i64 (4097:Nat)))).set s179 (.bool true))).set s182 (.hs (.lo 1 8 1) 1 4097 0 4097 false))).set s183 (.int .i64 (j:Nat)))).set s184 (.ep (.lo 1 8 1) 4097 j 0))).set s180 (.int .i64 (j:Nat)))).set s181 (.int .i64 (j+1:Nat)))).set s29 (.int .i64 (j+1:Nat))),c⟩ (EV (vecA (j+1))):=by
 have hj':(j:Int) < 4097:=by omega
 have hw:IntKind.i64.wrap ((j:Int)+1)=(j:Int)+1:=z0r (by omega) (by omega)
 rw[EV_psh,EV_psh]
 simp only[vecA]
 rw[← zke j hj]
 have hg:=zkf j hj
 have hl:=zkg j (Nat.le_of_lt hj)
 simp only[vu] at hg hl ⊢
 generalize List.replicate j (AV.int .u8 (.ofNat 97))++List.replicate (4097 - j) (AV.int .u8 (.ofNat 0))=L at *
 have hst:∀ (e:E) (l:Lo),zdw e l 4097 j 0 (.int .u8 97) (.vec 1 L)=some (e.set l (.vec 1 (L.set j (.int .u8 97)))):=fun e l=>by
  have hl':Nat.beq L.length 4097=true:=by rw[hl]; rfl
  simp only[zdw,hl',cond_true,hg]
  rfl
 clear hl hg
 simp[b8x0,Tm.get_set,h1,h2,hj',hj,hw,z5t,oA_get,oA_set,hst]
theorem last (h1:s.get (.r (.l (.r (.r .e))))=(.hs (.lo 1 8 1) 1 4097 0 4097 false)) (h2:s.get (.l (.r (.r (.r .e))))=.int .i64 (4097:Nat)) (v:Ob) :
  runW call 1 [] b8x0 ⟨s,c⟩ (EV v)=.exit 0 ⟨(((s.set s176 (.int .i64 (4097:Nat))).set s177 (.hs (.lo 1 8 1) 1 4097 0 4097 false)).set s178 (.int .i64 (4097:Nat))).set s179 (.bool false),c⟩ (EV v):=by
 simp[b8x0,Tm.get_set,h1,h2]
theorem rounds:∀ (n j:Nat),j+1+n=4097→lp (runW call 1 [] b8x0) ⟨sg j,c⟩ (EV (vecA (j+1)))=.exit 0 ⟨sgE,c⟩ (EV (vecA 4097))
 | 0,j,h=>by
  obtain rfl:j=4096:=by omega
  rw[z3d,last (s:=sg 4096) rfl rfl]
  rfl
 | n+1,j,h=>by
  rw[z3d,round (s:=sg j) (j:=j+1) rfl rfl (by omega)]
  exact rounds n (j+1) (by omega)
theorem zkh:lp (runW call 1 [] b8x0) ⟨fr0,c⟩ (EV (vecA 0))=.exit 0 ⟨sgE,c⟩ (EV (vecA 4097)):=by
 rw[z3d,round (s:=fr0) (j:=0) rfl rfl (by omega)]
 exact rounds 4096 0 rfl
end Go.Abs.Run
namespace Go.Abs.Run
open Go Go.Abs Go.Proofs
theorem zhy:∃ e',cal tab zcs 8 [] [] 1 ⟨[],[],[]⟩=.ret (.bool true) e':=by
 have h1:=goW (zcf zkd) (fun h=>by cases h)
 obtain⟨fr,e,h2,h3⟩:=z9z zhx
 have h2:=goW h2 (fun h=>by cases h)
 have hv0:vecA 0=.vec 1 (List.replicate 4097 (vu 0)):=rfl
 have hv1:vecA 4097=.vec 1 (List.replicate 4097 (vu 97)):=by unfold vecA; rw[Nat.sub_self,List.replicate_zero,List.append_nil]
 have h4:runW (cal tab zcs) 1 [] f8.code ⟨.nil,0⟩ ⟨[⟨1,List.replicate 12 (0,.none,.none),[]⟩],[],[]⟩=.ret fr e:=by
  rw[split,h1]
  show R.bind _ (R.leave 0 (lp _ _ _))=_
  rw[← hv0,zkh,hv1]
  exact h2
 refine⟨pop (upAll [.bool true] e),z1s rfl (show tab 8=some f8 from rfl) rfl (by simp) ?_⟩
 show z2k f8 1 (runW (cal tab zcs) 1 [] f8.code ⟨.nil,0⟩ ⟨[⟨1,List.replicate 12 (0,.none,.none),[]⟩],[],[]⟩)=_
 rw[h4]
 show finR (z0n 1 fr.s [.t s0] e)=_
 simp only[z0n,zbt,h3]
 rfl
end Go.Abs.Run
namespace Go.Abs.Run
open Go Go.Abs Go.Proofs
theorem zki:z0z Tryz.prog zcs∧z0d zcs:=zjj z68 mixed zaf (zdg (zgn rfl w0 oneNil) (zdg (zgn rfl w1 oneNil) recsNil))
end Go.Abs.Run
