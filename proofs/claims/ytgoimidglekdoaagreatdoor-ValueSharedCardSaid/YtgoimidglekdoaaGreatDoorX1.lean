/- Proved on the way to: ValueShared returns true whatever the memory, its listed package variables reading as the program's text lays them. -/
import Derived.Test.YtgoimidglekdoaaGreatDoorL2
import Derived.Test.YtgoimidglekdoaaGreatDoorL1
import Derived.KernelRfl
set_option autoImplicit false
set_option linter.unusedSectionVars false
set_option linter.unusedSimpArgs false
set_option linter.unusedVariables false
namespace Go.Abs.Run
open Go Go.Abs Go.Proofs
theorem lR0 : LRight tab intr := by constructor <;> rfl
theorem lRP : LRight tab intrP := by constructor <;> rfl
noncomputable def plainPl (s : List Nat) : Option Bool := match plainG [.str s] with | some (.bool b) => some b | _ => none
theorem plainPl_ok (s : List Nat) (b : Bool) (h : plainPl s = some b) (W : List Lo) (fid : Nat) (e : E) : cal tab intrP 106 [.str s] W fid e = .ret (.bool b) e := by
  refine cal_intr (g := pureI plainG) rfl ?_
  unfold plainPl at h
  split at h
  · next c hc => cases h; unfold pureI; rw [hc]
  · cases h
def itSmall : Int → Option (List Nat)
  | .ofNat n => cond (Nat.blt n 10) (some [48 + n]) none
  | .negSucc _ => none
theorem it0 (W : List Lo) (fid : Nat) (stk : List FS) (glo : List Ob) (gl : List Nat) : callN tab intr 20 144 [.int .i64 (.ofNat 0)] W fid ⟨stk, glo, gl⟩ = .ret (.str [48]) ⟨stk, glo, gl⟩ := by kernel_rfl
theorem it1 (W : List Lo) (fid : Nat) (stk : List FS) (glo : List Ob) (gl : List Nat) : callN tab intr 20 144 [.int .i64 (.ofNat 1)] W fid ⟨stk, glo, gl⟩ = .ret (.str [49]) ⟨stk, glo, gl⟩ := by kernel_rfl
theorem it2 (W : List Lo) (fid : Nat) (stk : List FS) (glo : List Ob) (gl : List Nat) : callN tab intr 20 144 [.int .i64 (.ofNat 2)] W fid ⟨stk, glo, gl⟩ = .ret (.str [50]) ⟨stk, glo, gl⟩ := by kernel_rfl
theorem it3 (W : List Lo) (fid : Nat) (stk : List FS) (glo : List Ob) (gl : List Nat) : callN tab intr 20 144 [.int .i64 (.ofNat 3)] W fid ⟨stk, glo, gl⟩ = .ret (.str [51]) ⟨stk, glo, gl⟩ := by kernel_rfl
theorem it4 (W : List Lo) (fid : Nat) (stk : List FS) (glo : List Ob) (gl : List Nat) : callN tab intr 20 144 [.int .i64 (.ofNat 4)] W fid ⟨stk, glo, gl⟩ = .ret (.str [52]) ⟨stk, glo, gl⟩ := by kernel_rfl
theorem it5 (W : List Lo) (fid : Nat) (stk : List FS) (glo : List Ob) (gl : List Nat) : callN tab intr 20 144 [.int .i64 (.ofNat 5)] W fid ⟨stk, glo, gl⟩ = .ret (.str [53]) ⟨stk, glo, gl⟩ := by kernel_rfl
theorem it6 (W : List Lo) (fid : Nat) (stk : List FS) (glo : List Ob) (gl : List Nat) : callN tab intr 20 144 [.int .i64 (.ofNat 6)] W fid ⟨stk, glo, gl⟩ = .ret (.str [54]) ⟨stk, glo, gl⟩ := by kernel_rfl
theorem it7 (W : List Lo) (fid : Nat) (stk : List FS) (glo : List Ob) (gl : List Nat) : callN tab intr 20 144 [.int .i64 (.ofNat 7)] W fid ⟨stk, glo, gl⟩ = .ret (.str [55]) ⟨stk, glo, gl⟩ := by kernel_rfl
theorem it8 (W : List Lo) (fid : Nat) (stk : List FS) (glo : List Ob) (gl : List Nat) : callN tab intr 20 144 [.int .i64 (.ofNat 8)] W fid ⟨stk, glo, gl⟩ = .ret (.str [56]) ⟨stk, glo, gl⟩ := by kernel_rfl
theorem it9 (W : List Lo) (fid : Nat) (stk : List FS) (glo : List Ob) (gl : List Nat) : callN tab intr 20 144 [.int .i64 (.ofNat 9)] W fid ⟨stk, glo, gl⟩ = .ret (.str [57]) ⟨stk, glo, gl⟩ := by kernel_rfl
theorem itKey {f : Nat} {args : List AV} {W : List Lo} {fid : Nat} {e : E} {r : CR} (h : callN tab intr 20 f args W fid e = r) (hr : r ≠ .bad) : cal tab intr f args W fid e = r := by
  rw [← h]; exact callN_cal 20 f args W fid e (by rw [h]; exact hr)
theorem itSmall_ok (n : Int) (s : List Nat) (h : itSmall n = some s) (W : List Lo) (fid : Nat) (e : E) : cal tab intr 144 [.int .i64 n] W fid e = .ret (.str s) e := by
  obtain ⟨stk, glo, gl⟩ := e
  cases n with
  | negSucc n => cases h
  | ofNat n =>
    obtain ⟨h1, h2⟩ := cond_some h
    cases h2
    have h1 : n < 10 := Nat.le_of_ble_eq_true h1
    match n, h1 with
    | 0, _ => exact itKey (it0 W fid stk glo gl) (by simp)
    | 1, _ => exact itKey (it1 W fid stk glo gl) (by simp)
    | 2, _ => exact itKey (it2 W fid stk glo gl) (by simp)
    | 3, _ => exact itKey (it3 W fid stk glo gl) (by simp)
    | 4, _ => exact itKey (it4 W fid stk glo gl) (by simp)
    | 5, _ => exact itKey (it5 W fid stk glo gl) (by simp)
    | 6, _ => exact itKey (it6 W fid stk glo gl) (by simp)
    | 7, _ => exact itKey (it7 W fid stk glo gl) (by simp)
    | 8, _ => exact itKey (it8 W fid stk glo gl) (by simp)
    | 9, _ => exact itKey (it9 W fid stk glo gl) (by simp)
theorem lTV0 : LToldV itSmall tab intr := { lR0, lB0 with p102 := rfl, i102 := rfl, p161 := rfl, i161 := rfl, p217 := rfl, i217 := rfl, itoa := itSmall_ok, p38 := rfl, i38 := rfl }
theorem right_ok : LawOK Tryz.prog tab 42 (rightI plainPl) := right_lawOK intrP_ok lRP plainPl_ok
theorem told_ok2 : LawOK Tryz.prog tab 38 (toldI itSmall) := told_lawOK intr_ok lTV0
def runsG (args : List AV) : Option AV := match args with | [] => some (.bool true) | _ :: _ => none
end Go.Abs.Run
namespace Go.Abs.Run
open Go Go.Abs Go.Proofs
def sb0 : Ob := (.cells 141 [(.hs (.gl 4) 5 4 0 4 false),(.hs (.gl 3) 2 1 0 1 false),vz])
def sb1 : Ob := (.cells 141 [(.hs (.gl 8) 5 4 0 4 false),(.hs (.gl 9) 2 1 0 1 false),vz])
def sb2 : Ob := (.cells 99 [(.ptr (.gl 10) 0),(.sl 1152923703636394004 1 [(vi 0),(vi 1),(vi 1),(vi 2)]),(.hs (.gl 14) 4 3 0 3 true)])
def sb3 : Ob := (.vec 4 [(.agg [(vi 0),(.str [114,101,99,111,114,100,32,97,32,98]),(.sl 1208928125464235482284036 1 [(vi 1),(vi 1)]),(.sl 1 1 [])]),(.agg [(vi 1),(.str [105,110,116,101,114,102,97,99,101]),(.sl 1 1 []),(.sl 1 1 [])]),(.agg [(vi 3),(.str [105,110,116]),(.sl 1 1 []),(.sl 1 1 [])])])
def sb4 : Ob := (.map [((.str [80]),(.agg [(vi 0),(.str [80]),(vi 6),(.str []),(.sl 1208926972539432321679378 1 [(.str [97]),(.str [98])]),(.sl 1208926972539432321679380 1 [(.bool false),(.bool false)]),(.sl 1208926972539432321679382 5 [(.agg [(vi 8),(.str []),vz,vz,vz]),(.agg [(vi 8),(.str []),vz,vz,vz])])]))])
def sb5 : Ob := (.vec 5 [(.agg [(vi 6),(.sl 1208928125459837420044296 1 [(vi 1),(vi 2)]),(.sl 1267653018082174482560360382466 1 [(.str [97]),(.str [98])]),(.sl 1267653018082174482560361431042 1 [(.bool false),(.bool false)]),(.str [])]),(.agg [(vi 8),vz,vz,vz,(.str [])]),(.agg [(vi 8),vz,vz,vz,(.str [])]),(.agg [(vi 1),vz,vz,vz,(.str [])])])
def sb6 : Ob := (.vec 5 [(.agg [(vi 6),(.hs (.gl 7) 1 2 0 2 false),(.sl 1208928125460936927477762 1 [(.str [97]),(.str [98])]),(.sl 1208928125460936927477764 1 [(.bool false),(.bool false)]),(.str [])]),(.agg [(vi 8),vz,(.sl 1 1 []),(.sl 1 1 []),(.str [])]),(.agg [(vi 8),vz,(.sl 1 1 []),(.sl 1 1 []),(.str [])]),(.agg [(vi 1),vz,(.sl 1 1 []),(.sl 1 1 []),(.str [])])])
def sb7 : Ob := (.vec 5 [(.agg [(vi 6),(.sl 1208928125459837420044296 1 [(vi 1),(vi 2)]),(.sl 1267653018082174482560360382466 1 [(.str [97]),(.str [98])]),(.sl 1267653018082174482560361431042 1 [(.bool false),(.bool false)]),(.str [])]),(.agg [(vi 8),vz,vz,vz,(.str [])]),(.agg [(vi 8),vz,vz,vz,(.str [])]),(.agg [(vi 1),vz,vz,vz,(.str [])]),(.agg [(vi 1),vz,vz,vz,(.str [])])])
def sb8 : Ob := (.cells 94 [(.hs (.gl 6) 5 4 0 4 false),(.sl 1099512676358 7 [(.agg [(vi 0),(.str [80]),(vi 6),(.str []),(.sl 1208926972539432321679378 1 [(.str [97]),(.str [98])]),(.sl 1208926972539432321679380 1 [(.bool false),(.bool false)]),(.sl 1208926972539432321679382 5 [(.agg [(vi 8),(.str []),vz,vz,vz]),(.agg [(vi 8),(.str []),vz,vz,vz])])])]),vz,vz,(.sl 1152923703633248264 1 [(vi 0)])])
def sb9 : Ob := (.cells 190 [(.ptr (.gl 18) 0),(.sl 0 1 [(vi 1),(vi 2),(vi 2),(vi 3)]),(.hs (.lo 1099513724935 1 1) 1 6 0 6 true),(.sl 1208928125465334979231746 1 [(vi 0),(vi 1),(vi 3)]),(.sl 1152923703637442592 1 [(.str [114,101,99,111,114,100,32,97,32,98]),(.str [105,110,116,101,114,102,97,99,101]),(.str [105,110,116])]),(.sl 1152923703637442590 1 [(.sl 1152923703637442576 1 [(vi 1),(vi 1)]),vz,vz]),(.sl 1152923703637442594 1 [(.sl 0 1 [(.str [97]),(.str [98])]),(.sl 1 1 []),(.sl 1 1 [])])])
def sb10 : Ob := (.cells 94 [(.sl 1208928125465334970843138 5 [(.agg [(vi 6),(.hs (.gl 7) 1 2 0 2 false),(.sl 1208928125460936927477762 1 [(.str [97]),(.str [98])]),(.sl 1208928125460936927477764 1 [(.bool false),(.bool false)]),(.str [])]),(.agg [(vi 8),vz,(.sl 1 1 []),(.sl 1 1 []),(.str [])]),(.agg [(vi 8),vz,(.sl 1 1 []),(.sl 1 1 []),(.str [])]),(.agg [(vi 1),vz,(.sl 1 1 []),(.sl 1 1 []),(.str [])])]),(.sl 1099512676358 7 [(.agg [(vi 0),(.str [80]),(vi 6),(.str []),(.sl 1208926972539432321679378 1 [(.str [97]),(.str [98])]),(.sl 1208926972539432321679380 1 [(.bool false),(.bool false)]),(.sl 1208926972539432321679382 5 [(.agg [(vi 8),(.str []),vz,vz,vz]),(.agg [(vi 8),(.str []),vz,vz,vz])])])]),vz,vz,(.sl 1152923703633248264 1 [(vi 0)])])
def sb11 : Ob := (.cells 68 [(.sl 1208926972537233294229568 4 [(.agg [(vi 0),(vi 3),(.str [116,121,112,101]),(vi 0)]),(.agg [(vi 5),(vi 2),(.str [80]),(vi 0)]),(.agg [(vi 7),(vi 6),(.str [61]),(vi 0)]),(.agg [(vi 9),(vi 6),(.str [123]),(vi 0)]),(.agg [(vi 10),(vi 1),(.str [97]),(vi 0)]),(.agg [(vi 12),(vi 3),(.str [105,110,116,101,114,102,97,99,101]),(vi 0)]),(.agg [(vi 22),(vi 6),(.str [123]),(vi 0)]),(.agg [(vi 23),(vi 6),(.str [125]),(vi 0)]),(.agg [(vi 24),(vi 6),(.str [59]),(vi 0)]),(.agg [(vi 26),(vi 1),(.str [98]),(vi 0)]),(.agg [(vi 28),(vi 3),(.str [105,110,116,101,114,102,97,99,101]),(vi 0)]),(.agg [(vi 38),(vi 6),(.str [123]),(vi 0)]),(.agg [(vi 39),(vi 6),(.str [125]),(vi 0)]),(.agg [(vi 40),(vi 6),(.str [59]),(vi 0)]),(.agg [(vi 41),(vi 6),(.str [125]),(vi 0)]),(.agg [(vi 42),(vi 6),(.str [59]),(vi 0)])]),(vi 43),(vi 16),(vi 0),(vi 0)])
def sr0 : Rec := ⟨7, 1048577, [(.str [116,121,112,101,32,80,32,61,32,123,97,32,105,110,116,101,114,102,97,99,101,32,123,125,59,32,98,32,105,110,116,101,114,102,97,99,101,32,123,125,59,125,59])], [], ⟨[⟨1,[(0,.none,.none)],[]⟩],[],[]⟩, (.tup [(.sl 1099512676358 7 [(.agg [(vi 0),(.str [80]),(vi 6),(.str []),(.sl 1208926972539432321679378 1 [(.str [97]),(.str [98])]),(.sl 1208926972539432321679380 1 [(.bool false),(.bool false)]),(.sl 1208926972539432321679382 5 [(.agg [(vi 8),(.str []),vz,vz,vz]),(.agg [(vi 8),(.str []),vz,vz,vz])])])]),vz,(vi 0),(vi 0)]), ⟨[⟨1,[(0,.none,.none)],[1099512676358]⟩],[sb11],[1208926972537233294229568]⟩⟩
def sr1 : Rec := ⟨8, 1048578, [(.agg [(.sl 1099512676358 7 [(.agg [(vi 0),(.str [80]),(vi 6),(.str []),(.sl 1208926972539432321679378 1 [(.str [97]),(.str [98])]),(.sl 1208926972539432321679380 1 [(.bool false),(.bool false)]),(.sl 1208926972539432321679382 5 [(.agg [(vi 8),(.str []),vz,vz,vz]),(.agg [(vi 8),(.str []),vz,vz,vz])])])]),vz]),(.sl 1 5 [(.agg [(vi 1),(.str []),vz,vz,vz])])], [], ⟨[⟨1,[(0,.none,.none)],[1099512676358]⟩],[sb11],[1208926972537233294229568]⟩, (.tup [(.ptr (.gl 15) 0),(.ptr (.gl 19) 0)]), ⟨[⟨1,[(0,.none,.none)],[]⟩],[sb11,sb4,sb0,(.vec 2 [(.agg [(.str [80]),(vi 0)])]),sb5,sb8,sb6,(.vec 1 [(vi 1),(vi 2)]),sb5,(.vec 2 [(.agg [(.str [80]),(vi 0)])]),sb1,(.vec 1 [(.str [97]),(.str [98])]),(.vec 1 [(.str [97]),(.str [98])]),(.vec 1 [(.str [97]),(.str [98])]),sb3,sb2,(.vec 1 [(.str [97]),(.str [98])]),(.vec 1 [(.str [97]),(.str [98])]),sb10,sb9],[1152923703637442594,1152923703637442592,1152923703637442590,1208928125465334979231746,1152923703633248264,1208928125465334970843138,1152923703636394004,1208926972537233294229568]⟩⟩
def sr2 : Rec := ⟨11, 1048581, [(.ptr (.gl 15) 0),(.sl 1 5 [(.agg [(vi 1),(.str []),vz,vz,vz])])], [], ⟨[⟨1,[(0,.none,.none)],[]⟩],[sb11,sb4,sb0,(.vec 2 [(.agg [(.str [80]),(vi 0)])]),sb5,sb8,sb6,(.vec 1 [(vi 1),(vi 2)]),sb5,(.vec 2 [(.agg [(.str [80]),(vi 0)])]),sb1,(.vec 1 [(.str [97]),(.str [98])]),(.vec 1 [(.str [97]),(.str [98])]),(.vec 1 [(.str [97]),(.str [98])]),sb3,sb2,(.vec 1 [(.str [97]),(.str [98])]),(.vec 1 [(.str [97]),(.str [98])]),sb10,sb9],[1152923703637442594,1152923703637442592,1152923703637442590,1208928125465334979231746,1152923703633248264,1208928125465334970843138,1152923703636394004,1208926972537233294229568]⟩, (.tup [(.sl 1208931584223251724763138 1 [(vi 2)]),.nili]), ⟨[⟨1,[(0,.none,.none)],[1208931584223251724763138]⟩],[sb11,sb4,sb0,(.vec 2 [(.agg [(.str [80]),(vi 0)])]),sb5,sb8,sb6,(.vec 1 [(vi 1),(vi 2)]),sb5,(.vec 2 [(.agg [(.str [80]),(vi 0)])]),sb1,(.vec 1 [(.str [97]),(.str [98])]),(.vec 1 [(.str [97]),(.str [98])]),(.vec 1 [(.str [97]),(.str [98])]),sb3,sb2,(.vec 1 [(.str [97]),(.str [98])]),(.vec 1 [(.str [97]),(.str [98])]),sb10,sb9,sb7,(.vec 2 [(.agg [(.str [80]),(vi 0)])]),(.cells 141 [(.hs (.gl 20) 5 5 0 5 false),(.hs (.gl 21) 2 1 0 1 false),vz]),sb7,(.vec 2 [(.agg [(.str [80]),(vi 0)])]),(.cells 141 [(.hs (.gl 23) 5 5 0 5 false),(.hs (.gl 24) 2 1 0 1 false),vz]),(.vec 1 [(.str [97]),(.str [98])]),(.vec 1 [(.str [97]),(.str [98])]),(.vec 1 [(.str [97]),(.str [98])]),(.vec 4 [(.agg [(vi 0),(.str [114,101,99,111,114,100,32,97,32,98]),(.sl 1267656644858480399445744680964 1 [(vi 1),(vi 1)]),(.sl 1 1 [])]),(.agg [(vi 1),(.str [105,110,116,101,114,102,97,99,101]),(.sl 1 1 []),(.sl 1 1 [])]),(.agg [(vi 3),(.str [105,110,116]),(.sl 1 1 []),(.sl 1 1 [])])]),(.cells 99 [(.ptr (.gl 25) 0),(.sl 1208931584223251723714582 1 [(vi 0),(vi 1),(vi 1),(vi 2),(vi 2)]),(.hs (.gl 29) 4 3 0 3 true)]),(.vec 1 [(.str [97]),(.str [98])]),(.vec 1 [(.str [97]),(.str [98])])],[1208931584223251723714582,1152923703637442594,1152923703637442592,1152923703637442590,1208928125465334979231746,1152923703633248264,1208928125465334970843138,1152923703636394004,1208926972537233294229568]⟩⟩
end Go.Abs.Run
