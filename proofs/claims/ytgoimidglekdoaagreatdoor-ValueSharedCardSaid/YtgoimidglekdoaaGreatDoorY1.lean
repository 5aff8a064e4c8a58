/- Proved on the way to: ValueShared returns true whatever the memory, its listed package variables reading as the program's text lays them. -/
import Derived.Test.YtgoimidglekdoaaGreatDoorX2
import Derived.Test.YtgoimidglekdoaaGreatDoorX3
import Derived.Test.YtgoimidglekdoaaGreatDoorX1
import Derived.KernelRfl
import Derived.Test.YtgoimidglekdoaaGreatDoorB5
set_option autoImplicit false
set_option linter.unusedSectionVars false
set_option linter.unusedSimpArgs false
set_option linter.unusedVariables false
namespace Go.Abs.Run
open Go Go.Abs Go.Proofs
noncomputable def intrSr : Nat → Option IntrT := withR intrP [(7, [sr0]), (8, [sr1]), (11, [sr2])]
theorem intrSr_ok : IntrOK Tryz.prog intrSr ∧ IntrPure intrSr := withR_ok tab_ok mixed intrP_ok (recsCons (oneCons rfl sw0 oneNil) (recsCons (oneCons rfl sw1 oneNil) (recsCons (oneCons rfl sw2 oneNil) recsNil)))
end Go.Abs.Run
namespace Go.Abs.Run
open Go Go.Abs Go.Proofs
def preS : List AC := [(.reg [oM s2 (.c (.bool false))]),
(.reg [oC s19 7 [(.c (.str [116,121,112,101,32,80,32,61,32,123,97,32,105,110,116,101,114,102,97,99,101,32,123,125,59,32,98,32,105,110,116,101,114,102,97,99,101,32,123,125,59,125,59]))],oM s18 t19,oE s20 t18 0,oE s21 t18 1,oE s22 t18 2,oE s23 t18 3,oM s3 t20,oM s4 t21,oM s5 t22,oM s6 t23]),
(.reg [oM s25 t3,oP s26 (.bld [vz,vz] [(0,1,t25)]),oP s27 (.bld [(vi 0),(.str []),vz,vz,vz] [(0,1,(ci 1))]),oP s28 (.bsl 1 5 (.agg [(vi 0),(.str []),vz,vz,vz]) [(0,t27)]),oC s29 8 [t26,t28],oM s24 t29,oE s30 t24 0,oE s31 t24 1,oM s7 t30,oM s8 t31]),
(.seq (.reg [oM s32 t6,oQ s33 .neq t32 (ci 0),oM s34 t33,⟨some s35,some (s34,false),(.p (.mov t7))⟩,⟨some s36,some (s34,false),(.p (.bin .eql .ptr t35 (.c .nilp)))⟩,oP s37 (.pick t34 (.c (.bool true)) t36),oM s38 t37,⟨some s39,some (s38,false),(.p (.mov t8))⟩,⟨some s40,some (s38,false),(.p (.bin .eql .ptr t39 (.c .nilp)))⟩,oP s41 (.pick t38 (.c (.bool true)) t40)]) (.cond t41
 (.seq (.reg [oM s2 (.c (.bool false))]) .ret)
 .skip))]
def wS0 : AC := (.reg [oM s42 t0,oC s43 20 [t42,(ci 0),(ci 9)],oM s0 t43])
def lBS : List AC := [(.reg [oM s45 t7,oC s46 9 [t45,(.c (.str [80]))],oM s44 t46,oE s47 t44 0,oE s48 t44 1,oM s9 t47,oM s10 t48]),
(.reg [oM s50 t7,oP s51 (.bld [(vi 0),(.str []),vz,vz,vz] [(0,1,(ci 1))]),oP s52 (.bsl 1 5 (.agg [(vi 0),(.str []),vz,vz,vz]) [(0,t51)]),oC s53 11 [t50,t52],oM s49 t53,oE s54 t49 0,oE s55 t49 1,oM s11 t54,oM s12 t55]),
(.seq (.reg [oM s56 t12,oP s57 (.bin .neq .ifc t56 (.c .nili)),oM s58 t57,⟨some s59,some (s58,false),(.p (.mov t11))⟩,⟨some s60,some (s58,false),(.p (.len false t59))⟩,⟨some s61,some (s58,false),(.p (.bin .neq eI t60 (ci 1)))⟩,oP s62 (.pick t58 (.c (.bool true)) t61)]) (.cond t62
 (.seq (.reg [oM s2 (.c (.bool false))]) .ret)
 .skip)),
(.reg [oM s63 t11,oP s64 (.iad 1 t63 (ci 0)),oG s65 t64,oP s66 (.bld [(vi 0),(vi 0),(vi 0),(.str []),vz] [(0,1,(ci 1)),(1,1,t65),(2,1,(ci 7))]),oX s13 (.new 0 false false (.cells 47 [(vi 0),(vi 0),(vi 0),(.str []),vz])) [],oS 5 t13 t66]),
(.reg [oM s14 (ci 1)])]
def r0S : AC := (.reg [oM s15 (ci 0)])
def postS : AC := (.seq (.reg [oM s81 t7,oR s82 (.ld true 5 t13),oC s83 12 [t81,t82],oM s80 t83,oE s84 t80 0,oE s85 t80 1,oM s16 t84,oM s17 t85]) (.seq (.seq (.reg [oM s86 t14,oQ s87 .gtr t86 (ci 4096)]) (.cond t87
 (.seq (.reg [oM s88 t16,oP s89 (.bin .eql eS t88 (.c (.str []))),oM s90 t89,⟨some s91,some (s90,true),(.p (.mov t17))⟩,⟨some s92,some (s90,true),(.p (.bin .eql eI t91 (ci 53)))⟩,oP s93 (.pick t90 t92 (.c (.bool false))),oM s94 t93,⟨some s95,some (s94,true),(.e (.call 3 []) [])⟩,oP s96 (.pick t94 t95 (.c (.bool false))),oM s2 t96]) .ret)
 .skip)) (.seq (.reg [oM s97 t16,oP s98 (.len true t97),oM s99 t14,oQ s100 .eql t98 t99,oM s101 t100,⟨some s102,some (s101,true),(.p (.mov t17))⟩,⟨some s103,some (s101,true),(.p (.bin .eql eI t102 (ci 0)))⟩,oP s104 (.pick t101 t103 (.c (.bool false))),oM s105 t104,⟨some s106,some (s105,true),(.e (.call 3 []) [])⟩,oP s107 (.pick t105 t106 (.c (.bool false))),oM s2 t107]) .ret)))
noncomputable def intrS : Nat → Option IntrT := addI (addI (addI intrSr 3 (pureI runsG)) 42 (rightI plainPl)) 38 (toldI itSmall)
noncomputable def preR (n : Int) : R := run (callN tab intrS 2000) 2000 1 [] (catA preS .skip) ⟨params [.int .i64 n] 0 .nil, 0⟩ ⟨[⟨1, List.replicate 1 (0, .none, .none), []⟩], [], []⟩
noncomputable def goArg : R → Option AV
  | .go ⟨s, cnt⟩ _ => cond (room cnt) (some (s.get s0)) none
  | _ => none
theorem pre_go (n : Int) : goArg (preR n) = some (.int .i64 n) := by kernel_rfl
noncomputable def sized (n : Int) (m : Nat) : Fr → Fr
  | ⟨s, cnt⟩ => ⟨((s.set s42 (.int .i64 n)).set s43 (.int .i64 (.ofNat m))).set s0 (.int .i64 (.ofNat m)), cnt + 1⟩
abbrev TNs : Tm := .nil
abbrev TDs (v : AV) (l r : Tm) : Tm := .node v l r
def fr0S : Tm := (TDs (vi 9) (TDs .undef (TDs (.sl 1099512676358 7 [(.agg [(vi 0),(.str [80]),(vi 6),(.str []),(.sl 1208926972539432321679378 1 [(.str [97]),(.str [98])]),(.sl 1208926972539432321679380 1 [(.bool false),(.bool false)]),(.sl 1208926972539432321679382 5 [(.agg [(vi 8),(.str []),vz,vz,vz]),(.agg [(vi 8),(.str []),vz,vz,vz])])])]) (TDs (.ptr (.gl 15) 0) (TDs (vi 0) (TDs (.ptr (.gl 19) 0) (TDs (.sl 1208931584223251724763138 1 [(vi 2)]) TNs TNs) TNs) (TDs (vi 0) TNs TNs)) (TDs (vi 0) (TDs (.ptr (.gl 19) 0) TNs TNs) (TDs .nili TNs TNs))) (TDs (.sl 1208931584223251724763138 1 [(vi 2)]) (TDs (.tup [(.sl 1099512676358 7 [(.agg [(vi 0),(.str [80]),(vi 6),(.str []),(.sl 1208926972539432321679378 1 [(.str [97]),(.str [98])]),(.sl 1208926972539432321679380 1 [(.bool false),(.bool false)]),(.sl 1208926972539432321679382 5 [(.agg [(vi 8),(.str []),vz,vz,vz]),(.agg [(vi 8),(.str []),vz,vz,vz])])])]),vz,(vi 0),(vi 0)]) (TDs (.ptr (.gl 15) 0) TNs TNs) (TDs (.agg [(vi 1),(.str []),vz,vz,vz]) TNs TNs)) (TDs (.agg [(vi 1),(.str []),vz,vz,vz]) (TDs (vi 9) TNs TNs) (TDs (.sl 1208931584223251724763138 1 [(vi 2)]) TNs TNs)))) (TDs (vi 0) (TDs (vi 0) (TDs .undef (TDs (.bool false) (TDs (vi 2) TNs TNs) TNs) (TDs (.tup [(.sl 1208931584223251724763138 1 [(vi 2)]),.nili]) TNs TNs)) (TDs (.sl 1099512676358 7 [(.agg [(vi 0),(.str [80]),(vi 6),(.str []),(.sl 1208926972539432321679378 1 [(.str [97]),(.str [98])]),(.sl 1208926972539432321679380 1 [(.bool false),(.bool false)]),(.sl 1208926972539432321679382 5 [(.agg [(vi 8),(.str []),vz,vz,vz]),(.agg [(vi 8),(.str []),vz,vz,vz])])])]) (TDs (.bool false) TNs TNs) (TDs (.bool false) TNs TNs))) (TDs (.ptr (.lo 1 0 1) 0) (TDs vz (TDs (.bool false) TNs TNs) (TDs (.tup [(.sl 1208931584223251724763138 1 [(vi 2)]),.nili]) TNs TNs)) (TDs (.tup [(.ptr (.gl 15) 0),(.ptr (.gl 19) 0)]) (TDs (.ptr (.gl 15) 0) TNs TNs) (TDs (.bool false) TNs TNs))))) (TDs (.bool false) (TDs vz (TDs (.ptr (.gl 19) 0) (TDs .undef (TDs (vi 0) (TDs (.vp [(vi 2)] 0) TNs TNs) TNs) (TDs (.bool true) TNs TNs)) (TDs (.tup [(.ptr (.gl 15) 0),(.ptr (.gl 19) 0)]) (TDs (.bool false) TNs TNs) (TDs .nili TNs TNs))) (TDs .nili (TDs (.sl 1099512676358 7 [(.agg [(vi 0),(.str [80]),(vi 6),(.str []),(.sl 1208926972539432321679378 1 [(.str [97]),(.str [98])]),(.sl 1208926972539432321679380 1 [(.bool false),(.bool false)]),(.sl 1208926972539432321679382 5 [(.agg [(vi 8),(.str []),vz,vz,vz]),(.agg [(vi 8),(.str []),vz,vz,vz])])])]) (TDs (.bool false) TNs TNs) (TDs (.sl 1 5 [(.agg [(vi 1),(.str []),vz,vz,vz])]) TNs TNs)) (TDs (.sl 1 5 [(.agg [(vi 1),(.str []),vz,vz,vz])]) (TDs (.tup [(vi 0),(.bool true)]) TNs TNs) (TDs (vi 1) TNs TNs)))) (TDs (vi 0) (TDs (.bool true) (TDs (.tup [(.sl 1099512676358 7 [(.agg [(vi 0),(.str [80]),(vi 6),(.str []),(.sl 1208926972539432321679378 1 [(.str [97]),(.str [98])]),(.sl 1208926972539432321679380 1 [(.bool false),(.bool false)]),(.sl 1208926972539432321679382 5 [(.agg [(vi 8),(.str []),vz,vz,vz]),(.agg [(vi 8),(.str []),vz,vz,vz])])])]),vz,(vi 0),(vi 0)]) (TDs (.bool false) (TDs (.agg [(vi 1),(vi 2),(vi 7),(.str []),vz]) TNs TNs) TNs) (TDs (.ptr (.gl 15) 0) TNs TNs)) (TDs (.agg [(.sl 1099512676358 7 [(.agg [(vi 0),(.str [80]),(vi 6),(.str []),(.sl 1208926972539432321679378 1 [(.str [97]),(.str [98])]),(.sl 1208926972539432321679380 1 [(.bool false),(.bool false)]),(.sl 1208926972539432321679382 5 [(.agg [(vi 8),(.str []),vz,vz,vz]),(.agg [(vi 8),(.str []),vz,vz,vz])])])]),vz]) (TDs (vi 9) TNs TNs) (TDs (.bool false) TNs TNs))) (TDs (vi 1) (TDs (vi 0) (TDs (.bool false) TNs TNs) (TDs (.sl 1208931584223251724763138 1 [(vi 2)]) TNs TNs)) (TDs (.ptr (.gl 15) 0) (TDs (.tup [(vi 0),(.bool true)]) TNs TNs) (TDs (.bool false) TNs TNs))))))
noncomputable def frS (n : Int) (m : Nat) : Tm := ((fr0S.set s42 (.int .i64 n)).set s43 (.int .i64 (.ofNat m))).set s0 (.int .i64 (.ofNat m))
def glS : List Ob := [(.cells 68 [(.sl 1208926972537233294229568 4 [(.agg [(vi 0),(vi 3),(.str [116,121,112,101]),(vi 0)]),(.agg [(vi 5),(vi 2),(.str [80]),(vi 0)]),(.agg [(vi 7),(vi 6),(.str [61]),(vi 0)]),(.agg [(vi 9),(vi 6),(.str [123]),(vi 0)]),(.agg [(vi 10),(vi 1),(.str [97]),(vi 0)]),(.agg [(vi 12),(vi 3),(.str [105,110,116,101,114,102,97,99,101]),(vi 0)]),(.agg [(vi 22),(vi 6),(.str [123]),(vi 0)]),(.agg [(vi 23),(vi 6),(.str [125]),(vi 0)]),(.agg [(vi 24),(vi 6),(.str [59]),(vi 0)]),(.agg [(vi 26),(vi 1),(.str [98]),(vi 0)]),(.agg [(vi 28),(vi 3),(.str [105,110,116,101,114,102,97,99,101]),(vi 0)]),(.agg [(vi 38),(vi 6),(.str [123]),(vi 0)]),(.agg [(vi 39),(vi 6),(.str [125]),(vi 0)]),(.agg [(vi 40),(vi 6),(.str [59]),(vi 0)]),(.agg [(vi 41),(vi 6),(.str [125]),(vi 0)]),(.agg [(vi 42),(vi 6),(.str [59]),(vi 0)])]),(vi 43),(vi 16),(vi 0),(vi 0)]),(.map [((.str [80]),(.agg [(vi 0),(.str [80]),(vi 6),(.str []),(.sl 1208926972539432321679378 1 [(.str [97]),(.str [98])]),(.sl 1208926972539432321679380 1 [(.bool false),(.bool false)]),(.sl 1208926972539432321679382 5 [(.agg [(vi 8),(.str []),vz,vz,vz]),(.agg [(vi 8),(.str []),vz,vz,vz])])]))]),(.cells 141 [(.hs (.gl 4) 5 4 0 4 false),(.hs (.gl 3) 2 1 0 1 false),vz]),(.vec 2 [(.agg [(.str [80]),(vi 0)])]),(.vec 5 [(.agg [(vi 6),(.sl 1208928125459837420044296 1 [(vi 1),(vi 2)]),(.sl 1267653018082174482560360382466 1 [(.str [97]),(.str [98])]),(.sl 1267653018082174482560361431042 1 [(.bool false),(.bool false)]),(.str [])]),(.agg [(vi 8),vz,vz,vz,(.str [])]),(.agg [(vi 8),vz,vz,vz,(.str [])]),(.agg [(vi 1),vz,vz,vz,(.str [])])]),(.cells 94 [(.hs (.gl 6) 5 4 0 4 false),(.sl 1099512676358 7 [(.agg [(vi 0),(.str [80]),(vi 6),(.str []),(.sl 1208926972539432321679378 1 [(.str [97]),(.str [98])]),(.sl 1208926972539432321679380 1 [(.bool false),(.bool false)]),(.sl 1208926972539432321679382 5 [(.agg [(vi 8),(.str []),vz,vz,vz]),(.agg [(vi 8),(.str []),vz,vz,vz])])])]),vz,vz,(.sl 1152923703633248264 1 [(vi 0)])]),(.vec 5 [(.agg [(vi 6),(.hs (.gl 7) 1 2 0 2 false),(.sl 1208928125460936927477762 1 [(.str [97]),(.str [98])]),(.sl 1208928125460936927477764 1 [(.bool false),(.bool false)]),(.str [])]),(.agg [(vi 8),vz,(.sl 1 1 []),(.sl 1 1 []),(.str [])]),(.agg [(vi 8),vz,(.sl 1 1 []),(.sl 1 1 []),(.str [])]),(.agg [(vi 1),vz,(.sl 1 1 []),(.sl 1 1 []),(.str [])])]),(.vec 1 [(vi 1),(vi 2)]),(.vec 5 [(.agg [(vi 6),(.sl 1208928125459837420044296 1 [(vi 1),(vi 2)]),(.sl 1267653018082174482560360382466 1 [(.str [97]),(.str [98])]),(.sl 1267653018082174482560361431042 1 [(.bool false),(.bool false)]),(.str [])]),(.agg [(vi 8),vz,vz,vz,(.str [])]),(.agg [(vi 8),vz,vz,vz,(.str [])]),(.agg [(vi 1),vz,vz,vz,(.str [])])]),(.vec 2 [(.agg [(.str [80]),(vi 0)])]),(.cells 141 [(.hs (.gl 8) 5 4 0 4 false),(.hs (.gl 9) 2 1 0 1 false),vz]),(.vec 1 [(.str [97]),(.str [98])]),(.vec 1 [(.str [97]),(.str [98])]),(.vec 1 [(.str [97]),(.str [98])]),(.vec 4 [(.agg [(vi 0),(.str [114,101,99,111,114,100,32,97,32,98]),(.sl 1208928125464235482284036 1 [(vi 1),(vi 1)]),(.sl 1 1 [])]),(.agg [(vi 1),(.str [105,110,116,101,114,102,97,99,101]),(.sl 1 1 []),(.sl 1 1 [])]),(.agg [(vi 3),(.str [105,110,116]),(.sl 1 1 []),(.sl 1 1 [])])]),(.cells 99 [(.ptr (.gl 10) 0),(.sl 1152923703636394004 1 [(vi 0),(vi 1),(vi 1),(vi 2)]),(.hs (.gl 14) 4 3 0 3 true)]),(.vec 1 [(.str [97]),(.str [98])]),(.vec 1 [(.str [97]),(.str [98])]),(.cells 94 [(.sl 1208928125465334970843138 5 [(.agg [(vi 6),(.hs (.gl 7) 1 2 0 2 false),(.sl 1208928125460936927477762 1 [(.str [97]),(.str [98])]),(.sl 1208928125460936927477764 1 [(.bool false),(.bool false)]),(.str [])]),(.agg [(vi 8),vz,(.sl 1 1 []),(.sl 1 1 []),(.str [])]),(.agg [(vi 8),vz,(.sl 1 1 []),(.sl 1 1 []),(.str [])]),(.agg [(vi 1),vz,(.sl 1 1 []),(.sl 1 1 []),(.str [])])]),(.sl 1099512676358 7 [(.agg [(vi 0),(.str [80]),(vi 6),(.str []),(.sl 1208926972539432321679378 1 [(.str [97]),(.str [98])]),(.sl 1208926972539432321679380 1 [(.bool false),(.bool false)]),(.sl 1208926972539432321679382 5 [(.agg [(vi 8),(.str []),vz,vz,vz]),(.agg [(vi 8),(.str []),vz,vz,vz])])])]),vz,vz,(.sl 1152923703633248264 1 [(vi 0)])]),(.cells 190 [(.ptr (.gl 18) 0),(.sl 0 1 [(vi 1),(vi 2),(vi 2),(vi 3)]),(.hs (.lo 1099513724935 1 1) 1 6 0 6 true),(.sl 1208928125465334979231746 1 [(vi 0),(vi 1),(vi 3)]),(.sl 1152923703637442592 1 [(.str [114,101,99,111,114,100,32,97,32,98]),(.str [105,110,116,101,114,102,97,99,101]),(.str [105,110,116])]),(.sl 1152923703637442590 1 [(.sl 1152923703637442576 1 [(vi 1),(vi 1)]),vz,vz]),(.sl 1152923703637442594 1 [(.sl 0 1 [(.str [97]),(.str [98])]),(.sl 1 1 []),(.sl 1 1 [])])]),(.vec 5 [(.agg [(vi 6),(.sl 1208928125459837420044296 1 [(vi 1),(vi 2)]),(.sl 1267653018082174482560360382466 1 [(.str [97]),(.str [98])]),(.sl 1267653018082174482560361431042 1 [(.bool false),(.bool false)]),(.str [])]),(.agg [(vi 8),vz,vz,vz,(.str [])]),(.agg [(vi 8),vz,vz,vz,(.str [])]),(.agg [(vi 1),vz,vz,vz,(.str [])]),(.agg [(vi 1),vz,vz,vz,(.str [])])]),(.vec 2 [(.agg [(.str [80]),(vi 0)])]),(.cells 141 [(.hs (.gl 20) 5 5 0 5 false),(.hs (.gl 21) 2 1 0 1 false),vz]),(.vec 5 [(.agg [(vi 6),(.sl 1208928125459837420044296 1 [(vi 1),(vi 2)]),(.sl 1267653018082174482560360382466 1 [(.str [97]),(.str [98])]),(.sl 1267653018082174482560361431042 1 [(.bool false),(.bool false)]),(.str [])]),(.agg [(vi 8),vz,vz,vz,(.str [])]),(.agg [(vi 8),vz,vz,vz,(.str [])]),(.agg [(vi 1),vz,vz,vz,(.str [])]),(.agg [(vi 1),vz,vz,vz,(.str [])])]),(.vec 2 [(.agg [(.str [80]),(vi 0)])]),(.cells 141 [(.hs (.gl 23) 5 5 0 5 false),(.hs (.gl 24) 2 1 0 1 false),vz]),(.vec 1 [(.str [97]),(.str [98])]),(.vec 1 [(.str [97]),(.str [98])]),(.vec 1 [(.str [97]),(.str [98])]),(.vec 4 [(.agg [(vi 0),(.str [114,101,99,111,114,100,32,97,32,98]),(.sl 1267656644858480399445744680964 1 [(vi 1),(vi 1)]),(.sl 1 1 [])]),(.agg [(vi 1),(.str [105,110,116,101,114,102,97,99,101]),(.sl 1 1 []),(.sl 1 1 [])]),(.agg [(vi 3),(.str [105,110,116]),(.sl 1 1 []),(.sl 1 1 [])])]),(.cells 99 [(.ptr (.gl 25) 0),(.sl 1208931584223251723714582 1 [(vi 0),(vi 1),(vi 1),(vi 2),(vi 2)]),(.hs (.gl 29) 4 3 0 3 true)]),(.vec 1 [(.str [97]),(.str [98])]),(.vec 1 [(.str [97]),(.str [98])])]
def vvC : Nat → List AV
  | 0 => [(vi 1),(vi 2),(vi 7),(.str []),vz]
  | k + 1 => [vi 4, vi 0, vi 0, .str [], .sl 1 5 [.agg (vvC k), .agg (vvC k)]]
def vv (k : Nat) : AV := .agg (vvC k)
def sz : Nat → Nat
  | 0 => 1
  | k + 1 => 2 * sz k + 10
noncomputable def EVS (k : Nat) : E := ⟨[⟨1, [(1, .cells 47 (vvC k), .none)], [1208931584223251724763138]⟩], glS, [1208931584223251723714582,1152923703637442594,1152923703637442592,1152923703637442590,1208928125465334979231746,1152923703633248264,1208928125465334970843138,1152923703636394004,1208926972537233294229568]⟩
noncomputable def preBR (n : Int) (m : Nat) : R := R.bind (fun fr e => run (callN tab intrS 2000) 2000 1 [] (catA lBS r0S) (sized n m fr) e) (preR n)
theorem preB_go (n : Int) (m : Nat) : preBR n m = .go ⟨frS n m, 5⟩ (EVS 0) := by kernel_rfl
noncomputable def sgS (n : Int) (m j : Nat) : Tm := ((((((((((((((((((((((((((((((frS n m).set s67 (.int .i64 (j : Nat)))).set s68 (.int .i64 (m : Nat)))).set s69 (.bool true))).set s72 (vi 0))).set s73 (vv (j)))).set s74 (vv (j)))).set s75 (.sl 1 5 [vv (j), vv (j)]))).set s76 (vv (j + 1)))).set s77 (.int .i64 (sz (j) : Nat)))).set s78 (.int .i64 (2 * sz (j) : Nat)))).set s79 (.int .i64 (sz (j + 1) : Nat)))).set s14 (.int .i64 (sz (j + 1) : Nat)))).set s70 (.int .i64 (j : Nat)))).set s71 (.int .i64 (j + 1 : Nat)))).set s15 (.int .i64 (j + 1 : Nat)))
noncomputable def frE (n : Int) (m : Nat) : Tm := match m with
  | 0 => ((((frS n 0).set s67 (.int .i64 (0 : Nat))).set s68 (.int .i64 (0 : Nat))).set s69 (.bool false))
  | k + 1 => ((((sgS n (k + 1) k).set s67 (.int .i64 (k + 1 : Nat))).set s68 (.int .i64 (k + 1 : Nat))).set s69 (.bool false))
end Go.Abs.Run
namespace Go.Abs.Run
open Go Go.Abs Go.Proofs
theorem size0 (n : Int) : retTrue s2 (run (callN tab intrS 2000) 2000 1 [] postS ⟨frE n 0, 5⟩ (EVS 0)) = true := by kernel_rfl
theorem size1 (n : Int) : retTrue s2 (run (callN tab intrS 2000) 2000 1 [] postS ⟨frE n 1, 5⟩ (EVS 1)) = true := by kernel_rfl
theorem size2 (n : Int) : retTrue s2 (run (callN tab intrS 2000) 2000 1 [] postS ⟨frE n 2, 5⟩ (EVS 2)) = true := by kernel_rfl
theorem size3 (n : Int) : retTrue s2 (run (callN tab intrS 2000) 2000 1 [] postS ⟨frE n 3, 5⟩ (EVS 3)) = true := by kernel_rfl
theorem size4 (n : Int) : retTrue s2 (run (callN tab intrS 2000) 2000 1 [] postS ⟨frE n 4, 5⟩ (EVS 4)) = true := by kernel_rfl
theorem size5 (n : Int) : retTrue s2 (run (callN tab intrS 2000) 2000 1 [] postS ⟨frE n 5, 5⟩ (EVS 5)) = true := by kernel_rfl
theorem size6 (n : Int) : retTrue s2 (run (callN tab intrS 2000) 2000 1 [] postS ⟨frE n 6, 5⟩ (EVS 6)) = true := by kernel_rfl
theorem size7 (n : Int) : retTrue s2 (run (callN tab intrS 2000) 2000 1 [] postS ⟨frE n 7, 5⟩ (EVS 7)) = true := by kernel_rfl
theorem size8 (n : Int) : retTrue s2 (run (callN tab intrS 2000) 2000 1 [] postS ⟨frE n 8, 5⟩ (EVS 8)) = true := by kernel_rfl
theorem size9 (n : Int) : retTrue s2 (run (callN tab intrS 2000) 2000 1 [] postS ⟨frE n 9, 5⟩ (EVS 9)) = true := by kernel_rfl
end Go.Abs.Run
namespace Go.Abs.Run
open Go Go.Abs Go.Proofs
attribute [local simp] oM oN oF oE oQ oP oG oL oR oC oX oS oY vi vj vu vz ci cu eI eS eB
attribute [local simp] s0 t0 s9 t9 s13 t13 s14 t14 s15 t15 s42 t42 s43 t43 s67 t67 s68 t68 s69 t69 s70 t70 s71 t71 s72 t72 s73 t73 s74 t74 s75 t75 s76 t76 s77 t77 s78 t78 s79 t79
theorem sz_le : ∀ k, k ≤ 9 → sz k ≤ 6000 := by decide
theorem vvC_form (k : Nat) : ∃ (a b c : Int) (l : Nat × List AV), vvC k = [.int .i64 a, .int .i64 b, .int .i64 c, .str [], .sl 1 l.1 l.2] := by
  cases k <;> exact ⟨_, _, _, (_, _), rfl⟩
theorem vv_succ (k : Nat) : vv (k + 1) = .agg [vi 4, vi 0, vi 0, .str [], .sl 1 5 [vv k, vv k]] := rfl
theorem EVS_psh (k : Nat) : EVS k = psh ⟨1, [(1, .cells 47 (vvC k), .none)], [1208931584223251724763138]⟩ ⟨[], glS, [1208931584223251723714582,1152923703637442594,1152923703637442592,1152923703637442590,1208928125465334979231746,1152923703633248264,1208928125465334970843138,1152923703636394004,1208926972537233294229568]⟩ := rfl
variable {call : CallT} {s : Tm} {c j m : Nat}
theorem roundS (h0 : s.get .e = .int .i64 m) (h1 : s.get (.l (.l (.l (.l .e)))) = .int .i64 j) (h2 : s.get (.l (.r (.l .e))) = vi 0) (h3 : s.get (.l (.r (.r .e))) = .ptr (.lo 1 0 1) 0) (h4 : s.get (.r (.r (.r .e))) = .int .i64 (sz j)) (hj : j < m) (hm : m ≤ 9) :
    runW call 1 [] b5x0 ⟨s, c⟩ (EVS j) = .go ⟨((((((((((((((((((((((((((((((s).set s67 (.int .i64 (j : Nat)))).set s68 (.int .i64 (m : Nat)))).set s69 (.bool true))).set s72 (vi 0))).set s73 (vv (j)))).set s74 (vv (j)))).set s75 (.sl 1 5 [vv (j), vv (j)]))).set s76 (vv (j + 1)))).set s77 (.int .i64 (sz (j) : Nat)))).set s78 (.int .i64 (2 * sz (j) : Nat)))).set s79 (.int .i64 (sz (j + 1) : Nat)))).set s14 (.int .i64 (sz (j + 1) : Nat)))).set s70 (.int .i64 (j : Nat)))).set s71 (.int .i64 (j + 1 : Nat)))).set s15 (.int .i64 (j + 1 : Nat))), c⟩ (EVS (j + 1)) := by
  have hj' : (j : Int) < m := by omega
  have hw : IntKind.i64.wrap ((j : Int) + 1) = (j : Int) + 1 := wrap_i64 (by omega) (by omega)
  have hz := sz_le j (by omega)
  have hz1 : IntKind.i64.wrap (2 * (sz j : Int)) = 2 * (sz j : Int) := wrap_i64 (by omega) (by omega)
  have hz2 : IntKind.i64.wrap (2 * (sz j : Int) + 10) = 2 * (sz j : Int) + 10 := wrap_i64 (by omega) (by omega)
  have hz3 : ((sz (j + 1) : Nat) : Int) = 2 * (sz j : Int) + 10 := by simp [sz]
  rw [EVS_psh, EVS_psh, vv_succ, hz3]
  have hsucc : vvC (j + 1) = [vi 4, vi 0, vi 0, .str [], .sl 1 5 [vv j, vv j]] := rfl
  rw [hsucc]
  obtain ⟨x, y, z, l, hv⟩ := vvC_form j
  have hvv : vv j = .agg (vvC j) := rfl
  rw [hvv, hv]
  simp [b5x0, Tm.get_set, h0, h1, h2, h3, h4, hj', hw, hz1, hz2]
theorem lastS (h0 : s.get .e = .int .i64 m) (h1 : s.get (.l (.l (.l (.l .e)))) = .int .i64 m) (e : E) :
    runW call 1 [] b5x0 ⟨s, c⟩ e = .exit 0 ⟨((((s).set s67 (.int .i64 (m : Nat))).set s68 (.int .i64 (m : Nat))).set s69 (.bool false)), c⟩ e := by
  simp [b5x0, Tm.get_set, h0, h1]
theorem roundsS (n : Int) (hm : m ≤ 9) : ∀ (d j : Nat), j + 1 + d = m → lp (runW call 1 [] b5x0) ⟨sgS n m j, c⟩ (EVS (j + 1)) = .exit 0 ⟨frE n m, c⟩ (EVS m)
  | 0, j, h => by
    subst h
    rw [lp_eq, lastS (s := sgS n (j + 1) j) (m := j + 1) rfl rfl]
    rfl
  | d + 1, j, h => by
    rw [lp_eq, roundS (s := sgS n m j) (j := j + 1) rfl rfl rfl rfl rfl (by omega) hm]
    exact roundsS n hm d (j + 1) (by omega)
theorem loopS (n : Int) (hm : m ≤ 9) : lp (runW call 1 [] b5x0) ⟨frS n m, c⟩ (EVS 0) = .exit 0 ⟨frE n m, c⟩ (EVS m) := by
  cases m with
  | zero => rw [lp_eq, lastS (s := frS n 0) (m := 0) rfl rfl]; rfl
  | succ k =>
    rw [lp_eq, roundS (s := frS n (k + 1)) (j := 0) rfl rfl rfl rfl rfl (by omega) hm]
    exact roundsS n hm k 0 (by omega)
end Go.Abs.Run
