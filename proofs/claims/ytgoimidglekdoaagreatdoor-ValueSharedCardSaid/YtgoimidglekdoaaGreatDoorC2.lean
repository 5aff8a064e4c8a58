/- Proved on the way to: ValueShared returns true whatever the memory, its listed package variables reading as the program's text lays them. -/
import Derived.Test.YtgoimidglekdoaaGreatDoorC1
set_option autoImplicit false
set_option linter.unusedSectionVars false
set_option linter.unusedSimpArgs false
set_option linter.unusedVariables false
namespace Go.Abs.Run
open Go Go.Abs Go.Proofs
def b152x0 : AC := (.seq (.seq (.reg [oM s7 t6,oM s8 t0,oN s9 t8,oF s10 2 t9,oL s11 t10,oP s12 (.len false t11),oQ s13 .lss t7 t12]) (.cond t13
 .skip
 (.exit 0))) (.seq (.blk 1 (.seq (.reg [oM s16 t1,oP s17 (.bin .neq eS t16 (.c (.str []))),oM s18 t17,⟨some s19,some (s18,true),(.p (.mov t0))⟩,⟨some s20,some (s18,true),(.p (.nilc t19))⟩,⟨some s21,some (s18,true),(.p (.fad 2 t20))⟩,⟨some s22,some (s18,true),(.r (.ld false 1 t21))⟩,⟨some s23,some (s18,true),(.p (.mov t6))⟩,⟨some s24,some (s18,true),(.p (.iad 10 t22 t23))⟩,⟨some s25,some (s18,true),(.p (.fad 1 t24))⟩,⟨some s26,some (s18,true),(.r (.ld false 1 t25))⟩,⟨some s27,some (s18,true),(.p (.mov t1))⟩,⟨some s28,some (s18,true),(.p (.bin .eql eS t26 t27))⟩,oP s29 (.pick t18 t28 (.c (.bool false)))]) (.cond t29
 (.reg [oM s30 t5,oM s31 t0,oN s32 t31,oF s33 2 t32,oL s34 t33,oM s35 t6,oP s36 (.iad 10 t34 t35),oF s37 2 t36,oL s38 t37,oP s39 (.bsl 1 1 (.str []) [(0,t38)]),oX s40 (.app 0 0 1 (.str []) 16 t30 t39) [],oM s5 t40])
 .skip))) (.reg [oM s14 t6,oQ s15 .add t14 (ci 1),oM s6 t15])))
def f152 : FI := ⟨(.seq (.reg [oM s4 (.c vz)]) (.seq (.reg [oM s5 (.c vz)]) (.seq (.seq (.reg [oM s6 (ci 0)]) (.blk 0 (.loop b152x0))) (.seq (.reg [oM s41 t5,oC s42 95 [t41],oM s4 t42]) .ret)))), 0, [.t s4], none⟩
def f154 : FI := ⟨(.seq (.reg [oM s4 (.c (.bool false))]) (.seq (.reg [oM s5 t1,oQ s6 .geq t5 (ci 0),oM s7 t6,⟨some s8,some (s7,true),(.p (.mov t1))⟩,⟨some s9,some (s7,true),(.p (.mov t0))⟩,⟨some s10,some (s7,true),(.p (.nilc t9))⟩,⟨some s11,some (s7,true),(.p (.fad 0 t10))⟩,⟨some s12,some (s7,true),(.r (.ld false 1 t11))⟩,⟨some s13,some (s7,true),(.p (.len false t12))⟩,⟨some s14,some (s7,true),(.p (.bin .lss eI t8 t13))⟩,oP s15 (.pick t7 t14 (.c (.bool false))),oM s4 t15]) .ret)), 0, [.t s4], none⟩
def b155x0 : AC := (.seq (.seq (.reg [oM s30 t6,oQ s31 .gtr t30 (ci 0),oM s32 t31,⟨some s33,some (s32,true),(.p (.fad 2 t1))⟩,⟨some s34,some (s32,true),(.r (.ld false 1 t33))⟩,⟨some s35,some (s32,true),(.p (.mov t3))⟩,⟨some s36,some (s32,true),(.p (.mov t6))⟩,⟨some s37,some (s32,true),(.p (.iad 1 t35 t36))⟩,⟨some s38,some (s32,true),(.r (.ldc t37))⟩,⟨some s39,some (s32,true),(.p (.iad 1 t34 t38))⟩,⟨some s40,some (s32,true),(.r (.ld false 1 t39))⟩,⟨some s41,some (s32,true),(.p (.fad 2 t1))⟩,⟨some s42,some (s32,true),(.r (.ld false 1 t41))⟩,⟨some s43,some (s32,true),(.p (.mov t3))⟩,⟨some s44,some (s32,true),(.p (.mov t6))⟩,⟨some s45,some (s32,true),(.p (.bin .sub eI t44 (ci 1)))⟩,⟨some s46,some (s32,true),(.p (.iad 1 t43 t45))⟩,⟨some s47,some (s32,true),(.r (.ldc t46))⟩,⟨some s48,some (s32,true),(.p (.iad 1 t42 t47))⟩,⟨some s49,some (s32,true),(.r (.ld false 1 t48))⟩,⟨some s50,some (s32,true),(.p (.bin .lss eS t40 t49))⟩,oP s51 (.pick t32 t50 (.c (.bool false)))]) (.cond t51
 .skip
 (.exit 4))) (.seq (.blk 5 (.reg [oM s54 t3,oM s55 t6,oM s56 t3,oM s57 t6,oQ s58 .sub t57 (ci 1),oM s59 t3,oM s60 t6,oQ s61 .sub t60 (ci 1),oP s62 (.iad 1 t59 t61),oG s63 t62,oM s64 t3,oM s65 t6,oP s66 (.iad 1 t64 t65),oG s67 t66,oP s68 (.iad 1 t54 t55),oS 1 t68 t63,oP s69 (.iad 1 t56 t58),oS 1 t69 t67])) (.reg [oM s52 t6,oQ s53 .sub t52 (ci 1),oM s6 t53])))
def b155x1 : AC := (.seq (.seq (.reg [oM s23 t5,oM s24 t3,oP s25 (.len false t24),oQ s26 .lss t23 t25]) (.cond t26
 .skip
 (.exit 2))) (.seq (.blk 3 (.seq (.reg [oM s29 t5,oM s6 t29]) (.blk 4 (.loop b155x0)))) (.reg [oM s27 t5,oQ s28 .add t27 (ci 1),oM s5 t28])))
def b155x2 : AC := (.seq (.seq (.reg [oM s7 t4,oF s8 1 t1,oL s9 t8,oP s10 (.len false t9),oQ s11 .lss t7 t10]) (.cond t11
 .skip
 (.exit 0))) (.seq (.blk 1 (.reg [oM s14 t3,oM s15 t4,oP s16 (.bsl 1 1 (vi 0) [(0,t15)]),oX s17 (.app 1 1 1 (vi 0) 8 t14 t16) [],oM s3 t17])) (.reg [oM s12 t4,oQ s13 .add t12 (ci 1),oM s4 t13])))
def f155 : FI := ⟨(.seq (.reg [oX s1 (.box 0 false 169 5 t0) [],oM s2 (.c vz)]) (.seq (.reg [oM s3 (.c vz)]) (.seq (.seq (.reg [oM s4 (ci 0)]) (.blk 0 (.loop b155x2))) (.seq (.seq (.reg [oF s18 2 t1,oL s19 t18,oP s20 (.len false t19),oQ s21 .eql t20 (ci 0)]) (.cond t21
 (.seq (.reg [oM s22 t3,oM s2 t22]) .ret)
 .skip)) (.seq (.seq (.reg [oM s5 (ci 1)]) (.blk 2 (.loop b155x1))) (.seq (.reg [oM s70 t3,oM s2 t70]) .ret)))))), 2, [.t s2], none⟩
def f156 : FI := ⟨(.seq (.reg [oM s2 (.c (.str []))]) (.seq (.seq (.reg [oM s3 t0,oQ s4 .lss t3 (ci 10)]) (.cond t4
 (.seq (.reg [oM s5 t0,oQ s6 .add (ci 48) t5,oP s7 (.cvi .u8 t6),oP s8 (.bsl 1 1 (vu 0) [(0,t7)]),oR s9 (.b2s t8),oM s2 t9]) .ret)
 .skip)) (.seq (.reg [oM s10 t0,oQ s11 .quo t10 (ci 10),oM s13 t0,oQ s14 .rem t13 (ci 10),oQ s15 .add (ci 48) t14,oP s16 (.cvi .u8 t15),oP s17 (.bsl 1 1 (vu 0) [(0,t16)]),oR s18 (.b2s t17),oX s12 (.call 156 [t11]) [(.l t17)],oP s19 (.bin .add eS t12 t18),oM s2 t19]) .ret))), 0, [.t s2], none⟩
def f157 : FI := ⟨(.seq (.reg [oX s4 (.new 0 false false (.cells 159 [(vi 0),vz,vz,vz,(.str [])])) []]) (.seq (.seq (.reg [oM s5 t1,oQ s6 .lss t5 (ci 0),oM s7 t6,⟨some s8,some (s7,false),(.p (.mov t1))⟩,⟨some s9,some (s7,false),(.p (.mov t0))⟩,⟨some s10,some (s7,false),(.p (.nilc t9))⟩,⟨some s11,some (s7,false),(.p (.fad 0 t10))⟩,⟨some s12,some (s7,false),(.r (.ld false 1 t11))⟩,⟨some s13,some (s7,false),(.p (.len false t12))⟩,⟨some s14,some (s7,false),(.p (.bin .geq eI t8 t13))⟩,oP s15 (.pick t7 (.c (.bool true)) t14)]) (.cond t15
 (.seq (.reg [oP s16 (.bld [(vi 0),vz,vz,vz,(.str [])] []),oS 5 t4 t16]) .ret)
 .skip)) (.seq (.reg [oM s17 t0,oN s18 t17,oF s19 0 t18,oL s20 t19,oM s21 t1,oP s22 (.iad 5 t20 t21),oR s23 (.ld true 5 t22),oS 5 t4 t23]) .ret))), 1, [.c true 5 s4], none⟩
def f158 : FI := ⟨(.seq (.reg [oM s4 (.c vz)]) (.seq (.reg [oP s5 (.bsl 0 1 (.str []) []),oM s6 t0,oM s7 t1,oC s8 157 [t6,t7],oP s9 (.fld false 2 1 t8),oX s10 (.app 0 2 1 (.str []) 16 t5 t9) [],oM s4 t10]) .ret)), 1, [.t s4], none⟩
def f159 : FI := ⟨(.seq (.reg [oM s3 t0,oP s4 (.len false t3),oM s2 t4]) (.reg [oM s5 t0,oM s6 t2,oM s7 t2,oP s8 (.cvi .u64 t7),oC s9 128 [t8],oC s10 215 [t5,(ci 0),t6,t9]])), 0, [], none⟩
def f160 : FI := ⟨(.seq (.reg [oM s4 (ci 0),oM s5 (.c .nili)]) (.seq (.reg [oM s6 t0,oC s7 216 [t6]]) (.seq (.reg [oM s8 t0,oM s9 t0,oN s10 t9,oF s11 1 t10,oL s12 t11,oM s13 t1,oX s14 (.app 0 0 1 (vu 0) 1 t12 t13) [],oN s15 t8,oF s16 1 t15,oS 1 t16 t14]) (.seq (.reg [oM s17 t1,oP s18 (.len true t17),oM s4 t18,oM s5 (.c .nili)]) .ret)))), 0, [.t s4,.t s5], none⟩
def f161 : FI := ⟨(.seq (.reg [oM s2 (.c (.str []))]) (.seq (.reg [oM s3 t0,oC s4 217 [t3],oM s2 t4]) .ret)), 0, [.t s2], none⟩
def f162 : FI := ⟨(.seq (.reg [oM s4 (.c .nili)]) (.seq (.reg [oM s5 t0,oC s6 216 [t5]]) (.seq (.reg [oM s7 t0,oM s8 t0,oN s9 t8,oF s10 1 t9,oL s11 t10,oM s12 t1,oP s13 (.bsl 1 1 (vu 0) [(0,t12)]),oX s14 (.app 0 0 1 (vu 0) 1 t11 t13) [],oN s15 t7,oF s16 1 t15,oS 1 t16 t14]) (.seq (.reg [oM s4 (.c .nili)]) .ret)))), 0, [.t s4], none⟩
def f163 : FI := ⟨(.seq (.reg [oM s2 (ci 0)]) (.seq (.reg [oM s3 t0,oN s4 t3,oF s5 1 t4,oL s6 t5,oP s7 (.len false t6),oM s2 t7]) .ret)), 0, [.t s2], none⟩
def b164x0 : AC := (.seq (.seq (.reg [oM s13 t7,oM s14 t8,oQ s15 .lss t13 t14]) (.cond t15
 .skip
 (.exit 0))) (.blk 1 (.seq (.reg [oM s16 t7,oM s17 t8,oQ s18 .add t16 t17,oP s19 (.cvi .u64 t18),oQ s20 .shr t19 (.c (.int .u64 (.ofNat 1))),oP s21 (.cvi .i64 t20),oM s9 t21]) (.seq (.reg [oM s22 t0,oM s23 t9,oP s24 (.iad 1 t22 t23),oL s25 t24,oM s26 t1,oC s27 218 [t25,t26]]) (.cond t27
 (.reg [oM s28 t9,oQ s29 .add t28 (ci 1),oM s7 t29])
 (.reg [oM s30 t9,oM s8 t30]))))))
def f164 : FI := ⟨(.seq (.reg [oM s4 (ci 0),oM s5 (.c (.bool false))]) (.seq (.reg [oM s10 t0,oP s11 (.len false t10),oM s6 t11]) (.seq (.reg [oM s12 t6,oM s7 (ci 0),oM s8 t12]) (.seq (.blk 0 (.loop b164x0)) (.seq (.reg [oM s31 t7,oM s32 t7,oM s33 t6,oQ s34 .lss t32 t33,oM s35 t34,⟨some s36,some (s35,true),(.p (.mov t0))⟩,⟨some s37,some (s35,true),(.p (.mov t7))⟩,⟨some s38,some (s35,true),(.p (.iad 1 t36 t37))⟩,⟨some s39,some (s35,true),(.r (.ld false 1 t38))⟩,⟨some s40,some (s35,true),(.p (.mov t1))⟩,⟨some s41,some (s35,true),(.p (.bin .eql eS t39 t40))⟩,⟨some s42,some (s35,true),(.p (.mov t41))⟩,⟨some s43,some (s42,false),(.p (.mov t0))⟩,⟨some s44,some (s42,false),(.p (.mov t7))⟩,⟨some s45,some (s42,false),(.p (.iad 1 t43 t44))⟩,⟨some s46,some (s42,false),(.r (.ld false 1 t45))⟩,⟨some s47,some (s42,false),(.e (.call 219 [t46]) [])⟩,⟨some s48,some (s42,false),(.p (.mov t47))⟩,⟨some s49,some (s48,true),(.p (.mov t1))⟩,⟨some s50,some (s48,true),(.e (.call 219 [t49]) [])⟩,⟨some s51,some (s42,false),(.p (.pick t48 t50 (.c (.bool false))))⟩,⟨some s52,some (s35,true),(.p (.pick t42 (.c (.bool true)) t51))⟩,oP s53 (.pick t35 t52 (.c (.bool false))),oM s4 t31,oM s5 t53]) .ret))))), 0, [.t s4,.t s5], none⟩
def b165x0 : AC := (.seq (.reg [oQ s12 .lss t11 t10]) (.seq (.cond t12
 .skip
 (.exit 0)) (.seq (.blk 1 (.seq (.reg [oM s13 t11,oP s14 (.iad 4 t9 t11),oR s15 (.ld true 4 t14),oX s6 (.new 1 false false (.cells 117 [(vi 0),(vi 0),(.str []),(vi 0)])) [],oM s5 t13,oS 4 t6 t15]) (.seq (.reg [oR s17 (.ld true 4 t6),oC s18 220 [t17],oM s16 t18,oE s19 t16 0,oE s20 t16 1,oM s7 t19,oM s8 t20]) (.seq (.seq (.reg [oM s21 t8,oP s22 (.un .not t21)]) (.cond t22
 (.seq (.reg [oM s2 (.c (.str [])),oM s3 (ci 1)]) .ret)
 .skip)) (.seq (.seq (.reg [oC s23 163 [t4],oQ s24 .gtr t23 (ci 65536)]) (.cond t24
 (.exit 1)
 .skip)) (.seq (.seq (.reg [oM s25 t5,oQ s26 .gtr t25 (ci 0)]) (.cond t26
 (.reg [oC s27 162 [t4,(cu 32)]])
 .skip)) (.reg [oM s28 t7,oC s29 160 [t4,t28]]))))))) (.reg [oQ s30 .add t11 (ci 1),oM s11 t30]))))
def f165 : FI := ⟨(.seq (.reg [oM s2 (.c (.str [])),oM s3 (ci 0)]) (.seq (.reg [oX s4 (.new 0 false false (.cells 203 [.nilp,vz])) []]) (.seq (.seq (.reg [oM s9 t0,oP s10 (.len false t9),oM s11 (ci 0)]) (.blk 0 (.loop b165x0))) (.seq (.blk 2 (.seq (.reg [oC s32 163 [t4],oQ s33 .gtr t32 (ci 65536),oM s31 t33]) (.cond t31
 (.seq (.reg [oM s2 (.c (.str [])),oM s3 (ci 2)]) .ret)
 (.seq (.reg [oM s35 t0,oP s36 (.len false t35),oQ s37 .gtr t36 (ci 4096),oM s34 t37]) (.cond t34
 (.seq (.reg [oM s2 (.c (.str [])),oM s3 (ci 3)]) .ret)
 .skip))))) (.seq (.reg [oC s38 103 [t4],oM s2 t38,oM s3 (ci 0)]) .ret))))), 2, [.t s2,.t s3], none⟩
def f166 : FI := ⟨(.seq (.reg [oM s2 (.c (.bool false))]) (.seq (.reg [oM s3 t0,oQ s4 .geq t3 (cu 97),oM s5 t4,⟨some s6,some (s5,true),(.p (.mov t0))⟩,⟨some s7,some (s5,true),(.p (.bin .leq eI t6 (cu 122)))⟩,oP s8 (.pick t5 t7 (.c (.bool false))),oM s2 t8]) .ret)), 0, [.t s2], none⟩
def f167 : FI := ⟨(.seq (.reg [oM s2 (.c (.bool false))]) (.seq (.reg [oM s3 t0,oQ s4 .geq t3 (cu 65),oM s5 t4,⟨some s6,some (s5,true),(.p (.mov t0))⟩,⟨some s7,some (s5,true),(.p (.bin .leq eI t6 (cu 90)))⟩,oP s8 (.pick t5 t7 (.c (.bool false))),oM s2 t8]) .ret)), 0, [.t s2], none⟩
def f168 : FI := ⟨(.seq (.reg [oM s2 (.c (.bool false))]) (.seq (.reg [oM s3 t0,oQ s4 .geq t3 (cu 48),oM s5 t4,⟨some s6,some (s5,true),(.p (.mov t0))⟩,⟨some s7,some (s5,true),(.p (.bin .leq eI t6 (cu 57)))⟩,oP s8 (.pick t5 t7 (.c (.bool false))),oM s2 t8]) .ret)), 0, [.t s2], none⟩
def f169 : FI := ⟨(.seq (.reg [oM s0 (.c vz)]) (.seq (.reg [oP s1 (.bsl 14 1 (.str []) [(0,(.c (.str [61,61]))),(1,(.c (.str [40]))),(2,(.c (.str [41]))),(3,(.c (.str [123]))),(4,(.c (.str [125]))),(5,(.c (.str [59]))),(6,(.c (.str [58]))),(7,(.c (.str [44]))),(8,(.c (.str [46]))),(9,(.c (.str [61]))),(10,(.c (.str [60]))),(11,(.c (.str [43]))),(12,(.c (.str [45]))),(13,(.c (.str [42])))]),oM s0 t1]) .ret)), 0, [.t s0], none⟩
def b170x0 : AC := (.seq (.seq (.reg [oM s9 t5,oM s10 t0,oP s11 (.len true t10),oQ s12 .lss t9 t11,oM s13 t12,⟨some s14,some (s13,true),(.p (.mov t0))⟩,⟨some s15,some (s13,true),(.p (.mov t5))⟩,⟨some s16,some (s13,true),(.p (.ixs t14 t15))⟩,⟨some s17,some (s13,true),(.e (.call 221 [t16]) [])⟩,oP s18 (.pick t13 t17 (.c (.bool false)))]) (.cond t18
 .skip
 (.exit 0))) (.blk 1 (.seq (.seq (.reg [oM s19 t5,oM s20 t1,oQ s21 .sub t19 t20,oQ s22 .eql t21 (ci 32)]) (.cond t22
 (.seq (.reg [oM s23 t5,oC s24 173 [(ci 2),t23],oS 7 t4 t24]) .ret)
 .skip)) (.reg [oM s25 t5,oQ s26 .add t25 (ci 1),oM s5 t26]))))
def f170 : FI := ⟨(.seq (.reg [oX s4 (.new 0 false false (.cells 211 [(vi 0),(vi 0),(.str []),(vi 0),(vi 0),(vi 0),(vi 0)])) []]) (.seq (.reg [oM s8 t1,oM s5 t8]) (.seq (.blk 0 (.loop b170x0)) (.seq (.reg [oM s27 t0,oM s28 t1,oM s29 t5,oP s30 (.sls true 0 t27 (some t28) (some t29) none),oM s6 t30]) (.seq (.reg [oM s31 t6,oP s32 (.bld [(vi 0),(vi 0),(.str []),(vi 0)] [(1,1,(ci 1)),(2,1,t31)]),oX s7 (.new 1 false false (.cells 117 [(vi 0),(vi 0),(.str []),(vi 0)])) [],oS 4 t7 t32]) (.seq (.reg [oM s33 t1,oF s34 0 t7,oF s35 0 t34,oS 1 t35 t33]) (.seq (.seq (.reg [oM s36 t0,oM s37 t1,oP s38 (.ixs t36 t37),oC s39 167 [t38]]) (.cond t39
 (.reg [oF s40 1 t7,oS 1 t40 (ci 2)])
 (.seq (.reg [oM s41 t6,oC s42 222 [t41]]) (.cond t42
 (.reg [oF s43 1 t7,oS 1 t43 (ci 3)])
 .skip)))) (.seq (.reg [oR s44 (.ld true 4 t7),oM s45 t5,oP s46 (.bld [(vi 0),(vi 0),(.str []),(vi 0),(vi 0),(vi 0),(vi 0)] [(0,4,t44),(4,1,t45)]),oS 7 t4 t46]) .ret)))))))), 2, [.c true 7 s4], none⟩
def b177x0 : AC := (.seq (.seq (.reg [oM s58 t8,oM s59 t0,oM s60 t6,oP s61 (.iad 7 t59 t60),oF s62 4 t61,oL s63 t62,oP s64 (.len false t63),oQ s65 .lss t58 t64,oM s66 t65,⟨some s67,some (s66,true),(.p (.mov t5))⟩,⟨some s68,some (s66,true),(.p (.mov t1))⟩,⟨some s69,some (s66,true),(.p (.bin .lss eI t67 t68))⟩,oP s70 (.pick t66 t69 (.c (.bool false)))]) (.cond t70
 .skip
 (.exit 4))) (.seq (.blk 5 (.reg [oM s73 t5,oM s74 t0,oM s75 t6,oP s76 (.iad 7 t74 t75),oF s77 4 t76,oL s78 t77,oM s79 t8,oP s80 (.iad 7 t78 t79),oR s81 (.ld true 7 t80),oM s82 t1,oM s83 t5,oQ s84 .sub t82 t83,oC s85 226 [t81,t84],oQ s86 .add t73 t85,oM s5 t86])) (.reg [oM s71 t8,oQ s72 .add t71 (ci 1),oM s8 t72])))
def b177x1 : AC := (.seq (.seq (.reg [oM s29 t7,oM s30 t0,oM s31 t6,oP s32 (.iad 7 t30 t31),oF s33 3 t32,oL s34 t33,oP s35 (.len false t34),oQ s36 .lss t29 t35,oM s37 t36,⟨some s38,some (s37,true),(.p (.mov t5))⟩,⟨some s39,some (s37,true),(.p (.mov t1))⟩,⟨some s40,some (s37,true),(.p (.bin .lss eI t38 t39))⟩,oP s41 (.pick t37 t40 (.c (.bool false)))]) (.cond t41
 .skip
 (.exit 2))) (.seq (.blk 3 (.reg [oM s44 t5,oM s45 t0,oM s46 t6,oP s47 (.iad 7 t45 t46),oF s48 3 t47,oL s49 t48,oM s50 t7,oP s51 (.iad 5 t49 t50),oR s52 (.ld true 5 t51),oM s53 t1,oM s54 t5,oQ s55 .sub t53 t54,oC s56 118 [t52,t55],oQ s57 .add t44 t56,oM s5 t57])) (.reg [oM s42 t7,oQ s43 .add t42 (ci 1),oM s7 t43])))
def b177x2 : AC := (.seq (.seq (.reg [oM s9 t6,oM s10 t0,oP s11 (.len false t10),oQ s12 .lss t9 t11,oM s13 t12,⟨some s14,some (s13,true),(.p (.mov t5))⟩,⟨some s15,some (s13,true),(.p (.mov t1))⟩,⟨some s16,some (s13,true),(.p (.bin .lss eI t14 t15))⟩,oP s17 (.pick t13 t16 (.c (.bool false)))]) (.cond t17
 .skip
 (.exit 0))) (.seq (.blk 1 (.seq (.reg [oM s20 t5,oQ s21 .add t20 (ci 1),oM s22 t0,oM s23 t6,oP s24 (.iad 7 t22 t23),oF s25 2 t24,oL s26 t25,oP s27 (.len true t26),oQ s28 .add t21 t27,oM s5 t28]) (.seq (.seq (.reg [oM s7 (ci 0)]) (.blk 2 (.loop b177x1))) (.seq (.seq (.reg [oM s8 (ci 0)]) (.blk 4 (.loop b177x0))) (.seq (.seq (.reg [oM s87 t5,oM s88 t1,oQ s89 .lss t87 t88]) (.cond t89
 (.reg [oM s90 t5,oM s91 t0,oM s92 t6,oP s93 (.iad 7 t91 t92),oF s94 5 t93,oL s95 t94,oM s96 t1,oM s97 t5,oQ s98 .sub t96 t97,oC s99 177 [t95,t98],oQ s100 .add t90 t99,oM s5 t100])
 .skip)) (.seq (.reg [oM s101 t5,oM s102 t1,oQ s103 .lss t101 t102]) (.cond t103
 (.reg [oM s104 t5,oM s105 t0,oM s106 t6,oP s107 (.iad 7 t105 t106),oF s108 6 t107,oL s109 t108,oM s110 t1,oM s111 t5,oQ s112 .sub t110 t111,oC s113 177 [t109,t112],oQ s114 .add t104 t113,oM s5 t114])
 .skip))))))) (.reg [oM s18 t6,oQ s19 .add t18 (ci 1),oM s6 t19])))
def f177 : FI := ⟨(.seq (.reg [oM s4 (ci 0)]) (.seq (.reg [oM s5 (ci 0)]) (.seq (.seq (.reg [oM s6 (ci 0)]) (.blk 0 (.loop b177x2))) (.seq (.reg [oM s115 t5,oM s4 t115]) .ret)))), 0, [.t s4], none⟩
def b178x0 : AC := (.seq (.reg [oQ s116 .lss t115 t114]) (.seq (.cond t116
 .skip
 (.exit 3)) (.seq (.blk 4 (.seq (.reg [oP s117 (.iad 5 t113 t115),oR s118 (.ld true 5 t117),oX s12 (.new 2 false false (.cells 36 [(vi 0),(.str []),vz,vz,vz])) [],oS 5 t12 t118]) (.seq (.reg [oF s119 0 t12,oG s120 t119,oQ s121 .neq t120 (ci 7)]) (.cond t121
 (.seq (.reg [oM s4 (.c (.bool false))]) .ret)
 .skip)))) (.reg [oQ s122 .add t115 (ci 1),oM s115 t122]))))
def b178x1 : AC := (.seq (.reg [oQ s19 .lss t18 t17]) (.seq (.cond t19
 .skip
 (.exit 0)) (.seq (.blk 1 (.seq (.reg [oP s20 (.iad 5 t16 t18),oR s21 (.ld true 5 t20),oX s6 (.new 1 false false (.cells 36 [(vi 0),(.str []),vz,vz,vz])) [],oS 5 t6 t21]) (.seq (.reg [oR s22 (.ld true 5 t6),oM s23 t1,oQ s24 .sub t23 (ci 1),oC s25 178 [t22,t24],oP s26 (.un .not t25)]) (.cond t26
 (.seq (.reg [oM s4 (.c (.bool false))]) .ret)
 .skip)))) (.reg [oQ s27 .add t18 (ci 1),oM s18 t27]))))
def f178 : FI := ⟨(.seq (.reg [oX s2 (.box 0 false 36 5 t0) [],oM s4 (.c (.bool false))]) (.seq (.seq (.reg [oM s13 t1,oQ s14 .eql t13 (ci 0)]) (.cond t14
 (.seq (.reg [oM s4 (.c (.bool false))]) .ret)
 .skip)) (.seq (.seq (.reg [oF s15 4 t2,oL s16 t15,oP s17 (.len false t16),oM s18 (ci 0)]) (.blk 0 (.loop b178x1))) (.seq (.reg [oF s28 4 t2,oL s29 t28,oP s30 (.len false t29),oF s31 2 t2,oL s32 t31,oP s33 (.len false t32),oF s34 3 t2,oL s35 t34,oP s36 (.len false t35),oM s7 t30,oM s8 t33,oM s9 t36]) (.seq (.reg [oF s37 1 t2,oL s38 t37,oP s39 (.bin .eql eS t38 (.c (.str []))),oM s40 t39,⟨some s41,some (s40,true),(.p (.mov t8))⟩,⟨some s42,some (s40,true),(.p (.bin .eql eI t41 (ci 0)))⟩,oP s43 (.pick t40 t42 (.c (.bool false))),oM s44 t43,⟨some s45,some (s44,true),(.p (.mov t9))⟩,⟨some s46,some (s44,true),(.p (.bin .eql eI t45 (ci 0)))⟩,oP s47 (.pick t44 t46 (.c (.bool false))),oM s10 t47]) (.seq (.seq (.reg [oF s48 0 t2,oG s49 t48]) (.blk 2 (.seq (.seq (.reg [oQ s51 .eql t49 (ci 1),oM s50 t51]) (.cond t50
 .skip
 (.seq (.reg [oQ s52 .eql t49 (ci 2),oM s50 t52]) (.cond t50
 .skip
 (.reg [oQ s53 .eql t49 (ci 3),oM s50 t53]))))) (.cond t50
 (.seq (.reg [oM s54 t10,oM s55 t54,⟨some s56,some (s55,true),(.p (.mov t7))⟩,⟨some s57,some (s55,true),(.p (.bin .eql eI t56 (ci 0)))⟩,oP s58 (.pick t55 t57 (.c (.bool false))),oM s4 t58]) .ret)
 (.seq (.reg [oQ s60 .eql t49 (ci 4),oM s59 t60]) (.cond t59
 (.seq (.reg [oF s61 1 t2,oL s62 t61,oC s63 227 [t62],oM s64 t63,⟨some s65,some (s64,true),(.p (.mov t8))⟩,⟨some s66,some (s64,true),(.p (.bin .eql eI t65 (ci 0)))⟩,oP s67 (.pick t64 t66 (.c (.bool false))),oM s68 t67,⟨some s69,some (s68,true),(.p (.mov t9))⟩,⟨some s70,some (s68,true),(.p (.bin .eql eI t69 (ci 0)))⟩,oP s71 (.pick t68 t70 (.c (.bool false))),oM s72 t71,⟨some s73,some (s72,true),(.p (.mov t7))⟩,⟨some s74,some (s72,true),(.p (.bin .eql eI t73 (ci 0)))⟩,oP s75 (.pick t72 t74 (.c (.bool false))),oM s4 t75]) .ret)
 (.seq (.reg [oQ s77 .eql t49 (ci 5),oM s76 t77]) (.cond t76
 (.seq (.reg [oM s78 t10,oM s79 t78,⟨some s80,some (s79,true),(.p (.mov t7))⟩,⟨some s81,some (s79,true),(.p (.bin .eql eI t80 (ci 1)))⟩,oP s82 (.pick t79 t81 (.c (.bool false))),oM s4 t82]) .ret)
 (.seq (.reg [oQ s84 .eql t49 (ci 7),oM s83 t84]) (.cond t83
 (.seq (.reg [oM s85 t10,oM s86 t85,⟨some s87,some (s86,true),(.p (.mov t7))⟩,⟨some s88,some (s86,true),(.p (.bin .geq eI t87 (ci 1)))⟩,oP s89 (.pick t86 t88 (.c (.bool false))),oM s4 t89]) .ret)
 (.seq (.reg [oQ s91 .eql t49 (ci 6),oM s90 t91]) (.cond t90
 (.seq (.reg [oF s92 1 t2,oL s93 t92,oP s94 (.bin .eql eS t93 (.c (.str []))),oM s95 t94,⟨some s96,some (s95,true),(.p (.mov t9))⟩,⟨some s97,some (s95,true),(.p (.mov t8))⟩,⟨some s98,some (s95,true),(.p (.bin .eql eI t96 t97))⟩,oP s99 (.pick t95 t98 (.c (.bool false))),oM s100 t99,⟨some s101,some (s100,true),(.p (.mov t7))⟩,⟨some s102,some (s100,true),(.p (.mov t8))⟩,⟨some s103,some (s100,true),(.p (.bin .eql eI t101 t102))⟩,oP s104 (.pick t100 t103 (.c (.bool false))),oM s105 t104,⟨some s106,some (s105,true),(.p (.fad 2 t2))⟩,⟨some s107,some (s105,true),(.r (.ld false 1 t106))⟩,⟨some s108,some (s105,true),(.e (.call 228 [t107]) [])⟩,oP s109 (.pick t105 t108 (.c (.bool false))),oM s4 t109]) .ret)
 (.seq (.reg [oQ s111 .eql t49 (ci 8),oM s110 t111]) (.cond t110
 (.seq (.seq (.reg [oF s112 4 t2,oL s113 t112,oP s114 (.len false t113),oM s115 (ci 0)]) (.blk 3 (.loop b178x0))) (.seq (.reg [oF s123 1 t2,oL s124 t123,oP s125 (.bin .eql eS t124 (.c (.str []))),oM s126 t125,⟨some s127,some (s126,true),(.p (.mov t9))⟩,⟨some s128,some (s126,true),(.p (.bin .eql eI t127 (ci 0)))⟩,oP s129 (.pick t126 t128 (.c (.bool false))),oM s130 t129,⟨some s131,some (s130,true),(.p (.mov t7))⟩,⟨some s132,some (s130,true),(.p (.mov t8))⟩,⟨some s133,some (s130,true),(.p (.bin .eql eI t131 t132))⟩,oP s134 (.pick t130 t133 (.c (.bool false))),oM s135 t134,⟨some s136,some (s135,true),(.p (.fad 2 t2))⟩,⟨some s137,some (s135,true),(.r (.ld false 1 t136))⟩,⟨some s138,some (s135,true),(.e (.call 228 [t137]) [])⟩,oP s139 (.pick t135 t138 (.c (.bool false))),oM s4 t139]) .ret))
 .skip)))))))))))))) (.seq (.reg [oM s4 (.c (.bool false))]) .ret))))))), 3, [.t s4], none⟩
def b179x0 : AC := (.seq (.reg [oQ s123 .lss t122 t121]) (.seq (.cond t123
 .skip
 (.exit 3)) (.seq (.blk 4 (.seq (.reg [oM s124 t122,oP s125 (.iad 5 t120 t122),oR s126 (.ld true 5 t125),oX s7 (.new 2 false false (.cells 36 [(vi 0),(.str []),vz,vz,vz])) [],oM s6 t124,oS 5 t7 t126]) (.seq (.reg [oM s127 t0,oN s128 t127,oF s129 0 t128,oF s130 2 t3,oL s131 t130,oM s132 t6,oP s133 (.iad 1 t131 t132),oL s134 t133,oP s135 (.bsl 1 1 (.str []) [(0,t134)]),oC s136 229 [t129,t135]]) (.seq (.reg [oM s137 t0,oR s138 (.ld true 5 t7),oC s139 230 [t137,t138]]) (.reg [oM s140 t0,oN s141 t140,oF s142 0 t141,oP s143 (.bsl 1 1 (.str []) [(0,(.c (.str [59])))]),oC s144 229 [t142,t143]]))))) (.reg [oQ s145 .add t122 (ci 1),oM s122 t145]))))
def b179x1 : AC := (.seq (.reg [oQ s64 .lss t63 t62]) (.seq (.cond t64
 .skip
 (.exit 1)) (.seq (.blk 2 (.seq (.reg [oM s65 t63,oP s66 (.iad 5 t61 t63),oR s67 (.ld true 5 t66),oX s5 (.new 1 false false (.cells 36 [(vi 0),(.str []),vz,vz,vz])) [],oM s4 t65,oS 5 t5 t67]) (.seq (.seq (.reg [oF s68 3 t3,oL s69 t68,oM s70 t4,oP s71 (.iad 1 t69 t70),oG s72 t71]) (.cond t72
 (.reg [oM s73 t0,oN s74 t73,oF s75 0 t74,oP s76 (.bsl 1 1 (.str []) [(0,(.c (.str [101,109,98,101,100])))]),oC s77 229 [t75,t76]])
 .skip)) (.seq (.reg [oM s78 t0,oN s79 t78,oF s80 0 t79,oF s81 2 t3,oL s82 t81,oM s83 t4,oP s84 (.iad 1 t82 t83),oL s85 t84,oP s86 (.bsl 1 1 (.str []) [(0,t85)]),oC s87 229 [t80,t86]]) (.seq (.reg [oM s88 t0,oR s89 (.ld true 5 t5),oC s90 179 [t88,t89]]) (.reg [oM s91 t0,oN s92 t91,oF s93 0 t92,oP s94 (.bsl 1 1 (.str []) [(0,(.c (.str [59])))]),oC s95 229 [t93,t94]])))))) (.reg [oQ s96 .add t63 (ci 1),oM s63 t96]))))
def f179 : FI := ⟨(.seq (.reg [oX s3 (.box 0 false 36 5 t1) []]) (.seq (.reg [oF s8 0 t3,oG s9 t8]) (.blk 0 (.seq (.reg [oQ s11 .eql t9 (ci 1),oM s10 t11]) (.cond t10
 (.reg [oM s12 t0,oN s13 t12,oF s14 0 t13,oP s15 (.bsl 1 1 (.str []) [(0,(.c (.str [105,110,116])))]),oC s16 229 [t14,t15]])
 (.seq (.reg [oQ s18 .eql t9 (ci 2),oM s17 t18]) (.cond t17
 (.reg [oM s19 t0,oN s20 t19,oF s21 0 t20,oP s22 (.bsl 1 1 (.str []) [(0,(.c (.str [98,111,111,108])))]),oC s23 229 [t21,t22]])
 (.seq (.reg [oQ s25 .eql t9 (ci 3),oM s24 t25]) (.cond t24
 (.reg [oM s26 t0,oN s27 t26,oF s28 0 t27,oP s29 (.bsl 1 1 (.str []) [(0,(.c (.str [116,101,120,116])))]),oC s30 229 [t28,t29]])
 (.seq (.reg [oQ s32 .eql t9 (ci 4),oM s31 t32]) (.cond t31
 (.reg [oM s33 t0,oN s34 t33,oF s35 0 t34,oF s36 1 t3,oL s37 t36,oP s38 (.bsl 1 1 (.str []) [(0,t37)]),oC s39 229 [t35,t38]])
 (.seq (.reg [oQ s41 .eql t9 (ci 5),oM s40 t41]) (.cond t40
 (.seq (.reg [oM s42 t0,oN s43 t42,oF s44 0 t43,oP s45 (.bsl 1 1 (.str []) [(0,(.c (.str [42])))]),oC s46 229 [t44,t45]]) (.reg [oM s47 t0,oF s48 4 t3,oL s49 t48,oP s50 (.iad 5 t49 (ci 0)),oR s51 (.ld true 5 t50),oC s52 179 [t47,t51]]))
 (.seq (.reg [oQ s54 .eql t9 (ci 6),oM s53 t54]) (.cond t53
 (.seq (.reg [oM s55 t0,oN s56 t55,oF s57 0 t56,oP s58 (.bsl 1 1 (.str []) [(0,(.c (.str [123])))]),oC s59 229 [t57,t58]]) (.seq (.seq (.reg [oF s60 4 t3,oL s61 t60,oP s62 (.len false t61),oM s63 (ci 0)]) (.blk 1 (.loop b179x1))) (.reg [oM s97 t0,oN s98 t97,oF s99 0 t98,oP s100 (.bsl 1 1 (.str []) [(0,(.c (.str [125])))]),oC s101 229 [t99,t100]])))
 (.seq (.reg [oQ s103 .eql t9 (ci 7),oM s102 t103]) (.cond t102
 (.seq (.reg [oM s104 t0,oN s105 t104,oF s106 0 t105,oP s107 (.bsl 1 1 (.str []) [(0,(.c (.str [102,110])))]),oC s108 229 [t106,t107]]) (.reg [oM s109 t0,oR s110 (.ld true 5 t3),oC s111 230 [t109,t110]]))
 (.seq (.reg [oQ s113 .eql t9 (ci 8),oM s112 t113]) (.cond t112
 (.seq (.reg [oM s114 t0,oN s115 t114,oF s116 0 t115,oP s117 (.bsl 2 1 (.str []) [(0,(.c (.str [105,110,116,101,114,102,97,99,101]))),(1,(.c (.str [123])))]),oC s118 229 [t116,t117]]) (.seq (.seq (.reg [oF s119 4 t3,oL s120 t119,oP s121 (.len false t120),oM s122 (ci 0)]) (.blk 3 (.loop b179x0))) (.reg [oM s146 t0,oN s147 t146,oF s148 0 t147,oP s149 (.bsl 1 1 (.str []) [(0,(.c (.str [125])))]),oC s150 229 [t148,t149]])))
 .skip))))))))))))))))))), 3, [], none⟩
def f180 : FI := ⟨(.seq (.reg [oM s4 (.c (.str [])),oM s5 (ci 0)]) (.seq (.blk 0 (.seq (.reg [oM s7 t1,oP s8 (.un .not t7),oM s6 t8]) (.cond t6
 (.seq (.reg [oM s4 (.c (.str [])),oM s5 (ci 1)]) .ret)
 (.seq (.reg [oM s10 t0,oN s11 t10,oF s12 0 t11,oC s13 163 [t12],oQ s14 .gtr t13 (ci 65536),oM s9 t14]) (.cond t9
 (.seq (.reg [oM s4 (.c (.str [])),oM s5 (ci 2)]) .ret)
 (.seq (.reg [oM s16 t0,oN s17 t16,oF s18 2 t17,oG s19 t18,oQ s20 .gtr t19 (ci 4096),oM s15 t20]) (.cond t15
 (.seq (.reg [oM s4 (.c (.str [])),oM s5 (ci 3)]) .ret)
 .skip))))))) (.seq (.reg [oM s21 t0,oN s22 t21,oF s23 0 t22,oC s24 103 [t23],oM s4 t24,oM s5 (ci 0)]) .ret))), 0, [.t s4,.t s5], none⟩
def f184 : FI := ⟨(.seq (.reg [oM s2 (.c vz)]) (.seq (.reg [oX s3 (.new 0 false false (.cells 32 [vz])) []]) (.seq (.reg [oX s5 (.new 1 false true (.map [])) [],oX s4 (.new 2 false false (.cells 142 [.nilm])) [],oS 1 t4 t5]) (.seq (.reg [oM s6 t0,oP s7 (.mkf 236 [] [t4,t3]),oC s8 235 [t6,t7]]) (.seq (.reg [oL s9 t3,oL s10 t3,oP s11 (.len false t10),oL s12 t3,oP s13 (.len false t12),oP s14 (.sls false 1 t9 none (some t11) (some t13)),oM s2 t14]) .ret))))), 3, [.t s2], none⟩
def b186x0 : AC := (.seq (.seq (.reg [oM s18 t9,oM s19 t1,oQ s20 .gtr t18 t19,oM s21 t20,⟨some s22,some (s21,true),(.p (.mov t3))⟩,⟨some s23,some (s21,true),(.p (.mov t0))⟩,⟨some s24,some (s21,true),(.p (.mov t9))⟩,⟨some s25,some (s21,true),(.p (.iad 2 t23 t24))⟩,⟨some s26,some (s21,true),(.r (.ld true 2 t25))⟩,⟨some s27,some (s21,true),(.p (.mov t0))⟩,⟨some s28,some (s21,true),(.p (.mov t9))⟩,⟨some s29,some (s21,true),(.p (.bin .sub eI t28 (ci 1)))⟩,⟨some s30,some (s21,true),(.p (.iad 2 t27 t29))⟩,⟨some s31,some (s21,true),(.r (.ld true 2 t30))⟩,⟨some s32,some (s21,true),(.e (.callv t22 [t26,t31]) [])⟩,⟨some s33,some (s21,true),(.p (.bin .lss eI t32 (ci 0)))⟩,oP s34 (.pick t21 t33 (.c (.bool false)))]) (.cond t34
 .skip
 (.exit 2))) (.seq (.blk 3 (.reg [oM s37 t0,oM s38 t9,oM s39 t0,oM s40 t9,oQ s41 .sub t40 (ci 1),oM s42 t0,oM s43 t9,oQ s44 .sub t43 (ci 1),oP s45 (.iad 2 t42 t44),oR s46 (.ld true 2 t45),oM s47 t0,oM s48 t9,oP s49 (.iad 2 t47 t48),oR s50 (.ld true 2 t49),oP s51 (.iad 2 t37 t38),oS 2 t51 t46,oP s52 (.iad 2 t39 t41),oS 2 t52 t50])) (.reg [oM s35 t9,oQ s36 .sub t35 (ci 1),oM s9 t36])))
def b186x1 : AC := (.seq (.seq (.reg [oM s12 t8,oM s13 t2,oQ s14 .lss t12 t13]) (.cond t14
 .skip
 (.exit 0))) (.seq (.blk 1 (.seq (.reg [oM s17 t8,oM s9 t17]) (.blk 2 (.loop b186x0)))) (.reg [oM s15 t8,oQ s16 .add t15 (ci 1),oM s8 t16])))
def f186 : FI := ⟨(.seq (.reg [oM s10 t1,oQ s11 .add t10 (ci 1),oM s8 t11]) (.blk 0 (.loop b186x1))), 0, [], none⟩
def f195 : FI := ⟨(.seq (.reg [oM s2 (ci 0)]) (.seq (.seq (.reg [oM s3 t0,oQ s4 .geq t3 (.c (.int .u64 (.ofNat 4294967296)))]) (.cond t4
 (.seq (.reg [oM s5 t0,oQ s6 .shr t5 (.c (.int .u64 (.ofNat 32))),oM s0 t6]) (.reg [oM s2 (ci 32)]))
 .skip)) (.seq (.seq (.reg [oM s7 t0,oQ s8 .geq t7 (.c (.int .u64 (.ofNat 65536)))]) (.cond t8
 (.seq (.reg [oM s9 t0,oQ s10 .shr t9 (.c (.int .u64 (.ofNat 16))),oM s0 t10]) (.reg [oM s11 t2,oQ s12 .add t11 (ci 16),oM s2 t12]))
 .skip)) (.seq (.seq (.reg [oM s13 t0,oQ s14 .geq t13 (.c (.int .u64 (.ofNat 256)))]) (.cond t14
 (.seq (.reg [oM s15 t0,oQ s16 .shr t15 (.c (.int .u64 (.ofNat 8))),oM s0 t16]) (.reg [oM s17 t2,oQ s18 .add t17 (ci 8),oM s2 t18]))
 .skip)) (.seq (.reg [oM s19 t2,oM s20 t0,oP s21 (.cvi .u8 t20),oP s22 (.ixs (.c (.str [0,1,2,2,3,3,3,3,4,4,4,4,4,4,4,4,5,5,5,5,5,5,5,5,5,5,5,5,5,5,5,5,6,6,6,6,6,6,6,6,6,6,6,6,6,6,6,6,6,6,6,6,6,6,6,6,6,6,6,6,6,6,6,6,7,7,7,7,7,7,7,7,7,7,7,7,7,7,7,7,7,7,7,7,7,7,7,7,7,7,7,7,7,7,7,7,7,7,7,7,7,7,7,7,7,7,7,7,7,7,7,7,7,7,7,7,7,7,7,7,7,7,7,7,7,7,7,7,8,8,8,8,8,8,8,8,8,8,8,8,8,8,8,8,8,8,8,8,8,8,8,8,8,8,8,8,8,8,8,8,8,8,8,8,8,8,8,8,8,8,8,8,8,8,8,8,8,8,8,8,8,8,8,8,8,8,8,8,8,8,8,8,8,8,8,8,8,8,8,8,8,8,8,8,8,8,8,8,8,8,8,8,8,8,8,8,8,8,8,8,8,8,8,8,8,8,8,8,8,8,8,8,8,8,8,8,8,8,8,8,8,8,8,8,8,8,8,8,8,8,8,8,8,8,8,8])) t21),oP s23 (.cvi .i64 t22),oQ s24 .add t19 t23,oM s2 t24]) .ret))))), 0, [.t s2], none⟩
def b196x0 : AC := (.seq (.seq (.reg [oM s18 t9,oM s19 t1,oQ s20 .gtr t18 t19,oM s21 t20,⟨some s22,some (s21,true),(.p (.mov t3))⟩,⟨some s23,some (s21,true),(.p (.mov t0))⟩,⟨some s24,some (s21,true),(.p (.mov t9))⟩,⟨some s25,some (s21,true),(.p (.iad 3 t23 t24))⟩,⟨some s26,some (s21,true),(.r (.ld true 3 t25))⟩,⟨some s27,some (s21,true),(.p (.mov t0))⟩,⟨some s28,some (s21,true),(.p (.mov t9))⟩,⟨some s29,some (s21,true),(.p (.bin .sub eI t28 (ci 1)))⟩,⟨some s30,some (s21,true),(.p (.iad 3 t27 t29))⟩,⟨some s31,some (s21,true),(.r (.ld true 3 t30))⟩,⟨some s32,some (s21,true),(.e (.callv t22 [t26,t31]) [])⟩,⟨some s33,some (s21,true),(.p (.bin .lss eI t32 (ci 0)))⟩,oP s34 (.pick t21 t33 (.c (.bool false)))]) (.cond t34
 .skip
 (.exit 2))) (.seq (.blk 3 (.reg [oM s37 t0,oM s38 t9,oM s39 t0,oM s40 t9,oQ s41 .sub t40 (ci 1),oM s42 t0,oM s43 t9,oQ s44 .sub t43 (ci 1),oP s45 (.iad 3 t42 t44),oR s46 (.ld true 3 t45),oM s47 t0,oM s48 t9,oP s49 (.iad 3 t47 t48),oR s50 (.ld true 3 t49),oP s51 (.iad 3 t37 t38),oS 3 t51 t46,oP s52 (.iad 3 t39 t41),oS 3 t52 t50])) (.reg [oM s35 t9,oQ s36 .sub t35 (ci 1),oM s9 t36])))
def b196x1 : AC := (.seq (.seq (.reg [oM s12 t8,oM s13 t2,oQ s14 .lss t12 t13]) (.cond t14
 .skip
 (.exit 0))) (.seq (.blk 1 (.seq (.reg [oM s17 t8,oM s9 t17]) (.blk 2 (.loop b196x0)))) (.reg [oM s15 t8,oQ s16 .add t15 (ci 1),oM s8 t16])))
def f196 : FI := ⟨(.seq (.reg [oM s10 t1,oQ s11 .add t10 (ci 1),oM s8 t11]) (.blk 0 (.loop b196x1))), 0, [], none⟩
def b204x0 : AC := (.seq (.seq (.reg [oM s92 t9,oM s93 t8,oP s94 (.len false t93),oQ s95 .lss t92 t94]) (.cond t95
 .skip
 (.exit 3))) (.seq (.blk 4 (.seq (.reg [oM s98 t8,oM s99 t9,oP s100 (.iad 1 t98 t99),oL s101 t100,oF s102 2 t1,oL s103 t102,oP s104 (.bin .eql eS t101 t103)]) (.cond t104
 (.seq (.reg [oF s105 2 t1,oL s106 t105,oF s107 3 t1,oG s108 t107,oQ s109 .eql t108 (ci 0),oM s2 t106,oM s3 t109]) .ret)
 .skip))) (.reg [oM s96 t9,oQ s97 .add t96 (ci 1),oM s9 t97])))
def b204x1 : AC := (.seq (.seq (.reg [oM s70 t7,oF s71 2 t1,oL s72 t71,oP s73 (.len true t72),oQ s74 .lss t70 t73]) (.cond t74
 .skip
 (.exit 1))) (.seq (.blk 2 (.seq (.reg [oF s77 2 t1,oL s78 t77,oM s79 t7,oP s80 (.ixs t78 t79),oC s81 245 [t80],oP s82 (.un .not t81)]) (.cond t82
 (.seq (.reg [oM s2 (.c (.str [])),oM s3 (.c (.bool false))]) .ret)
 .skip))) (.reg [oM s75 t7,oQ s76 .add t75 (ci 1),oM s7 t76])))
def f204 : FI := ⟨(.seq (.reg [oX s1 (.box 0 false 117 4 t0) [],oM s2 (.c (.str [])),oM s3 (.c (.bool false))]) (.seq (.seq (.reg [oF s10 1 t1,oG s11 t10]) (.blk 0 (.seq (.seq (.reg [oQ s13 .eql t11 (ci 1),oM s12 t13]) (.cond t12
 .skip
 (.seq (.reg [oQ s14 .eql t11 (ci 2),oM s12 t14]) (.cond t12
 .skip
 (.reg [oQ s15 .eql t11 (ci 3),oM s12 t15]))))) (.cond t12
 (.seq (.reg [oF s17 2 t1,oL s18 t17,oC s19 43 [t18],oM s16 t19,oE s20 t16 0,oE s21 t16 1,oE s22 t16 2,oM s4 t20,oM s5 t21,oM s6 t22]) (.seq (.reg [oF s23 2 t1,oL s24 t23,oM s25 t6,oQ s26 .eql t25 (ci 0),oM s27 t26,⟨some s28,some (s27,true),(.p (.mov t4))⟩,⟨some s29,some (s27,true),(.p (.len false t28))⟩,⟨some s30,some (s27,true),(.p (.bin .eql eI t29 (ci 1)))⟩,oP s31 (.pick t27 t30 (.c (.bool false))),oM s32 t31,⟨some s33,some (s32,true),(.p (.mov t4))⟩,⟨some s34,some (s32,true),(.p (.iad 4 t33 (ci 0)))⟩,⟨some s35,some (s32,true),(.p (.fad 1 t34))⟩,⟨some s36,some (s32,true),(.r (.ldc t35))⟩,⟨some s37,some (s32,true),(.p (.fad 1 t1))⟩,⟨some s38,some (s32,true),(.r (.ldc t37))⟩,⟨some s39,some (s32,true),(.p (.bin .eql eI t36 t38))⟩,oP s40 (.pick t32 t39 (.c (.bool false))),oM s41 t40,⟨some s42,some (s41,true),(.p (.mov t4))⟩,⟨some s43,some (s41,true),(.p (.iad 4 t42 (ci 0)))⟩,⟨some s44,some (s41,true),(.p (.fad 2 t43))⟩,⟨some s45,some (s41,true),(.r (.ld false 1 t44))⟩,⟨some s46,some (s41,true),(.p (.fad 2 t1))⟩,⟨some s47,some (s41,true),(.r (.ld false 1 t46))⟩,⟨some s48,some (s41,true),(.p (.bin .eql eS t45 t47))⟩,oP s49 (.pick t41 t48 (.c (.bool false))),oM s50 t49,⟨some s51,some (s50,true),(.p (.fad 3 t1))⟩,⟨some s52,some (s50,true),(.r (.ldc t51))⟩,⟨some s53,some (s50,true),(.p (.bin .eql eI t52 (ci 0)))⟩,oP s54 (.pick t50 t53 (.c (.bool false))),oM s2 t24,oM s3 t54]) .ret))
 (.seq (.reg [oQ s56 .eql t11 (ci 4),oM s55 t56]) (.cond t55
 (.seq (.seq (.reg [oF s57 3 t1,oG s58 t57,oQ s59 .lss t58 (ci 0),oM s60 t59,⟨some s61,some (s60,false),(.p (.fad 2 t1))⟩,⟨some s62,some (s60,false),(.r (.ld false 1 t61))⟩,⟨some s63,some (s60,false),(.p (.bin .neq eS t62 (.c (.str []))))⟩,oP s64 (.pick t60 (.c (.bool true)) t63)]) (.cond t64
 (.seq (.reg [oM s2 (.c (.str [])),oM s3 (.c (.bool false))]) .ret)
 .skip)) (.seq (.reg [oF s65 3 t1,oG s66 t65,oC s67 156 [t66],oM s2 t67,oM s3 (.c (.bool true))]) .ret))
 (.seq (.reg [oQ s69 .eql t11 (ci 5),oM s68 t69]) (.cond t68
 (.seq (.seq (.reg [oM s7 (ci 0)]) (.blk 1 (.loop b204x1))) (.seq (.reg [oF s83 2 t1,oL s84 t83,oF s86 3 t1,oG s87 t86,oQ s88 .eql t87 (ci 0),oX s85 (.call 246 [t84]) [(.c t86)],oM s2 t85,oM s3 t88]) .ret))
 (.seq (.reg [oQ s90 .eql t11 (ci 6),oM s89 t90]) (.cond t89
 (.seq (.reg [oC s91 169 [],oM s8 t91]) (.seq (.reg [oM s9 (ci 0)]) (.blk 3 (.loop b204x0))))
 .skip)))))))))) (.seq (.reg [oM s2 (.c (.str [])),oM s3 (.c (.bool false))]) .ret))), 1, [.t s2,.t s3], none⟩
def f205 : FI := ⟨(.seq (.reg [oM s2 (.c (.bool false))]) (.seq (.reg [oM s6 t0,oP s7 (.bld [(vi 0),(vi 0),(.str []),(vi 0)] [(1,1,(ci 1)),(2,1,t6)]),oC s8 204 [t7],oM s5 t8,oE s9 t5 0,oE s10 t5 1,oM s3 t9,oM s4 t10]) (.seq (.reg [oM s11 t4,oM s2 t11]) .ret))), 0, [.t s2], none⟩
def f209 : FI := ⟨(.seq (.reg [oM s6 (.c vz)]) (.seq (.reg [oM s8 t1,oP s9 (.cvi .u64 t8),oM s7 t9]) (.seq (.seq (.reg [oM s10 t1,oQ s11 .lss t10 (ci 0)]) (.cond t11
 (.seq (.reg [oM s12 t0,oP s13 (.bsl 1 1 (vu 0) [(0,(cu 45))]),oX s14 (.app 0 0 1 (vu 0) 1 t12 t13) [],oM s0 t14]) (.reg [oM s15 t7,oP s16 (.un .neg t15),oM s7 t16]))
 .skip)) (.seq (.reg [oM s17 t0,oM s18 t7,oM s19 t2,oC s20 248 [t17,t18,t19],oM s6 t20]) .ret)))), 0, [.t s6], none⟩
def f210 : FI := ⟨(.seq (.reg [oM s2 (.c (.str []))]) (.seq (.reg [oM s3 t0,oC s4 249 [t3,(ci 10)],oM s2 t4]) .ret)), 0, [.t s2], none⟩
def f211 : FI := ⟨(.seq (.reg [oM s4 (.c vz)]) (.seq (.reg [oP s5 (.bsl 0 1 (.bool false) []),oM s6 t0,oM s7 t1,oC s8 157 [t6,t7],oP s9 (.fld false 3 1 t8),oX s10 (.app 0 0 1 (.bool false) 1 t5 t9) [],oM s4 t10]) .ret)), 0, [.t s4], none⟩
def f212 : FI := ⟨(.seq (.reg [oM s5 t0,oP s6 (.len false t5),oM s4 t6]) (.reg [oM s7 t0,oM s8 t4,oM s9 t4,oP s10 (.cvi .u64 t9),oC s11 128 [t10],oM s12 t1,oC s13 250 [t7,(ci 0),t8,t11,t12]])), 0, [], none⟩
def f213 : FI := ⟨(.seq (.reg [oX s2 (.box 0 false 246 3 t0) [],oX s3 (.box 1 false 246 3 t1) [],oM s4 (ci 0)]) (.seq (.reg [oF s5 0 t2,oL s6 t5,oF s7 0 t3,oL s8 t7,oC s9 214 [t6,t8],oM s4 t9]) .ret)), 2, [.t s4], none⟩
def f214 : FI := ⟨(.seq (.reg [oM s4 (ci 0)]) (.seq (.reg [oM s5 t0,oM s6 t1,oC s7 251 [t5,t6],oM s4 t7]) .ret)), 0, [.t s4], none⟩
def b215x0 : AC := (.blk 1 (.seq (.reg [oM s19 t2,oM s20 t1,oQ s21 .sub t19 t20,oM s10 t21]) (.seq (.seq (.reg [oM s22 t10,oQ s23 .leq t22 (ci 12)]) (.cond t23
 (.seq (.reg [oM s24 t0,oM s25 t1,oM s26 t2,oC s27 252 [t24,t25,t26]]) .ret)
 .skip)) (.seq (.seq (.reg [oM s28 t3,oQ s29 .eql t28 (ci 0)]) (.cond t29
 (.seq (.reg [oM s30 t0,oM s31 t1,oM s32 t2,oC s33 253 [t30,t31,t32]]) .ret)
 .skip)) (.seq (.seq (.reg [oM s34 t8,oP s35 (.un .not t34)]) (.cond t35
 (.seq (.reg [oM s36 t0,oM s37 t1,oM s38 t2,oC s39 254 [t36,t37,t38]]) (.reg [oM s40 t3,oQ s41 .sub t40 (ci 1),oM s3 t41]))
 .skip)) (.seq (.reg [oM s43 t0,oM s44 t1,oM s45 t2,oC s46 255 [t43,t44,t45],oM s42 t46,oE s47 t42 0,oE s48 t42 1,oM s11 t47,oM s12 t48]) (.seq (.seq (.reg [oM s49 t12,oQ s50 .eql t49 (ci 2)]) (.cond t50
 (.seq (.reg [oM s51 t0,oM s52 t1,oM s53 t2,oC s54 256 [t51,t52,t53]]) (.seq (.reg [oM s55 t2,oQ s56 .sub t55 (ci 1),oM s57 t11,oM s58 t1,oQ s59 .sub t57 t58,oQ s60 .sub t56 t59,oM s11 t60]) (.reg [oM s12 (ci 1)])))
 .skip)) (.seq (.seq (.reg [oM s61 t8,oM s62 t61,⟨some s63,some (s62,true),(.p (.mov t9))⟩,oP s64 (.pick t62 t63 (.c (.bool false))),oM s65 t64,⟨some s66,some (s65,true),(.p (.mov t12))⟩,⟨some s67,some (s65,true),(.p (.bin .eql eI t66 (ci 1)))⟩,oP s68 (.pick t65 t67 (.c (.bool false)))]) (.cond t68
 (.seq (.reg [oM s69 t0,oM s70 t1,oM s71 t2,oC s72 257 [t69,t70,t71]]) (.cond t72
 .ret
 .skip))
 .skip)) (.seq (.seq (.reg [oM s73 t1,oQ s74 .gtr t73 (ci 0),oM s75 t74,⟨some s76,some (s75,true),(.p (.mov t0))⟩,⟨some s77,some (s75,true),(.p (.mov t1))⟩,⟨some s78,some (s75,true),(.p (.bin .sub eI t77 (ci 1)))⟩,⟨some s79,some (s75,true),(.p (.iad 1 t76 t78))⟩,⟨some s80,some (s75,true),(.r (.ld false 1 t79))⟩,⟨some s81,some (s75,true),(.p (.mov t0))⟩,⟨some s82,some (s75,true),(.p (.mov t11))⟩,⟨some s83,some (s75,true),(.p (.iad 1 t81 t82))⟩,⟨some s84,some (s75,true),(.r (.ld false 1 t83))⟩,⟨some s85,some (s75,true),(.e (.call 218 [t80,t84]) [])⟩,⟨some s86,some (s75,true),(.p (.un .not t85))⟩,oP s87 (.pick t75 t86 (.c (.bool false)))]) (.cond t87
 (.seq (.reg [oM s88 t0,oM s89 t1,oM s90 t2,oM s91 t11,oC s92 258 [t88,t89,t90,t91],oM s13 t92]) (.seq (.reg [oM s93 t13,oM s1 t93]) (.exit 1)))
 .skip)) (.seq (.reg [oM s95 t0,oM s96 t1,oM s97 t2,oM s98 t11,oC s99 259 [t95,t96,t97,t98],oM s94 t99,oE s100 t94 0,oE s101 t94 1,oM s14 t100,oM s15 t101]) (.seq (.reg [oM s102 t15,oM s9 t102]) (.seq (.reg [oM s103 t14,oM s104 t1,oQ s105 .sub t103 t104,oM s106 t2,oM s107 t14,oQ s108 .sub t106 t107,oM s16 t105,oM s17 t108]) (.seq (.reg [oM s109 t10,oQ s110 .quo t109 (ci 8),oM s18 t110]) (.seq (.reg [oM s111 t16,oM s112 t17,oQ s113 .lss t111 t112]) (.cond t113
 (.seq (.reg [oM s114 t16,oM s115 t18,oQ s116 .geq t114 t115,oM s8 t116]) (.seq (.reg [oM s117 t0,oM s118 t1,oM s119 t14,oM s120 t3,oC s121 215 [t117,t118,t119,t120]]) (.reg [oM s122 t14,oQ s123 .add t122 (ci 1),oM s1 t123])))
 (.seq (.reg [oM s124 t17,oM s125 t18,oQ s126 .geq t124 t125,oM s8 t126]) (.seq (.reg [oM s127 t0,oM s128 t14,oQ s129 .add t128 (ci 1),oM s130 t2,oM s131 t3,oC s132 215 [t127,t129,t130,t131]]) (.reg [oM s133 t14,oM s2 t133]))))))))))))))))))
def f215 : FI := ⟨(.seq (.reg [oM s8 (.c (.bool true))]) (.seq (.reg [oM s9 (.c (.bool true))]) (.blk 0 (.loop b215x0)))), 0, [], none⟩
def f216 : FI := ⟨(.seq (.reg [oM s2 t0,oN s3 t2,oF s4 0 t3,oG s5 t4,oP s6 (.bin .eql .ptr t5 (.c .nilp))]) (.cond t6
 (.reg [oM s7 t0,oM s8 t0,oR s9 (.cvu t8),oC s10 260 [t9],oR s11 (.cvp [(272,3,0),(271,3,0),(270,3,0),(269,3,0),(203,2,0),(202,2,0)] t10),oN s12 t7,oF s13 0 t12,oS 1 t13 t11])
 (.seq (.reg [oM s14 t0,oN s15 t14,oF s16 0 t15,oG s17 t16,oM s18 t0,oP s19 (.bin .neq .ptr t17 t18)]) (.cond t19
 (.reg [⟨none,none,(.p (.ext (.c .undef) 0))⟩])
 .skip)))), 0, [], none⟩
def f217 : FI := ⟨(.seq (.reg [oM s2 (.c (.str []))]) (.seq (.seq (.reg [oM s3 t0]) (.cond t3
 (.seq (.reg [oM s2 (.c (.str [116,114,117,101]))]) .ret)
 .skip)) (.seq (.reg [oM s2 (.c (.str [102,97,108,115,101]))]) .ret))), 0, [.t s2], none⟩
def f218 : FI := ⟨(.seq (.reg [oM s4 (.c (.bool false))]) (.seq (.reg [oM s5 t0,oC s6 261 [t5],oM s7 t6,⟨some s8,some (s7,true),(.p (.mov t1))⟩,⟨some s9,some (s7,true),(.e (.call 261 [t8]) [])⟩,⟨some s10,some (s7,true),(.p (.un .not t9))⟩,oP s11 (.pick t7 t10 (.c (.bool false))),oM s12 t11,⟨some s13,some (s12,false),(.p (.mov t0))⟩,⟨some s14,some (s12,false),(.p (.mov t1))⟩,⟨some s15,some (s12,false),(.p (.bin .lss eS t13 t14))⟩,oP s16 (.pick t12 (.c (.bool true)) t15),oM s4 t16]) .ret)), 0, [.t s4], none⟩
def f220 : FI := ⟨(.seq (.reg [oX s1 (.box 0 false 117 4 t0) [],oM s2 (.c (.str [])),oM s3 (.c (.bool false))]) (.seq (.reg [oM s4 (.c (.str []))]) (.seq (.seq (.reg [oF s8 1 t1,oG s9 t8]) (.blk 0 (.seq (.seq (.reg [oQ s11 .eql t9 (ci 1),oM s10 t11]) (.cond t10
 .skip
 (.seq (.reg [oQ s12 .eql t9 (ci 2),oM s10 t12]) (.cond t10
 .skip
 (.seq (.reg [oQ s13 .eql t9 (ci 3),oM s10 t13]) (.cond t10
 .skip
 (.reg [oQ s14 .eql t9 (ci 6),oM s10 t14]))))))) (.cond t10
 (.reg [oF s15 2 t1,oL s16 t15,oM s4 t16])
 (.seq (.reg [oQ s18 .eql t9 (ci 4),oM s17 t18]) (.cond t17
 (.seq (.seq (.reg [oF s19 3 t1,oG s20 t19,oQ s21 .lss t20 (ci 0)]) (.cond t21
 (.seq (.reg [oM s2 (.c (.str [])),oM s3 (.c (.bool false))]) .ret)
 .skip)) (.reg [oF s22 3 t1,oG s23 t22,oC s24 144 [t23],oM s4 t24]))
 (.seq (.reg [oQ s26 .eql t9 (ci 5),oM s25 t26]) (.cond t25
 (.reg [oF s27 2 t1,oL s28 t27,oC s29 262 [t28],oM s4 t29])
 (.seq (.reg [oM s2 (.c (.str [])),oM s3 (.c (.bool false))]) .ret))))))))) (.seq (.reg [oM s30 t4,oP s31 (.bld [(.str []),(vi 0)] [(0,1,t30)]),oX s32 (.box 1 false 332 2 t31) [],oM s5 t32]) (.seq (.seq (.reg [oM s33 t4,oP s34 (.bin .eql eS t33 (.c (.str []))),oM s35 t34,⟨some s36,some (s35,false),(.p (.mov t4))⟩,⟨some s37,some (s35,false),(.p (.ixs t36 (ci 0)))⟩,⟨some s38,some (s35,false),(.e (.call 263 [t37]) [])⟩,⟨some s39,some (s35,false),(.p (.un .not t38))⟩,oP s40 (.pick t35 (.c (.bool true)) t39)]) (.cond t40
 (.seq (.reg [oM s2 (.c (.str [])),oM s3 (.c (.bool false))]) .ret)
 .skip)) (.seq (.reg [oM s42 t5,oC s43 264 [t42],oM s41 t43,oE s44 t41 0,oE s45 t41 1,oX s6 (.new 2 false false (.cells 117 [(vi 0),(vi 0),(.str []),(vi 0)])) [],oS 4 t6 t44,oM s7 t45]) (.seq (.reg [oP s46 (.bld [(vi 0)] []),oF s47 0 t1,oS 1 t47 t46]) (.seq (.reg [oM s48 t4,oM s49 t7,oP s50 (.bin .eql .ptr t49 (.c .nilp)),oM s51 t50,⟨some s52,some (s51,true),(.p (.mov t5))⟩,⟨some s53,some (s51,true),(.p (.nilc t52))⟩,⟨some s54,some (s51,true),(.p (.fad 1 t53))⟩,⟨some s55,some (s51,true),(.r (.ldc t54))⟩,⟨some s56,some (s51,true),(.p (.mov t4))⟩,⟨some s57,some (s51,true),(.p (.len true t56))⟩,⟨some s58,some (s51,true),(.p (.bin .eql eI t55 t57))⟩,oP s59 (.pick t51 t58 (.c (.bool false))),oM s60 t59,⟨some s61,some (s60,true),(.r (.ld true 4 t6))⟩,⟨some s62,some (s60,true),(.r (.ld true 4 t1))⟩,⟨some s63,some (s60,true),(.p (.bin .eql (.cells true [.i,.i,.s,.i]) t61 t62))⟩,oP s64 (.pick t60 t63 (.c (.bool false))),oM s2 t48,oM s3 t64]) .ret)))))))), 3, [.t s2,.t s3], none⟩
def f221 : FI := ⟨(.seq (.reg [oM s2 (.c (.bool false))]) (.seq (.reg [oM s3 t0,oC s4 166 [t3],oM s5 t4,⟨some s6,some (s5,false),(.p (.mov t0))⟩,⟨some s7,some (s5,false),(.e (.call 167 [t6]) [])⟩,oP s8 (.pick t5 (.c (.bool true)) t7),oM s9 t8,⟨some s10,some (s9,false),(.p (.mov t0))⟩,⟨some s11,some (s9,false),(.e (.call 168 [t10]) [])⟩,oP s12 (.pick t9 (.c (.bool true)) t11),oM s13 t12,⟨some s14,some (s13,false),(.p (.mov t0))⟩,⟨some s15,some (s13,false),(.p (.bin .eql eI t14 (cu 95)))⟩,oP s16 (.pick t13 (.c (.bool true)) t15),oM s2 t16]) .ret)), 0, [.t s2], none⟩
def b222x0 : AC := (.seq (.seq (.reg [oM s6 t4,oM s7 t3,oP s8 (.len false t7),oQ s9 .lss t6 t8]) (.cond t9
 .skip
 (.exit 0))) (.seq (.blk 1 (.seq (.reg [oM s12 t3,oM s13 t4,oP s14 (.iad 1 t12 t13),oL s15 t14,oM s16 t0,oP s17 (.bin .eql eS t15 t16)]) (.cond t17
 (.seq (.reg [oM s2 (.c (.bool true))]) .ret)
 .skip))) (.reg [oM s10 t4,oQ s11 .add t10 (ci 1),oM s4 t11])))
def f222 : FI := ⟨(.seq (.reg [oM s2 (.c (.bool false))]) (.seq (.reg [oC s5 265 [],oM s3 t5]) (.seq (.seq (.reg [oM s4 (ci 0)]) (.blk 0 (.loop b222x0))) (.seq (.reg [oM s2 (.c (.bool false))]) .ret)))), 0, [.t s2], none⟩
def f227 : FI := ⟨(.seq (.reg [oM s2 (.c (.bool false))]) (.seq (.reg [oM s3 t0,oC s4 269 [(ci 2),t3],oM s2 t4]) .ret)), 0, [.t s2], none⟩
def b228x0 : AC := (.seq (.reg [oQ s10 .lss t9 t8]) (.seq (.cond t10
 .skip
 (.exit 0)) (.seq (.blk 1 (.seq (.reg [oP s11 (.iad 1 t7 t9),oL s12 t11,oM s5 t12]) (.seq (.reg [oM s13 t3,oM s14 t5,oR s15 (.lku false [.s] false (vi 0) t13 t14),oQ s16 .add t15 (ci 1),oY (.mup false [.s] t13 t14 t16) []]) (.seq (.reg [oM s17 t3,oM s18 t5,oR s19 (.lku false [.s] false (vi 0) t17 t18),oQ s20 .gtr t19 (ci 1),oM s21 t20,⟨some s22,some (s21,false),(.p (.mov t5))⟩,⟨some s23,some (s21,false),(.e (.call 231 [t22]) [])⟩,⟨some s24,some (s21,false),(.p (.un .not t23))⟩,oP s25 (.pick t21 (.c (.bool true)) t24)]) (.cond t25
 (.seq (.reg [oM s2 (.c (.bool false))]) .ret)
 .skip))))) (.reg [oQ s26 .add t9 (ci 1),oM s9 t26]))))
def f228 : FI := ⟨(.seq (.reg [oM s2 (.c (.bool false))]) (.seq (.reg [oX s6 (.new 0 false true (.map [])) [],oM s3 t6]) (.seq (.seq (.reg [oM s7 t0,oP s8 (.len false t7),oM s9 (ci 0)]) (.blk 0 (.loop b228x0))) (.seq (.reg [oM s2 (.c (.bool true))]) .ret)))), 1, [.t s2], none⟩
def b229x0 : AC := (.seq (.reg [oQ s9 .lss t8 t7]) (.seq (.cond t9
 .skip
 (.exit 0)) (.seq (.blk 1 (.seq (.reg [oP s10 (.iad 1 t6 t8),oL s11 t10,oM s5 t11]) (.seq (.seq (.reg [oM s12 t0,oN s13 t12,oF s14 2 t13,oG s15 t14,oQ s16 .add t15 (ci 1),oN s17 t12,oF s18 2 t17,oS 1 t18 t16]) (.seq (.reg [oM s19 t0,oN s20 t19,oF s21 0 t20,oC s22 163 [t21],oQ s23 .gtr t22 (ci 65536)]) (.cond t23
 (.exit 1)
 .skip))) (.seq (.seq (.reg [oM s24 t0,oN s25 t24,oF s26 0 t25,oC s27 163 [t26],oQ s28 .gtr t27 (ci 0)]) (.cond t28
 (.reg [oM s29 t0,oN s30 t29,oF s31 0 t30,oC s32 162 [t31,(cu 32)]])
 .skip)) (.reg [oM s33 t0,oN s34 t33,oF s35 0 t34,oM s36 t5,oC s37 160 [t35,t36]]))))) (.reg [oQ s38 .add t8 (ci 1),oM s8 t38]))))
def f229 : FI := ⟨(.seq (.reg [oM s6 t1,oP s7 (.len false t6),oM s8 (ci 0)]) (.blk 0 (.loop b229x0))), 0, [], none⟩
def f231 : FI := ⟨(.seq (.reg [oM s2 (.c (.bool false))]) (.seq (.reg [oM s3 t0,oC s4 269 [(ci 1),t3],oM s2 t4]) .ret)), 0, [.t s2], none⟩
def b235x0 : AC := (.seq (.reg [oQ s9 .lss t8 t7]) (.seq (.cond t9
 .skip
 (.exit 0)) (.seq (.blk 1 (.seq (.reg [oP s10 (.iad 5 t6 t8),oR s11 (.ld true 5 t10),oX s5 (.new 0 false false (.cells 36 [(vi 0),(.str []),vz,vz,vz])) [],oS 5 t5 t11]) (.seq (.seq (.reg [oF s12 0 t5,oG s13 t12,oQ s14 .eql t13 (ci 4)]) (.cond t14
 (.reg [oM s15 t1,oF s16 1 t5,oL s17 t16,oX s18 (.callv t15 [t17]) []])
 .skip)) (.reg [oF s19 4 t5,oL s20 t19,oM s21 t1,oC s22 235 [t20,t21]])))) (.reg [oQ s23 .add t8 (ci 1),oM s8 t23]))))
def f235 : FI := ⟨(.seq (.reg [oM s6 t0,oP s7 (.len false t6),oM s8 (ci 0)]) (.blk 0 (.loop b235x0))), 1, [], none⟩
def f236 : FI := ⟨(.seq (.reg [oG s4 t1,oM s5 t0,oR s6 (.lku false [.s] false (vi 0) t4 t5),oQ s7 .add t6 (ci 1),oY (.mup false [.s] t4 t5 t7) []]) (.seq (.reg [oG s8 t1,oM s9 t0,oR s10 (.lku false [.s] false (vi 0) t8 t9),oQ s11 .eql t10 (ci 1)]) (.cond t11
 (.reg [oL s12 t2,oM s13 t0,oP s14 (.bsl 1 1 (.str []) [(0,t13)]),oX s15 (.app 0 0 1 (.str []) 16 t12 t14) [],oS 1 t2 t15])
 .skip))), 0, [], none⟩
def f248 : FI := ⟨(.seq (.reg [oM s6 (.c vz)]) (.seq (.seq (.reg [oM s9 t2,oQ s10 .eql t9 (ci 10)]) (.cond t10
 (.seq (.seq (.reg [oM s11 t1,oQ s12 .lss t11 (.c (.int .u64 (.ofNat 100)))]) (.cond t12
 (.seq (.reg [oM s13 t0,oM s14 t1,oP s15 (.cvi .i64 t14),oC s16 277 [t15],oX s17 (.app 0 0 1 (vu 0) 1 t13 t16) [],oM s6 t17]) .ret)
 .skip)) (.seq (.reg [oX s7 (.new 0 false false (.cells 343 [(vu 0),(vu 0),(vu 0),(vu 0),(vu 0),(vu 0),(vu 0),(vu 0),(vu 0),(vu 0),(vu 0),(vu 0),(vu 0),(vu 0),(vu 0),(vu 0),(vu 0),(vu 0),(vu 0),(vu 0),(vu 0),(vu 0),(vu 0),(vu 0)])) []]) (.seq (.reg [oM s18 t1,oC s19 278 [t18],oM s8 t19]) (.seq (.reg [oM s20 t8,oP s21 (.sla 24 t7 none (some t20)),oM s22 t1,oC s23 279 [t21,t22]]) (.seq (.reg [oM s24 t0,oM s25 t8,oP s26 (.sla 24 t7 none (some t25)),oX s27 (.app 1 0 1 (vu 0) 1 t24 t26) [],oM s6 t27]) .ret)))))
 .skip)) (.seq (.reg [oM s29 t0,oM s30 t1,oM s31 t2,oC s32 280 [t29,t30,t31,(.c (.bool false)),(.c (.bool true))],oM s28 t32,oE s33 t28 0,oE s34 t28 1,oM s0 t33]) (.seq (.reg [oM s35 t0,oM s6 t35]) .ret)))), 1, [.t s6], none⟩
def f249 : FI := ⟨(.seq (.reg [oM s4 (.c (.str []))]) (.seq (.seq (.reg [oM s10 t1,oQ s11 .eql t10 (ci 10)]) (.cond t11
 (.seq (.seq (.reg [oM s12 t0,oQ s13 .leq (ci 0) t12,oM s14 t13,⟨some s15,some (s14,true),(.p (.mov t0))⟩,⟨some s16,some (s14,true),(.p (.bin .lss eI t15 (ci 100)))⟩,oP s17 (.pick t14 t16 (.c (.bool false)))]) (.cond t17
 (.seq (.reg [oM s18 t0,oC s19 277 [t18],oM s4 t19]) .ret)
 .skip)) (.seq (.reg [oX s5 (.new 0 false false (.cells 343 [(vu 0),(vu 0),(vu 0),(vu 0),(vu 0),(vu 0),(vu 0),(vu 0),(vu 0),(vu 0),(vu 0),(vu 0),(vu 0),(vu 0),(vu 0),(vu 0),(vu 0),(vu 0),(vu 0),(vu 0),(vu 0),(vu 0),(vu 0),(vu 0)])) []]) (.seq (.reg [oM s20 t0,oP s21 (.cvi .u64 t20),oM s6 t21]) (.seq (.seq (.reg [oM s22 t0,oQ s23 .lss t22 (ci 0)]) (.cond t23
 (.reg [oM s24 t6,oP s25 (.un .neg t24),oM s6 t25])
 .skip)) (.seq (.reg [oM s26 t6,oC s27 278 [t26],oM s7 t27]) (.seq (.reg [oM s28 t7,oQ s29 .add (ci 1) t28,oP s30 (.sla 24 t5 (some (ci 1)) (some t29)),oM s31 t6,oC s32 279 [t30,t31]]) (.seq (.seq (.reg [oM s33 t0,oQ s34 .lss t33 (ci 0)]) (.cond t34
 (.seq (.reg [oP s35 (.iaa 24 1 t5 (ci 0)),oS 1 t35 (cu 45)]) (.seq (.reg [oM s36 t7,oQ s37 .add (ci 1) t36,oP s38 (.sla 24 t5 none (some t37)),oR s39 (.b2s t38),oM s4 t39]) .ret))
 .skip)) (.seq (.reg [oM s40 t7,oQ s41 .add (ci 1) t40,oP s42 (.sla 24 t5 (some (ci 1)) (some t41)),oR s43 (.b2s t42),oM s4 t43]) .ret))))))))
 .skip)) (.seq (.reg [oM s45 t0,oP s46 (.cvi .u64 t45),oM s47 t1,oM s48 t0,oQ s49 .lss t48 (ci 0),oC s50 280 [(.c vz),t46,t47,t49,(.c (.bool false))],oM s44 t50,oE s51 t44 0,oE s52 t44 1,oM s8 t51,oM s9 t52]) (.seq (.reg [oM s53 t9,oM s4 t53]) .ret)))), 1, [.t s4], none⟩
def b250x0 : AC := (.blk 1 (.seq (.reg [oM s21 t2,oM s22 t1,oQ s23 .sub t21 t22,oM s12 t23]) (.seq (.seq (.reg [oM s24 t12,oQ s25 .leq t24 (ci 12)]) (.cond t25
 (.seq (.reg [oM s26 t0,oM s27 t1,oM s28 t2,oM s29 t4,oC s30 281 [t26,t27,t28,t29]]) .ret)
 .skip)) (.seq (.seq (.reg [oM s31 t3,oQ s32 .eql t31 (ci 0)]) (.cond t32
 (.seq (.reg [oM s33 t0,oM s34 t1,oM s35 t2,oM s36 t4,oC s37 282 [t33,t34,t35,t36]]) .ret)
 .skip)) (.seq (.seq (.reg [oM s38 t10,oP s39 (.un .not t38)]) (.cond t39
 (.seq (.reg [oM s40 t0,oM s41 t1,oM s42 t2,oM s43 t4,oC s44 283 [t40,t41,t42,t43]]) (.reg [oM s45 t3,oQ s46 .sub t45 (ci 1),oM s3 t46]))
 .skip)) (.seq (.reg [oM s48 t0,oM s49 t1,oM s50 t2,oM s51 t4,oC s52 284 [t48,t49,t50,t51],oM s47 t52,oE s53 t47 0,oE s54 t47 1,oM s13 t53,oM s14 t54]) (.seq (.seq (.reg [oM s55 t14,oQ s56 .eql t55 (ci 2)]) (.cond t56
 (.seq (.reg [oM s57 t0,oM s58 t1,oM s59 t2,oM s60 t4,oC s61 285 [t57,t58,t59,t60]]) (.seq (.reg [oM s62 t2,oQ s63 .sub t62 (ci 1),oM s64 t13,oM s65 t1,oQ s66 .sub t64 t65,oQ s67 .sub t63 t66,oM s13 t67]) (.reg [oM s14 (ci 1)])))
 .skip)) (.seq (.seq (.reg [oM s68 t10,oM s69 t68,⟨some s70,some (s69,true),(.p (.mov t11))⟩,oP s71 (.pick t69 t70 (.c (.bool false))),oM s72 t71,⟨some s73,some (s72,true),(.p (.mov t14))⟩,⟨some s74,some (s72,true),(.p (.bin .eql eI t73 (ci 1)))⟩,oP s75 (.pick t72 t74 (.c (.bool false)))]) (.cond t75
 (.seq (.reg [oM s76 t0,oM s77 t1,oM s78 t2,oM s79 t4,oC s80 286 [t76,t77,t78,t79]]) (.cond t80
 .ret
 .skip))
 .skip)) (.seq (.seq (.reg [oM s81 t1,oQ s82 .gtr t81 (ci 0),oM s83 t82,⟨some s84,some (s83,true),(.p (.mov t4))⟩,⟨some s85,some (s83,true),(.p (.mov t0))⟩,⟨some s86,some (s83,true),(.p (.mov t1))⟩,⟨some s87,some (s83,true),(.p (.bin .sub eI t86 (ci 1)))⟩,⟨some s88,some (s83,true),(.p (.iad 3 t85 t87))⟩,⟨some s89,some (s83,true),(.r (.ld true 3 t88))⟩,⟨some s90,some (s83,true),(.p (.mov t0))⟩,⟨some s91,some (s83,true),(.p (.mov t13))⟩,⟨some s92,some (s83,true),(.p (.iad 3 t90 t91))⟩,⟨some s93,some (s83,true),(.r (.ld true 3 t92))⟩,⟨some s94,some (s83,true),(.e (.callv t84 [t89,t93]) [])⟩,⟨some s95,some (s83,true),(.p (.bin .lss eI t94 (ci 0)))⟩,⟨some s96,some (s83,true),(.p (.un .not t95))⟩,oP s97 (.pick t83 t96 (.c (.bool false)))]) (.cond t97
 (.seq (.reg [oM s98 t0,oM s99 t1,oM s100 t2,oM s101 t13,oM s102 t4,oC s103 287 [t98,t99,t100,t101,t102],oM s15 t103]) (.seq (.reg [oM s104 t15,oM s1 t104]) (.exit 1)))
 .skip)) (.seq (.reg [oM s106 t0,oM s107 t1,oM s108 t2,oM s109 t13,oM s110 t4,oC s111 288 [t106,t107,t108,t109,t110],oM s105 t111,oE s112 t105 0,oE s113 t105 1,oM s16 t112,oM s17 t113]) (.seq (.reg [oM s114 t17,oM s11 t114]) (.seq (.reg [oM s115 t16,oM s116 t1,oQ s117 .sub t115 t116,oM s118 t2,oM s119 t16,oQ s120 .sub t118 t119,oM s18 t117,oM s19 t120]) (.seq (.reg [oM s121 t12,oQ s122 .quo t121 (ci 8),oM s20 t122]) (.seq (.reg [oM s123 t18,oM s124 t19,oQ s125 .lss t123 t124]) (.cond t125
 (.seq (.reg [oM s126 t18,oM s127 t20,oQ s128 .geq t126 t127,oM s10 t128]) (.seq (.reg [oM s129 t0,oM s130 t1,oM s131 t16,oM s132 t3,oM s133 t4,oC s134 250 [t129,t130,t131,t132,t133]]) (.reg [oM s135 t16,oQ s136 .add t135 (ci 1),oM s1 t136])))
 (.seq (.reg [oM s137 t19,oM s138 t20,oQ s139 .geq t137 t138,oM s10 t139]) (.seq (.reg [oM s140 t0,oM s141 t16,oQ s142 .add t141 (ci 1),oM s143 t2,oM s144 t3,oM s145 t4,oC s146 250 [t140,t142,t143,t144,t145]]) (.reg [oM s147 t16,oM s2 t147]))))))))))))))))))
def f250 : FI := ⟨(.seq (.reg [oM s10 (.c (.bool true))]) (.seq (.reg [oM s11 (.c (.bool true))]) (.blk 0 (.loop b250x0)))), 0, [], none⟩
def f251 : FI := ⟨(.seq (.reg [oM s4 (ci 0)]) (.seq (.reg [oM s5 t0,oM s6 t1,oC s7 289 [t5,t6],oM s4 t7]) .ret)), 0, [.t s4], none⟩
def b252x0 : AC := (.seq (.seq (.reg [oM s16 t7,oM s17 t1,oQ s18 .gtr t16 t17,oM s19 t18,⟨some s20,some (s19,true),(.p (.mov t0))⟩,⟨some s21,some (s19,true),(.p (.mov t7))⟩,⟨some s22,some (s19,true),(.p (.iad 1 t20 t21))⟩,⟨some s23,some (s19,true),(.r (.ld false 1 t22))⟩,⟨some s24,some (s19,true),(.p (.mov t0))⟩,⟨some s25,some (s19,true),(.p (.mov t7))⟩,⟨some s26,some (s19,true),(.p (.bin .sub eI t25 (ci 1)))⟩,⟨some s27,some (s19,true),(.p (.iad 1 t24 t26))⟩,⟨some s28,some (s19,true),(.r (.ld false 1 t27))⟩,⟨some s29,some (s19,true),(.e (.call 218 [t23,t28]) [])⟩,oP s30 (.pick t19 t29 (.c (.bool false)))]) (.cond t30
 .skip
 (.exit 2))) (.seq (.blk 3 (.reg [oM s33 t0,oM s34 t7,oM s35 t0,oM s36 t7,oQ s37 .sub t36 (ci 1),oM s38 t0,oM s39 t7,oQ s40 .sub t39 (ci 1),oP s41 (.iad 1 t38 t40),oL s42 t41,oM s43 t0,oM s44 t7,oP s45 (.iad 1 t43 t44),oL s46 t45,oP s47 (.iad 1 t33 t34),oS 1 t47 t42,oP s48 (.iad 1 t35 t37),oS 1 t48 t46])) (.reg [oM s31 t7,oQ s32 .sub t31 (ci 1),oM s7 t32])))
def b252x1 : AC := (.seq (.seq (.reg [oM s10 t6,oM s11 t2,oQ s12 .lss t10 t11]) (.cond t12
 .skip
 (.exit 0))) (.seq (.blk 1 (.seq (.reg [oM s15 t6,oM s7 t15]) (.blk 2 (.loop b252x0)))) (.reg [oM s13 t6,oQ s14 .add t13 (ci 1),oM s6 t14])))
def f252 : FI := ⟨(.seq (.reg [oM s8 t1,oQ s9 .add t8 (ci 1),oM s6 t9]) (.blk 0 (.loop b252x1))), 0, [], none⟩
def f261 : FI := ⟨(.seq (.reg [oM s2 (.c (.bool false))]) (.seq (.reg [oM s3 t0,oM s4 t0,oP s5 (.bin .neq eS t3 t4),oM s2 t5]) .ret)), 0, [.t s2], none⟩
def b262x0 : AC := (.seq (.reg [oQ s9 .lss t8 t7]) (.seq (.cond t9
 .skip
 (.exit 0)) (.seq (.blk 1 (.seq (.reg [oM s10 t8,oM s4 t10]) (.seq (.reg [oM s11 t0,oM s12 t4,oP s13 (.ixs t11 t12)]) (.blk 2 (.seq (.reg [oQ s19 .eql t13 (cu 10),oM s18 t19]) (.cond t18
 (.reg [oC s20 160 [t3,(.c (.str [92,110]))]])
 (.seq (.seq (.reg [oQ s22 .eql t13 (cu 34),oM s21 t22]) (.cond t21
 .skip
 (.reg [oQ s23 .eql t13 (cu 92),oM s21 t23]))) (.cond t21
 (.seq (.reg [oC s24 162 [t3,(cu 92)]]) (.reg [oM s25 t0,oM s26 t4,oP s27 (.ixs t25 t26),oC s28 162 [t3,t27]]))
 (.reg [oM s14 t0,oM s15 t4,oP s16 (.ixs t14 t15),oC s17 162 [t3,t16]]))))))))) (.reg [oQ s29 .add t8 (ci 1),oM s8 t29]))))
def f262 : FI := ⟨(.seq (.reg [oM s2 (.c (.str []))]) (.seq (.reg [oX s3 (.new 0 false false (.cells 203 [.nilp,vz])) []]) (.seq (.reg [oC s5 162 [t3,(cu 34)]]) (.seq (.seq (.reg [oM s6 t0,oP s7 (.len true t6),oM s8 (ci 0)]) (.blk 0 (.loop b262x0))) (.seq (.reg [oC s30 162 [t3,(cu 34)]]) (.seq (.reg [oC s31 103 [t3],oM s2 t31]) .ret)))))), 1, [.t s2], none⟩
def f263 : FI := ⟨(.seq (.reg [oM s2 (.c (.bool false))]) (.seq (.reg [oM s3 t0,oC s4 293 [t3],oM s5 t4,⟨some s6,some (s5,false),(.p (.mov t0))⟩,⟨some s7,some (s5,false),(.e (.call 294 [t6]) [])⟩,oP s8 (.pick t5 (.c (.bool true)) t7),oM s9 t8,⟨some s10,some (s9,false),(.p (.mov t0))⟩,⟨some s11,some (s9,false),(.p (.bin .eql eI t10 (cu 34)))⟩,oP s12 (.pick t9 (.c (.bool true)) t11),oM s13 t12,⟨some s14,some (s13,false),(.p (.mov t0))⟩,⟨some s15,some (s13,false),(.e (.call 295 [(.c (.str [40,41,123,125,59,58,44,46,61,60,43,45,42])),t14]) [])⟩,⟨some s16,some (s13,false),(.p (.bin .geq eI t15 (ci 0)))⟩,oP s17 (.pick t13 (.c (.bool true)) t16),oM s2 t17]) .ret)), 0, [.t s2], none⟩
def f264 : FI := ⟨(.seq (.reg [oX s2 (.new 0 false false (.cells 117 [(vi 0),(vi 0),(.str []),(vi 0)])) [],oM s3 (.c .nilp)]) (.seq (.reg [oM s6 t0,oN s7 t6,oF s8 0 t7,oL s9 t8,oM s10 t0,oN s11 t10,oF s12 1 t11,oG s13 t12,oP s14 (.ixs t9 t13),oM s4 t14]) (.seq (.reg [oM s15 t0,oN s16 t15,oF s17 1 t16,oG s18 t17,oP s19 (.bld [(vi 0)] [(0,1,t18)]),oP s20 (.bld [(vi 0),(vi 0),(.str []),(vi 0)] [(0,1,t19)]),oX s5 (.new 1 false false (.cells 117 [(vi 0),(vi 0),(.str []),(vi 0)])) [],oS 4 t5 t20]) (.seq (.blk 0 (.seq (.reg [oM s22 t4,oC s23 293 [t22],oM s21 t23]) (.cond t21
 (.seq (.reg [oM s24 t0,oR s25 (.ld true 4 t5),oC s26 296 [t24,t25],oE s27 t26 0,oE s28 t26 1,oS 4 t2 t27,oM s3 t28]) .ret)
 (.seq (.reg [oM s30 t4,oC s31 294 [t30],oM s29 t31]) (.cond t29
 (.seq (.reg [oM s32 t0,oR s33 (.ld true 4 t5),oC s34 297 [t32,t33],oE s35 t34 0,oE s36 t34 1,oS 4 t2 t35,oM s3 t36]) .ret)
 (.seq (.reg [oM s38 t4,oQ s39 .eql t38 (cu 34),oM s37 t39]) (.cond t37
 (.seq (.reg [oM s40 t0,oR s41 (.ld true 4 t5),oC s42 298 [t40,t41],oE s43 t42 0,oE s44 t42 1,oS 4 t2 t43,oM s3 t44]) .ret)
 .skip))))))) (.seq (.reg [oM s45 t4,oP s46 (.cvi .i32 t45),oE s47 (.c .undef) 0,oF s48 1 t5,oS 1 t48 (ci 6),oF s49 2 t5,oS 1 t49 t47]) (.seq (.reg [oM s50 t0,oN s51 t50,oF s52 1 t51,oG s53 t52,oQ s54 .add t53 (ci 1),oN s55 t50,oF s56 1 t55,oS 1 t56 t54]) (.seq (.seq (.reg [oM s57 t4,oQ s58 .eql t57 (cu 61),oM s59 t58,⟨some s60,some (s59,true),(.p (.mov t0))⟩,⟨some s61,some (s59,true),(.p (.nilc t60))⟩,⟨some s62,some (s59,true),(.p (.fad 1 t61))⟩,⟨some s63,some (s59,true),(.r (.ldc t62))⟩,⟨some s64,some (s59,true),(.p (.mov t0))⟩,⟨some s65,some (s59,true),(.p (.nilc t64))⟩,⟨some s66,some (s59,true),(.p (.fad 0 t65))⟩,⟨some s67,some (s59,true),(.r (.ld false 1 t66))⟩,⟨some s68,some (s59,true),(.p (.len true t67))⟩,⟨some s69,some (s59,true),(.p (.bin .lss eI t63 t68))⟩,oP s70 (.pick t59 t69 (.c (.bool false))),oM s71 t70,⟨some s72,some (s71,true),(.p (.mov t0))⟩,⟨some s73,some (s71,true),(.p (.nilc t72))⟩,⟨some s74,some (s71,true),(.p (.fad 0 t73))⟩,⟨some s75,some (s71,true),(.r (.ld false 1 t74))⟩,⟨some s76,some (s71,true),(.p (.mov t0))⟩,⟨some s77,some (s71,true),(.p (.nilc t76))⟩,⟨some s78,some (s71,true),(.p (.fad 1 t77))⟩,⟨some s79,some (s71,true),(.r (.ldc t78))⟩,⟨some s80,some (s71,true),(.p (.ixs t75 t79))⟩,⟨some s81,some (s71,true),(.p (.bin .eql eI t80 (cu 61)))⟩,oP s82 (.pick t71 t81 (.c (.bool false)))]) (.cond t82
 (.seq (.reg [oF s83 2 t5,oS 1 t83 (.c (.str [61,61]))]) (.reg [oM s84 t0,oN s85 t84,oF s86 1 t85,oG s87 t86,oQ s88 .add t87 (ci 1),oN s89 t84,oF s90 1 t89,oS 1 t90 t88]))
 .skip)) (.seq (.reg [oR s91 (.ld true 4 t5),oS 4 t2 t91,oM s3 (.c .nilp)]) .ret)))))))), 2, [.c true 4 s2,.t s3], none⟩
def f265 : FI := ⟨(.seq (.reg [oM s0 (.c vz)]) (.seq (.reg [oP s1 (.bsl 25 1 (.str []) [(0,(.c (.str [116,121,112,101]))),(1,(.c (.str [109,101,116,104,111,100]))),(2,(.c (.str [102,117,110,99]))),(3,(.c (.str [109,97,105,110]))),(4,(.c (.str [105,110,116,101,114,102,97,99,101]))),(5,(.c (.str [101,109,98,101,100]))),(6,(.c (.str [105,110,116]))),(7,(.c (.str [98,111,111,108]))),(8,(.c (.str [116,101,120,116]))),(9,(.c (.str [102,110]))),(10,(.c (.str [108,101,116]))),(11,(.c (.str [112,114,105,110,116]))),(12,(.c (.str [105,102]))),(13,(.c (.str [101,108,115,101]))),(14,(.c (.str [119,104,105,108,101]))),(15,(.c (.str [114,101,116,117,114,110]))),(16,(.c (.str [110,105,108]))),(17,(.c (.str [110,101,119]))),(18,(.c (.str [116,111]))),(19,(.c (.str [97,110,100]))),(20,(.c (.str [111,114]))),(21,(.c (.str [110,111,116]))),(22,(.c (.str [116,114,117,101]))),(23,(.c (.str [102,97,108,115,101]))),(24,(.c (.str [115,101,108,102])))]),oM s0 t1]) .ret)), 0, [.t s0], none⟩
def f269 : FI := ⟨(.seq (.reg [oM s4 (.c (.bool false))]) (.seq (.reg [oM s8 t0,oM s9 t1,oP s10 (.bld [(vi 0),(vi 0),(.str []),(vi 0)] [(1,1,t8),(2,1,t9)]),oP s11 (.bsl 1 4 (.agg [(vi 0),(vi 0),(.str []),(vi 0)]) [(0,t10)]),oC s12 165 [t11],oM s7 t12,oE s13 t7 0,oE s14 t7 1,oM s5 t13,oM s6 t14]) (.seq (.reg [oM s15 t6,oQ s16 .neq t15 (ci 1),oM s4 t16]) .ret))), 0, [.t s4], none⟩
end Go.Abs.Run
namespace Go.Abs.Run
open Go Go.Abs Go.Proofs
def f277 : FI := ⟨(.seq (.reg [oM s2 (.c (.str []))]) (.seq (.seq (.reg [oM s3 t0,oQ s4 .lss t3 (ci 10)]) (.cond t4
 (.seq (.reg [oM s5 t0,oM s6 t0,oQ s7 .add t6 (ci 1),oP s8 (.sls true 0 (.c (.str [48,49,50,51,52,53,54,55,56,57,97,98,99,100,101,102,103,104,105,106,107,108,109,110,111,112,113,114,115,116,117,118,119,120,121,122])) (some t5) (some t7) none),oM s2 t8]) .ret)
 .skip)) (.seq (.reg [oM s9 t0,oQ s10 .mul t9 (ci 2),oM s11 t0,oQ s12 .mul t11 (ci 2),oQ s13 .add t12 (ci 2),oP s14 (.sls true 0 (.c (.str [48,48,48,49,48,50,48,51,48,52,48,53,48,54,48,55,48,56,48,57,49,48,49,49,49,50,49,51,49,52,49,53,49,54,49,55,49,56,49,57,50,48,50,49,50,50,50,51,50,52,50,53,50,54,50,55,50,56,50,57,51,48,51,49,51,50,51,51,51,52,51,53,51,54,51,55,51,56,51,57,52,48,52,49,52,50,52,51,52,52,52,53,52,54,52,55,52,56,52,57,53,48,53,49,53,50,53,51,53,52,53,53,53,54,53,55,53,56,53,57,54,48,54,49,54,50,54,51,54,52,54,53,54,54,54,55,54,56,54,57,55,48,55,49,55,50,55,51,55,52,55,53,55,54,55,55,55,56,55,57,56,48,56,49,56,50,56,51,56,52,56,53,56,54,56,55,56,56,56,57,57,48,57,49,57,50,57,51,57,52,57,53,57,54,57,55,57,56,57,57])) (some t10) (some t13) none),oM s2 t14]) .ret))), 0, [.t s2], none⟩
def b280x0 : AC := (.seq (.seq (.reg [oM s66 t1,oM s67 t17,oQ s68 .geq t66 t67]) (.cond t68
 .skip
 (.exit 2))) (.blk 3 (.seq (.reg [oM s69 t13,oQ s70 .sub t69 (ci 1),oM s13 t70]) (.seq (.reg [oM s71 t1,oM s72 t17,oQ s73 .quo t71 t72,oM s18 t73]) (.seq (.reg [oM s74 t13,oM s75 t1,oM s76 t18,oM s77 t17,oQ s78 .mul t76 t77,oQ s79 .sub t75 t78,oP s80 (.ixs (.c (.str [48,49,50,51,52,53,54,55,56,57,97,98,99,100,101,102,103,104,105,106,107,108,109,110,111,112,113,114,115,116,117,118,119,120,121,122])) t79),oP s81 (.iaa 65 1 t12 t74),oS 1 t81 t80]) (.reg [oM s82 t18,oM s1 t82]))))))
def b280x1 : AC := (.seq (.seq (.reg [oM s44 t1,oM s45 t15,oQ s46 .geq t44 t45]) (.cond t46
 .skip
 (.exit 0))) (.blk 1 (.seq (.reg [oM s47 t13,oQ s48 .sub t47 (ci 1),oM s13 t48]) (.seq (.reg [oM s49 t13,oM s50 t1,oM s51 t16,oQ s52 .and t50 t51,oP s53 (.ixs (.c (.str [48,49,50,51,52,53,54,55,56,57,97,98,99,100,101,102,103,104,105,106,107,108,109,110,111,112,113,114,115,116,117,118,119,120,121,122])) t52),oP s54 (.iaa 65 1 t12 t49),oS 1 t54 t53]) (.reg [oM s55 t1,oM s56 t14,oQ s57 .shr t55 t56,oM s1 t57])))))
def f280 : FI := ⟨(.seq (.reg [oM s10 (.c vz),oM s11 (.c (.str []))]) (.seq (.seq (.reg [oM s19 t2,oQ s20 .lss t19 (ci 2),oM s21 t20,⟨some s22,some (s21,false),(.p (.mov t2))⟩,⟨some s23,some (s21,false),(.p (.bin .eql eI t22 (ci 10)))⟩,oP s24 (.pick t21 (.c (.bool true)) t23),oM s25 t24,⟨some s26,some (s25,false),(.p (.mov t2))⟩,⟨some s27,some (s25,false),(.p (.bin .gtr eI t26 (ci 36)))⟩,oP s28 (.pick t25 (.c (.bool true)) t27)]) (.cond t28
 (.reg [oP s29 (.ifc 9 (.c (.str [115,116,114,99,111,110,118,58,32,105,108,108,101,103,97,108,32,65,112,112,101,110,100,73,110,116,47,70,111,114,109,97,116,73,110,116,32,98,97,115,101]))),oY (.pan t29) []])
 .skip)) (.seq (.reg [oX s12 (.new 0 false false (.cells 360 [(vu 0),(vu 0),(vu 0),(vu 0),(vu 0),(vu 0),(vu 0),(vu 0),(vu 0),(vu 0),(vu 0),(vu 0),(vu 0),(vu 0),(vu 0),(vu 0),(vu 0),(vu 0),(vu 0),(vu 0),(vu 0),(vu 0),(vu 0),(vu 0),(vu 0),(vu 0),(vu 0),(vu 0),(vu 0),(vu 0),(vu 0),(vu 0),(vu 0),(vu 0),(vu 0),(vu 0),(vu 0),(vu 0),(vu 0),(vu 0),(vu 0),(vu 0),(vu 0),(vu 0),(vu 0),(vu 0),(vu 0),(vu 0),(vu 0),(vu 0),(vu 0),(vu 0),(vu 0),(vu 0),(vu 0),(vu 0),(vu 0),(vu 0),(vu 0),(vu 0),(vu 0),(vu 0),(vu 0),(vu 0),(vu 0)])) []]) (.seq (.reg [oM s13 (ci 65)]) (.seq (.seq (.reg [oM s30 t3]) (.cond t30
 (.reg [oM s31 t1,oP s32 (.un .neg t31),oM s1 t32])
 .skip)) (.seq (.seq (.reg [oM s33 t2,oC s34 305 [t33]]) (.cond t34
 (.seq (.reg [oM s35 t2,oP s36 (.cvi .u64 t35),oC s37 306 [t36],oP s38 (.cvi .u64 t37),oM s14 t38]) (.seq (.reg [oM s39 t2,oP s40 (.cvi .u64 t39),oM s15 t40]) (.seq (.reg [oM s41 t2,oP s42 (.cvi .u64 t41),oQ s43 .sub t42 (.c (.int .u64 (.ofNat 1))),oM s16 t43]) (.seq (.blk 0 (.loop b280x1)) (.seq (.reg [oM s58 t13,oQ s59 .sub t58 (ci 1),oM s13 t59]) (.reg [oM s60 t13,oM s61 t1,oP s62 (.ixs (.c (.str [48,49,50,51,52,53,54,55,56,57,97,98,99,100,101,102,103,104,105,106,107,108,109,110,111,112,113,114,115,116,117,118,119,120,121,122])) t61),oP s63 (.iaa 65 1 t12 t60),oS 1 t63 t62]))))))
 (.seq (.reg [oM s64 t2,oP s65 (.cvi .u64 t64),oM s17 t65]) (.seq (.blk 2 (.loop b280x0)) (.seq (.reg [oM s83 t13,oQ s84 .sub t83 (ci 1),oM s13 t84]) (.reg [oM s85 t13,oM s86 t1,oP s87 (.ixs (.c (.str [48,49,50,51,52,53,54,55,56,57,97,98,99,100,101,102,103,104,105,106,107,108,109,110,111,112,113,114,115,116,117,118,119,120,121,122])) t86),oP s88 (.iaa 65 1 t12 t85),oS 1 t88 t87])))))) (.seq (.seq (.reg [oM s89 t3]) (.cond t89
 (.seq (.reg [oM s90 t13,oQ s91 .sub t90 (ci 1),oM s13 t91]) (.reg [oM s92 t13,oP s93 (.iaa 65 1 t12 t92),oS 1 t93 (cu 45)]))
 .skip)) (.seq (.seq (.reg [oM s94 t4]) (.cond t94
 (.seq (.reg [oM s95 t0,oM s96 t13,oP s97 (.sla 65 t12 (some t96) none),oX s98 (.app 1 0 1 (vu 0) 1 t95 t97) [],oM s10 t98]) .ret)
 .skip)) (.seq (.reg [oM s99 t13,oP s100 (.sla 65 t12 (some t99) none),oR s101 (.b2s t100),oM s11 t101]) .ret))))))))), 1, [.t s10,.t s11], none⟩
def b281x0 : AC := (.seq (.seq (.reg [oM s18 t9,oM s19 t1,oQ s20 .gtr t18 t19,oM s21 t20,⟨some s22,some (s21,true),(.p (.mov t3))⟩,⟨some s23,some (s21,true),(.p (.mov t0))⟩,⟨some s24,some (s21,true),(.p (.mov t9))⟩,⟨some s25,some (s21,true),(.p (.iad 3 t23 t24))⟩,⟨some s26,some (s21,true),(.r (.ld true 3 t25))⟩,⟨some s27,some (s21,true),(.p (.mov t0))⟩,⟨some s28,some (s21,true),(.p (.mov t9))⟩,⟨some s29,some (s21,true),(.p (.bin .sub eI t28 (ci 1)))⟩,⟨some s30,some (s21,true),(.p (.iad 3 t27 t29))⟩,⟨some s31,some (s21,true),(.r (.ld true 3 t30))⟩,⟨some s32,some (s21,true),(.e (.callv t22 [t26,t31]) [])⟩,⟨some s33,some (s21,true),(.p (.bin .lss eI t32 (ci 0)))⟩,oP s34 (.pick t21 t33 (.c (.bool false)))]) (.cond t34
 .skip
 (.exit 2))) (.seq (.blk 3 (.reg [oM s37 t0,oM s38 t9,oM s39 t0,oM s40 t9,oQ s41 .sub t40 (ci 1),oM s42 t0,oM s43 t9,oQ s44 .sub t43 (ci 1),oP s45 (.iad 3 t42 t44),oR s46 (.ld true 3 t45),oM s47 t0,oM s48 t9,oP s49 (.iad 3 t47 t48),oR s50 (.ld true 3 t49),oP s51 (.iad 3 t37 t38),oS 3 t51 t46,oP s52 (.iad 3 t39 t41),oS 3 t52 t50])) (.reg [oM s35 t9,oQ s36 .sub t35 (ci 1),oM s9 t36])))
def b281x1 : AC := (.seq (.seq (.reg [oM s12 t8,oM s13 t2,oQ s14 .lss t12 t13]) (.cond t14
 .skip
 (.exit 0))) (.seq (.blk 1 (.seq (.reg [oM s17 t8,oM s9 t17]) (.blk 2 (.loop b281x0)))) (.reg [oM s15 t8,oQ s16 .add t15 (ci 1),oM s8 t16])))
def f281 : FI := ⟨(.seq (.reg [oM s10 t1,oQ s11 .add t10 (ci 1),oM s8 t11]) (.blk 0 (.loop b281x1))), 0, [], none⟩
def f293 : FI := ⟨(.seq (.reg [oM s2 (.c (.bool false))]) (.seq (.reg [oM s3 t0,oC s4 311 [t3],oM s5 t4,⟨some s6,some (s5,false),(.p (.mov t0))⟩,⟨some s7,some (s5,false),(.e (.call 312 [t6]) [])⟩,oP s8 (.pick t5 (.c (.bool true)) t7),oM s2 t8]) .ret)), 0, [.t s2], none⟩
def f294 : FI := ⟨(.seq (.reg [oM s2 (.c (.bool false))]) (.seq (.reg [oM s3 t0,oQ s4 .geq t3 (cu 48),oM s5 t4,⟨some s6,some (s5,true),(.p (.mov t0))⟩,⟨some s7,some (s5,true),(.p (.bin .leq eI t6 (cu 57)))⟩,oP s8 (.pick t5 t7 (.c (.bool false))),oM s2 t8]) .ret)), 0, [.t s2], none⟩
def b296x0 : AC := (.seq (.reg [oQ s75 .lss t74 t73]) (.seq (.cond t75
 .skip
 (.exit 2)) (.seq (.blk 3 (.seq (.reg [oP s76 (.iad 1 t72 t74),oL s77 t76,oM s8 t77]) (.seq (.reg [oM s78 t8,oF s79 2 t3,oL s80 t79,oP s81 (.bin .eql eS t78 t80)]) (.cond t81
 (.reg [oF s82 1 t3,oS 1 t82 (ci 3)])
 .skip)))) (.reg [oQ s83 .add t74 (ci 1),oM s74 t83]))))
def b296x1 : AC := (.seq (.seq (.reg [oM s13 t0,oN s14 t13,oF s15 1 t14,oG s16 t15,oM s17 t0,oN s18 t17,oF s19 0 t18,oL s20 t19,oP s21 (.len true t20),oQ s22 .lss t16 t21,oM s23 t22,⟨some s24,some (s23,true),(.p (.mov t0))⟩,⟨some s25,some (s23,true),(.p (.nilc t24))⟩,⟨some s26,some (s23,true),(.p (.fad 0 t25))⟩,⟨some s27,some (s23,true),(.r (.ld false 1 t26))⟩,⟨some s28,some (s23,true),(.p (.mov t0))⟩,⟨some s29,some (s23,true),(.p (.nilc t28))⟩,⟨some s30,some (s23,true),(.p (.fad 1 t29))⟩,⟨some s31,some (s23,true),(.r (.ldc t30))⟩,⟨some s32,some (s23,true),(.p (.ixs t27 t31))⟩,⟨some s33,some (s23,true),(.e (.call 314 [t32]) [])⟩,oP s34 (.pick t23 t33 (.c (.bool false)))]) (.cond t34
 .skip
 (.exit 0))) (.blk 1 (.seq (.seq (.reg [oM s35 t0,oN s36 t35,oF s37 1 t36,oG s38 t37,oM s39 t6,oQ s40 .sub t38 t39,oQ s41 .eql t40 (ci 32)]) (.cond t41
 (.seq (.reg [oR s42 (.ld true 4 t3),oM s43 t0,oN s44 t43,oF s45 1 t44,oG s46 t45,oX s47 (.call 315 [t46,(ci 2)]) [(.l t3)],oS 4 t4 t42,oM s5 t47]) .ret)
 .skip)) (.reg [oM s48 t0,oN s49 t48,oF s50 1 t49,oG s51 t50,oQ s52 .add t51 (ci 1),oN s53 t48,oF s54 1 t53,oS 1 t54 t52]))))
def f296 : FI := ⟨(.seq (.reg [oX s3 (.box 0 false 117 4 t1) [],oX s4 (.new 1 false false (.cells 117 [(vi 0),(vi 0),(.str []),(vi 0)])) [],oM s5 (.c .nilp)]) (.seq (.reg [oM s9 t0,oN s10 t9,oF s11 1 t10,oG s12 t11,oM s6 t12]) (.seq (.blk 0 (.loop b296x1)) (.seq (.reg [oM s55 t0,oN s56 t55,oF s57 0 t56,oL s58 t57,oM s59 t6,oM s60 t0,oN s61 t60,oF s62 1 t61,oG s63 t62,oP s64 (.sls true 0 t58 (some t59) (some t63) none),oF s65 2 t3,oS 1 t65 t64]) (.seq (.reg [oF s66 1 t3,oS 1 t66 (ci 1)]) (.seq (.seq (.reg [oF s67 2 t3,oL s68 t67,oP s69 (.ixs t68 (ci 0)),oC s70 312 [t69]]) (.cond t70
 (.reg [oF s71 1 t3,oS 1 t71 (ci 2)])
 .skip)) (.seq (.seq (.reg [oC s72 316 [],oP s73 (.len false t72),oM s74 (ci 0)]) (.blk 2 (.loop b296x0))) (.seq (.reg [oR s84 (.ld true 4 t3),oS 4 t4 t84,oM s5 (.c .nilp)]) .ret)))))))), 2, [.c true 4 s4,.t s5], none⟩
def b298x0 : AC := (.seq (.seq (.reg [oM s15 t0,oN s16 t15,oF s17 1 t16,oG s18 t17,oM s19 t0,oN s20 t19,oF s21 0 t20,oL s22 t21,oP s23 (.len true t22),oQ s24 .lss t18 t23]) (.cond t24
 .skip
 (.exit 0))) (.seq (.blk 1 (.seq (.reg [oM s32 t0,oN s33 t32,oF s34 0 t33,oL s35 t34,oM s36 t0,oN s37 t36,oF s38 1 t37,oG s39 t38,oP s40 (.ixs t35 t39),oM s7 t40]) (.blk 2 (.seq (.reg [oM s46 t7,oQ s47 .eql t46 (cu 34),oM s45 t47]) (.cond t45
 (.seq (.reg [oM s48 t0,oN s49 t48,oF s50 1 t49,oG s51 t50,oQ s52 .add t51 (ci 1),oN s53 t48,oF s54 1 t53,oS 1 t54 t52]) (.seq (.reg [oM s55 t6,oR s56 (.b2s t55),oF s57 1 t3,oY (.st 1 t57 (ci 5)) [(.l t55)],oF s58 2 t3,oS 1 t58 t56]) (.seq (.reg [oR s59 (.ld true 4 t3),oS 4 t4 t59,oM s5 (.c .nilp)]) .ret)))
 (.seq (.reg [oM s61 t7,oQ s62 .eql t61 (cu 92),oM s60 t62]) (.cond t60
 (.seq (.reg [oM s63 t0,oN s64 t63,oF s65 1 t64,oG s66 t65,oQ s67 .add t66 (ci 1),oN s68 t63,oF s69 1 t68,oS 1 t69 t67]) (.seq (.seq (.reg [oM s70 t0,oN s71 t70,oF s72 1 t71,oG s73 t72,oM s74 t0,oN s75 t74,oF s76 0 t75,oL s77 t76,oP s78 (.len true t77),oQ s79 .eql t73 t78]) (.cond t79
 (.seq (.reg [oR s80 (.ld true 4 t3),oM s81 t0,oN s82 t81,oF s83 1 t82,oG s84 t83,oX s85 (.call 315 [t84,(ci 12)]) [(.l t3)],oS 4 t4 t80,oM s5 t85]) .ret)
 .skip)) (.seq (.reg [oM s86 t0,oN s87 t86,oF s88 0 t87,oL s89 t88,oM s90 t0,oN s91 t90,oF s92 1 t91,oG s93 t92,oP s94 (.ixs t89 t93)]) (.blk 3 (.seq (.reg [oQ s102 .eql t94 (cu 110),oM s101 t102]) (.cond t101
 (.reg [oM s103 t6,oP s104 (.bsl 1 1 (vu 0) [(0,(cu 10))]),oX s105 (.app 2 0 1 (vu 0) 1 t103 t104) [],oM s6 t105])
 (.seq (.seq (.reg [oQ s107 .eql t94 (cu 34),oM s106 t107]) (.cond t106
 .skip
 (.reg [oQ s108 .eql t94 (cu 92),oM s106 t108]))) (.cond t106
 (.reg [oM s109 t6,oM s110 t0,oN s111 t110,oF s112 0 t111,oL s113 t112,oM s114 t0,oN s115 t114,oF s116 1 t115,oG s117 t116,oP s118 (.ixs t113 t117),oP s119 (.bsl 1 1 (vu 0) [(0,t118)]),oX s120 (.app 2 0 1 (vu 0) 1 t109 t119) [],oM s6 t120])
 (.seq (.reg [oR s95 (.ld true 4 t3),oM s96 t0,oN s97 t96,oF s98 1 t97,oG s99 t98,oX s100 (.call 315 [t99,(ci 12)]) [(.l t3)],oS 4 t4 t95,oM s5 t100]) .ret)))))))))
 (.seq (.reg [oM s122 t7,oQ s123 .lss t122 (cu 32),oM s124 t123,⟨some s125,some (s124,false),(.p (.mov t7))⟩,⟨some s126,some (s124,false),(.p (.bin .gtr eI t125 (cu 126)))⟩,oP s127 (.pick t124 (.c (.bool true)) t126),oM s121 t127]) (.cond t121
 (.seq (.reg [oR s128 (.ld true 4 t3),oM s129 t0,oN s130 t129,oF s131 1 t130,oG s132 t131,oX s133 (.call 315 [t132,(ci 12)]) [(.l t3)],oS 4 t4 t128,oM s5 t133]) .ret)
 (.reg [oM s41 t6,oM s42 t7,oP s43 (.bsl 1 1 (vu 0) [(0,t42)]),oX s44 (.app 2 0 1 (vu 0) 1 t41 t43) [],oM s6 t44])))))))))) (.reg [oM s25 t0,oN s26 t25,oF s27 1 t26,oG s28 t27,oQ s29 .add t28 (ci 1),oN s30 t25,oF s31 1 t30,oS 1 t31 t29])))
def f298 : FI := ⟨(.seq (.reg [oX s3 (.box 0 false 117 4 t1) [],oX s4 (.new 1 false false (.cells 117 [(vi 0),(vi 0),(.str []),(vi 0)])) [],oM s5 (.c .nilp)]) (.seq (.reg [oM s6 (.c vz)]) (.seq (.seq (.reg [oM s8 t0,oN s9 t8,oF s10 1 t9,oG s11 t10,oQ s12 .add t11 (ci 1),oN s13 t8,oF s14 1 t13,oS 1 t14 t12]) (.blk 0 (.loop b298x0))) (.seq (.reg [oR s134 (.ld true 4 t3),oM s135 t0,oN s136 t135,oF s137 1 t136,oG s138 t137,oX s139 (.call 315 [t138,(ci 12)]) [(.l t3)],oS 4 t4 t134,oM s5 t139]) .ret)))), 2, [.c true 4 s4,.t s5], none⟩
def f305 : FI := ⟨(.seq (.reg [oM s2 (.c (.bool false))]) (.seq (.reg [oM s3 t0,oM s4 t0,oQ s5 .sub t4 (ci 1),oQ s6 .and t3 t5,oQ s7 .eql t6 (ci 0),oM s2 t7]) .ret)), 0, [.t s2], none⟩
def f311 : FI := ⟨(.seq (.reg [oM s2 (.c (.bool false))]) (.seq (.reg [oM s3 t0,oQ s4 .geq t3 (cu 97),oM s5 t4,⟨some s6,some (s5,true),(.p (.mov t0))⟩,⟨some s7,some (s5,true),(.p (.bin .leq eI t6 (cu 122)))⟩,oP s8 (.pick t5 t7 (.c (.bool false))),oM s2 t8]) .ret)), 0, [.t s2], none⟩
def f312 : FI := ⟨(.seq (.reg [oM s2 (.c (.bool false))]) (.seq (.reg [oM s3 t0,oQ s4 .geq t3 (cu 65),oM s5 t4,⟨some s6,some (s5,true),(.p (.mov t0))⟩,⟨some s7,some (s5,true),(.p (.bin .leq eI t6 (cu 90)))⟩,oP s8 (.pick t5 t7 (.c (.bool false))),oM s2 t8]) .ret)), 0, [.t s2], none⟩
def f314 : FI := ⟨(.seq (.reg [oM s2 (.c (.bool false))]) (.seq (.reg [oM s3 t0,oC s4 293 [t3],oM s5 t4,⟨some s6,some (s5,false),(.p (.mov t0))⟩,⟨some s7,some (s5,false),(.e (.call 294 [t6]) [])⟩,oP s8 (.pick t5 (.c (.bool true)) t7),oM s9 t8,⟨some s10,some (s9,false),(.p (.mov t0))⟩,⟨some s11,some (s9,false),(.p (.bin .eql eI t10 (cu 95)))⟩,oP s12 (.pick t9 (.c (.bool true)) t11),oM s2 t12]) .ret)), 0, [.t s2], none⟩
def f315 : FI := ⟨(.seq (.reg [oM s4 (.c .nilp)]) (.seq (.reg [oM s5 t0,oP s6 (.bld [(vi 0)] [(0,1,t5)]),oM s7 t1,oP s8 (.bld [(vi 0),(vi 0)] [(0,1,t6),(1,1,t7)]),oX s9 (.box 0 true 375 2 t8) [],oM s4 t9]) .ret)), 1, [.t s4], none⟩
def f316 : FI := ⟨(.seq (.reg [oM s0 (.c vz)]) (.seq (.reg [oC s1 331 [(.c (.str [116,121,112,101,32,109,101,116,104,111,100,32,102,117,110,99,32,109,97,105,110,32,105,110,116,101,114,102,97,99,101,32,101,109,98,101,100,32,105,110,116,32,98,111,111,108,32,116,101,120,116,32,102,110,32,108,101,116,32,112,114,105,110,116,32,105,102,32,101,108,115,101,32,119,104,105,108,101,32,114,101,116,117,114,110,32,110,105,108,32,110,101,119,32,116,111,32,97,110,100,32,111,114,32,110,111,116,32,116,114,117,101,32,102,97,108,115,101,32,115,101,108,102]))],oM s0 t1]) .ret)), 0, [.t s0], none⟩
def b331x0 : AC := (.seq (.seq (.reg [oM s80 t12,oM s81 t0,oP s82 (.len true t81),oQ s83 .lss t80 t82,oM s84 t83,⟨some s85,some (s84,true),(.p (.mov t0))⟩,⟨some s86,some (s84,true),(.p (.mov t12))⟩,⟨some s87,some (s84,true),(.p (.ixs t85 t86))⟩,⟨some s88,some (s84,true),(.p (.iaa 256 1 (.c (.vp g3 0)) t87))⟩,⟨some s89,some (s84,true),(.r (.ldc t88))⟩,⟨some s90,some (s84,true),(.p (.bin .neq eI t89 (cu 0)))⟩,oP s91 (.pick t84 t90 (.c (.bool false)))]) (.cond t91
 .skip
 (.exit 6))) (.blk 7 (.reg [oM s92 t12,oQ s93 .add t92 (ci 1),oM s12 t93])))
def b331x1 : AC := (.seq (.seq (.reg [oM s57 t12,oM s58 t0,oP s59 (.len true t58),oQ s60 .lss t57 t59]) (.cond t60
 .skip
 (.exit 4))) (.blk 5 (.seq (.seq (.reg [oM s61 t0,oM s62 t12,oP s63 (.ixs t61 t62),oP s64 (.iaa 256 1 (.c (.vp g3 0)) t63),oG s65 t64,oQ s66 .eql t65 (cu 0)]) (.cond t66
 (.seq (.reg [oM s67 t12,oQ s68 .add t67 (ci 1),oM s12 t68]) (.exit 5))
 .skip)) (.seq (.reg [oM s69 t9,oM s70 t10,oM s71 t0,oM s72 t11,oM s73 t12,oP s74 (.sls true 0 t71 (some t72) (some t73) none),oP s75 (.iad 1 t69 t70),oS 1 t75 t74]) (.seq (.reg [oM s76 t10,oQ s77 .add t76 (ci 1),oM s10 t77]) (.seq (.reg [oM s78 t12,oQ s79 .add t78 (ci 1),oM s12 t79]) (.seq (.blk 6 (.loop b331x0)) (.reg [oM s94 t12,oM s11 t94]))))))))
def b331x2 : AC := (.seq (.seq (.reg [oM s42 t12,oM s43 t0,oP s44 (.len true t43),oQ s45 .lss t42 t44,oM s46 t45,⟨some s47,some (s46,true),(.p (.mov t0))⟩,⟨some s48,some (s46,true),(.p (.mov t12))⟩,⟨some s49,some (s46,true),(.p (.ixs t47 t48))⟩,⟨some s50,some (s46,true),(.p (.iaa 256 1 (.c (.vp g3 0)) t49))⟩,⟨some s51,some (s46,true),(.r (.ldc t50))⟩,⟨some s52,some (s46,true),(.p (.bin .neq eI t51 (cu 0)))⟩,oP s53 (.pick t46 t52 (.c (.bool false)))]) (.cond t53
 .skip
 (.exit 2))) (.blk 3 (.reg [oM s54 t12,oQ s55 .add t54 (ci 1),oM s12 t55])))
def b331x3 : AC := (.seq (.seq (.reg [oM s13 t6,oM s14 t0,oP s15 (.len true t14),oQ s16 .lss t13 t15]) (.cond t16
 .skip
 (.exit 0))) (.seq (.blk 1 (.seq (.reg [oM s19 t0,oM s20 t6,oP s21 (.ixs t19 t20),oM s7 t21]) (.seq (.reg [oM s22 t5,oM s23 t7,oQ s24 .or t22 t23,oM s5 t24]) (.seq (.reg [oM s25 t7,oP s26 (.iaa 256 1 (.c (.vp g3 0)) t25),oG s27 t26,oP s28 (.cvi .i64 t27),oM s8 t28]) (.seq (.reg [oM s29 t3,oM s30 t4,oM s31 t8,oP s32 (.un .xor t31),oQ s33 .and t30 t32,oQ s34 .add t29 t33,oM s3 t34]) (.reg [oM s35 t8,oM s4 t35])))))) (.reg [oM s17 t6,oQ s18 .add t17 (ci 1),oM s6 t18])))
def f331 : FI := ⟨(.seq (.reg [oM s2 (.c vz)]) (.seq (.reg [oM s3 (ci 0)]) (.seq (.reg [oM s4 (ci 1)]) (.seq (.reg [oM s5 (cu 0)]) (.seq (.seq (.reg [oM s6 (ci 0)]) (.blk 0 (.loop b331x3))) (.seq (.seq (.reg [oM s36 t5,oQ s37 .geq t36 (cu 128)]) (.cond t37
 (.seq (.reg [oM s38 t0,oC s39 337 [t38,(.c (.fn 338 [] []))],oM s2 t39]) .ret)
 .skip)) (.seq (.reg [oM s40 t3,oX s41 (.mks 0 false true true 1 (.str []) 16 t40 t40) [],oM s9 t41]) (.seq (.reg [oM s10 (ci 0)]) (.seq (.reg [oM s11 (ci 0)]) (.seq (.reg [oM s12 (ci 0)]) (.seq (.blk 2 (.loop b331x2)) (.seq (.reg [oM s56 t12,oM s11 t56]) (.seq (.blk 4 (.loop b331x1)) (.seq (.seq (.reg [oM s95 t11,oM s96 t0,oP s97 (.len true t96),oQ s98 .lss t95 t97]) (.cond t98
 (.reg [oM s99 t9,oM s100 t10,oM s101 t0,oM s102 t11,oP s103 (.sls true 0 t101 (some t102) none none),oP s104 (.iad 1 t99 t100),oS 1 t104 t103])
 .skip)) (.seq (.reg [oM s105 t9,oM s2 t105]) .ret))))))))))))))), 1, [.t s2], none⟩
end Go.Abs.Run
