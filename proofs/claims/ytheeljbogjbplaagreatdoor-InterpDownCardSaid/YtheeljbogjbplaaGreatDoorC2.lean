/- On the way to: InterpDown returns true; its listed variables read as the text lays them. -/
import Derived.Test.YtheeljbogjbplaaGreatDoorC1
namespace Go.Abs.Run
open Go Go.Abs Go.Proofs
def b149x0:AC:=(.blk 1 (.seq (.reg [oM s21 t2,oM s22 t1,oQ s23 .sub t21 t22,oM s12 t23]) (.seq (.seq (.reg [oM s24 t12,oQ s25 .leq t24 (ci 12)]) (.cond t25
 (.seq (.reg [oM s26 t0,oM s27 t1,oM s28 t2,oM s29 t4,oC s30 193 [t26,t27,t28,t29]]) .ret)
 .skip)) (.seq (.seq (.reg [oM s31 t3,oQ s32 .eql t31 (ci 0)]) (.cond t32
 (.seq (.reg [oM s33 t0,oM s34 t1,oM s35 t2,oM s36 t4,oC s37 194 [t33,t34,t35,t36]]) .ret)
 .skip)) (.seq (.seq (.reg [oM s38 t10,oP s39 (.un .not t38)]) (.cond t39
 (.seq (.reg [oM s40 t0,oM s41 t1,oM s42 t2,oM s43 t4,oC s44 195 [t40,t41,t42,t43]]) (.reg [oM s45 t3,oQ s46 .sub t45 (ci 1),oM s3 t46]))
 .skip)) (.seq (.reg [oM s48 t0,oM s49 t1,oM s50 t2,oM s51 t4,oC s52 196 [t48,t49,t50,t51],oM s47 t52,oE s53 t47 0,oE s54 t47 1,oM s13 t53,oM s14 t54]) (.seq (.seq (.reg [oM s55 t14,oQ s56 .eql t55 (ci 2)]) (.cond t56
 (.seq (.reg [oM s57 t0,oM s58 t1,oM s59 t2,oM s60 t4,oC s61 197 [t57,t58,t59,t60]]) (.seq (.reg [oM s62 t2,oQ s63 .sub t62 (ci 1),oM s64 t13,oM s65 t1,oQ s66 .sub t64 t65,oQ s67 .sub t63 t66,oM s13 t67]) (.reg [oM s14 (ci 1)])))
 .skip)) (.seq (.seq (.reg [oM s68 t10,oM s69 t68,⟨some s70,some (s69,true),(.p (.mov t11))⟩,oP s71 (.pick t69 t70 (.c (.bool false))),oM s72 t71,⟨some s73,some (s72,true),(.p (.mov t14))⟩,⟨some s74,some (s72,true),(.p (.bin .eql eI t73 (ci 1)))⟩,oP s75 (.pick t72 t74 (.c (.bool false)))]) (.cond t75
 (.seq (.reg [oM s76 t0,oM s77 t1,oM s78 t2,oM s79 t4,oC s80 198 [t76,t77,t78,t79]]) (.cond t80
 .ret
 .skip))
 .skip)) (.seq (.seq (.reg [oM s81 t1,oQ s82 .gtr t81 (ci 0),oM s83 t82,⟨some s84,some (s83,true),(.p (.mov t4))⟩,⟨some s85,some (s83,true),(.p (.mov t0))⟩,⟨some s86,some (s83,true),(.p (.mov t1))⟩,⟨some s87,some (s83,true),(.p (.bin .sub eI t86 (ci 1)))⟩,⟨some s88,some (s83,true),(.p (.iad 2 t85 t87))⟩,⟨some s89,some (s83,true),(.r (.ld true 2 t88))⟩,⟨some s90,some (s83,true),(.p (.mov t0))⟩,⟨some s91,some (s83,true),(.p (.mov t13))⟩,⟨some s92,some (s83,true),(.p (.iad 2 t90 t91))⟩,⟨some s93,some (s83,true),(.r (.ld true 2 t92))⟩,⟨some s94,some (s83,true),(.e (.callv t84 [t89,t93]) [])⟩,⟨some s95,some (s83,true),(.p (.bin .lss eI t94 (ci 0)))⟩,⟨some s96,some (s83,true),(.p (.un .not t95))⟩,oP s97 (.pick t83 t96 (.c (.bool false)))]) (.cond t97
 (.seq (.reg [oM s98 t0,oM s99 t1,oM s100 t2,oM s101 t13,oM s102 t4,oC s103 199 [t98,t99,t100,t101,t102],oM s15 t103]) (.seq (.reg [oM s104 t15,oM s1 t104]) (.exit 1)))
 .skip)) (.seq (.reg [oM s106 t0,oM s107 t1,oM s108 t2,oM s109 t13,oM s110 t4,oC s111 200 [t106,t107,t108,t109,t110],oM s105 t111,oE s112 t105 0,oE s113 t105 1,oM s16 t112,oM s17 t113]) (.seq (.reg [oM s114 t17,oM s11 t114]) (.seq (.reg [oM s115 t16,oM s116 t1,oQ s117 .sub t115 t116,oM s118 t2,oM s119 t16,oQ s120 .sub t118 t119,oM s18 t117,oM s19 t120]) (.seq (.reg [oM s121 t12,oQ s122 .quo t121 (ci 8),oM s20 t122]) (.seq (.reg [oM s123 t18,oM s124 t19,oQ s125 .lss t123 t124]) (.cond t125
 (.seq (.reg [oM s126 t18,oM s127 t20,oQ s128 .geq t126 t127,oM s10 t128]) (.seq (.reg [oM s129 t0,oM s130 t1,oM s131 t16,oM s132 t3,oM s133 t4,oC s134 149 [t129,t130,t131,t132,t133]]) (.reg [oM s135 t16,oQ s136 .add t135 (ci 1),oM s1 t136])))
 (.seq (.reg [oM s137 t19,oM s138 t20,oQ s139 .geq t137 t138,oM s10 t139]) (.seq (.reg [oM s140 t0,oM s141 t16,oQ s142 .add t141 (ci 1),oM s143 t2,oM s144 t3,oM s145 t4,oC s146 149 [t140,t142,t143,t144,t145]]) (.reg [oM s147 t16,oM s2 t147]))))))))))))))))))
def f149:FI:=⟨(.seq (.reg [oM s10 (.c (.bool true))]) (.seq (.reg [oM s11 (.c (.bool true))]) (.blk 0 (.loop b149x0)))),0,[],none⟩
def f150:FI:=⟨(.seq (.reg [oM s2 (ci 0)]) (.seq (.cond (.c (.bool false))
 (.seq (.reg [oM s3 t0,oP s4 (.cvi .u32 t3),oC s5 201 [t4],oM s2 t5]) .ret)
 .skip) (.seq (.reg [oM s6 t0,oC s7 202 [t6],oM s2 t7]) .ret))),0,[.t s2],none⟩
def f151:FI:=⟨(.seq (.reg [oM s2 (.c vz)]) (.seq (.seq (.reg [oM s3 t0,oP s4 (.bin .eql .sl t3 (.c vz))]) (.cond t4
 (.seq (.reg [oM s2 (.c vz)]) .ret)
 .skip)) (.seq (.reg [oP s5 (.bsl 0 1 (.str []) []),oM s6 t0,oX s7 (.app 0 0 1 (.str []) 16 t5 t6) [],oM s2 t7]) .ret))),0,[.t s2],none⟩
def f152:FI:=⟨(.seq (.reg [oM s2 (.c vz)]) (.seq (.seq (.reg [oM s3 t0,oP s4 (.bin .eql .sl t3 (.c vz))]) (.cond t4
 (.seq (.reg [oM s2 (.c vz)]) .ret)
 .skip)) (.seq (.reg [oP s5 (.bsl 0 1 (.bool false) []),oM s6 t0,oX s7 (.app 0 0 1 (.bool false) 1 t5 t6) [],oM s2 t7]) .ret))),0,[.t s2],none⟩
def b153x0:AC:=(.blk 1 (.seq (.reg [oM s21 t2,oM s22 t1,oQ s23 .sub t21 t22,oM s12 t23]) (.seq (.seq (.reg [oM s24 t12,oQ s25 .leq t24 (ci 12)]) (.cond t25
 (.seq (.reg [oM s26 t0,oM s27 t1,oM s28 t2,oM s29 t4,oC s30 203 [t26,t27,t28,t29]]) .ret)
 .skip)) (.seq (.seq (.reg [oM s31 t3,oQ s32 .eql t31 (ci 0)]) (.cond t32
 (.seq (.reg [oM s33 t0,oM s34 t1,oM s35 t2,oM s36 t4,oC s37 204 [t33,t34,t35,t36]]) .ret)
 .skip)) (.seq (.seq (.reg [oM s38 t10,oP s39 (.un .not t38)]) (.cond t39
 (.seq (.reg [oM s40 t0,oM s41 t1,oM s42 t2,oM s43 t4,oC s44 205 [t40,t41,t42,t43]]) (.reg [oM s45 t3,oQ s46 .sub t45 (ci 1),oM s3 t46]))
 .skip)) (.seq (.reg [oM s48 t0,oM s49 t1,oM s50 t2,oM s51 t4,oC s52 206 [t48,t49,t50,t51],oM s47 t52,oE s53 t47 0,oE s54 t47 1,oM s13 t53,oM s14 t54]) (.seq (.seq (.reg [oM s55 t14,oQ s56 .eql t55 (ci 2)]) (.cond t56
 (.seq (.reg [oM s57 t0,oM s58 t1,oM s59 t2,oM s60 t4,oC s61 207 [t57,t58,t59,t60]]) (.seq (.reg [oM s62 t2,oQ s63 .sub t62 (ci 1),oM s64 t13,oM s65 t1,oQ s66 .sub t64 t65,oQ s67 .sub t63 t66,oM s13 t67]) (.reg [oM s14 (ci 1)])))
 .skip)) (.seq (.seq (.reg [oM s68 t10,oM s69 t68,⟨some s70,some (s69,true),(.p (.mov t11))⟩,oP s71 (.pick t69 t70 (.c (.bool false))),oM s72 t71,⟨some s73,some (s72,true),(.p (.mov t14))⟩,⟨some s74,some (s72,true),(.p (.bin .eql eI t73 (ci 1)))⟩,oP s75 (.pick t72 t74 (.c (.bool false)))]) (.cond t75
 (.seq (.reg [oM s76 t0,oM s77 t1,oM s78 t2,oM s79 t4,oC s80 208 [t76,t77,t78,t79]]) (.cond t80
 .ret
 .skip))
 .skip)) (.seq (.seq (.reg [oM s81 t1,oQ s82 .gtr t81 (ci 0),oM s83 t82,⟨some s84,some (s83,true),(.p (.mov t4))⟩,⟨some s85,some (s83,true),(.p (.mov t0))⟩,⟨some s86,some (s83,true),(.p (.mov t1))⟩,⟨some s87,some (s83,true),(.p (.bin .sub eI t86 (ci 1)))⟩,⟨some s88,some (s83,true),(.p (.iad 3 t85 t87))⟩,⟨some s89,some (s83,true),(.r (.ld true 3 t88))⟩,⟨some s90,some (s83,true),(.p (.mov t0))⟩,⟨some s91,some (s83,true),(.p (.mov t13))⟩,⟨some s92,some (s83,true),(.p (.iad 3 t90 t91))⟩,⟨some s93,some (s83,true),(.r (.ld true 3 t92))⟩,⟨some s94,some (s83,true),(.e (.callv t84 [t89,t93]) [])⟩,⟨some s95,some (s83,true),(.p (.bin .lss eI t94 (ci 0)))⟩,⟨some s96,some (s83,true),(.p (.un .not t95))⟩,oP s97 (.pick t83 t96 (.c (.bool false)))]) (.cond t97
 (.seq (.reg [oM s98 t0,oM s99 t1,oM s100 t2,oM s101 t13,oM s102 t4,oC s103 209 [t98,t99,t100,t101,t102],oM s15 t103]) (.seq (.reg [oM s104 t15,oM s1 t104]) (.exit 1)))
 .skip)) (.seq (.reg [oM s106 t0,oM s107 t1,oM s108 t2,oM s109 t13,oM s110 t4,oC s111 210 [t106,t107,t108,t109,t110],oM s105 t111,oE s112 t105 0,oE s113 t105 1,oM s16 t112,oM s17 t113]) (.seq (.reg [oM s114 t17,oM s11 t114]) (.seq (.reg [oM s115 t16,oM s116 t1,oQ s117 .sub t115 t116,oM s118 t2,oM s119 t16,oQ s120 .sub t118 t119,oM s18 t117,oM s19 t120]) (.seq (.reg [oM s121 t12,oQ s122 .quo t121 (ci 8),oM s20 t122]) (.seq (.reg [oM s123 t18,oM s124 t19,oQ s125 .lss t123 t124]) (.cond t125
 (.seq (.reg [oM s126 t18,oM s127 t20,oQ s128 .geq t126 t127,oM s10 t128]) (.seq (.reg [oM s129 t0,oM s130 t1,oM s131 t16,oM s132 t3,oM s133 t4,oC s134 153 [t129,t130,t131,t132,t133]]) (.reg [oM s135 t16,oQ s136 .add t135 (ci 1),oM s1 t136])))
 (.seq (.reg [oM s137 t19,oM s138 t20,oQ s139 .geq t137 t138,oM s10 t139]) (.seq (.reg [oM s140 t0,oM s141 t16,oQ s142 .add t141 (ci 1),oM s143 t2,oM s144 t3,oM s145 t4,oC s146 153 [t140,t142,t143,t144,t145]]) (.reg [oM s147 t16,oM s2 t147]))))))))))))))))))
def f153:FI:=⟨(.seq (.reg [oM s10 (.c (.bool true))]) (.seq (.reg [oM s11 (.c (.bool true))]) (.blk 0 (.loop b153x0)))),0,[],none⟩
def b154x0:AC:=(.seq (.reg [oQ s23 .lss t22 t21]) (.seq (.cond t23
 .skip
 (.exit 0)) (.seq (.blk 1 (.seq (.reg [oP s24 (.iad 5 t20 t22),oR s25 (.ld true 5 t24),oX s9 (.new 0 false false (.cells 46 [(vi 0),(.str []),vz,vz,vz])) [],oS 5 t9 t25]) (.reg [oM s26 t7,oM s27 t0,oR s28 (.ld true 5 t9),oC s29 83 [t27,t28],oP s30 (.bsl 1 1 (vi 0) [(0,t29)]),oX s31 (.app 1 0 1 (vi 0) 8 t26 t30) [],oM s7 t31]))) (.reg [oQ s32 .add t22 (ci 1),oM s22 t32]))))
def f154:FI:=⟨(.seq (.reg [oM s4 (.c vz),oM s5 (.c .nili)]) (.seq (.seq (.reg [oM s10 t0,oM s11 t1,oC s12 211 [t10,t11],oM s6 t12]) (.seq (.reg [oM s13 t6,oP s14 (.bin .neq .ptr t13 (.c .nilp))]) (.cond t14
 (.seq (.reg [oM s15 t6,oP s16 (.ifc 128 t15),oM s4 (.c vz),oM s5 t16]) .ret)
 .skip))) (.seq (.reg [oM s17 t1,oP s18 (.len false t17),oX s19 (.mks 0 false false true 1 (vi 0) 8 (ci 0) t18) [],oM s7 t19]) (.seq (.seq (.reg [oM s20 t1,oP s21 (.len false t20),oM s22 (ci 0)]) (.blk 0 (.loop b154x0))) (.seq (.reg [oM s33 t7,oM s4 t33,oM s5 (.c .nili)]) .ret))))),1,[.t s4,.t s5],none⟩
def b155x0:AC:=(.seq (.reg [oQ s11 .lss t10 t9]) (.seq (.cond t11
 .skip
 (.exit 0)) (.seq (.blk 1 (.seq (.reg [oP s12 (.iad 5 t8 t10),oR s13 (.ld true 5 t12),oX s7 (.new 1 false false (.cells 46 [(vi 0),(.str []),vz,vz,vz])) [],oS 5 t7 t13]) (.reg [oM s14 t0,oM s15 t0,oN s16 t15,oF s17 15 t16,oL s18 t17,oM s19 t0,oR s20 (.ld true 1 t4),oR s21 (.ld true 5 t7),oX s22 (.call 86 [t19,t20,t21]) [(.l t17)],oP s23 (.bsl 1 1 (vi 0) [(0,t22)]),oX s24 (.app 2 0 1 (vi 0) 8 t18 t23) [],oN s25 t14,oF s26 15 t25,oS 1 t26 t24]))) (.reg [oQ s27 .add t10 (ci 1),oM s10 t27]))))
def f155:FI:=⟨(.seq (.reg [oX s4 (.box 0 false 41 1 t1) []]) (.seq (.reg [oM s8 t2,oP s9 (.len false t8),oM s10 (ci 0)]) (.blk 0 (.loop b155x0)))),2,[],none⟩
def b156x0:AC:=(.seq (.reg [oQ s37 .lss t36 t35]) (.seq (.cond t37
 .skip
 (.exit 0)) (.seq (.blk 1 (.seq (.reg [oP s38 (.iad 7 t34 t36),oR s39 (.ld true 7 t38),oX s5 (.new 1 false false (.cells 258 [(vi 0),(vi 0),(vi 0),(.str []),vz,vz,vz])) [],oS 7 t5 t39]) (.reg [oM s40 t0,oR s41 (.ld true 7 t5),oC s42 156 [t40,t41]]))) (.reg [oQ s43 .add t36 (ci 1),oM s36 t43]))))
def f156:FI:=⟨(.seq (.reg [oX s3 (.box 0 false 258 7 t1) []]) (.seq (.reg [oM s6 t0,oN s7 t6,oF s8 0 t7,oG s9 t8,oN s10 t9,oF s11 5 t10,oG s12 t11,oQ s13 .add t12 (ci 1),oN s14 t9,oF s15 5 t14,oS 1 t15 t13]) (.seq (.reg [oM s16 t0,oF s17 0 t3,oR s18 (.ld true 1 t17),oF s19 4 t3,oL s20 t19,oC s21 155 [t16,t18,t20]]) (.seq (.seq (.reg [oF s22 1 t3,oG s23 t22,oQ s24 .eql t23 (ci 8)]) (.cond t24
 (.reg [oM s25 t0,oF s26 0 t3,oR s27 (.ld true 1 t26),oF s28 3 t3,oL s29 t28,oX s30 (.call 212 [t29]) [(.l t26)],oP s31 (.bsl 1 5 (.agg [(vi 0),(.str []),vz,vz,vz]) [(0,t30)]),oC s32 155 [t25,t27,t31]])
 .skip)) (.seq (.reg [oF s33 6 t3,oL s34 t33,oP s35 (.len false t34),oM s36 (ci 0)]) (.blk 0 (.loop b156x0))))))),2,[],none⟩
def f157:FI:=⟨(.seq (.reg [oM s2 (.c vz)]) (.seq (.seq (.reg [oM s3 t0,oP s4 (.bin .eql .sl t3 (.c vz))]) (.cond t4
 (.seq (.reg [oM s2 (.c vz)]) .ret)
 .skip)) (.seq (.reg [oP s5 (.bsl 0 5 (.agg [(vi 0),vz,vz,vz,(.str [])]) []),oM s6 t0,oX s7 (.app 0 2 5 (.agg [(vi 0),vz,vz,vz,(.str [])]) 96 t5 t6) [],oM s2 t7]) .ret))),1,[.t s2],none⟩
def f158:FI:=⟨(.seq (.reg [oM s2 (.c vz)]) (.seq (.seq (.reg [oM s3 t0,oP s4 (.bin .eql .sl t3 (.c vz))]) (.cond t4
 (.seq (.reg [oM s2 (.c vz)]) .ret)
 .skip)) (.seq (.reg [oP s5 (.bsl 0 2 (.agg [(.str []),(vi 0)]) []),oM s6 t0,oX s7 (.app 0 2 2 (.agg [(.str []),(vi 0)]) 24 t5 t6) [],oM s2 t7]) .ret))),1,[.t s2],none⟩
def f159:FI:=⟨(.seq (.reg [oM s2 (.c vz)]) (.seq (.seq (.reg [oM s3 t0,oP s4 (.bin .eql .sl t3 (.c vz))]) (.cond t4
 (.seq (.reg [oM s2 (.c vz)]) .ret)
 .skip)) (.seq (.reg [oP s5 (.bsl 0 3 (.agg [(.str []),(.str []),(vi 0)]) []),oM s6 t0,oX s7 (.app 0 2 3 (.agg [(.str []),(.str []),(vi 0)]) 40 t5 t6) [],oM s2 t7]) .ret))),1,[.t s2],none⟩
def f160:FI:=⟨(.seq (.reg [oM s4 (ci 0)]) (.seq (.seq (.reg [oM s8 t0,oM s9 t1,oR s10 (.lku false [.s] true (vi 0) t8 t9),oM s7 t10,oE s11 t7 0,oE s12 t7 1,oM s5 t11,oM s6 t12]) (.seq (.reg [oM s13 t6]) (.cond t13
 (.seq (.reg [oM s14 t5,oQ s15 .sub t14 (ci 1),oM s4 t15]) .ret)
 .skip))) (.seq (.reg [oM s16 t0,oM s17 t1,oM s18 t0,oR s19 (.mlen t18),oQ s20 .add t19 (ci 1),oY (.mup false [.s] t16 t17 t20) []]) (.seq (.reg [oM s21 t0,oR s22 (.mlen t21),oQ s23 .sub t22 (ci 1),oM s4 t23]) .ret)))),0,[.t s4],none⟩
def f161:FI:=⟨(.seq (.reg [oM s6 (.c vz)]) (.seq (.reg [oM s7 t0,oM s8 t1,oM s9 t2,oC s10 213 [t7,t8,t9],oM s6 t10]) .ret)),0,[.t s6],none⟩
def b162x0:AC:=(.seq (.seq (.reg [oM s15 t9,oM s16 t10,oQ s17 .lss t15 t16]) (.cond t17
 .skip
 (.exit 0))) (.blk 1 (.seq (.reg [oM s18 t9,oM s19 t10,oQ s20 .add t18 t19,oP s21 (.cvi .u64 t20),oQ s22 .shr t21 (.c (.int .u64 (.ofNat 1))),oP s23 (.cvi .i64 t22),oM s11 t23]) (.seq (.reg [oM s24 t2,oM s25 t0,oM s26 t11,oP s27 (.iad 2 t25 t26),oR s28 (.ld true 2 t27),oM s29 t1,oX s30 (.callv t24 [t28,t29]) [],oQ s31 .lss t30 (ci 0)]) (.cond t31
 (.reg [oM s32 t11,oQ s33 .add t32 (ci 1),oM s9 t33])
 (.reg [oM s34 t11,oM s10 t34]))))))
def f162:FI:=⟨(.seq (.reg [oM s6 (ci 0),oM s7 (.c (.bool false))]) (.seq (.reg [oM s12 t0,oP s13 (.len false t12),oM s8 t13]) (.seq (.reg [oM s14 t8,oM s9 (ci 0),oM s10 t14]) (.seq (.blk 0 (.loop b162x0)) (.seq (.reg [oM s35 t9,oM s36 t9,oM s37 t8,oQ s38 .lss t36 t37,oM s39 t38,⟨some s40,some (s39,true),(.p (.mov t2))⟩,⟨some s41,some (s39,true),(.p (.mov t0))⟩,⟨some s42,some (s39,true),(.p (.mov t9))⟩,⟨some s43,some (s39,true),(.p (.iad 2 t41 t42))⟩,⟨some s44,some (s39,true),(.r (.ld true 2 t43))⟩,⟨some s45,some (s39,true),(.p (.mov t1))⟩,⟨some s46,some (s39,true),(.e (.callv t40 [t44,t45]) [])⟩,⟨some s47,some (s39,true),(.p (.bin .eql eI t46 (ci 0)))⟩,oP s48 (.pick t39 t47 (.c (.bool false))),oM s6 t35,oM s7 t48]) .ret))))),0,[.t s6,.t s7],none⟩
def f163:FI:=⟨(.seq (.reg [oX s2 (.box 0 false 198 2 t0) [],oM s4 (ci 0)]) (.seq (.reg [oF s5 0 t2,oL s6 t5,oM s7 t1,oC s8 82 [t6,t7],oM s4 t8]) .ret)),1,[.t s4],none⟩
def b164x0:AC:=(.seq (.reg [oQ s13 .lss t12 t11]) (.seq (.cond t13
 .skip
 (.exit 0)) (.seq (.blk 1 (.seq (.reg [oP s14 (.iad 3 t10 t12),oR s15 (.ld true 3 t14),oX s7 (.new 1 false false (.cells 315 [(.str []),(.bool false),(vi 0)])) [],oS 3 t7 t15]) (.seq (.reg [oC s16 110 [t5,(cu 32)]]) (.seq (.seq (.reg [oF s17 1 t7,oG s18 t17]) (.cond t18
 (.reg [oC s19 110 [t5,(cu 43)]])
 .skip)) (.reg [oF s20 0 t7,oL s21 t20,oC s22 107 [t5,t21]]))))) (.reg [oQ s23 .add t12 (ci 1),oM s12 t23]))))
def f164:FI:=⟨(.seq (.reg [oM s4 (.c (.str []))]) (.seq (.reg [oX s5 (.new 0 false false (.cells 150 [.nilp,vz])) []]) (.seq (.reg [oM s8 t0,oC s9 107 [t5,t8]]) (.seq (.seq (.reg [oM s10 t1,oP s11 (.len false t10),oM s12 (ci 0)]) (.blk 0 (.loop b164x0))) (.seq (.reg [oC s24 56 [t5],oM s4 t24]) .ret))))),2,[.t s4],none⟩
def b165x0:AC:=(.seq (.reg [oQ s22 .lss t21 t20]) (.seq (.cond t22
 .skip
 (.exit 0)) (.seq (.blk 1 (.seq (.reg [oM s23 t21,oP s24 (.iad 1 t19 t21),oG s25 t24,oM s8 t23,oM s9 t25]) (.seq (.reg [oM s26 t9,oP s27 (.bld [(.str []),(.bool false),(vi 0)] [(2,1,t26)]),oX s10 (.new 0 false false (.cells 315 [(.str []),(.bool false),(vi 0)])) [],oS 3 t10 t27]) (.seq (.seq (.reg [oM s28 t8,oM s29 t5,oP s30 (.len false t29),oQ s31 .lss t28 t30]) (.cond t31
 (.reg [oM s32 t5,oM s33 t8,oP s34 (.iad 1 t32 t33),oL s35 t34,oF s36 0 t10,oS 1 t36 t35])
 .skip)) (.seq (.seq (.reg [oM s37 t8,oM s38 t6,oP s39 (.len false t38),oQ s40 .lss t37 t39]) (.cond t40
 (.reg [oM s41 t6,oM s42 t8,oP s43 (.iad 1 t41 t42),oG s44 t43,oF s45 1 t10,oS 1 t45 t44])
 .skip)) (.reg [oM s46 t7,oR s47 (.ld true 3 t10),oP s48 (.bsl 1 3 (.agg [(.str []),(.bool false),(vi 0)]) [(0,t47)]),oX s49 (.app 1 1 3 (.agg [(.str []),(.bool false),(vi 0)]) 32 t46 t48) [],oM s7 t49])))))) (.reg [oQ s50 .add t21 (ci 1),oM s21 t50]))))
def f165:FI:=⟨(.seq (.reg [oM s4 (.c vz)]) (.seq (.reg [oM s11 t0,oM s12 t1,oC s13 105 [t11,t12],oM s14 t0,oM s15 t1,oC s16 214 [t14,t15],oM s5 t13,oM s6 t16]) (.seq (.reg [oM s7 (.c vz)]) (.seq (.seq (.reg [oM s17 t0,oM s18 t1,oC s19 49 [t17,t18],oP s20 (.len false t19),oM s21 (ci 0)]) (.blk 0 (.loop b165x0))) (.seq (.seq (.reg [oM s51 t5,oP s52 (.len false t51),oQ s53 .gtr t52 (ci 0)]) (.cond t53
 (.reg [oM s54 t7,oC s55 215 [t54,(.c (.fn 216 [] []))]])
 .skip)) (.seq (.reg [oM s56 t7,oM s4 t56]) .ret)))))),2,[.t s4],none⟩
def f166:FI:=⟨(.seq (.reg [oM s4 (.c (.str []))]) (.seq (.reg [oM s5 t0,oM s6 t1,oC s7 103 [t5,t6],oP s8 (.fld false 4 1 t7),oM s4 t8]) .ret)),0,[.t s4],none⟩
def b167x0:AC:=(.seq (.reg [oQ s14 .lss t13 t12]) (.seq (.cond t14
 .skip
 (.exit 0)) (.seq (.blk 1 (.seq (.reg [oP s15 (.iad 3 t11 t13),oR s16 (.ld true 3 t15),oX s7 (.new 0 false false (.cells 206 [(.str []),(.str []),(vi 0)])) [],oS 3 t7 t16]) (.seq (.reg [oF s17 0 t7,oL s18 t17,oM s19 t1,oP s20 (.bin .eql eS t18 t19)]) (.cond t20
 (.reg [oM s21 t5,oF s22 1 t7,oL s23 t22,oP s24 (.bsl 1 1 (.str []) [(0,t23)]),oX s25 (.app 1 0 1 (.str []) 16 t21 t24) [],oM s5 t25])
 .skip)))) (.reg [oQ s26 .add t13 (ci 1),oM s13 t26]))))
def f167:FI:=⟨(.seq (.reg [oM s4 (.c vz)]) (.seq (.reg [oM s5 (.c vz)]) (.seq (.seq (.reg [oM s8 t0,oN s9 t8,oF s10 2 t9,oL s11 t10,oP s12 (.len false t11),oM s13 (ci 0)]) (.blk 0 (.loop b167x0))) (.seq (.reg [oM s27 t5,oM s28 t5,oP s29 (.len false t28),oM s30 t5,oP s31 (.len false t30),oP s32 (.sls false 1 t27 none (some t29) (some t31)),oM s4 t32]) .ret)))),1,[.t s4],none⟩
def f168:FI:=⟨(.seq (.reg [oX s3 (.box 0 false 167 7 t1) [],oM s4 (.c .nilp)]) (.seq (.reg [oF s9 1 t3,oG s10 t9,oF s11 2 t3,oL s12 t11,oP s13 (.bld [(vi 0),(.str []),.nilp,vz,vz] [(0,1,t10),(1,1,t12)]),oX s14 (.box 1 true 156 5 t13) [],oM s5 t14]) (.seq (.reg [oM s6 (.c (vj 0))]) (.seq (.seq (.reg [oF s15 3 t3,oL s16 t15,oP s17 (.len false t16),oQ s18 .gtr t17 (ci 0)]) (.cond t18
 (.reg [oM s19 t0,oC s20 218 [t19],oM s6 t20])
 .skip)) (.seq (.reg [oM s22 t0,oF s23 2 t3,oL s24 t23,oC s25 219 [t22,t24],oM s21 t25,oE s26 t21 0,oE s27 t21 1,oM s7 t26,oM s8 t27]) (.seq (.seq (.reg [oF s28 1 t3,oG s29 t28,oQ s30 .eql t29 (ci 2),oM s31 t30,⟨some s32,some (s31,true),(.p (.mov t8))⟩,⟨some s33,some (s31,true),(.p (.un .not t32))⟩,oP s34 (.pick t31 t33 (.c (.bool false)))]) (.cond t34
 (.reg [oF s35 0 t3,oR s36 (.ld true 1 t35),oF s37 2 t3,oL s38 t37,oC s39 40 [t36,(ci 21),t38]])
 .skip)) (.seq (.reg [oM s40 t5,oM s41 t0,oF s42 4 t3,oL s43 t42,oP s44 (.iad 7 t43 (ci 0)),oR s45 (.ld true 7 t44),oC s46 220 [t41,t45],oN s47 t40,oF s48 2 t47,oS 1 t48 t46]) (.seq (.seq (.reg [oF s49 1 t3,oG s50 t49]) (.blk 0 (.seq (.reg [oQ s52 .eql t50 (ci 1),oM s51 t52]) (.cond t51
 (.seq (.seq (.reg [oM s53 t8]) (.cond t53
 (.reg [oF s54 0 t3,oR s55 (.ld true 1 t54),oF s56 2 t3,oL s57 t56,oC s58 40 [t55,(ci 20),t57]])
 .skip)) (.seq (.seq (.reg [oM s59 t6,oQ s60 .geq t59 (ci 0)]) (.cond t60
 (.reg [oM s61 t0,oM s62 t5,oN s63 t62,oF s64 2 t63,oG s65 t64,oM s66 t6,oC s67 221 [t61,t65,t66]])
 (.reg [oM s68 t5,oN s69 t68,oF s70 2 t69,oG s71 t70,oN s72 t71,oF s73 7 t72,oG s74 t73,oM s6 t74]))) (.reg [oM s75 t0,oM s76 t0,oN s77 t76,oF s78 3 t77,oL s79 t78,oF s80 2 t3,oL s81 t80,oM s82 t6,oP s83 (.bld [(.str []),(vi 0)] [(0,1,t81),(1,1,t82)]),oP s84 (.bsl 1 2 (.agg [(.str []),(vi 0)]) [(0,t83)]),oX s85 (.app 2 0 2 (.agg [(.str []),(vi 0)]) 24 t79 t84) [],oN s86 t75,oF s87 3 t86,oS 1 t87 t85])))
 (.seq (.reg [oQ s89 .eql t50 (ci 2),oM s88 t89]) (.cond t88
 (.reg [oM s90 t0,oM s91 t5,oN s92 t91,oF s93 2 t92,oG s94 t93,oM s95 t7,oC s96 221 [t90,t94,t95]])
 (.seq (.seq (.reg [oQ s98 .eql t50 (ci 4),oM s97 t98]) (.cond t97
 .skip
 (.reg [oQ s99 .eql t50 (ci 5),oM s97 t99]))) (.cond t97
 (.seq (.seq (.reg [oM s100 t5,oN s101 t100,oF s102 2 t101,oG s103 t102,oN s104 t103,oF s105 7 t104,oG s106 t105,oM s107 t0,oN s108 t107,oF s109 0 t108,oG s110 t109,oN s111 t110,oF s112 18 t111,oP s113 (.iaa 3 1 t112 (ci 1)),oG s114 t113,oQ s115 .neq t106 t114]) (.cond t115
 (.reg [oM s116 t5,oN s117 t116,oF s118 2 t117,oG s119 t118,oN s120 t119,oF s121 0 t120,oF s122 0 t121,oR s123 (.ld true 1 t122),oC s124 40 [t123,(ci 40),(.c (.str []))]])
 .skip)) (.seq (.reg [oM s125 t5,oM s126 t0,oF s127 5 t3,oL s128 t127,oC s129 102 [t126,t128],oN s130 t125,oF s131 3 t130,oS 1 t131 t129]) (.reg [oM s132 t5,oM s133 t0,oF s134 6 t3,oL s135 t134,oC s136 102 [t133,t135],oN s137 t132,oF s138 4 t137,oS 1 t138 t136])))
 (.seq (.reg [oQ s140 .eql t50 (ci 6),oM s139 t140]) (.cond t139
 (.reg [oM s141 t0,oM s142 t5,oN s143 t142,oF s144 2 t143,oG s145 t144,oM s146 t0,oN s147 t146,oF s148 2 t147,oG s149 t148,oC s150 221 [t141,t145,t149]])
 .skip)))))))))) (.seq (.reg [oM s151 t5,oM s4 t151]) .ret))))))))),2,[.t s4],none⟩
def b169x0:AC:=(.blk 1 (.seq (.reg [oM s19 t2,oM s20 t1,oQ s21 .sub t19 t20,oM s10 t21]) (.seq (.seq (.reg [oM s22 t10,oQ s23 .leq t22 (ci 12)]) (.cond t23
 (.seq (.reg [oM s24 t0,oM s25 t1,oM s26 t2,oC s27 222 [t24,t25,t26]]) .ret)
 .skip)) (.seq (.seq (.reg [oM s28 t3,oQ s29 .eql t28 (ci 0)]) (.cond t29
 (.seq (.reg [oM s30 t0,oM s31 t1,oM s32 t2,oC s33 223 [t30,t31,t32]]) .ret)
 .skip)) (.seq (.seq (.reg [oM s34 t8,oP s35 (.un .not t34)]) (.cond t35
 (.seq (.reg [oM s36 t0,oM s37 t1,oM s38 t2,oC s39 224 [t36,t37,t38]]) (.reg [oM s40 t3,oQ s41 .sub t40 (ci 1),oM s3 t41]))
 .skip)) (.seq (.reg [oM s43 t0,oM s44 t1,oM s45 t2,oC s46 225 [t43,t44,t45],oM s42 t46,oE s47 t42 0,oE s48 t42 1,oM s11 t47,oM s12 t48]) (.seq (.seq (.reg [oM s49 t12,oQ s50 .eql t49 (ci 2)]) (.cond t50
 (.seq (.reg [oM s51 t0,oM s52 t1,oM s53 t2,oC s54 226 [t51,t52,t53]]) (.seq (.reg [oM s55 t2,oQ s56 .sub t55 (ci 1),oM s57 t11,oM s58 t1,oQ s59 .sub t57 t58,oQ s60 .sub t56 t59,oM s11 t60]) (.reg [oM s12 (ci 1)])))
 .skip)) (.seq (.seq (.reg [oM s61 t8,oM s62 t61,⟨some s63,some (s62,true),(.p (.mov t9))⟩,oP s64 (.pick t62 t63 (.c (.bool false))),oM s65 t64,⟨some s66,some (s65,true),(.p (.mov t12))⟩,⟨some s67,some (s65,true),(.p (.bin .eql eI t66 (ci 1)))⟩,oP s68 (.pick t65 t67 (.c (.bool false)))]) (.cond t68
 (.seq (.reg [oM s69 t0,oM s70 t1,oM s71 t2,oC s72 227 [t69,t70,t71]]) (.cond t72
 .ret
 .skip))
 .skip)) (.seq (.seq (.reg [oM s73 t1,oQ s74 .gtr t73 (ci 0),oM s75 t74,⟨some s76,some (s75,true),(.p (.mov t0))⟩,⟨some s77,some (s75,true),(.p (.mov t1))⟩,⟨some s78,some (s75,true),(.p (.bin .sub eI t77 (ci 1)))⟩,⟨some s79,some (s75,true),(.p (.iad 1 t76 t78))⟩,⟨some s80,some (s75,true),(.r (.ld false 1 t79))⟩,⟨some s81,some (s75,true),(.p (.mov t0))⟩,⟨some s82,some (s75,true),(.p (.mov t11))⟩,⟨some s83,some (s75,true),(.p (.iad 1 t81 t82))⟩,⟨some s84,some (s75,true),(.r (.ld false 1 t83))⟩,⟨some s85,some (s75,true),(.e (.call 228 [t80,t84]) [])⟩,⟨some s86,some (s75,true),(.p (.un .not t85))⟩,oP s87 (.pick t75 t86 (.c (.bool false)))]) (.cond t87
 (.seq (.reg [oM s88 t0,oM s89 t1,oM s90 t2,oM s91 t11,oC s92 229 [t88,t89,t90,t91],oM s13 t92]) (.seq (.reg [oM s93 t13,oM s1 t93]) (.exit 1)))
 .skip)) (.seq (.reg [oM s95 t0,oM s96 t1,oM s97 t2,oM s98 t11,oC s99 230 [t95,t96,t97,t98],oM s94 t99,oE s100 t94 0,oE s101 t94 1,oM s14 t100,oM s15 t101]) (.seq (.reg [oM s102 t15,oM s9 t102]) (.seq (.reg [oM s103 t14,oM s104 t1,oQ s105 .sub t103 t104,oM s106 t2,oM s107 t14,oQ s108 .sub t106 t107,oM s16 t105,oM s17 t108]) (.seq (.reg [oM s109 t10,oQ s110 .quo t109 (ci 8),oM s18 t110]) (.seq (.reg [oM s111 t16,oM s112 t17,oQ s113 .lss t111 t112]) (.cond t113
 (.seq (.reg [oM s114 t16,oM s115 t18,oQ s116 .geq t114 t115,oM s8 t116]) (.seq (.reg [oM s117 t0,oM s118 t1,oM s119 t14,oM s120 t3,oC s121 169 [t117,t118,t119,t120]]) (.reg [oM s122 t14,oQ s123 .add t122 (ci 1),oM s1 t123])))
 (.seq (.reg [oM s124 t17,oM s125 t18,oQ s126 .geq t124 t125,oM s8 t126]) (.seq (.reg [oM s127 t0,oM s128 t14,oQ s129 .add t128 (ci 1),oM s130 t2,oM s131 t3,oC s132 169 [t127,t129,t130,t131]]) (.reg [oM s133 t14,oM s2 t133]))))))))))))))))))
def f169:FI:=⟨(.seq (.reg [oM s8 (.c (.bool true))]) (.seq (.reg [oM s9 (.c (.bool true))]) (.blk 0 (.loop b169x0)))),0,[],none⟩
def f170:FI:=⟨(.seq (.reg [oM s2 t0,oN s3 t2,oF s4 0 t3,oG s5 t4,oP s6 (.bin .eql .ptr t5 (.c .nilp))]) (.cond t6
 (.reg [oM s7 t0,oM s8 t0,oR s9 (.cvu t8),oC s10 231 [t9],oR s11 (.cvp [(173,3,0),(172,3,0),(171,3,0),(170,3,0),(150,2,0),(149,2,0)] t10),oN s12 t7,oF s13 0 t12,oS 1 t13 t11])
 (.seq (.reg [oM s14 t0,oN s15 t14,oF s16 0 t15,oG s17 t16,oM s18 t0,oP s19 (.bin .neq .ptr t17 t18)]) (.cond t19
 (.reg [⟨none,none,(.p (.ext (.c .undef) 0))⟩])
 .skip)))),0,[],none⟩
def f171:FI:=⟨(.seq (.reg [oM s2 (.c (.str []))]) (.seq (.reg [oM s3 t0,oC s4 232 [t3,(ci 10)],oM s2 t4]) .ret)),0,[.t s2],none⟩
def f173:FI:=⟨(.seq (.reg [oM s4 (ci 0),oM s5 (.c (.bool false))]) (.seq (.reg [oM s9 t0,oN s10 t9,oF s11 0 t10,oG s12 t11,oM s13 t1,oC s14 94 [t12,t13],oM s8 t14,oE s15 t8 0,oE s16 t8 1,oM s6 t15,oM s7 t16]) (.seq (.seq (.reg [oM s17 t7,oP s18 (.un .not t17)]) (.cond t18
 (.seq (.reg [oM s4 (ci 0),oM s5 (.c (.bool false))]) .ret)
 .skip)) (.seq (.reg [oM s19 t0,oN s20 t19,oF s21 1 t20,oL s22 t21,oM s23 t6,oP s24 (.iad 1 t22 t23),oG s25 t24,oM s4 t25,oM s5 (.c (.bool true))]) .ret)))),0,[.t s4,.t s5],none⟩
def b174x0:AC:=(.seq (.reg [oQ s15 .lss t14 t13]) (.seq (.cond t15
 .skip
 (.exit 0)) (.seq (.blk 1 (.seq (.reg [oP s16 (.iad 1 t12 t14),oL s17 t16,oM s9 t17]) (.seq (.reg [oM s19 t0,oR s20 (.ld true 5 t4),oM s21 t9,oC s22 233 [t19,t20,t21],oM s18 t22,oE s23 t18 0,oE s24 t18 1,oX s10 (.new 2 false false (.cells 61 [(vi 0),(vi 0),(vi 0),(.str []),vz])) [],oS 5 t10 t23,oM s11 t24]) (.seq (.seq (.reg [oM s25 t11,oQ s26 .neq t25 (ci 0)]) (.cond t26
 (.seq (.reg [oP s27 (.bld [(vi 0),(vi 0),(vi 0),(.str []),vz] []),oM s28 t11,oS 5 t6 t27,oM s7 t28]) .ret)
 .skip)) (.reg [oR s29 (.ld true 5 t10),oS 5 t4 t29]))))) (.reg [oQ s30 .add t14 (ci 1),oM s14 t30]))))
def f174:FI:=⟨(.seq (.reg [oX s4 (.box 0 false 61 5 t1) [],oX s6 (.new 1 false false (.cells 61 [(vi 0),(vi 0),(vi 0),(.str []),vz])) [],oM s7 (ci 0)]) (.seq (.seq (.reg [oM s12 t2,oP s13 (.len false t12),oM s14 (ci 0)]) (.blk 0 (.loop b174x0))) (.seq (.reg [oR s31 (.ld true 5 t4),oS 5 t6 t31,oM s7 (ci 0)]) .ret))),3,[.c true 5 s6,.t s7],none⟩
def b175x0:AC:=(.seq (.reg [oQ s15 .lss t14 t13]) (.seq (.cond t15
 .skip
 (.exit 0)) (.seq (.blk 1 (.seq (.reg [oP s16 (.iad 1 t12 t14),oG s17 t16,oM s8 t17]) (.seq (.reg [oM s18 t8,oN s19 t18,oF s20 0 t19,oL s21 t20,oM s22 t1,oP s23 (.bin .eql eS t21 t22),oM s24 t23,⟨some s25,some (s24,true),(.p (.mov t8))⟩,⟨some s26,some (s24,true),(.p (.nilc t25))⟩,⟨some s27,some (s24,true),(.p (.fad 1 t26))⟩,⟨some s28,some (s24,true),(.r (.ld false 1 t27))⟩,⟨some s29,some (s24,true),(.p (.mov t2))⟩,⟨some s30,some (s24,true),(.p (.bin .eql eS t28 t29))⟩,oP s31 (.pick t24 t30 (.c (.bool false)))]) (.cond t31
 (.seq (.reg [oM s32 t8,oM s6 t32]) .ret)
 .skip)))) (.reg [oQ s33 .add t14 (ci 1),oM s14 t33]))))
def f175:FI:=⟨(.seq (.reg [oM s6 (.c .nilp)]) (.seq (.seq (.reg [oM s9 t0,oN s10 t9,oF s11 6 t10,oL s12 t11,oP s13 (.len false t12),oM s14 (ci 0)]) (.blk 0 (.loop b175x0))) (.seq (.reg [oM s6 (.c .nilp)]) .ret))),0,[.t s6],none⟩
def f176:FI:=⟨(.seq (.reg [oX s6 (.new 0 false false (.cells 260 [vz,(vi 0),(.str []),(.str []),(vi 0)])) []]) (.seq (.reg [oM s10 t1,oM s11 t2,oP s12 (.bld [(vi 0),(.str [])] [(0,1,t10),(1,1,t11)]),oX s7 (.new 1 false false (.cells 367 [(vi 0),(.str [])])) [],oS 2 t7 t12]) (.seq (.reg [oM s14 t0,oN s15 t14,oF s16 7 t15,oG s17 t16,oR s18 (.ld true 2 t7),oR s19 (.lku true [.i,.s] true (.agg [vz,(vi 0),(.str []),(.str []),(vi 0)]) t17 t18),oM s13 t19,oE s20 t13 0,oE s21 t13 1,oX s8 (.new 2 false false (.cells 260 [vz,(vi 0),(.str []),(.str []),(vi 0)])) [(.l t17),(.l t7),(.c t16)],oS 5 t8 t20,oM s9 t21]) (.seq (.seq (.reg [oM s22 t9,oP s23 (.un .not t22)]) (.cond t23
 (.seq (.reg [oM s25 t0,oN s26 t25,oF s27 0 t26,oG s28 t27,oC s29 27 [t28],oM s30 t1,oM s31 t2,oC s32 234 [t29,t30,t31],oM s24 t32,oE s33 t24 0,oE s34 t24 1,oS 5 t8 t33]) (.reg [oM s35 t0,oN s36 t35,oF s37 7 t36,oG s38 t37,oR s39 (.ld true 2 t7),oR s40 (.ld true 5 t8),oY (.mup true [.i,.s] t38 t39 t40) []]))
 .skip)) (.seq (.reg [oR s41 (.ld true 5 t8),oS 5 t6 t41]) .ret))))),3,[.c true 5 s6],none⟩
def f177:FI:=⟨(.seq (.reg [oM s4 (.c (.bool false))]) (.seq (.reg [oM s5 t1,oQ s6 .geq t5 (ci 0),oM s7 t6,⟨some s8,some (s7,true),(.p (.mov t1))⟩,⟨some s9,some (s7,true),(.p (.mov t0))⟩,⟨some s10,some (s7,true),(.p (.nilc t9))⟩,⟨some s11,some (s7,true),(.p (.fad 0 t10))⟩,⟨some s12,some (s7,true),(.r (.ldc t11))⟩,⟨some s13,some (s7,true),(.e (.call 51 [t12]) [])⟩,⟨some s14,some (s7,true),(.p (.bin .lss eI t8 t13))⟩,oP s15 (.pick t7 t14 (.c (.bool false))),oM s4 t15]) .ret)),0,[.t s4],none⟩
def b178x0:AC:=(.seq (.reg [oQ s121 .lss t120 t119]) (.seq (.cond t121
 .skip
 (.exit 8)) (.seq (.blk 9 (.seq (.reg [oP s122 (.iad 2 t118 t120),oR s123 (.ld true 2 t122),oX s21 (.new 10 false false (.cells 325 [(vi 0),(vi 0)])) [],oS 2 t21 t123]) (.seq (.reg [oG s124 t2,oN s125 t124,oF s126 2 t125,oG s127 t126,oR s128 (.ld true 2 t21),oR s129 (.lku true [.i,.i] false (vi 0) t127 t128),oQ s130 .eql t129 (ci 0)]) (.cond t130
 (.reg [oG s131 t2,oN s132 t131,oF s133 2 t132,oG s134 t133,oR s135 (.ld true 2 t21),oY (.mup true [.i,.i] t134 t135 (ci 1)) []])
 .skip)))) (.reg [oQ s136 .add t120 (ci 1),oM s120 t136]))))
def b178x1:AC:=(.seq (.reg [oQ s98 .lss t97 t96]) (.seq (.cond t98
 .skip
 (.exit 6)) (.seq (.blk 7 (.seq (.reg [oP s99 (.iad 2 t95 t97),oR s100 (.ld true 2 t99),oX s19 (.new 9 false false (.cells 325 [(vi 0),(vi 0)])) [],oS 2 t19 t100]) (.seq (.reg [oG s101 t2,oN s102 t101,oF s103 2 t102,oG s104 t103,oR s105 (.ld true 2 t19),oR s106 (.lku true [.i,.i] false (vi 0) t104 t105),oQ s107 .eql t106 (ci 0)]) (.cond t107
 (.seq (.reg [oG s108 t2,oN s109 t108,oF s110 2 t109,oG s111 t110,oR s112 (.ld true 2 t19),oY (.mup true [.i,.i] t111 t112 (ci 2)) []]) (.reg [oL s113 t7,oR s114 (.ld true 2 t19),oP s115 (.bsl 1 2 (.agg [(vi 0),(vi 0)]) [(0,t114)]),oX s116 (.app 10 0 2 (.agg [(vi 0),(vi 0)]) 16 t113 t115) [],oS 1 t7 t116]))
 .skip)))) (.reg [oQ s117 .add t97 (ci 1),oM s97 t117]))))
def b178x2:AC:=(.seq (.seq (.reg [oM s84 t17,oL s85 t7,oP s86 (.len false t85),oQ s87 .lss t84 t86]) (.cond t87
 .skip
 (.exit 4))) (.seq (.blk 5 (.seq (.reg [oM s90 t8,oL s91 t7,oM s92 t17,oP s93 (.iad 2 t91 t92),oR s94 (.ld true 2 t93),oR s95 (.lku true [.i,.i] false vz t90 t94),oP s96 (.len false t95),oM s97 (ci 0)]) (.blk 6 (.loop b178x1)))) (.reg [oM s88 t17,oQ s89 .add t88 (ci 1),oM s17 t89])))
def b178x3:AC:=(.seq (.reg [oQ s67 .lss t66 t65]) (.seq (.cond t67
 .skip
 (.exit 2)) (.seq (.blk 3 (.seq (.reg [oP s68 (.iad 3 t64 t66),oR s69 (.ld true 3 t68),oX s16 (.new 8 false false (.cells 378 [(vi 0),(vi 0),(.str [])])) [],oS 3 t16 t69]) (.seq (.reg [oM s70 t8,oF s71 0 t16,oR s72 (.ld true 2 t71),oR s74 (.ld true 2 t12),oP s75 (.bsl 1 2 (.agg [(vi 0),(vi 0)]) [(0,t74)]),oX s76 (.men true [.i,.i] vz t70 t72) [],oE s73 t76 0,oX s77 (.app 9 0 2 (.agg [(vi 0),(vi 0)]) 16 t73 t75) [],oE s78 t76 1,oY (.est true [.i,.i] t70 t78 t77) []]) (.reg [oM s79 t10,oF s80 0 t16,oR s81 (.ld true 2 t80),oX s82 (.callv t79 [t81]) []])))) (.reg [oQ s83 .add t66 (ci 1),oM s66 t83]))))
def b178x4:AC:=(.seq (.seq (.reg [oM s37 t11,oL s38 t6,oP s39 (.len false t38),oQ s40 .lss t37 t39]) (.cond t40
 .skip
 (.exit 0))) (.seq (.blk 1 (.seq (.reg [oL s43 t6,oM s44 t11,oP s45 (.iad 2 t43 t44),oR s46 (.ld true 2 t45),oX s12 (.new 7 false false (.cells 325 [(vi 0),(vi 0)])) [],oS 2 t12 t46]) (.seq (.reg [oG s48 t2,oR s49 (.ld true 2 t12),oC s50 236 [t48,t49],oM s47 t50,oE s51 t47 0,oE s52 t47 1,oM s13 t51,oM s14 t52]) (.seq (.seq (.reg [oM s53 t14,oP s54 (.un .not t53)]) (.cond t54
 (.seq (.reg [oG s55 t2,oN s56 t55,oF s57 2 t56,oG s58 t57,oR s59 (.ld true 2 t12),oY (.mup true [.i,.i] t58 t59 (ci 2)) []]) (.seq (.reg [oL s60 t7,oR s61 (.ld true 2 t12),oP s62 (.bsl 1 2 (.agg [(vi 0),(vi 0)]) [(0,t61)]),oX s63 (.app 8 0 2 (.agg [(vi 0),(vi 0)]) 16 t60 t62) [],oS 1 t7 t63]) (.exit 1)))
 .skip)) (.seq (.reg [oM s64 t13,oP s65 (.len false t64),oM s66 (ci 0)]) (.blk 2 (.loop b178x3))))))) (.reg [oM s41 t11,oQ s42 .add t41 (ci 1),oM s11 t42])))
def f178:FI:=⟨(.seq (.reg [oX s2 (.box 0 false 73 1 t0) [],oX s3 (.box 1 false 325 2 t1) [],oM s4 (ci 0)]) (.seq (.seq (.reg [oG s22 t2,oN s23 t22,oF s24 2 t23,oG s25 t24,oR s26 (.ld true 2 t3),oR s27 (.lku true [.i,.i] false (vi 0) t25 t26),oM s5 t27]) (.seq (.reg [oM s28 t5,oQ s29 .neq t28 (ci 0)]) (.cond t29
 (.seq (.reg [oM s30 t5,oM s4 t30]) .ret)
 .skip))) (.seq (.reg [oX s6 (.new 2 false false (.cells 371 [vz])) [],oX s7 (.new 3 false false (.cells 371 [vz])) []]) (.seq (.reg [oX s31 (.new 4 false true (.map [])) [],oM s8 t31]) (.seq (.reg [oX s32 (.new 5 false true (.map [])) [],oX s9 (.new 6 false false (.cells 236 [.nilm])) [],oS 1 t9 t32]) (.seq (.reg [oP s33 (.mkf 235 [] [t9,t2,t6,t7]),oM s10 t33]) (.seq (.reg [oM s34 t10,oR s35 (.ld true 2 t3),oX s36 (.callv t34 [t35]) []]) (.seq (.seq (.reg [oM s11 (ci 0)]) (.blk 0 (.loop b178x4))) (.seq (.seq (.reg [oM s17 (ci 0)]) (.blk 4 (.loop b178x2))) (.seq (.seq (.reg [oL s118 t6,oP s119 (.len false t118),oM s120 (ci 0)]) (.blk 8 (.loop b178x0))) (.seq (.reg [oG s137 t2,oN s138 t137,oF s139 2 t138,oG s140 t139,oR s141 (.ld true 2 t3),oR s142 (.lku true [.i,.i] false (vi 0) t140 t141),oM s4 t142]) .ret))))))))))),11,[.t s4],none⟩
def f179:FI:=⟨(.seq (.reg [oX s4 (.new 0 false false (.cells 61 [(vi 0),(vi 0),(vi 0),(.str []),vz])) []]) (.seq (.reg [oM s6 t0,oP s7 (.bld [(vi 0),(vi 0),(vi 0),(.str []),vz] [(0,1,(ci 2)),(1,1,t6)]),oX s5 (.new 1 false false (.cells 61 [(vi 0),(vi 0),(vi 0),(.str []),vz])) [],oS 5 t5 t7]) (.seq (.seq (.reg [oM s8 t1]) (.cond t8
 (.reg [oF s9 2 t5,oS 1 t9 (ci 1)])
 .skip)) (.seq (.reg [oR s10 (.ld true 5 t5),oS 5 t4 t10]) .ret)))),2,[.c true 5 s4],none⟩
def f180:FI:=⟨(.seq (.reg [oM s2 (.c (.bool false))]) (.seq (.reg [oM s3 t0,oC s4 123 [t3],oM s5 t4,⟨some s6,some (s5,false),(.p (.mov t0))⟩,⟨some s7,some (s5,false),(.e (.call 124 [t6]) [])⟩,oP s8 (.pick t5 (.c (.bool true)) t7),oM s9 t8,⟨some s10,some (s9,false),(.p (.mov t0))⟩,⟨some s11,some (s9,false),(.e (.call 125 [t10]) [])⟩,oP s12 (.pick t9 (.c (.bool true)) t11),oM s13 t12,⟨some s14,some (s13,false),(.p (.mov t0))⟩,⟨some s15,some (s13,false),(.p (.bin .eql eI t14 (cu 95)))⟩,oP s16 (.pick t13 (.c (.bool true)) t15),oM s2 t16]) .ret)),0,[.t s2],none⟩
def b181x0:AC:=(.seq (.seq (.reg [oM s6 t4,oM s7 t3,oP s8 (.len false t7),oQ s9 .lss t6 t8]) (.cond t9
 .skip
 (.exit 0))) (.seq (.blk 1 (.seq (.reg [oM s12 t3,oM s13 t4,oP s14 (.iad 1 t12 t13),oL s15 t14,oM s16 t0,oP s17 (.bin .eql eS t15 t16)]) (.cond t17
 (.seq (.reg [oM s2 (.c (.bool true))]) .ret)
 .skip))) (.reg [oM s10 t4,oQ s11 .add t10 (ci 1),oM s4 t11])))
def f181:FI:=⟨(.seq (.reg [oM s2 (.c (.bool false))]) (.seq (.reg [oC s5 237 [],oM s3 t5]) (.seq (.seq (.reg [oM s4 (ci 0)]) (.blk 0 (.loop b181x0))) (.seq (.reg [oM s2 (.c (.bool false))]) .ret)))),0,[.t s2],none⟩
def f182:FI:=⟨(.seq (.reg [oM s2 (.c (.bool false))]) (.seq (.reg [oM s3 t0,oQ s4 .geq t3 (cu 32),oM s5 t4,⟨some s6,some (s5,true),(.p (.mov t0))⟩,⟨some s7,some (s5,true),(.p (.bin .leq eI t6 (cu 126)))⟩,oP s8 (.pick t5 t7 (.c (.bool false))),oM s9 t8,⟨some s10,some (s9,true),(.p (.mov t0))⟩,⟨some s11,some (s9,true),(.p (.bin .neq eI t10 (cu 34)))⟩,oP s12 (.pick t9 t11 (.c (.bool false))),oM s13 t12,⟨some s14,some (s13,true),(.p (.mov t0))⟩,⟨some s15,some (s13,true),(.p (.bin .neq eI t14 (cu 92)))⟩,oP s16 (.pick t13 t15 (.c (.bool false))),oM s2 t16]) .ret)),0,[.t s2],none⟩
def f183:FI:=⟨(.seq (.reg [oX s4 (.new 0 false false (.cells 258 [(vi 0),(vi 0),(vi 0),(.str []),vz,vz,vz])) []]) (.seq (.seq (.reg [oM s6 t0,oC s7 19 [t6,(.c (.str [45]))],oP s8 (.un .not t7),oM s9 t8,⟨some s10,some (s9,true),(.p (.mov t0))⟩,⟨some s11,some (s9,true),(.e (.call 19 [t10,(.c (.str [110,111,116]))]) [])⟩,⟨some s12,some (s9,true),(.p (.un .not t11))⟩,oP s13 (.pick t9 t12 (.c (.bool false)))]) (.cond t13
 (.seq (.reg [oM s14 t0,oM s15 t1,oC s16 238 [t14,t15],oS 7 t4 t16]) .ret)
 .skip)) (.seq (.seq (.reg [oM s17 t1,oQ s18 .gtr t17 (ci 64)]) (.cond t18
 (.seq (.reg [oM s19 t0,oC s20 38 [t19,(ci 15)]]) (.seq (.reg [oP s21 (.bld [(vi 0),(vi 0),(vi 0),(.str []),vz,vz,vz] []),oS 7 t4 t21]) .ret))
 .skip)) (.seq (.reg [oP s22 (.bld [(vi 0),(vi 0),(vi 0),(.str []),vz,vz,vz] [(1,1,(ci 13))]),oX s5 (.new 1 false false (.cells 258 [(vi 0),(vi 0),(vi 0),(.str []),vz,vz,vz])) [],oS 7 t5 t22]) (.seq (.seq (.reg [oM s23 t0,oC s24 19 [t23,(.c (.str [110,111,116]))]]) (.cond t24
 (.reg [oF s25 1 t5,oS 1 t25 (ci 14)])
 .skip)) (.seq (.reg [oM s26 t0,oC s27 32 [t26],oF s28 0 t5,oF s29 0 t28,oS 1 t29 t27]) (.seq (.reg [oM s30 t0,oN s31 t30,oF s32 2 t31,oG s33 t32,oQ s34 .add t33 (ci 1),oN s35 t30,oF s36 2 t35,oS 1 t36 t34]) (.seq (.reg [oM s37 t0,oM s38 t1,oQ s39 .add t38 (ci 1),oC s40 183 [t37,t39],oP s41 (.bsl 1 7 (.agg [(vi 0),(vi 0),(vi 0),(.str []),vz,vz,vz]) [(0,t40)]),oF s42 6 t5,oS 1 t42 t41]) (.seq (.reg [oR s43 (.ld true 7 t5),oS 7 t4 t43]) .ret))))))))),2,[.c true 7 s4],none⟩
def b184x0:AC:=(.seq (.seq (.reg [oM s8 t6,oM s9 t5,oP s10 (.len false t9),oQ s11 .lss t8 t10]) (.cond t11
 .skip
 (.exit 0))) (.seq (.blk 1 (.seq (.reg [oM s14 t5,oM s15 t6,oP s16 (.iad 1 t14 t15),oG s17 t16,oC s18 239 [t17],oM s19 t1,oQ s20 .eql t18 t19,oM s21 t20,⟨some s22,some (s21,true),(.p (.mov t0))⟩,⟨some s23,some (s21,true),(.p (.mov t5))⟩,⟨some s24,some (s21,true),(.p (.mov t6))⟩,⟨some s25,some (s21,true),(.p (.iad 1 t23 t24))⟩,⟨some s26,some (s21,true),(.r (.ldc t25))⟩,⟨some s27,some (s21,true),(.e (.call 240 [t26]) [])⟩,⟨some s28,some (s21,true),(.e (.call 19 [t22,t27]) [])⟩,oP s29 (.pick t21 t28 (.c (.bool false)))]) (.cond t29
 (.seq (.reg [oM s30 t5,oM s31 t6,oP s32 (.iad 1 t30 t31),oG s33 t32,oM s4 t33]) .ret)
 .skip))) (.reg [oM s12 t6,oQ s13 .add t12 (ci 1),oM s6 t13])))
def f184:FI:=⟨(.seq (.reg [oM s4 (ci 0)]) (.seq (.reg [oP s7 (.bsl 7 1 (vi 0) [(0,(ci 21)),(1,(ci 20)),(2,(ci 18)),(3,(ci 19)),(4,(ci 16)),(5,(ci 17)),(6,(ci 15))]),oM s5 t7]) (.seq (.seq (.reg [oM s6 (ci 0)]) (.blk 0 (.loop b184x0))) (.seq (.reg [oM s4 (ci 0)]) .ret)))),0,[.t s4],none⟩
def f185:FI:=⟨(.seq (.reg [oM s4 (.c (.bool false))]) (.seq (.reg [oM s8 t0,oM s9 t1,oP s10 (.bld [(vi 0),(vi 0),(.str []),(vi 0)] [(1,1,t8),(2,1,t9)]),oP s11 (.bsl 1 4 (.agg [(vi 0),(vi 0),(.str []),(vi 0)]) [(0,t10)]),oC s12 241 [t11],oM s7 t12,oE s13 t7 0,oE s14 t7 1,oM s5 t13,oM s6 t14]) (.seq (.reg [oM s15 t6,oQ s16 .neq t15 (ci 1),oM s4 t16]) .ret))),0,[.t s4],none⟩
def b186x0:AC:=(.seq (.reg [oQ s10 .lss t9 t8]) (.seq (.cond t10
 .skip
 (.exit 0)) (.seq (.blk 1 (.seq (.reg [oP s11 (.iad 1 t7 t9),oL s12 t11,oM s5 t12]) (.seq (.reg [oM s13 t3,oM s14 t5,oR s15 (.lku false [.s] false (vi 0) t13 t14),oQ s16 .add t15 (ci 1),oY (.mup false [.s] t13 t14 t16) []]) (.seq (.reg [oM s17 t3,oM s18 t5,oR s19 (.lku false [.s] false (vi 0) t17 t18),oQ s20 .gtr t19 (ci 1),oM s21 t20,⟨some s22,some (s21,false),(.p (.mov t5))⟩,⟨some s23,some (s21,false),(.e (.call 187 [t22]) [])⟩,⟨some s24,some (s21,false),(.p (.un .not t23))⟩,oP s25 (.pick t21 (.c (.bool true)) t24)]) (.cond t25
 (.seq (.reg [oM s2 (.c (.bool false))]) .ret)
 .skip))))) (.reg [oQ s26 .add t9 (ci 1),oM s9 t26]))))
def f186:FI:=⟨(.seq (.reg [oM s2 (.c (.bool false))]) (.seq (.reg [oX s6 (.new 0 false true (.map [])) [],oM s3 t6]) (.seq (.seq (.reg [oM s7 t0,oP s8 (.len false t7),oM s9 (ci 0)]) (.blk 0 (.loop b186x0))) (.seq (.reg [oM s2 (.c (.bool true))]) .ret)))),1,[.t s2],none⟩
def f187:FI:=⟨(.seq (.reg [oM s2 (.c (.bool false))]) (.seq (.reg [oM s3 t0,oC s4 185 [(ci 1),t3],oM s2 t4]) .ret)),0,[.t s2],none⟩
def b188x0:AC:=(.seq (.reg [oQ s10 .lss t9 t8]) (.seq (.cond t10
 .skip
 (.exit 0)) (.seq (.blk 1 (.seq (.reg [oP s11 (.iad 7 t7 t9),oR s12 (.ld true 7 t11),oX s6 (.new 0 false false (.cells 167 [(vi 0),(vi 0),(.str []),vz,vz,vz,vz])) [],oS 7 t6 t12]) (.seq (.reg [oR s13 (.ld true 7 t6),oM s14 t1,oC s15 242 [t13,t14],oP s16 (.un .not t15)]) (.cond t16
 (.seq (.reg [oM s4 (.c (.bool false))]) .ret)
 .skip)))) (.reg [oQ s17 .add t9 (ci 1),oM s9 t17]))))
def f188:FI:=⟨(.seq (.reg [oM s4 (.c (.bool false))]) (.seq (.seq (.reg [oM s7 t0,oP s8 (.len false t7),oM s9 (ci 0)]) (.blk 0 (.loop b188x0))) (.seq (.reg [oM s4 (.c (.bool true))]) .ret))),1,[.t s4],none⟩
def b189x0:AC:=(.seq (.reg [oQ s29 .lss t28 t27]) (.seq (.cond t29
 .skip
 (.exit 3)) (.seq (.blk 4 (.seq (.reg [oP s30 (.iad 5 t26 t28),oR s31 (.ld true 5 t30),oX s7 (.new 1 false false (.cells 46 [(vi 0),(.str []),vz,vz,vz])) [],oS 5 t7 t31]) (.reg [oM s32 t0,oR s33 (.ld true 5 t7),oC s34 71 [t32,t33]]))) (.reg [oQ s35 .add t28 (ci 1),oM s28 t35]))))
def b189x1:AC:=(.seq (.reg [oQ s11 .lss t10 t9]) (.seq (.cond t11
 .skip
 (.exit 0)) (.seq (.blk 1 (.seq (.reg [oP s12 (.iad 7 t8 t10),oR s13 (.ld true 7 t12),oX s5 (.new 0 false false (.cells 167 [(vi 0),(vi 0),(.str []),vz,vz,vz,vz])) [],oS 7 t5 t13]) (.seq (.seq (.reg [oF s14 1 t5,oG s15 t14]) (.blk 2 (.seq (.reg [oQ s17 .eql t15 (ci 1),oM s16 t17]) (.cond t16
 (.seq (.reg [oM s18 t0,oN s19 t18,oF s20 0 t19,oF s21 2 t5,oL s22 t21,oP s23 (.bsl 2 1 (.str []) [(0,(.c (.str [108,101,116]))),(1,t22)]),oC s24 70 [t20,t23]]) (.seq (.seq (.reg [oF s25 3 t5,oL s26 t25,oP s27 (.len false t26),oM s28 (ci 0)]) (.blk 3 (.loop b189x0))) (.reg [oM s36 t0,oN s37 t36,oF s38 0 t37,oP s39 (.bsl 1 1 (.str []) [(0,(.c (.str [61])))]),oC s40 70 [t38,t39]])))
 (.seq (.reg [oQ s42 .eql t15 (ci 2),oM s41 t42]) (.cond t41
 (.reg [oM s43 t0,oN s44 t43,oF s45 0 t44,oF s46 2 t5,oL s47 t46,oP s48 (.bsl 2 1 (.str []) [(0,t47),(1,(.c (.str [61])))]),oC s49 70 [t45,t48]])
 (.seq (.reg [oQ s51 .eql t15 (ci 3),oM s50 t51]) (.cond t50
 (.reg [oM s52 t0,oN s53 t52,oF s54 0 t53,oP s55 (.bsl 1 1 (.str []) [(0,(.c (.str [112,114,105,110,116])))]),oC s56 70 [t54,t55]])
 (.seq (.reg [oQ s58 .eql t15 (ci 4),oM s57 t58]) (.cond t57
 (.reg [oM s59 t0,oN s60 t59,oF s61 0 t60,oP s62 (.bsl 1 1 (.str []) [(0,(.c (.str [105,102])))]),oC s63 70 [t61,t62]])
 (.seq (.reg [oQ s65 .eql t15 (ci 5),oM s64 t65]) (.cond t64
 (.reg [oM s66 t0,oN s67 t66,oF s68 0 t67,oP s69 (.bsl 1 1 (.str []) [(0,(.c (.str [119,104,105,108,101])))]),oC s70 70 [t68,t69]])
 (.seq (.reg [oQ s72 .eql t15 (ci 6),oM s71 t72]) (.cond t71
 (.reg [oM s73 t0,oN s74 t73,oF s75 0 t74,oP s76 (.bsl 1 1 (.str []) [(0,(.c (.str [114,101,116,117,114,110])))]),oC s77 70 [t75,t76]])
 .skip)))))))))))))) (.seq (.reg [oM s78 t0,oF s79 4 t5,oL s80 t79,oP s81 (.iad 7 t80 (ci 0)),oR s82 (.ld true 7 t81),oC s83 243 [t78,t82]]) (.blk 5 (.seq (.reg [oF s89 1 t5,oG s90 t89,oQ s91 .neq t90 (ci 4),oM s92 t91,⟨some s93,some (s92,true),(.p (.fad 1 t5))⟩,⟨some s94,some (s92,true),(.r (.ldc t93))⟩,⟨some s95,some (s92,true),(.p (.bin .neq eI t94 (ci 5)))⟩,oP s96 (.pick t92 t95 (.c (.bool false))),oM s88 t96]) (.cond t88
 (.reg [oM s97 t0,oN s98 t97,oF s99 0 t98,oP s100 (.bsl 1 1 (.str []) [(0,(.c (.str [59])))]),oC s101 70 [t99,t100]])
 (.seq (.reg [oF s103 6 t5,oL s104 t103,oP s105 (.len false t104),oQ s106 .gtr t105 (ci 0),oM s102 t106]) (.cond t102
 (.seq (.reg [oM s107 t0,oF s108 5 t5,oL s109 t108,oC s110 140 [t107,t109]]) (.seq (.reg [oM s111 t0,oN s112 t111,oF s113 0 t112,oP s114 (.bsl 1 1 (.str []) [(0,(.c (.str [101,108,115,101])))]),oC s115 70 [t113,t114]]) (.reg [oM s116 t0,oF s117 6 t5,oL s118 t117,oC s119 140 [t116,t118]])))
 (.reg [oM s84 t0,oF s85 5 t5,oL s86 t85,oC s87 140 [t84,t86]])))))))))) (.reg [oQ s120 .add t10 (ci 1),oM s10 t120]))))
def f189:FI:=⟨(.seq (.reg [oM s8 t1,oP s9 (.len false t8),oM s10 (ci 0)]) (.blk 0 (.loop b189x1))),2,[],none⟩
def b190x0:AC:=(.seq (.reg [oQ s9 .lss t8 t7]) (.seq (.cond t9
 .skip
 (.exit 0)) (.seq (.blk 1 (.seq (.reg [oM s10 t8,oM s5 t10]) (.seq (.reg [oM s11 t1,oM s12 t0,oM s13 t5,oP s14 (.iad 1 t12 t13),oL s15 t14,oP s16 (.bin .eql eS t11 t15)]) (.cond t16
 (.seq (.reg [oM s17 t5,oM s4 t17]) .ret)
 .skip)))) (.reg [oQ s18 .add t8 (ci 1),oM s8 t18]))))
def f190:FI:=⟨(.seq (.reg [oM s4 (ci 0)]) (.seq (.seq (.reg [oM s6 t0,oP s7 (.len false t6),oM s8 (ci 0)]) (.blk 0 (.loop b190x0))) (.seq (.reg [oM s4 (.c (vj 0))]) .ret))),0,[.t s4],none⟩
def f191:FI:=⟨(.seq (.reg [oM s2 (.c vz)]) (.seq (.reg [oX s3 (.new 0 false false (.cells 22 [vz])) []]) (.seq (.reg [oX s5 (.new 1 false true (.map [])) [],oX s4 (.new 2 false false (.cells 94 [.nilm])) [],oS 1 t4 t5]) (.seq (.reg [oM s6 t0,oP s7 (.mkf 245 [] [t4,t3]),oC s8 244 [t6,t7]]) (.seq (.reg [oL s9 t3,oL s10 t3,oP s11 (.len false t10),oL s12 t3,oP s13 (.len false t12),oP s14 (.sls false 1 t9 none (some t11) (some t13)),oM s2 t14]) .ret))))),3,[.t s2],none⟩
def b193x0:AC:=(.seq (.seq (.reg [oM s18 t9,oM s19 t1,oQ s20 .gtr t18 t19,oM s21 t20,⟨some s22,some (s21,true),(.p (.mov t3))⟩,⟨some s23,some (s21,true),(.p (.mov t0))⟩,⟨some s24,some (s21,true),(.p (.mov t9))⟩,⟨some s25,some (s21,true),(.p (.iad 2 t23 t24))⟩,⟨some s26,some (s21,true),(.r (.ld true 2 t25))⟩,⟨some s27,some (s21,true),(.p (.mov t0))⟩,⟨some s28,some (s21,true),(.p (.mov t9))⟩,⟨some s29,some (s21,true),(.p (.bin .sub eI t28 (ci 1)))⟩,⟨some s30,some (s21,true),(.p (.iad 2 t27 t29))⟩,⟨some s31,some (s21,true),(.r (.ld true 2 t30))⟩,⟨some s32,some (s21,true),(.e (.callv t22 [t26,t31]) [])⟩,⟨some s33,some (s21,true),(.p (.bin .lss eI t32 (ci 0)))⟩,oP s34 (.pick t21 t33 (.c (.bool false)))]) (.cond t34
 .skip
 (.exit 2))) (.seq (.blk 3 (.reg [oM s37 t0,oM s38 t9,oM s39 t0,oM s40 t9,oQ s41 .sub t40 (ci 1),oM s42 t0,oM s43 t9,oQ s44 .sub t43 (ci 1),oP s45 (.iad 2 t42 t44),oR s46 (.ld true 2 t45),oM s47 t0,oM s48 t9,oP s49 (.iad 2 t47 t48),oR s50 (.ld true 2 t49),oP s51 (.iad 2 t37 t38),oS 2 t51 t46,oP s52 (.iad 2 t39 t41),oS 2 t52 t50])) (.reg [oM s35 t9,oQ s36 .sub t35 (ci 1),oM s9 t36])))
def b193x1:AC:=(.seq (.seq (.reg [oM s12 t8,oM s13 t2,oQ s14 .lss t12 t13]) (.cond t14
 .skip
 (.exit 0))) (.seq (.blk 1 (.seq (.reg [oM s17 t8,oM s9 t17]) (.blk 2 (.loop b193x0)))) (.reg [oM s15 t8,oQ s16 .add t15 (ci 1),oM s8 t16])))
def f193:FI:=⟨(.seq (.reg [oM s10 t1,oQ s11 .add t10 (ci 1),oM s8 t11]) (.blk 0 (.loop b193x1))),0,[],none⟩
def f202:FI:=⟨(.seq (.reg [oM s2 (ci 0)]) (.seq (.seq (.reg [oM s3 t0,oQ s4 .geq t3 (.c (.int .u64 (.ofNat 4294967296)))]) (.cond t4
 (.seq (.reg [oM s5 t0,oQ s6 .shr t5 (.c (.int .u64 (.ofNat 32))),oM s0 t6]) (.reg [oM s2 (ci 32)]))
 .skip)) (.seq (.seq (.reg [oM s7 t0,oQ s8 .geq t7 (.c (.int .u64 (.ofNat 65536)))]) (.cond t8
 (.seq (.reg [oM s9 t0,oQ s10 .shr t9 (.c (.int .u64 (.ofNat 16))),oM s0 t10]) (.reg [oM s11 t2,oQ s12 .add t11 (ci 16),oM s2 t12]))
 .skip)) (.seq (.seq (.reg [oM s13 t0,oQ s14 .geq t13 (.c (.int .u64 (.ofNat 256)))]) (.cond t14
 (.seq (.reg [oM s15 t0,oQ s16 .shr t15 (.c (.int .u64 (.ofNat 8))),oM s0 t16]) (.reg [oM s17 t2,oQ s18 .add t17 (ci 8),oM s2 t18]))
 .skip)) (.seq (.reg [oM s19 t2,oM s20 t0,oP s21 (.cvi .u8 t20),oP s22 (.ixs (.c (.str [0,1,2,2,3,3,3,3,4,4,4,4,4,4,4,4,5,5,5,5,5,5,5,5,5,5,5,5,5,5,5,5,6,6,6,6,6,6,6,6,6,6,6,6,6,6,6,6,6,6,6,6,6,6,6,6,6,6,6,6,6,6,6,6,7,7,7,7,7,7,7,7,7,7,7,7,7,7,7,7,7,7,7,7,7,7,7,7,7,7,7,7,7,7,7,7,7,7,7,7,7,7,7,7,7,7,7,7,7,7,7,7,7,7,7,7,7,7,7,7,7,7,7,7,7,7,7,7,8,8,8,8,8,8,8,8,8,8,8,8,8,8,8,8,8,8,8,8,8,8,8,8,8,8,8,8,8,8,8,8,8,8,8,8,8,8,8,8,8,8,8,8,8,8,8,8,8,8,8,8,8,8,8,8,8,8,8,8,8,8,8,8,8,8,8,8,8,8,8,8,8,8,8,8,8,8,8,8,8,8,8,8,8,8,8,8,8,8,8,8,8,8,8,8,8,8,8,8,8,8,8,8,8,8,8,8,8,8,8,8,8,8,8,8,8,8,8,8,8,8,8,8,8,8,8,8])) t21),oP s23 (.cvi .i64 t22),oQ s24 .add t19 t23,oM s2 t24]) .ret))))),0,[.t s2],none⟩
def b203x0:AC:=(.seq (.seq (.reg [oM s18 t9,oM s19 t1,oQ s20 .gtr t18 t19,oM s21 t20,⟨some s22,some (s21,true),(.p (.mov t3))⟩,⟨some s23,some (s21,true),(.p (.mov t0))⟩,⟨some s24,some (s21,true),(.p (.mov t9))⟩,⟨some s25,some (s21,true),(.p (.iad 3 t23 t24))⟩,⟨some s26,some (s21,true),(.r (.ld true 3 t25))⟩,⟨some s27,some (s21,true),(.p (.mov t0))⟩,⟨some s28,some (s21,true),(.p (.mov t9))⟩,⟨some s29,some (s21,true),(.p (.bin .sub eI t28 (ci 1)))⟩,⟨some s30,some (s21,true),(.p (.iad 3 t27 t29))⟩,⟨some s31,some (s21,true),(.r (.ld true 3 t30))⟩,⟨some s32,some (s21,true),(.e (.callv t22 [t26,t31]) [])⟩,⟨some s33,some (s21,true),(.p (.bin .lss eI t32 (ci 0)))⟩,oP s34 (.pick t21 t33 (.c (.bool false)))]) (.cond t34
 .skip
 (.exit 2))) (.seq (.blk 3 (.reg [oM s37 t0,oM s38 t9,oM s39 t0,oM s40 t9,oQ s41 .sub t40 (ci 1),oM s42 t0,oM s43 t9,oQ s44 .sub t43 (ci 1),oP s45 (.iad 3 t42 t44),oR s46 (.ld true 3 t45),oM s47 t0,oM s48 t9,oP s49 (.iad 3 t47 t48),oR s50 (.ld true 3 t49),oP s51 (.iad 3 t37 t38),oS 3 t51 t46,oP s52 (.iad 3 t39 t41),oS 3 t52 t50])) (.reg [oM s35 t9,oQ s36 .sub t35 (ci 1),oM s9 t36])))
def b203x1:AC:=(.seq (.seq (.reg [oM s12 t8,oM s13 t2,oQ s14 .lss t12 t13]) (.cond t14
 .skip
 (.exit 0))) (.seq (.blk 1 (.seq (.reg [oM s17 t8,oM s9 t17]) (.blk 2 (.loop b203x0)))) (.reg [oM s15 t8,oQ s16 .add t15 (ci 1),oM s8 t16])))
def f203:FI:=⟨(.seq (.reg [oM s10 t1,oQ s11 .add t10 (ci 1),oM s8 t11]) (.blk 0 (.loop b203x1))),0,[],none⟩
def b211x0:AC:=(.seq (.reg [oQ s71 .lss t70 t69]) (.seq (.cond t71
 .skip
 (.exit 6)) (.seq (.blk 7 (.seq (.reg [oP s72 (.iad 5 t68 t70),oR s73 (.ld true 5 t72),oX s15 (.new 3 false false (.cells 46 [(vi 0),(.str []),vz,vz,vz])) [],oS 5 t15 t73]) (.seq (.reg [oM s75 t0,oR s76 (.ld true 5 t15),oC s77 255 [t75,t76],oM s74 t77,oE s78 t74 0,oE s79 t74 1,oM s16 t78,oM s17 t79]) (.seq (.reg [oM s80 t17]) (.cond t80
 (.seq (.reg [oP s81 (.bld [(vi 0)] []),oM s82 t16,oC s83 141 [t81,(ci 24),t82],oM s4 t83]) .ret)
 .skip))))) (.reg [oQ s84 .add t70 (ci 1),oM s70 t84]))))
def b211x1:AC:=(.seq (.reg [oQ s55 .lss t54 t53]) (.seq (.cond t55
 .skip
 (.exit 4)) (.seq (.blk 5 (.seq (.reg [oP s56 (.iad 5 t52 t54),oR s57 (.ld true 5 t56),oX s13 (.new 2 false false (.cells 46 [(vi 0),(.str []),vz,vz,vz])) [],oS 5 t13 t57]) (.seq (.reg [oM s58 t11,oR s59 (.ld true 5 t13),oP s60 (.bsl 1 5 (.agg [(vi 0),(.str []),vz,vz,vz]) [(0,t59)]),oC s61 78 [t60],oQ s62 .add t58 t61,oM s11 t62]) (.seq (.reg [oM s63 t11,oQ s64 .gtr t63 (ci 1024)]) (.cond t64
 (.seq (.reg [oP s65 (.bld [(vi 0)] []),oC s66 141 [t65,(ci 23),(.c (.str []))],oM s4 t66]) .ret)
 .skip))))) (.reg [oQ s67 .add t54 (ci 1),oM s54 t67]))))
def b211x2:AC:=(.seq (.reg [oQ s33 .lss t32 t31]) (.seq (.cond t33
 .skip
 (.exit 2)) (.seq (.blk 3 (.seq (.reg [oP s34 (.iad 5 t30 t32),oR s35 (.ld true 5 t34),oX s8 (.new 1 false false (.cells 46 [(vi 0),(.str []),vz,vz,vz])) [],oS 5 t8 t35]) (.seq (.reg [oM s37 t0,oR s38 (.ld true 5 t8),oC s39 254 [t37,t38],oM s36 t39,oE s40 t36 0,oE s41 t36 1,oM s9 t40,oM s10 t41]) (.seq (.reg [oM s42 t10]) (.cond t42
 (.seq (.reg [oP s43 (.bld [(vi 0)] []),oM s44 t9,oC s45 141 [t43,(ci 21),t44],oM s4 t45]) .ret)
 .skip))))) (.reg [oQ s46 .add t32 (ci 1),oM s32 t46]))))
def b211x3:AC:=(.seq (.reg [oQ s21 .lss t20 t19]) (.seq (.cond t21
 .skip
 (.exit 0)) (.seq (.blk 1 (.seq (.reg [oP s22 (.iad 5 t18 t20),oR s23 (.ld true 5 t22),oX s6 (.new 0 false false (.cells 46 [(vi 0),(.str []),vz,vz,vz])) [],oS 5 t6 t23]) (.seq (.reg [oR s24 (.ld true 5 t6),oC s25 143 [t24],oP s26 (.un .not t25)]) (.cond t26
 (.seq (.reg [oP s27 (.bld [(vi 0)] []),oC s28 141 [t27,(ci 1),(.c (.str []))],oM s4 t28]) .ret)
 .skip)))) (.reg [oQ s29 .add t20 (ci 1),oM s20 t29]))))
def f211:FI:=⟨(.seq (.reg [oM s4 (.c .nilp)]) (.seq (.seq (.reg [oM s18 t1,oP s19 (.len false t18),oM s20 (ci 0)]) (.blk 0 (.loop b211x3))) (.seq (.seq (.reg [oM s30 t1,oP s31 (.len false t30),oM s32 (ci 0)]) (.blk 2 (.loop b211x2))) (.seq (.reg [oM s47 t0,oN s48 t47,oF s49 0 t48,oL s50 t49,oP s51 (.len false t50),oM s11 t51]) (.seq (.seq (.reg [oM s52 t1,oP s53 (.len false t52),oM s54 (ci 0)]) (.blk 4 (.loop b211x1))) (.seq (.seq (.reg [oM s68 t1,oP s69 (.len false t68),oM s70 (ci 0)]) (.blk 6 (.loop b211x0))) (.seq (.reg [oM s4 (.c .nilp)]) .ret))))))),4,[.t s4],none⟩
def f213:FI:=⟨(.seq (.reg [oM s6 (.c vz)]) (.seq (.reg [oM s8 t1,oP s9 (.cvi .u64 t8),oM s7 t9]) (.seq (.seq (.reg [oM s10 t1,oQ s11 .lss t10 (ci 0)]) (.cond t11
 (.seq (.reg [oM s12 t0,oP s13 (.bsl 1 1 (vu 0) [(0,(cu 45))]),oX s14 (.app 0 0 1 (vu 0) 1 t12 t13) [],oM s0 t14]) (.reg [oM s15 t7,oP s16 (.un .neg t15),oM s7 t16]))
 .skip)) (.seq (.reg [oM s17 t0,oM s18 t7,oM s19 t2,oC s20 256 [t17,t18,t19],oM s6 t20]) .ret)))),0,[.t s6],none⟩
def f214:FI:=⟨(.seq (.reg [oM s4 (.c vz)]) (.seq (.reg [oP s5 (.bsl 0 1 (.bool false) []),oM s6 t0,oM s7 t1,oC s8 103 [t6,t7],oP s9 (.fld false 3 1 t8),oX s10 (.app 0 0 1 (.bool false) 1 t5 t9) [],oM s4 t10]) .ret)),0,[.t s4],none⟩
def f215:FI:=⟨(.seq (.reg [oM s5 t0,oP s6 (.len false t5),oM s4 t6]) (.reg [oM s7 t0,oM s8 t4,oM s9 t4,oP s10 (.cvi .u64 t9),oC s11 150 [t10],oM s12 t1,oC s13 257 [t7,(ci 0),t8,t11,t12]])),0,[],none⟩
def f218:FI:=⟨(.seq (.reg [oM s2 (ci 0)]) (.seq (.reg [oM s4 t0,oN s5 t4,oF s6 0 t5,oG s7 t6,oN s8 t7,oF s9 15 t8,oL s10 t9,oM s11 t0,oN s12 t11,oF s13 0 t12,oG s14 t13,oN s15 t14,oF s16 16 t15,oG s17 t16,oP s18 (.iad 1 t10 t17),oG s19 t18,oM s3 t19]) (.seq (.reg [oM s20 t0,oN s21 t20,oF s22 0 t21,oG s23 t22,oN s24 t23,oF s25 16 t24,oG s26 t25,oQ s27 .add t26 (ci 1),oN s28 t23,oF s29 16 t28,oS 1 t29 t27]) (.seq (.reg [oM s30 t0,oN s31 t30,oF s32 0 t31,oG s33 t32,oM s34 t3,oC s35 46 [t33,t34],oM s2 t35]) .ret)))),0,[.t s2],none⟩
def f219:FI:=⟨(.seq (.reg [oX s3 (.box 0 false 9 1 t1) [],oM s4 (ci 0),oM s5 (.c (.bool false))]) (.seq (.reg [oM s7 t0,oN s8 t7,oF s9 3 t8,oL s10 t9,oP s11 (.mkf 260 [] [t3]),oC s12 259 [t10,t11],oM s6 t12]) (.seq (.seq (.reg [oM s13 t6,oQ s14 .lss t13 (ci 0)]) (.cond t14
 (.seq (.reg [oM s4 (ci 0),oM s5 (.c (.bool false))]) .ret)
 .skip)) (.seq (.reg [oM s15 t0,oN s16 t15,oF s17 3 t16,oL s18 t17,oM s19 t6,oP s20 (.iad 2 t18 t19),oF s21 1 t20,oG s22 t21,oM s4 t22,oM s5 (.c (.bool true))]) .ret)))),1,[.t s4,.t s5],none⟩
def b220x0:AC:=(.seq (.reg [oQ s83 .lss t82 t81]) (.seq (.cond t83
 .skip
 (.exit 0)) (.seq (.blk 1 (.seq (.reg [oP s84 (.iad 7 t80 t82),oR s85 (.ld true 7 t84),oX s8 (.new 3 false false (.cells 258 [(vi 0),(vi 0),(vi 0),(.str []),vz,vz,vz])) [],oS 7 t8 t85]) (.reg [oM s86 t6,oM s87 t6,oN s88 t87,oF s89 16 t88,oL s90 t89,oM s91 t0,oR s92 (.ld true 7 t8),oX s93 (.call 220 [t91,t92]) [(.l t89)],oP s94 (.bsl 1 1 .nilp [(0,t93)]),oX s95 (.app 4 0 1 .nilp 8 t90 t94) [],oN s96 t86,oF s97 16 t96,oS 1 t97 t95]))) (.reg [oQ s98 .add t82 (ci 1),oM s82 t98]))))
def f220:FI:=⟨(.seq (.reg [oX s3 (.box 0 false 258 7 t1) [],oM s4 (.c .nilp)]) (.seq (.reg [oM s9 t0,oN s10 t9,oF s11 0 t10,oG s12 t11,oN s13 t12,oF s14 0 t13,oG s15 t14,oN s16 t15,oF s17 2 t16,oL s18 t17,oP s19 (.len false t18),oM s5 t19]) (.seq (.reg [oM s20 t0,oN s21 t20,oF s22 0 t21,oG s23 t22,oN s24 t23,oF s25 0 t24,oG s26 t25,oM s27 t0,oN s28 t27,oF s29 0 t28,oG s30 t29,oN s31 t30,oF s32 0 t31,oG s33 t32,oN s34 t33,oF s35 2 t34,oL s36 t35,oF s37 0 t3,oR s38 (.ld true 1 t37),oF s39 1 t3,oG s40 t39,oP s41 (.bld [(vi 0),(vi 0),(vi 0)] [(0,1,t38),(1,1,t40)]),oP s42 (.bsl 1 3 (.agg [(vi 0),(vi 0),(vi 0)]) [(0,t41)]),oX s43 (.app 1 2 3 (.agg [(vi 0),(vi 0),(vi 0)]) 24 t36 t42) [(.c t25),(.c t22)],oN s44 t26,oF s45 2 t44,oS 1 t45 t43]) (.seq (.reg [oR s46 (.ld true 7 t3),oP s47 (.bld [(vi 0),(vi 0),(vi 0),(.str []),vz,vz,vz,(vi 0),(vi 0),vz,(vi 0),(.str []),(.str []),(vi 0),(.bool false),(.bool false),vz] [(0,7,t46)]),oX s48 (.box 2 true 263 17 t47) [],oM s6 t48]) (.seq (.reg [oM s49 t6,oN s50 t49,oF s51 0 t50,oF s52 6 t51,oS 1 t52 (.c vz)]) (.seq (.seq (.reg [oF s53 4 t3,oL s54 t53,oP s55 (.len false t54),oQ s56 .gtr t55 (ci 0),oM s57 t56,⟨some s58,some (s57,false),(.p (.fad 1 t3))⟩,⟨some s59,some (s57,false),(.r (.ldc t58))⟩,⟨some s60,some (s57,false),(.p (.bin .eql eI t59 (ci 8)))⟩,oP s61 (.pick t57 (.c (.bool true)) t60)]) (.cond t61
 (.reg [oM s62 t6,oM s63 t0,oC s64 218 [t63],oN s65 t62,oF s66 8 t65,oS 1 t66 t64])
 .skip)) (.seq (.seq (.reg [oF s67 1 t3,oG s68 t67,oQ s69 .eql t68 (ci 7),oM s70 t69,⟨some s71,some (s70,false),(.p (.fad 1 t3))⟩,⟨some s72,some (s70,false),(.r (.ldc t71))⟩,⟨some s73,some (s70,false),(.p (.bin .eql eI t72 (ci 8)))⟩,oP s74 (.pick t70 (.c (.bool true)) t73)]) (.cond t74
 (.reg [oM s75 t0,oM s76 t6,oR s77 (.ld true 7 t3),oC s78 261 [t75,t76,t77]])
 (.seq (.seq (.reg [oF s79 6 t3,oL s80 t79,oP s81 (.len false t80),oM s82 (ci 0)]) (.blk 0 (.loop b220x0))) (.reg [oM s99 t0,oM s100 t6,oC s101 262 [t99,t100]])))) (.seq (.reg [oM s102 t0,oN s103 t102,oF s104 0 t103,oG s105 t104,oN s106 t105,oF s107 0 t106,oG s108 t107,oN s109 t108,oF s110 2 t109,oL s111 t110,oM s112 t5,oM s113 t6,oN s114 t113,oF s115 7 t114,oG s116 t115,oP s117 (.iad 3 t111 t112),oF s118 2 t117,oS 1 t118 t116]) (.seq (.reg [oM s119 t6,oM s4 t119]) .ret))))))))),4,[.t s4],none⟩
def f221:FI:=⟨(.seq (.reg [oM s6 t0,oM s7 t1,oN s8 t7,oF s9 7 t8,oG s10 t9,oM s11 t2,oC s12 263 [t6,t10,t11],oP s13 (.un .not t12)]) (.cond t13
 (.reg [oM s14 t1,oN s15 t14,oF s16 0 t15,oF s17 0 t16,oR s18 (.ld true 1 t17),oC s19 40 [t18,(ci 40),(.c (.str []))]])
 .skip)),0,[],none⟩
def b222x0:AC:=(.seq (.seq (.reg [oM s16 t7,oM s17 t1,oQ s18 .gtr t16 t17,oM s19 t18,⟨some s20,some (s19,true),(.p (.mov t0))⟩,⟨some s21,some (s19,true),(.p (.mov t7))⟩,⟨some s22,some (s19,true),(.p (.iad 1 t20 t21))⟩,⟨some s23,some (s19,true),(.r (.ld false 1 t22))⟩,⟨some s24,some (s19,true),(.p (.mov t0))⟩,⟨some s25,some (s19,true),(.p (.mov t7))⟩,⟨some s26,some (s19,true),(.p (.bin .sub eI t25 (ci 1)))⟩,⟨some s27,some (s19,true),(.p (.iad 1 t24 t26))⟩,⟨some s28,some (s19,true),(.r (.ld false 1 t27))⟩,⟨some s29,some (s19,true),(.e (.call 228 [t23,t28]) [])⟩,oP s30 (.pick t19 t29 (.c (.bool false)))]) (.cond t30
 .skip
 (.exit 2))) (.seq (.blk 3 (.reg [oM s33 t0,oM s34 t7,oM s35 t0,oM s36 t7,oQ s37 .sub t36 (ci 1),oM s38 t0,oM s39 t7,oQ s40 .sub t39 (ci 1),oP s41 (.iad 1 t38 t40),oL s42 t41,oM s43 t0,oM s44 t7,oP s45 (.iad 1 t43 t44),oL s46 t45,oP s47 (.iad 1 t33 t34),oS 1 t47 t42,oP s48 (.iad 1 t35 t37),oS 1 t48 t46])) (.reg [oM s31 t7,oQ s32 .sub t31 (ci 1),oM s7 t32])))
def b222x1:AC:=(.seq (.seq (.reg [oM s10 t6,oM s11 t2,oQ s12 .lss t10 t11]) (.cond t12
 .skip
 (.exit 0))) (.seq (.blk 1 (.seq (.reg [oM s15 t6,oM s7 t15]) (.blk 2 (.loop b222x0)))) (.reg [oM s13 t6,oQ s14 .add t13 (ci 1),oM s6 t14])))
def f222:FI:=⟨(.seq (.reg [oM s8 t1,oQ s9 .add t8 (ci 1),oM s6 t9]) (.blk 0 (.loop b222x1))),0,[],none⟩
def f228:FI:=⟨(.seq (.reg [oM s4 (.c (.bool false))]) (.seq (.reg [oM s5 t0,oC s6 267 [t5],oM s7 t6,⟨some s8,some (s7,true),(.p (.mov t1))⟩,⟨some s9,some (s7,true),(.e (.call 267 [t8]) [])⟩,⟨some s10,some (s7,true),(.p (.un .not t9))⟩,oP s11 (.pick t7 t10 (.c (.bool false))),oM s12 t11,⟨some s13,some (s12,false),(.p (.mov t0))⟩,⟨some s14,some (s12,false),(.p (.mov t1))⟩,⟨some s15,some (s12,false),(.p (.bin .lss eS t13 t14))⟩,oP s16 (.pick t12 (.c (.bool true)) t15),oM s4 t16]) .ret)),0,[.t s4],none⟩
def f232:FI:=⟨(.seq (.reg [oM s4 (.c (.str []))]) (.seq (.seq (.reg [oM s10 t1,oQ s11 .eql t10 (ci 10)]) (.cond t11
 (.seq (.seq (.reg [oM s12 t0,oQ s13 .leq (ci 0) t12,oM s14 t13,⟨some s15,some (s14,true),(.p (.mov t0))⟩,⟨some s16,some (s14,true),(.p (.bin .lss eI t15 (ci 100)))⟩,oP s17 (.pick t14 t16 (.c (.bool false)))]) (.cond t17
 (.seq (.reg [oM s18 t0,oC s19 268 [t18],oM s4 t19]) .ret)
 .skip)) (.seq (.reg [oX s5 (.new 0 false false (.cells 400 [(vu 0),(vu 0),(vu 0),(vu 0),(vu 0),(vu 0),(vu 0),(vu 0),(vu 0),(vu 0),(vu 0),(vu 0),(vu 0),(vu 0),(vu 0),(vu 0),(vu 0),(vu 0),(vu 0),(vu 0),(vu 0),(vu 0),(vu 0),(vu 0)])) []]) (.seq (.reg [oM s20 t0,oP s21 (.cvi .u64 t20),oM s6 t21]) (.seq (.seq (.reg [oM s22 t0,oQ s23 .lss t22 (ci 0)]) (.cond t23
 (.reg [oM s24 t6,oP s25 (.un .neg t24),oM s6 t25])
 .skip)) (.seq (.reg [oM s26 t6,oC s27 269 [t26],oM s7 t27]) (.seq (.reg [oM s28 t7,oQ s29 .add (ci 1) t28,oP s30 (.sla 24 t5 (some (ci 1)) (some t29)),oM s31 t6,oC s32 270 [t30,t31]]) (.seq (.seq (.reg [oM s33 t0,oQ s34 .lss t33 (ci 0)]) (.cond t34
 (.seq (.reg [oP s35 (.iaa 24 1 t5 (ci 0)),oS 1 t35 (cu 45)]) (.seq (.reg [oM s36 t7,oQ s37 .add (ci 1) t36,oP s38 (.sla 24 t5 none (some t37)),oR s39 (.b2s t38),oM s4 t39]) .ret))
 .skip)) (.seq (.reg [oM s40 t7,oQ s41 .add (ci 1) t40,oP s42 (.sla 24 t5 (some (ci 1)) (some t41)),oR s43 (.b2s t42),oM s4 t43]) .ret))))))))
 .skip)) (.seq (.reg [oM s45 t0,oP s46 (.cvi .u64 t45),oM s47 t1,oM s48 t0,oQ s49 .lss t48 (ci 0),oC s50 271 [(.c vz),t46,t47,t49,(.c (.bool false))],oM s44 t50,oE s51 t44 0,oE s52 t44 1,oM s8 t51,oM s9 t52]) (.seq (.reg [oM s53 t9,oM s4 t53]) .ret)))),1,[.t s4],none⟩
def f233:FI:=⟨(.seq (.reg [oX s4 (.box 0 false 61 5 t1) [],oX s6 (.new 1 false false (.cells 61 [(vi 0),(vi 0),(vi 0),(.str []),vz])) [],oM s7 (ci 0)]) (.seq (.seq (.reg [oF s10 0 t4,oG s11 t10]) (.blk 0 (.seq (.reg [oQ s14 .eql t11 (ci 5),oM s13 t14]) (.cond t13
 (.seq (.seq (.reg [oF s15 4 t4,oL s16 t15,oP s17 (.len false t16),oQ s18 .eql t17 (ci 0)]) (.cond t18
 (.seq (.reg [oP s19 (.bld [(vi 0),(vi 0),(vi 0),(.str []),vz] []),oS 5 t6 t19,oM s7 (ci 51)]) .ret)
 .skip)) (.reg [oF s20 4 t4,oL s21 t20,oP s22 (.iad 5 t21 (ci 0)),oR s23 (.ld true 5 t22),oS 5 t4 t23]))
 (.seq (.reg [oQ s25 .eql t11 (ci 4),oM s24 t25]) (.cond t24
 .skip
 (.seq (.reg [oP s12 (.bld [(vi 0),(vi 0),(vi 0),(.str []),vz] []),oS 5 t6 t12,oM s7 (ci 42)]) .ret))))))) (.seq (.reg [oM s27 t0,oF s28 1 t4,oG s29 t28,oC s30 111 [t27,t29],oM s31 t2,oC s32 272 [t30,t31],oM s26 t32,oE s33 t26 0,oE s34 t26 1,oM s8 t33,oM s9 t34]) (.seq (.seq (.reg [oM s35 t9,oP s36 (.un .not t35)]) (.cond t36
 (.seq (.reg [oP s37 (.bld [(vi 0),(vi 0),(vi 0),(.str []),vz] []),oS 5 t6 t37,oM s7 (ci 42)]) .ret)
 .skip)) (.seq (.reg [oF s38 4 t4,oL s39 t38,oM s40 t8,oP s41 (.iad 5 t39 t40),oR s42 (.ld true 5 t41),oS 5 t6 t42,oM s7 (ci 0)]) .ret))))),2,[.c true 5 s6,.t s7],none⟩
end Go.Abs.Run
namespace Go.Abs.Run
open Go Go.Abs Go.Proofs
def f234:FI:=⟨(.seq (.reg [oX s6 (.new 0 false false (.cells 260 [vz,(vi 0),(.str []),(.str []),(vi 0)])) [],oM s7 (ci 0)]) (.seq (.reg [oM s14 t0,oM s15 t1,oC s16 273 [t14,t15],oM s13 t16,oE s17 t13 0,oE s18 t13 1,oX s8 (.new 1 false false (.cells 406 [.nilp,.nilp])) [],oS 2 t8 t17,oM s9 t18]) (.seq (.seq (.reg [oM s19 t9,oP s20 (.un .not t19)]) (.cond t20
 (.seq (.reg [oP s21 (.bld [vz,(vi 0),(.str []),(.str []),(vi 0)] []),oS 5 t6 t21,oM s7 (ci 1)]) .ret)
 .skip)) (.seq (.reg [oR s23 (.ld true 2 t8),oM s24 t1,oM s25 t2,oC s26 274 [t23,t24,t25],oM s22 t26,oE s27 t22 0,oE s28 t22 1,oX s10 (.new 2 false false (.cells 260 [vz,(vi 0),(.str []),(.str []),(vi 0)])) [],oS 5 t10 t27,oM s11 t28]) (.seq (.seq (.reg [oM s29 t11,oP s30 (.len false t29),oM s12 t30]) (.blk 0 (.seq (.reg [oM s32 t12,oQ s33 .eql t32 (ci 0),oM s31 t33]) (.cond t31
 (.seq (.reg [oP s34 (.bld [vz,(vi 0),(.str []),(.str []),(vi 0)] []),oS 5 t6 t34,oM s7 (ci 30)]) .ret)
 (.seq (.reg [oM s36 t11,oM s37 t12,oQ s38 .sub t37 (ci 1),oP s39 (.iad 1 t36 t38),oG s40 t39,oQ s41 .gtr t40 (ci 1),oM s35 t41]) (.cond t35
 (.seq (.reg [oP s42 (.bld [vz,(vi 0),(.str []),(.str []),(vi 0)] []),oS 5 t6 t42,oM s7 (ci 31)]) .ret)
 .skip)))))) (.seq (.reg [oR s43 (.ld true 5 t10),oC s44 275 [t43],oS 5 t6 t44,oM s7 (ci 0)]) .ret)))))),3,[.c true 5 s6,.t s7],none⟩
def f235:FI:=⟨(.seq (.reg [oX s5 (.box 0 false 325 2 t0) []]) (.seq (.seq (.reg [oG s6 t1,oR s7 (.ld true 2 t5),oR s8 (.lku true [.i,.i] false (vi 0) t6 t7),oQ s9 .add t8 (ci 1),oX s10 (.men true [.i,.i] (vi 0) t6 t7) [],oE s11 t10 1,oY (.est true [.i,.i] t6 t11 t9) []]) (.seq (.reg [oG s12 t1,oR s13 (.ld true 2 t5),oR s14 (.lku true [.i,.i] false (vi 0) t12 t13),oQ s15 .gtr t14 (ci 1)]) (.cond t15
 .ret
 .skip))) (.seq (.reg [oG s16 t2,oN s17 t16,oF s18 2 t17,oG s19 t18,oR s20 (.ld true 2 t5),oR s21 (.lku true [.i,.i] false (vi 0) t19 t20),oQ s22 .eql t21 (ci 0)]) (.cond t22
 (.reg [oL s23 t3,oR s24 (.ld true 2 t5),oP s25 (.bsl 1 2 (.agg [(vi 0),(vi 0)]) [(0,t24)]),oX s26 (.app 1 0 2 (.agg [(vi 0),(vi 0)]) 16 t23 t25) [],oS 1 t3 t26])
 (.seq (.reg [oG s27 t2,oN s28 t27,oF s29 2 t28,oG s30 t29,oR s31 (.ld true 2 t5),oR s32 (.lku true [.i,.i] false (vi 0) t30 t31),oQ s33 .eql t32 (ci 2)]) (.cond t33
 (.reg [oL s34 t4,oR s35 (.ld true 2 t5),oP s36 (.bsl 1 2 (.agg [(vi 0),(vi 0)]) [(0,t35)]),oX s37 (.app 1 0 2 (.agg [(vi 0),(vi 0)]) 16 t34 t36) [],oS 1 t4 t37])
 .skip)))))),1,[],none⟩
def b236x0:AC:=(.seq (.reg [oQ s119 .lss t118 t117]) (.seq (.cond t119
 .skip
 (.exit 3)) (.seq (.blk 4 (.seq (.reg [oM s120 t118,oP s121 (.iad 1 t116 t118),oL s122 t121,oM s13 t120,oM s14 t122]) (.seq (.reg [oM s123 t8,oM s124 t6,oM s125 t13,oP s126 (.iad 1 t124 t125),oG s127 t126,oM s128 t7,oM s129 t13,oP s130 (.iad 1 t128 t129),oG s131 t130,oP s132 (.bld [(vi 0),(vi 0)] [(0,1,t127),(1,1,t131)]),oM s133 t14,oP s134 (.bld [(vi 0),(vi 0),(.str [])] [(0,2,t132),(2,1,t133)]),oP s135 (.bsl 1 3 (.agg [(vi 0),(vi 0),(.str [])]) [(0,t134)]),oX s136 (.app 1 0 3 (.agg [(vi 0),(vi 0),(.str [])]) 32 t123 t135) [],oM s8 t136]) (.seq (.reg [oM s137 t12,oM s138 t14,oR s139 (.lku false [.s] false (.bool false) t137 t138)]) (.cond t139
 (.reg [oM s140 t8,oM s141 t7,oM s142 t13,oP s143 (.iad 1 t141 t142),oG s144 t143,oM s145 t6,oM s146 t13,oP s147 (.iad 1 t145 t146),oG s148 t147,oP s149 (.bld [(vi 0),(vi 0)] [(0,1,t144),(1,1,t148)]),oM s150 t14,oP s151 (.bld [(vi 0),(vi 0),(.str [])] [(0,2,t149),(2,1,t150)]),oP s152 (.bsl 1 3 (.agg [(vi 0),(vi 0),(.str [])]) [(0,t151)]),oX s153 (.app 1 0 3 (.agg [(vi 0),(vi 0),(.str [])]) 32 t140 t152) [],oM s8 t153])
 .skip))))) (.reg [oQ s154 .add t118 (ci 1),oM s118 t154]))))
def b236x1:AC:=(.seq (.reg [oQ s78 .lss t77 t76]) (.seq (.cond t78
 .skip
 (.exit 1)) (.seq (.blk 2 (.seq (.reg [oM s79 t77,oM s10 t79]) (.reg [oM s80 t8,oM s81 t7,oM s82 t10,oP s83 (.iad 1 t81 t82),oG s84 t83,oM s85 t6,oM s86 t10,oP s87 (.iad 1 t85 t86),oG s88 t87,oP s89 (.bld [(vi 0),(vi 0)] [(0,1,t84),(1,1,t88)]),oP s90 (.bld [(vi 0),(vi 0),(.str [])] [(0,2,t89),(2,1,(.c (.str [])))]),oP s91 (.bsl 1 3 (.agg [(vi 0),(vi 0),(.str [])]) [(0,t90)]),oX s92 (.app 1 0 3 (.agg [(vi 0),(vi 0),(.str [])]) 32 t80 t91) [],oM s8 t92]))) (.reg [oQ s93 .add t77 (ci 1),oM s77 t93]))))
def f236:FI:=⟨(.seq (.reg [oX s3 (.box 0 false 325 2 t1) [],oM s4 (.c vz),oM s5 (.c (.bool false))]) (.seq (.seq (.reg [oM s15 t0,oP s16 (.iaa 2 1 t3 (ci 1)),oG s17 t16,oC s18 276 [t15,t17],oQ s19 .eql t18 (ci 8)]) (.cond t19
 (.seq (.reg [oM s20 t0,oR s21 (.ld true 2 t3),oC s22 277 [t20,t21],oE s23 t22 0,oE s24 t22 1,oM s4 t23,oM s5 t24]) .ret)
 .skip)) (.seq (.seq (.reg [oM s25 t0,oN s26 t25,oF s27 0 t26,oG s28 t27,oP s29 (.iaa 2 1 t3 (ci 0)),oG s30 t29,oM s32 t0,oN s33 t32,oF s34 0 t33,oG s35 t34,oP s36 (.iaa 2 1 t3 (ci 1)),oG s37 t36,oX s31 (.call 278 [t28,t30]) [(.c t36),(.c t34)],oC s38 278 [t35,t37],oP s39 (.bin .neq eS t31 t38)]) (.cond t39
 (.seq (.reg [oM s4 (.c vz),oM s5 (.c (.bool false))]) .ret)
 .skip)) (.seq (.reg [oM s40 t0,oN s41 t40,oF s42 0 t41,oG s43 t42,oP s44 (.iaa 2 1 t3 (ci 0)),oG s45 t44,oM s47 t0,oN s48 t47,oF s49 0 t48,oG s50 t49,oP s51 (.iaa 2 1 t3 (ci 1)),oG s52 t51,oX s46 (.call 279 [t43,t45]) [(.c t51),(.c t49)],oC s53 279 [t50,t52],oM s6 t46,oM s7 t53]) (.seq (.reg [oM s8 (.c vz)]) (.seq (.seq (.reg [oM s54 t0,oP s55 (.iaa 2 1 t3 (ci 0)),oG s56 t55,oC s57 276 [t54,t56]]) (.blk 0 (.seq (.reg [oQ s59 .eql t57 (ci 5),oM s58 t59]) (.cond t58
 (.reg [oM s60 t8,oM s61 t6,oP s62 (.iad 1 t61 (ci 0)),oG s63 t62,oM s64 t7,oP s65 (.iad 1 t64 (ci 0)),oG s66 t65,oP s67 (.bld [(vi 0),(vi 0)] [(0,1,t63),(1,1,t66)]),oP s68 (.bld [(vi 0),(vi 0),(.str [])] [(0,2,t67),(2,1,(.c (.str [])))]),oP s69 (.bsl 1 3 (.agg [(vi 0),(vi 0),(.str [])]) [(0,t68)]),oX s70 (.app 1 0 3 (.agg [(vi 0),(vi 0),(.str [])]) 32 t60 t69) [],oM s8 t70])
 (.seq (.reg [oQ s72 .eql t57 (ci 7),oM s71 t72]) (.cond t71
 (.seq (.reg [oM s73 t6,oP s74 (.len false t73),oQ s75 .sub t74 (ci 1),oM s9 t75]) (.seq (.seq (.reg [oM s76 t9,oM s77 (ci 0)]) (.blk 1 (.loop b236x1))) (.reg [oM s94 t8,oM s95 t6,oM s96 t9,oP s97 (.iad 1 t95 t96),oG s98 t97,oM s99 t7,oM s100 t9,oP s101 (.iad 1 t99 t100),oG s102 t101,oP s103 (.bld [(vi 0),(vi 0)] [(0,1,t98),(1,1,t102)]),oP s104 (.bld [(vi 0),(vi 0),(.str [])] [(0,2,t103),(2,1,(.c (.str [])))]),oP s105 (.bsl 1 3 (.agg [(vi 0),(vi 0),(.str [])]) [(0,t104)]),oX s106 (.app 1 0 3 (.agg [(vi 0),(vi 0),(.str [])]) 32 t94 t105) [],oM s8 t106])))
 (.seq (.reg [oQ s108 .eql t57 (ci 6),oM s107 t108]) (.cond t107
 (.seq (.reg [oM s110 t0,oP s111 (.iaa 2 1 t3 (ci 0)),oG s112 t111,oC s113 280 [t110,t112],oM s109 t113,oE s114 t109 0,oE s115 t109 1,oM s11 t114,oM s12 t115]) (.seq (.reg [oM s116 t11,oP s117 (.len false t116),oM s118 (ci 0)]) (.blk 3 (.loop b236x0))))
 .skip)))))))) (.seq (.reg [oM s155 t8,oM s4 t155,oM s5 (.c (.bool true))]) .ret))))))),1,[.t s4,.t s5],none⟩
def f237:FI:=⟨(.seq (.reg [oM s0 (.c vz)]) (.seq (.reg [oP s1 (.bsl 25 1 (.str []) [(0,(.c (.str [116,121,112,101]))),(1,(.c (.str [109,101,116,104,111,100]))),(2,(.c (.str [102,117,110,99]))),(3,(.c (.str [109,97,105,110]))),(4,(.c (.str [105,110,116,101,114,102,97,99,101]))),(5,(.c (.str [101,109,98,101,100]))),(6,(.c (.str [105,110,116]))),(7,(.c (.str [98,111,111,108]))),(8,(.c (.str [116,101,120,116]))),(9,(.c (.str [102,110]))),(10,(.c (.str [108,101,116]))),(11,(.c (.str [112,114,105,110,116]))),(12,(.c (.str [105,102]))),(13,(.c (.str [101,108,115,101]))),(14,(.c (.str [119,104,105,108,101]))),(15,(.c (.str [114,101,116,117,114,110]))),(16,(.c (.str [110,105,108]))),(17,(.c (.str [110,101,119]))),(18,(.c (.str [116,111]))),(19,(.c (.str [97,110,100]))),(20,(.c (.str [111,114]))),(21,(.c (.str [110,111,116]))),(22,(.c (.str [116,114,117,101]))),(23,(.c (.str [102,97,108,115,101]))),(24,(.c (.str [115,101,108,102])))]),oM s0 t1]) .ret)),0,[.t s0],none⟩
def b238x0:AC:=(.seq (.seq (.reg [oM s10 t0,oN s11 t10,oF s12 3 t11,oG s13 t12,oQ s14 .eql t13 (ci 0)]) (.cond t14
 .skip
 (.exit 0))) (.blk 1 (.seq (.reg [oR s15 (.ld true 7 t5),oP s16 (.bsl 1 7 (.agg [(vi 0),(vi 0),(vi 0),(.str []),vz,vz,vz]) [(0,t15)]),oP s17 (.bld [(vi 0),(vi 0),(vi 0),(.str []),vz,vz,vz] [(6,1,t16)]),oX s6 (.new 2 false false (.cells 258 [(vi 0),(vi 0),(vi 0),(.str []),vz,vz,vz])) [],oS 7 t6 t17]) (.seq (.reg [oM s18 t0,oC s19 32 [t18],oF s20 0 t6,oF s21 0 t20,oS 1 t21 t19]) (.seq (.blk 2 (.seq (.reg [oM s24 t0,oC s25 19 [t24,(.c (.str [46]))],oM s23 t25]) (.cond t23
 (.seq (.reg [oM s26 t0,oN s27 t26,oF s28 2 t27,oG s29 t28,oQ s30 .add t29 (ci 1),oN s31 t26,oF s32 2 t31,oS 1 t32 t30]) (.seq (.reg [oF s33 1 t6,oS 1 t33 (ci 9)]) (.seq (.reg [oM s34 t0,oC s35 34 [t34,(ci 1)],oF s36 3 t6,oS 1 t36 t35]) (.seq (.reg [oM s37 t0,oC s38 19 [t37,(.c (.str [40]))]]) (.cond t38
 (.seq (.reg [oF s39 1 t6,oS 1 t39 (ci 10)]) (.reg [oM s40 t0,oF s41 6 t6,oL s42 t41,oM s43 t1,oC s44 282 [t40,t42,t43],oF s45 6 t6,oS 1 t45 t44]))
 .skip)))))
 (.seq (.reg [oM s47 t0,oC s48 19 [t47,(.c (.str [40]))],oM s46 t48]) (.cond t46
 (.seq (.reg [oF s49 1 t6,oS 1 t49 (ci 11)]) (.reg [oM s50 t0,oF s51 6 t6,oL s52 t51,oM s53 t1,oC s54 282 [t50,t52,t53],oF s55 6 t6,oS 1 t55 t54]))
 (.seq (.reg [oM s57 t0,oC s58 19 [t57,(.c (.str [116,111]))],oM s56 t58]) (.cond t56
 (.seq (.reg [oM s59 t0,oN s60 t59,oF s61 2 t60,oG s62 t61,oQ s63 .add t62 (ci 1),oN s64 t59,oF s65 2 t64,oS 1 t65 t63]) (.seq (.reg [oF s66 1 t6,oS 1 t66 (ci 12)]) (.reg [oM s67 t0,oC s68 35 [t67,(ci 1)],oP s69 (.bsl 1 5 (.agg [(vi 0),(.str []),vz,vz,vz]) [(0,t68)]),oF s70 4 t6,oS 1 t70 t69])))
 (.seq (.reg [oR s22 (.ld true 7 t5),oS 7 t4 t22]) .ret)))))))) (.reg [oR s71 (.ld true 7 t6),oS 7 t5 t71]))))))
def f238:FI:=⟨(.seq (.reg [oX s4 (.new 0 false false (.cells 258 [(vi 0),(vi 0),(vi 0),(.str []),vz,vz,vz])) []]) (.seq (.reg [oM s7 t0,oM s8 t1,oC s9 281 [t7,t8],oX s5 (.new 1 false false (.cells 258 [(vi 0),(vi 0),(vi 0),(.str []),vz,vz,vz])) [],oS 7 t5 t9]) (.seq (.blk 0 (.loop b238x0)) (.seq (.reg [oR s72 (.ld true 7 t5),oS 7 t4 t72]) .ret)))),3,[.c true 7 s4],none⟩
def f239:FI:=⟨(.seq (.reg [oM s2 (ci 0)]) (.seq (.seq (.reg [oM s3 t0]) (.blk 0 (.seq (.reg [oQ s5 .eql t3 (ci 21),oM s4 t5]) (.cond t4
 (.seq (.reg [oM s2 (ci 1)]) .ret)
 (.seq (.reg [oQ s7 .eql t3 (ci 20),oM s6 t7]) (.cond t6
 (.seq (.reg [oM s2 (ci 2)]) .ret)
 (.seq (.seq (.reg [oQ s9 .eql t3 (ci 18),oM s8 t9]) (.cond t8
 .skip
 (.reg [oQ s10 .eql t3 (ci 19),oM s8 t10]))) (.cond t8
 (.seq (.reg [oM s2 (ci 3)]) .ret)
 (.seq (.seq (.reg [oQ s12 .eql t3 (ci 16),oM s11 t12]) (.cond t11
 .skip
 (.reg [oQ s13 .eql t3 (ci 17),oM s11 t13]))) (.cond t11
 (.seq (.reg [oM s2 (ci 4)]) .ret)
 (.seq (.reg [oQ s15 .eql t3 (ci 15),oM s14 t15]) (.cond t14
 (.seq (.reg [oM s2 (ci 5)]) .ret)
 (.seq (.seq (.reg [oQ s17 .eql t3 (ci 13),oM s16 t17]) (.cond t16
 .skip
 (.reg [oQ s18 .eql t3 (ci 14),oM s16 t18]))) (.cond t16
 (.seq (.reg [oM s2 (ci 6)]) .ret)
 (.seq (.seq (.reg [oQ s20 .eql t3 (ci 12),oM s19 t20]) (.cond t19
 .skip
 (.seq (.reg [oQ s21 .eql t3 (ci 9),oM s19 t21]) (.cond t19
 .skip
 (.seq (.reg [oQ s22 .eql t3 (ci 10),oM s19 t22]) (.cond t19
 .skip
 (.reg [oQ s23 .eql t3 (ci 11),oM s19 t23]))))))) (.cond t19
 (.seq (.reg [oM s2 (ci 7)]) .ret)
 .skip)))))))))))))))) (.seq (.reg [oM s2 (ci 8)]) .ret))),0,[.t s2],none⟩
def f240:FI:=⟨(.seq (.reg [oM s2 (.c (.str []))]) (.seq (.seq (.reg [oM s3 t0]) (.blk 0 (.seq (.reg [oQ s5 .eql t3 (ci 15),oM s4 t5]) (.cond t4
 (.seq (.reg [oM s2 (.c (.str [42]))]) .ret)
 (.seq (.reg [oQ s7 .eql t3 (ci 16),oM s6 t7]) (.cond t6
 (.seq (.reg [oM s2 (.c (.str [43]))]) .ret)
 (.seq (.reg [oQ s9 .eql t3 (ci 17),oM s8 t9]) (.cond t8
 (.seq (.reg [oM s2 (.c (.str [45]))]) .ret)
 (.seq (.reg [oQ s11 .eql t3 (ci 18),oM s10 t11]) (.cond t10
 (.seq (.reg [oM s2 (.c (.str [61,61]))]) .ret)
 (.seq (.reg [oQ s13 .eql t3 (ci 19),oM s12 t13]) (.cond t12
 (.seq (.reg [oM s2 (.c (.str [60]))]) .ret)
 (.seq (.reg [oQ s15 .eql t3 (ci 20),oM s14 t15]) (.cond t14
 (.seq (.reg [oM s2 (.c (.str [97,110,100]))]) .ret)
 .skip)))))))))))))) (.seq (.reg [oM s2 (.c (.str [111,114]))]) .ret))),0,[.t s2],none⟩
def b241x0:AC:=(.seq (.reg [oQ s12 .lss t11 t10]) (.seq (.cond t12
 .skip
 (.exit 0)) (.seq (.blk 1 (.seq (.reg [oM s13 t11,oP s14 (.iad 4 t9 t11),oR s15 (.ld true 4 t14),oX s6 (.new 1 false false (.cells 114 [(vi 0),(vi 0),(.str []),(vi 0)])) [],oM s5 t13,oS 4 t6 t15]) (.seq (.reg [oR s17 (.ld true 4 t6),oC s18 283 [t17],oM s16 t18,oE s19 t16 0,oE s20 t16 1,oM s7 t19,oM s8 t20]) (.seq (.seq (.reg [oM s21 t8,oP s22 (.un .not t21)]) (.cond t22
 (.seq (.reg [oM s2 (.c (.str [])),oM s3 (ci 1)]) .ret)
 .skip)) (.seq (.seq (.reg [oC s23 112 [t4],oQ s24 .gtr t23 (ci 65536)]) (.cond t24
 (.exit 1)
 .skip)) (.seq (.seq (.reg [oM s25 t5,oQ s26 .gtr t25 (ci 0)]) (.cond t26
 (.reg [oC s27 110 [t4,(cu 32)]])
 .skip)) (.reg [oM s28 t7,oC s29 107 [t4,t28]]))))))) (.reg [oQ s30 .add t11 (ci 1),oM s11 t30]))))
def f241:FI:=⟨(.seq (.reg [oM s2 (.c (.str [])),oM s3 (ci 0)]) (.seq (.reg [oX s4 (.new 0 false false (.cells 150 [.nilp,vz])) []]) (.seq (.seq (.reg [oM s9 t0,oP s10 (.len false t9),oM s11 (ci 0)]) (.blk 0 (.loop b241x0))) (.seq (.blk 2 (.seq (.reg [oC s32 112 [t4],oQ s33 .gtr t32 (ci 65536),oM s31 t33]) (.cond t31
 (.seq (.reg [oM s2 (.c (.str [])),oM s3 (ci 2)]) .ret)
 (.seq (.reg [oM s35 t0,oP s36 (.len false t35),oQ s37 .gtr t36 (ci 4096),oM s34 t37]) (.cond t34
 (.seq (.reg [oM s2 (.c (.str [])),oM s3 (ci 3)]) .ret)
 .skip))))) (.seq (.reg [oC s38 56 [t4],oM s2 t38,oM s3 (ci 0)]) .ret))))),2,[.t s2,.t s3],none⟩
def f242:FI:=⟨(.seq (.reg [oX s2 (.box 0 false 167 7 t0) [],oM s4 (.c (.bool false))]) (.seq (.seq (.reg [oM s7 t1,oQ s8 .eql t7 (ci 0),oM s9 t8,⟨some s10,some (s9,false),(.p (.fad 4 t2))⟩,⟨some s11,some (s9,false),(.r (.ld false 1 t10))⟩,⟨some s12,some (s9,false),(.p (.len false t11))⟩,⟨some s13,some (s9,false),(.p (.bin .neq eI t12 (ci 1)))⟩,oP s14 (.pick t9 (.c (.bool true)) t13),oM s15 t14,⟨some s16,some (s15,false),(.p (.fad 4 t2))⟩,⟨some s17,some (s15,false),(.r (.ld false 1 t16))⟩,⟨some s18,some (s15,false),(.p (.iad 7 t17 (ci 0)))⟩,⟨some s19,some (s15,false),(.r (.ld true 7 t18))⟩,⟨some s20,some (s15,false),(.e (.call 284 [t19,(ci 64)]) [])⟩,⟨some s21,some (s15,false),(.p (.un .not t20))⟩,oP s22 (.pick t15 (.c (.bool true)) t21)]) (.cond t22
 (.seq (.reg [oM s4 (.c (.bool false))]) .ret)
 .skip)) (.seq (.reg [oF s23 1 t2,oG s24 t23,oQ s25 .eql t24 (ci 1),oM s26 t25,⟨some s27,some (s26,false),(.p (.fad 1 t2))⟩,⟨some s28,some (s26,false),(.r (.ldc t27))⟩,⟨some s29,some (s26,false),(.p (.bin .eql eI t28 (ci 2)))⟩,oP s30 (.pick t26 (.c (.bool true)) t29),oM s5 t30]) (.seq (.reg [oF s31 1 t2,oG s32 t31,oQ s33 .eql t32 (ci 4),oM s34 t33,⟨some s35,some (s34,false),(.p (.fad 1 t2))⟩,⟨some s36,some (s34,false),(.r (.ldc t35))⟩,⟨some s37,some (s34,false),(.p (.bin .eql eI t36 (ci 5)))⟩,oP s38 (.pick t34 (.c (.bool true)) t37),oM s6 t38]) (.seq (.blk 0 (.seq (.reg [oF s40 1 t2,oG s41 t40,oQ s42 .lss t41 (ci 1),oM s43 t42,⟨some s44,some (s43,false),(.p (.fad 1 t2))⟩,⟨some s45,some (s43,false),(.r (.ldc t44))⟩,⟨some s46,some (s43,false),(.p (.bin .gtr eI t45 (ci 7)))⟩,oP s47 (.pick t43 (.c (.bool true)) t46),oM s39 t47]) (.cond t39
 (.seq (.reg [oM s4 (.c (.bool false))]) .ret)
 (.seq (.reg [oM s49 t5,oF s50 2 t2,oL s51 t50,oP s52 (.bin .neq eS t51 (.c (.str []))),oP s53 (.bin .neq eB t49 t52),oM s54 t53,⟨some s55,some (s54,false),(.p (.mov t5))⟩,⟨some s56,some (s54,false),(.p (.mov t55))⟩,⟨some s57,some (s56,true),(.p (.fad 2 t2))⟩,⟨some s58,some (s56,true),(.r (.ld false 1 t57))⟩,⟨some s59,some (s56,true),(.e (.call 187 [t58]) [])⟩,⟨some s60,some (s56,true),(.p (.un .not t59))⟩,⟨some s61,some (s54,false),(.p (.pick t56 t60 (.c (.bool false))))⟩,oP s62 (.pick t54 (.c (.bool true)) t61),oM s48 t62]) (.cond t48
 (.seq (.reg [oM s4 (.c (.bool false))]) .ret)
 (.seq (.reg [oF s64 3 t2,oL s65 t64,oP s66 (.len false t65),oQ s67 .gtr t66 (ci 1),oM s68 t67,⟨some s69,some (s68,false),(.p (.fad 3 t2))⟩,⟨some s70,some (s68,false),(.r (.ld false 1 t69))⟩,⟨some s71,some (s68,false),(.p (.len false t70))⟩,⟨some s72,some (s68,false),(.p (.bin .eql eI t71 (ci 1)))⟩,⟨some s73,some (s68,false),(.p (.mov t72))⟩,⟨some s74,some (s73,true),(.p (.fad 1 t2))⟩,⟨some s75,some (s73,true),(.r (.ldc t74))⟩,⟨some s76,some (s73,true),(.p (.bin .neq eI t75 (ci 1)))⟩,⟨some s77,some (s73,true),(.p (.mov t76))⟩,⟨some s78,some (s77,false),(.p (.fad 3 t2))⟩,⟨some s79,some (s77,false),(.r (.ld false 1 t78))⟩,⟨some s80,some (s77,false),(.p (.iad 5 t79 (ci 0)))⟩,⟨some s81,some (s77,false),(.r (.ld true 5 t80))⟩,⟨some s82,some (s77,false),(.e (.call 135 [t81,(ci 64)]) [])⟩,⟨some s83,some (s77,false),(.p (.un .not t82))⟩,⟨some s84,some (s73,true),(.p (.pick t77 (.c (.bool true)) t83))⟩,⟨some s85,some (s68,false),(.p (.pick t73 t84 (.c (.bool false))))⟩,oP s86 (.pick t68 (.c (.bool true)) t85),oM s63 t86]) (.cond t63
 (.seq (.reg [oM s4 (.c (.bool false))]) .ret)
 (.seq (.seq (.reg [oM s88 t6,oP s89 (.un .not t88),oM s90 t89,⟨some s91,some (s90,true),(.p (.fad 5 t2))⟩,⟨some s92,some (s90,true),(.r (.ld false 1 t91))⟩,⟨some s93,some (s90,true),(.p (.len false t92))⟩,⟨some s94,some (s90,true),(.p (.bin .gtr eI t93 (ci 0)))⟩,oP s95 (.pick t90 t94 (.c (.bool false))),oM s87 t95]) (.cond t87
 .skip
 (.reg [oF s96 1 t2,oG s97 t96,oQ s98 .neq t97 (ci 4),oM s99 t98,⟨some s100,some (s99,true),(.p (.fad 6 t2))⟩,⟨some s101,some (s99,true),(.r (.ld false 1 t100))⟩,⟨some s102,some (s99,true),(.p (.len false t101))⟩,⟨some s103,some (s99,true),(.p (.bin .gtr eI t102 (ci 0)))⟩,oP s104 (.pick t99 t103 (.c (.bool false))),oM s87 t104]))) (.cond t87
 (.seq (.reg [oM s4 (.c (.bool false))]) .ret)
 .skip))))))))) (.seq (.reg [oF s105 5 t2,oL s106 t105,oM s107 t1,oQ s108 .sub t107 (ci 1),oC s109 188 [t106,t108],oM s110 t109,⟨some s111,some (s110,true),(.p (.fad 6 t2))⟩,⟨some s112,some (s110,true),(.r (.ld false 1 t111))⟩,⟨some s113,some (s110,true),(.p (.mov t1))⟩,⟨some s114,some (s110,true),(.p (.bin .sub eI t113 (ci 1)))⟩,⟨some s115,some (s110,true),(.e (.call 188 [t112,t114]) [])⟩,oP s116 (.pick t110 t115 (.c (.bool false))),oM s4 t116]) .ret)))))),1,[.t s4],none⟩
def f243:FI:=⟨(.seq (.reg [oX s3 (.box 0 false 258 7 t1) []]) (.seq (.reg [oF s4 1 t3,oG s5 t4]) (.blk 0 (.seq (.reg [oQ s10 .eql t5 (ci 1),oM s9 t10]) (.cond t9
 (.reg [oM s11 t0,oN s12 t11,oF s13 0 t12,oF s14 2 t3,oG s15 t14,oC s16 108 [t15],oP s17 (.bsl 1 1 (.str []) [(0,t16)]),oC s18 70 [t13,t17]])
 (.seq (.reg [oQ s20 .eql t5 (ci 2),oM s19 t20]) (.cond t19
 (.reg [oM s21 t0,oN s22 t21,oF s23 0 t22,oF s24 3 t3,oL s25 t24,oC s26 285 [t25],oP s27 (.bsl 1 1 (.str []) [(0,t26)]),oC s28 70 [t23,t27]])
 (.seq (.reg [oQ s30 .eql t5 (ci 3),oM s29 t30]) (.cond t29
 (.reg [oM s31 t0,oN s32 t31,oF s33 0 t32,oP s34 (.bsl 2 1 (.str []) [(0,(.c (.str [102,97,108,115,101]))),(1,(.c (.str [116,114,117,101])))]),oF s35 2 t3,oG s36 t35,oP s37 (.iad 1 t34 t36),oL s38 t37,oP s39 (.bsl 1 1 (.str []) [(0,t38)]),oC s40 70 [t33,t39]])
 (.seq (.reg [oQ s42 .eql t5 (ci 4),oM s41 t42]) (.cond t41
 (.reg [oM s43 t0,oN s44 t43,oF s45 0 t44,oF s46 3 t3,oL s47 t46,oP s48 (.bsl 1 1 (.str []) [(0,t47)]),oC s49 70 [t45,t48]])
 (.seq (.reg [oQ s51 .eql t5 (ci 5),oM s50 t51]) (.cond t50
 (.reg [oM s52 t0,oN s53 t52,oF s54 0 t53,oP s55 (.bsl 1 1 (.str []) [(0,(.c (.str [115,101,108,102])))]),oC s56 70 [t54,t55]])
 (.seq (.reg [oQ s58 .eql t5 (ci 6),oM s57 t58]) (.cond t57
 (.seq (.reg [oM s59 t0,oN s60 t59,oF s61 0 t60,oP s62 (.bsl 1 1 (.str []) [(0,(.c (.str [110,105,108])))]),oC s63 70 [t61,t62]]) (.reg [oM s64 t0,oF s65 4 t3,oL s66 t65,oP s67 (.iad 5 t66 (ci 0)),oR s68 (.ld true 5 t67),oC s69 71 [t64,t68]]))
 (.seq (.seq (.reg [oQ s71 .eql t5 (ci 7),oM s70 t71]) (.cond t70
 .skip
 (.reg [oQ s72 .eql t5 (ci 8),oM s70 t72]))) (.cond t70
 (.reg [oM s73 t0,oR s74 (.ld true 7 t3),oC s75 286 [t73,t74]])
 (.seq (.reg [oQ s77 .eql t5 (ci 9),oM s76 t77]) (.cond t76
 (.seq (.reg [oM s78 t0,oF s79 6 t3,oL s80 t79,oP s81 (.iad 7 t80 (ci 0)),oR s82 (.ld true 7 t81),oC s83 287 [t78,t82,(ci 7)]]) (.reg [oM s84 t0,oN s85 t84,oF s86 0 t85,oF s87 3 t3,oL s88 t87,oP s89 (.bsl 2 1 (.str []) [(0,(.c (.str [46]))),(1,t88)]),oC s90 70 [t86,t89]]))
 (.seq (.reg [oQ s92 .eql t5 (ci 10),oM s91 t92]) (.cond t91
 (.seq (.reg [oM s93 t0,oF s94 6 t3,oL s95 t94,oP s96 (.iad 7 t95 (ci 0)),oR s97 (.ld true 7 t96),oC s98 287 [t93,t97,(ci 7)]]) (.seq (.reg [oM s99 t0,oN s100 t99,oF s101 0 t100,oF s102 3 t3,oL s103 t102,oP s104 (.bsl 2 1 (.str []) [(0,(.c (.str [46]))),(1,t103)]),oC s105 70 [t101,t104]]) (.reg [oM s106 t0,oF s107 6 t3,oL s108 t107,oP s109 (.sls false 7 t108 (some (ci 1)) none none),oC s110 288 [t106,t109]])))
 (.seq (.reg [oQ s112 .eql t5 (ci 11),oM s111 t112]) (.cond t111
 (.seq (.seq (.reg [oF s113 6 t3,oL s114 t113,oP s115 (.iad 7 t114 (ci 0)),oF s116 1 t115,oG s117 t116,oQ s118 .eql t117 (ci 9)]) (.cond t118
 (.reg [oM s119 t0,oF s120 6 t3,oL s121 t120,oP s122 (.iad 7 t121 (ci 0)),oR s123 (.ld true 7 t122),oC s124 289 [t119,t123]])
 (.reg [oM s125 t0,oF s126 6 t3,oL s127 t126,oP s128 (.iad 7 t127 (ci 0)),oR s129 (.ld true 7 t128),oC s130 287 [t125,t129,(ci 7)]]))) (.reg [oM s131 t0,oF s132 6 t3,oL s133 t132,oP s134 (.sls false 7 t133 (some (ci 1)) none none),oC s135 288 [t131,t134]]))
 (.seq (.reg [oQ s137 .eql t5 (ci 12),oM s136 t137]) (.cond t136
 (.seq (.reg [oM s138 t0,oF s139 6 t3,oL s140 t139,oP s141 (.iad 7 t140 (ci 0)),oR s142 (.ld true 7 t141),oC s143 287 [t138,t142,(ci 7)]]) (.seq (.reg [oM s144 t0,oN s145 t144,oF s146 0 t145,oP s147 (.bsl 1 1 (.str []) [(0,(.c (.str [116,111])))]),oC s148 70 [t146,t147]]) (.reg [oM s149 t0,oF s150 4 t3,oL s151 t150,oP s152 (.iad 5 t151 (ci 0)),oR s153 (.ld true 5 t152),oC s154 71 [t149,t153]])))
 (.seq (.seq (.reg [oQ s156 .eql t5 (ci 13),oM s155 t156]) (.cond t155
 .skip
 (.reg [oQ s157 .eql t5 (ci 14),oM s155 t157]))) (.cond t155
 (.seq (.seq (.reg [oF s158 1 t3,oG s159 t158,oQ s160 .eql t159 (ci 13)]) (.cond t160
 (.reg [oM s161 t0,oN s162 t161,oF s163 0 t162,oP s164 (.bsl 1 1 (.str []) [(0,(.c (.str [45])))]),oC s165 70 [t163,t164]])
 (.reg [oM s166 t0,oN s167 t166,oF s168 0 t167,oP s169 (.bsl 1 1 (.str []) [(0,(.c (.str [110,111,116])))]),oC s170 70 [t168,t169]]))) (.reg [oM s171 t0,oF s172 6 t3,oL s173 t172,oP s174 (.iad 7 t173 (ci 0)),oR s175 (.ld true 7 t174),oC s176 287 [t171,t175,(ci 6)]]))
 (.reg [oM s6 t0,oR s7 (.ld true 7 t3),oC s8 290 [t6,t7]])))))))))))))))))))))))))))),1,[],none⟩
def b244x0:AC:=(.seq (.reg [oQ s9 .lss t8 t7]) (.seq (.cond t9
 .skip
 (.exit 0)) (.seq (.blk 1 (.seq (.reg [oP s10 (.iad 5 t6 t8),oR s11 (.ld true 5 t10),oX s5 (.new 0 false false (.cells 46 [(vi 0),(.str []),vz,vz,vz])) [],oS 5 t5 t11]) (.seq (.seq (.reg [oF s12 0 t5,oG s13 t12,oQ s14 .eql t13 (ci 4)]) (.cond t14
 (.reg [oM s15 t1,oF s16 1 t5,oL s17 t16,oX s18 (.callv t15 [t17]) []])
 .skip)) (.reg [oF s19 4 t5,oL s20 t19,oM s21 t1,oC s22 244 [t20,t21]])))) (.reg [oQ s23 .add t8 (ci 1),oM s8 t23]))))
def f244:FI:=⟨(.seq (.reg [oM s6 t0,oP s7 (.len false t6),oM s8 (ci 0)]) (.blk 0 (.loop b244x0))),1,[],none⟩
def f245:FI:=⟨(.seq (.reg [oG s4 t1,oM s5 t0,oR s6 (.lku false [.s] false (vi 0) t4 t5),oQ s7 .add t6 (ci 1),oY (.mup false [.s] t4 t5 t7) []]) (.seq (.reg [oG s8 t1,oM s9 t0,oR s10 (.lku false [.s] false (vi 0) t8 t9),oQ s11 .eql t10 (ci 1)]) (.cond t11
 (.reg [oL s12 t2,oM s13 t0,oP s14 (.bsl 1 1 (.str []) [(0,t13)]),oX s15 (.app 0 0 1 (.str []) 16 t12 t14) [],oS 1 t2 t15])
 .skip))),0,[],none⟩
def b254x0:AC:=(.seq (.reg [oQ s15 .lss t14 t13]) (.seq (.cond t15
 .skip
 (.exit 0)) (.seq (.blk 1 (.seq (.reg [oP s16 (.iad 1 t12 t14),oL s17 t16,oM s7 t17]) (.seq (.reg [oM s19 t0,oM s20 t7,oC s21 94 [t19,t20],oM s18 t21,oE s22 t18 0,oE s23 t18 1,oM s8 t22,oM s9 t23]) (.seq (.reg [oM s24 t9,oP s25 (.un .not t24)]) (.cond t25
 (.seq (.reg [oM s26 t7,oM s4 t26,oM s5 (.c (.bool true))]) .ret)
 .skip))))) (.reg [oQ s27 .add t14 (ci 1),oM s14 t27]))))
def f254:FI:=⟨(.seq (.reg [oX s3 (.box 0 false 46 5 t1) [],oM s4 (.c (.str [])),oM s5 (.c (.bool false))]) (.seq (.seq (.reg [oR s10 (.ld true 5 t3),oP s11 (.bsl 1 5 (.agg [(vi 0),(.str []),vz,vz,vz]) [(0,t10)]),oC s12 191 [t11],oP s13 (.len false t12),oM s14 (ci 0)]) (.blk 0 (.loop b254x0))) (.seq (.reg [oM s4 (.c (.str [])),oM s5 (.c (.bool false))]) .ret))),1,[.t s4,.t s5],none⟩
def b255x0:AC:=(.seq (.reg [oQ s16 .lss t15 t14]) (.seq (.cond t16
 .skip
 (.exit 0)) (.seq (.blk 1 (.seq (.reg [oM s17 t15,oP s18 (.iad 5 t13 t15),oR s19 (.ld true 5 t18),oX s7 (.new 1 false false (.cells 46 [(vi 0),(.str []),vz,vz,vz])) [],oM s6 t17,oS 5 t7 t19]) (.seq (.seq (.reg [oF s20 0 t3,oG s21 t20,oQ s22 .eql t21 (ci 6),oM s23 t22,⟨some s24,some (s23,true),(.p (.fad 3 t3))⟩,⟨some s25,some (s23,true),(.r (.ld false 1 t24))⟩,⟨some s26,some (s23,true),(.p (.mov t6))⟩,⟨some s27,some (s23,true),(.p (.iad 1 t25 t26))⟩,⟨some s28,some (s23,true),(.r (.ldc t27))⟩,oP s29 (.pick t23 t28 (.c (.bool false)))]) (.cond t29
 (.seq (.reg [oM s31 t0,oR s32 (.ld true 5 t7),oC s33 293 [t31,t32],oM s30 t33,oE s34 t30 0,oE s35 t30 1,oM s8 t34,oM s9 t35]) (.seq (.reg [oM s36 t8,oQ s37 .neq t36 (ci 6),oM s38 t37,⟨some s39,some (s38,true),(.p (.mov t8))⟩,⟨some s40,some (s38,true),(.p (.bin .neq eI t39 (ci 8)))⟩,oP s41 (.pick t38 t40 (.c (.bool false))),oM s42 t41,⟨some s43,some (s42,true),(.p (.mov t8))⟩,⟨some s44,some (s42,true),(.p (.bin .neq eI t43 (ci 5)))⟩,⟨some s45,some (s42,true),(.p (.mov t44))⟩,⟨some s46,some (s45,false),(.p (.mov t9))⟩,⟨some s47,some (s45,false),(.p (.bin .neq eI t46 (ci 6)))⟩,⟨some s48,some (s42,true),(.p (.pick t45 (.c (.bool true)) t47))⟩,oP s49 (.pick t42 t48 (.c (.bool false)))]) (.cond t49
 (.seq (.reg [oF s50 2 t3,oL s51 t50,oM s52 t6,oP s53 (.iad 1 t51 t52),oL s54 t53,oM s4 t54,oM s5 (.c (.bool true))]) .ret)
 .skip)))
 .skip)) (.seq (.reg [oM s56 t0,oR s57 (.ld true 5 t7),oC s58 255 [t56,t57],oM s55 t58,oE s59 t55 0,oE s60 t55 1,oM s10 t59,oM s11 t60]) (.seq (.reg [oM s61 t11]) (.cond t61
 (.seq (.reg [oM s62 t10,oM s4 t62,oM s5 (.c (.bool true))]) .ret)
 .skip)))))) (.reg [oQ s63 .add t15 (ci 1),oM s15 t63]))))
def f255:FI:=⟨(.seq (.reg [oX s3 (.box 0 false 46 5 t1) [],oM s4 (.c (.str [])),oM s5 (.c (.bool false))]) (.seq (.seq (.reg [oF s12 4 t3,oL s13 t12,oP s14 (.len false t13),oM s15 (ci 0)]) (.blk 0 (.loop b255x0))) (.seq (.reg [oM s4 (.c (.str [])),oM s5 (.c (.bool false))]) .ret))),2,[.t s4,.t s5],none⟩
def f256:FI:=⟨(.seq (.reg [oM s6 (.c vz)]) (.seq (.seq (.reg [oM s9 t2,oQ s10 .eql t9 (ci 10)]) (.cond t10
 (.seq (.seq (.reg [oM s11 t1,oQ s12 .lss t11 (.c (.int .u64 (.ofNat 100)))]) (.cond t12
 (.seq (.reg [oM s13 t0,oM s14 t1,oP s15 (.cvi .i64 t14),oC s16 268 [t15],oX s17 (.app 0 0 1 (vu 0) 1 t13 t16) [],oM s6 t17]) .ret)
 .skip)) (.seq (.reg [oX s7 (.new 0 false false (.cells 400 [(vu 0),(vu 0),(vu 0),(vu 0),(vu 0),(vu 0),(vu 0),(vu 0),(vu 0),(vu 0),(vu 0),(vu 0),(vu 0),(vu 0),(vu 0),(vu 0),(vu 0),(vu 0),(vu 0),(vu 0),(vu 0),(vu 0),(vu 0),(vu 0)])) []]) (.seq (.reg [oM s18 t1,oC s19 269 [t18],oM s8 t19]) (.seq (.reg [oM s20 t8,oP s21 (.sla 24 t7 none (some t20)),oM s22 t1,oC s23 270 [t21,t22]]) (.seq (.reg [oM s24 t0,oM s25 t8,oP s26 (.sla 24 t7 none (some t25)),oX s27 (.app 1 0 1 (vu 0) 1 t24 t26) [],oM s6 t27]) .ret)))))
 .skip)) (.seq (.reg [oM s29 t0,oM s30 t1,oM s31 t2,oC s32 271 [t29,t30,t31,(.c (.bool false)),(.c (.bool true))],oM s28 t32,oE s33 t28 0,oE s34 t28 1,oM s0 t33]) (.seq (.reg [oM s35 t0,oM s6 t35]) .ret)))),1,[.t s6],none⟩
def b257x0:AC:=(.blk 1 (.seq (.reg [oM s21 t2,oM s22 t1,oQ s23 .sub t21 t22,oM s12 t23]) (.seq (.seq (.reg [oM s24 t12,oQ s25 .leq t24 (ci 12)]) (.cond t25
 (.seq (.reg [oM s26 t0,oM s27 t1,oM s28 t2,oM s29 t4,oC s30 294 [t26,t27,t28,t29]]) .ret)
 .skip)) (.seq (.seq (.reg [oM s31 t3,oQ s32 .eql t31 (ci 0)]) (.cond t32
 (.seq (.reg [oM s33 t0,oM s34 t1,oM s35 t2,oM s36 t4,oC s37 295 [t33,t34,t35,t36]]) .ret)
 .skip)) (.seq (.seq (.reg [oM s38 t10,oP s39 (.un .not t38)]) (.cond t39
 (.seq (.reg [oM s40 t0,oM s41 t1,oM s42 t2,oM s43 t4,oC s44 296 [t40,t41,t42,t43]]) (.reg [oM s45 t3,oQ s46 .sub t45 (ci 1),oM s3 t46]))
 .skip)) (.seq (.reg [oM s48 t0,oM s49 t1,oM s50 t2,oM s51 t4,oC s52 297 [t48,t49,t50,t51],oM s47 t52,oE s53 t47 0,oE s54 t47 1,oM s13 t53,oM s14 t54]) (.seq (.seq (.reg [oM s55 t14,oQ s56 .eql t55 (ci 2)]) (.cond t56
 (.seq (.reg [oM s57 t0,oM s58 t1,oM s59 t2,oM s60 t4,oC s61 298 [t57,t58,t59,t60]]) (.seq (.reg [oM s62 t2,oQ s63 .sub t62 (ci 1),oM s64 t13,oM s65 t1,oQ s66 .sub t64 t65,oQ s67 .sub t63 t66,oM s13 t67]) (.reg [oM s14 (ci 1)])))
 .skip)) (.seq (.seq (.reg [oM s68 t10,oM s69 t68,⟨some s70,some (s69,true),(.p (.mov t11))⟩,oP s71 (.pick t69 t70 (.c (.bool false))),oM s72 t71,⟨some s73,some (s72,true),(.p (.mov t14))⟩,⟨some s74,some (s72,true),(.p (.bin .eql eI t73 (ci 1)))⟩,oP s75 (.pick t72 t74 (.c (.bool false)))]) (.cond t75
 (.seq (.reg [oM s76 t0,oM s77 t1,oM s78 t2,oM s79 t4,oC s80 299 [t76,t77,t78,t79]]) (.cond t80
 .ret
 .skip))
 .skip)) (.seq (.seq (.reg [oM s81 t1,oQ s82 .gtr t81 (ci 0),oM s83 t82,⟨some s84,some (s83,true),(.p (.mov t4))⟩,⟨some s85,some (s83,true),(.p (.mov t0))⟩,⟨some s86,some (s83,true),(.p (.mov t1))⟩,⟨some s87,some (s83,true),(.p (.bin .sub eI t86 (ci 1)))⟩,⟨some s88,some (s83,true),(.p (.iad 3 t85 t87))⟩,⟨some s89,some (s83,true),(.r (.ld true 3 t88))⟩,⟨some s90,some (s83,true),(.p (.mov t0))⟩,⟨some s91,some (s83,true),(.p (.mov t13))⟩,⟨some s92,some (s83,true),(.p (.iad 3 t90 t91))⟩,⟨some s93,some (s83,true),(.r (.ld true 3 t92))⟩,⟨some s94,some (s83,true),(.e (.callv t84 [t89,t93]) [])⟩,⟨some s95,some (s83,true),(.p (.bin .lss eI t94 (ci 0)))⟩,⟨some s96,some (s83,true),(.p (.un .not t95))⟩,oP s97 (.pick t83 t96 (.c (.bool false)))]) (.cond t97
 (.seq (.reg [oM s98 t0,oM s99 t1,oM s100 t2,oM s101 t13,oM s102 t4,oC s103 300 [t98,t99,t100,t101,t102],oM s15 t103]) (.seq (.reg [oM s104 t15,oM s1 t104]) (.exit 1)))
 .skip)) (.seq (.reg [oM s106 t0,oM s107 t1,oM s108 t2,oM s109 t13,oM s110 t4,oC s111 301 [t106,t107,t108,t109,t110],oM s105 t111,oE s112 t105 0,oE s113 t105 1,oM s16 t112,oM s17 t113]) (.seq (.reg [oM s114 t17,oM s11 t114]) (.seq (.reg [oM s115 t16,oM s116 t1,oQ s117 .sub t115 t116,oM s118 t2,oM s119 t16,oQ s120 .sub t118 t119,oM s18 t117,oM s19 t120]) (.seq (.reg [oM s121 t12,oQ s122 .quo t121 (ci 8),oM s20 t122]) (.seq (.reg [oM s123 t18,oM s124 t19,oQ s125 .lss t123 t124]) (.cond t125
 (.seq (.reg [oM s126 t18,oM s127 t20,oQ s128 .geq t126 t127,oM s10 t128]) (.seq (.reg [oM s129 t0,oM s130 t1,oM s131 t16,oM s132 t3,oM s133 t4,oC s134 257 [t129,t130,t131,t132,t133]]) (.reg [oM s135 t16,oQ s136 .add t135 (ci 1),oM s1 t136])))
 (.seq (.reg [oM s137 t19,oM s138 t20,oQ s139 .geq t137 t138,oM s10 t139]) (.seq (.reg [oM s140 t0,oM s141 t16,oQ s142 .add t141 (ci 1),oM s143 t2,oM s144 t3,oM s145 t4,oC s146 257 [t140,t142,t143,t144,t145]]) (.reg [oM s147 t16,oM s2 t147]))))))))))))))))))
def f257:FI:=⟨(.seq (.reg [oM s10 (.c (.bool true))]) (.seq (.reg [oM s11 (.c (.bool true))]) (.blk 0 (.loop b257x0)))),0,[],none⟩
def b259x0:AC:=(.seq (.reg [oQ s9 .lss t8 t7]) (.seq (.cond t9
 .skip
 (.exit 0)) (.seq (.blk 1 (.seq (.reg [oM s10 t8,oM s5 t10]) (.seq (.reg [oM s11 t1,oM s12 t0,oM s13 t5,oP s14 (.iad 2 t12 t13),oR s15 (.ld true 2 t14),oX s16 (.callv t11 [t15]) []]) (.cond t16
 (.seq (.reg [oM s17 t5,oM s4 t17]) .ret)
 .skip)))) (.reg [oQ s18 .add t8 (ci 1),oM s8 t18]))))
def f259:FI:=⟨(.seq (.reg [oM s4 (ci 0)]) (.seq (.seq (.reg [oM s6 t0,oP s7 (.len false t6),oM s8 (ci 0)]) (.blk 0 (.loop b259x0))) (.seq (.reg [oM s4 (.c (vj 0))]) .ret))),0,[.t s4],none⟩
def f260:FI:=⟨(.seq (.reg [oX s2 (.box 0 false 245 2 t0) [],oM s3 (.c (.bool false))]) (.seq (.reg [oF s4 0 t2,oL s5 t4,oL s6 t1,oP s7 (.bin .eql eS t5 t6),oM s3 t7]) .ret)),1,[.t s3],none⟩
def b261x0:AC:=(.seq (.reg [oQ s101 .lss t100 t99]) (.seq (.cond t101
 .skip
 (.exit 4)) (.seq (.blk 5 (.seq (.reg [oM s102 t100,oP s103 (.iad 1 t98 t100),oL s104 t103,oM s14 t102,oM s15 t104]) (.reg [oM s105 t0,oM s106 t1,oN s107 t106,oF s108 16 t107,oL s109 t108,oM s110 t14,oP s111 (.iad 1 t109 t110),oG s112 t111,oM s113 t11,oM s114 t10,oM s115 t15,oX s116 (.call 190 [t114,t115]) [(.c t111),(.l t108)],oP s117 (.iad 1 t113 t116),oG s118 t117,oC s119 221 [t105,t112,t118]]))) (.reg [oQ s120 .add t100 (ci 1),oM s100 t120]))))
def b261x1:AC:=(.seq (.reg [oQ s76 .lss t75 t74]) (.seq (.cond t76
 .skip
 (.exit 2)) (.seq (.blk 3 (.seq (.reg [oP s77 (.iad 1 t73 t75),oL s78 t77,oM s13 t78]) (.seq (.reg [oM s79 t10,oM s80 t13,oC s81 145 [t79,t80],oP s82 (.un .not t81)]) (.cond t82
 (.reg [oF s83 0 t5,oR s84 (.ld true 1 t83),oM s85 t13,oC s86 40 [t84,(ci 42),t85]])
 .skip)))) (.reg [oQ s87 .add t75 (ci 1),oM s75 t87]))))
def b261x2:AC:=(.seq (.reg [oQ s50 .lss t49 t48]) (.seq (.cond t50
 .skip
 (.exit 0)) (.seq (.blk 1 (.seq (.reg [oP s51 (.iad 7 t47 t49),oR s52 (.ld true 7 t51),oX s9 (.new 1 false false (.cells 258 [(vi 0),(vi 0),(vi 0),(.str []),vz,vz,vz])) [],oS 7 t9 t52]) (.reg [oM s53 t1,oM s54 t1,oN s55 t54,oF s56 16 t55,oL s57 t56,oM s58 t0,oR s59 (.ld true 7 t9),oX s60 (.call 220 [t58,t59]) [(.l t56)],oP s61 (.bsl 1 1 .nilp [(0,t60)]),oX s62 (.app 2 0 1 .nilp 8 t57 t61) [],oN s63 t53,oF s64 16 t63,oS 1 t64 t62]))) (.reg [oQ s65 .add t49 (ci 1),oM s49 t65]))))
def f261:FI:=⟨(.seq (.reg [oX s5 (.box 0 false 258 7 t2) []]) (.seq (.reg [oM s17 t0,oN s18 t17,oF s19 0 t18,oG s20 t19,oN s21 t20,oF s22 0 t21,oG s23 t22,oN s24 t23,oF s25 0 t24,oG s26 t25,oF s27 3 t5,oL s28 t27,oC s29 173 [t26,t28],oM s16 t29,oE s30 t16 0,oE s31 t16 1,oM s6 t30,oM s7 t31]) (.seq (.seq (.reg [oM s32 t7,oP s33 (.un .not t32)]) (.cond t33
 (.reg [oF s34 0 t5,oR s35 (.ld true 1 t34),oF s36 3 t5,oL s37 t36,oC s38 40 [t35,(ci 21),t37]])
 .skip)) (.seq (.seq (.reg [oM s39 t0,oM s40 t6,oC s41 303 [t39,t40],oQ s42 .neq t41 (ci 6)]) (.cond t42
 (.reg [oF s43 0 t5,oR s44 (.ld true 1 t43),oC s45 40 [t44,(ci 40),(.c (.str []))]])
 .skip)) (.seq (.seq (.reg [oF s46 6 t5,oL s47 t46,oP s48 (.len false t47),oM s49 (ci 0)]) (.blk 0 (.loop b261x2))) (.seq (.reg [oM s66 t0,oM s67 t6,oC s68 304 [t66,t67],oM s69 t0,oM s70 t6,oC s71 305 [t69,t70],oM s10 t68,oM s11 t71]) (.seq (.seq (.reg [oF s72 5 t5,oL s73 t72,oP s74 (.len false t73),oM s75 (ci 0)]) (.blk 2 (.loop b261x1))) (.seq (.seq (.reg [oF s88 5 t5,oL s89 t88,oP s90 (.len false t89),oM s91 t10,oP s92 (.len false t91),oQ s93 .lss t90 t92]) (.cond t93
 (.reg [oF s94 0 t5,oR s95 (.ld true 1 t94),oC s96 40 [t95,(ci 41),(.c (.str []))]])
 .skip)) (.seq (.seq (.reg [oF s97 5 t5,oL s98 t97,oP s99 (.len false t98),oM s100 (ci 0)]) (.blk 4 (.loop b261x0))) (.seq (.reg [oM s121 t1,oM s122 t6,oN s123 t121,oF s124 7 t123,oS 1 t124 t122]) (.seq (.reg [oF s125 1 t5,oG s126 t125,oQ s127 .eql t126 (ci 8)]) (.cond t127
 (.reg [oM s128 t1,oM s129 t1,oN s130 t129,oF s131 8 t130,oG s132 t131,oN s133 t128,oF s134 7 t133,oS 1 t134 t132])
 .skip)))))))))))),2,[],none⟩
def f262:FI:=⟨(.seq (.reg [oM s7 t0,oN s8 t7,oF s9 0 t8,oG s10 t9,oN s11 t10,oF s12 18 t11,oP s13 (.iaa 3 1 t12 (ci 0)),oG s14 t13,oM s15 t0,oN s16 t15,oF s17 0 t16,oG s18 t17,oN s19 t18,oF s20 18 t19,oP s21 (.iaa 3 1 t20 (ci 1)),oG s22 t21,oM s23 t0,oN s24 t23,oF s25 0 t24,oG s26 t25,oN s27 t26,oF s28 18 t27,oP s29 (.iaa 3 1 t28 (ci 2)),oG s30 t29,oM s4 t14,oM s5 t22,oM s6 t30]) (.seq (.reg [oM s31 t1,oN s32 t31,oF s33 0 t32,oF s34 1 t33,oG s35 t34]) (.blk 0 (.seq (.reg [oQ s37 .eql t35 (ci 1),oM s36 t37]) (.cond t36
 (.reg [oM s38 t1,oM s39 t4,oN s40 t38,oF s41 7 t40,oS 1 t41 t39])
 (.seq (.reg [oQ s43 .eql t35 (ci 3),oM s42 t43]) (.cond t42
 (.reg [oM s44 t1,oM s45 t5,oN s46 t44,oF s47 7 t46,oS 1 t47 t45])
 (.seq (.reg [oQ s49 .eql t35 (ci 2),oM s48 t49]) (.cond t48
 (.reg [oM s50 t1,oM s51 t6,oN s52 t50,oF s53 7 t52,oS 1 t53 t51])
 (.seq (.reg [oQ s55 .eql t35 (ci 4),oM s54 t55]) (.cond t54
 (.reg [oM s56 t0,oM s57 t1,oC s58 306 [t56,t57]])
 (.seq (.reg [oQ s60 .eql t35 (ci 5),oM s59 t60]) (.cond t59
 (.seq (.seq (.reg [oM s61 t0,oN s62 t61,oF s63 1 t62,oL s64 t63,oP s65 (.bin .eql eS t64 (.c (.str [])))]) (.cond t65
 (.reg [oM s66 t1,oN s67 t66,oF s68 0 t67,oF s69 0 t68,oR s70 (.ld true 1 t69),oC s71 40 [t70,(ci 45),(.c (.str []))]])
 .skip)) (.reg [oM s73 t1,oM s74 t0,oN s75 t74,oF s76 0 t75,oG s77 t76,oN s78 t77,oF s79 0 t78,oG s80 t79,oN s81 t80,oF s82 0 t81,oG s83 t82,oM s84 t0,oN s85 t84,oF s86 1 t85,oL s87 t86,oC s88 173 [t83,t87],oM s72 t88,oE s89 t72 0,oE s90 t72 1,oN s91 t73,oF s92 7 t91,oS 1 t92 t89]))
 (.seq (.reg [oQ s94 .eql t35 (ci 6),oM s93 t94]) (.cond t93
 (.seq (.seq (.reg [oM s95 t0,oM s96 t1,oN s97 t96,oF s98 8 t97,oG s99 t98,oC s100 303 [t95,t99],oQ s101 .neq t100 (ci 5)]) (.cond t101
 (.reg [oM s102 t1,oN s103 t102,oF s104 0 t103,oF s105 0 t104,oR s106 (.ld true 1 t105),oC s107 40 [t106,(ci 40),(.c (.str []))]])
 .skip)) (.reg [oM s108 t1,oM s109 t1,oN s110 t109,oF s111 8 t110,oG s112 t111,oN s113 t108,oF s114 7 t113,oS 1 t114 t112]))
 (.seq (.reg [oQ s116 .eql t35 (ci 9),oM s115 t116]) (.cond t115
 (.seq (.reg [oM s117 t0,oM s118 t1,oC s119 307 [t117,t118]]) (.seq (.seq (.reg [oM s120 t1,oN s121 t120,oF s122 9 t121,oF s123 1 t122,oG s124 t123,oQ s125 .neq t124 (ci 1)]) (.cond t125
 (.reg [oM s126 t1,oN s127 t126,oF s128 0 t127,oF s129 0 t128,oR s130 (.ld true 1 t129),oM s131 t1,oN s132 t131,oF s133 0 t132,oF s134 3 t133,oL s135 t134,oC s136 40 [t130,(ci 42),t135]])
 .skip)) (.reg [oM s137 t1,oM s138 t1,oN s139 t138,oF s140 9 t139,oF s141 4 t140,oG s142 t141,oN s143 t137,oF s144 7 t143,oS 1 t144 t142])))
 (.seq (.reg [oQ s146 .eql t35 (ci 10),oM s145 t146]) (.cond t145
 (.seq (.reg [oM s147 t0,oM s148 t1,oC s149 307 [t147,t148]]) (.seq (.seq (.reg [oM s150 t1,oN s151 t150,oF s152 9 t151,oF s153 1 t152,oG s154 t153,oQ s155 .eql t154 (ci 1)]) (.cond t155
 (.reg [oM s156 t1,oN s157 t156,oF s158 0 t157,oF s159 0 t158,oR s160 (.ld true 1 t159),oM s161 t1,oN s162 t161,oF s163 0 t162,oF s164 3 t163,oL s165 t164,oC s166 40 [t160,(ci 42),t165]])
 .skip)) (.reg [oM s167 t0,oM s168 t1,oM s169 t1,oN s170 t169,oF s171 9 t170,oF s172 4 t171,oG s173 t172,oC s174 308 [t167,t168,t173]])))
 (.seq (.reg [oQ s176 .eql t35 (ci 11),oM s175 t176]) (.cond t175
 (.seq (.seq (.reg [oM s177 t0,oM s178 t1,oN s179 t178,oF s180 16 t179,oL s181 t180,oP s182 (.iad 1 t181 (ci 0)),oG s183 t182,oN s184 t183,oF s185 7 t184,oG s186 t185,oC s187 303 [t177,t186],oQ s188 .neq t187 (ci 7)]) (.cond t188
 (.reg [oM s189 t1,oN s190 t189,oF s191 16 t190,oL s192 t191,oP s193 (.iad 1 t192 (ci 0)),oG s194 t193,oN s195 t194,oF s196 0 t195,oF s197 0 t196,oR s198 (.ld true 1 t197),oC s199 40 [t198,(ci 40),(.c (.str []))]])
 .skip)) (.reg [oM s200 t0,oM s201 t1,oM s202 t1,oN s203 t202,oF s204 16 t203,oL s205 t204,oP s206 (.iad 1 t205 (ci 0)),oG s207 t206,oN s208 t207,oF s209 7 t208,oG s210 t209,oC s211 308 [t200,t201,t210]]))
 (.seq (.reg [oQ s213 .eql t35 (ci 12),oM s212 t213]) (.cond t212
 (.reg [oM s214 t0,oM s215 t1,oC s216 309 [t214,t215]])
 (.seq (.seq (.reg [oQ s218 .eql t35 (ci 13),oM s217 t218]) (.cond t217
 .skip
 (.seq (.reg [oQ s219 .eql t35 (ci 15),oM s217 t219]) (.cond t217
 .skip
 (.reg [oQ s220 .eql t35 (ci 17),oM s217 t220]))))) (.cond t217
 (.seq (.reg [oM s221 t0,oM s222 t1,oM s223 t4,oC s224 310 [t221,t222,t223]]) (.reg [oM s225 t1,oM s226 t4,oN s227 t225,oF s228 7 t227,oS 1 t228 t226]))
 (.seq (.seq (.reg [oQ s230 .eql t35 (ci 14),oM s229 t230]) (.cond t229
 .skip
 (.seq (.reg [oQ s231 .eql t35 (ci 20),oM s229 t231]) (.cond t229
 .skip
 (.reg [oQ s232 .eql t35 (ci 21),oM s229 t232]))))) (.cond t229
 (.seq (.reg [oM s233 t0,oM s234 t1,oM s235 t5,oC s236 310 [t233,t234,t235]]) (.reg [oM s237 t1,oM s238 t5,oN s239 t237,oF s240 7 t239,oS 1 t240 t238]))
 (.seq (.reg [oQ s242 .eql t35 (ci 16),oM s241 t242]) (.cond t241
 (.seq (.reg [oM s243 t0,oM s244 t1,oM s245 t4,oM s246 t6,oP s247 (.bsl 2 1 (vi 0) [(0,t245),(1,t246)]),oC s248 311 [t243,t244,t247]]) (.reg [oM s249 t1,oM s250 t1,oN s251 t250,oF s252 16 t251,oL s253 t252,oP s254 (.iad 1 t253 (ci 0)),oG s255 t254,oN s256 t255,oF s257 7 t256,oG s258 t257,oN s259 t249,oF s260 7 t259,oS 1 t260 t258]))
 (.seq (.reg [oQ s262 .eql t35 (ci 18),oM s261 t262]) (.cond t261
 (.seq (.reg [oM s263 t0,oM s264 t1,oM s265 t4,oM s266 t6,oM s267 t5,oP s268 (.bsl 3 1 (vi 0) [(0,t265),(1,t266),(2,t267)]),oC s269 311 [t263,t264,t268]]) (.reg [oM s270 t1,oM s271 t5,oN s272 t270,oF s273 7 t272,oS 1 t273 t271]))
 (.seq (.reg [oQ s275 .eql t35 (ci 19),oM s274 t275]) (.cond t274
 (.seq (.reg [oM s276 t0,oM s277 t1,oM s278 t4,oM s279 t6,oP s280 (.bsl 2 1 (vi 0) [(0,t278),(1,t279)]),oC s281 311 [t276,t277,t280]]) (.reg [oM s282 t1,oM s283 t5,oN s284 t282,oF s285 7 t284,oS 1 t285 t283]))
 .skip))))))))))))))))))))))))))))))))),0,[],none⟩
def f263:FI:=⟨(.seq (.reg [oM s6 (.c (.bool false))]) (.seq (.reg [oM s10 t0,oN s11 t10,oF s12 0 t11,oG s13 t12,oN s14 t13,oF s15 0 t14,oG s16 t15,oN s17 t16,oF s18 1 t17,oG s19 t18,oM s20 t1,oM s21 t2,oC s22 120 [t19,t20,t21],oM s9 t22,oE s23 t9 0,oE s24 t9 1,oM s7 t23,oM s8 t24]) (.seq (.reg [oM s25 t7,oM s6 t25]) .ret))),0,[.t s6],none⟩
def f267:FI:=⟨(.seq (.reg [oM s2 (.c (.bool false))]) (.seq (.reg [oM s3 t0,oM s4 t0,oP s5 (.bin .neq eS t3 t4),oM s2 t5]) .ret)),0,[.t s2],none⟩
def f268:FI:=⟨(.seq (.reg [oM s2 (.c (.str []))]) (.seq (.seq (.reg [oM s3 t0,oQ s4 .lss t3 (ci 10)]) (.cond t4
 (.seq (.reg [oM s5 t0,oM s6 t0,oQ s7 .add t6 (ci 1),oP s8 (.sls true 0 (.c (.str [48,49,50,51,52,53,54,55,56,57,97,98,99,100,101,102,103,104,105,106,107,108,109,110,111,112,113,114,115,116,117,118,119,120,121,122])) (some t5) (some t7) none),oM s2 t8]) .ret)
 .skip)) (.seq (.reg [oM s9 t0,oQ s10 .mul t9 (ci 2),oM s11 t0,oQ s12 .mul t11 (ci 2),oQ s13 .add t12 (ci 2),oP s14 (.sls true 0 (.c (.str [48,48,48,49,48,50,48,51,48,52,48,53,48,54,48,55,48,56,48,57,49,48,49,49,49,50,49,51,49,52,49,53,49,54,49,55,49,56,49,57,50,48,50,49,50,50,50,51,50,52,50,53,50,54,50,55,50,56,50,57,51,48,51,49,51,50,51,51,51,52,51,53,51,54,51,55,51,56,51,57,52,48,52,49,52,50,52,51,52,52,52,53,52,54,52,55,52,56,52,57,53,48,53,49,53,50,53,51,53,52,53,53,53,54,53,55,53,56,53,57,54,48,54,49,54,50,54,51,54,52,54,53,54,54,54,55,54,56,54,57,55,48,55,49,55,50,55,51,55,52,55,53,55,54,55,55,55,56,55,57,56,48,56,49,56,50,56,51,56,52,56,53,56,54,56,55,56,56,56,57,57,48,57,49,57,50,57,51,57,52,57,53,57,54,57,55,57,56,57,57])) (some t10) (some t13) none),oM s2 t14]) .ret))),0,[.t s2],none⟩
def f269:FI:=⟨(.seq (.reg [oM s2 (ci 0)]) (.seq (.reg [oM s4 t0,oC s5 202 [t4],oC s6 313 [t5],oM s3 t6]) (.seq (.reg [oM s7 t3,oM s8 t0,oM s9 t3,oP s10 (.iaa 20 1 (.c (.vp g2 0)) t9),oG s11 t10,oQ s12 .geq t8 t11,oC s13 314 [t12],oQ s14 .add t7 t13,oM s2 t14]) .ret))),0,[.t s2],none⟩
def b270x0:AC:=(.seq (.seq (.reg [oM s19 t4,oQ s20 .geq t19 (ci 8)]) (.cond t20
 .skip
 (.exit 0))) (.blk 1 (.seq (.reg [oM s21 t1,oQ s22 .rem t21 (.c (.int .u64 (.ofNat 100000000))),oP s23 (.cvi .u32 t22),oM s5 t23]) (.seq (.reg [oM s24 t1,oQ s25 .quo t24 (.c (.int .u64 (.ofNat 100000000))),oM s1 t25]) (.seq (.reg [oM s26 t5,oQ s27 .quo t26 (.c (.int .u32 (.ofNat 10000))),oM s28 t5,oQ s29 .rem t28 (.c (.int .u32 (.ofNat 10000))),oM s6 t27,oM s7 t29]) (.seq (.reg [oM s30 t7,oQ s31 .quo t30 (.c (.int .u32 (.ofNat 100))),oQ s32 .mul t31 (.c (.int .u32 (.ofNat 2))),oM s33 t7,oQ s34 .rem t33 (.c (.int .u32 (.ofNat 100))),oQ s35 .mul t34 (.c (.int .u32 (.ofNat 2))),oM s8 t32,oM s9 t35]) (.seq (.reg [oM s36 t6,oQ s37 .quo t36 (.c (.int .u32 (.ofNat 100))),oQ s38 .mul t37 (.c (.int .u32 (.ofNat 2))),oM s39 t6,oQ s40 .rem t39 (.c (.int .u32 (.ofNat 100))),oQ s41 .mul t40 (.c (.int .u32 (.ofNat 2))),oM s10 t38,oM s11 t41]) (.seq (.reg [oM s42 t0,oM s43 t4,oQ s44 .sub t43 (ci 1),oM s45 t0,oM s46 t4,oQ s47 .sub t46 (ci 2),oM s48 t9,oQ s49 .add t48 (.c (.int .u32 (.ofNat 1))),oP s50 (.ixs (.c (.str [48,48,48,49,48,50,48,51,48,52,48,53,48,54,48,55,48,56,48,57,49,48,49,49,49,50,49,51,49,52,49,53,49,54,49,55,49,56,49,57,50,48,50,49,50,50,50,51,50,52,50,53,50,54,50,55,50,56,50,57,51,48,51,49,51,50,51,51,51,52,51,53,51,54,51,55,51,56,51,57,52,48,52,49,52,50,52,51,52,52,52,53,52,54,52,55,52,56,52,57,53,48,53,49,53,50,53,51,53,52,53,53,53,54,53,55,53,56,53,57,54,48,54,49,54,50,54,51,54,52,54,53,54,54,54,55,54,56,54,57,55,48,55,49,55,50,55,51,55,52,55,53,55,54,55,55,55,56,55,57,56,48,56,49,56,50,56,51,56,52,56,53,56,54,56,55,56,56,56,57,57,48,57,49,57,50,57,51,57,52,57,53,57,54,57,55,57,56,57,57])) t49),oM s51 t9,oP s52 (.ixs (.c (.str [48,48,48,49,48,50,48,51,48,52,48,53,48,54,48,55,48,56,48,57,49,48,49,49,49,50,49,51,49,52,49,53,49,54,49,55,49,56,49,57,50,48,50,49,50,50,50,51,50,52,50,53,50,54,50,55,50,56,50,57,51,48,51,49,51,50,51,51,51,52,51,53,51,54,51,55,51,56,51,57,52,48,52,49,52,50,52,51,52,52,52,53,52,54,52,55,52,56,52,57,53,48,53,49,53,50,53,51,53,52,53,53,53,54,53,55,53,56,53,57,54,48,54,49,54,50,54,51,54,52,54,53,54,54,54,55,54,56,54,57,55,48,55,49,55,50,55,51,55,52,55,53,55,54,55,55,55,56,55,57,56,48,56,49,56,50,56,51,56,52,56,53,56,54,56,55,56,56,56,57,57,48,57,49,57,50,57,51,57,52,57,53,57,54,57,55,57,56,57,57])) t51),oP s53 (.iad 1 t42 t44),oS 1 t53 t50,oP s54 (.iad 1 t45 t47),oS 1 t54 t52]) (.seq (.reg [oM s55 t0,oM s56 t4,oQ s57 .sub t56 (ci 3),oM s58 t0,oM s59 t4,oQ s60 .sub t59 (ci 4),oM s61 t8,oQ s62 .add t61 (.c (.int .u32 (.ofNat 1))),oP s63 (.ixs (.c (.str [48,48,48,49,48,50,48,51,48,52,48,53,48,54,48,55,48,56,48,57,49,48,49,49,49,50,49,51,49,52,49,53,49,54,49,55,49,56,49,57,50,48,50,49,50,50,50,51,50,52,50,53,50,54,50,55,50,56,50,57,51,48,51,49,51,50,51,51,51,52,51,53,51,54,51,55,51,56,51,57,52,48,52,49,52,50,52,51,52,52,52,53,52,54,52,55,52,56,52,57,53,48,53,49,53,50,53,51,53,52,53,53,53,54,53,55,53,56,53,57,54,48,54,49,54,50,54,51,54,52,54,53,54,54,54,55,54,56,54,57,55,48,55,49,55,50,55,51,55,52,55,53,55,54,55,55,55,56,55,57,56,48,56,49,56,50,56,51,56,52,56,53,56,54,56,55,56,56,56,57,57,48,57,49,57,50,57,51,57,52,57,53,57,54,57,55,57,56,57,57])) t62),oM s64 t8,oP s65 (.ixs (.c (.str [48,48,48,49,48,50,48,51,48,52,48,53,48,54,48,55,48,56,48,57,49,48,49,49,49,50,49,51,49,52,49,53,49,54,49,55,49,56,49,57,50,48,50,49,50,50,50,51,50,52,50,53,50,54,50,55,50,56,50,57,51,48,51,49,51,50,51,51,51,52,51,53,51,54,51,55,51,56,51,57,52,48,52,49,52,50,52,51,52,52,52,53,52,54,52,55,52,56,52,57,53,48,53,49,53,50,53,51,53,52,53,53,53,54,53,55,53,56,53,57,54,48,54,49,54,50,54,51,54,52,54,53,54,54,54,55,54,56,54,57,55,48,55,49,55,50,55,51,55,52,55,53,55,54,55,55,55,56,55,57,56,48,56,49,56,50,56,51,56,52,56,53,56,54,56,55,56,56,56,57,57,48,57,49,57,50,57,51,57,52,57,53,57,54,57,55,57,56,57,57])) t64),oP s66 (.iad 1 t55 t57),oS 1 t66 t63,oP s67 (.iad 1 t58 t60),oS 1 t67 t65]) (.seq (.reg [oM s68 t0,oM s69 t4,oQ s70 .sub t69 (ci 5),oM s71 t0,oM s72 t4,oQ s73 .sub t72 (ci 6),oM s74 t11,oQ s75 .add t74 (.c (.int .u32 (.ofNat 1))),oP s76 (.ixs (.c (.str [48,48,48,49,48,50,48,51,48,52,48,53,48,54,48,55,48,56,48,57,49,48,49,49,49,50,49,51,49,52,49,53,49,54,49,55,49,56,49,57,50,48,50,49,50,50,50,51,50,52,50,53,50,54,50,55,50,56,50,57,51,48,51,49,51,50,51,51,51,52,51,53,51,54,51,55,51,56,51,57,52,48,52,49,52,50,52,51,52,52,52,53,52,54,52,55,52,56,52,57,53,48,53,49,53,50,53,51,53,52,53,53,53,54,53,55,53,56,53,57,54,48,54,49,54,50,54,51,54,52,54,53,54,54,54,55,54,56,54,57,55,48,55,49,55,50,55,51,55,52,55,53,55,54,55,55,55,56,55,57,56,48,56,49,56,50,56,51,56,52,56,53,56,54,56,55,56,56,56,57,57,48,57,49,57,50,57,51,57,52,57,53,57,54,57,55,57,56,57,57])) t75),oM s77 t11,oP s78 (.ixs (.c (.str [48,48,48,49,48,50,48,51,48,52,48,53,48,54,48,55,48,56,48,57,49,48,49,49,49,50,49,51,49,52,49,53,49,54,49,55,49,56,49,57,50,48,50,49,50,50,50,51,50,52,50,53,50,54,50,55,50,56,50,57,51,48,51,49,51,50,51,51,51,52,51,53,51,54,51,55,51,56,51,57,52,48,52,49,52,50,52,51,52,52,52,53,52,54,52,55,52,56,52,57,53,48,53,49,53,50,53,51,53,52,53,53,53,54,53,55,53,56,53,57,54,48,54,49,54,50,54,51,54,52,54,53,54,54,54,55,54,56,54,57,55,48,55,49,55,50,55,51,55,52,55,53,55,54,55,55,55,56,55,57,56,48,56,49,56,50,56,51,56,52,56,53,56,54,56,55,56,56,56,57,57,48,57,49,57,50,57,51,57,52,57,53,57,54,57,55,57,56,57,57])) t77),oP s79 (.iad 1 t68 t70),oS 1 t79 t76,oP s80 (.iad 1 t71 t73),oS 1 t80 t78]) (.seq (.reg [oM s81 t0,oM s82 t4,oQ s83 .sub t82 (ci 7),oM s84 t0,oM s85 t4,oQ s86 .sub t85 (ci 8),oM s87 t10,oQ s88 .add t87 (.c (.int .u32 (.ofNat 1))),oP s89 (.ixs (.c (.str [48,48,48,49,48,50,48,51,48,52,48,53,48,54,48,55,48,56,48,57,49,48,49,49,49,50,49,51,49,52,49,53,49,54,49,55,49,56,49,57,50,48,50,49,50,50,50,51,50,52,50,53,50,54,50,55,50,56,50,57,51,48,51,49,51,50,51,51,51,52,51,53,51,54,51,55,51,56,51,57,52,48,52,49,52,50,52,51,52,52,52,53,52,54,52,55,52,56,52,57,53,48,53,49,53,50,53,51,53,52,53,53,53,54,53,55,53,56,53,57,54,48,54,49,54,50,54,51,54,52,54,53,54,54,54,55,54,56,54,57,55,48,55,49,55,50,55,51,55,52,55,53,55,54,55,55,55,56,55,57,56,48,56,49,56,50,56,51,56,52,56,53,56,54,56,55,56,56,56,57,57,48,57,49,57,50,57,51,57,52,57,53,57,54,57,55,57,56,57,57])) t88),oM s90 t10,oP s91 (.ixs (.c (.str [48,48,48,49,48,50,48,51,48,52,48,53,48,54,48,55,48,56,48,57,49,48,49,49,49,50,49,51,49,52,49,53,49,54,49,55,49,56,49,57,50,48,50,49,50,50,50,51,50,52,50,53,50,54,50,55,50,56,50,57,51,48,51,49,51,50,51,51,51,52,51,53,51,54,51,55,51,56,51,57,52,48,52,49,52,50,52,51,52,52,52,53,52,54,52,55,52,56,52,57,53,48,53,49,53,50,53,51,53,52,53,53,53,54,53,55,53,56,53,57,54,48,54,49,54,50,54,51,54,52,54,53,54,54,54,55,54,56,54,57,55,48,55,49,55,50,55,51,55,52,55,53,55,54,55,55,55,56,55,57,56,48,56,49,56,50,56,51,56,52,56,53,56,54,56,55,56,56,56,57,57,48,57,49,57,50,57,51,57,52,57,53,57,54,57,55,57,56,57,57])) t90),oP s92 (.iad 1 t81 t83),oS 1 t92 t89,oP s93 (.iad 1 t84 t86),oS 1 t93 t91]) (.reg [oM s94 t4,oQ s95 .sub t94 (ci 8),oM s4 t95]))))))))))))
def f270:FI:=⟨(.seq (.reg [oM s17 t0,oP s18 (.len false t17),oM s4 t18]) (.seq (.blk 0 (.loop b270x0)) (.seq (.reg [oM s96 t1,oP s97 (.cvi .u32 t96),oM s12 t97]) (.seq (.seq (.reg [oM s98 t4,oQ s99 .geq t98 (ci 4)]) (.cond t99
 (.seq (.reg [oM s100 t12,oQ s101 .rem t100 (.c (.int .u32 (.ofNat 10000))),oM s13 t101]) (.seq (.reg [oM s102 t12,oQ s103 .quo t102 (.c (.int .u32 (.ofNat 10000))),oM s12 t103]) (.seq (.reg [oM s104 t13,oQ s105 .quo t104 (.c (.int .u32 (.ofNat 100))),oQ s106 .mul t105 (.c (.int .u32 (.ofNat 2))),oM s107 t13,oQ s108 .rem t107 (.c (.int .u32 (.ofNat 100))),oQ s109 .mul t108 (.c (.int .u32 (.ofNat 2))),oM s14 t106,oM s15 t109]) (.seq (.reg [oM s110 t0,oM s111 t4,oQ s112 .sub t111 (ci 1),oM s113 t0,oM s114 t4,oQ s115 .sub t114 (ci 2),oM s116 t15,oQ s117 .add t116 (.c (.int .u32 (.ofNat 1))),oP s118 (.ixs (.c (.str [48,48,48,49,48,50,48,51,48,52,48,53,48,54,48,55,48,56,48,57,49,48,49,49,49,50,49,51,49,52,49,53,49,54,49,55,49,56,49,57,50,48,50,49,50,50,50,51,50,52,50,53,50,54,50,55,50,56,50,57,51,48,51,49,51,50,51,51,51,52,51,53,51,54,51,55,51,56,51,57,52,48,52,49,52,50,52,51,52,52,52,53,52,54,52,55,52,56,52,57,53,48,53,49,53,50,53,51,53,52,53,53,53,54,53,55,53,56,53,57,54,48,54,49,54,50,54,51,54,52,54,53,54,54,54,55,54,56,54,57,55,48,55,49,55,50,55,51,55,52,55,53,55,54,55,55,55,56,55,57,56,48,56,49,56,50,56,51,56,52,56,53,56,54,56,55,56,56,56,57,57,48,57,49,57,50,57,51,57,52,57,53,57,54,57,55,57,56,57,57])) t117),oM s119 t15,oP s120 (.ixs (.c (.str [48,48,48,49,48,50,48,51,48,52,48,53,48,54,48,55,48,56,48,57,49,48,49,49,49,50,49,51,49,52,49,53,49,54,49,55,49,56,49,57,50,48,50,49,50,50,50,51,50,52,50,53,50,54,50,55,50,56,50,57,51,48,51,49,51,50,51,51,51,52,51,53,51,54,51,55,51,56,51,57,52,48,52,49,52,50,52,51,52,52,52,53,52,54,52,55,52,56,52,57,53,48,53,49,53,50,53,51,53,52,53,53,53,54,53,55,53,56,53,57,54,48,54,49,54,50,54,51,54,52,54,53,54,54,54,55,54,56,54,57,55,48,55,49,55,50,55,51,55,52,55,53,55,54,55,55,55,56,55,57,56,48,56,49,56,50,56,51,56,52,56,53,56,54,56,55,56,56,56,57,57,48,57,49,57,50,57,51,57,52,57,53,57,54,57,55,57,56,57,57])) t119),oP s121 (.iad 1 t110 t112),oS 1 t121 t118,oP s122 (.iad 1 t113 t115),oS 1 t122 t120]) (.seq (.reg [oM s123 t0,oM s124 t4,oQ s125 .sub t124 (ci 3),oM s126 t0,oM s127 t4,oQ s128 .sub t127 (ci 4),oM s129 t14,oQ s130 .add t129 (.c (.int .u32 (.ofNat 1))),oP s131 (.ixs (.c (.str [48,48,48,49,48,50,48,51,48,52,48,53,48,54,48,55,48,56,48,57,49,48,49,49,49,50,49,51,49,52,49,53,49,54,49,55,49,56,49,57,50,48,50,49,50,50,50,51,50,52,50,53,50,54,50,55,50,56,50,57,51,48,51,49,51,50,51,51,51,52,51,53,51,54,51,55,51,56,51,57,52,48,52,49,52,50,52,51,52,52,52,53,52,54,52,55,52,56,52,57,53,48,53,49,53,50,53,51,53,52,53,53,53,54,53,55,53,56,53,57,54,48,54,49,54,50,54,51,54,52,54,53,54,54,54,55,54,56,54,57,55,48,55,49,55,50,55,51,55,52,55,53,55,54,55,55,55,56,55,57,56,48,56,49,56,50,56,51,56,52,56,53,56,54,56,55,56,56,56,57,57,48,57,49,57,50,57,51,57,52,57,53,57,54,57,55,57,56,57,57])) t130),oM s132 t14,oP s133 (.ixs (.c (.str [48,48,48,49,48,50,48,51,48,52,48,53,48,54,48,55,48,56,48,57,49,48,49,49,49,50,49,51,49,52,49,53,49,54,49,55,49,56,49,57,50,48,50,49,50,50,50,51,50,52,50,53,50,54,50,55,50,56,50,57,51,48,51,49,51,50,51,51,51,52,51,53,51,54,51,55,51,56,51,57,52,48,52,49,52,50,52,51,52,52,52,53,52,54,52,55,52,56,52,57,53,48,53,49,53,50,53,51,53,52,53,53,53,54,53,55,53,56,53,57,54,48,54,49,54,50,54,51,54,52,54,53,54,54,54,55,54,56,54,57,55,48,55,49,55,50,55,51,55,52,55,53,55,54,55,55,55,56,55,57,56,48,56,49,56,50,56,51,56,52,56,53,56,54,56,55,56,56,56,57,57,48,57,49,57,50,57,51,57,52,57,53,57,54,57,55,57,56,57,57])) t132),oP s134 (.iad 1 t123 t125),oS 1 t134 t131,oP s135 (.iad 1 t126 t128),oS 1 t135 t133]) (.reg [oM s136 t4,oQ s137 .sub t136 (ci 4),oM s4 t137]))))))
 .skip)) (.seq (.seq (.reg [oM s138 t4,oQ s139 .geq t138 (ci 2)]) (.cond t139
 (.seq (.reg [oM s140 t12,oQ s141 .rem t140 (.c (.int .u32 (.ofNat 100))),oQ s142 .mul t141 (.c (.int .u32 (.ofNat 2))),oM s16 t142]) (.seq (.reg [oM s143 t12,oQ s144 .quo t143 (.c (.int .u32 (.ofNat 100))),oM s12 t144]) (.seq (.reg [oM s145 t0,oM s146 t4,oQ s147 .sub t146 (ci 1),oM s148 t0,oM s149 t4,oQ s150 .sub t149 (ci 2),oM s151 t16,oQ s152 .add t151 (.c (.int .u32 (.ofNat 1))),oP s153 (.ixs (.c (.str [48,48,48,49,48,50,48,51,48,52,48,53,48,54,48,55,48,56,48,57,49,48,49,49,49,50,49,51,49,52,49,53,49,54,49,55,49,56,49,57,50,48,50,49,50,50,50,51,50,52,50,53,50,54,50,55,50,56,50,57,51,48,51,49,51,50,51,51,51,52,51,53,51,54,51,55,51,56,51,57,52,48,52,49,52,50,52,51,52,52,52,53,52,54,52,55,52,56,52,57,53,48,53,49,53,50,53,51,53,52,53,53,53,54,53,55,53,56,53,57,54,48,54,49,54,50,54,51,54,52,54,53,54,54,54,55,54,56,54,57,55,48,55,49,55,50,55,51,55,52,55,53,55,54,55,55,55,56,55,57,56,48,56,49,56,50,56,51,56,52,56,53,56,54,56,55,56,56,56,57,57,48,57,49,57,50,57,51,57,52,57,53,57,54,57,55,57,56,57,57])) t152),oM s154 t16,oP s155 (.ixs (.c (.str [48,48,48,49,48,50,48,51,48,52,48,53,48,54,48,55,48,56,48,57,49,48,49,49,49,50,49,51,49,52,49,53,49,54,49,55,49,56,49,57,50,48,50,49,50,50,50,51,50,52,50,53,50,54,50,55,50,56,50,57,51,48,51,49,51,50,51,51,51,52,51,53,51,54,51,55,51,56,51,57,52,48,52,49,52,50,52,51,52,52,52,53,52,54,52,55,52,56,52,57,53,48,53,49,53,50,53,51,53,52,53,53,53,54,53,55,53,56,53,57,54,48,54,49,54,50,54,51,54,52,54,53,54,54,54,55,54,56,54,57,55,48,55,49,55,50,55,51,55,52,55,53,55,54,55,55,55,56,55,57,56,48,56,49,56,50,56,51,56,52,56,53,56,54,56,55,56,56,56,57,57,48,57,49,57,50,57,51,57,52,57,53,57,54,57,55,57,56,57,57])) t154),oP s156 (.iad 1 t145 t147),oS 1 t156 t153,oP s157 (.iad 1 t148 t150),oS 1 t157 t155]) (.reg [oM s158 t4,oQ s159 .sub t158 (ci 2),oM s4 t159]))))
 .skip)) (.seq (.reg [oM s160 t4,oQ s161 .gtr t160 (ci 0)]) (.cond t161
 (.reg [oM s162 t0,oM s163 t12,oQ s164 .add (.c (.int .u32 (.ofNat 48))) t163,oP s165 (.cvi .u8 t164),oP s166 (.iad 1 t162 (ci 0)),oS 1 t166 t165])
 .skip))))))),0,[],none⟩
def b271x0:AC:=(.seq (.seq (.reg [oM s66 t1,oM s67 t17,oQ s68 .geq t66 t67]) (.cond t68
 .skip
 (.exit 2))) (.blk 3 (.seq (.reg [oM s69 t13,oQ s70 .sub t69 (ci 1),oM s13 t70]) (.seq (.reg [oM s71 t1,oM s72 t17,oQ s73 .quo t71 t72,oM s18 t73]) (.seq (.reg [oM s74 t13,oM s75 t1,oM s76 t18,oM s77 t17,oQ s78 .mul t76 t77,oQ s79 .sub t75 t78,oP s80 (.ixs (.c (.str [48,49,50,51,52,53,54,55,56,57,97,98,99,100,101,102,103,104,105,106,107,108,109,110,111,112,113,114,115,116,117,118,119,120,121,122])) t79),oP s81 (.iaa 65 1 t12 t74),oS 1 t81 t80]) (.reg [oM s82 t18,oM s1 t82]))))))
def b271x1:AC:=(.seq (.seq (.reg [oM s44 t1,oM s45 t15,oQ s46 .geq t44 t45]) (.cond t46
 .skip
 (.exit 0))) (.blk 1 (.seq (.reg [oM s47 t13,oQ s48 .sub t47 (ci 1),oM s13 t48]) (.seq (.reg [oM s49 t13,oM s50 t1,oM s51 t16,oQ s52 .and t50 t51,oP s53 (.ixs (.c (.str [48,49,50,51,52,53,54,55,56,57,97,98,99,100,101,102,103,104,105,106,107,108,109,110,111,112,113,114,115,116,117,118,119,120,121,122])) t52),oP s54 (.iaa 65 1 t12 t49),oS 1 t54 t53]) (.reg [oM s55 t1,oM s56 t14,oQ s57 .shr t55 t56,oM s1 t57])))))
def f271:FI:=⟨(.seq (.reg [oM s10 (.c vz),oM s11 (.c (.str []))]) (.seq (.seq (.reg [oM s19 t2,oQ s20 .lss t19 (ci 2),oM s21 t20,⟨some s22,some (s21,false),(.p (.mov t2))⟩,⟨some s23,some (s21,false),(.p (.bin .eql eI t22 (ci 10)))⟩,oP s24 (.pick t21 (.c (.bool true)) t23),oM s25 t24,⟨some s26,some (s25,false),(.p (.mov t2))⟩,⟨some s27,some (s25,false),(.p (.bin .gtr eI t26 (ci 36)))⟩,oP s28 (.pick t25 (.c (.bool true)) t27)]) (.cond t28
 (.reg [oP s29 (.ifc 9 (.c (.str [115,116,114,99,111,110,118,58,32,105,108,108,101,103,97,108,32,65,112,112,101,110,100,73,110,116,47,70,111,114,109,97,116,73,110,116,32,98,97,115,101]))),oY (.pan t29) []])
 .skip)) (.seq (.reg [oX s12 (.new 0 false false (.cells 435 [(vu 0),(vu 0),(vu 0),(vu 0),(vu 0),(vu 0),(vu 0),(vu 0),(vu 0),(vu 0),(vu 0),(vu 0),(vu 0),(vu 0),(vu 0),(vu 0),(vu 0),(vu 0),(vu 0),(vu 0),(vu 0),(vu 0),(vu 0),(vu 0),(vu 0),(vu 0),(vu 0),(vu 0),(vu 0),(vu 0),(vu 0),(vu 0),(vu 0),(vu 0),(vu 0),(vu 0),(vu 0),(vu 0),(vu 0),(vu 0),(vu 0),(vu 0),(vu 0),(vu 0),(vu 0),(vu 0),(vu 0),(vu 0),(vu 0),(vu 0),(vu 0),(vu 0),(vu 0),(vu 0),(vu 0),(vu 0),(vu 0),(vu 0),(vu 0),(vu 0),(vu 0),(vu 0),(vu 0),(vu 0),(vu 0)])) []]) (.seq (.reg [oM s13 (ci 65)]) (.seq (.seq (.reg [oM s30 t3]) (.cond t30
 (.reg [oM s31 t1,oP s32 (.un .neg t31),oM s1 t32])
 .skip)) (.seq (.seq (.reg [oM s33 t2,oC s34 315 [t33]]) (.cond t34
 (.seq (.reg [oM s35 t2,oP s36 (.cvi .u64 t35),oC s37 316 [t36],oP s38 (.cvi .u64 t37),oM s14 t38]) (.seq (.reg [oM s39 t2,oP s40 (.cvi .u64 t39),oM s15 t40]) (.seq (.reg [oM s41 t2,oP s42 (.cvi .u64 t41),oQ s43 .sub t42 (.c (.int .u64 (.ofNat 1))),oM s16 t43]) (.seq (.blk 0 (.loop b271x1)) (.seq (.reg [oM s58 t13,oQ s59 .sub t58 (ci 1),oM s13 t59]) (.reg [oM s60 t13,oM s61 t1,oP s62 (.ixs (.c (.str [48,49,50,51,52,53,54,55,56,57,97,98,99,100,101,102,103,104,105,106,107,108,109,110,111,112,113,114,115,116,117,118,119,120,121,122])) t61),oP s63 (.iaa 65 1 t12 t60),oS 1 t63 t62]))))))
 (.seq (.reg [oM s64 t2,oP s65 (.cvi .u64 t64),oM s17 t65]) (.seq (.blk 2 (.loop b271x0)) (.seq (.reg [oM s83 t13,oQ s84 .sub t83 (ci 1),oM s13 t84]) (.reg [oM s85 t13,oM s86 t1,oP s87 (.ixs (.c (.str [48,49,50,51,52,53,54,55,56,57,97,98,99,100,101,102,103,104,105,106,107,108,109,110,111,112,113,114,115,116,117,118,119,120,121,122])) t86),oP s88 (.iaa 65 1 t12 t85),oS 1 t88 t87])))))) (.seq (.seq (.reg [oM s89 t3]) (.cond t89
 (.seq (.reg [oM s90 t13,oQ s91 .sub t90 (ci 1),oM s13 t91]) (.reg [oM s92 t13,oP s93 (.iaa 65 1 t12 t92),oS 1 t93 (cu 45)]))
 .skip)) (.seq (.seq (.reg [oM s94 t4]) (.cond t94
 (.seq (.reg [oM s95 t0,oM s96 t13,oP s97 (.sla 65 t12 (some t96) none),oX s98 (.app 1 0 1 (vu 0) 1 t95 t97) [],oM s10 t98]) .ret)
 .skip)) (.seq (.reg [oM s99 t13,oP s100 (.sla 65 t12 (some t99) none),oR s101 (.b2s t100),oM s11 t101]) .ret))))))))),1,[.t s10,.t s11],none⟩
end Go.Abs.Run
namespace Go.Abs.Run
open Go Go.Abs Go.Proofs
def b272x0:AC:=(.seq (.seq (.reg [oM s13 t7,oM s14 t8,oQ s15 .lss t13 t14]) (.cond t15
 .skip
 (.exit 0))) (.blk 1 (.seq (.reg [oM s16 t7,oM s17 t8,oQ s18 .add t16 t17,oP s19 (.cvi .u64 t18),oQ s20 .shr t19 (.c (.int .u64 (.ofNat 1))),oP s21 (.cvi .i64 t20),oM s9 t21]) (.seq (.reg [oM s22 t0,oM s23 t9,oP s24 (.iad 1 t22 t23),oL s25 t24,oM s26 t1,oC s27 228 [t25,t26]]) (.cond t27
 (.reg [oM s28 t9,oQ s29 .add t28 (ci 1),oM s7 t29])
 (.reg [oM s30 t9,oM s8 t30]))))))
def f272:FI:=⟨(.seq (.reg [oM s4 (ci 0),oM s5 (.c (.bool false))]) (.seq (.reg [oM s10 t0,oP s11 (.len false t10),oM s6 t11]) (.seq (.reg [oM s12 t6,oM s7 (ci 0),oM s8 t12]) (.seq (.blk 0 (.loop b272x0)) (.seq (.reg [oM s31 t7,oM s32 t7,oM s33 t6,oQ s34 .lss t32 t33,oM s35 t34,⟨some s36,some (s35,true),(.p (.mov t0))⟩,⟨some s37,some (s35,true),(.p (.mov t7))⟩,⟨some s38,some (s35,true),(.p (.iad 1 t36 t37))⟩,⟨some s39,some (s35,true),(.r (.ld false 1 t38))⟩,⟨some s40,some (s35,true),(.p (.mov t1))⟩,⟨some s41,some (s35,true),(.p (.bin .eql eS t39 t40))⟩,⟨some s42,some (s35,true),(.p (.mov t41))⟩,⟨some s43,some (s42,false),(.p (.mov t0))⟩,⟨some s44,some (s42,false),(.p (.mov t7))⟩,⟨some s45,some (s42,false),(.p (.iad 1 t43 t44))⟩,⟨some s46,some (s42,false),(.r (.ld false 1 t45))⟩,⟨some s47,some (s42,false),(.e (.call 317 [t46]) [])⟩,⟨some s48,some (s42,false),(.p (.mov t47))⟩,⟨some s49,some (s48,true),(.p (.mov t1))⟩,⟨some s50,some (s48,true),(.e (.call 317 [t49]) [])⟩,⟨some s51,some (s42,false),(.p (.pick t48 t50 (.c (.bool false))))⟩,⟨some s52,some (s35,true),(.p (.pick t42 (.c (.bool true)) t51))⟩,oP s53 (.pick t35 t52 (.c (.bool false))),oM s4 t31,oM s5 t53]) .ret))))),0,[.t s4,.t s5],none⟩
def f273:FI:=⟨(.seq (.reg [oX s4 (.new 0 false false (.cells 406 [.nilp,.nilp])) [],oM s5 (.c (.bool false))]) (.seq (.seq (.reg [oM s6 t0,oP s7 (.bin .eql .ptr t6 (.c .nilp)),oM s8 t7,⟨some s9,some (s8,false),(.p (.mov t1))⟩,⟨some s10,some (s8,false),(.p (.bin .lss eI t9 (ci 0)))⟩,oP s11 (.pick t8 (.c (.bool true)) t10),oM s12 t11,⟨some s13,some (s12,false),(.p (.mov t1))⟩,⟨some s14,some (s12,false),(.p (.mov t0))⟩,⟨some s15,some (s12,false),(.e (.call 51 [t14]) [])⟩,⟨some s16,some (s12,false),(.p (.bin .geq eI t13 t15))⟩,oP s17 (.pick t12 (.c (.bool true)) t16)]) (.cond t17
 (.seq (.reg [oP s18 (.bld [.nilp,.nilp] []),oS 2 t4 t18,oM s5 (.c (.bool false))]) .ret)
 .skip)) (.seq (.reg [oM s19 t0,oM s20 t0,oC s21 50 [t20],oP s22 (.bld [.nilp,.nilp] [(0,1,t19),(1,1,t21)]),oS 2 t4 t22,oM s5 (.c (.bool true))]) .ret))),1,[.c true 2 s4,.t s5],none⟩
def f274:FI:=⟨(.seq (.reg [oX s3 (.box 0 false 406 2 t0) [],oX s5 (.box 1 false 9 1 t2) [],oX s6 (.new 2 false false (.cells 260 [vz,(vi 0),(.str []),(.str []),(vi 0)])) [],oM s7 (.c vz)]) (.seq (.reg [oX s8 (.new 3 false false (.cells 260 [vz,(vi 0),(.str []),(.str []),(vi 0)])) []]) (.seq (.reg [oX s9 (.new 4 false false (.cells 68 [vz])) []]) (.seq (.reg [oX s10 (.new 5 false false (.cells 4 [(.bool false)])) [],oS 1 t10 (.c (.bool false))]) (.seq (.reg [oR s11 (.ld true 2 t3),oM s12 t1,oP s13 (.mkf 319 [] [t5,t9,t8,t10]),oC s14 318 [t11,t12,t13]]) (.seq (.seq (.reg [oG s15 t10,oP s16 (.un .not t15)]) (.cond t16
 (.seq (.reg [oP s17 (.bld [vz,(vi 0),(.str []),(.str []),(vi 0)] []),oS 5 t6 t17,oM s7 (.c vz)]) .ret)
 .skip)) (.seq (.reg [oR s18 (.ld true 5 t8),oL s19 t9,oY (.st 5 t6 t18) [(.l t9)],oM s7 t19]) .ret))))))),6,[.c true 5 s6,.t s7],none⟩
def f275:FI:=⟨(.seq (.reg [oX s1 (.box 0 false 260 5 t0) [],oX s2 (.new 1 false false (.cells 260 [vz,(vi 0),(.str []),(.str []),(vi 0)])) []]) (.seq (.reg [oP s3 (.bsl 0 1 (.str []) []),oF s4 0 t1,oL s5 t4,oX s6 (.app 2 0 1 (.str []) 16 t3 t5) [],oF s7 0 t1,oS 1 t7 t6]) (.seq (.reg [oR s8 (.ld true 5 t1),oS 5 t2 t8]) .ret))),2,[.c true 5 s2],none⟩
def f276:FI:=⟨(.seq (.reg [oM s4 (ci 0)]) (.seq (.reg [oM s8 t0,oN s9 t8,oF s10 0 t9,oG s11 t10,oM s12 t1,oC s13 52 [t11,t12],oM s7 t13,oE s14 t7 0,oE s15 t7 1,oM s5 t14,oM s6 t15]) (.seq (.reg [oM s16 t0,oN s17 t16,oF s18 1 t17,oG s19 t18,oM s20 t5,oC s21 53 [t19,t20],oM s4 t21]) .ret))),0,[.t s4],none⟩
def b277x0:AC:=(.seq (.reg [oQ s31 .lss t30 t29]) (.seq (.cond t31
 .skip
 (.exit 0)) (.seq (.blk 1 (.seq (.reg [oM s32 t30,oP s33 (.iad 1 t28 t30),oL s34 t33,oM s10 t32,oM s11 t34]) (.seq (.reg [oM s36 t0,oP s37 (.iaa 2 1 t3 (ci 0)),oG s38 t37,oC s39 320 [t36,t38],oM s40 t11,oR s41 (.lku false [.s] true (vi 0) t39 t40),oM s35 t41,oE s42 t35 0,oE s43 t35 1,oM s12 t42,oM s13 t43]) (.seq (.seq (.reg [oM s44 t13,oP s45 (.un .not t44)]) (.cond t45
 (.seq (.reg [oM s4 (.c vz),oM s5 (.c (.bool false))]) .ret)
 .skip)) (.reg [oM s46 t9,oM s47 t12,oM s48 t8,oM s49 t10,oP s50 (.iad 1 t48 t49),oG s51 t50,oP s52 (.bld [(vi 0),(vi 0)] [(0,1,t47),(1,1,t51)]),oM s53 t11,oP s54 (.bld [(vi 0),(vi 0),(.str [])] [(0,2,t52),(2,1,t53)]),oP s55 (.bsl 1 3 (.agg [(vi 0),(vi 0),(.str [])]) [(0,t54)]),oX s56 (.app 1 0 3 (.agg [(vi 0),(vi 0),(.str [])]) 32 t46 t55) [],oM s9 t56]))))) (.reg [oQ s57 .add t30 (ci 1),oM s30 t57]))))
def f277:FI:=⟨(.seq (.reg [oX s3 (.box 0 false 325 2 t1) [],oM s4 (.c vz),oM s5 (.c (.bool false))]) (.seq (.reg [oM s15 t0,oP s16 (.iaa 2 1 t3 (ci 1)),oG s17 t16,oC s18 280 [t15,t17],oM s14 t18,oE s19 t14 0,oE s20 t14 1,oM s6 t19,oM s7 t20]) (.seq (.reg [oM s21 t0,oN s22 t21,oF s23 0 t22,oG s24 t23,oP s25 (.iaa 2 1 t3 (ci 1)),oG s26 t25,oC s27 279 [t24,t26],oM s8 t27]) (.seq (.reg [oM s9 (.c vz)]) (.seq (.seq (.reg [oM s28 t6,oP s29 (.len false t28),oM s30 (ci 0)]) (.blk 0 (.loop b277x0))) (.seq (.reg [oM s58 t9,oM s4 t58,oM s5 (.c (.bool true))]) .ret)))))),1,[.t s4,.t s5],none⟩
def f278:FI:=⟨(.seq (.reg [oM s4 (.c (.str []))]) (.seq (.reg [oM s8 t0,oM s9 t1,oC s10 104 [t8,t9],oM s7 t10,oE s11 t7 0,oE s12 t7 1,oX s5 (.new 0 false false (.cells 232 [(vi 0),(.str []),vz,vz])) [],oS 4 t5 t11,oM s6 t12]) (.seq (.reg [oF s13 0 t5,oF s14 1 t13,oL s15 t14,oM s4 t15]) .ret))),1,[.t s4],none⟩
def f279:FI:=⟨(.seq (.reg [oM s4 (.c vz)]) (.seq (.reg [oM s8 t0,oM s9 t1,oC s10 104 [t8,t9],oM s7 t10,oE s11 t7 0,oE s12 t7 1,oX s5 (.new 0 false false (.cells 232 [(vi 0),(.str []),vz,vz])) [],oS 4 t5 t11,oM s6 t12]) (.seq (.reg [oP s13 (.bsl 0 1 (vi 0) []),oF s14 0 t5,oF s15 2 t14,oL s16 t15,oX s17 (.app 1 0 1 (vi 0) 8 t13 t16) [],oM s4 t17]) .ret))),1,[.t s4],none⟩
def b280x0:AC:=(.seq (.reg [oQ s36 .lss t35 t34]) (.seq (.cond t36
 .skip
 (.exit 0)) (.seq (.blk 1 (.seq (.reg [oM s37 t35,oP s38 (.iad 1 t33 t35),oG s39 t38,oM s10 t37,oM s11 t39]) (.reg [oM s40 t9,oM s41 t8,oM s42 t10,oP s43 (.iad 1 t41 t42),oL s44 t43,oM s45 t11,oY (.mup false [.s] t40 t44 t45) []]))) (.reg [oQ s46 .add t35 (ci 1),oM s35 t46]))))
def f280:FI:=⟨(.seq (.reg [oM s4 (.c vz),oM s5 (.c .nilm)]) (.seq (.reg [oM s13 t0,oN s14 t13,oF s15 0 t14,oG s16 t15,oM s17 t1,oC s18 52 [t16,t17],oM s12 t18,oE s19 t12 0,oE s20 t12 1,oM s6 t19,oM s7 t20]) (.seq (.reg [oM s21 t0,oN s22 t21,oF s23 1 t22,oG s24 t23,oM s25 t6,oC s26 105 [t24,t25],oM s8 t26]) (.seq (.reg [oX s27 (.new 0 true true (.map [])) [],oM s9 t27]) (.seq (.seq (.reg [oM s28 t0,oN s29 t28,oF s30 1 t29,oG s31 t30,oM s32 t6,oC s33 214 [t31,t32],oP s34 (.len false t33),oM s35 (ci 0)]) (.blk 0 (.loop b280x0))) (.seq (.reg [oM s47 t8,oC s48 106 [t47]]) (.seq (.reg [oM s49 t8,oM s50 t9,oM s4 t49,oM s5 t50]) .ret))))))),1,[.t s4,.t s5],none⟩
def f281:FI:=⟨(.seq (.reg [oX s4 (.new 0 false false (.cells 258 [(vi 0),(vi 0),(vi 0),(.str []),vz,vz,vz])) []]) (.seq (.reg [oP s9 (.bld [(vi 0),(vi 0),(vi 0),(.str []),vz,vz,vz] []),oX s5 (.new 1 false false (.cells 258 [(vi 0),(vi 0),(vi 0),(.str []),vz,vz,vz])) [],oS 7 t5 t9]) (.seq (.reg [oM s10 t0,oC s11 32 [t10],oF s12 0 t5,oF s13 0 t12,oS 1 t13 t11]) (.seq (.reg [oM s14 t0,oC s15 63 [t14,(ci 4)],oM s16 t15,⟨some s17,some (s16,false),(.p (.mov t0))⟩,⟨some s18,some (s16,false),(.e (.call 63 [t17,(ci 5)]) [])⟩,oP s19 (.pick t16 (.c (.bool true)) t18),oM s20 t19,⟨some s21,some (s20,false),(.p (.mov t0))⟩,⟨some s22,some (s20,false),(.e (.call 63 [t21,(ci 1)]) [])⟩,oP s23 (.pick t20 (.c (.bool true)) t22),oM s24 t23,⟨some s25,some (s24,false),(.p (.mov t0))⟩,⟨some s26,some (s24,false),(.e (.call 63 [t25,(ci 2)]) [])⟩,oP s27 (.pick t24 (.c (.bool true)) t26),oM s28 t27,⟨some s29,some (s28,false),(.p (.mov t0))⟩,⟨some s30,some (s28,false),(.e (.call 19 [t29,(.c (.str [116,114,117,101]))]) [])⟩,oP s31 (.pick t28 (.c (.bool true)) t30),oM s32 t31,⟨some s33,some (s32,false),(.p (.mov t0))⟩,⟨some s34,some (s32,false),(.e (.call 19 [t33,(.c (.str [102,97,108,115,101]))]) [])⟩,oP s35 (.pick t32 (.c (.bool true)) t34),oM s36 t35,⟨some s37,some (s36,false),(.p (.mov t0))⟩,⟨some s38,some (s36,false),(.e (.call 19 [t37,(.c (.str [115,101,108,102]))]) [])⟩,oP s39 (.pick t36 (.c (.bool true)) t38),oM s40 t39,⟨some s41,some (s40,false),(.p (.mov t0))⟩,⟨some s42,some (s40,false),(.e (.call 19 [t41,(.c (.str [110,105,108]))]) [])⟩,oP s43 (.pick t40 (.c (.bool true)) t42),oM s44 t43,⟨some s45,some (s44,false),(.p (.mov t0))⟩,⟨some s46,some (s44,false),(.e (.call 19 [t45,(.c (.str [110,101,119]))]) [])⟩,oP s47 (.pick t44 (.c (.bool true)) t46),oM s48 t47,⟨some s49,some (s48,false),(.p (.mov t0))⟩,⟨some s50,some (s48,false),(.e (.call 19 [t49,(.c (.str [40]))]) [])⟩,oP s51 (.pick t48 (.c (.bool true)) t50),oM s52 t51,⟨some s53,some (s52,false),(.p (.mov t0))⟩,⟨some s54,some (s52,false),(.e (.call 19 [t53,(.c (.str [45]))]) [])⟩,oP s55 (.pick t52 (.c (.bool true)) t54),oM s56 t55,⟨some s57,some (s56,false),(.p (.mov t0))⟩,⟨some s58,some (s56,false),(.e (.call 19 [t57,(.c (.str [110,111,116]))]) [])⟩,oP s59 (.pick t56 (.c (.bool true)) t58),oM s6 t59]) (.seq (.seq (.reg [oM s60 t6,oP s61 (.un .not t60)]) (.cond t61
 (.seq (.reg [oM s62 t0,oC s63 38 [t62,(ci 13)]]) (.seq (.reg [oR s64 (.ld true 7 t5),oS 7 t4 t64]) .ret))
 .skip)) (.seq (.seq (.reg [oM s65 t1,oQ s66 .gtr t65 (ci 64)]) (.cond t66
 (.seq (.reg [oM s67 t0,oC s68 38 [t67,(ci 15)]]) (.seq (.reg [oR s69 (.ld true 7 t5),oS 7 t4 t69]) .ret))
 .skip)) (.seq (.reg [oM s70 t0,oN s71 t70,oF s72 0 t71,oL s73 t72,oM s74 t0,oN s75 t74,oF s76 2 t75,oG s77 t76,oP s78 (.iad 4 t73 t77),oR s79 (.ld true 4 t78),oX s7 (.new 2 false false (.cells 114 [(vi 0),(vi 0),(.str []),(vi 0)])) [(.l t78),(.c t76),(.l t72)],oS 4 t7 t79]) (.seq (.seq (.reg [oF s80 1 t7,oG s81 t80,oQ s82 .eql t81 (ci 2)]) (.cond t82
 (.seq (.reg [oM s83 t0,oR s84 (.ld true 7 t5),oM s85 t1,oC s86 321 [t83,t84,(ci 7),t85],oS 7 t4 t86]) .ret)
 .skip)) (.seq (.reg [oM s87 t0,oN s88 t87,oF s89 2 t88,oG s90 t89,oQ s91 .add t90 (ci 1),oN s92 t87,oF s93 2 t92,oS 1 t93 t91]) (.seq (.blk 0 (.seq (.reg [oF s95 1 t7,oG s96 t95,oQ s97 .eql t96 (ci 4),oM s94 t97]) (.cond t94
 (.seq (.reg [oF s98 1 t5,oS 1 t98 (ci 1)]) (.reg [oF s99 3 t7,oG s100 t99,oF s101 2 t5,oS 1 t101 t100]))
 (.seq (.reg [oF s103 1 t7,oG s104 t103,oQ s105 .eql t104 (ci 5),oM s102 t105]) (.cond t102
 (.seq (.reg [oF s106 1 t5,oS 1 t106 (ci 2)]) (.reg [oF s107 2 t7,oL s108 t107,oF s109 3 t5,oS 1 t109 t108]))
 (.seq (.reg [oF s111 1 t7,oG s112 t111,oQ s113 .eql t112 (ci 1),oM s110 t113]) (.cond t110
 (.seq (.reg [oF s114 1 t5,oS 1 t114 (ci 4)]) (.reg [oF s115 2 t7,oL s116 t115,oF s117 3 t5,oS 1 t117 t116]))
 (.seq (.reg [oF s119 2 t7,oL s120 t119,oP s121 (.bin .eql eS t120 (.c (.str [116,114,117,101]))),oM s122 t121,⟨some s123,some (s122,false),(.p (.fad 2 t7))⟩,⟨some s124,some (s122,false),(.r (.ld false 1 t123))⟩,⟨some s125,some (s122,false),(.p (.bin .eql eS t124 (.c (.str [102,97,108,115,101]))))⟩,oP s126 (.pick t122 (.c (.bool true)) t125),oM s118 t126]) (.cond t118
 (.seq (.reg [oF s127 1 t5,oS 1 t127 (ci 3)]) (.seq (.reg [oF s128 2 t7,oL s129 t128,oP s130 (.bin .eql eS t129 (.c (.str [116,114,117,101])))]) (.cond t130
 (.reg [oF s131 2 t5,oS 1 t131 (ci 1)])
 .skip)))
 (.seq (.reg [oF s133 2 t7,oL s134 t133,oP s135 (.bin .eql eS t134 (.c (.str [115,101,108,102]))),oM s132 t135]) (.cond t132
 (.reg [oF s136 1 t5,oS 1 t136 (ci 5)])
 (.seq (.reg [oF s138 2 t7,oL s139 t138,oP s140 (.bin .eql eS t139 (.c (.str [110,105,108]))),oM s137 t140]) (.cond t137
 (.seq (.reg [oF s141 1 t5,oS 1 t141 (ci 6)]) (.reg [oM s142 t0,oC s143 35 [t142,(ci 1)],oP s144 (.bsl 1 5 (.agg [(vi 0),(.str []),vz,vz,vz]) [(0,t143)]),oF s145 4 t5,oS 1 t145 t144]))
 (.seq (.reg [oF s147 2 t7,oL s148 t147,oP s149 (.bin .eql eS t148 (.c (.str [110,101,119]))),oM s146 t149]) (.cond t146
 (.seq (.reg [oM s150 t0,oR s151 (.ld true 7 t5),oM s152 t1,oC s153 321 [t150,t151,(ci 8),t152],oS 7 t4 t153]) .ret)
 (.seq (.reg [oF s155 2 t7,oL s156 t155,oP s157 (.bin .eql eS t156 (.c (.str [40]))),oM s154 t157]) (.cond t154
 (.seq (.reg [oM s158 t0,oM s159 t1,oQ s160 .add t159 (ci 1),oC s161 133 [t158,(ci 1),t160],oX s8 (.new 3 false false (.cells 258 [(vi 0),(vi 0),(vi 0),(.str []),vz,vz,vz])) [],oS 7 t8 t161]) (.seq (.reg [oM s162 t0,oC s163 33 [t162,(.c (.str [41]))]]) (.seq (.reg [oR s164 (.ld true 7 t8),oS 7 t4 t164]) .ret)))
 .skip))))))))))))))))) (.seq (.reg [oR s165 (.ld true 7 t5),oS 7 t4 t165]) .ret))))))))))),4,[.c true 7 s4],none⟩
def b282x0:AC:=(.seq (.seq (.reg [oM s12 t0,oN s13 t12,oF s14 3 t13,oG s15 t14,oQ s16 .eql t15 (ci 0),oM s17 t16,⟨some s18,some (s17,true),(.p (.mov t0))⟩,⟨some s19,some (s17,true),(.e (.call 19 [t18,(.c (.str [41]))]) [])⟩,⟨some s20,some (s17,true),(.p (.un .not t19))⟩,oP s21 (.pick t17 t20 (.c (.bool false)))]) (.cond t21
 .skip
 (.exit 0))) (.blk 1 (.seq (.seq (.reg [oM s22 t1,oP s23 (.len false t22),oM s24 t7,oQ s25 .gtr t23 t24]) (.cond t25
 (.reg [oM s26 t0,oC s27 33 [t26,(.c (.str [44]))]])
 .skip)) (.reg [oM s28 t1,oM s29 t0,oM s30 t2,oQ s31 .add t30 (ci 1),oC s32 133 [t29,(ci 1),t31],oP s33 (.bsl 1 7 (.agg [(vi 0),(vi 0),(vi 0),(.str []),vz,vz,vz]) [(0,t32)]),oX s34 (.app 0 0 7 (.agg [(vi 0),(vi 0),(vi 0),(.str []),vz,vz,vz]) 112 t28 t33) [],oM s1 t34]))))
def f282:FI:=⟨(.seq (.reg [oM s6 (.c vz)]) (.seq (.reg [oM s8 t1,oP s9 (.len false t8),oM s7 t9]) (.seq (.reg [oM s10 t0,oC s11 33 [t10,(.c (.str [40]))]]) (.seq (.blk 0 (.loop b282x0)) (.seq (.reg [oM s35 t0,oC s36 33 [t35,(.c (.str [41]))]]) (.seq (.reg [oM s37 t1,oM s6 t37]) .ret)))))),0,[.t s6],none⟩
def f283:FI:=⟨(.seq (.reg [oX s1 (.box 0 false 114 4 t0) [],oM s2 (.c (.str [])),oM s3 (.c (.bool false))]) (.seq (.reg [oM s4 (.c (.str []))]) (.seq (.seq (.reg [oF s8 1 t1,oG s9 t8]) (.blk 0 (.seq (.seq (.reg [oQ s11 .eql t9 (ci 1),oM s10 t11]) (.cond t10
 .skip
 (.seq (.reg [oQ s12 .eql t9 (ci 2),oM s10 t12]) (.cond t10
 .skip
 (.seq (.reg [oQ s13 .eql t9 (ci 3),oM s10 t13]) (.cond t10
 .skip
 (.reg [oQ s14 .eql t9 (ci 6),oM s10 t14]))))))) (.cond t10
 (.reg [oF s15 2 t1,oL s16 t15,oM s4 t16])
 (.seq (.reg [oQ s18 .eql t9 (ci 4),oM s17 t18]) (.cond t17
 (.seq (.seq (.reg [oF s19 3 t1,oG s20 t19,oQ s21 .lss t20 (ci 0)]) (.cond t21
 (.seq (.reg [oM s2 (.c (.str [])),oM s3 (.c (.bool false))]) .ret)
 .skip)) (.reg [oF s22 3 t1,oG s23 t22,oC s24 108 [t23],oM s4 t24]))
 (.seq (.reg [oQ s26 .eql t9 (ci 5),oM s25 t26]) (.cond t25
 (.reg [oF s27 2 t1,oL s28 t27,oC s29 285 [t28],oM s4 t29])
 (.seq (.reg [oM s2 (.c (.str [])),oM s3 (.c (.bool false))]) .ret))))))))) (.seq (.reg [oM s30 t4,oP s31 (.bld [(.str []),(vi 0)] [(0,1,t30)]),oX s32 (.box 1 false 449 2 t31) [],oM s5 t32]) (.seq (.seq (.reg [oM s33 t4,oP s34 (.bin .eql eS t33 (.c (.str []))),oM s35 t34,⟨some s36,some (s35,false),(.p (.mov t4))⟩,⟨some s37,some (s35,false),(.p (.ixs t36 (ci 0)))⟩,⟨some s38,some (s35,false),(.e (.call 322 [t37]) [])⟩,⟨some s39,some (s35,false),(.p (.un .not t38))⟩,oP s40 (.pick t35 (.c (.bool true)) t39)]) (.cond t40
 (.seq (.reg [oM s2 (.c (.str [])),oM s3 (.c (.bool false))]) .ret)
 .skip)) (.seq (.reg [oM s42 t5,oC s43 323 [t42],oM s41 t43,oE s44 t41 0,oE s45 t41 1,oX s6 (.new 2 false false (.cells 114 [(vi 0),(vi 0),(.str []),(vi 0)])) [],oS 4 t6 t44,oM s7 t45]) (.seq (.reg [oP s46 (.bld [(vi 0)] []),oF s47 0 t1,oS 1 t47 t46]) (.seq (.reg [oM s48 t4,oM s49 t7,oP s50 (.bin .eql .ptr t49 (.c .nilp)),oM s51 t50,⟨some s52,some (s51,true),(.p (.mov t5))⟩,⟨some s53,some (s51,true),(.p (.nilc t52))⟩,⟨some s54,some (s51,true),(.p (.fad 1 t53))⟩,⟨some s55,some (s51,true),(.r (.ldc t54))⟩,⟨some s56,some (s51,true),(.p (.mov t4))⟩,⟨some s57,some (s51,true),(.p (.len true t56))⟩,⟨some s58,some (s51,true),(.p (.bin .eql eI t55 t57))⟩,oP s59 (.pick t51 t58 (.c (.bool false))),oM s60 t59,⟨some s61,some (s60,true),(.r (.ld true 4 t6))⟩,⟨some s62,some (s60,true),(.r (.ld true 4 t1))⟩,⟨some s63,some (s60,true),(.p (.bin .eql (.cells true [.i,.i,.s,.i]) t61 t62))⟩,oP s64 (.pick t60 t63 (.c (.bool false))),oM s2 t48,oM s3 t64]) .ret)))))))),3,[.t s2,.t s3],none⟩
def b284x0:AC:=(.seq (.reg [oQ s129 .lss t128 t127]) (.seq (.cond t129
 .skip
 (.exit 0)) (.seq (.blk 1 (.seq (.reg [oM s130 t128,oP s131 (.iad 7 t126 t128),oR s132 (.ld true 7 t131),oX s9 (.new 2 false false (.cells 258 [(vi 0),(vi 0),(vi 0),(.str []),vz,vz,vz])) [],oM s8 t130,oS 7 t9 t132]) (.seq (.reg [oR s133 (.ld true 7 t9),oM s134 t1,oF s135 1 t2,oG s136 t135,oM s137 t8,oX s138 (.call 326 [t136,t137]) [(.l t9)],oQ s139 .sub t134 t138,oC s140 284 [t133,t139],oP s141 (.un .not t140)]) (.cond t141
 (.seq (.reg [oM s4 (.c (.bool false))]) .ret)
 .skip)))) (.reg [oQ s142 .add t128 (ci 1),oM s128 t142]))))
def f284:FI:=⟨(.seq (.reg [oX s2 (.box 0 false 258 7 t0) [],oM s4 (.c (.bool false))]) (.seq (.reg [oF s11 1 t2,oG s12 t11,oC s13 324 [t12],oM s10 t13,oE s14 t10 0,oE s15 t10 1,oX s5 (.new 1 false false (.cells 454 [(vi 0),(.bool false),(.bool false),(.bool false),(vi 0),(vi 0)])) [],oS 6 t5 t14,oM s6 t15]) (.seq (.seq (.reg [oM s16 t6,oP s17 (.un .not t16),oM s18 t17,⟨some s19,some (s18,false),(.p (.mov t1))⟩,⟨some s20,some (s18,false),(.p (.bin .eql eI t19 (ci 0)))⟩,oP s21 (.pick t18 (.c (.bool true)) t20),oM s22 t21,⟨some s23,some (s22,false),(.r (.ld true 6 t5))⟩,⟨some s24,some (s22,false),(.p (.fad 3 t2))⟩,⟨some s25,some (s22,false),(.r (.ld false 1 t24))⟩,⟨some s26,some (s22,false),(.e (.call 325 [t23,t25]) [])⟩,⟨some s27,some (s22,false),(.p (.un .not t26))⟩,oP s28 (.pick t22 (.c (.bool true)) t27),oM s29 t28,⟨some s30,some (s29,false),(.p (.fad 1 t5))⟩,⟨some s31,some (s29,false),(.r (.ldc t30))⟩,⟨some s32,some (s29,false),(.p (.un .not t31))⟩,⟨some s33,some (s29,false),(.p (.mov t32))⟩,⟨some s34,some (s33,true),(.p (.fad 2 t2))⟩,⟨some s35,some (s33,true),(.r (.ldc t34))⟩,⟨some s36,some (s33,true),(.p (.bin .neq eI t35 (ci 0)))⟩,⟨some s37,some (s29,false),(.p (.pick t33 t36 (.c (.bool false))))⟩,oP s38 (.pick t29 (.c (.bool true)) t37),oM s39 t38,⟨some s40,some (s39,false),(.p (.fad 2 t2))⟩,⟨some s41,some (s39,false),(.r (.ldc t40))⟩,⟨some s42,some (s39,false),(.p (.bin .lss eI t41 (ci 0)))⟩,oP s43 (.pick t39 (.c (.bool true)) t42),oM s44 t43,⟨some s45,some (s44,false),(.p (.fad 1 t2))⟩,⟨some s46,some (s44,false),(.r (.ldc t45))⟩,⟨some s47,some (s44,false),(.p (.bin .eql eI t46 (ci 3)))⟩,⟨some s48,some (s44,false),(.p (.mov t47))⟩,⟨some s49,some (s48,true),(.p (.fad 2 t2))⟩,⟨some s50,some (s48,true),(.r (.ldc t49))⟩,⟨some s51,some (s48,true),(.p (.bin .gtr eI t50 (ci 1)))⟩,⟨some s52,some (s44,false),(.p (.pick t48 t51 (.c (.bool false))))⟩,oP s53 (.pick t44 (.c (.bool true)) t52)]) (.cond t53
 (.seq (.reg [oM s4 (.c (.bool false))]) .ret)
 .skip)) (.seq (.seq (.reg [oF s54 2 t5,oG s55 t54,oF s56 4 t2,oL s57 t56,oP s58 (.len false t57),oQ s59 .eql t58 (ci 1),oP s60 (.bin .neq eB t55 t59),oM s61 t60,⟨some s62,some (s61,false),(.p (.fad 2 t5))⟩,⟨some s63,some (s61,false),(.r (.ldc t62))⟩,⟨some s64,some (s61,false),(.p (.un .not t63))⟩,⟨some s65,some (s61,false),(.p (.mov t64))⟩,⟨some s66,some (s65,true),(.p (.fad 4 t2))⟩,⟨some s67,some (s65,true),(.r (.ld false 1 t66))⟩,⟨some s68,some (s65,true),(.p (.len false t67))⟩,⟨some s69,some (s65,true),(.p (.bin .gtr eI t68 (ci 0)))⟩,⟨some s70,some (s61,false),(.p (.pick t65 t69 (.c (.bool false))))⟩,oP s71 (.pick t61 (.c (.bool true)) t70),oM s72 t71,⟨some s73,some (s72,false),(.p (.fad 2 t5))⟩,⟨some s74,some (s72,false),(.r (.ldc t73))⟩,⟨some s75,some (s72,false),(.p (.mov t74))⟩,⟨some s76,some (s75,true),(.p (.fad 4 t2))⟩,⟨some s77,some (s75,true),(.r (.ld false 1 t76))⟩,⟨some s78,some (s75,true),(.p (.iad 5 t77 (ci 0)))⟩,⟨some s79,some (s75,true),(.r (.ld true 5 t78))⟩,⟨some s80,some (s75,true),(.e (.call 135 [t79,(ci 64)]) [])⟩,⟨some s81,some (s75,true),(.p (.un .not t80))⟩,⟨some s82,some (s72,false),(.p (.pick t75 t81 (.c (.bool false))))⟩,oP s83 (.pick t72 (.c (.bool true)) t82)]) (.cond t83
 (.seq (.reg [oM s4 (.c (.bool false))]) .ret)
 .skip)) (.seq (.reg [oF s84 6 t2,oL s85 t84,oP s86 (.len false t85),oM s7 t86]) (.seq (.seq (.reg [oF s87 3 t5,oG s88 t87,oM s89 t88,⟨some s90,some (s89,true),(.p (.mov t7))⟩,⟨some s91,some (s89,true),(.p (.fad 5 t2))⟩,⟨some s92,some (s89,true),(.r (.ld false 1 t91))⟩,⟨some s93,some (s89,true),(.p (.len false t92))⟩,⟨some s94,some (s89,true),(.p (.bin .neq eI t90 t93))⟩,⟨some s95,some (s89,true),(.p (.mov t94))⟩,⟨some s96,some (s95,false),(.p (.fad 5 t2))⟩,⟨some s97,some (s95,false),(.r (.ld false 1 t96))⟩,⟨some s98,some (s95,false),(.e (.call 186 [t97]) [])⟩,⟨some s99,some (s95,false),(.p (.un .not t98))⟩,⟨some s100,some (s89,true),(.p (.pick t95 (.c (.bool true)) t99))⟩,oP s101 (.pick t89 t100 (.c (.bool false))),oM s102 t101,⟨some s103,some (s102,false),(.p (.fad 3 t5))⟩,⟨some s104,some (s102,false),(.r (.ldc t103))⟩,⟨some s105,some (s102,false),(.p (.un .not t104))⟩,⟨some s106,some (s102,false),(.p (.mov t105))⟩,⟨some s107,some (s106,true),(.p (.fad 5 t2))⟩,⟨some s108,some (s106,true),(.r (.ld false 1 t107))⟩,⟨some s109,some (s106,true),(.p (.len false t108))⟩,⟨some s110,some (s106,true),(.p (.bin .gtr eI t109 (ci 0)))⟩,⟨some s111,some (s102,false),(.p (.pick t106 t110 (.c (.bool false))))⟩,oP s112 (.pick t102 (.c (.bool true)) t111),oM s113 t112,⟨some s114,some (s113,false),(.p (.mov t7))⟩,⟨some s115,some (s113,false),(.p (.fad 4 t5))⟩,⟨some s116,some (s113,false),(.r (.ldc t115))⟩,⟨some s117,some (s113,false),(.p (.bin .lss eI t114 t116))⟩,oP s118 (.pick t113 (.c (.bool true)) t117),oM s119 t118,⟨some s120,some (s119,false),(.p (.mov t7))⟩,⟨some s121,some (s119,false),(.p (.fad 5 t5))⟩,⟨some s122,some (s119,false),(.r (.ldc t121))⟩,⟨some s123,some (s119,false),(.p (.bin .gtr eI t120 t122))⟩,oP s124 (.pick t119 (.c (.bool true)) t123)]) (.cond t124
 (.seq (.reg [oM s4 (.c (.bool false))]) .ret)
 .skip)) (.seq (.seq (.reg [oF s125 6 t2,oL s126 t125,oP s127 (.len false t126),oM s128 (ci 0)]) (.blk 0 (.loop b284x0))) (.seq (.reg [oM s4 (.c (.bool true))]) .ret)))))))),3,[.t s4],none⟩
def b285x0:AC:=(.seq (.reg [oQ s9 .lss t8 t7]) (.seq (.cond t9
 .skip
 (.exit 0)) (.seq (.blk 1 (.seq (.reg [oM s10 t8,oM s4 t10]) (.seq (.reg [oM s11 t0,oM s12 t4,oP s13 (.ixs t11 t12)]) (.blk 2 (.seq (.reg [oQ s19 .eql t13 (cu 10),oM s18 t19]) (.cond t18
 (.reg [oC s20 107 [t3,(.c (.str [92,110]))]])
 (.seq (.seq (.reg [oQ s22 .eql t13 (cu 34),oM s21 t22]) (.cond t21
 .skip
 (.reg [oQ s23 .eql t13 (cu 92),oM s21 t23]))) (.cond t21
 (.seq (.reg [oC s24 110 [t3,(cu 92)]]) (.reg [oM s25 t0,oM s26 t4,oP s27 (.ixs t25 t26),oC s28 110 [t3,t27]]))
 (.reg [oM s14 t0,oM s15 t4,oP s16 (.ixs t14 t15),oC s17 110 [t3,t16]]))))))))) (.reg [oQ s29 .add t8 (ci 1),oM s8 t29]))))
def f285:FI:=⟨(.seq (.reg [oM s2 (.c (.str []))]) (.seq (.reg [oX s3 (.new 0 false false (.cells 150 [.nilp,vz])) []]) (.seq (.reg [oC s5 110 [t3,(cu 34)]]) (.seq (.seq (.reg [oM s6 t0,oP s7 (.len true t6),oM s8 (ci 0)]) (.blk 0 (.loop b285x0))) (.seq (.reg [oC s30 110 [t3,(cu 34)]]) (.seq (.reg [oC s31 56 [t3],oM s2 t31]) .ret)))))),1,[.t s2],none⟩
def b286x0:AC:=(.seq (.reg [oQ s25 .lss t24 t23]) (.seq (.cond t25
 .skip
 (.exit 0)) (.seq (.blk 1 (.seq (.reg [oM s26 t24,oP s27 (.iad 7 t22 t24),oR s28 (.ld true 7 t27),oX s5 (.new 1 false false (.cells 258 [(vi 0),(vi 0),(vi 0),(.str []),vz,vz,vz])) [],oM s4 t26,oS 7 t5 t28]) (.seq (.reg [oM s29 t0,oM s30 t4,oC s31 139 [t29,t30]]) (.seq (.reg [oM s32 t0,oN s33 t32,oF s34 0 t33,oF s35 5 t3,oL s36 t35,oM s37 t4,oP s38 (.iad 1 t36 t37),oL s39 t38,oP s40 (.bsl 2 1 (.str []) [(0,t39),(1,(.c (.str [58])))]),oC s41 70 [t34,t40]]) (.reg [oM s42 t0,oR s43 (.ld true 7 t5),oC s44 243 [t42,t43]]))))) (.reg [oQ s45 .add t24 (ci 1),oM s24 t45]))))
def f286:FI:=⟨(.seq (.reg [oX s3 (.box 0 false 258 7 t1) []]) (.seq (.seq (.reg [oF s6 1 t3,oG s7 t6,oQ s8 .eql t7 (ci 8)]) (.cond t8
 (.reg [oM s9 t0,oN s10 t9,oF s11 0 t10,oP s12 (.bsl 1 1 (.str []) [(0,(.c (.str [110,101,119])))]),oC s13 70 [t11,t12]])
 .skip)) (.seq (.reg [oM s14 t0,oN s15 t14,oF s16 0 t15,oF s17 3 t3,oL s18 t17,oP s19 (.bsl 2 1 (.str []) [(0,t18),(1,(.c (.str [123])))]),oC s20 70 [t16,t19]]) (.seq (.seq (.reg [oF s21 6 t3,oL s22 t21,oP s23 (.len false t22),oM s24 (ci 0)]) (.blk 0 (.loop b286x0))) (.reg [oM s46 t0,oN s47 t46,oF s48 0 t47,oP s49 (.bsl 1 1 (.str []) [(0,(.c (.str [125])))]),oC s50 70 [t48,t49]]))))),2,[],none⟩
def f287:FI:=⟨(.seq (.reg [oX s4 (.box 0 false 258 7 t1) []]) (.seq (.reg [oF s6 1 t4,oG s7 t6,oC s8 327 [t7],oM s9 t2,oQ s10 .lss t8 t9]) (.cond t10
 (.reg [oM s11 t0,oR s12 (.ld true 7 t4),oC s13 289 [t11,t12]])
 (.reg [oM s14 t0,oR s15 (.ld true 7 t4),oC s16 243 [t14,t15]])))),1,[],none⟩
def b288x0:AC:=(.seq (.reg [oQ s14 .lss t13 t12]) (.seq (.cond t14
 .skip
 (.exit 0)) (.seq (.blk 1 (.seq (.reg [oM s15 t13,oP s16 (.iad 7 t11 t13),oR s17 (.ld true 7 t16),oX s5 (.new 0 false false (.cells 258 [(vi 0),(vi 0),(vi 0),(.str []),vz,vz,vz])) [],oM s4 t15,oS 7 t5 t17]) (.seq (.reg [oM s18 t0,oM s19 t4,oC s20 139 [t18,t19]]) (.reg [oM s21 t0,oR s22 (.ld true 7 t5),oC s23 243 [t21,t22]])))) (.reg [oQ s24 .add t13 (ci 1),oM s13 t24]))))
def f288:FI:=⟨(.seq (.reg [oM s6 t0,oN s7 t6,oF s8 0 t7,oP s9 (.bsl 1 1 (.str []) [(0,(.c (.str [40])))]),oC s10 70 [t8,t9]]) (.seq (.seq (.reg [oM s11 t1,oP s12 (.len false t11),oM s13 (ci 0)]) (.blk 0 (.loop b288x0))) (.reg [oM s25 t0,oN s26 t25,oF s27 0 t26,oP s28 (.bsl 1 1 (.str []) [(0,(.c (.str [41])))]),oC s29 70 [t27,t28]]))),1,[],none⟩
def f290:FI:=⟨(.seq (.reg [oX s3 (.box 0 false 258 7 t1) []]) (.seq (.reg [oF s6 1 t3,oG s7 t6,oC s8 327 [t7],oM s4 t8]) (.seq (.reg [oM s9 t4,oM s5 t9]) (.seq (.seq (.reg [oM s10 t4,oQ s11 .eql t10 (ci 3)]) (.cond t11
 (.reg [oM s12 t5,oQ s13 .add t12 (ci 1),oM s5 t13])
 .skip)) (.seq (.reg [oM s14 t0,oF s15 6 t3,oL s16 t15,oP s17 (.iad 7 t16 (ci 0)),oR s18 (.ld true 7 t17),oM s19 t5,oC s20 287 [t14,t18,t19]]) (.seq (.reg [oM s21 t0,oN s22 t21,oF s23 0 t22,oF s24 1 t3,oG s25 t24,oC s26 328 [t25],oP s27 (.bsl 1 1 (.str []) [(0,t26)]),oC s28 70 [t23,t27]]) (.reg [oM s29 t0,oF s30 6 t3,oL s31 t30,oP s32 (.iad 7 t31 (ci 1)),oR s33 (.ld true 7 t32),oM s34 t4,oQ s35 .add t34 (ci 1),oC s36 287 [t29,t33,t35]]))))))),1,[],none⟩
def b294x0:AC:=(.seq (.seq (.reg [oM s18 t9,oM s19 t1,oQ s20 .gtr t18 t19,oM s21 t20,⟨some s22,some (s21,true),(.p (.mov t3))⟩,⟨some s23,some (s21,true),(.p (.mov t0))⟩,⟨some s24,some (s21,true),(.p (.mov t9))⟩,⟨some s25,some (s21,true),(.p (.iad 3 t23 t24))⟩,⟨some s26,some (s21,true),(.r (.ld true 3 t25))⟩,⟨some s27,some (s21,true),(.p (.mov t0))⟩,⟨some s28,some (s21,true),(.p (.mov t9))⟩,⟨some s29,some (s21,true),(.p (.bin .sub eI t28 (ci 1)))⟩,⟨some s30,some (s21,true),(.p (.iad 3 t27 t29))⟩,⟨some s31,some (s21,true),(.r (.ld true 3 t30))⟩,⟨some s32,some (s21,true),(.e (.callv t22 [t26,t31]) [])⟩,⟨some s33,some (s21,true),(.p (.bin .lss eI t32 (ci 0)))⟩,oP s34 (.pick t21 t33 (.c (.bool false)))]) (.cond t34
 .skip
 (.exit 2))) (.seq (.blk 3 (.reg [oM s37 t0,oM s38 t9,oM s39 t0,oM s40 t9,oQ s41 .sub t40 (ci 1),oM s42 t0,oM s43 t9,oQ s44 .sub t43 (ci 1),oP s45 (.iad 3 t42 t44),oR s46 (.ld true 3 t45),oM s47 t0,oM s48 t9,oP s49 (.iad 3 t47 t48),oR s50 (.ld true 3 t49),oP s51 (.iad 3 t37 t38),oS 3 t51 t46,oP s52 (.iad 3 t39 t41),oS 3 t52 t50])) (.reg [oM s35 t9,oQ s36 .sub t35 (ci 1),oM s9 t36])))
def b294x1:AC:=(.seq (.seq (.reg [oM s12 t8,oM s13 t2,oQ s14 .lss t12 t13]) (.cond t14
 .skip
 (.exit 0))) (.seq (.blk 1 (.seq (.reg [oM s17 t8,oM s9 t17]) (.blk 2 (.loop b294x0)))) (.reg [oM s15 t8,oQ s16 .add t15 (ci 1),oM s8 t16])))
def f294:FI:=⟨(.seq (.reg [oM s10 t1,oQ s11 .add t10 (ci 1),oM s8 t11]) (.blk 0 (.loop b294x1))),0,[],none⟩
def f303:FI:=⟨(.seq (.reg [oM s4 (ci 0)]) (.seq (.reg [oM s8 t0,oN s9 t8,oF s10 0 t9,oG s11 t10,oN s12 t11,oF s13 0 t12,oG s14 t13,oN s15 t14,oF s16 0 t15,oG s17 t16,oM s18 t1,oC s19 52 [t17,t18],oM s7 t19,oE s20 t7 0,oE s21 t7 1,oM s5 t20,oM s6 t21]) (.seq (.reg [oM s22 t0,oN s23 t22,oF s24 0 t23,oG s25 t24,oN s26 t25,oF s27 14 t26,oG s28 t27,oM s29 t5,oC s30 53 [t28,t29],oM s4 t30]) .ret))),0,[.t s4],none⟩
def f304:FI:=⟨(.seq (.reg [oM s4 (.c vz)]) (.seq (.reg [oM s8 t0,oN s9 t8,oF s10 0 t9,oG s11 t10,oN s12 t11,oF s13 0 t12,oG s14 t13,oN s15 t14,oF s16 0 t15,oG s17 t16,oM s18 t1,oC s19 52 [t17,t18],oM s7 t19,oE s20 t7 0,oE s21 t7 1,oM s5 t20,oM s6 t21]) (.seq (.reg [oM s22 t0,oN s23 t22,oF s24 0 t23,oG s25 t24,oN s26 t25,oF s27 14 t26,oG s28 t27,oM s29 t5,oC s30 105 [t28,t29],oM s4 t30]) .ret))),0,[.t s4],none⟩
def b305x0:AC:=(.seq (.reg [oQ s36 .lss t35 t34]) (.seq (.cond t36
 .skip
 (.exit 0)) (.seq (.blk 1 (.seq (.reg [oP s37 (.iad 1 t33 t35),oG s38 t37,oM s9 t38]) (.reg [oM s39 t7,oM s40 t0,oN s41 t40,oF s42 0 t41,oG s43 t42,oM s44 t9,oC s45 46 [t43,t44],oP s46 (.bsl 1 1 (vi 0) [(0,t45)]),oX s47 (.app 0 0 1 (vi 0) 8 t39 t46) [],oM s7 t47]))) (.reg [oQ s48 .add t35 (ci 1),oM s35 t48]))))
def f305:FI:=⟨(.seq (.reg [oM s4 (.c vz)]) (.seq (.reg [oM s11 t0,oN s12 t11,oF s13 0 t12,oG s14 t13,oN s15 t14,oF s16 0 t15,oG s17 t16,oN s18 t17,oF s19 0 t18,oG s20 t19,oM s21 t1,oC s22 52 [t20,t21],oM s10 t22,oE s23 t10 0,oE s24 t10 1,oM s5 t23,oM s6 t24]) (.seq (.reg [oM s7 (.c vz)]) (.seq (.seq (.reg [oM s25 t0,oN s26 t25,oF s27 0 t26,oG s28 t27,oN s29 t28,oF s30 14 t29,oG s31 t30,oM s32 t5,oC s33 49 [t31,t32],oP s34 (.len false t33),oM s35 (ci 0)]) (.blk 0 (.loop b305x0))) (.seq (.reg [oM s49 t7,oM s4 t49]) .ret))))),0,[.t s4],none⟩
def f306:FI:=⟨(.seq (.reg [oM s7 t0,oM s8 t1,oN s9 t8,oF s10 0 t9,oF s11 3 t10,oL s12 t11,oC s13 219 [t7,t12],oM s6 t13,oE s14 t6 0,oE s15 t6 1,oM s4 t14,oM s5 t15]) (.seq (.seq (.reg [oM s16 t5,oP s17 (.un .not t16)]) (.cond t17
 (.seq (.reg [oM s19 t0,oN s20 t19,oF s21 0 t20,oG s22 t21,oN s23 t22,oF s24 17 t23,oG s25 t24,oM s26 t1,oN s27 t26,oF s28 0 t27,oF s29 3 t28,oL s30 t29,oR s31 (.lku false [.s] true (vi 0) t25 t30),oM s18 t31,oE s32 t18 0,oE s33 t18 1,oM s4 t32,oM s5 t33]) (.reg [oM s34 t1,oN s35 t34,oF s36 14 t35,oS 1 t36 (.c (.bool true))]))
 .skip)) (.seq (.seq (.reg [oM s37 t5,oP s38 (.un .not t37)]) (.cond t38
 (.reg [oM s39 t1,oN s40 t39,oF s41 0 t40,oF s42 0 t41,oR s43 (.ld true 1 t42),oM s44 t1,oN s45 t44,oF s46 0 t45,oF s47 3 t46,oL s48 t47,oC s49 40 [t43,(ci 21),t48]])
 .skip)) (.reg [oM s50 t1,oM s51 t4,oN s52 t50,oF s53 7 t52,oS 1 t53 t51])))),0,[],none⟩
def f307:FI:=⟨(.seq (.reg [oM s7 t0,oN s8 t7,oF s9 0 t8,oG s10 t9,oN s11 t10,oF s12 0 t11,oG s13 t12,oN s14 t13,oF s15 0 t14,oG s16 t15,oM s17 t1,oN s18 t17,oF s19 16 t18,oL s20 t19,oP s21 (.iad 1 t20 (ci 0)),oG s22 t21,oN s23 t22,oF s24 7 t23,oG s25 t24,oM s26 t1,oN s27 t26,oF s28 0 t27,oF s29 3 t28,oL s30 t29,oX s4 (.new 0 false false (.cells 260 [vz,(vi 0),(.str []),(.str []),(vi 0)])) [(.l t29),(.c t24),(.c t21),(.l t19),(.c t15),(.c t12),(.c t9)],oX s31 (.call 234 [t16,t25,t30]) [(.l t4)],oM s6 t31,oE s32 t6 0,oE s33 t6 1,oS 5 t4 t32,oM s5 t33]) (.seq (.seq (.reg [oM s34 t5,oQ s35 .neq t34 (ci 0)]) (.cond t35
 (.reg [oM s36 t1,oN s37 t36,oF s38 0 t37,oF s39 0 t38,oR s40 (.ld true 1 t39),oM s41 t5,oM s42 t1,oN s43 t42,oF s44 0 t43,oF s45 3 t44,oL s46 t45,oC s47 40 [t40,t41,t46]])
 .skip)) (.reg [oM s48 t1,oR s49 (.ld true 5 t4),oN s50 t48,oF s51 9 t50,oS 5 t51 t49]))),1,[],none⟩
def b308x0:AC:=(.seq (.reg [oQ s37 .lss t36 t35]) (.seq (.cond t37
 .skip
 (.exit 0)) (.seq (.blk 1 (.seq (.reg [oM s38 t36,oP s39 (.iad 1 t34 t36),oG s40 t39,oM s8 t38,oM s9 t40]) (.reg [oM s41 t0,oM s42 t9,oM s43 t6,oM s44 t8,oP s45 (.iad 1 t43 t44),oG s46 t45,oC s47 221 [t41,t42,t46]]))) (.reg [oQ s48 .add t36 (ci 1),oM s36 t48]))))
def f308:FI:=⟨(.seq (.reg [oM s10 t0,oM s11 t2,oC s12 305 [t10,t11],oM s6 t12]) (.seq (.reg [oM s13 t6,oP s14 (.len false t13),oQ s15 .sub t14 (ci 1),oM s7 t15]) (.seq (.seq (.reg [oM s16 t1,oN s17 t16,oF s18 16 t17,oL s19 t18,oP s20 (.len false t19),oQ s21 .sub t20 (ci 1),oM s22 t7,oQ s23 .neq t21 t22]) (.cond t23
 (.reg [oM s24 t1,oN s25 t24,oF s26 0 t25,oF s27 0 t26,oR s28 (.ld true 1 t27),oC s29 40 [t28,(ci 41),(.c (.str []))]])
 .skip)) (.seq (.seq (.reg [oM s30 t1,oN s31 t30,oF s32 16 t31,oL s33 t32,oP s34 (.sls false 1 t33 (some (ci 1)) none none),oP s35 (.len false t34),oM s36 (ci 0)]) (.blk 0 (.loop b308x0))) (.reg [oM s49 t1,oM s50 t6,oM s51 t7,oP s52 (.iad 1 t50 t51),oG s53 t52,oN s54 t49,oF s55 7 t54,oS 1 t55 t53]))))),0,[],none⟩
def f309:FI:=⟨(.seq (.reg [oM s5 t1,oN s6 t5,oF s7 16 t6,oL s8 t7,oP s9 (.iad 1 t8 (ci 0)),oG s10 t9,oN s11 t10,oF s12 7 t11,oG s13 t12,oM s4 t13]) (.seq (.reg [oM s14 t1,oM s15 t0,oM s16 t4,oM s17 t1,oN s18 t17,oF s19 8 t18,oG s20 t19,oC s21 263 [t15,t16,t20],oN s22 t14,oF s23 15 t22,oS 1 t23 t21]) (.seq (.blk 0 (.seq (.reg [oM s31 t1,oN s32 t31,oF s33 15 t32,oG s34 t33,oM s30 t34]) (.cond t30
 (.reg [oM s35 t0,oN s36 t35,oF s37 0 t36,oG s38 t37,oN s39 t38,oF s40 0 t39,oG s41 t40,oN s42 t41,oF s43 3 t42,oG s44 t43,oQ s45 .add t44 (ci 1),oN s46 t41,oF s47 3 t46,oS 1 t47 t45])
 (.seq (.reg [oM s49 t0,oM s50 t4,oC s51 303 [t49,t50],oQ s52 .eql t51 (ci 8),oM s53 t52,⟨some s54,some (s53,true),(.p (.mov t0))⟩,⟨some s55,some (s53,true),(.p (.mov t1))⟩,⟨some s56,some (s53,true),(.p (.nilc t55))⟩,⟨some s57,some (s53,true),(.p (.fad 8 t56))⟩,⟨some s58,some (s53,true),(.r (.ldc t57))⟩,⟨some s59,some (s53,true),(.p (.mov t4))⟩,⟨some s60,some (s53,true),(.e (.call 263 [t54,t58,t59]) [])⟩,oP s61 (.pick t53 t60 (.c (.bool false))),oM s48 t61]) (.cond t48
 (.reg [oM s62 t0,oN s63 t62,oF s64 0 t63,oG s65 t64,oN s66 t65,oF s67 0 t66,oG s68 t67,oN s69 t68,oF s70 4 t69,oG s71 t70,oQ s72 .add t71 (ci 1),oN s73 t68,oF s74 4 t73,oS 1 t74 t72])
 (.reg [oM s24 t1,oN s25 t24,oF s26 0 t25,oF s27 0 t26,oR s28 (.ld true 1 t27),oC s29 40 [t28,(ci 43),(.c (.str []))]])))))) (.reg [oM s75 t1,oM s76 t1,oN s77 t76,oF s78 8 t77,oG s79 t78,oN s80 t75,oF s81 7 t80,oS 1 t81 t79])))),0,[],none⟩
def b310x0:AC:=(.seq (.reg [oQ s14 .lss t13 t12]) (.seq (.cond t14
 .skip
 (.exit 0)) (.seq (.blk 1 (.seq (.reg [oP s15 (.iad 1 t11 t13),oG s16 t15,oM s7 t16]) (.seq (.reg [oM s17 t7,oN s18 t17,oF s19 7 t18,oG s20 t19,oM s21 t2,oQ s22 .neq t20 t21]) (.cond t22
 (.reg [oM s23 t7,oN s24 t23,oF s25 0 t24,oF s26 0 t25,oR s27 (.ld true 1 t26),oC s28 40 [t27,(ci 40),(.c (.str []))]])
 .skip)))) (.reg [oQ s29 .add t13 (ci 1),oM s13 t29]))))
def f310:FI:=⟨(.seq (.reg [oM s8 t1,oN s9 t8,oF s10 16 t9,oL s11 t10,oP s12 (.len false t11),oM s13 (ci 0)]) (.blk 0 (.loop b310x0))),0,[],none⟩
def f311:FI:=⟨(.seq (.seq (.reg [oM s6 t2,oM s7 t1,oN s8 t7,oF s9 16 t8,oL s10 t9,oP s11 (.iad 1 t10 (ci 0)),oG s12 t11,oN s13 t12,oF s14 7 t13,oG s15 t14,oC s16 332 [t6,t15],oP s17 (.un .not t16)]) (.cond t17
 (.reg [oM s18 t1,oN s19 t18,oF s20 16 t19,oL s21 t20,oP s22 (.iad 1 t21 (ci 0)),oG s23 t22,oN s24 t23,oF s25 0 t24,oF s26 0 t25,oR s27 (.ld true 1 t26),oC s28 40 [t27,(ci 40),(.c (.str []))]])
 .skip)) (.seq (.reg [oM s29 t1,oN s30 t29,oF s31 16 t30,oL s32 t31,oP s33 (.iad 1 t32 (ci 1)),oG s34 t33,oN s35 t34,oF s36 7 t35,oG s37 t36,oM s38 t1,oN s39 t38,oF s40 16 t39,oL s41 t40,oP s42 (.iad 1 t41 (ci 0)),oG s43 t42,oN s44 t43,oF s45 7 t44,oG s46 t45,oQ s47 .neq t37 t46]) (.cond t47
 (.reg [oM s48 t1,oN s49 t48,oF s50 16 t49,oL s51 t50,oP s52 (.iad 1 t51 (ci 1)),oG s53 t52,oN s54 t53,oF s55 0 t54,oF s56 0 t55,oR s57 (.ld true 1 t56),oC s58 40 [t57,(ci 40),(.c (.str []))]])
 .skip))),0,[],none⟩
def f313:FI:=⟨(.seq (.reg [oM s2 (ci 0)]) (.seq (.reg [oM s3 t0,oQ s4 .mul t3 (ci 78913),oQ s5 .shr t4 (.c (.int .u64 (.ofNat 18))),oM s2 t5]) .ret)),0,[.t s2],none⟩
def f314:FI:=⟨(.seq (.reg [oM s2 (ci 0)]) (.seq (.seq (.reg [oM s3 t0]) (.cond t3
 (.seq (.reg [oM s2 (ci 1)]) .ret)
 .skip)) (.seq (.reg [oM s2 (ci 0)]) .ret))),0,[.t s2],none⟩
def f315:FI:=⟨(.seq (.reg [oM s2 (.c (.bool false))]) (.seq (.reg [oM s3 t0,oM s4 t0,oQ s5 .sub t4 (ci 1),oQ s6 .and t3 t5,oQ s7 .eql t6 (ci 0),oM s2 t7]) .ret)),0,[.t s2],none⟩
def b318x0:AC:=(.seq (.reg [oQ s40 .lss t39 t38]) (.seq (.cond t40
 .skip
 (.exit 2)) (.seq (.blk 3 (.seq (.reg [oP s41 (.iad 3 t37 t39),oR s42 (.ld true 3 t41),oX s12 (.new 5 false false (.cells 462 [(vi 0),(vi 0),vz])) [],oS 3 t12 t42]) (.reg [oR s43 (.ld true 2 t3),oM s44 t10,oR s45 (.ld true 3 t12),oC s46 336 [t43,t44,t45]]))) (.reg [oQ s47 .add t39 (ci 1),oM s39 t47]))))
def b318x1:AC:=(.seq (.seq (.reg [oM s28 t9,oP s29 (.len false t28),oQ s30 .gtr t29 (ci 0)]) (.cond t30
 .skip
 (.exit 0))) (.blk 1 (.seq (.reg [oX s31 (.new 2 false true (.map [])) [],oX s32 (.new 3 false true (.map [])) [],oP s33 (.bld [vz,.nilm,.nilm] [(1,1,t31),(2,1,t32)]),oM s34 t9,oP s35 (.bld [vz,.nilm,.nilm,vz] [(0,3,t33),(3,1,t34)]),oX s36 (.box 4 false 443 4 t35) [],oM s10 t36]) (.seq (.seq (.reg [oM s37 t9,oP s38 (.len false t37),oM s39 (ci 0)]) (.blk 2 (.loop b318x0))) (.seq (.seq (.reg [oM s48 t2,oM s49 t10,oX s50 (.callv t48 [t49]) [],oP s51 (.un .not t50)]) (.cond t51
 .ret
 .skip)) (.reg [oR s52 (.ld true 2 t3),oM s53 t9,oM s54 t8,oC s55 337 [t52,t53,t54],oM s9 t55]))))))
def f318:FI:=⟨(.seq (.reg [oX s3 (.box 0 false 406 2 t0) []]) (.seq (.reg [oR s14 (.ld true 2 t3),oM s15 t1,oC s16 335 [t14,t15],oM s13 t16,oE s17 t13 0,oE s18 t13 1,oM s6 t17,oM s7 t18]) (.seq (.seq (.reg [oM s19 t7,oP s20 (.un .not t19)]) (.cond t20
 .ret
 .skip)) (.seq (.reg [oX s21 (.new 1 false true (.map [])) [],oM s22 t6,oY (.mup false [.i] t21 t22 (ci 1)) [],oM s23 t21,oM s8 t23]) (.seq (.reg [oM s24 t6,oP s25 (.bsl 0 1 (.str []) []),oP s26 (.bld [(vi 0),(vi 0),vz] [(0,1,t24),(1,1,(ci 1)),(2,1,t25)]),oP s27 (.bsl 1 3 (.agg [(vi 0),(vi 0),vz]) [(0,t26)]),oM s9 t27]) (.blk 0 (.loop b318x1))))))),6,[],none⟩
def f319:FI:=⟨(.seq (.reg [oM s6 (.c (.bool false))]) (.seq (.reg [oM s8 t0,oN s9 t8,oF s10 0 t9,oF s11 2 t10,oG s12 t11,oL s13 t1,oR s14 (.lku false [.s] false (vi 0) t12 t13),oM s7 t14]) (.seq (.reg [oL s15 t2,oM s16 t7,oP s17 (.bsl 1 1 (vi 0) [(0,t16)]),oX s18 (.app 0 0 1 (vi 0) 8 t15 t17) [],oS 1 t2 t18]) (.seq (.reg [oM s19 t0,oN s20 t19,oF s21 0 t20,oF s22 1 t21,oG s23 t22,oL s24 t1,oR s25 (.lku false [.s] false (.agg [vz,(vi 0),(.str []),(.str []),(vi 0)]) t23 t24),oM s26 t7,oQ s27 .gtr t26 (ci 0),oS 5 t3 t25,oS 1 t4 t27]) (.seq (.reg [oM s28 t7,oQ s29 .eql t28 (ci 0),oM s6 t29]) .ret))))),0,[.t s6],none⟩
def b320x0:AC:=(.seq (.reg [oQ s29 .lss t28 t27]) (.seq (.cond t29
 .skip
 (.exit 0)) (.seq (.blk 1 (.seq (.reg [oP s30 (.iad 5 t26 t28),oR s31 (.ld true 5 t30),oX s8 (.new 1 false false (.cells 260 [vz,(vi 0),(.str []),(.str []),(vi 0)])) [],oS 5 t8 t31]) (.reg [oM s32 t5,oF s33 3 t8,oL s34 t33,oF s35 4 t8,oG s36 t35,oY (.mup false [.s] t32 t34 t36) []]))) (.reg [oQ s37 .add t28 (ci 1),oM s28 t37]))))
def f320:FI:=⟨(.seq (.reg [oM s4 (.c .nilm)]) (.seq (.reg [oM s10 t0,oN s11 t10,oF s12 3 t11,oG s13 t12,oM s14 t1,oR s15 (.lku false [.i] true .nilm t13 t14),oM s9 t15,oE s16 t9 0,oE s17 t9 1,oM s5 t16,oM s6 t17]) (.seq (.seq (.reg [oM s18 t6,oP s19 (.un .not t18)]) (.cond t19
 (.seq (.reg [oX s20 (.new 0 true true (.map [])) [],oM s5 t20]) (.seq (.seq (.reg [oM s21 t0,oN s22 t21,oF s23 0 t22,oG s24 t23,oM s25 t1,oC s26 338 [t24,t25],oP s27 (.len false t26),oM s28 (ci 0)]) (.blk 0 (.loop b320x0))) (.reg [oM s38 t0,oN s39 t38,oF s40 3 t39,oG s41 t40,oM s42 t1,oM s43 t5,oY (.mup false [.i] t41 t42 t43) []])))
 .skip)) (.seq (.reg [oM s44 t5,oM s4 t44]) .ret)))),2,[.t s4],none⟩
def b321x0:AC:=(.seq (.seq (.reg [oM s16 t0,oN s17 t16,oF s18 3 t17,oG s19 t18,oQ s20 .eql t19 (ci 0),oM s21 t20,⟨some s22,some (s21,true),(.p (.mov t0))⟩,⟨some s23,some (s21,true),(.e (.call 19 [t22,(.c (.str [125]))]) [])⟩,⟨some s24,some (s21,true),(.p (.un .not t23))⟩,oP s25 (.pick t21 t24 (.c (.bool false)))]) (.cond t25
 .skip
 (.exit 0))) (.blk 1 (.seq (.seq (.reg [oF s26 6 t5,oL s27 t26,oP s28 (.len false t27),oQ s29 .gtr t28 (ci 0)]) (.cond t29
 (.reg [oM s30 t0,oC s31 33 [t30,(.c (.str [44]))]])
 .skip)) (.seq (.reg [oF s32 5 t5,oL s33 t32,oM s34 t0,oF s35 5 t5,oL s36 t35,oX s37 (.call 36 [t34,t36]) [(.l t32)],oP s38 (.bsl 1 1 (.str []) [(0,t37)]),oX s39 (.app 2 0 1 (.str []) 16 t33 t38) [],oF s40 5 t5,oS 1 t40 t39]) (.seq (.reg [oM s41 t0,oC s42 33 [t41,(.c (.str [58]))]]) (.reg [oF s43 6 t5,oL s44 t43,oM s45 t0,oM s46 t3,oQ s47 .add t46 (ci 1),oX s48 (.call 133 [t45,(ci 1),t47]) [(.l t43)],oP s49 (.bsl 1 7 (.agg [(vi 0),(vi 0),(vi 0),(.str []),vz,vz,vz]) [(0,t48)]),oX s50 (.app 2 0 7 (.agg [(vi 0),(vi 0),(vi 0),(.str []),vz,vz,vz]) 112 t44 t49) [],oF s51 6 t5,oS 1 t51 t50]))))))
def f321:FI:=⟨(.seq (.reg [oX s5 (.box 0 false 258 7 t1) [],oX s8 (.new 1 false false (.cells 258 [(vi 0),(vi 0),(vi 0),(.str []),vz,vz,vz])) []]) (.seq (.reg [oM s9 t2,oF s10 1 t5,oS 1 t10 t9]) (.seq (.reg [oM s11 t0,oC s12 34 [t11,(ci 2)],oF s13 3 t5,oS 1 t13 t12]) (.seq (.reg [oM s14 t0,oC s15 33 [t14,(.c (.str [123]))]]) (.seq (.blk 0 (.loop b321x0)) (.seq (.reg [oM s52 t0,oC s53 33 [t52,(.c (.str [125]))]]) (.seq (.reg [oR s54 (.ld true 7 t5),oS 7 t8 t54]) .ret))))))),2,[.c true 7 s8],none⟩
def f322:FI:=⟨(.seq (.reg [oM s2 (.c (.bool false))]) (.seq (.reg [oM s3 t0,oC s4 339 [t3],oM s5 t4,⟨some s6,some (s5,false),(.p (.mov t0))⟩,⟨some s7,some (s5,false),(.e (.call 340 [t6]) [])⟩,oP s8 (.pick t5 (.c (.bool true)) t7),oM s9 t8,⟨some s10,some (s9,false),(.p (.mov t0))⟩,⟨some s11,some (s9,false),(.p (.bin .eql eI t10 (cu 34)))⟩,oP s12 (.pick t9 (.c (.bool true)) t11),oM s13 t12,⟨some s14,some (s13,false),(.p (.mov t0))⟩,⟨some s15,some (s13,false),(.e (.call 341 [(.c (.str [40,41,123,125,59,58,44,46,61,60,43,45,42])),t14]) [])⟩,⟨some s16,some (s13,false),(.p (.bin .geq eI t15 (ci 0)))⟩,oP s17 (.pick t13 (.c (.bool true)) t16),oM s2 t17]) .ret)),0,[.t s2],none⟩
def f323:FI:=⟨(.seq (.reg [oX s2 (.new 0 false false (.cells 114 [(vi 0),(vi 0),(.str []),(vi 0)])) [],oM s3 (.c .nilp)]) (.seq (.reg [oM s6 t0,oN s7 t6,oF s8 0 t7,oL s9 t8,oM s10 t0,oN s11 t10,oF s12 1 t11,oG s13 t12,oP s14 (.ixs t9 t13),oM s4 t14]) (.seq (.reg [oM s15 t0,oN s16 t15,oF s17 1 t16,oG s18 t17,oP s19 (.bld [(vi 0)] [(0,1,t18)]),oP s20 (.bld [(vi 0),(vi 0),(.str []),(vi 0)] [(0,1,t19)]),oX s5 (.new 1 false false (.cells 114 [(vi 0),(vi 0),(.str []),(vi 0)])) [],oS 4 t5 t20]) (.seq (.blk 0 (.seq (.reg [oM s22 t4,oC s23 339 [t22],oM s21 t23]) (.cond t21
 (.seq (.reg [oM s24 t0,oR s25 (.ld true 4 t5),oC s26 342 [t24,t25],oE s27 t26 0,oE s28 t26 1,oS 4 t2 t27,oM s3 t28]) .ret)
 (.seq (.reg [oM s30 t4,oC s31 340 [t30],oM s29 t31]) (.cond t29
 (.seq (.reg [oM s32 t0,oR s33 (.ld true 4 t5),oC s34 343 [t32,t33],oE s35 t34 0,oE s36 t34 1,oS 4 t2 t35,oM s3 t36]) .ret)
 (.seq (.reg [oM s38 t4,oQ s39 .eql t38 (cu 34),oM s37 t39]) (.cond t37
 (.seq (.reg [oM s40 t0,oR s41 (.ld true 4 t5),oC s42 344 [t40,t41],oE s43 t42 0,oE s44 t42 1,oS 4 t2 t43,oM s3 t44]) .ret)
 .skip))))))) (.seq (.reg [oM s45 t4,oP s46 (.cvi .i32 t45),oE s47 (.c .undef) 0,oF s48 1 t5,oS 1 t48 (ci 6),oF s49 2 t5,oS 1 t49 t47]) (.seq (.reg [oM s50 t0,oN s51 t50,oF s52 1 t51,oG s53 t52,oQ s54 .add t53 (ci 1),oN s55 t50,oF s56 1 t55,oS 1 t56 t54]) (.seq (.seq (.reg [oM s57 t4,oQ s58 .eql t57 (cu 61),oM s59 t58,⟨some s60,some (s59,true),(.p (.mov t0))⟩,⟨some s61,some (s59,true),(.p (.nilc t60))⟩,⟨some s62,some (s59,true),(.p (.fad 1 t61))⟩,⟨some s63,some (s59,true),(.r (.ldc t62))⟩,⟨some s64,some (s59,true),(.p (.mov t0))⟩,⟨some s65,some (s59,true),(.p (.nilc t64))⟩,⟨some s66,some (s59,true),(.p (.fad 0 t65))⟩,⟨some s67,some (s59,true),(.r (.ld false 1 t66))⟩,⟨some s68,some (s59,true),(.p (.len true t67))⟩,⟨some s69,some (s59,true),(.p (.bin .lss eI t63 t68))⟩,oP s70 (.pick t59 t69 (.c (.bool false))),oM s71 t70,⟨some s72,some (s71,true),(.p (.mov t0))⟩,⟨some s73,some (s71,true),(.p (.nilc t72))⟩,⟨some s74,some (s71,true),(.p (.fad 0 t73))⟩,⟨some s75,some (s71,true),(.r (.ld false 1 t74))⟩,⟨some s76,some (s71,true),(.p (.mov t0))⟩,⟨some s77,some (s71,true),(.p (.nilc t76))⟩,⟨some s78,some (s71,true),(.p (.fad 1 t77))⟩,⟨some s79,some (s71,true),(.r (.ldc t78))⟩,⟨some s80,some (s71,true),(.p (.ixs t75 t79))⟩,⟨some s81,some (s71,true),(.p (.bin .eql eI t80 (cu 61)))⟩,oP s82 (.pick t71 t81 (.c (.bool false)))]) (.cond t82
 (.seq (.reg [oF s83 2 t5,oS 1 t83 (.c (.str [61,61]))]) (.reg [oM s84 t0,oN s85 t84,oF s86 1 t85,oG s87 t86,oQ s88 .add t87 (ci 1),oN s89 t84,oF s90 1 t89,oS 1 t90 t88]))
 .skip)) (.seq (.reg [oR s91 (.ld true 4 t5),oS 4 t2 t91,oM s3 (.c .nilp)]) .ret)))))))),2,[.c true 4 s2,.t s3],none⟩
def f324:FI:=⟨(.seq (.reg [oX s2 (.new 0 false false (.cells 454 [(vi 0),(.bool false),(.bool false),(.bool false),(vi 0),(vi 0)])) [],oM s3 (.c (.bool false))]) (.seq (.seq (.reg [oM s4 t0]) (.blk 0 (.seq (.seq (.reg [oQ s6 .eql t4 (ci 1),oM s5 t6]) (.cond t5
 .skip
 (.reg [oQ s7 .eql t4 (ci 3),oM s5 t7]))) (.cond t5
 (.seq (.reg [oP s8 (.bld [(vi 0),(.bool false),(.bool false),(.bool false),(vi 0),(vi 0)] [(1,1,(.c (.bool true)))]),oS 6 t2 t8,oM s3 (.c (.bool true))]) .ret)
 (.seq (.reg [oQ s10 .eql t4 (ci 2),oM s9 t10]) (.cond t9
 (.seq (.reg [oP s11 (.bld [(vi 0),(.bool false),(.bool false),(.bool false),(vi 0),(vi 0)] [(0,1,(.c (vj 0)))]),oS 6 t2 t11,oM s3 (.c (.bool true))]) .ret)
 (.seq (.reg [oQ s13 .eql t4 (ci 4),oM s12 t13]) (.cond t12
 (.seq (.reg [oP s14 (.bld [(vi 0),(.bool false),(.bool false),(.bool false),(vi 0),(vi 0)] [(0,1,(ci 1))]),oS 6 t2 t14,oM s3 (.c (.bool true))]) .ret)
 (.seq (.reg [oQ s16 .eql t4 (ci 5),oM s15 t16]) (.cond t15
 (.seq (.reg [oP s17 (.bld [(vi 0),(.bool false),(.bool false),(.bool false),(vi 0),(vi 0)] []),oS 6 t2 t17,oM s3 (.c (.bool true))]) .ret)
 (.seq (.reg [oQ s19 .eql t4 (ci 6),oM s18 t19]) (.cond t18
 (.seq (.reg [oP s20 (.bld [(vi 0),(.bool false),(.bool false),(.bool false),(vi 0),(vi 0)] [(2,1,(.c (.bool true)))]),oS 6 t2 t20,oM s3 (.c (.bool true))]) .ret)
 (.seq (.seq (.reg [oQ s22 .eql t4 (ci 7),oM s21 t22]) (.cond t21
 .skip
 (.reg [oQ s23 .eql t4 (ci 8),oM s21 t23]))) (.cond t21
 (.seq (.reg [oP s24 (.bld [(vi 0),(.bool false),(.bool false),(.bool false),(vi 0),(vi 0)] [(0,1,(ci 2)),(3,1,(.c (.bool true))),(5,1,(ci 1073741824))]),oS 6 t2 t24,oM s3 (.c (.bool true))]) .ret)
 (.seq (.reg [oQ s26 .eql t4 (ci 9),oM s25 t26]) (.cond t25
 (.seq (.reg [oP s27 (.bld [(vi 0),(.bool false),(.bool false),(.bool false),(vi 0),(vi 0)] [(0,1,(ci 1)),(4,1,(ci 1)),(5,1,(ci 1))]),oS 6 t2 t27,oM s3 (.c (.bool true))]) .ret)
 (.seq (.reg [oQ s29 .eql t4 (ci 10),oM s28 t29]) (.cond t28
 (.seq (.reg [oP s30 (.bld [(vi 0),(.bool false),(.bool false),(.bool false),(vi 0),(vi 0)] [(0,1,(ci 1)),(4,1,(ci 1)),(5,1,(ci 1073741824))]),oS 6 t2 t30,oM s3 (.c (.bool true))]) .ret)
 (.seq (.reg [oQ s32 .eql t4 (ci 11),oM s31 t32]) (.cond t31
 (.seq (.reg [oP s33 (.bld [(vi 0),(.bool false),(.bool false),(.bool false),(vi 0),(vi 0)] [(4,1,(ci 1)),(5,1,(ci 1073741824))]),oS 6 t2 t33,oM s3 (.c (.bool true))]) .ret)
 (.seq (.reg [oQ s35 .eql t4 (ci 12),oM s34 t35]) (.cond t34
 (.seq (.reg [oP s36 (.bld [(vi 0),(.bool false),(.bool false),(.bool false),(vi 0),(vi 0)] [(2,1,(.c (.bool true))),(4,1,(ci 1)),(5,1,(ci 1))]),oS 6 t2 t36,oM s3 (.c (.bool true))]) .ret)
 (.seq (.seq (.reg [oQ s38 .eql t4 (ci 13),oM s37 t38]) (.cond t37
 .skip
 (.reg [oQ s39 .eql t4 (ci 14),oM s37 t39]))) (.cond t37
 (.seq (.reg [oP s40 (.bld [(vi 0),(.bool false),(.bool false),(.bool false),(vi 0),(vi 0)] [(4,1,(ci 1)),(5,1,(ci 1))]),oS 6 t2 t40,oM s3 (.c (.bool true))]) .ret)
 (.seq (.seq (.reg [oQ s42 .eql t4 (ci 15),oM s41 t42]) (.cond t41
 .skip
 (.seq (.reg [oQ s43 .eql t4 (ci 16),oM s41 t43]) (.cond t41
 .skip
 (.seq (.reg [oQ s44 .eql t4 (ci 17),oM s41 t44]) (.cond t41
 .skip
 (.seq (.reg [oQ s45 .eql t4 (ci 18),oM s41 t45]) (.cond t41
 .skip
 (.seq (.reg [oQ s46 .eql t4 (ci 19),oM s41 t46]) (.cond t41
 .skip
 (.seq (.reg [oQ s47 .eql t4 (ci 20),oM s41 t47]) (.cond t41
 .skip
 (.reg [oQ s48 .eql t4 (ci 21),oM s41 t48]))))))))))))) (.cond t41
 (.seq (.reg [oP s49 (.bld [(vi 0),(.bool false),(.bool false),(.bool false),(vi 0),(vi 0)] [(4,1,(ci 2)),(5,1,(ci 2))]),oS 6 t2 t49,oM s3 (.c (.bool true))]) .ret)
 .skip)))))))))))))))))))))))))) (.seq (.reg [oP s50 (.bld [(vi 0),(.bool false),(.bool false),(.bool false),(vi 0),(vi 0)] []),oS 6 t2 t50,oM s3 (.c (.bool false))]) .ret))),1,[.c true 6 s2,.t s3],none⟩
def f325:FI:=⟨(.seq (.reg [oX s2 (.box 0 false 454 6 t0) [],oM s4 (.c (.bool false))]) (.seq (.blk 0 (.seq (.reg [oF s6 0 t2,oG s7 t6,oQ s8 .lss t7 (ci 0),oM s5 t8]) (.cond t5
 (.seq (.reg [oM s9 t1,oC s10 345 [t9],oM s4 t10]) .ret)
 (.seq (.reg [oF s12 0 t2,oG s13 t12,oQ s14 .eql t13 (ci 0),oM s11 t14]) (.cond t11
 (.seq (.reg [oM s15 t1,oP s16 (.bin .eql eS t15 (.c (.str []))),oM s4 t16]) .ret)
 .skip))))) (.seq (.reg [oF s17 0 t2,oG s18 t17,oM s19 t1,oC s20 185 [t18,t19],oM s4 t20]) .ret))),1,[.t s4],none⟩
def f326:FI:=⟨(.seq (.reg [oM s4 (ci 0)]) (.seq (.reg [oM s6 t0,oQ s7 .geq t6 (ci 9),oM s8 t7,⟨some s9,some (s8,true),(.p (.mov t0))⟩,⟨some s10,some (s8,true),(.p (.bin .leq eI t9 (ci 12)))⟩,oP s11 (.pick t8 t10 (.c (.bool false))),oM s12 t11,⟨some s13,some (s12,false),(.p (.mov t0))⟩,⟨some s14,some (s12,false),(.p (.bin .geq eI t13 (ci 15)))⟩,oP s15 (.pick t12 (.c (.bool true)) t14),oM s5 t15]) (.seq (.seq (.reg [oM s16 t5,oM s17 t16,⟨some s18,some (s17,true),(.p (.mov t1))⟩,⟨some s19,some (s17,true),(.p (.bin .eql eI t18 (ci 0)))⟩,oP s20 (.pick t17 t19 (.c (.bool false)))]) (.cond t20
 (.seq (.reg [oM s4 (ci 0)]) .ret)
 .skip)) (.seq (.reg [oM s4 (ci 1)]) .ret)))),0,[.t s4],none⟩
def f327:FI:=⟨(.seq (.reg [oM s2 (ci 0)]) (.seq (.seq (.reg [oM s3 t0]) (.blk 0 (.seq (.reg [oQ s5 .eql t3 (ci 21),oM s4 t5]) (.cond t4
 (.seq (.reg [oM s2 (ci 1)]) .ret)
 (.seq (.reg [oQ s7 .eql t3 (ci 20),oM s6 t7]) (.cond t6
 (.seq (.reg [oM s2 (ci 2)]) .ret)
 (.seq (.seq (.reg [oQ s9 .eql t3 (ci 18),oM s8 t9]) (.cond t8
 .skip
 (.reg [oQ s10 .eql t3 (ci 19),oM s8 t10]))) (.cond t8
 (.seq (.reg [oM s2 (ci 3)]) .ret)
 (.seq (.seq (.reg [oQ s12 .eql t3 (ci 16),oM s11 t12]) (.cond t11
 .skip
 (.reg [oQ s13 .eql t3 (ci 17),oM s11 t13]))) (.cond t11
 (.seq (.reg [oM s2 (ci 4)]) .ret)
 (.seq (.reg [oQ s15 .eql t3 (ci 15),oM s14 t15]) (.cond t14
 (.seq (.reg [oM s2 (ci 5)]) .ret)
 (.seq (.seq (.reg [oQ s17 .eql t3 (ci 13),oM s16 t17]) (.cond t16
 .skip
 (.reg [oQ s18 .eql t3 (ci 14),oM s16 t18]))) (.cond t16
 (.seq (.reg [oM s2 (ci 6)]) .ret)
 (.seq (.seq (.reg [oQ s20 .eql t3 (ci 12),oM s19 t20]) (.cond t19
 .skip
 (.seq (.reg [oQ s21 .eql t3 (ci 9),oM s19 t21]) (.cond t19
 .skip
 (.seq (.reg [oQ s22 .eql t3 (ci 10),oM s19 t22]) (.cond t19
 .skip
 (.reg [oQ s23 .eql t3 (ci 11),oM s19 t23]))))))) (.cond t19
 (.seq (.reg [oM s2 (ci 7)]) .ret)
 .skip)))))))))))))))) (.seq (.reg [oM s2 (ci 8)]) .ret))),0,[.t s2],none⟩
def f328:FI:=⟨(.seq (.reg [oM s2 (.c (.str []))]) (.seq (.reg [oP s3 (.bld [(.str []),(.str []),(.str []),(.str []),(.str []),(.str []),(.str []),(.str []),(.str []),(.str []),(.str []),(.str []),(.str []),(.str []),(.str []),(.str []),(.str []),(.str []),(.str []),(.str []),(.str []),(.str [])] [(15,1,(.c (.str [42]))),(16,1,(.c (.str [43]))),(17,1,(.c (.str [45]))),(18,1,(.c (.str [61,61]))),(19,1,(.c (.str [60]))),(20,1,(.c (.str [97,110,100]))),(21,1,(.c (.str [111,114])))]),oM s4 t0,oP s5 (.ixa 22 1 false t3 t4),oM s2 t5]) .ret)),0,[.t s2],none⟩
def f332:FI:=⟨(.seq (.reg [oM s4 (.c (.bool false))]) (.seq (.reg [oM s5 t0,oM s6 t1,oC s7 347 [t5,t6],oQ s8 .geq t7 (ci 0),oM s4 t8]) .ret)),0,[.t s4],none⟩
def f335:FI:=⟨(.seq (.reg [oX s2 (.box 0 false 406 2 t0) [],oM s4 (ci 0),oM s5 (.c (.bool false))]) (.seq (.seq (.reg [oR s7 (.ld true 2 t2),oM s8 t1,oC s9 348 [t7,t8],oQ s10 .eql t9 (ci 5)]) (.cond t10
 (.seq (.reg [oR s11 (.ld true 2 t2),oF s12 1 t2,oG s13 t12,oR s14 (.ld true 2 t2),oM s15 t1,oX s16 (.call 350 [t14,t15]) [(.c t12),(.l t2)],oX s17 (.call 49 [t13,t16]) [(.l t2)],oP s18 (.iad 1 t17 (ci 0)),oG s19 t18,oC s20 349 [t11,t19],oM s1 t20]) (.seq (.reg [oM s21 t1,oR s22 (.ld true 2 t2),oM s23 t1,oC s24 348 [t22,t23],oQ s25 .eql t24 (ci 6),oM s4 t21,oM s5 t25]) .ret))
 .skip)) (.seq (.reg [oR s26 (.ld true 2 t2),oM s27 t1,oC s28 348 [t26,t27],oM s6 t28]) (.seq (.reg [oM s29 t1,oM s30 t6,oQ s31 .eql t30 (ci 6),oM s32 t31,⟨some s33,some (s32,false),(.p (.mov t6))⟩,⟨some s34,some (s32,false),(.p (.bin .eql eI t33 (ci 8)))⟩,oP s35 (.pick t32 (.c (.bool true)) t34),oM s4 t29,oM s5 t35]) .ret)))),1,[.t s4,.t s5],none⟩
def b336x0:AC:=(.seq (.reg [oQ s66 .lss t65 t64]) (.seq (.cond t66
 .skip
 (.exit 2)) (.seq (.blk 3 (.seq (.reg [oP s67 (.iad 1 t63 t65),oL s68 t67,oM s13 t68]) (.seq (.reg [oF s70 1 t3,oG s71 t70,oM s72 t11,oM s73 t13,oC s74 47 [t71,t72,t73],oM s69 t74,oE s75 t69 0,oE s76 t69 1,oM s14 t75,oM s15 t76]) (.reg [oM s77 t1,oN s78 t77,oF s79 0 t78,oR s80 (.ld true 3 t5),oM s81 t11,oM s82 t13,oR s83 (.ld true 2 t3),oM s84 t14,oX s85 (.call 349 [t83,t84]) [(.l t5)],oP s86 (.bld [vz,(vi 0),(.str []),(.str []),(vi 0)] [(1,1,(ci 2)),(2,1,t81),(3,1,t82),(4,1,t85)]),oC s87 351 [t79,t80,t86]])))) (.reg [oQ s88 .add t65 (ci 1),oM s65 t88]))))
def b336x1:AC:=(.seq (.reg [oQ s35 .lss t34 t33]) (.seq (.cond t35
 .skip
 (.exit 0)) (.seq (.blk 1 (.seq (.reg [oM s36 t34,oP s37 (.iad 1 t32 t34),oL s38 t37,oM s9 t36,oM s10 t38]) (.reg [oM s39 t1,oN s40 t39,oF s41 0 t40,oR s42 (.ld true 3 t5),oM s43 t7,oM s44 t10,oR s45 (.ld true 2 t3),oM s46 t8,oM s47 t9,oP s48 (.iad 1 t46 t47),oG s49 t48,oX s50 (.call 349 [t45,t49]) [(.l t5)],oP s51 (.bld [vz,(vi 0),(.str []),(.str []),(vi 0)] [(1,1,t43),(3,1,t44),(4,1,t50)]),oC s52 351 [t41,t42,t51]]))) (.reg [oQ s53 .add t34 (ci 1),oM s34 t53]))))
def f336:FI:=⟨(.seq (.reg [oX s3 (.box 0 false 406 2 t0) [],oX s5 (.box 1 false 462 3 t2) []]) (.seq (.reg [oR s16 (.ld true 2 t3),oF s17 0 t5,oG s18 t17,oC s19 350 [t16,t18],oM s6 t19]) (.seq (.reg [oM s7 (ci 1)]) (.seq (.seq (.reg [oF s20 1 t3,oG s21 t20,oM s22 t6,oC s23 53 [t21,t22],oQ s24 .eql t23 (ci 8)]) (.cond t24
 (.reg [oM s7 (ci 3)])
 .skip)) (.seq (.reg [oF s25 1 t3,oG s26 t25,oM s27 t6,oC s28 49 [t26,t27],oM s8 t28]) (.seq (.seq (.reg [oF s29 1 t3,oG s30 t29,oM s31 t6,oC s32 105 [t30,t31],oP s33 (.len false t32),oM s34 (ci 0)]) (.blk 0 (.loop b336x1))) (.seq (.reg [oF s54 1 t3,oG s55 t54,oM s56 t6,oC s57 166 [t55,t56],oM s11 t57]) (.seq (.seq (.reg [oM s58 t11,oP s59 (.bin .eql eS t58 (.c (.str [])))]) (.cond t59
 .ret
 .skip)) (.seq (.reg [oF s60 1 t3,oG s61 t60,oM s62 t11,oC s63 167 [t61,t62],oP s64 (.len false t63),oM s65 (ci 0)]) (.blk 2 (.loop b336x0))))))))))),2,[],none⟩
def b337x0:AC:=(.seq (.reg [oQ s114 .lss t113 t112]) (.seq (.cond t114
 .skip
 (.exit 4)) (.seq (.blk 5 (.seq (.reg [oP s115 (.iad 3 t111 t113),oR s116 (.ld true 3 t115),oX s21 (.new 3 false false (.cells 462 [(vi 0),(vi 0),vz])) [],oS 3 t21 t116]) (.reg [oM s117 t2,oF s118 0 t21,oG s119 t118,oR s120 (.lku false [.i] false (vi 0) t117 t119),oQ s121 .add t120 (ci 1),oY (.mup false [.i] t117 t119 t121) []]))) (.reg [oQ s122 .add t113 (ci 1),oM s113 t122]))))
def b337x1:AC:=(.seq (.reg [oQ s47 .lss t46 t45]) (.seq (.cond t47
 .skip
 (.exit 2)) (.seq (.blk 3 (.seq (.reg [oM s48 t46,oP s49 (.iad 1 t44 t46),oG s50 t49,oM s14 t48,oM s15 t50]) (.seq (.seq (.reg [oM s51 t15,oP s52 (.un .not t51)]) (.cond t52
 (.exit 3)
 .skip)) (.seq (.reg [oR s54 (.ld true 2 t3),oR s55 (.ld true 2 t3),oM s56 t13,oM s57 t14,oP s58 (.iad 1 t56 t57),oG s59 t58,oX s60 (.call 349 [t55,t59]) [(.l t3)],oC s61 335 [t54,t60],oM s53 t61,oE s62 t53 0,oE s63 t53 1,oM s16 t62,oM s17 t63]) (.seq (.seq (.reg [oM s64 t17,oP s65 (.un .not t64),oM s66 t65,⟨some s67,some (s66,false),(.p (.mov t2))⟩,⟨some s68,some (s66,false),(.p (.mov t16))⟩,⟨some s69,some (s66,false),(.r (.lku false [.i] false (vi 0) t67 t68))⟩,⟨some s70,some (s66,false),(.p (.bin .gtr eI t69 (ci 0)))⟩,oP s71 (.pick t66 (.c (.bool true)) t70)]) (.cond t71
 (.exit 3)
 .skip)) (.seq (.seq (.reg [oM s73 t8,oM s74 t16,oR s75 (.lku false [.i] true (vi 0) t73 t74),oM s72 t75,oE s76 t72 0,oE s77 t72 1,oM s18 t76,oM s19 t77]) (.seq (.reg [oM s78 t19]) (.cond t78
 (.seq (.reg [oM s79 t7,oM s80 t18,oP s81 (.iad 3 t79 t80),oF s82 1 t81,oS 1 t82 (ci 2)]) (.exit 3))
 .skip))) (.seq (.reg [oM s83 t8,oM s84 t16,oM s85 t7,oP s86 (.len false t85),oY (.mup false [.i] t83 t84 t86) []]) (.reg [oM s87 t7,oM s88 t16,oF s89 1 t10,oG s90 t89,oF s91 2 t10,oL s92 t91,oF s93 2 t10,oL s94 t93,oP s95 (.len false t94),oF s96 2 t10,oL s97 t96,oP s98 (.len false t97),oP s99 (.sls false 1 t92 none (some t95) (some t98)),oM s100 t12,oM s101 t14,oP s102 (.iad 1 t100 t101),oL s103 t102,oP s104 (.bsl 1 1 (.str []) [(0,t103)]),oX s105 (.app 3 0 1 (.str []) 16 t99 t104) [(.c t89)],oP s106 (.bld [(vi 0),(vi 0),vz] [(0,1,t88),(1,1,t90),(2,1,t105)]),oP s107 (.bsl 1 3 (.agg [(vi 0),(vi 0),vz]) [(0,t106)]),oX s108 (.app 3 0 3 (.agg [(vi 0),(vi 0),vz]) 40 t87 t107) [],oM s7 t108])))))))) (.reg [oQ s109 .add t46 (ci 1),oM s46 t109]))))
def b337x2:AC:=(.seq (.reg [oQ s26 .lss t25 t24]) (.seq (.cond t26
 .skip
 (.exit 0)) (.seq (.blk 1 (.seq (.reg [oP s27 (.iad 3 t23 t25),oR s28 (.ld true 3 t27),oX s10 (.new 2 false false (.cells 462 [(vi 0),(vi 0),vz])) [],oS 3 t10 t28]) (.seq (.reg [oR s29 (.ld true 2 t3),oF s30 0 t10,oG s31 t30,oC s32 350 [t29,t31],oM s11 t32]) (.seq (.reg [oF s33 1 t3,oG s34 t33,oM s35 t11,oF s37 1 t3,oG s38 t37,oM s39 t11,oX s36 (.call 105 [t34,t35]) [(.c t37)],oC s40 49 [t38,t39],oM s12 t36,oM s13 t40]) (.seq (.reg [oF s41 1 t3,oG s42 t41,oM s43 t11,oC s44 214 [t42,t43],oP s45 (.len false t44),oM s46 (ci 0)]) (.blk 2 (.loop b337x1))))))) (.reg [oQ s110 .add t25 (ci 1),oM s25 t110]))))
def f337:FI:=⟨(.seq (.reg [oX s3 (.box 0 false 406 2 t0) [],oM s6 (.c vz)]) (.seq (.reg [oM s7 (.c vz)]) (.seq (.reg [oX s22 (.new 1 false true (.map [])) [],oM s8 t22]) (.seq (.seq (.reg [oM s23 t1,oP s24 (.len false t23),oM s25 (ci 0)]) (.blk 0 (.loop b337x2))) (.seq (.seq (.reg [oM s111 t7,oP s112 (.len false t111),oM s113 (ci 0)]) (.blk 4 (.loop b337x0))) (.seq (.reg [oM s123 t7,oM s6 t123]) .ret)))))),4,[.t s6],none⟩
def f338:FI:=⟨(.seq (.reg [oM s4 (.c vz)]) (.seq (.reg [oM s6 t0,oM s7 t1,oC s8 353 [t6,t7],oC s9 352 [t8,(.c (.fn 354 [] []))],oM s5 t9]) (.seq (.reg [oM s10 t5,oM s11 t5,oP s12 (.len false t11),oM s13 t5,oP s14 (.len false t13),oP s15 (.sls false 5 t10 none (some t12) (some t14)),oM s4 t15]) .ret))),0,[.t s4],none⟩
def f339:FI:=⟨(.seq (.reg [oM s2 (.c (.bool false))]) (.seq (.reg [oM s3 t0,oC s4 355 [t3],oM s5 t4,⟨some s6,some (s5,false),(.p (.mov t0))⟩,⟨some s7,some (s5,false),(.e (.call 356 [t6]) [])⟩,oP s8 (.pick t5 (.c (.bool true)) t7),oM s2 t8]) .ret)),0,[.t s2],none⟩
def f340:FI:=⟨(.seq (.reg [oM s2 (.c (.bool false))]) (.seq (.reg [oM s3 t0,oQ s4 .geq t3 (cu 48),oM s5 t4,⟨some s6,some (s5,true),(.p (.mov t0))⟩,⟨some s7,some (s5,true),(.p (.bin .leq eI t6 (cu 57)))⟩,oP s8 (.pick t5 t7 (.c (.bool false))),oM s2 t8]) .ret)),0,[.t s2],none⟩
def b342x0:AC:=(.seq (.reg [oQ s75 .lss t74 t73]) (.seq (.cond t75
 .skip
 (.exit 2)) (.seq (.blk 3 (.seq (.reg [oP s76 (.iad 1 t72 t74),oL s77 t76,oM s8 t77]) (.seq (.reg [oM s78 t8,oF s79 2 t3,oL s80 t79,oP s81 (.bin .eql eS t78 t80)]) (.cond t81
 (.reg [oF s82 1 t3,oS 1 t82 (ci 3)])
 .skip)))) (.reg [oQ s83 .add t74 (ci 1),oM s74 t83]))))
def b342x1:AC:=(.seq (.seq (.reg [oM s13 t0,oN s14 t13,oF s15 1 t14,oG s16 t15,oM s17 t0,oN s18 t17,oF s19 0 t18,oL s20 t19,oP s21 (.len true t20),oQ s22 .lss t16 t21,oM s23 t22,⟨some s24,some (s23,true),(.p (.mov t0))⟩,⟨some s25,some (s23,true),(.p (.nilc t24))⟩,⟨some s26,some (s23,true),(.p (.fad 0 t25))⟩,⟨some s27,some (s23,true),(.r (.ld false 1 t26))⟩,⟨some s28,some (s23,true),(.p (.mov t0))⟩,⟨some s29,some (s23,true),(.p (.nilc t28))⟩,⟨some s30,some (s23,true),(.p (.fad 1 t29))⟩,⟨some s31,some (s23,true),(.r (.ldc t30))⟩,⟨some s32,some (s23,true),(.p (.ixs t27 t31))⟩,⟨some s33,some (s23,true),(.e (.call 358 [t32]) [])⟩,oP s34 (.pick t23 t33 (.c (.bool false)))]) (.cond t34
 .skip
 (.exit 0))) (.blk 1 (.seq (.seq (.reg [oM s35 t0,oN s36 t35,oF s37 1 t36,oG s38 t37,oM s39 t6,oQ s40 .sub t38 t39,oQ s41 .eql t40 (ci 32)]) (.cond t41
 (.seq (.reg [oR s42 (.ld true 4 t3),oM s43 t0,oN s44 t43,oF s45 1 t44,oG s46 t45,oX s47 (.call 359 [t46,(ci 2)]) [(.l t3)],oS 4 t4 t42,oM s5 t47]) .ret)
 .skip)) (.reg [oM s48 t0,oN s49 t48,oF s50 1 t49,oG s51 t50,oQ s52 .add t51 (ci 1),oN s53 t48,oF s54 1 t53,oS 1 t54 t52]))))
def f342:FI:=⟨(.seq (.reg [oX s3 (.box 0 false 114 4 t1) [],oX s4 (.new 1 false false (.cells 114 [(vi 0),(vi 0),(.str []),(vi 0)])) [],oM s5 (.c .nilp)]) (.seq (.reg [oM s9 t0,oN s10 t9,oF s11 1 t10,oG s12 t11,oM s6 t12]) (.seq (.blk 0 (.loop b342x1)) (.seq (.reg [oM s55 t0,oN s56 t55,oF s57 0 t56,oL s58 t57,oM s59 t6,oM s60 t0,oN s61 t60,oF s62 1 t61,oG s63 t62,oP s64 (.sls true 0 t58 (some t59) (some t63) none),oF s65 2 t3,oS 1 t65 t64]) (.seq (.reg [oF s66 1 t3,oS 1 t66 (ci 1)]) (.seq (.seq (.reg [oF s67 2 t3,oL s68 t67,oP s69 (.ixs t68 (ci 0)),oC s70 356 [t69]]) (.cond t70
 (.reg [oF s71 1 t3,oS 1 t71 (ci 2)])
 .skip)) (.seq (.seq (.reg [oC s72 360 [],oP s73 (.len false t72),oM s74 (ci 0)]) (.blk 2 (.loop b342x0))) (.seq (.reg [oR s84 (.ld true 4 t3),oS 4 t4 t84,oM s5 (.c .nilp)]) .ret)))))))),2,[.c true 4 s4,.t s5],none⟩
end Go.Abs.Run
namespace Go.Abs.Run
open Go Go.Abs Go.Proofs
def b344x0:AC:=(.seq (.seq (.reg [oM s15 t0,oN s16 t15,oF s17 1 t16,oG s18 t17,oM s19 t0,oN s20 t19,oF s21 0 t20,oL s22 t21,oP s23 (.len true t22),oQ s24 .lss t18 t23]) (.cond t24
 .skip
 (.exit 0))) (.seq (.blk 1 (.seq (.reg [oM s32 t0,oN s33 t32,oF s34 0 t33,oL s35 t34,oM s36 t0,oN s37 t36,oF s38 1 t37,oG s39 t38,oP s40 (.ixs t35 t39),oM s7 t40]) (.blk 2 (.seq (.reg [oM s46 t7,oQ s47 .eql t46 (cu 34),oM s45 t47]) (.cond t45
 (.seq (.reg [oM s48 t0,oN s49 t48,oF s50 1 t49,oG s51 t50,oQ s52 .add t51 (ci 1),oN s53 t48,oF s54 1 t53,oS 1 t54 t52]) (.seq (.reg [oM s55 t6,oR s56 (.b2s t55),oF s57 1 t3,oY (.st 1 t57 (ci 5)) [(.l t55)],oF s58 2 t3,oS 1 t58 t56]) (.seq (.reg [oR s59 (.ld true 4 t3),oS 4 t4 t59,oM s5 (.c .nilp)]) .ret)))
 (.seq (.reg [oM s61 t7,oQ s62 .eql t61 (cu 92),oM s60 t62]) (.cond t60
 (.seq (.reg [oM s63 t0,oN s64 t63,oF s65 1 t64,oG s66 t65,oQ s67 .add t66 (ci 1),oN s68 t63,oF s69 1 t68,oS 1 t69 t67]) (.seq (.seq (.reg [oM s70 t0,oN s71 t70,oF s72 1 t71,oG s73 t72,oM s74 t0,oN s75 t74,oF s76 0 t75,oL s77 t76,oP s78 (.len true t77),oQ s79 .eql t73 t78]) (.cond t79
 (.seq (.reg [oR s80 (.ld true 4 t3),oM s81 t0,oN s82 t81,oF s83 1 t82,oG s84 t83,oX s85 (.call 359 [t84,(ci 12)]) [(.l t3)],oS 4 t4 t80,oM s5 t85]) .ret)
 .skip)) (.seq (.reg [oM s86 t0,oN s87 t86,oF s88 0 t87,oL s89 t88,oM s90 t0,oN s91 t90,oF s92 1 t91,oG s93 t92,oP s94 (.ixs t89 t93)]) (.blk 3 (.seq (.reg [oQ s102 .eql t94 (cu 110),oM s101 t102]) (.cond t101
 (.reg [oM s103 t6,oP s104 (.bsl 1 1 (vu 0) [(0,(cu 10))]),oX s105 (.app 2 0 1 (vu 0) 1 t103 t104) [],oM s6 t105])
 (.seq (.seq (.reg [oQ s107 .eql t94 (cu 34),oM s106 t107]) (.cond t106
 .skip
 (.reg [oQ s108 .eql t94 (cu 92),oM s106 t108]))) (.cond t106
 (.reg [oM s109 t6,oM s110 t0,oN s111 t110,oF s112 0 t111,oL s113 t112,oM s114 t0,oN s115 t114,oF s116 1 t115,oG s117 t116,oP s118 (.ixs t113 t117),oP s119 (.bsl 1 1 (vu 0) [(0,t118)]),oX s120 (.app 2 0 1 (vu 0) 1 t109 t119) [],oM s6 t120])
 (.seq (.reg [oR s95 (.ld true 4 t3),oM s96 t0,oN s97 t96,oF s98 1 t97,oG s99 t98,oX s100 (.call 359 [t99,(ci 12)]) [(.l t3)],oS 4 t4 t95,oM s5 t100]) .ret)))))))))
 (.seq (.reg [oM s122 t7,oQ s123 .lss t122 (cu 32),oM s124 t123,⟨some s125,some (s124,false),(.p (.mov t7))⟩,⟨some s126,some (s124,false),(.p (.bin .gtr eI t125 (cu 126)))⟩,oP s127 (.pick t124 (.c (.bool true)) t126),oM s121 t127]) (.cond t121
 (.seq (.reg [oR s128 (.ld true 4 t3),oM s129 t0,oN s130 t129,oF s131 1 t130,oG s132 t131,oX s133 (.call 359 [t132,(ci 12)]) [(.l t3)],oS 4 t4 t128,oM s5 t133]) .ret)
 (.reg [oM s41 t6,oM s42 t7,oP s43 (.bsl 1 1 (vu 0) [(0,t42)]),oX s44 (.app 2 0 1 (vu 0) 1 t41 t43) [],oM s6 t44])))))))))) (.reg [oM s25 t0,oN s26 t25,oF s27 1 t26,oG s28 t27,oQ s29 .add t28 (ci 1),oN s30 t25,oF s31 1 t30,oS 1 t31 t29])))
def f344:FI:=⟨(.seq (.reg [oX s3 (.box 0 false 114 4 t1) [],oX s4 (.new 1 false false (.cells 114 [(vi 0),(vi 0),(.str []),(vi 0)])) [],oM s5 (.c .nilp)]) (.seq (.reg [oM s6 (.c vz)]) (.seq (.seq (.reg [oM s8 t0,oN s9 t8,oF s10 1 t9,oG s11 t10,oQ s12 .add t11 (ci 1),oN s13 t8,oF s14 1 t13,oS 1 t14 t12]) (.blk 0 (.loop b344x0))) (.seq (.reg [oR s134 (.ld true 4 t3),oM s135 t0,oN s136 t135,oF s137 1 t136,oG s138 t137,oX s139 (.call 359 [t138,(ci 12)]) [(.l t3)],oS 4 t4 t134,oM s5 t139]) .ret)))),2,[.c true 4 s4,.t s5],none⟩
def f345:FI:=⟨(.seq (.reg [oM s2 (.c (.bool false))]) (.seq (.reg [oM s3 t0,oC s4 185 [(ci 5),t3],oM s2 t4]) .ret)),0,[.t s2],none⟩
def b347x0:AC:=(.seq (.reg [oQ s9 .lss t8 t7]) (.seq (.cond t9
 .skip
 (.exit 0)) (.seq (.blk 1 (.seq (.reg [oM s10 t8,oM s5 t10]) (.seq (.reg [oM s11 t1,oM s12 t0,oM s13 t5,oP s14 (.iad 1 t12 t13),oG s15 t14,oQ s16 .eql t11 t15]) (.cond t16
 (.seq (.reg [oM s17 t5,oM s4 t17]) .ret)
 .skip)))) (.reg [oQ s18 .add t8 (ci 1),oM s8 t18]))))
def f347:FI:=⟨(.seq (.reg [oM s4 (ci 0)]) (.seq (.seq (.reg [oM s6 t0,oP s7 (.len false t6),oM s8 (ci 0)]) (.blk 0 (.loop b347x0))) (.seq (.reg [oM s4 (.c (vj 0))]) .ret))),0,[.t s4],none⟩
def f348:FI:=⟨(.seq (.reg [oX s2 (.box 0 false 406 2 t0) [],oM s4 (ci 0)]) (.seq (.reg [oF s5 1 t2,oG s6 t5,oR s7 (.ld true 2 t2),oM s8 t1,oX s9 (.call 350 [t7,t8]) [(.c t5)],oC s10 53 [t6,t9],oM s4 t10]) .ret)),1,[.t s4],none⟩
def f349:FI:=⟨(.seq (.reg [oX s2 (.box 0 false 406 2 t0) [],oM s4 (ci 0)]) (.seq (.reg [oF s8 0 t2,oG s9 t8,oM s10 t1,oC s11 101 [t9,t10],oM s7 t11,oE s12 t7 0,oE s13 t7 1,oM s5 t12,oM s6 t13]) (.seq (.reg [oM s14 t5,oM s4 t14]) .ret))),1,[.t s4],none⟩
def f350:FI:=⟨(.seq (.reg [oX s2 (.box 0 false 406 2 t0) [],oM s4 (ci 0)]) (.seq (.reg [oF s8 0 t2,oG s9 t8,oM s10 t1,oC s11 52 [t9,t10],oM s7 t11,oE s12 t7 0,oE s13 t7 1,oM s5 t12,oM s6 t13]) (.seq (.reg [oM s14 t5,oM s4 t14]) .ret))),1,[.t s4],none⟩
def f351:FI:=⟨(.seq (.reg [oX s4 (.box 0 false 462 3 t1) [],oX s5 (.box 1 false 260 5 t2) []]) (.seq (.seq (.reg [oM s6 t0,oN s7 t6,oF s8 2 t7,oG s9 t8,oF s10 3 t5,oL s11 t10,oR s12 (.lku false [.s] false (vi 0) t9 t11),oQ s13 .eql t12 (ci 0)]) (.cond t13
 (.seq (.reg [oM s14 t0,oM s15 t0,oN s16 t15,oF s17 0 t16,oL s18 t17,oF s19 3 t5,oL s20 t19,oP s21 (.bsl 1 1 (.str []) [(0,t20)]),oX s22 (.app 2 0 1 (.str []) 16 t18 t21) [],oN s23 t14,oF s24 0 t23,oS 1 t24 t22]) (.seq (.reg [oF s25 2 t4,oL s26 t25,oF s27 0 t5,oS 1 t27 t26]) (.reg [oM s28 t0,oN s29 t28,oF s30 1 t29,oG s31 t30,oF s32 3 t5,oL s33 t32,oR s34 (.ld true 5 t5),oY (.mup false [.s] t31 t33 t34) []])))
 .skip)) (.reg [oM s35 t0,oN s36 t35,oF s37 2 t36,oG s38 t37,oF s39 3 t5,oL s40 t39,oM s41 t0,oN s42 t41,oF s43 2 t42,oG s44 t43,oF s45 3 t5,oL s46 t45,oR s47 (.lku false [.s] false (vi 0) t44 t46),oF s48 1 t4,oG s49 t48,oQ s50 .add t47 t49,oP s51 (.mm false (ci 2) t50),oY (.mup false [.s] t38 t40 t51) []]))),2,[],none⟩
def b352x0:AC:=(.seq (.seq (.reg [oM s16 t6,oM s17 t0,oP s18 (.len false t17),oQ s19 .lss t16 t18]) (.cond t19
 .skip
 (.exit 0))) (.seq (.blk 1 (.seq (.reg [oM s22 t0,oM s23 t6,oP s24 (.iad 5 t22 t23),oR s25 (.ld true 5 t24),oX s7 (.new 0 false false (.cells 260 [vz,(vi 0),(.str []),(.str []),(vi 0)])) [],oS 5 t7 t25]) (.seq (.reg [oM s26 t1,oR s27 (.ld true 5 t7),oX s28 (.callv t26 [t27]) [],oP s29 (.un .not t28)]) (.cond t29
 (.seq (.reg [oM s30 t0,oM s31 t5,oR s32 (.ld true 5 t7),oP s33 (.iad 5 t30 t31),oS 5 t33 t32]) (.reg [oM s34 t5,oQ s35 .add t34 (ci 1),oM s5 t35]))
 .skip)))) (.reg [oM s20 t6,oQ s21 .add t20 (ci 1),oM s6 t21])))
def f352:FI:=⟨(.seq (.reg [oM s4 (.c vz)]) (.seq (.reg [oM s8 t0,oM s9 t1,oC s10 362 [t8,t9],oM s5 t10]) (.seq (.seq (.reg [oM s11 t5,oQ s12 .eql t11 (.c (vj 0))]) (.cond t12
 (.seq (.reg [oM s13 t0,oM s4 t13]) .ret)
 .skip)) (.seq (.seq (.reg [oM s14 t5,oQ s15 .add t14 (ci 1),oM s6 t15]) (.blk 0 (.loop b352x0))) (.seq (.reg [oM s36 t0,oM s37 t5,oP s38 (.sls false 5 t36 (some t37) none none),oY (.clr 5 (.agg [vz,(vi 0),(.str []),(.str []),(vi 0)]) t38) []]) (.seq (.reg [oM s39 t0,oM s40 t5,oP s41 (.sls false 5 t39 none (some t40) none),oM s4 t41]) .ret)))))),1,[.t s4],none⟩
def f353:FI:=⟨(.seq (.reg [oM s4 (.c vz)]) (.seq (.reg [oM s10 t0,oM s11 t1,oC s12 273 [t10,t11],oM s9 t12,oE s13 t9 0,oE s14 t9 1,oX s5 (.new 0 false false (.cells 406 [.nilp,.nilp])) [],oS 2 t5 t13,oM s6 t14]) (.seq (.seq (.reg [oM s15 t6,oP s16 (.un .not t15)]) (.cond t16
 (.seq (.reg [oM s4 (.c vz)]) .ret)
 .skip)) (.seq (.reg [oX s17 (.new 1 false true (.map [])) [],oX s7 (.new 2 false false (.cells 94 [.nilm])) [],oS 1 t7 t17]) (.seq (.reg [oX s8 (.new 3 false false (.cells 466 [vz])) []]) (.seq (.reg [oR s18 (.ld true 2 t5),oM s19 t1,oP s20 (.mkf 363 [] [t7,t8]),oC s21 318 [t18,t19,t20]]) (.seq (.reg [oL s22 t8,oC s23 364 [t22,(.c (.fn 365 [] []))]]) (.seq (.reg [oL s24 t8,oM s4 t24]) .ret)))))))),4,[.t s4],none⟩
def f354:FI:=⟨(.seq (.reg [oX s1 (.box 0 false 260 5 t0) [],oM s2 (.c (.bool false))]) (.seq (.reg [oF s3 1 t1,oG s4 t3,oQ s5 .eql t4 (ci 1),oM s2 t5]) .ret)),1,[.t s2],none⟩
def f355:FI:=⟨(.seq (.reg [oM s2 (.c (.bool false))]) (.seq (.reg [oM s3 t0,oQ s4 .geq t3 (cu 97),oM s5 t4,⟨some s6,some (s5,true),(.p (.mov t0))⟩,⟨some s7,some (s5,true),(.p (.bin .leq eI t6 (cu 122)))⟩,oP s8 (.pick t5 t7 (.c (.bool false))),oM s2 t8]) .ret)),0,[.t s2],none⟩
def f356:FI:=⟨(.seq (.reg [oM s2 (.c (.bool false))]) (.seq (.reg [oM s3 t0,oQ s4 .geq t3 (cu 65),oM s5 t4,⟨some s6,some (s5,true),(.p (.mov t0))⟩,⟨some s7,some (s5,true),(.p (.bin .leq eI t6 (cu 90)))⟩,oP s8 (.pick t5 t7 (.c (.bool false))),oM s2 t8]) .ret)),0,[.t s2],none⟩
def f358:FI:=⟨(.seq (.reg [oM s2 (.c (.bool false))]) (.seq (.reg [oM s3 t0,oC s4 339 [t3],oM s5 t4,⟨some s6,some (s5,false),(.p (.mov t0))⟩,⟨some s7,some (s5,false),(.e (.call 340 [t6]) [])⟩,oP s8 (.pick t5 (.c (.bool true)) t7),oM s9 t8,⟨some s10,some (s9,false),(.p (.mov t0))⟩,⟨some s11,some (s9,false),(.p (.bin .eql eI t10 (cu 95)))⟩,oP s12 (.pick t9 (.c (.bool true)) t11),oM s2 t12]) .ret)),0,[.t s2],none⟩
def f360:FI:=⟨(.seq (.reg [oM s0 (.c vz)]) (.seq (.reg [oC s1 367 [(.c (.str [116,121,112,101,32,109,101,116,104,111,100,32,102,117,110,99,32,109,97,105,110,32,105,110,116,101,114,102,97,99,101,32,101,109,98,101,100,32,105,110,116,32,98,111,111,108,32,116,101,120,116,32,102,110,32,108,101,116,32,112,114,105,110,116,32,105,102,32,101,108,115,101,32,119,104,105,108,101,32,114,101,116,117,114,110,32,110,105,108,32,110,101,119,32,116,111,32,97,110,100,32,111,114,32,110,111,116,32,116,114,117,101,32,102,97,108,115,101,32,115,101,108,102]))],oM s0 t1]) .ret)),0,[.t s0],none⟩
def b362x0:AC:=(.seq (.reg [oQ s9 .lss t8 t7]) (.seq (.cond t9
 .skip
 (.exit 0)) (.seq (.blk 1 (.seq (.reg [oM s10 t8,oM s5 t10]) (.seq (.reg [oM s11 t1,oM s12 t0,oM s13 t5,oP s14 (.iad 5 t12 t13),oR s15 (.ld true 5 t14),oX s16 (.callv t11 [t15]) []]) (.cond t16
 (.seq (.reg [oM s17 t5,oM s4 t17]) .ret)
 .skip)))) (.reg [oQ s18 .add t8 (ci 1),oM s8 t18]))))
def f362:FI:=⟨(.seq (.reg [oM s4 (ci 0)]) (.seq (.seq (.reg [oM s6 t0,oP s7 (.len false t6),oM s8 (ci 0)]) (.blk 0 (.loop b362x0))) (.seq (.reg [oM s4 (.c (vj 0))]) .ret))),0,[.t s4],none⟩
def b363x0:AC:=(.seq (.reg [oQ s14 .lss t13 t12]) (.seq (.cond t14
 .skip
 (.exit 0)) (.seq (.blk 1 (.seq (.reg [oP s15 (.iad 1 t11 t13),oL s16 t15,oM s6 t16]) (.seq (.seq (.reg [oG s17 t1,oM s18 t6,oR s19 (.lku false [.s] false (vi 0) t17 t18),oQ s20 .gtr t19 (ci 0)]) (.cond t20
 (.exit 1)
 .skip)) (.seq (.reg [oG s21 t1,oM s22 t6,oM s23 t0,oN s24 t23,oF s25 0 t24,oF s26 2 t25,oG s27 t26,oM s28 t6,oR s29 (.lku false [.s] false (vi 0) t27 t28),oY (.mup false [.s] t21 t22 t29) []]) (.seq (.reg [oM s30 t0,oN s31 t30,oF s32 0 t31,oF s33 2 t32,oG s34 t33,oM s35 t6,oR s36 (.lku false [.s] false (vi 0) t34 t35),oQ s37 .eql t36 (ci 1)]) (.cond t37
 (.reg [oL s38 t2,oM s39 t0,oN s40 t39,oF s41 0 t40,oF s42 1 t41,oG s43 t42,oM s44 t6,oR s45 (.lku false [.s] false (.agg [vz,(vi 0),(.str []),(.str []),(vi 0)]) t43 t44),oX s46 (.call 275 [t45]) [(.l t2)],oP s47 (.bsl 1 5 (.agg [vz,(vi 0),(.str []),(.str []),(vi 0)]) [(0,t46)]),oX s48 (.app 0 2 5 (.agg [vz,(vi 0),(.str []),(.str []),(vi 0)]) 72 t38 t47) [],oS 1 t2 t48])
 .skip)))))) (.reg [oQ s49 .add t13 (ci 1),oM s13 t49]))))
def f363:FI:=⟨(.seq (.reg [oM s4 (.c (.bool false))]) (.seq (.seq (.reg [oM s7 t0,oN s8 t7,oF s9 0 t8,oF s10 0 t9,oL s11 t10,oP s12 (.len false t11),oM s13 (ci 0)]) (.blk 0 (.loop b363x0))) (.seq (.reg [oM s4 (.c (.bool true))]) .ret))),1,[.t s4],none⟩
def f364:FI:=⟨(.seq (.reg [oM s5 t0,oP s6 (.len false t5),oM s4 t6]) (.reg [oM s7 t0,oM s8 t4,oM s9 t4,oP s10 (.cvi .u64 t9),oC s11 150 [t10],oM s12 t1,oC s13 370 [t7,(ci 0),t8,t11,t12]])),0,[],none⟩
def f365:FI:=⟨(.seq (.reg [oX s2 (.box 0 false 260 5 t0) [],oX s3 (.box 1 false 260 5 t1) [],oM s4 (ci 0)]) (.seq (.blk 0 (.seq (.reg [oF s6 3 t2,oL s7 t6,oF s8 3 t3,oL s9 t8,oP s10 (.bin .lss eS t7 t9),oM s5 t10]) (.cond t5
 (.seq (.reg [oM s4 (.c (vj 0))]) .ret)
 (.seq (.reg [oF s12 3 t2,oL s13 t12,oF s14 3 t3,oL s15 t14,oP s16 (.bin .gtr eS t13 t15),oM s11 t16]) (.cond t11
 (.seq (.reg [oM s4 (ci 1)]) .ret)
 .skip))))) (.seq (.reg [oM s4 (ci 0)]) .ret))),2,[.t s4],none⟩
def b367x0:AC:=(.seq (.seq (.reg [oM s80 t12,oM s81 t0,oP s82 (.len true t81),oQ s83 .lss t80 t82,oM s84 t83,⟨some s85,some (s84,true),(.p (.mov t0))⟩,⟨some s86,some (s84,true),(.p (.mov t12))⟩,⟨some s87,some (s84,true),(.p (.ixs t85 t86))⟩,⟨some s88,some (s84,true),(.p (.iaa 256 1 (.c (.vp g3 0)) t87))⟩,⟨some s89,some (s84,true),(.r (.ldc t88))⟩,⟨some s90,some (s84,true),(.p (.bin .neq eI t89 (cu 0)))⟩,oP s91 (.pick t84 t90 (.c (.bool false)))]) (.cond t91
 .skip
 (.exit 6))) (.blk 7 (.reg [oM s92 t12,oQ s93 .add t92 (ci 1),oM s12 t93])))
def b367x1:AC:=(.seq (.seq (.reg [oM s57 t12,oM s58 t0,oP s59 (.len true t58),oQ s60 .lss t57 t59]) (.cond t60
 .skip
 (.exit 4))) (.blk 5 (.seq (.seq (.reg [oM s61 t0,oM s62 t12,oP s63 (.ixs t61 t62),oP s64 (.iaa 256 1 (.c (.vp g3 0)) t63),oG s65 t64,oQ s66 .eql t65 (cu 0)]) (.cond t66
 (.seq (.reg [oM s67 t12,oQ s68 .add t67 (ci 1),oM s12 t68]) (.exit 5))
 .skip)) (.seq (.reg [oM s69 t9,oM s70 t10,oM s71 t0,oM s72 t11,oM s73 t12,oP s74 (.sls true 0 t71 (some t72) (some t73) none),oP s75 (.iad 1 t69 t70),oS 1 t75 t74]) (.seq (.reg [oM s76 t10,oQ s77 .add t76 (ci 1),oM s10 t77]) (.seq (.reg [oM s78 t12,oQ s79 .add t78 (ci 1),oM s12 t79]) (.seq (.blk 6 (.loop b367x0)) (.reg [oM s94 t12,oM s11 t94]))))))))
def b367x2:AC:=(.seq (.seq (.reg [oM s42 t12,oM s43 t0,oP s44 (.len true t43),oQ s45 .lss t42 t44,oM s46 t45,⟨some s47,some (s46,true),(.p (.mov t0))⟩,⟨some s48,some (s46,true),(.p (.mov t12))⟩,⟨some s49,some (s46,true),(.p (.ixs t47 t48))⟩,⟨some s50,some (s46,true),(.p (.iaa 256 1 (.c (.vp g3 0)) t49))⟩,⟨some s51,some (s46,true),(.r (.ldc t50))⟩,⟨some s52,some (s46,true),(.p (.bin .neq eI t51 (cu 0)))⟩,oP s53 (.pick t46 t52 (.c (.bool false)))]) (.cond t53
 .skip
 (.exit 2))) (.blk 3 (.reg [oM s54 t12,oQ s55 .add t54 (ci 1),oM s12 t55])))
def b367x3:AC:=(.seq (.seq (.reg [oM s13 t6,oM s14 t0,oP s15 (.len true t14),oQ s16 .lss t13 t15]) (.cond t16
 .skip
 (.exit 0))) (.seq (.blk 1 (.seq (.reg [oM s19 t0,oM s20 t6,oP s21 (.ixs t19 t20),oM s7 t21]) (.seq (.reg [oM s22 t5,oM s23 t7,oQ s24 .or t22 t23,oM s5 t24]) (.seq (.reg [oM s25 t7,oP s26 (.iaa 256 1 (.c (.vp g3 0)) t25),oG s27 t26,oP s28 (.cvi .i64 t27),oM s8 t28]) (.seq (.reg [oM s29 t3,oM s30 t4,oM s31 t8,oP s32 (.un .xor t31),oQ s33 .and t30 t32,oQ s34 .add t29 t33,oM s3 t34]) (.reg [oM s35 t8,oM s4 t35])))))) (.reg [oM s17 t6,oQ s18 .add t17 (ci 1),oM s6 t18])))
def f367:FI:=⟨(.seq (.reg [oM s2 (.c vz)]) (.seq (.reg [oM s3 (ci 0)]) (.seq (.reg [oM s4 (ci 1)]) (.seq (.reg [oM s5 (cu 0)]) (.seq (.seq (.reg [oM s6 (ci 0)]) (.blk 0 (.loop b367x3))) (.seq (.seq (.reg [oM s36 t5,oQ s37 .geq t36 (cu 128)]) (.cond t37
 (.seq (.reg [oM s38 t0,oC s39 371 [t38,(.c (.fn 372 [] []))],oM s2 t39]) .ret)
 .skip)) (.seq (.reg [oM s40 t3,oX s41 (.mks 0 false true true 1 (.str []) 16 t40 t40) [],oM s9 t41]) (.seq (.reg [oM s10 (ci 0)]) (.seq (.reg [oM s11 (ci 0)]) (.seq (.reg [oM s12 (ci 0)]) (.seq (.blk 2 (.loop b367x2)) (.seq (.reg [oM s56 t12,oM s11 t56]) (.seq (.blk 4 (.loop b367x1)) (.seq (.seq (.reg [oM s95 t11,oM s96 t0,oP s97 (.len true t96),oQ s98 .lss t95 t97]) (.cond t98
 (.reg [oM s99 t9,oM s100 t10,oM s101 t0,oM s102 t11,oP s103 (.sls true 0 t101 (some t102) none none),oP s104 (.iad 1 t99 t100),oS 1 t104 t103])
 .skip)) (.seq (.reg [oM s105 t9,oM s2 t105]) .ret))))))))))))))),1,[.t s2],none⟩
def b370x0:AC:=(.blk 1 (.seq (.reg [oM s21 t2,oM s22 t1,oQ s23 .sub t21 t22,oM s12 t23]) (.seq (.seq (.reg [oM s24 t12,oQ s25 .leq t24 (ci 12)]) (.cond t25
 (.seq (.reg [oM s26 t0,oM s27 t1,oM s28 t2,oM s29 t4,oC s30 378 [t26,t27,t28,t29]]) .ret)
 .skip)) (.seq (.seq (.reg [oM s31 t3,oQ s32 .eql t31 (ci 0)]) (.cond t32
 (.seq (.reg [oM s33 t0,oM s34 t1,oM s35 t2,oM s36 t4,oC s37 379 [t33,t34,t35,t36]]) .ret)
 .skip)) (.seq (.seq (.reg [oM s38 t10,oP s39 (.un .not t38)]) (.cond t39
 (.seq (.reg [oM s40 t0,oM s41 t1,oM s42 t2,oM s43 t4,oC s44 380 [t40,t41,t42,t43]]) (.reg [oM s45 t3,oQ s46 .sub t45 (ci 1),oM s3 t46]))
 .skip)) (.seq (.reg [oM s48 t0,oM s49 t1,oM s50 t2,oM s51 t4,oC s52 381 [t48,t49,t50,t51],oM s47 t52,oE s53 t47 0,oE s54 t47 1,oM s13 t53,oM s14 t54]) (.seq (.seq (.reg [oM s55 t14,oQ s56 .eql t55 (ci 2)]) (.cond t56
 (.seq (.reg [oM s57 t0,oM s58 t1,oM s59 t2,oM s60 t4,oC s61 382 [t57,t58,t59,t60]]) (.seq (.reg [oM s62 t2,oQ s63 .sub t62 (ci 1),oM s64 t13,oM s65 t1,oQ s66 .sub t64 t65,oQ s67 .sub t63 t66,oM s13 t67]) (.reg [oM s14 (ci 1)])))
 .skip)) (.seq (.seq (.reg [oM s68 t10,oM s69 t68,⟨some s70,some (s69,true),(.p (.mov t11))⟩,oP s71 (.pick t69 t70 (.c (.bool false))),oM s72 t71,⟨some s73,some (s72,true),(.p (.mov t14))⟩,⟨some s74,some (s72,true),(.p (.bin .eql eI t73 (ci 1)))⟩,oP s75 (.pick t72 t74 (.c (.bool false)))]) (.cond t75
 (.seq (.reg [oM s76 t0,oM s77 t1,oM s78 t2,oM s79 t4,oC s80 383 [t76,t77,t78,t79]]) (.cond t80
 .ret
 .skip))
 .skip)) (.seq (.seq (.reg [oM s81 t1,oQ s82 .gtr t81 (ci 0),oM s83 t82,⟨some s84,some (s83,true),(.p (.mov t4))⟩,⟨some s85,some (s83,true),(.p (.mov t0))⟩,⟨some s86,some (s83,true),(.p (.mov t1))⟩,⟨some s87,some (s83,true),(.p (.bin .sub eI t86 (ci 1)))⟩,⟨some s88,some (s83,true),(.p (.iad 5 t85 t87))⟩,⟨some s89,some (s83,true),(.r (.ld true 5 t88))⟩,⟨some s90,some (s83,true),(.p (.mov t0))⟩,⟨some s91,some (s83,true),(.p (.mov t13))⟩,⟨some s92,some (s83,true),(.p (.iad 5 t90 t91))⟩,⟨some s93,some (s83,true),(.r (.ld true 5 t92))⟩,⟨some s94,some (s83,true),(.e (.callv t84 [t89,t93]) [])⟩,⟨some s95,some (s83,true),(.p (.bin .lss eI t94 (ci 0)))⟩,⟨some s96,some (s83,true),(.p (.un .not t95))⟩,oP s97 (.pick t83 t96 (.c (.bool false)))]) (.cond t97
 (.seq (.reg [oM s98 t0,oM s99 t1,oM s100 t2,oM s101 t13,oM s102 t4,oC s103 384 [t98,t99,t100,t101,t102],oM s15 t103]) (.seq (.reg [oM s104 t15,oM s1 t104]) (.exit 1)))
 .skip)) (.seq (.reg [oM s106 t0,oM s107 t1,oM s108 t2,oM s109 t13,oM s110 t4,oC s111 385 [t106,t107,t108,t109,t110],oM s105 t111,oE s112 t105 0,oE s113 t105 1,oM s16 t112,oM s17 t113]) (.seq (.reg [oM s114 t17,oM s11 t114]) (.seq (.reg [oM s115 t16,oM s116 t1,oQ s117 .sub t115 t116,oM s118 t2,oM s119 t16,oQ s120 .sub t118 t119,oM s18 t117,oM s19 t120]) (.seq (.reg [oM s121 t12,oQ s122 .quo t121 (ci 8),oM s20 t122]) (.seq (.reg [oM s123 t18,oM s124 t19,oQ s125 .lss t123 t124]) (.cond t125
 (.seq (.reg [oM s126 t18,oM s127 t20,oQ s128 .geq t126 t127,oM s10 t128]) (.seq (.reg [oM s129 t0,oM s130 t1,oM s131 t16,oM s132 t3,oM s133 t4,oC s134 370 [t129,t130,t131,t132,t133]]) (.reg [oM s135 t16,oQ s136 .add t135 (ci 1),oM s1 t136])))
 (.seq (.reg [oM s137 t19,oM s138 t20,oQ s139 .geq t137 t138,oM s10 t139]) (.seq (.reg [oM s140 t0,oM s141 t16,oQ s142 .add t141 (ci 1),oM s143 t2,oM s144 t3,oM s145 t4,oC s146 370 [t140,t142,t143,t144,t145]]) (.reg [oM s147 t16,oM s2 t147]))))))))))))))))))
def f370:FI:=⟨(.seq (.reg [oM s10 (.c (.bool true))]) (.seq (.reg [oM s11 (.c (.bool true))]) (.blk 0 (.loop b370x0)))),0,[],none⟩
def b378x0:AC:=(.seq (.seq (.reg [oM s18 t9,oM s19 t1,oQ s20 .gtr t18 t19,oM s21 t20,⟨some s22,some (s21,true),(.p (.mov t3))⟩,⟨some s23,some (s21,true),(.p (.mov t0))⟩,⟨some s24,some (s21,true),(.p (.mov t9))⟩,⟨some s25,some (s21,true),(.p (.iad 5 t23 t24))⟩,⟨some s26,some (s21,true),(.r (.ld true 5 t25))⟩,⟨some s27,some (s21,true),(.p (.mov t0))⟩,⟨some s28,some (s21,true),(.p (.mov t9))⟩,⟨some s29,some (s21,true),(.p (.bin .sub eI t28 (ci 1)))⟩,⟨some s30,some (s21,true),(.p (.iad 5 t27 t29))⟩,⟨some s31,some (s21,true),(.r (.ld true 5 t30))⟩,⟨some s32,some (s21,true),(.e (.callv t22 [t26,t31]) [])⟩,⟨some s33,some (s21,true),(.p (.bin .lss eI t32 (ci 0)))⟩,oP s34 (.pick t21 t33 (.c (.bool false)))]) (.cond t34
 .skip
 (.exit 2))) (.seq (.blk 3 (.reg [oM s37 t0,oM s38 t9,oM s39 t0,oM s40 t9,oQ s41 .sub t40 (ci 1),oM s42 t0,oM s43 t9,oQ s44 .sub t43 (ci 1),oP s45 (.iad 5 t42 t44),oR s46 (.ld true 5 t45),oM s47 t0,oM s48 t9,oP s49 (.iad 5 t47 t48),oR s50 (.ld true 5 t49),oP s51 (.iad 5 t37 t38),oS 5 t51 t46,oP s52 (.iad 5 t39 t41),oS 5 t52 t50])) (.reg [oM s35 t9,oQ s36 .sub t35 (ci 1),oM s9 t36])))
def b378x1:AC:=(.seq (.seq (.reg [oM s12 t8,oM s13 t2,oQ s14 .lss t12 t13]) (.cond t14
 .skip
 (.exit 0))) (.seq (.blk 1 (.seq (.reg [oM s17 t8,oM s9 t17]) (.blk 2 (.loop b378x0)))) (.reg [oM s15 t8,oQ s16 .add t15 (ci 1),oM s8 t16])))
def f378:FI:=⟨(.seq (.reg [oM s10 t1,oQ s11 .add t10 (ci 1),oM s8 t11]) (.blk 0 (.loop b378x1))),0,[],none⟩
end Go.Abs.Run
