/- On the way to: InterpLoops returns true; its listed variables read as the text lays them. -/
import Derived.Test.YthncagamgiogjaaGreatDoorA1
import Derived.Test.YthncagamgiogjaaGreatDoorProg
namespace Go.Abs.Run
open Go Go.Abs Go.Proofs
def s0:Pth:=.e
def s1:Pth:=.l s0
def s2:Pth:=.r s0
def s3:Pth:=.l s1
def s4:Pth:=.r s1
def s5:Pth:=.l s2
def s6:Pth:=.r s2
def s7:Pth:=.l s3
def s8:Pth:=.r s3
def s9:Pth:=.l s4
def s10:Pth:=.r s4
def s11:Pth:=.l s5
def s12:Pth:=.r s5
def s13:Pth:=.l s6
def s14:Pth:=.r s6
def s15:Pth:=.l s7
def s16:Pth:=.r s7
def s17:Pth:=.l s8
def s18:Pth:=.r s8
def s19:Pth:=.l s9
def s20:Pth:=.r s9
def s21:Pth:=.l s10
def s22:Pth:=.r s10
def s23:Pth:=.l s11
def s24:Pth:=.r s11
def s25:Pth:=.l s12
def s26:Pth:=.r s12
def s27:Pth:=.l s13
def s28:Pth:=.r s13
def s29:Pth:=.l s14
def s30:Pth:=.r s14
def s31:Pth:=.l s15
def s32:Pth:=.r s15
def s33:Pth:=.l s16
def s34:Pth:=.r s16
def s35:Pth:=.l s17
def s36:Pth:=.r s17
def s37:Pth:=.l s18
def s38:Pth:=.r s18
def s39:Pth:=.l s19
def s40:Pth:=.r s19
def s41:Pth:=.l s20
def s42:Pth:=.r s20
def s43:Pth:=.l s21
def s44:Pth:=.r s21
def s45:Pth:=.l s22
def s46:Pth:=.r s22
def s47:Pth:=.l s23
def s48:Pth:=.r s23
def s49:Pth:=.l s24
def s50:Pth:=.r s24
def s51:Pth:=.l s25
def s52:Pth:=.r s25
def s53:Pth:=.l s26
def s54:Pth:=.r s26
def s55:Pth:=.l s27
def s56:Pth:=.r s27
def s57:Pth:=.l s28
def s58:Pth:=.r s28
def s59:Pth:=.l s29
def s60:Pth:=.r s29
def s61:Pth:=.l s30
def s62:Pth:=.r s30
def s63:Pth:=.l s31
def s64:Pth:=.r s31
def s65:Pth:=.l s32
def s66:Pth:=.r s32
def s67:Pth:=.l s33
def s68:Pth:=.r s33
def s69:Pth:=.l s34
def s70:Pth:=.r s34
def s71:Pth:=.l s35
def s72:Pth:=.r s35
def s73:Pth:=.l s36
def s74:Pth:=.r s36
def s75:Pth:=.l s37
def s76:Pth:=.r s37
def s77:Pth:=.l s38
def s78:Pth:=.r s38
def s79:Pth:=.l s39
def s80:Pth:=.r s39
def s81:Pth:=.l s40
def s82:Pth:=.r s40
def s83:Pth:=.l s41
def s84:Pth:=.r s41
def s85:Pth:=.l s42
def s86:Pth:=.r s42
def s87:Pth:=.l s43
def s88:Pth:=.r s43
def s89:Pth:=.l s44
def s90:Pth:=.r s44
def s91:Pth:=.l s45
def s92:Pth:=.r s45
def s93:Pth:=.l s46
def s94:Pth:=.r s46
def s95:Pth:=.l s47
def s96:Pth:=.r s47
def s97:Pth:=.l s48
def s98:Pth:=.r s48
def s99:Pth:=.l s49
def s100:Pth:=.r s49
def s101:Pth:=.l s50
def s102:Pth:=.r s50
def s103:Pth:=.l s51
def s104:Pth:=.r s51
def s105:Pth:=.l s52
def s106:Pth:=.r s52
def s107:Pth:=.l s53
def s108:Pth:=.r s53
def s109:Pth:=.l s54
def s110:Pth:=.r s54
def s111:Pth:=.l s55
def s112:Pth:=.r s55
def s113:Pth:=.l s56
def s114:Pth:=.r s56
def s115:Pth:=.l s57
def s116:Pth:=.r s57
def s117:Pth:=.l s58
def s118:Pth:=.r s58
def s119:Pth:=.l s59
def s120:Pth:=.r s59
def s121:Pth:=.l s60
def s122:Pth:=.r s60
def s123:Pth:=.l s61
def s124:Pth:=.r s61
def s125:Pth:=.l s62
def s126:Pth:=.r s62
def s127:Pth:=.l s63
def s128:Pth:=.r s63
def s129:Pth:=.l s64
def s130:Pth:=.r s64
def s131:Pth:=.l s65
def s132:Pth:=.r s65
def s133:Pth:=.l s66
def s134:Pth:=.r s66
def s135:Pth:=.l s67
def s136:Pth:=.r s67
def s137:Pth:=.l s68
def s138:Pth:=.r s68
def s139:Pth:=.l s69
def s140:Pth:=.r s69
def s141:Pth:=.l s70
def s142:Pth:=.r s70
def s143:Pth:=.l s71
def s144:Pth:=.r s71
def s145:Pth:=.l s72
def s146:Pth:=.r s72
def s147:Pth:=.l s73
def s148:Pth:=.r s73
def s149:Pth:=.l s74
def s150:Pth:=.r s74
def s151:Pth:=.l s75
def s152:Pth:=.r s75
def s153:Pth:=.l s76
def s154:Pth:=.r s76
def s155:Pth:=.l s77
def s156:Pth:=.r s77
def s157:Pth:=.l s78
def s158:Pth:=.r s78
def s159:Pth:=.l s79
def s160:Pth:=.r s79
def s161:Pth:=.l s80
def s162:Pth:=.r s80
def s163:Pth:=.l s81
def s164:Pth:=.r s81
def s165:Pth:=.l s82
def s166:Pth:=.r s82
def s167:Pth:=.l s83
def s168:Pth:=.r s83
def s169:Pth:=.l s84
def s170:Pth:=.r s84
def s171:Pth:=.l s85
def s172:Pth:=.r s85
def s173:Pth:=.l s86
def s174:Pth:=.r s86
def s175:Pth:=.l s87
def s176:Pth:=.r s87
def s177:Pth:=.l s88
def s178:Pth:=.r s88
def s179:Pth:=.l s89
def s180:Pth:=.r s89
def s181:Pth:=.l s90
def s182:Pth:=.r s90
def s183:Pth:=.l s91
def s184:Pth:=.r s91
def s185:Pth:=.l s92
def s186:Pth:=.r s92
def s187:Pth:=.l s93
def s188:Pth:=.r s93
def s189:Pth:=.l s94
def s190:Pth:=.r s94
def s191:Pth:=.l s95
def s192:Pth:=.r s95
def s193:Pth:=.l s96
def s194:Pth:=.r s96
def s195:Pth:=.l s97
def s196:Pth:=.r s97
def s197:Pth:=.l s98
def s198:Pth:=.r s98
def s199:Pth:=.l s99
def s200:Pth:=.r s99
def s201:Pth:=.l s100
def s202:Pth:=.r s100
def s203:Pth:=.l s101
def s204:Pth:=.r s101
def s205:Pth:=.l s102
def s206:Pth:=.r s102
def s207:Pth:=.l s103
def s208:Pth:=.r s103
def s209:Pth:=.l s104
def s210:Pth:=.r s104
def s211:Pth:=.l s105
def s212:Pth:=.r s105
def s213:Pth:=.l s106
def s214:Pth:=.r s106
def s215:Pth:=.l s107
def s216:Pth:=.r s107
def s217:Pth:=.l s108
def s218:Pth:=.r s108
def s219:Pth:=.l s109
def s220:Pth:=.r s109
def s221:Pth:=.l s110
def s222:Pth:=.r s110
def s223:Pth:=.l s111
def s224:Pth:=.r s111
def s225:Pth:=.l s112
def s226:Pth:=.r s112
def s227:Pth:=.l s113
def s228:Pth:=.r s113
def s229:Pth:=.l s114
def s230:Pth:=.r s114
def s231:Pth:=.l s115
def s232:Pth:=.r s115
def s233:Pth:=.l s116
def s234:Pth:=.r s116
def s235:Pth:=.l s117
def s236:Pth:=.r s117
def s237:Pth:=.l s118
def s238:Pth:=.r s118
def s239:Pth:=.l s119
def s240:Pth:=.r s119
def s241:Pth:=.l s120
def s242:Pth:=.r s120
def s243:Pth:=.l s121
def s244:Pth:=.r s121
def s245:Pth:=.l s122
def s246:Pth:=.r s122
def s247:Pth:=.l s123
def s248:Pth:=.r s123
def s249:Pth:=.l s124
def s250:Pth:=.r s124
def s251:Pth:=.l s125
def s252:Pth:=.r s125
def s253:Pth:=.l s126
def s254:Pth:=.r s126
def s255:Pth:=.l s127
def s256:Pth:=.r s127
def s257:Pth:=.l s128
def s258:Pth:=.r s128
def s259:Pth:=.l s129
def s260:Pth:=.r s129
def s261:Pth:=.l s130
def s262:Pth:=.r s130
def s263:Pth:=.l s131
def s264:Pth:=.r s131
def s265:Pth:=.l s132
def s266:Pth:=.r s132
def s267:Pth:=.l s133
def s268:Pth:=.r s133
def s269:Pth:=.l s134
def s270:Pth:=.r s134
def s271:Pth:=.l s135
def s272:Pth:=.r s135
def s273:Pth:=.l s136
def s274:Pth:=.r s136
def s275:Pth:=.l s137
def s276:Pth:=.r s137
def s277:Pth:=.l s138
def s278:Pth:=.r s138
def s279:Pth:=.l s139
def s280:Pth:=.r s139
def s281:Pth:=.l s140
def s282:Pth:=.r s140
def s283:Pth:=.l s141
def s284:Pth:=.r s141
def s285:Pth:=.l s142
def t0:AX:=.t s0
def t1:AX:=.t s1
def t2:AX:=.t s2
def t3:AX:=.t s3
def t4:AX:=.t s4
def t5:AX:=.t s5
def t6:AX:=.t s6
def t7:AX:=.t s7
def t8:AX:=.t s8
def t9:AX:=.t s9
def t10:AX:=.t s10
def t11:AX:=.t s11
def t12:AX:=.t s12
def t13:AX:=.t s13
def t14:AX:=.t s14
def t15:AX:=.t s15
def t16:AX:=.t s16
def t17:AX:=.t s17
def t18:AX:=.t s18
def t19:AX:=.t s19
def t20:AX:=.t s20
def t21:AX:=.t s21
def t22:AX:=.t s22
def t23:AX:=.t s23
def t24:AX:=.t s24
def t25:AX:=.t s25
def t26:AX:=.t s26
def t27:AX:=.t s27
def t28:AX:=.t s28
def t29:AX:=.t s29
def t30:AX:=.t s30
def t31:AX:=.t s31
def t32:AX:=.t s32
def t33:AX:=.t s33
def t34:AX:=.t s34
def t35:AX:=.t s35
def t36:AX:=.t s36
def t37:AX:=.t s37
def t38:AX:=.t s38
def t39:AX:=.t s39
def t40:AX:=.t s40
def t41:AX:=.t s41
def t42:AX:=.t s42
def t43:AX:=.t s43
def t44:AX:=.t s44
def t45:AX:=.t s45
def t46:AX:=.t s46
def t47:AX:=.t s47
def t48:AX:=.t s48
def t49:AX:=.t s49
def t50:AX:=.t s50
def t51:AX:=.t s51
def t52:AX:=.t s52
def t53:AX:=.t s53
def t54:AX:=.t s54
def t55:AX:=.t s55
def t56:AX:=.t s56
def t57:AX:=.t s57
def t58:AX:=.t s58
def t59:AX:=.t s59
def t60:AX:=.t s60
def t61:AX:=.t s61
def t62:AX:=.t s62
def t63:AX:=.t s63
def t64:AX:=.t s64
def t65:AX:=.t s65
def t66:AX:=.t s66
def t67:AX:=.t s67
def t68:AX:=.t s68
def t69:AX:=.t s69
def t70:AX:=.t s70
def t71:AX:=.t s71
def t72:AX:=.t s72
def t73:AX:=.t s73
def t74:AX:=.t s74
def t75:AX:=.t s75
def t76:AX:=.t s76
def t77:AX:=.t s77
def t78:AX:=.t s78
def t79:AX:=.t s79
def t80:AX:=.t s80
def t81:AX:=.t s81
def t82:AX:=.t s82
def t83:AX:=.t s83
def t84:AX:=.t s84
def t85:AX:=.t s85
def t86:AX:=.t s86
def t87:AX:=.t s87
def t88:AX:=.t s88
def t89:AX:=.t s89
def t90:AX:=.t s90
def t91:AX:=.t s91
def t92:AX:=.t s92
def t93:AX:=.t s93
def t94:AX:=.t s94
def t95:AX:=.t s95
def t96:AX:=.t s96
def t97:AX:=.t s97
def t98:AX:=.t s98
def t99:AX:=.t s99
def t100:AX:=.t s100
def t101:AX:=.t s101
def t102:AX:=.t s102
def t103:AX:=.t s103
def t104:AX:=.t s104
def t105:AX:=.t s105
def t106:AX:=.t s106
def t107:AX:=.t s107
def t108:AX:=.t s108
def t109:AX:=.t s109
def t110:AX:=.t s110
def t111:AX:=.t s111
def t112:AX:=.t s112
def t113:AX:=.t s113
def t114:AX:=.t s114
def t115:AX:=.t s115
def t116:AX:=.t s116
def t117:AX:=.t s117
def t118:AX:=.t s118
def t119:AX:=.t s119
def t120:AX:=.t s120
def t121:AX:=.t s121
def t122:AX:=.t s122
def t123:AX:=.t s123
def t124:AX:=.t s124
def t125:AX:=.t s125
def t126:AX:=.t s126
def t127:AX:=.t s127
def t128:AX:=.t s128
def t129:AX:=.t s129
def t130:AX:=.t s130
def t131:AX:=.t s131
def t132:AX:=.t s132
def t133:AX:=.t s133
def t134:AX:=.t s134
def t135:AX:=.t s135
def t136:AX:=.t s136
def t137:AX:=.t s137
def t138:AX:=.t s138
def t139:AX:=.t s139
def t140:AX:=.t s140
def t141:AX:=.t s141
def t142:AX:=.t s142
def t143:AX:=.t s143
def t144:AX:=.t s144
def t145:AX:=.t s145
def t146:AX:=.t s146
def t147:AX:=.t s147
def t148:AX:=.t s148
def t149:AX:=.t s149
def t150:AX:=.t s150
def t151:AX:=.t s151
def t152:AX:=.t s152
def t153:AX:=.t s153
def t154:AX:=.t s154
def t155:AX:=.t s155
def t156:AX:=.t s156
def t157:AX:=.t s157
def t158:AX:=.t s158
def t159:AX:=.t s159
def t160:AX:=.t s160
def t161:AX:=.t s161
def t162:AX:=.t s162
def t163:AX:=.t s163
def t164:AX:=.t s164
def t165:AX:=.t s165
def t166:AX:=.t s166
def t167:AX:=.t s167
def t168:AX:=.t s168
def t169:AX:=.t s169
def t170:AX:=.t s170
def t171:AX:=.t s171
def t172:AX:=.t s172
def t173:AX:=.t s173
def t174:AX:=.t s174
def t175:AX:=.t s175
def t176:AX:=.t s176
def t177:AX:=.t s177
def t178:AX:=.t s178
def t179:AX:=.t s179
def t180:AX:=.t s180
def t181:AX:=.t s181
def t182:AX:=.t s182
def t183:AX:=.t s183
def t184:AX:=.t s184
def t185:AX:=.t s185
def t186:AX:=.t s186
def t187:AX:=.t s187
def t188:AX:=.t s188
def t189:AX:=.t s189
def t190:AX:=.t s190
def t191:AX:=.t s191
def t192:AX:=.t s192
def t193:AX:=.t s193
def t194:AX:=.t s194
def t195:AX:=.t s195
def t196:AX:=.t s196
def t197:AX:=.t s197
def t198:AX:=.t s198
def t199:AX:=.t s199
def t200:AX:=.t s200
def t201:AX:=.t s201
def t202:AX:=.t s202
def t203:AX:=.t s203
def t204:AX:=.t s204
def t205:AX:=.t s205
def t206:AX:=.t s206
def t207:AX:=.t s207
def t208:AX:=.t s208
def t209:AX:=.t s209
def t210:AX:=.t s210
def t211:AX:=.t s211
def t212:AX:=.t s212
def t213:AX:=.t s213
def t214:AX:=.t s214
def t215:AX:=.t s215
def t216:AX:=.t s216
def t217:AX:=.t s217
def t218:AX:=.t s218
def t219:AX:=.t s219
def t220:AX:=.t s220
def t221:AX:=.t s221
def t222:AX:=.t s222
def t223:AX:=.t s223
def t224:AX:=.t s224
def t225:AX:=.t s225
def t226:AX:=.t s226
def t227:AX:=.t s227
def t228:AX:=.t s228
def t229:AX:=.t s229
def t230:AX:=.t s230
def t231:AX:=.t s231
def t232:AX:=.t s232
def t233:AX:=.t s233
def t234:AX:=.t s234
def t235:AX:=.t s235
def t236:AX:=.t s236
def t237:AX:=.t s237
def t238:AX:=.t s238
def t239:AX:=.t s239
def t240:AX:=.t s240
def t241:AX:=.t s241
def t242:AX:=.t s242
def t243:AX:=.t s243
def t244:AX:=.t s244
def t245:AX:=.t s245
def t246:AX:=.t s246
def t247:AX:=.t s247
def t248:AX:=.t s248
def t249:AX:=.t s249
def t250:AX:=.t s250
def t251:AX:=.t s251
def t252:AX:=.t s252
def t253:AX:=.t s253
def t254:AX:=.t s254
def t255:AX:=.t s255
def t256:AX:=.t s256
def t257:AX:=.t s257
def t258:AX:=.t s258
def t259:AX:=.t s259
def t260:AX:=.t s260
def t261:AX:=.t s261
def t262:AX:=.t s262
def t263:AX:=.t s263
def t264:AX:=.t s264
def t265:AX:=.t s265
def t266:AX:=.t s266
def t267:AX:=.t s267
def t268:AX:=.t s268
def t269:AX:=.t s269
def t270:AX:=.t s270
def t271:AX:=.t s271
def t272:AX:=.t s272
def t273:AX:=.t s273
def t274:AX:=.t s274
def t275:AX:=.t s275
def t276:AX:=.t s276
def t277:AX:=.t s277
def t278:AX:=.t s278
def t279:AX:=.t s279
def t280:AX:=.t s280
def t281:AX:=.t s281
def t282:AX:=.t s282
def t283:AX:=.t s283
def t284:AX:=.t s284
def t285:AX:=.t s285
def vi (n:Nat):AV:=.int .i64 (.ofNat n)
def vj (n:Nat):AV:=.int .i64 (.negSucc n)
def vu (n:Nat):AV:=.int .u8 (.ofNat n)
def vz:AV:=.sl 1 0 []
def ci (n:Nat):AX:=.c (.int .i64 (.ofNat n))
def cu (n:Nat):AX:=.c (.int .u8 (.ofNat n))
def eI:EqK:=.cells false [.i]
def eS:EqK:=.cells false [.s]
def eB:EqK:=.cells false [.b]
def oM (d:Pth) (x:AX):AO:=⟨some d,none,.p (.mov x)⟩
def oN (d:Pth) (x:AX):AO:=⟨some d,none,.p (.nilc x)⟩
def oF (d:Pth) (n:Nat) (x:AX):AO:=⟨some d,none,.p (.fad n x)⟩
def oE (d:Pth) (x:AX) (n:Nat):AO:=⟨some d,none,.p (.ext x n)⟩
def oQ (d:Pth) (o:BinOp) (x y:AX):AO:=⟨some d,none,.p (.bin o (.cells false [.i]) x y)⟩
def oP (d:Pth) (o:PO):AO:=⟨some d,none,.p o⟩
def oG (d:Pth) (x:AX):AO:=⟨some d,none,.r (.ldc x)⟩
def oL (d:Pth) (x:AX):AO:=⟨some d,none,.r (.ld false 1 x)⟩
def oR (d:Pth) (o:RO):AO:=⟨some d,none,.r o⟩
def oC (d:Pth) (f:Nat) (l:List AX):AO:=⟨some d,none,.e (.call f l) []⟩
def oX (d:Pth) (o:EO) (w:List WX):AO:=⟨some d,none,.e o w⟩
def oS (n:Nat) (a x:AX):AO:=⟨none,none,.e (.st n a x) []⟩
def oY (o:EO) (w:List WX):AO:=⟨none,none,.e o w⟩
def n2:List Nat:=[1,10,100,1000,10000,100000,1000000,10000000,100000000,1000000000,10000000000,100000000000,1000000000000,10000000000000,100000000000000,1000000000000000,10000000000000000,100000000000000000,1000000000000000000,10000000000000000000]
def g2:List AV:=[.int .u64 (.ofNat 1),.int .u64 (.ofNat 10),.int .u64 (.ofNat 100),.int .u64 (.ofNat 1000),.int .u64 (.ofNat 10000),.int .u64 (.ofNat 100000),.int .u64 (.ofNat 1000000),.int .u64 (.ofNat 10000000),.int .u64 (.ofNat 100000000),.int .u64 (.ofNat 1000000000),.int .u64 (.ofNat 10000000000),.int .u64 (.ofNat 100000000000),.int .u64 (.ofNat 1000000000000),.int .u64 (.ofNat 10000000000000),.int .u64 (.ofNat 100000000000000),.int .u64 (.ofNat 1000000000000000),.int .u64 (.ofNat 10000000000000000),.int .u64 (.ofNat 100000000000000000),.int .u64 (.ofNat 1000000000000000000),.int .u64 (.ofNat 10000000000000000000)]
set_option maxRecDepth 100000 in
theorem g2_eq:g2=n2.map fun m=>.int .u64 (.ofNat m):=rfl
def n3:List Nat:=[0,0,0,0,0,0,0,0,0,1,1,1,1,1,0,0,0,0,0,0,0,0,0,0,0,0,0,0,0,0,0,0,1,0,0,0,0,0,0,0,0,0,0,0,0,0,0,0,0,0,0,0,0,0,0,0,0,0,0,0,0,0,0,0,0,0,0,0,0,0,0,0,0,0,0,0,0,0,0,0,0,0,0,0,0,0,0,0,0,0,0,0,0,0,0,0,0,0,0,0,0,0,0,0,0,0,0,0,0,0,0,0,0,0,0,0,0,0,0,0,0,0,0,0,0,0,0,0,0,0,0,0,0,0,0,0,0,0,0,0,0,0,0,0,0,0,0,0,0,0,0,0,0,0,0,0,0,0,0,0,0,0,0,0,0,0,0,0,0,0,0,0,0,0,0,0,0,0,0,0,0,0,0,0,0,0,0,0,0,0,0,0,0,0,0,0,0,0,0,0,0,0,0,0,0,0,0,0,0,0,0,0,0,0,0,0,0,0,0,0,0,0,0,0,0,0,0,0,0,0,0,0,0,0,0,0,0,0,0,0,0,0,0,0,0,0,0,0,0,0,0,0,0,0,0,0]
def g3:List AV:=[.int .u8 (.ofNat 0),.int .u8 (.ofNat 0),.int .u8 (.ofNat 0),.int .u8 (.ofNat 0),.int .u8 (.ofNat 0),.int .u8 (.ofNat 0),.int .u8 (.ofNat 0),.int .u8 (.ofNat 0),.int .u8 (.ofNat 0),.int .u8 (.ofNat 1),.int .u8 (.ofNat 1),.int .u8 (.ofNat 1),.int .u8 (.ofNat 1),.int .u8 (.ofNat 1),.int .u8 (.ofNat 0),.int .u8 (.ofNat 0),.int .u8 (.ofNat 0),.int .u8 (.ofNat 0),.int .u8 (.ofNat 0),.int .u8 (.ofNat 0),.int .u8 (.ofNat 0),.int .u8 (.ofNat 0),.int .u8 (.ofNat 0),.int .u8 (.ofNat 0),.int .u8 (.ofNat 0),.int .u8 (.ofNat 0),.int .u8 (.ofNat 0),.int .u8 (.ofNat 0),.int .u8 (.ofNat 0),.int .u8 (.ofNat 0),.int .u8 (.ofNat 0),.int .u8 (.ofNat 0),.int .u8 (.ofNat 1),.int .u8 (.ofNat 0),.int .u8 (.ofNat 0),.int .u8 (.ofNat 0),.int .u8 (.ofNat 0),.int .u8 (.ofNat 0),.int .u8 (.ofNat 0),.int .u8 (.ofNat 0),.int .u8 (.ofNat 0),.int .u8 (.ofNat 0),.int .u8 (.ofNat 0),.int .u8 (.ofNat 0),.int .u8 (.ofNat 0),.int .u8 (.ofNat 0),.int .u8 (.ofNat 0),.int .u8 (.ofNat 0),.int .u8 (.ofNat 0),.int .u8 (.ofNat 0),.int .u8 (.ofNat 0),.int .u8 (.ofNat 0),.int .u8 (.ofNat 0),.int .u8 (.ofNat 0),.int .u8 (.ofNat 0),.int .u8 (.ofNat 0),.int .u8 (.ofNat 0),.int .u8 (.ofNat 0),.int .u8 (.ofNat 0),.int .u8 (.ofNat 0),.int .u8 (.ofNat 0),.int .u8 (.ofNat 0),.int .u8 (.ofNat 0),.int .u8 (.ofNat 0),.int .u8 (.ofNat 0),.int .u8 (.ofNat 0),.int .u8 (.ofNat 0),.int .u8 (.ofNat 0),.int .u8 (.ofNat 0),.int .u8 (.ofNat 0),.int .u8 (.ofNat 0),.int .u8 (.ofNat 0),.int .u8 (.ofNat 0),.int .u8 (.ofNat 0),.int .u8 (.ofNat 0),.int .u8 (.ofNat 0),.int .u8 (.ofNat 0),.int .u8 (.ofNat 0),.int .u8 (.ofNat 0),.int .u8 (.ofNat 0),.int .u8 (.ofNat 0),.int .u8 (.ofNat 0),.int .u8 (.ofNat 0),.int .u8 (.ofNat 0),.int .u8 (.ofNat 0),.int .u8 (.ofNat 0),.int .u8 (.ofNat 0),.int .u8 (.ofNat 0),.int .u8 (.ofNat 0),.int .u8 (.ofNat 0),.int .u8 (.ofNat 0),.int .u8 (.ofNat 0),.int .u8 (.ofNat 0),.int .u8 (.ofNat 0),.int .u8 (.ofNat 0),.int .u8 (.ofNat 0),.int .u8 (.ofNat 0),.int .u8 (.ofNat 0),.int .u8 (.ofNat 0),.int .u8 (.ofNat 0),.int .u8 (.ofNat 0),.int .u8 (.ofNat 0),.int .u8 (.ofNat 0),.int .u8 (.ofNat 0),.int .u8 (.ofNat 0),.int .u8 (.ofNat 0),.int .u8 (.ofNat 0),.int .u8 (.ofNat 0),.int .u8 (.ofNat 0),.int .u8 (.ofNat 0),.int .u8 (.ofNat 0),.int .u8 (.ofNat 0),.int .u8 (.ofNat 0),.int .u8 (.ofNat 0),.int .u8 (.ofNat 0),.int .u8 (.ofNat 0),.int .u8 (.ofNat 0),.int .u8 (.ofNat 0),.int .u8 (.ofNat 0),.int .u8 (.ofNat 0),.int .u8 (.ofNat 0),.int .u8 (.ofNat 0),.int .u8 (.ofNat 0),.int .u8 (.ofNat 0),.int .u8 (.ofNat 0),.int .u8 (.ofNat 0),.int .u8 (.ofNat 0),.int .u8 (.ofNat 0),.int .u8 (.ofNat 0),.int .u8 (.ofNat 0),.int .u8 (.ofNat 0),.int .u8 (.ofNat 0),.int .u8 (.ofNat 0),.int .u8 (.ofNat 0),.int .u8 (.ofNat 0),.int .u8 (.ofNat 0),.int .u8 (.ofNat 0),.int .u8 (.ofNat 0),.int .u8 (.ofNat 0),.int .u8 (.ofNat 0),.int .u8 (.ofNat 0),.int .u8 (.ofNat 0),.int .u8 (.ofNat 0),.int .u8 (.ofNat 0),.int .u8 (.ofNat 0),.int .u8 (.ofNat 0),.int .u8 (.ofNat 0),.int .u8 (.ofNat 0),.int .u8 (.ofNat 0),.int .u8 (.ofNat 0),.int .u8 (.ofNat 0),.int .u8 (.ofNat 0),.int .u8 (.ofNat 0),.int .u8 (.ofNat 0),.int .u8 (.ofNat 0),.int .u8 (.ofNat 0),.int .u8 (.ofNat 0),.int .u8 (.ofNat 0),.int .u8 (.ofNat 0),.int .u8 (.ofNat 0),.int .u8 (.ofNat 0),.int .u8 (.ofNat 0),.int .u8 (.ofNat 0),.int .u8 (.ofNat 0),.int .u8 (.ofNat 0),.int .u8 (.ofNat 0),.int .u8 (.ofNat 0),.int .u8 (.ofNat 0),.int .u8 (.ofNat 0),.int .u8 (.ofNat 0),.int .u8 (.ofNat 0),.int .u8 (.ofNat 0),.int .u8 (.ofNat 0),.int .u8 (.ofNat 0),.int .u8 (.ofNat 0),.int .u8 (.ofNat 0),.int .u8 (.ofNat 0),.int .u8 (.ofNat 0),.int .u8 (.ofNat 0),.int .u8 (.ofNat 0),.int .u8 (.ofNat 0),.int .u8 (.ofNat 0),.int .u8 (.ofNat 0),.int .u8 (.ofNat 0),.int .u8 (.ofNat 0),.int .u8 (.ofNat 0),.int .u8 (.ofNat 0),.int .u8 (.ofNat 0),.int .u8 (.ofNat 0),.int .u8 (.ofNat 0),.int .u8 (.ofNat 0),.int .u8 (.ofNat 0),.int .u8 (.ofNat 0),.int .u8 (.ofNat 0),.int .u8 (.ofNat 0),.int .u8 (.ofNat 0),.int .u8 (.ofNat 0),.int .u8 (.ofNat 0),.int .u8 (.ofNat 0),.int .u8 (.ofNat 0),.int .u8 (.ofNat 0),.int .u8 (.ofNat 0),.int .u8 (.ofNat 0),.int .u8 (.ofNat 0),.int .u8 (.ofNat 0),.int .u8 (.ofNat 0),.int .u8 (.ofNat 0),.int .u8 (.ofNat 0),.int .u8 (.ofNat 0),.int .u8 (.ofNat 0),.int .u8 (.ofNat 0),.int .u8 (.ofNat 0),.int .u8 (.ofNat 0),.int .u8 (.ofNat 0),.int .u8 (.ofNat 0),.int .u8 (.ofNat 0),.int .u8 (.ofNat 0),.int .u8 (.ofNat 0),.int .u8 (.ofNat 0),.int .u8 (.ofNat 0),.int .u8 (.ofNat 0),.int .u8 (.ofNat 0),.int .u8 (.ofNat 0),.int .u8 (.ofNat 0),.int .u8 (.ofNat 0),.int .u8 (.ofNat 0),.int .u8 (.ofNat 0),.int .u8 (.ofNat 0),.int .u8 (.ofNat 0),.int .u8 (.ofNat 0),.int .u8 (.ofNat 0),.int .u8 (.ofNat 0),.int .u8 (.ofNat 0),.int .u8 (.ofNat 0),.int .u8 (.ofNat 0),.int .u8 (.ofNat 0),.int .u8 (.ofNat 0),.int .u8 (.ofNat 0),.int .u8 (.ofNat 0),.int .u8 (.ofNat 0),.int .u8 (.ofNat 0),.int .u8 (.ofNat 0),.int .u8 (.ofNat 0),.int .u8 (.ofNat 0),.int .u8 (.ofNat 0),.int .u8 (.ofNat 0),.int .u8 (.ofNat 0),.int .u8 (.ofNat 0),.int .u8 (.ofNat 0),.int .u8 (.ofNat 0),.int .u8 (.ofNat 0),.int .u8 (.ofNat 0),.int .u8 (.ofNat 0),.int .u8 (.ofNat 0),.int .u8 (.ofNat 0),.int .u8 (.ofNat 0)]
set_option maxRecDepth 100000 in
theorem g3_eq:g3=n3.map fun m=>.int .u8 (.ofNat m):=rfl
def gvs (g:Nat):Option (List AV):=cond (Nat.beq g 4) (some g3) (cond (Nat.beq g 1) (some g2) (none))
instance glob:Glob where
 gv:=gvs
 u8:=fun t=>u8B Tryz.prog t=true
noncomputable def zc (n m:Nat) (a b:AC):AC:=cond (Nat.blt n m) a b
noncomputable def dP0 (n:Nat) (k:Pth→AC):AC:=(zc n 8 (zc n 4 (zc n 2 (zc n 1 (k s0) (k s1)) (zc n 3 (k s2) (k s3))) (zc n 6 (zc n 5 (k s4) (k s5)) (zc n 7 (k s6) (k s7)))) (zc n 12 (zc n 10 (zc n 9 (k s8) (k s9)) (zc n 11 (k s10) (k s11))) (zc n 14 (zc n 13 (k s12) (k s13)) (zc n 15 (k s14) (k s15)))))
noncomputable def dP1 (n:Nat) (k:Pth→AC):AC:=(zc n 24 (zc n 20 (zc n 18 (zc n 17 (k s16) (k s17)) (zc n 19 (k s18) (k s19))) (zc n 22 (zc n 21 (k s20) (k s21)) (zc n 23 (k s22) (k s23)))) (zc n 28 (zc n 26 (zc n 25 (k s24) (k s25)) (zc n 27 (k s26) (k s27))) (zc n 30 (zc n 29 (k s28) (k s29)) (zc n 31 (k s30) (k s31)))))
noncomputable def dP2 (n:Nat) (k:Pth→AC):AC:=(zc n 40 (zc n 36 (zc n 34 (zc n 33 (k s32) (k s33)) (zc n 35 (k s34) (k s35))) (zc n 38 (zc n 37 (k s36) (k s37)) (zc n 39 (k s38) (k s39)))) (zc n 44 (zc n 42 (zc n 41 (k s40) (k s41)) (zc n 43 (k s42) (k s43))) (zc n 46 (zc n 45 (k s44) (k s45)) (zc n 47 (k s46) (k s47)))))
noncomputable def dP3 (n:Nat) (k:Pth→AC):AC:=(zc n 56 (zc n 52 (zc n 50 (zc n 49 (k s48) (k s49)) (zc n 51 (k s50) (k s51))) (zc n 54 (zc n 53 (k s52) (k s53)) (zc n 55 (k s54) (k s55)))) (zc n 60 (zc n 58 (zc n 57 (k s56) (k s57)) (zc n 59 (k s58) (k s59))) (zc n 62 (zc n 61 (k s60) (k s61)) (zc n 63 (k s62) (k s63)))))
noncomputable def dP4 (n:Nat) (k:Pth→AC):AC:=(zc n 72 (zc n 68 (zc n 66 (zc n 65 (k s64) (k s65)) (zc n 67 (k s66) (k s67))) (zc n 70 (zc n 69 (k s68) (k s69)) (zc n 71 (k s70) (k s71)))) (zc n 76 (zc n 74 (zc n 73 (k s72) (k s73)) (zc n 75 (k s74) (k s75))) (zc n 78 (zc n 77 (k s76) (k s77)) (zc n 79 (k s78) (k s79)))))
noncomputable def dP5 (n:Nat) (k:Pth→AC):AC:=(zc n 88 (zc n 84 (zc n 82 (zc n 81 (k s80) (k s81)) (zc n 83 (k s82) (k s83))) (zc n 86 (zc n 85 (k s84) (k s85)) (zc n 87 (k s86) (k s87)))) (zc n 92 (zc n 90 (zc n 89 (k s88) (k s89)) (zc n 91 (k s90) (k s91))) (zc n 94 (zc n 93 (k s92) (k s93)) (zc n 95 (k s94) (k s95)))))
noncomputable def dP6 (n:Nat) (k:Pth→AC):AC:=(zc n 104 (zc n 100 (zc n 98 (zc n 97 (k s96) (k s97)) (zc n 99 (k s98) (k s99))) (zc n 102 (zc n 101 (k s100) (k s101)) (zc n 103 (k s102) (k s103)))) (zc n 108 (zc n 106 (zc n 105 (k s104) (k s105)) (zc n 107 (k s106) (k s107))) (zc n 110 (zc n 109 (k s108) (k s109)) (zc n 111 (k s110) (k s111)))))
noncomputable def dP7 (n:Nat) (k:Pth→AC):AC:=(zc n 120 (zc n 116 (zc n 114 (zc n 113 (k s112) (k s113)) (zc n 115 (k s114) (k s115))) (zc n 118 (zc n 117 (k s116) (k s117)) (zc n 119 (k s118) (k s119)))) (zc n 124 (zc n 122 (zc n 121 (k s120) (k s121)) (zc n 123 (k s122) (k s123))) (zc n 126 (zc n 125 (k s124) (k s125)) (zc n 127 (k s126) (k s127)))))
noncomputable def dP8 (n:Nat) (k:Pth→AC):AC:=(zc n 136 (zc n 132 (zc n 130 (zc n 129 (k s128) (k s129)) (zc n 131 (k s130) (k s131))) (zc n 134 (zc n 133 (k s132) (k s133)) (zc n 135 (k s134) (k s135)))) (zc n 140 (zc n 138 (zc n 137 (k s136) (k s137)) (zc n 139 (k s138) (k s139))) (zc n 142 (zc n 141 (k s140) (k s141)) (zc n 143 (k s142) (k s143)))))
noncomputable def dP9 (n:Nat) (k:Pth→AC):AC:=(zc n 152 (zc n 148 (zc n 146 (zc n 145 (k s144) (k s145)) (zc n 147 (k s146) (k s147))) (zc n 150 (zc n 149 (k s148) (k s149)) (zc n 151 (k s150) (k s151)))) (zc n 156 (zc n 154 (zc n 153 (k s152) (k s153)) (zc n 155 (k s154) (k s155))) (zc n 158 (zc n 157 (k s156) (k s157)) (zc n 159 (k s158) (k s159)))))
noncomputable def dP10 (n:Nat) (k:Pth→AC):AC:=(zc n 168 (zc n 164 (zc n 162 (zc n 161 (k s160) (k s161)) (zc n 163 (k s162) (k s163))) (zc n 166 (zc n 165 (k s164) (k s165)) (zc n 167 (k s166) (k s167)))) (zc n 172 (zc n 170 (zc n 169 (k s168) (k s169)) (zc n 171 (k s170) (k s171))) (zc n 174 (zc n 173 (k s172) (k s173)) (zc n 175 (k s174) (k s175)))))
noncomputable def dP11 (n:Nat) (k:Pth→AC):AC:=(zc n 184 (zc n 180 (zc n 178 (zc n 177 (k s176) (k s177)) (zc n 179 (k s178) (k s179))) (zc n 182 (zc n 181 (k s180) (k s181)) (zc n 183 (k s182) (k s183)))) (zc n 188 (zc n 186 (zc n 185 (k s184) (k s185)) (zc n 187 (k s186) (k s187))) (zc n 190 (zc n 189 (k s188) (k s189)) (zc n 191 (k s190) (k s191)))))
noncomputable def dP12 (n:Nat) (k:Pth→AC):AC:=(zc n 200 (zc n 196 (zc n 194 (zc n 193 (k s192) (k s193)) (zc n 195 (k s194) (k s195))) (zc n 198 (zc n 197 (k s196) (k s197)) (zc n 199 (k s198) (k s199)))) (zc n 204 (zc n 202 (zc n 201 (k s200) (k s201)) (zc n 203 (k s202) (k s203))) (zc n 206 (zc n 205 (k s204) (k s205)) (zc n 207 (k s206) (k s207)))))
noncomputable def dP13 (n:Nat) (k:Pth→AC):AC:=(zc n 216 (zc n 212 (zc n 210 (zc n 209 (k s208) (k s209)) (zc n 211 (k s210) (k s211))) (zc n 214 (zc n 213 (k s212) (k s213)) (zc n 215 (k s214) (k s215)))) (zc n 220 (zc n 218 (zc n 217 (k s216) (k s217)) (zc n 219 (k s218) (k s219))) (zc n 222 (zc n 221 (k s220) (k s221)) (zc n 223 (k s222) (k s223)))))
noncomputable def dP14 (n:Nat) (k:Pth→AC):AC:=(zc n 232 (zc n 228 (zc n 226 (zc n 225 (k s224) (k s225)) (zc n 227 (k s226) (k s227))) (zc n 230 (zc n 229 (k s228) (k s229)) (zc n 231 (k s230) (k s231)))) (zc n 236 (zc n 234 (zc n 233 (k s232) (k s233)) (zc n 235 (k s234) (k s235))) (zc n 238 (zc n 237 (k s236) (k s237)) (zc n 239 (k s238) (k s239)))))
noncomputable def dP15 (n:Nat) (k:Pth→AC):AC:=(zc n 248 (zc n 244 (zc n 242 (zc n 241 (k s240) (k s241)) (zc n 243 (k s242) (k s243))) (zc n 246 (zc n 245 (k s244) (k s245)) (zc n 247 (k s246) (k s247)))) (zc n 252 (zc n 250 (zc n 249 (k s248) (k s249)) (zc n 251 (k s250) (k s251))) (zc n 254 (zc n 253 (k s252) (k s253)) (zc n 255 (k s254) (k s255)))))
noncomputable def dP16 (n:Nat) (k:Pth→AC):AC:=(zc n 264 (zc n 260 (zc n 258 (zc n 257 (k s256) (k s257)) (zc n 259 (k s258) (k s259))) (zc n 262 (zc n 261 (k s260) (k s261)) (zc n 263 (k s262) (k s263)))) (zc n 268 (zc n 266 (zc n 265 (k s264) (k s265)) (zc n 267 (k s266) (k s267))) (zc n 270 (zc n 269 (k s268) (k s269)) (zc n 271 (k s270) (k s271)))))
noncomputable def dP17 (n:Nat) (k:Pth→AC):AC:=(zc n 279 (zc n 275 (zc n 273 (k s272) (zc n 274 (k s273) (k s274))) (zc n 277 (zc n 276 (k s275) (k s276)) (zc n 278 (k s277) (k s278)))) (zc n 282 (zc n 280 (k s279) (zc n 281 (k s280) (k s281))) (zc n 284 (zc n 283 (k s282) (k s283)) (zc n 285 (k s284) (k s285)))))
noncomputable def dP (n:Nat) (k:Pth→AC):AC:=(zc n 144 (zc n 64 (zc n 32 (zc n 16 (dP0 n k) (dP1 n k)) (zc n 48 (dP2 n k) (dP3 n k))) (zc n 96 (zc n 80 (dP4 n k) (dP5 n k)) (zc n 112 (dP6 n k) (zc n 128 (dP7 n k) (dP8 n k))))) (zc n 208 (zc n 176 (zc n 160 (dP9 n k) (dP10 n k)) (zc n 192 (dP11 n k) (dP12 n k))) (zc n 240 (zc n 224 (dP13 n k) (dP14 n k)) (zc n 256 (dP15 n k) (zc n 272 (dP16 n k) (dP17 n k))))))
noncomputable def dK0 (n:Nat) (k:AX→AC):AC:=(zc n 3 (zc n 1 (k (ci 1)) (zc n 2 (k (ci 0)) (k (.c (.bool false))))) (zc n 5 (zc n 4 (k (.c (.bool true))) (k (.c (.str [])))) (zc n 6 (k (.c vz)) (k (ci 2)))))
noncomputable def dK1 (n:Nat) (k:AX→AC):AC:=(zc n 10 (zc n 8 (k (.c .nilp)) (zc n 9 (k (ci 4)) (k (ci 5)))) (zc n 12 (zc n 11 (k (ci 6)) (k (ci 3))) (zc n 13 (k (ci 8)) (k (ci 7)))))
noncomputable def dK2 (n:Nat) (k:AX→AC):AC:=(zc n 17 (zc n 15 (k (ci 12)) (zc n 16 (k (ci 13)) (k (.c (.str [48,48,48,49,48,50,48,51,48,52,48,53,48,54,48,55,48,56,48,57,49,48,49,49,49,50,49,51,49,52,49,53,49,54,49,55,49,56,49,57,50,48,50,49,50,50,50,51,50,52,50,53,50,54,50,55,50,56,50,57,51,48,51,49,51,50,51,51,51,52,51,53,51,54,51,55,51,56,51,57,52,48,52,49,52,50,52,51,52,52,52,53,52,54,52,55,52,56,52,57,53,48,53,49,53,50,53,51,53,52,53,53,53,54,53,55,53,56,53,57,54,48,54,49,54,50,54,51,54,52,54,53,54,54,54,55,54,56,54,57,55,48,55,49,55,50,55,51,55,52,55,53,55,54,55,55,55,56,55,57,56,48,56,49,56,50,56,51,56,52,56,53,56,54,56,55,56,56,56,57,57,48,57,49,57,50,57,51,57,52,57,53,57,54,57,55,57,56,57,57]))))) (zc n 19 (zc n 18 (k (.c (.str [40]))) (k (ci 64))) (zc n 20 (k (.c (.str [125]))) (k (ci 15)))))
noncomputable def dK3 (n:Nat) (k:AX→AC):AC:=(zc n 24 (zc n 22 (k (.c (vj 0))) (zc n 23 (k (.c (.str [41]))) (k (ci 20)))) (zc n 26 (zc n 25 (k (ci 10)) (k (ci 9))) (zc n 27 (k (ci 21)) (k (cu 34)))))
noncomputable def dK4 (n:Nat) (k:AX→AC):AC:=(zc n 31 (zc n 29 (k (.c (.str [61]))) (zc n 30 (k (.c (.str [59]))) (k (.c (.str [123]))))) (zc n 33 (zc n 32 (k (.c .nili)) (k (ci 40))) (zc n 34 (k (.c (.int .u32 (.ofNat 100)))) (k (.c (.str [42]))))))
noncomputable def dK5 (n:Nat) (k:AX→AC):AC:=(zc n 38 (zc n 36 (k (.c (.str [45]))) (zc n 37 (k (cu 92)) (k (ci 16)))) (zc n 40 (zc n 39 (k (.c (.int .u32 (.ofNat 2)))) (k (.c (.int .u32 (.ofNat 1))))) (zc n 41 (k (.c (.str [46]))) (k (.c (.str [44]))))))
noncomputable def dK6 (n:Nat) (k:AX→AC):AC:=(zc n 45 (zc n 43 (k (cu 32)) (zc n 44 (k (.c (.str [116,114,117,101]))) (k (.c (.str [110,111,116]))))) (zc n 47 (zc n 46 (k (ci 14)) (k (ci 18))) (zc n 48 (k (ci 19)) (k (ci 17)))))
noncomputable def dK7 (n:Nat) (k:AX→AC):AC:=(zc n 52 (zc n 50 (k (ci 11)) (zc n 51 (k (.c (.str [116,121,112,101]))) (k (.c (.str [109,101,116,104,111,100]))))) (zc n 54 (zc n 53 (k (.c (.str [105,110,116]))) (k (.c (.str [98,111,111,108])))) (zc n 55 (k (.c (.str [116,101,120,116]))) (k (.c (.str [105,110,116,101,114,102,97,99,101]))))))
noncomputable def dK8 (n:Nat) (k:AX→AC):AC:=(zc n 58 (zc n 57 (k (.c (.str [119,104,105,108,101]))) (k (.c .nilm))) (zc n 59 (k (.c (.str [102,97,108,115,101]))) (k (.c (.str [115,101,108,102])))))
noncomputable def dK (n:Nat) (k:AX→AC):AC:=(zc n 28 (zc n 14 (zc n 7 (dK0 n k) (dK1 n k)) (zc n 21 (dK2 n k) (dK3 n k))) (zc n 42 (zc n 35 (dK4 n k) (dK5 n k)) (zc n 49 (dK6 n k) (zc n 56 (dK7 n k) (dK8 n k)))))
noncomputable def dN (n:Nat) (k:Nat→AC):AC:=(zc n 16 (zc n 8 (zc n 4 (zc n 2 (zc n 1 (k 0) (k 1)) (zc n 3 (k 2) (k 3))) (zc n 6 (zc n 5 (k 4) (k 5)) (zc n 7 (k 6) (k 7)))) (zc n 12 (zc n 10 (zc n 9 (k 8) (k 9)) (zc n 11 (k 10) (k 11))) (zc n 14 (zc n 13 (k 12) (k 13)) (zc n 15 (k 14) (k 15))))) (zc n 24 (zc n 20 (zc n 18 (zc n 17 (k 16) (k 17)) (zc n 19 (k 18) (k 19))) (zc n 22 (zc n 21 (k 20) (k 21)) (zc n 23 (k 22) (k 23)))) (zc n 28 (zc n 26 (zc n 25 (k 24) (k 25)) (zc n 27 (k 26) (k 27))) (zc n 30 (zc n 29 (k 28) (k 29)) (zc n 31 (k 30) (k 31))))))
noncomputable def dB (n:Nat) (k:BinOp→AC):AC:=(zc n 7 (zc n 3 (zc n 1 (k .add) (zc n 2 (k .sub) (k .mul))) (zc n 5 (zc n 4 (k .quo) (k .rem)) (zc n 6 (k .and) (k .or)))) (zc n 10 (zc n 8 (k .xor) (zc n 9 (k .eql) (k .neq))) (zc n 12 (zc n 11 (k .lss) (k .leq)) (zc n 13 (k .gtr) (k .geq)))))
noncomputable def dX (r a:Nat) (k:AX→AC):AC:=cond (Nat.blt a r) (dP a fun p=>k (.t p)) (dK (a - r) k)
noncomputable def dL (r R:Nat) (n:Nat):Nat→(List AX→AC)→AC:=Nat.rec (fun _ k=>k []) (fun _ ih m k=>dX r (m % R) fun x=>ih (m / R) fun l=>k (x::l)) n
noncomputable def dW (r:Nat) (n:Nat):Nat→(List WX→AC)→AC:=Nat.rec (fun _ k=>k []) (fun _ ih m k=>dP (m / 2 % r) fun p=>ih (m / 2 / r) fun l=>k ((cond (Nat.beq (m % 2) 0) (WX.l (.t p)) (WX.c (.t p)))::l)) n
def dG:List AO→Nat→AO
 | [],_=>default
 | a::_,0=>a
 | _::l,n+1=>dG l n
def oU (t:Pth) (b:Bool) (o:AO):AO:=⟨o.1,some (t,b),o.3⟩
noncomputable def q0 (r _ m:Nat) (k:AO→AC):AC:=dP (m % r) fun d=>dX r (m / r) fun x=>k (oM d x)
noncomputable def q1 (r _ m:Nat) (k:AO→AC):AC:=dP (m % r) fun d=>dX r (m / r) fun x=>k (oN d x)
noncomputable def q2 (r _ m:Nat) (k:AO→AC):AC:=dP (m % r) fun d=>dX r (m / r) fun x=>k (oG d x)
noncomputable def q3 (r _ m:Nat) (k:AO→AC):AC:=dP (m % r) fun d=>dX r (m / r) fun x=>k (oL d x)
noncomputable def q4 (r R m:Nat) (k:AO→AC):AC:=dP (m % r) fun d=>dX r (m / r % R) fun x=>dN (m / r / R) fun n=>k (oF d n x)
noncomputable def q5 (r R m:Nat) (k:AO→AC):AC:=dP (m % r) fun d=>dX r (m / r % R) fun x=>dX r (m / r / R % R) fun y=>dB (m / r / R / R) fun b=>k (oQ d b x y)
noncomputable def q6 (r R m:Nat) (k:AO→AC):AC:=dP (m % r) fun d=>dX r (m / r % R) fun x=>dN (m / r / R) fun n=>k (oE d x n)
noncomputable def q7 (r R m:Nat) (k:AO→AC):AC:=dP (m % r) fun d=>dX r (m / r % R) fun x=>dN (m / r / R) fun n=>k (oR d (.ld true n x))
noncomputable def q8 (r R m:Nat) (k:AO→AC):AC:=dP (m % r) fun d=>dX r (m / r % R) fun x=>cond (Nat.beq (m / r / R) 0) (k (oP d (.len false x))) (k (oP d (.len true x)))
noncomputable def q9 (r R m:Nat) (k:AO→AC):AC:=dP (m % r) fun d=>dX r (m / r % R) fun x=>dX r (m / r / R % R) fun y=>dN (m / r / R / R) fun n=>k (oP d (.iad n x y))
noncomputable def q10 (r R m:Nat) (k:AO→AC):AC:=dP (m % r) fun d=>dX r (m / r % R) fun x=>dX r (m / r / R % R) fun y=>dX r (m / r / R / R) fun z=>k (oP d (.pick x y z))
noncomputable def q11 (r R m:Nat) (k:AO→AC):AC:=dP (m % r) fun d=>dX r (m / r % R) fun x=>dX r (m / r / R % R) fun y=>dB (m / r / R / R) fun b=>k (oP d (.bin b eS x y))
noncomputable def q12 (r _ m:Nat) (k:AO→AC):AC:=dP (m % r) fun d=>dX r (m / r) fun x=>k (oP d (.un .not x))
noncomputable def q13 (r R m:Nat) (k:AO→AC):AC:=dP (m % r) fun d=>dX r (m / r % R) fun x=>dX r (m / r / R) fun y=>k (oP d (.ixs x y))
noncomputable def q15 (r R m:Nat) (k:AO→AC):AC:=dP (m % r) fun d=>dL r R (m / r / 1024 % 8) (m / r / 1024 / 8) fun l=>k (oC d (m / r % 1024) l)
noncomputable def q17 (r R m:Nat) (k:AO→AC):AC:=dN (m % 32) fun n=>dX r (m / 32 % R) fun x=>dX r (m / 32 / R) fun y=>k (oS n x y)
noncomputable def dT (r R o m:Nat) (ex:List AO) (k:AO→AC):AC:=(zc o 8 (zc o 4 (zc o 2 (zc o 1 (q0 r R m k) (q1 r R m k)) (zc o 3 (q2 r R m k) (q3 r R m k))) (zc o 6 (zc o 5 (q4 r R m k) (q5 r R m k)) (zc o 7 (q6 r R m k) (q7 r R m k)))) (zc o 12 (zc o 10 (zc o 9 (q8 r R m k) (q9 r R m k)) (zc o 11 (q10 r R m k) (q11 r R m k))) (zc o 15 (zc o 13 (q12 r R m k) (q13 r R m k)) (zc o 17 (q15 r R m k) (zc o 31 (q17 r R m k) (k (dG ex m)))))))
noncomputable def dO (r R:Nat) (ex:List AO) (l:List Nat) (k:AO→List Nat→AC):AC :=
 List.rec (k default []) (fun N t _=>cond (Nat.beq (N % 32) 14)
  (dP (N / 32 % r) fun g=>List.rec (k default []) (fun N' t' _=>dT r R (N' % 32) (N' / 32) ex fun o=>cond (Nat.beq (N / 32 / r) 0) (k (oU g false o) t') (k (oU g true o) t')) t)
  (cond (Nat.beq (N % 32) 16)
   (dP (N / 32 % r) fun d=>dL r R (N / 32 / r / 1024 % 8) (N / 32 / r / 1024 / 8) fun a=>List.rec (k default []) (fun w t' _=>dW r (w % 8) (w / 8) fun ws=>k (oX d (.call (N / 32 / r % 1024) a) ws) t') t)
   (dT r R (N % 32) (N / 32) ex fun o=>k o t))) l
noncomputable def dQ (r R:Nat) (ex:List AO) (n:Nat):List Nat→(List AO→List Nat→AC)→AC:=Nat.rec (fun l k=>k [] l) (fun _ ih l k=>dO r R ex l fun o t=>ih t fun os t=>k (o::os) t) n
noncomputable def dA (r R:Nat) (ex:List AO) (n:Nat):List Nat→(AC→List Nat→AC)→AC:=Nat.rec (fun l k=>k .skip l) (fun _ ih l k=>List.rec (k .skip []) (fun N t _ =>
 cond (Nat.blt (N % 8) 4) (cond (Nat.blt (N % 8) 2) (cond (Nat.blt (N % 8) 1) (k .skip t) (k .ret t)) (cond (Nat.blt (N % 8) 3) (k (.exit (N / 8)) t) (ih t fun a t=>ih t fun b t=>k (.seq a b) t)))
  (cond (Nat.blt (N % 8) 6) (cond (Nat.blt (N % 8) 5) (dX r (N / 8) fun x=>ih t fun a t=>ih t fun b t=>k (.cond x a b) t) (ih t fun a t=>k (.blk (N / 8) a) t))
   (cond (Nat.blt (N % 8) 7) (ih t fun a t=>k (.loop a) t) (dQ r R ex (N / 8) t fun os t=>k (.reg os) t)))) l) n
noncomputable def dF (r:Nat) (l:List Nat) (ex:List AO):AC:=dA r (r+60) ex 1000 l fun a _=>a
end Go.Abs.Run
namespace Go.Abs.Run
open Go Go.Abs Go.Proofs
def b3x0:AC:=(.seq (.seq (.reg [oM s37 t4,oM s38 t0,oQ s39 .lss t37 t38]) (.cond t39
 .skip
 (.exit 0))) (.seq (.blk 1 (.seq (.reg [oF s42 0 t3,oL s43 t42,oM s44 t4,oP s45 (.iad 1 t43 t44),oL s46 t45,oM s47 t4,oX s48 (.call 7 [t47]) [(.l t45),(.l t42)],oP s49 (.bin .neq eS t46 t48)]) (.cond t49
 (.seq (.reg [oM s2 (.c (.bool false))]) .ret)
 .skip))) (.reg [oM s40 t4,oQ s41 .add t40 (ci 1),oM s4 t41])))
def f3:FI:=⟨(.seq (.reg [oM s2 (.c (.bool false))]) (.seq (.reg [oM s5 t0,oC s6 5 [t5,(ci 0),(ci 300)],oM s0 t6]) (.seq (.reg [oM s7 t0,oC s8 7 [t7],oP s9 (.bin .add eS (.c (.str [109,97,105,110,32,105,110,116,32,123,32,108,101,116,32,105,32,61,32,48,59,32,119,104,105,108,101,32,105,32,60,32])) t8),oP s10 (.bin .add eS t9 (.c (.str [32,123,32,112,114,105,110,116,32,105,59,32,105,32,61,32,105,32,43,32,49,59,32,125,32,114,101,116,117,114,110,32,105,59,32,125]))),oC s11 6 [t10,(ci 100000)],oX s3 (.new 0 false false (.cells 26 [vz,(vi 0),(.str []),(vi 0)])) [],oS 4 t3 t11]) (.seq (.seq (.reg [oF s12 0 t3,oL s13 t12,oP s14 (.len false t13),oM s15 t0,oQ s16 .neq t14 t15,oM s17 t16,⟨some s18,some (s17,false),(.p (.fad 1 t3))⟩,⟨some s19,some (s17,false),(.r (.ldc t18))⟩,⟨some s20,some (s17,false),(.p (.bin .neq eI t19 (ci 0)))⟩,oP s21 (.pick t17 (.c (.bool true)) t20),oM s22 t21,⟨some s23,some (s22,false),(.p (.fad 2 t3))⟩,⟨some s24,some (s22,false),(.r (.ld false 1 t23))⟩,⟨some s25,some (s22,false),(.p (.mov t0))⟩,⟨some s26,some (s22,false),(.e (.call 7 [t25]) [(.l t23)])⟩,⟨some s27,some (s22,false),(.p (.bin .neq eS t24 t26))⟩,oP s28 (.pick t22 (.c (.bool true)) t27),oM s29 t28,⟨some s30,some (s29,false),(.p (.fad 3 t3))⟩,⟨some s31,some (s29,false),(.r (.ldc t30))⟩,⟨some s32,some (s29,false),(.p (.mov t0))⟩,⟨some s33,some (s29,false),(.p (.bin .mul eI (ci 3) t32))⟩,⟨some s34,some (s29,false),(.p (.bin .add eI (ci 3) t33))⟩,⟨some s35,some (s29,false),(.p (.bin .neq eI t31 t34))⟩,oP s36 (.pick t29 (.c (.bool true)) t35)]) (.cond t36
 (.seq (.reg [oM s2 (.c (.bool false))]) .ret)
 .skip)) (.seq (.seq (.reg [oM s4 (ci 0)]) (.blk 0 (.loop b3x0))) (.seq (.reg [oC s50 8 [],oM s2 t50]) .ret)))))),1,[.t s2],none⟩
noncomputable def f4:FI:=⟨dF 46 [3,15,70720,3,31,128,31,7360,3,63,192,73869615,63,95,127,159,1088657,3,3,31,352,7194053,191,108,3,103,160900,21090,223,24096,2030,317060,2030,27107,2030,140145355,797037162,31616,2190,12527,797512714,35392,1,0,3,183,161252,37634,139687781,40640,2382,317412,2382,43651,2382,992,255,2382,137353387,799082186,51168,2606,473668,2606,54178,2606,1216,2606,39093157,2606,6166021,2606,138612197,800341002,63200,2862,13199,800820970,66304,1] [(oC s5 5 [t4,(ci 0),(ci 620)]),(oP s8 (.bin .add eS (.c (.str [102,117,110,99,32,102,40,110,32,105,110,116,41,32,105,110,116,32,123,32,105,102,32,110,32,60,32,49,32,123,32,114,101,116,117,114,110,32,48,59,32,125,32,114,101,116,117,114,110,32,102,40,110,32,45,32,49,41,32,43,32,49,59,32,125,32,109,97,105,110,32,105,110,116,32,123,32,114,101,116,117,114,110,32,102,40])) t7)),(oP s9 (.bin .add eS t8 (.c (.str [41,59,32,125])))),(oC s10 6 [t9,(ci 100000)]),(oX s3 (.new 0 false false (.cells 26 [vz,(vi 0),(.str []),(vi 0)])) []),(oQ s13 .gtr t12 (ci 500)),(oQ s16 .eql t15 (ci 54)),⟨(some s32),(some (s28,true)),(.e (.call 7 [t31]) [(.l t29)])⟩],1,[(.t s2)],none⟩
def f5:FI:=⟨(.seq (.reg [oM s6 (ci 0)]) (.seq (.reg [oM s7 t0,oM s8 t2,oM s9 t1,oQ s10 .sub t8 t9,oQ s11 .add t10 (ci 1),oQ s12 .rem t7 t11,oM s0 t12]) (.seq (.seq (.reg [oM s13 t0,oQ s14 .lss t13 (ci 0)]) (.cond t14
 (.reg [oM s15 t0,oM s16 t2,oQ s17 .add t15 t16,oM s18 t1,oQ s19 .sub t17 t18,oQ s20 .add t19 (ci 1),oM s0 t20])
 .skip)) (.seq (.reg [oM s21 t1,oM s22 t0,oQ s23 .add t21 t22,oM s6 t23]) .ret)))),0,[.t s6],none⟩
def f6:FI:=⟨(.seq (.reg [oX s4 (.new 0 false false (.cells 26 [vz,(vi 0),(.str []),(vi 0)])) []]) (.seq (.reg [oM s8 t0,oC s9 9 [t8],oM s7 t9,oE s10 t7 0,oE s11 t7 1,oM s5 t10,oM s6 t11]) (.seq (.seq (.reg [oM s12 t5,oP s13 (.bin .eql .ptr t12 (.c .nilp))]) (.cond t13
 (.seq (.reg [oP s14 (.bld [vz,(vi 0),(.str []),(vi 0)] [(1,1,(.c (vj 0)))]),oS 4 t4 t14]) .ret)
 .skip)) (.seq (.reg [oM s15 t5,oM s16 t1,oC s17 10 [t15,t16],oS 4 t4 t17]) .ret)))),1,[.c true 4 s4],none⟩
def f7:FI:=⟨(.seq (.reg [oM s2 (.c (.str []))]) (.seq (.seq (.reg [oM s3 t0,oQ s4 .geq t3 (ci 0)]) (.cond t4
 (.seq (.reg [oM s5 t0,oC s6 11 [t5],oM s2 t6]) .ret)
 .skip)) (.seq (.seq (.reg [oM s7 t0,oQ s8 .eql t7 (.c (vj 9223372036854775807))]) (.cond t8
 (.seq (.reg [oM s2 (.c (.str [45,57,50,50,51,51,55,50,48,51,54,56,53,52,55,55,53,56,48,56]))]) .ret)
 .skip)) (.seq (.reg [oM s9 t0,oP s10 (.un .neg t9),oC s11 11 [t10],oP s12 (.bin .add eS (.c (.str [45])) t11),oM s2 t12]) .ret)))),0,[.t s2],none⟩
noncomputable def f8:FI:=⟨dF 77 [3,15,194656,3,15,31,3,3,335,2592,237906508399,63,95,19463500943,20012,22496,334,2816,334,213159590735,127,159,334,38962296175,334,37484,766979690,42464,590,3072,590,216086428751,191,590,58481276495,590,54956,1090727338,59936,814,3296,814,271534865711,223,814,77980071727,814,72428,1414472522,77408,1038,3520,255,287,1038,97478866959,1038,89900,1738217706,94880,1262,239521326415,319,1262,114192120015,1262,104876,2015716042,356,3,15,194656,1,0,3,15,351,3,3,111,6368,383,415,447,133690915247,122348,124832,1646,6592,479,511,543,575,2616954634,460,3,15,194656,1,0,3,15,607,3,167,9248,283242217775,639,167117421359,152288,671,703,4462,178259590063,3675595274,164768,735,767,4622,192187300943,3677295594,177248,799,831,4782,206115011823,3678995914,187264,1] [(oM s1 (.c (.str [109,97,105,110,32,105,110,116,32,123,32,112,114,105,110,116,32,49,59,32,114,101,116,117,114,110,32,50,59,32,125]))),(oP s6 (.bsl 1 1 (.str []) [(0,(.c (.str [49])))])),(oP s7 (.bld [vz,(vi 0),(.str []),(vi 0)] [(0,(1,t6)),(2,(1,(.c (.str [50])))),(3,(1,(ci 2)))])),⟨(some s13),(some (s10,false)),(.p (.bsl 1 1 (.str []) [(0,(.c (.str [49])))]))⟩,⟨(some s14),(some (s10,false)),(.p (.bld [vz,(vi 0),(.str []),(vi 0)] [(0,(1,t13)),(1,(1,(ci 50))),(3,(1,(ci 1)))]))⟩,⟨(some s21),(some (s18,false)),(.p (.bld [vz,(vi 0),(.str []),(vi 0)] [(1,(1,(ci 50)))]))⟩,⟨(some s28),(some (s25,false)),(.p (.bld [vz,(vi 0),(.str []),(vi 0)] [(1,(1,(ci 4)))]))⟩,⟨(some s34),(some (s32,false)),(.e (.call 6 [t33,(ci 100001)]) [])⟩,⟨(some s35),(some (s32,false)),(.p (.bld [vz,(vi 0),(.str []),(vi 0)] [(1,(1,(ci 4)))]))⟩,⟨(some s41),(some (s39,false)),(.p (.bld [vz,(vi 0),(.str []),(vi 0)] [(1,(1,(ci 1)))]))⟩,(oM s2 (.c (.str [102,117,110,99,32,102,40,110,32,105,110,116,41,32,105,110,116,32,123,32,105,102,32,110,32,60,32,49,32,123,32,114,101,116,117,114,110,32,48,59,32,125,32,114,101,116,117,114,110,32,102,40,110,32,45,32,49,41,32,43,32,49,59,32,125,32,109,97,105,110,32,105,110,116,32,123,32,114,101,116,117,114,110,32,102,40]))),(oP s46 (.bin .add eS t45 (.c (.str [51,41,59,32,125])))),(oC s47 6 [t46,(ci 99)]),(oP s48 (.bld [vz,(vi 0),(.str []),(vi 0)] [(2,(1,(.c (.str [51])))),(3,(1,(ci 13)))])),⟨(some s53),(some (s51,false)),(.p (.bin .add eS t52 (.c (.str [54,48,48,41,59,32,125]))))⟩,⟨(some s54),(some (s51,false)),(.e (.call 6 [t53,(ci 99999)]) [])⟩,⟨(some s55),(some (s51,false)),(.p (.fld false 1 1 t54))⟩,⟨(some s56),(some (s51,false)),(.p (.bin .neq eI t55 (ci 54)))⟩,(oM s3 (.c (.str [116,121,112,101,32,73,32,61,32,105,110,116,101,114,102,97,99,101,32,123,109,40,41,32,105,110,116,59,125,59,32,116,121,112,101,32,65,32,61,32,123,120,32,105,110,116,59,125,59,32,109,101,116,104,111,100,32,65,46,109,40,41,32,105,110,116,32,123,32,114,101,116,117,114,110,32,115,101,108,102,46,120,59,32,125,32,109,97,105,110,32,105,110,116,32,123,32,108,101,116,32,105,32,73,32,61,32,65,123,120,58,32,55,125,59,32,114,101,116,117,114,110,32,105,46,109,40,41,59,32,125]))),(oP s60 (.bld [vz,(vi 0),(.str []),(vi 0)] [(2,(1,(.c (.str [55])))),(3,(1,(ci 4)))])),⟨(some s63),(some (s62,true)),(.e (.call 6 [(.c (.str [116,121,112,101,32,65,32,61,32,123,120,32,105,110,116,59,125,59,32,109,97,105,110,32,105,110,116,32,123,32,108,101,116,32,97,32,61,32,110,105,108,32,42,65,59,32,114,101,116,117,114,110,32,97,46,120,59,32,125])),(ci 9)]) [])⟩,⟨(some s64),(some (s62,true)),(.p (.bld [vz,(vi 0),(.str []),(vi 0)] [(1,(1,(ci 51))),(3,(1,(ci 2)))]))⟩,⟨(some s68),(some (s67,true)),(.e (.call 6 [(.c (.str [109,97,105,110,32,116,101,120,116,32,123,32,108,101,116,32,97,32,61,32,34,120,34,59,32,119,104,105,108,101,32,116,114,117,101,32,123,32,97,32,61,32,97,32,43,32,97,59,32,125,32,114,101,116,117,114,110,32,97,59,32,125])),(ci 99)]) [])⟩,⟨(some s69),(some (s67,true)),(.p (.bld [vz,(vi 0),(.str []),(vi 0)] [(1,(1,(ci 53))),(3,(1,(ci 27)))]))⟩,⟨(some s73),(some (s72,true)),(.e (.call 6 [(.c (.str [109,97,105,110,32,105,110,116,32,123,32,119,104,105,108,101,32,116,114,117,101,32,123,32,125,32,114,101,116,117,114,110,32,49,59,32,125])),(ci 77)]) [])⟩,⟨(some s74),(some (s72,true)),(.p (.bld [vz,(vi 0),(.str []),(vi 0)] [(1,(1,(ci 50))),(3,(1,(ci 77)))]))⟩],0,[(.t s0)],none⟩
noncomputable def f9:FI:=⟨dF 19 [3,23,15872,30496,3,87,256,40476687,5696,4582,52646,100710,31,813489,6848,7488,3,3,23,4064,35119749,116,3,23,15872,30496,1,0,3,55,627335,75342671,10278,58342,10400,11040,1] [(oX s4 (.new 0 false false (.cells 51 [vz,vz,vz,(vi 0),(.str []),(.str []),vz,(vi 0),(.str []),vz,vz,vz,vz])) [])],1,[(.t s2),(.t s3)],none⟩
def f10:FI:=⟨(.seq (.reg [oX s2 (.box 0 false 31 1 t0) [],oX s4 (.new 1 false false (.cells 26 [vz,(vi 0),(.str []),(vi 0)])) []]) (.seq (.seq (.reg [oG s7 t2,oM s8 t1,oC s9 15 [t7,t8],oM s5 t9]) (.seq (.reg [oM s10 t5,oQ s11 .neq t10 (ci 0)]) (.cond t11
 (.seq (.reg [oM s12 t5,oP s13 (.bld [vz,(vi 0),(.str []),(vi 0)] [(1,1,t12)]),oS 4 t4 t13]) .ret)
 .skip))) (.seq (.reg [oG s14 t2,oM s15 t1,oC s16 16 [t14,t15],oX s6 (.new 2 false false (.cells 56 [.nilp])) [],oS 1 t6 t16]) (.seq (.reg [oG s17 t6,oP s18 (.mkf 18 [] [t6,t2]),oC s19 17 [t17,t18],oS 4 t4 t19]) .ret)))),3,[.c true 4 s4],none⟩
def f11:FI:=⟨(.seq (.reg [oM s2 (.c (.str []))]) (.seq (.seq (.reg [oM s3 t0,oQ s4 .lss t3 (ci 10)]) (.cond t4
 (.seq (.reg [oM s5 t0,oQ s6 .add (ci 48) t5,oP s7 (.cvi .u8 t6),oP s8 (.bsl 1 1 (vu 0) [(0,t7)]),oR s9 (.b2s t8),oM s2 t9]) .ret)
 .skip)) (.seq (.reg [oM s10 t0,oQ s11 .quo t10 (ci 10),oM s13 t0,oQ s14 .rem t13 (ci 10),oQ s15 .add (ci 48) t14,oP s16 (.cvi .u8 t15),oP s17 (.bsl 1 1 (vu 0) [(0,t16)]),oR s18 (.b2s t17),oX s12 (.call 11 [t11]) [(.l t17)],oP s19 (.bin .add eS t12 t18),oM s2 t19]) .ret))),0,[.t s2],none⟩
noncomputable def f12:FI:=⟨dF 31 [3,31,31,63,32864,3,223,2148,5155,3204,7203,5966876335,9248,1326,92612,1326,11298,1326,93668,1326,13346,1326,66994213,272451338,16416,1550,183108,1550,18467,1550,184164,1550,20515,1550,67633291,273090410,23584,1774,273604,1774,25634,1774,274660,1774,27682,1774,68272357,273729482,29888,1] [(oX s2 (.box 0 false 26 4 t0) []),(oX s3 (.box 1 false 26 4 t1) [])],2,[(.t s4)],none⟩
noncomputable def f13:FI:=⟨dF 67 [3,31,31,145888,145920,3,31,224,125186287,17312,3,31,63,95,1177009,3,5,6,3,3,87,11040,261158320559,23968,398,11136,398,263441594895,503214442,32672,526,11264,127,641545450,156,0,2,13,21,3,31,11616,261474466799,63040,220,71,13828,65315,11744,564282576,481,159,191,14020,4588593,3,31,11936,263880686895,84800,300,71,286436,87075,12064,739921520,641,223,255,286628,5899313,71,558084,43555,11424,388647920,321,287,319,558276,3277873,3,39,12224,827742063,831300,6292817,3,23,12320,880435247,3,3,47,12384,113185,932228,117538,329860485,452,3,103,351,12576,126241,1217572,130594,12704,134945,953988,139298,383,130880,139488,1,0,3,39,3554727,8585649,145888,145920,1] [(oX s2 (.new 0 false false (.cells 51 [vz,vz,vz,(vi 0),(.str []),(.str []),vz,(vi 0),(.str []),vz,vz,vz,vz])) []),(oP s9 (.bld [vz,vz,vz,(vi 0),(.str []),(.str []),vz,(vi 0),(.str []),vz,vz,vz,vz] [])),(oX s6 (.new 1 false false (.cells 51 [vz,vz,vz,(vi 0),(.str []),(.str []),vz,(vi 0),(.str []),vz,vz,vz,vz])) []),⟨(some s18),(some (s16,false)),(.e (.call 22 [t17,(.c (.str [102,117,110,99]))]) [])⟩,(oP s34 (.bsl 1 7 (.agg [(vi 0),(.str []),(vi 0),(.str []),vz,vz,vz]) [(0,t33)])),(oX s35 (.app 2 0 7 (.agg [(vi 0),(.str []),(vi 0),(.str []),vz,vz,vz]) 120 t31 t34) []),(oP s44 (.bsl 1 10 (.agg [(vi 0),(.str []),(.str []),vz,(vi 0),(.str []),vz,vz,vz,vz]) [(0,t43)])),(oX s45 (.app 2 0 10 (.agg [(vi 0),(.str []),(.str []),vz,(vi 0),(.str []),vz,vz,vz,vz]) 184 t41 t44) []),(oP s24 (.bsl 1 10 (.agg [(vi 0),(.str []),(.str []),vz,(vi 0),(.str []),vz,vz,vz,vz]) [(0,t23)])),(oX s25 (.app 2 0 10 (.agg [(vi 0),(.str []),(.str []),vz,(vi 0),(.str []),vz,vz,vz,vz]) 184 t21 t24) []),(oP s57 (.bld [vz,vz,vz,(vi 0),(.str []),(.str []),vz,(vi 0),(.str []),vz,vz,vz,vz] [])),(oY (.st 13 t2 t57) [(.c t64),(.c t60)])],2,[(.c true 13 s2),(.t s3),(.t s4)],none⟩
def f14:FI:=⟨(.seq (.reg [oX s1 (.box 0 false 51 13 t0) [],oX s2 (.new 1 false false (.cells 31 [.nilp])) [],oX s3 (.new 2 false false (.cells 33 [.nili])) []]) .skip),5,[.c false 1 s2,.c false 1 s3],(some ⟨s5,27,[t2,t3],(.seq (.reg [oP s6 (.bld [.nilp,.nilp,vz,(vi 0),(vi 0),(vi 0),vz,vz,.nilp] []),oX s7 (.box 3 true 78 9 t6) [],oR s8 (.ld true 13 t1),oP s9 (.bld [.nilp,vz,vz,vz,(vi 0),(.str []),(.str []),vz,(vi 0),(.str []),vz,vz,vz,vz,.nilp,vz,(vi 0),.nilm,(vi 0),(vi 0),(vi 0)] [(0,1,t7),(1,13,t8)]),oX s10 (.box 4 true 99 21 t9) [],oM s4 t10]) (.seq (.reg [oM s11 t4,oC s12 28 [t11]]) (.seq (.reg [oM s13 t4,oN s14 t13,oF s15 0 t14,oG s16 t15,oS 1 t2 t16,oS 1 t3 (.c .nili)]) .ret))),(.seq (.seq (.reg [oM s6 t2,oP s7 (.bin .eql .ifc t6 (.c .nili))]) (.cond t7
 .ret
 .skip)) (.seq (.reg [oM s9 t2,oP s10 (.tas 92 true .nilp t9),oM s8 t10,oE s11 t8 0,oE s12 t8 1,oM s3 t11,oM s4 t12]) (.seq (.seq (.reg [oM s13 t4,oP s14 (.un .not t13)]) (.cond t14
 (.reg [oM s15 t2,oY (.pan t15) []])
 .skip)) (.reg [oM s16 t3,oP s17 (.ifc 92 t16),oS 1 t0 (.c .nilp),oS 1 t1 t17])))),0,[s5,s2]⟩)⟩
def f15:FI:=⟨(.seq (.reg [oM s4 (ci 0)]) (.seq (.blk 0 (.seq (.reg [oM s6 t0,oP s7 (.bin .eql .ptr t6 (.c .nilp)),oM s5 t7]) (.cond t5
 (.seq (.reg [oM s4 (ci 1)]) .ret)
 (.seq (.reg [oM s9 t1,oQ s10 .lss t9 (ci 0),oM s11 t10,⟨some s12,some (s11,false),(.p (.mov t1))⟩,⟨some s13,some (s11,false),(.p (.bin .gtr eI t12 (ci 100000)))⟩,oP s14 (.pick t11 (.c (.bool true)) t13),oM s8 t14]) (.cond t8
 (.seq (.reg [oM s4 (ci 4)]) .ret)
 .skip))))) (.seq (.reg [oM s4 (ci 0)]) .ret))),0,[.t s4],none⟩
noncomputable def f16:FI:=⟨dF 13 [3,15,8448,3,79,160,192,20885935,24293423,704,31,63,95,5120,1] [(oX s10 (.new 0 true true (.map [])) []),(oP s11 (.bld [.nilp,.nilp,(vi 0),(vi 0),(vi 0),vz,(vi 0),.nilm] [(0,(1,t5)),(1,(1,t8)),(2,(1,t9)),(7,(1,t10))])),(oX s12 (.box 1 true 105 8 t11) [])],2,[(.t s4)],none⟩
def f17:FI:=⟨(.seq (.reg [oX s2 (.box 0 false 56 1 t0) [],oX s4 (.new 1 false false (.cells 26 [vz,(vi 0),(.str []),(vi 0)])) []]) .skip),2,[.c true 4 s4],(some ⟨s7,31,[t2,t4],(.seq (.reg [oG s9 t2,oN s10 t9,oF s11 1 t10,oG s12 t11,oM s13 t1,oX s14 (.callv t13 []) [(.c t11),(.c t2)],oC s15 32 [t12,t14],oM s8 t15,oE s16 t8 0,oE s17 t8 1,oM s5 t16,oM s6 t17]) (.seq (.reg [oG s18 t2,oN s19 t18,oF s20 5 t19,oL s21 t20,oM s22 t6,oM s23 t5,oG s24 t2,oN s25 t24,oF s26 3 t25,oG s27 t26,oP s28 (.bld [vz,(vi 0),(.str []),(vi 0)] [(0,1,t21),(1,1,t22),(2,1,t23),(3,1,t27)]),oS 4 t4 t28]) .ret)),(.seq (.seq (.reg [oM s6 t2,oP s7 (.bin .eql .ifc t6 (.c .nili))]) (.cond t7
 .ret
 .skip)) (.seq (.reg [oM s9 t2,oP s10 (.tas 107 true (.agg [(vi 0)]) t9),oM s8 t10,oE s11 t8 0,oE s12 t8 1,oX s3 (.new 0 false false (.cells 107 [(vi 0)])) [],oS 1 t3 t11,oM s4 t12]) (.seq (.seq (.reg [oM s13 t4,oP s14 (.un .not t13)]) (.cond t14
 (.reg [oM s15 t2,oY (.pan t15) []])
 .skip)) (.reg [oG s16 t0,oN s17 t16,oF s18 5 t17,oL s19 t18,oF s20 0 t3,oG s21 t20,oG s22 t0,oN s23 t22,oF s24 3 t23,oG s25 t24,oP s26 (.bld [vz,(vi 0),(.str []),(vi 0)] [(0,1,t19),(1,1,t21),(3,1,t25)]),oS 4 t1 t26])))),1,[s5,s2]⟩)⟩
def f18:FI:=⟨(.seq (.reg [oX s2 (.new 0 false false (.cells 61 [(vi 0),(vi 0),(vi 0),(.str []),vz])) []]) (.seq (.reg [oG s6 t0,oX s7 (.new 1 false true (.map [])) [],oP s8 (.bld [.nilp,(vi 0),(vi 0),(vi 0),(.str []),vz,.nilm] [(0,1,t6),(6,1,t7)]),oX s9 (.box 2 false 65 7 t8) [],oM s3 t9]) (.seq (.reg [oM s11 t3,oG s12 t1,oN s13 t12,oF s14 8 t13,oG s15 t14,oN s16 t15,oF s17 6 t16,oL s18 t17,oC s19 19 [t11,t18],oM s10 t19,oE s20 t10 0,oE s21 t10 1,oX s4 (.new 3 false false (.cells 61 [(vi 0),(vi 0),(vi 0),(.str []),vz])) [],oS 5 t4 t20,oM s5 t21]) (.seq (.reg [oR s22 (.ld true 5 t4),oS 5 t2 t22]) .ret)))),4,[.c true 5 s2],none⟩
def z8i:AC:=(.seq (.reg [oQ s13 .lss t12 t11]) (.seq (.cond t13
 .skip
 (.exit 0)) (.seq (.blk 1 (.seq (.reg [oP s14 (.iad 1 t10 t12),oG s15 t14,oM s7 t15]) (.seq (.reg [oM s17 t0,oM s18 t7,oC s19 33 [t17,t18],oM s16 t19,oE s20 t16 0,oE s21 t16 1,oX s8 (.new 1 false false (.cells 61 [(vi 0),(vi 0),(vi 0),(.str []),vz])) [],oS 5 t8 t20,oM s9 t21]) (.seq (.reg [oM s22 t9]) (.cond t22
 (.seq (.reg [oR s23 (.ld true 5 t8),oS 5 t4 t23,oM s5 (.c (.bool true))]) .ret)
 .skip))))) (.reg [oQ s24 .add t12 (ci 1),oM s12 t24]))))
def f19:FI:=⟨(.seq (.reg [oX s4 (.new 0 false false (.cells 61 [(vi 0),(vi 0),(vi 0),(.str []),vz])) [],oM s5 (.c (.bool false))]) (.seq (.seq (.reg [oM s10 t1,oP s11 (.len false t10),oM s12 (ci 0)]) (.blk 0 (.loop z8i))) (.seq (.reg [oP s25 (.bld [(vi 0),(vi 0),(vi 0),(.str []),vz] []),oS 5 t4 t25,oM s5 (.c (.bool false))]) .ret))),2,[.c true 5 s4,.t s5],none⟩
noncomputable def f20:FI:=⟨dF 26 [3,15,23424,3,3,47,192,5224,1088,6952,56031365,84,3,15,23424,1,0,3,3,15,22624,5,6,3,3,39,4512,384,10408,62474501,116,0,2,3,13,3,79,544,4736,7456169,16451,1504,4864,7745833,19907,57115947,204,3,15,23424,1,0,31,4640,1873349,13472,3,15,24256,1] [],0,[(.t s4)],none⟩
noncomputable def f21:FI:=⟨dF 21 [3,15,18880,3,79,256,44751471,6272,5030,59494,113958,6816,7520,8224,3,71,2432,448,64328,3872,3232,31,63,12960,3,23,4672,13504,1] [(oP s18 (.bld [vz,(vi 0),(vi 0),(vi 0),(vi 0)] [(0,(1,t13)),(1,(1,t15)),(3,(1,t16)),(4,(1,t17))])),(oX s19 (.box 0 true 91 5 t18) [])],1,[(.t s2)],none⟩
noncomputable def f22:FI:=⟨dF 47 [3,15,73824,3,3,143,192,9249,493572,12322,162712069,15392,366,384,366,18465,366,341860,366,21538,366,512,366,24609,366,26148,366,27683,366,29224,366,227092645,369668874,180,3,15,73824,1,0,3,103,736,35361,36900,38435,864,41505,364900,44578,73745129,691367,31,3511441,3,127,169508,50722,147140453,53792,1166,169636,1166,56866,1166,146985669,679654378,61472,2830,330724,2830,64547,2830,2912,2830,144901323,851050410,69312,1] [(oX s5 (.new 0 false false (.cells 116 [(vi 0),(vi 0),(.str []),(vi 0)])) [(.l t31),(.c t29),(.l t25)])],1,[(.t s4)],none⟩
noncomputable def f23:FI:=⟨dF 22 [3,15,31,3,31,63,95,339185,3,47,160,29581583,2340,5188,512049,3,23,288,34102731855,3,39,352,13306324815,60260,1020977,3,23,448,23727596783,3,39,512,10497714863,118148,1446065,3,23,608,24229340559,3,23,406887,1765617,1] [(oX s2 (.new 0 false false (.cells 86 [(vi 0),(.str []),(vi 0),(.str []),vz,vz,vz])) []),(oP s4 (.bld [(vi 0),(.str []),(vi 0),(.str []),vz,vz,vz] [])),(oX s3 (.new 1 false false (.cells 86 [(vi 0),(.str []),(vi 0),(.str []),vz,vz,vz])) [])],2,[(.c true 7 s2)],none⟩
noncomputable def f24:FI:=⟨dF 89 [3,15,31,3,31,63,95,918865,3,47,224,166332015,8836,25956,1230897,3,5,3,31,448,487013349039,43136,108,3,71,512,46113,897700,51874,37822085,46241,909220,3074097,3,39,736,330790248111,433700,3687473,3,23,832,449054151663,39,896,310049152847,858212,4455473,3,31,1024,127,94976,252,3,71,1088,97953,949540,103714,37873925,98081,961060,5838897,39,1312,310352453871,858628,6452273,23,352,159,3,3,31,858660,126755,608650411,372,3,15,267840,3,23,1504,369589393039,3,13,6,3,3,87,1568,141153,1417092,146914,544169061,152672,4590,1760,4590,387157457871,4590,161324,5778132490,468,0,10,21,3,3,31,13280,169960,797105893,492,23,1984,453370353775,0,3,39,2048,13472,227458071087,188128,3,47,13536,16416,191,223,199488,87,1283876,204515,16576,2368,311122374704,1137,255,287,319,1284132,11981873,23,2560,387740768943,0,3,39,2624,311309021487,1708644,12750001,3,39,2720,311379019727,3830500,13210673,3,23,4254887,13429073,1] [(oX s2 (.new 0 false false (.cells 49 [(vi 0),(.str []),(.str []),vz,(vi 0),(.str []),vz,vz,vz,vz])) []),(oP s6 (.bld [(vi 0),(.str []),(.str []),vz,(vi 0),(.str []),vz,vz,vz,vz] [])),(oX s3 (.new 1 false false (.cells 49 [(vi 0),(.str []),(.str []),vz,(vi 0),(.str []),vz,vz,vz,vz])) []),(oC s33 22 [t32,(.c (.str [102,117,110,99]))]),(oC s12 36 [t11,(.c (.str [109,97,105,110]))]),(oP s69 (.bsl 1 1 (.str []) [(0,t68)])),(oX s70 (.app 2 0 1 (.str []) 16 t67 t69) []),(oP s76 (.bld [(.str []),(vi 0),(.str []),vz,vz,vz] [(0,(1,t73)),(1,(5,t75))])),(oP s77 (.bsl 1 6 (.agg [(.str []),(vi 0),(.str []),vz,vz,vz]) [(0,t76)])),(oX s78 (.app 2 0 6 (.agg [(.str []),(vi 0),(.str []),vz,vz,vz]) 112 t72 t77) [])],2,[(.c true 10 s2)],none⟩
noncomputable def f25:FI:=⟨dF 11 [3,15,31,3,3,31,96,63,1580,44,3,23,192,5341133135,3,23,95,584017,1,0,3,31,288,26321487,729425,1] [(oX s2 (.new 0 false false (.cells 49 [(vi 0),(.str []),(.str []),vz,(vi 0),(.str []),vz,vz,vz,vz])) []),(oC s4 22 [t3,(.c (.str [109,97,105,110]))]),(oP s8 (.bld [(vi 0),(.str []),(.str []),vz,(vi 0),(.str []),vz,vz,vz,vz] []))],1,[(.c true 10 s2)],none⟩
noncomputable def f26:FI:=⟨dF 14 [3,87,64,993,67780,1954,192,2913,3396,3875,4360,24866597,92,23,384,7920830831,0] [],0,[],none⟩
noncomputable def f28:FI:=⟨dF 246 [3,3,87,704,173921,2590660,31504551,1620577999,205344,166182,2575046,212608,220512,3,23,24544,6489622661,244,23,31,1514442487377487,0,3,135,1088,268769,2685508,284580,292483,1248,308289,2725028,2732932,332003,850992516751,347424,261222,2670086,354368,362272,3,3,23,40864,63,388,3,31,40928,95,393792,111,48864,403137,411044,2827783,48992,434753,2851492,450562,49120,466369,5291940,482179,375525384532527,0,3,47,2048,33568,505921,34245348,20436017,3,55,2176,537505,2954244,5370980,561219,4651512047,3,87,2400,4844982287,600640,584998,2993862,5402726,127,606368,614272,24763505,3,79,2560,632353,640260,648162,34176,5425377264,1321,656129,679780,26723377,3,127,2816,695585,703492,711394,2944,727201,735108,743010,750913,758820,766722,6328209520,1449,719553,3199268,31124529,3,3,23,7300615,1947680,5,6,3,15,7990909893,3,836,0,2,3,13,3,39,814176,159,826880,834784,79,3424,82176,3488,90112,845889,44244260,2177692332207,191,34897969,23,593387173,908576,3,47,3712,223,916929,41882852,36783153,3,3,63,3840,948513,3365252,5781988,972227,980136,1948416,21,6,3,15,7673125861,3,1020,0,18,3,29,3,55,995968,7675519017,25107975,255,1008000,40748369,111,4192,1035457,41993508,1051266,4924324,1067075,4384,59520,98912,1073021065,1106594,2791225685136,1053074,287,23,593569125,1129728,3,3,63,4608,1138209,3554948,3562852,1161923,1169832,1949184,37,6,3,15,7731127525,3,1212,0,34,3,45,3,39,7733520649,25289767,319,47957329,3,95,36448,2531908,1233059,4940804,1248867,963204889908623,1264448,1217446,3626310,1267904,1275808,183,5216,1288385,1296292,1304194,5344,1320001,1327908,1335810,1343713,15804612,1359522,5568,24212007,37120,131616,3504134182224,316022687956,1078289856149168,642322539,351,383,1312577,15891556,56902705,23,593759365,1453248,3,3,63,5920,1462273,3879012,6295748,1485987,1493896,1950496,53,6,3,15,7830213701,3,1540,0,50,3,61,3,55,1509728,7832606857,25621735,415,1519872,61121873,3,87,6272,24244199,37824,61472,148096,1220441961,1588738,3998881699952,305,1229684015053263,1606528,3,87,164000,6592,61728,148352,1239775849,1651970,4157262789935,1620545,11311012,66333745,143,6848,1691489,1699396,1707298,6976,1723105,1731012,1738914,1746817,18616548,1762626,164640,447,479,1715521,18663972,71363633,23,594083589,1816672,135,7392,1825857,1833764,1841666,7520,7552,1865377,4282116,9107684,25977415,70688,511,1466030488501936,3737,1849857,21199268,76393521] [(oP s31 (.bld [(vi 0)] [])),(oP s48 (.bin .neq .ifc t47 (.c .nili))),(oP s50 (.tas 129 false .undef t49)),(oX s9 (.new 0 false false (.cells 97 [(vi 0),(vi 0),(vi 0)])) []),(oP s106 (.ixa 3 1 false t102 t103)),(oP s114 (.iaa 3 1 t113 t108)),(oX s117 (.new 1 true true (.map [])) []),(oX s13 (.new 2 false false (.cells 49 [(vi 0),(.str []),(.str []),vz,(vi 0),(.str []),vz,vz,vz,vz])) []),(oY (.mup false [.s] t134 t136 t142) []),(oX s15 (.new 3 false false (.cells 49 [(vi 0),(.str []),(.str []),vz,(vi 0),(.str []),vz,vz,vz,vz])) []),(oP s180 (.bsl 1 1 .nilp [(0,t179)])),(oX s181 (.app 4 0 1 .nilp 8 t173 t180) [(.c t165)]),(oX s19 (.new 4 false false (.cells 49 [(vi 0),(.str []),(.str []),vz,(vi 0),(.str []),vz,vz,vz,vz])) []),(oP s226 (.bsl 1 1 .nilp [(0,t225)])),(oX s227 (.app 5 0 1 .nilp 8 t224 t226) [(.c t216)]),(oP s242 (.bsl 1 1 (vi 0) [(0,t241)]))],5,[],none⟩
noncomputable def f29:FI:=⟨dF 50 [3,15,91264,3,39,256,31,63,16096,3,31,352,145902799,19328,3,3,31,416,172118863,82080,5,6,3,15,196088517,3,132,0,2,3,13,3,23,24544,27360,3,71,608,8640,29088242287,34176,29510,205542,35392,37024,3,111,5568,5600,40833,218468,44099,7328,10560,43637236208,433,95,127,39489,231524,3753009,111,5952,5984,60417,414052,63683,7712,10944,61096028592,625,159,191,59073,427108,5116977,23,8825541,77280,3,23,6368,78464,1] [(oP s9 (.bld [.nilp,vz,vz] [(0,(1,t8))])),(oX s10 (.box 0 true 144 3 t9) []),(oP s32 (.bsl 1 1 (vi 0) [(0,t31)])),(oX s33 (.app 1 0 1 (vi 0) 8 t28 t32) []),(oP s44 (.bsl 1 1 vz [(0,t43)])),(oX s45 (.app 1 0 1 vz 24 t40 t44) [])],1,[(.t s2)],none⟩
noncomputable def f30:FI:=⟨dF 7 [3,15,3200,3,47,96,801,1060,1314,1408,1] [],0,[(.t s2)],none⟩
def f32:FI:=⟨(.seq (.reg [oX s3 (.box 0 false 61 5 t1) [],oM s4 (.c (.str [])),oM s5 (ci 0)]) (.seq (.reg [oX s6 (.new 1 false false (.cells 150 [.nilp,vz])) []]) (.seq (.seq (.reg [oM s7 t0,oR s8 (.ld true 5 t3),oC s9 58 [t7,t8,t6],oP s10 (.un .not t9)]) (.cond t10
 (.seq (.reg [oM s4 (.c (.str [])),oM s5 (ci 53)]) .ret)
 .skip)) (.seq (.reg [oC s11 59 [t6],oM s4 t11,oM s5 (ci 0)]) .ret)))),2,[.t s4,.t s5],none⟩
def zht:AC:=(.seq (.seq (.reg [oF s70 2 t6,oG s71 t70,oQ s72 .eql t71 (ci 1)]) (.cond t72
 .skip
 (.exit 1))) (.blk 2 (.seq (.seq (.reg [oM s74 t0,oM s75 t1,oN s76 t75,oF s77 3 t76,oL s78 t77,oC s79 19 [t74,t78],oM s73 t79,oE s80 t73 0,oE s81 t73 1,oX s7 (.new 2 false false (.cells 61 [(vi 0),(vi 0),(vi 0),(.str []),vz])) [],oS 5 t7 t80,oM s8 t81]) (.seq (.reg [oM s82 t8]) (.cond t82
 (.seq (.reg [oR s83 (.ld true 5 t7),oS 5 t4 t83,oM s5 (.c (.bool true))]) .ret)
 .skip))) (.seq (.reg [oM s84 t0,oN s85 t84,oF s86 0 t85,oG s87 t86,oC s88 60 [t87]]) (.reg [oM s89 t0,oM s90 t1,oN s91 t90,oF s92 2 t91,oG s93 t92,oC s94 61 [t89,t93],oS 5 t6 t94])))))
def f33:FI:=⟨(.seq (.reg [oX s4 (.new 0 false false (.cells 61 [(vi 0),(vi 0),(vi 0),(.str []),vz])) [],oM s5 (.c (.bool false))]) (.seq (.reg [oM s9 t0,oN s10 t9,oF s11 0 t10,oG s12 t11,oC s13 60 [t12]]) (.seq (.reg [oM s14 t0,oM s15 t1,oN s16 t15,oF s17 2 t16,oG s18 t17,oC s19 61 [t14,t18],oX s6 (.new 1 false false (.cells 61 [(vi 0),(vi 0),(vi 0),(.str []),vz])) [],oS 5 t6 t19]) (.seq (.seq (.reg [oM s20 t1,oN s21 t20,oF s22 0 t21,oG s23 t22]) (.blk 0 (.seq (.seq (.reg [oQ s25 .eql t23 (ci 1),oM s24 t25]) (.cond t24
 .skip
 (.reg [oQ s26 .eql t23 (ci 2),oM s24 t26]))) (.cond t24
 (.reg [oM s27 t0,oN s28 t27,oF s29 6 t28,oG s30 t29,oM s31 t1,oN s32 t31,oF s33 1 t32,oL s34 t33,oR s35 (.ld true 5 t6),oY (.mup false [.s] t30 t34 t35) []])
 (.seq (.reg [oQ s37 .eql t23 (ci 3),oM s36 t37]) (.cond t36
 (.reg [oM s38 t0,oN s39 t38,oF s40 0 t39,oG s41 t40,oR s42 (.ld true 5 t6),oC s43 62 [t41,t42]])
 (.seq (.reg [oQ s45 .eql t23 (ci 6),oM s44 t45]) (.cond t44
 (.seq (.reg [oR s46 (.ld true 5 t6),oS 5 t4 t46,oM s5 (.c (.bool true))]) .ret)
 (.seq (.reg [oQ s48 .eql t23 (ci 4),oM s47 t48]) (.cond t47
 (.seq (.seq (.reg [oF s49 2 t6,oG s50 t49,oQ s51 .eql t50 (ci 1)]) (.cond t51
 (.seq (.reg [oM s52 t0,oM s53 t1,oN s54 t53,oF s55 3 t54,oL s56 t55,oC s57 19 [t52,t56],oE s58 t57 0,oE s59 t57 1,oS 5 t4 t58,oM s5 t59]) .ret)
 .skip)) (.seq (.reg [oM s60 t0,oM s61 t1,oN s62 t61,oF s63 4 t62,oL s64 t63,oC s65 19 [t60,t64],oE s66 t65 0,oE s67 t65 1,oS 5 t4 t66,oM s5 t67]) .ret))
 (.seq (.reg [oQ s69 .eql t23 (ci 5),oM s68 t69]) (.cond t68
 (.blk 1 (.loop zht))
 .skip)))))))))))) (.seq (.reg [oP s95 (.bld [(vi 0),(vi 0),(vi 0),(.str []),vz] []),oS 5 t4 t95,oM s5 (.c (.bool false))]) .ret))))),3,[.c true 5 s4,.t s5],none⟩
def zhu:AC:=(.seq (.seq (.reg [oM s13 t6,oM s14 t0,oP s15 (.len true t14),oQ s16 .lss t13 t15]) (.cond t16
 .skip
 (.exit 0))) (.blk 1 (.seq (.seq (.reg [oM s17 t5,oP s18 (.len false t17),oQ s19 .eql t18 (ci 4096),oM s20 t19,⟨some s21,some (s20,true),(.p (.mov t0))⟩,⟨some s22,some (s20,true),(.p (.mov t6))⟩,⟨some s23,some (s20,true),(.p (.ixs t21 t22))⟩,⟨some s24,some (s20,true),(.e (.call 64 [t23]) [])⟩,oP s25 (.pick t20 t24 (.c (.bool false)))]) (.cond t25
 (.seq (.reg [oM s26 t5,oM s27 t6,oM s2 t26,oM s3 t27,oM s4 (ci 3)]) .ret)
 .skip)) (.seq (.reg [oM s28 t0,oM s29 t6,oC s30 65 [t28,t29],oX s7 (.new 0 false false (.cells 161 [(vi 0),(vi 0),(.str []),(vi 0),(vi 0),(vi 0),(vi 0)])) [],oS 7 t7 t30]) (.seq (.seq (.reg [oF s31 5 t7,oG s32 t31,oQ s33 .neq t32 (ci 0)]) (.cond t33
 (.seq (.reg [oM s34 t5,oF s35 6 t7,oG s36 t35,oF s37 5 t7,oG s38 t37,oM s2 t34,oM s3 t36,oM s4 t38]) .ret)
 .skip)) (.seq (.reg [oM s39 t5,oF s40 0 t7,oR s41 (.ld true 4 t40),oP s42 (.bsl 1 4 (.agg [(vi 0),(vi 0),(.str []),(vi 0)]) [(0,t41)]),oX s43 (.app 1 0 4 (.agg [(vi 0),(vi 0),(.str []),(vi 0)]) 40 t39 t42) [],oM s5 t43]) (.reg [oM s44 t0,oF s45 4 t7,oG s46 t45,oC s47 63 [t44,t46],oM s6 t47])))))))
def f34:FI:=⟨(.seq (.reg [oM s2 (.c vz),oM s3 (ci 0),oM s4 (ci 0)]) (.seq (.seq (.reg [oM s8 t0,oP s9 (.len true t8),oQ s10 .gtr t9 (ci 65536)]) (.cond t10
 (.seq (.reg [oM s2 (.c vz),oM s3 (ci 0),oM s4 (ci 2)]) .ret)
 .skip)) (.seq (.reg [oM s5 (.c vz)]) (.seq (.reg [oM s11 t0,oC s12 63 [t11,(ci 0)],oM s6 t12]) (.seq (.blk 0 (.loop zhu)) (.seq (.reg [oM s48 t5,oM s2 t48,oM s3 (ci 0),oM s4 (ci 0)]) .ret)))))),1,[.t s2,.t s3,.t s4],none⟩
noncomputable def f35:FI:=⟨dF 29 [3,15,27904,3,3,87,96,2913,169060,4834,224,6753,7716,8675,9640,74421349,100,3,111,416,12513,13476,14435,544,16353,182500,18274,31070121,20196,21156,22114,22336,1,0,3,47,800,24033,107588,25954,26048,1] [],0,[(.t s2)],none⟩
noncomputable def f36:FI:=⟨dF 17 [3,3,39,128,704,1734684559,3500,60,3,23,256,11017476175,1,0,71,320,5793,90148,6946,719621,5921,92452,1120305] [],0,[],none⟩
noncomputable def f37:FI:=⟨dF 30 [3,15,32768,3,3,39,160,1152,4288084079,6988,68,3,23,288,31923280655,3,15,32768,1,0,3,71,352,10945,184740,12930,2605925,11073,188708,1399857,3,111,576,17889,18884,19875,704,21857,195652,23842,10392837,33371433,199620,27811,27968,1] [],0,[(.t s4)],none⟩
noncomputable def f38:FI:=⟨dF 122 [3,15,31,3,3,31,256,260112111,35468,84,3,23,352,797788369615,3,23,63,2427057,1,0,3,3,23,4352,1651322213,124,3,23,512,827051504495,3,23,95,3358897,1,0,3,3,23,608,745658511631,164,3,39,672,745722361615,127,4290737,1,0,3,103,768,94497,98436,102371,896,110241,1535236,118114,539397193,1547044,129923,132896,3,71,1120,137793,1562788,145666,86834021,137921,1578532,7310385,3,3,15,20864,5,3,23,1158326027,173152,348,3,23,159,8390833,1,3,23,1159036651,184960,372,3,23,191,8949937,1,3,23,1159747275,196768,396,3,23,223,9509041,1,3,23,1145536811,208576,420,3,63,1728,5664,86900933,327691291311,255,287,10999985,1,3,23,319,240064,484,3,55,1984,5920,86932421,374512424239,351,12304561,1,3,23,1160458379,267616,540,3,39,2208,6144,409660171567,13236401,1,0,3,31,383,415,13424817,3,13,6,3,3,87,2336,287361,2422884,295234,1122222885,303104,6414,2528,6414,823245625743,6414,314924,16093055818,660,0,10,21,3,31,2656,447,328160,3,3,15,30048,684,71,2752,338529,1763524,346402,87034757,338657,1779268,16867377,0,3,87,1447460,366083,3040,1447556,377891,567649001232,1489,479,511,1447716,18740273,3,63,2158276,401507,30656,543,575,2158436,19864625,3,87,2868996,425123,3520,7456,87121349,655438401968,1729,607,639,2869252,21551153,23,3744,882667434959,3,23,3808,824524944399,3,23,3579943,22554801,1] [(oX s4 (.new 0 false false (.cells 46 [(vi 0),(.str []),vz,vz,vz])) []),(oP s13 (.bld [(vi 0),(.str []),vz,vz,vz] [])),(oP s18 (.bld [(vi 0),(.str []),vz,vz,vz] [])),(oP s23 (.bld [(vi 0),(.str []),vz,vz,vz] [(0,(1,(ci 4))),(1,(1,t22))])),(oP s45 (.bld [(vi 0),(.str []),vz,vz,vz] [(0,(1,(ci 1)))])),(oP s48 (.bld [(vi 0),(.str []),vz,vz,vz] [(0,(1,(ci 2)))])),(oP s51 (.bld [(vi 0),(.str []),vz,vz,vz] [(0,(1,(ci 3)))])),(oP s58 (.bsl 1 5 (.agg [(vi 0),(.str []),vz,vz,vz]) [(0,t57)])),(oP s59 (.bld [(vi 0),(.str []),vz,vz,vz] [(0,(1,(ci 5))),(4,(1,t58))])),(oP s61 (.bin .eql eS t42 (.c (.str [102,110])))),(oP s66 (.bld [(vi 0),(.str []),vz,vz,vz] [(0,(1,(ci 7))),(4,(1,t65))])),(oP s72 (.bld [(vi 0),(.str []),vz,vz,vz] [(0,(1,(ci 6)))])),(oX s6 (.new 1 false false (.cells 46 [(vi 0),(.str []),vz,vz,vz])) []),(oC s84 22 [t83,(.c (.str [101,109,98,101,100]))]),(oP s99 (.bsl 1 1 (.str []) [(0,t98)])),(oX s100 (.app 2 0 1 (.str []) 16 t94 t99) []),(oP s105 (.bsl 1 1 (.bool false) [(0,t104)])),(oX s106 (.app 2 0 1 (.bool false) 1 t103 t105) []),(oP s114 (.bsl 1 5 (.agg [(vi 0),(.str []),vz,vz,vz]) [(0,t113)])),(oX s115 (.app 2 0 5 (.agg [(vi 0),(.str []),vz,vz,vz]) 96 t109 t114) [])],2,[(.c true 5 s4)],none⟩
noncomputable def f39:FI:=⟨dF 34 [3,15,41472,3,3,23,192,28541393263,60,3,15,38240,5,6,3,3,39,5696,1376,10120,97167461,92,0,2,3,13,3,135,1536,5920,11163401,17955,576,20193,21316,22435,704,24673,230340,26914,41034761,233700,30275,79791595,236,3,23,960,48024957487,3,15,41472,1,0,31,5824,3490725,14304,0,3,31,1024,28773097839,36032,1] [],0,[(.t s4)],none⟩
noncomputable def f40:FI:=⟨dF 27 [3,15,27776,3,23,192,35143514735,3,15,27808,3,5,6,3,3,87,256,7201,233604,8994,54431525,10784,1294,448,1294,28426587183,1294,13484,190863338,140,0,2,13,63,4896,608,1504,12451835631,31,63,20032,3,23,768,28497378479,3,23,5152,22592,1] [(oP s22 (.bsl 1 7 (.agg [(vi 0),(vi 0),(.str []),vz,vz,vz,vz]) [(0,t21)])),(oX s23 (.app 0 0 7 (.agg [(vi 0),(vi 0),(.str []),vz,vz,vz,vz]) 128 t18 t22) [])],0,[(.t s4)],none⟩
noncomputable def f42:FI:=⟨dF 69 [3,31,31,161248,154656,3,31,63,95,22208,3,3,31,3705383,201385455,26924,108,3,71,9280,31393,33636,165961494319,38118,322982,39808,42048,1,0,3,3,39,2852,44835,47080,155296,5,6,3,15,373751141,3,196,0,2,3,13,3,39,263801609,2049863,127,3440881,3,63,9696,60513,62756,299044,67235,159,75196234191,3,39,9920,584036,1502599,84620051183,47,10048,85153,87396,191,96395295471,23,19705573,95680,3,3,71,288452,98595,573348,103075,223,870649103,109800,156192,21,6,3,15,381789157,3,420,0,18,3,29,3,39,382069609,2967079,255,7141713,31,10592,2867783,131666777775,23,19767877,129696,3,39,10720,858628,2982759,143405848399,3,71,10848,141153,143396,169181148495,147878,432742,148000,150240,1] [(oX s1 (.box 0 false 51 13 t0) []),(oP s9 (.bld [.nilp,vz,(vi 0)] [])),(oX s10 (.box 1 false 172 3 t9) []),(oX s6 (.new 2 false false (.cells 86 [(vi 0),(.str []),(vi 0),(.str []),vz,vz,vz])) []),(oP s32 (.bsl 3 1 (.str []) [(0,(.c (.str [116,121,112,101]))),(1,t31),(2,(.c (.str [61])))])),(oP s41 (.bsl 1 1 (.str []) [(0,(.c (.str [59])))])),(oP s48 (.bsl 2 1 vz [(0,t45),(1,t47)])),(oX s8 (.new 3 false false (.cells 49 [(vi 0),(.str []),(.str []),vz,(vi 0),(.str []),vz,vz,vz,vz])) [])],4,[(.t s2),(.t s3)],none⟩
noncomputable def f44:FI:=⟨dF 168 [3,23,940928,1069984,3,63,800,1106924623,140544,129894,1355654,145344,150752,3,3,23,38560,31,244,39,33248,6400,322693917231,177632,0,3,39,1088,6496,352949534607,193792,3,3,23,38816,63,308,47,33504,1280,44320,94268180043087,226016,0,3,3,23,39008,95,356,3,39,39072,127,940928,247456,1,0,3,31,159,191,258336,3,23,223,263744,3,15,908896,3,3,31,1600,270440,910208,5,6,3,15,2857453221,3,428,0,2,3,13,3,39,2020270281,8872167,255,12854513,3,47,55552,1297444,308291,61024,287,63,61056,2523300,6458567,319,2780474639,78771237,349792,23,206203973,356480,3,3,31,2144,362376,910752,21,6,3,15,2878382533,3,564,0,18,3,29,3,39,2041199593,8964103,351,16825585,3,103,34624,2534500,6534279,766398874543,416288,394950,1620710,2846470,383,18227377,425248,430656,3,3,23,93984,2446991179,660,31,1309028,448899,452128,0,135,51104,51136,465121,1696260,475939,1309252,486755,56704,94368,415,447,479,511,460097,1755748,22748209,23,206296453,539808,3,47,51616,546241,1777380,557059,543,3,3,31,46400,573288,912000,37,6,3,15,2926396837,3,876,0,34,3,45,3,55,584128,2089213929,9180423,575,591968,26169585,3,47,52000,2562628,6745191,1159721852047,624288,3,39,105888,3776,638184,3779552261,964,183,52256,52288,659809,3116676,670627,9408,106208,4096,692264,438271813,2954686057,1934212,713891,1337540,724707,117248,607,639,671,654977,3208612,32597041,0,23,206507461,766848,3,3,31,9952,773384,913184,53,6,3,15,2971948869,3,1172,0,50,3,61,3,39,2973163881,13052295,703,34577745,111,53152,805825,811236,816643,58656,1354308,832867,735,1354404,849091,1589365737,5762820,37052465,23,206706981,870176,3,47,53568,876129,3332996,886947,767,3,31,53728,897920,1069984,1] [(oP s30 (.bin .eql .ptr t29 (.c .nilp))),(oP s38 (.bin .eql .ptr t37 (.c .nilp))),(oP s44 (.bin .neq .ptr t43 (.c .nilp))),(oP s46 (.ifc 129 t45)),(oP s47 (.bld [vz,vz,vz] [])),(oX s48 (.box 0 true 192 3 t47) []),(oX s49 (.new 1 false true (.map [])) []),(oX s13 (.new 2 false false (.cells 86 [(vi 0),(.str []),(vi 0),(.str []),vz,vz,vz])) []),(oY (.mup false [.s] t56 t58 t59) []),(oP s63 (.bsl 1 5 (.agg [(vi 0),(.str []),vz,vz,vz]) [(0,t62)])),(oX s15 (.new 3 false false (.cells 86 [(vi 0),(.str []),(vi 0),(.str []),vz,vz,vz])) []),(oX s16 (.new 4 false false (.cells 46 [(vi 0),(.str []),vz,vz,vz])) []),(oR s94 (.lku false [.s] false (vi 0) t92 t93)),(oP s95 (.bld [(.str []),(vi 0)] [(0,(1,t91)),(1,(1,t94))])),(oP s96 (.bsl 1 2 (.agg [(.str []),(vi 0)]) [(0,t95)])),(oX s97 (.app 5 2 2 (.agg [(.str []),(vi 0)]) 24 t89 t96) []),(oC s105 83 [t104,(.c (.fn 84 [] []))]),(oX s20 (.new 6 false false (.cells 202 [(vi 0),(.str []),(vi 0),(.str []),vz,vz,vz])) []),(oP s137 (.bld [(.str []),(.str []),(vi 0)] [(0,(1,t133)),(1,(1,t135)),(2,(1,t136))])),(oP s138 (.bsl 1 3 (.agg [(.str []),(.str []),(vi 0)]) [(0,t137)])),(oX s139 (.app 7 2 3 (.agg [(.str []),(.str []),(vi 0)]) 40 t125 t138) []),(oX s23 (.new 8 false false (.cells 49 [(vi 0),(.str []),(.str []),vz,(vi 0),(.str []),vz,vz,vz,vz])) []),(oR s156 (.lku false [.s] false (vi 0) t153 t155)),(oC s166 87 [t165,(.c (.fn 88 [] []))])],9,[(.t s4),(.t s5)],none⟩
noncomputable def f45:FI:=⟨dF 28 [3,23,31,4544,3,31,192,5608,26240,5,6,3,15,69945637,3,76,0,2,3,13,3,39,70022729,797799,63,995665,3,55,2176,161700,12099,95,2221701,127,3,47,2336,161860,16739,159,85489829,172,47,4292,99303,162052,22307,1454143871439,0,23,2215781,24448] [(oX s5 (.new 0 false true (.map [])) []),(oX s4 (.new 1 false false (.cells 49 [(vi 0),(.str []),(.str []),vz,(vi 0),(.str []),vz,vz,vz,vz])) []),(oR s15 (.lku false [.s] false (vi 0) t12 t14)),(oY (.mup false [.s] t12 t14 t16) []),(oR s20 (.lku false [.s] false (vi 0) t17 t19))],2,[],none⟩
noncomputable def f46:FI:=⟨dF 76 [3,31,197056,187360,31,3,3,63,352,27137,360356,693572,34531,37000,187808,5,6,3,15,455156677,3,148,0,2,3,13,3,39,455482601,3354375,63,2791761,87,5536,704,15332,387463,3322919,500783696,369,9646338560239,95,127,70592,23,25179461,73504,3,127,992,1024,78881,412100,1076068,86276,419495,1216,93665,426884,1090852,1424068,1757287,15946152760079,107104,3,3,63,1440,110913,444132,4415623,959014575,120776,188896,21,6,3,15,466486021,3,420,0,18,3,29,3,39,466811945,3438151,159,7528785,39,1760,2998020,138019,155543630159,23,25263077,145120,3,3,23,191,189216,37,6,3,15,478748485,3,500,0,34,3,45,3,39,150368,223,153504,155968,71,23968,2112,255,26496,287,25608999753295,319,9821233,23,25287813,177056,3,55,7200,9664,1004391,177600,180064,10449009,1] [(oX s4 (.new 0 false false (.cells 97 [(vi 0),(vi 0),(vi 0)])) []),(oX s6 (.new 1 false false (.cells 49 [(vi 0),(.str []),(.str []),vz,(vi 0),(.str []),vz,vz,vz,vz])) []),(oP s28 (.bsl 1 1 (vi 0) [(0,t27)])),(oX s29 (.app 2 0 1 (vi 0) 8 t21 t28) []),(oX s8 (.new 2 false false (.cells 49 [(vi 0),(.str []),(.str []),vz,(vi 0),(.str []),vz,vz,vz,vz])) []),(oP s60 (.bld [(vi 0),(vi 0),(vi 0)] [(0,(1,(ci 1))),(1,(1,(ci 2))),(2,(1,(ci 3)))])),(oP s64 (.ixa 3 1 false t60 t61)),(oP s67 (.bld [(vi 0)] [])),(oP s69 (.bld [(vi 0),(.str []),vz,vz,vz] [(0,(1,t68))])),(oP s71 (.iaa 3 1 t4 t65))],3,[(.t s2),(.t s3),(.c true 3 s4)],none⟩
noncomputable def f47:FI:=⟨dF 162 [3,15,876160,3,3,23,544,31,148,3,15,876160,1,0,3,31,608,812670415,103680,3,31,672,897610319,114144,3,31,16288,982550223,124544,3,55,800,16384,63,95,127,150496,3,3,39,960,1279826927,161736,846048,5,6,3,15,2591881861,3,276,0,2,3,13,3,31,293628073,182595,186848,3,71,1216,37536,369307005263,208544,193126,1344006,212800,218016,39,27296,42880,22176,94599854081615,23,186609957,244704,3,3,31,1536,2044254959,846592,21,6,3,15,2611534949,3,412,0,18,3,29,3,23,260864,269888,39,27616,53568,22496,115624154154895,23,186698405,297088,3,79,1856,27808,307777,3765540,318210,159,191,223,337312,3,3,31,17664,344296,847168,37,6,3,15,2632344101,3,556,0,34,3,45,3,31,334090313,365154,368480,135,59328,59360,380801,1536868,391235,28384,401665,2708580,412098,69984,255,287,319,375969,1594244,19183665,23,186792677,453184,3,3,39,2816,3742949359,442389893,467008,53,6,3,3,23,75488,3509410245,740,0,50,3,61,135,60064,495553,2802468,505987,60192,516417,1672484,526851,75872,374557705,542498,75968,1143303529,558148,563364,24208433,31,75552,442410757,487744,3,3,55,60544,573793,2880708,584227,589448,848672,69,6,3,15,2686679109,3,932,0,66,3,77,3,23,599904,607008,3,63,60800,615521,2922436,625955,81664,1162987689,638144,3,103,86912,4000,86976,657249,662468,667684,672898,1230926641519,647041,688548,1844612,29917233,3,119,87264,61376,4384,87360,719841,725060,730276,735490,1344569221999,1353954496335,704481,756356,3063268,32885809,111,87680,61792,4800,87776,787649,792868,798084,803298,1467682011471,1477067280623,772289,4276708,35853361,23,187038661,833120,3,23,62176,834688,1] [(oP s18 (.bin .eql .ptr t17 (.c .nilp))),(oX s27 (.new 0 false true (.map [])) []),(oP s28 (.bld [.nilp,vz,.nilm,(vi 0)] [(0,(1,t25)),(1,(1,t26)),(2,(1,t27))])),(oX s29 (.box 1 false 221 4 t28) []),(oX s63 (.mks 2 true true true 4 (.agg [(vi 0),(.str []),vz,vz]) 72 t62 t62) []),(oP s64 (.bld [.nilp,vz,vz] [(0,(1,t58)),(2,(1,t63))])),(oX s65 (.box 3 true 227 3 t64) []),(oR s82 (.lku false [.i] false (vi 0) t80 t81)),(oP s83 (.bsl 1 1 (vi 0) [(0,t82)])),(oX s84 (.app 4 0 1 (vi 0) 8 t76 t83) [])],4,[(.t s2)],none⟩
noncomputable def f48:FI:=⟨dF 12 [3,15,7360,3,3,23,96,31,36,3,15,7360,1,0,3,71,160,192,19288175,63,95,127,159,4288,1] [(oP s4 (.bin .eql .ptr t3 (.c .nilp))),(oX s8 (.new 0 true true (.map [])) []),(oX s9 (.new 1 true true (.map [])) []),(oP s10 (.bld [.nilp,.nilp,.nilm,.nilm] [(0,(1,t5)),(1,(1,t7)),(2,(1,t8)),(3,(1,t9))])),(oX s11 (.box 2 true 238 4 t10) [])],3,[(.t s2)],none⟩
noncomputable def f49:FI:=⟨dF 20 [3,15,13568,3,119,256,5409,6084,6754,7425,8100,8770,1120,6366234127,10464,5030,56262,11040,11712,3,23,3808,12288,1] [],0,[(.t s4)],none⟩
end Go.Abs.Run
namespace Go.Abs.Run
open Go Go.Abs Go.Proofs
noncomputable def f50:FI:=⟨dF 32 [3,23,33984,35040,3,3,55,320,10593,200068,12707,13768,34272,5,6,3,15,88006149,3,132,0,2,3,13,3,39,27428393,300615,31,1705073,3,87,9828,20099,1696,71336651,23264,1774,104196,1774,25379,1774,2880,1774,71812971,297250698,228,3,39,198564,30658,30912,36064,1,0,23,3031013,32224,3,23,33984,35040,1] [(oX s9 (.new 0 false false (.cells 205 [(.str []),(.str []),(vi 0)])) [])],1,[(.t s6),(.t s7)],none⟩
noncomputable def f51:FI:=⟨dF 119 [3,23,31,480000,3,63,697284,49955,1378980,57635,63,95,68768,3,55,608,697508,76835,127,159,87840,3,3,39,2060900,92195,96040,457824,5,6,3,15,1237947429,3,228,0,2,3,13,3,55,103744,750573001,4205031,191,110720,5692625,3,63,1024,8672,35360,145314409,134434,202027687311,141248,3,191,27872,27904,27936,153633,1520740,161315,39492,168995,223,28192,184353,2233092,192035,43552,255,287,319,146465,1574500,8672305,150337,2263812,9957425,119,32352,32384,230433,2279172,238115,40132,245795,44000,351,383,415,226913,2313732,12720177,23,81219333,275040,3,103,28992,2368,10016,10048,291880,203422053,175467561,303394,449030775567,280609,3723076,14932017,3,71,33152,29376,326433,3738436,334114,322721,1705060,16222257,3,71,29568,33408,6152900,357155,527767512527,349601,4458468,17512497,3,3,39,6153060,376355,380200,381184,3,103,48928,1058280741,391712,3310,6153252,3310,399395,3310,49088,3310,203533413,3310,927422825,3310,1096388,3310,418594,3310,1186462117,13626901130,900,47,18852,1115591,1382180,441635,447,0,3,23,30432,449536,1] [(oX s4 (.box 0 false 49 10 t1) []),(oP s17 (.bld [(.str []),(.str []),vz,vz,(vi 0),(vi 0),vz] [(0,(1,t14)),(1,(1,t16))])),(oX s18 (.box 1 true 71 7 t17) []),(oP s22 (.bld [.nilp,(.str []),(vi 0),vz] [(0,(1,t19)),(1,(1,t21))])),(oX s23 (.box 2 false 242 4 t22) []),(oX s10 (.new 3 false false (.cells 122 [(.str []),(vi 0),(.str []),vz,vz,vz])) []),(oP s46 (.bsl 1 1 (.str []) [(0,t45)])),(oP s53 (.bsl 1 1 (vi 0) [(0,t52)])),(oX s47 (.app 4 0 1 (.str []) 16 t43 t46) [(.l t50)]),(oX s54 (.app 4 0 1 (vi 0) 8 t51 t53) []),(oP s67 (.bld [(.str []),(vi 0)] [(0,(1,t65)),(1,(1,t66))])),(oP s68 (.bsl 1 2 (.agg [(.str []),(vi 0)]) [(0,t67)])),(oX s69 (.app 4 0 2 (.agg [(.str []),(vi 0)]) 24 t63 t68) []),(oC s117 43 [t114,(ci 44),t116])],4,[(.t s6)],none⟩
noncomputable def f52:FI:=⟨dF 12 [3,15,6656,3,71,31,192,608,1605148687,63,95,127,4352,1] [(oP s5 (.bsl 0 1 (vi 0) [])),(oP s9 (.fld true 0 2 t8)),(oP s10 (.fld false 1 1 t9)),(oX s11 (.app 0 0 1 (vi 0) 8 t5 t10) [])],0,[(.t s4)],none⟩
noncomputable def f53:FI:=⟨dF 8 [3,15,3904,3,55,96,897,1188,1474,12869103,1856,1] [],0,[(.t s2)],none⟩
noncomputable def f54:FI:=⟨dF 8 [3,15,2368,3,55,96,897,36004,1475,1768,1856,1] [],0,[(.t s2)],none⟩
noncomputable def f55:FI:=⟨dF 18 [3,23,11072,11680,3,79,288,896,3724210735,6592,4998,49958,31,964753,7712,3,55,3908,8548,9154,4576,9344,9952,1] [(oX s6 (.new 0 false false (.cells 231 [(vi 0),(.str []),vz,vz])) [])],1,[(.t s4),(.t s5)],none⟩
noncomputable def f56:FI:=⟨dF 10 [3,15,3648,3,55,160,512,1114801519,31,63,3008,1] [(oP s8 (.fld true 0 2 t7)),(oP s9 (.fld false 0 1 t8))],0,[(.t s4)],none⟩
noncomputable def f57:FI:=⟨dF 12 [3,15,6656,3,39,192,608,1605149455,3232,3,23,2208,28746959,3,23,2272,4352,1] [],0,[(.t s4)],none⟩
def b58x0:AC:=(.seq (.reg [oQ s66 .lss t65 t64]) (.seq (.cond t66
 .skip
 (.exit 1)) (.seq (.blk 2 (.seq (.reg [oM s67 t65,oP s68 (.iad 1 t63 t65),oL s69 t68,oM s7 t67,oM s8 t69]) (.seq (.seq (.reg [oM s70 t7,oQ s71 .gtr t70 (ci 0)]) (.cond t71
 (.reg [oM s72 t2,oC s73 110 [t72,(.c (.str [44,32]))]])
 .skip)) (.seq (.reg [oM s74 t2,oM s75 t8,oP s76 (.bin .add eS t75 (.c (.str [58,32]))),oC s77 110 [t74,t76]]) (.seq (.reg [oM s78 t2,oC s79 115 [t78],oQ s80 .gtr t79 (ci 4096),oM s81 t80,⟨some s82,some (s81,false),(.p (.mov t0))⟩,⟨some s83,some (s81,false),(.p (.fad 4 t4))⟩,⟨some s84,some (s81,false),(.r (.ld false 1 t83))⟩,⟨some s85,some (s81,false),(.p (.mov t7))⟩,⟨some s86,some (s81,false),(.p (.iad 5 t84 t85))⟩,⟨some s87,some (s81,false),(.r (.ld true 5 t86))⟩,⟨some s88,some (s81,false),(.p (.mov t2))⟩,⟨some s89,some (s81,false),(.e (.call 58 [t82,t87,t88]) [])⟩,⟨some s90,some (s81,false),(.p (.un .not t89))⟩,oP s91 (.pick t81 (.c (.bool true)) t90)]) (.cond t91
 (.seq (.reg [oM s6 (.c (.bool false))]) .ret)
 .skip)))))) (.reg [oQ s92 .add t65 (ci 1),oM s65 t92]))))
def f58:FI:=⟨(.seq (.reg [oX s4 (.box 0 false 61 5 t1) [],oM s6 (.c (.bool false))]) (.seq (.seq (.reg [oF s9 0 t4,oG s10 t9]) (.blk 0 (.seq (.reg [oQ s12 .eql t10 (ci 1),oM s11 t12]) (.cond t11
 (.reg [oM s13 t2,oF s14 2 t4,oG s15 t14,oC s16 111 [t15],oC s17 110 [t13,t16]])
 (.seq (.reg [oQ s19 .eql t10 (ci 2),oM s18 t19]) (.cond t18
 (.reg [oM s20 t2,oF s21 2 t4,oG s22 t21,oQ s23 .eql t22 (ci 1),oC s24 112 [t23],oC s25 110 [t20,t24]])
 (.seq (.reg [oQ s27 .eql t10 (ci 3),oM s26 t27]) (.cond t26
 (.reg [oM s28 t2,oF s29 3 t4,oL s30 t29,oC s31 110 [t28,t30]])
 (.seq (.reg [oQ s33 .eql t10 (ci 6),oM s32 t33]) (.cond t32
 (.reg [oM s34 t2,oF s35 3 t4,oL s36 t35,oP s37 (.bin .add eS (.c (.str [102,110,32])) t36),oC s38 110 [t34,t37]])
 (.seq (.reg [oQ s40 .eql t10 (ci 5),oM s39 t40]) (.cond t39
 (.seq (.seq (.reg [oF s41 4 t4,oL s42 t41,oP s43 (.len false t42),oQ s44 .eql t43 (ci 0)]) (.cond t44
 (.seq (.reg [oM s45 t2,oC s46 110 [t45,(.c (.str [110,105,108]))]]) (.exit 0))
 .skip)) (.seq (.reg [oM s47 t2,oC s48 113 [t47,(cu 38)]]) (.seq (.reg [oM s49 t0,oF s50 4 t4,oL s51 t50,oP s52 (.iad 5 t51 (ci 0)),oR s53 (.ld true 5 t52),oM s54 t2,oC s55 58 [t49,t53,t54],oM s6 t55]) .ret)))
 (.seq (.reg [oQ s57 .eql t10 (ci 4),oM s56 t57]) (.cond t56
 (.seq (.reg [oM s58 t2,oC s59 113 [t58,(cu 123)]]) (.seq (.seq (.reg [oM s60 t0,oF s61 1 t4,oG s62 t61,oC s63 114 [t60,t62],oP s64 (.len false t63),oM s65 (ci 0)]) (.blk 1 (.loop b58x0))) (.reg [oM s93 t2,oC s94 113 [t93,(cu 125)]])))
 .skip)))))))))))))) (.seq (.reg [oM s95 t2,oC s96 115 [t95],oQ s97 .leq t96 (ci 4096),oM s6 t97]) .ret))),1,[.t s6],none⟩
def f59:FI:=⟨(.seq (.reg [oM s2 (.c (.str []))]) (.seq (.reg [oM s3 t0,oN s4 t3,oF s5 1 t4,oL s6 t5,oP s7 (.usd t6),oM s8 t0,oN s9 t8,oF s10 1 t9,oL s11 t10,oP s12 (.len false t11),oP s13 (.ust t7 t12),oM s2 t13]) .ret)),0,[.t s2],none⟩
def f60:FI:=⟨(.seq (.seq (.reg [oM s2 t0,oN s3 t2,oF s4 3 t3,oG s5 t4,oM s6 t0,oN s7 t6,oF s8 2 t7,oG s9 t8,oQ s10 .eql t5 t9]) (.cond t10
 (.reg [oP s11 (.bld [(vi 0)] [(0,1,(ci 50))]),oP s12 (.ifc 107 t11),oY (.pan t12) []])
 .skip)) (.reg [oM s13 t0,oN s14 t13,oF s15 3 t14,oG s16 t15,oQ s17 .add t16 (ci 1),oN s18 t13,oF s19 3 t18,oS 1 t19 t17])),0,[],none⟩
def f61:FI:=⟨(.seq (.reg [oX s4 (.new 0 false false (.cells 61 [(vi 0),(vi 0),(vi 0),(.str []),vz])) []]) (.seq (.seq (.reg [oM s16 t1,oN s17 t16,oF s18 0 t17,oF s19 1 t18,oG s20 t19]) (.blk 0 (.seq (.reg [oQ s22 .eql t20 (ci 1),oM s21 t22]) (.cond t21
 (.seq (.reg [oM s23 t1,oN s24 t23,oF s25 7 t24,oG s26 t25,oM s27 t1,oN s28 t27,oF s29 0 t28,oF s30 2 t29,oG s31 t30,oP s32 (.bld [(vi 0),(vi 0),(vi 0),(.str []),vz] [(0,1,(ci 1)),(1,1,t26),(2,1,t31)]),oS 5 t4 t32]) .ret)
 (.seq (.reg [oQ s34 .eql t20 (ci 2),oM s33 t34]) (.cond t33
 (.seq (.reg [oM s35 t1,oN s36 t35,oF s37 7 t36,oG s38 t37,oM s39 t1,oN s40 t39,oF s41 0 t40,oF s42 3 t41,oL s43 t42,oP s44 (.bld [(vi 0),(vi 0),(vi 0),(.str []),vz] [(0,1,(ci 3)),(1,1,t38),(3,1,t43)]),oS 5 t4 t44]) .ret)
 (.seq (.reg [oQ s46 .eql t20 (ci 3),oM s45 t46]) (.cond t45
 (.seq (.reg [oM s47 t1,oN s48 t47,oF s49 7 t48,oG s50 t49,oM s51 t1,oN s52 t51,oF s53 0 t52,oF s54 2 t53,oG s55 t54,oP s56 (.bld [(vi 0),(vi 0),(vi 0),(.str []),vz] [(0,1,(ci 2)),(1,1,t50),(2,1,t55)]),oS 5 t4 t56]) .ret)
 (.seq (.reg [oQ s58 .eql t20 (ci 4),oM s57 t58]) (.cond t57
 (.seq (.seq (.reg [oM s59 t1,oN s60 t59,oF s61 14 t60,oG s62 t61]) (.cond t62
 (.seq (.reg [oM s63 t1,oN s64 t63,oF s65 7 t64,oG s66 t65,oM s67 t1,oN s68 t67,oF s69 0 t68,oF s70 3 t69,oL s71 t70,oP s72 (.bld [(vi 0),(vi 0),(vi 0),(.str []),vz] [(0,1,(ci 6)),(1,1,t66),(3,1,t71)]),oS 5 t4 t72]) .ret)
 .skip)) (.seq (.reg [oM s73 t0,oN s74 t73,oF s75 6 t74,oG s76 t75,oM s77 t1,oN s78 t77,oF s79 0 t78,oF s80 3 t79,oL s81 t80,oR s82 (.lku false [.s] false (.agg [(vi 0),(vi 0),(vi 0),(.str []),vz]) t76 t81),oS 5 t4 t82]) .ret))
 (.seq (.reg [oQ s84 .eql t20 (ci 5),oM s83 t84]) (.cond t83
 (.seq (.reg [oM s85 t0,oN s86 t85,oF s87 1 t86,oR s88 (.ld true 5 t87),oS 5 t4 t88]) .ret)
 (.seq (.reg [oQ s90 .eql t20 (ci 6),oM s89 t90]) (.cond t89
 (.seq (.reg [oM s91 t1,oN s92 t91,oF s93 7 t92,oG s94 t93,oP s95 (.bld [(vi 0),(vi 0),(vi 0),(.str []),vz] [(0,1,(ci 5)),(1,1,t94)]),oS 5 t4 t95]) .ret)
 (.seq (.seq (.reg [oQ s97 .eql t20 (ci 7),oM s96 t97]) (.cond t96
 .skip
 (.reg [oQ s98 .eql t20 (ci 8),oM s96 t98]))) (.cond t96
 (.seq (.reg [oM s99 t0,oM s100 t1,oC s101 116 [t99,t100],oS 5 t4 t101]) .ret)
 (.seq (.reg [oQ s103 .eql t20 (ci 9),oM s102 t103]) (.cond t102
 (.seq (.reg [oM s104 t0,oM s105 t1,oN s106 t105,oF s107 16 t106,oL s108 t107,oP s109 (.iad 1 t108 (ci 0)),oG s110 t109,oC s111 61 [t104,t110],oX s5 (.new 1 false false (.cells 61 [(vi 0),(vi 0),(vi 0),(.str []),vz])) [],oS 5 t5 t111]) (.seq (.reg [oM s112 t0,oN s113 t112,oF s114 0 t113,oG s115 t114,oM s116 t0,oN s117 t116,oF s118 0 t117,oG s119 t118,oR s120 (.ld true 5 t5),oM s121 t1,oN s122 t121,oF s123 9 t122,oF s124 0 t123,oL s125 t124,oM s127 t1,oN s128 t127,oF s129 0 t128,oF s130 3 t129,oL s131 t130,oP s132 (.bsl 1 1 (.str []) [(0,t131)]),oX s126 (.call 117 [t119,t120,t125]) [(.l t130),(.c t114)],oC s133 117 [t115,t126,t132],oS 5 t4 t133]) .ret))
 (.seq (.reg [oQ s135 .eql t20 (ci 10),oM s134 t135]) (.cond t134
 (.seq (.reg [oM s136 t0,oM s137 t1,oN s138 t137,oF s139 16 t138,oL s140 t139,oP s141 (.iad 1 t140 (ci 0)),oG s142 t141,oC s143 61 [t136,t142],oX s6 (.new 2 false false (.cells 61 [(vi 0),(vi 0),(vi 0),(.str []),vz])) [],oS 5 t6 t143]) (.seq (.reg [oM s144 t0,oM s145 t1,oN s146 t145,oF s147 16 t146,oL s148 t147,oP s149 (.sls false 1 t148 (some (ci 1)) none none),oC s150 118 [t144,t149],oM s7 t150]) (.seq (.reg [oM s152 t0,oR s153 (.ld true 5 t6),oM s154 t1,oN s155 t154,oF s156 9 t155,oR s157 (.ld true 5 t156),oX s8 (.new 3 false false (.cells 61 [(vi 0),(vi 0),(vi 0),(.str []),vz])) [(.l t156),(.l t6)],oX s158 (.call 119 [t152,t153,t157]) [(.l t8)],oM s151 t158,oE s159 t151 0,oE s160 t151 1,oS 5 t8 t159,oM s9 t160]) (.seq (.reg [oM s161 t0,oN s162 t161,oF s163 0 t162,oG s164 t163,oM s165 t9,oR s166 (.ld true 5 t8),oM s167 t7,oC s168 120 [t164,t165,t166,t167],oS 5 t4 t168]) .ret))))
 (.seq (.reg [oQ s170 .eql t20 (ci 11),oM s169 t170]) (.cond t169
 (.seq (.reg [oM s171 t0,oM s172 t1,oN s173 t172,oF s174 16 t173,oL s175 t174,oP s176 (.iad 1 t175 (ci 0)),oG s177 t176,oC s178 61 [t171,t177],oX s10 (.new 4 false false (.cells 61 [(vi 0),(vi 0),(vi 0),(.str []),vz])) [],oS 5 t10 t178]) (.seq (.reg [oM s179 t0,oM s180 t1,oN s181 t180,oF s182 16 t181,oL s183 t182,oP s184 (.sls false 1 t183 (some (ci 1)) none none),oC s185 118 [t179,t184],oM s11 t185]) (.seq (.reg [oM s186 t0,oN s187 t186,oF s188 0 t187,oG s189 t188,oM s190 t0,oN s191 t190,oF s192 0 t191,oG s193 t192,oN s194 t193,oF s195 0 t194,oG s196 t195,oF s197 3 t10,oL s198 t197,oP s200 (.bld [(vi 0),(vi 0),(vi 0),(.str []),vz] []),oM s201 t11,oX s199 (.call 121 [t196,t198]) [(.c t188)],oC s202 120 [t189,t199,t200,t201],oS 5 t4 t202]) .ret)))
 (.seq (.reg [oQ s204 .eql t20 (ci 12),oM s203 t204]) (.cond t203
 (.seq (.reg [oM s205 t0,oM s206 t1,oN s207 t206,oF s208 16 t207,oL s209 t208,oP s210 (.iad 1 t209 (ci 0)),oG s211 t210,oC s212 61 [t205,t211],oX s12 (.new 5 false false (.cells 61 [(vi 0),(vi 0),(vi 0),(.str []),vz])) [],oS 5 t12 t212]) (.seq (.seq (.reg [oM s214 t0,oN s215 t214,oF s216 0 t215,oG s217 t216,oN s218 t217,oF s219 0 t218,oG s220 t219,oF s222 1 t12,oG s223 t222,oM s224 t1,oN s225 t224,oF s226 8 t225,oG s227 t226,oX s221 (.call 122 [t220]) [(.c t226),(.c t222)],oC s228 123 [t221,t223,t227],oM s213 t228,oE s229 t213 0,oE s230 t213 1,oM s13 t229,oM s14 t230]) (.seq (.reg [oM s231 t1,oN s232 t231,oF s233 15 t232,oG s234 t233,oP s235 (.un .not t234),oM s236 t235,⟨some s237,some (s236,true),(.p (.mov t13))⟩,⟨some s238,some (s236,true),(.p (.un .not t237))⟩,oP s239 (.pick t236 t238 (.c (.bool false)))]) (.cond t239
 (.reg [oC s240 124 [(ci 52)]])
 .skip))) (.seq (.reg [oR s241 (.ld true 5 t12),oS 5 t4 t241]) .ret)))
 (.seq (.seq (.reg [oQ s243 .eql t20 (ci 20),oM s242 t243]) (.cond t242
 .skip
 (.reg [oQ s244 .eql t20 (ci 21),oM s242 t244]))) (.cond t242
 (.seq (.reg [oM s245 t0,oM s246 t1,oN s247 t246,oF s248 16 t247,oL s249 t248,oP s250 (.iad 1 t249 (ci 0)),oG s251 t250,oC s252 61 [t245,t251],oX s15 (.new 6 false false (.cells 61 [(vi 0),(vi 0),(vi 0),(.str []),vz])) [],oS 5 t15 t252]) (.seq (.seq (.reg [oF s253 2 t15,oG s254 t253,oQ s255 .eql t254 (ci 1),oM s256 t1,oN s257 t256,oF s258 0 t257,oF s259 1 t258,oG s260 t259,oQ s261 .eql t260 (ci 21),oP s262 (.bin .eql eB t255 t261)]) (.cond t262
 (.seq (.reg [oR s263 (.ld true 5 t15),oS 5 t4 t263]) .ret)
 .skip)) (.seq (.reg [oM s264 t0,oM s265 t1,oN s266 t265,oF s267 16 t266,oL s268 t267,oP s269 (.iad 1 t268 (ci 1)),oG s270 t269,oC s271 61 [t264,t270],oS 5 t4 t271]) .ret)))
 .skip)))))))))))))))))))))))))) (.seq (.reg [oM s272 t0,oM s273 t1,oM s274 t0,oM s275 t1,oN s276 t275,oF s277 16 t276,oL s278 t277,oC s279 118 [t274,t278],oC s280 125 [t272,t273,t279],oS 5 t4 t280]) .ret))),7,[.c true 5 s4],none⟩
def f62:FI:=⟨(.seq (.reg [oX s3 (.box 0 false 61 5 t1) []]) (.seq (.reg [oM s7 t0,oN s8 t7,oF s9 1 t8,oG s10 t9,oR s11 (.ld true 5 t3),oC s12 32 [t10,t11],oM s6 t12,oE s13 t6 0,oE s14 t6 1,oM s4 t13,oM s5 t14]) (.seq (.reg [oM s15 t5,oC s16 124 [t15]]) (.seq (.seq (.reg [oM s17 t0,oN s18 t17,oF s19 6 t18,oG s20 t19,oM s21 t4,oP s22 (.len true t21),oQ s23 .add t20 t22,oQ s24 .add t23 (ci 1),oQ s25 .gtr t24 (ci 65536)]) (.cond t25
 (.reg [oC s26 124 [(ci 53)]])
 .skip)) (.seq (.reg [oM s27 t0,oN s28 t27,oF s29 6 t28,oG s30 t29,oM s31 t4,oP s32 (.len true t31),oQ s33 .add t32 (ci 1),oQ s34 .add t30 t33,oN s35 t27,oF s36 6 t35,oS 1 t36 t34]) (.reg [oM s37 t0,oM s38 t0,oN s39 t38,oF s40 5 t39,oL s41 t40,oM s42 t4,oP s43 (.bsl 1 1 (.str []) [(0,t42)]),oX s44 (.app 1 0 1 (.str []) 16 t41 t43) [],oN s45 t37,oF s46 5 t45,oS 1 t46 t44])))))),1,[],none⟩
def b63x0:AC:=(.seq (.seq (.reg [oM s46 t1,oM s47 t0,oP s48 (.len true t47),oQ s49 .lss t46 t48,oM s50 t49,⟨some s51,some (s50,true),(.p (.mov t0))⟩,⟨some s52,some (s50,true),(.p (.mov t1))⟩,⟨some s53,some (s50,true),(.p (.ixs t51 t52))⟩,⟨some s54,some (s50,true),(.p (.bin .neq eI t53 (cu 10)))⟩,oP s55 (.pick t50 t54 (.c (.bool false)))]) (.cond t55
 .skip
 (.exit 2))) (.blk 3 (.reg [oM s56 t1,oQ s57 .add t56 (ci 1),oM s1 t57])))
def b63x1:AC:=(.seq (.seq (.reg [oM s6 t1,oM s7 t0,oP s8 (.len true t7),oQ s9 .lss t6 t8]) (.cond t9
 .skip
 (.exit 0))) (.blk 1 (.seq (.reg [oM s10 t0,oM s11 t1,oP s12 (.ixs t10 t11),oM s5 t12]) (.seq (.seq (.reg [oM s13 t5,oQ s14 .eql t13 (cu 9),oM s15 t14,⟨some s16,some (s15,false),(.p (.mov t5))⟩,⟨some s17,some (s15,false),(.p (.bin .eql eI t16 (cu 10)))⟩,oP s18 (.pick t15 (.c (.bool true)) t17),oM s19 t18,⟨some s20,some (s19,false),(.p (.mov t5))⟩,⟨some s21,some (s19,false),(.p (.bin .eql eI t20 (cu 13)))⟩,oP s22 (.pick t19 (.c (.bool true)) t21),oM s23 t22,⟨some s24,some (s23,false),(.p (.mov t5))⟩,⟨some s25,some (s23,false),(.p (.bin .eql eI t24 (cu 32)))⟩,oP s26 (.pick t23 (.c (.bool true)) t25)]) (.cond t26
 (.seq (.reg [oM s27 t1,oQ s28 .add t27 (ci 1),oM s1 t28]) (.exit 1))
 .skip)) (.seq (.seq (.reg [oM s29 t5,oQ s30 .neq t29 (cu 47),oM s31 t30,⟨some s32,some (s31,false),(.p (.mov t1))⟩,⟨some s33,some (s31,false),(.p (.bin .add eI t32 (ci 1)))⟩,⟨some s34,some (s31,false),(.p (.mov t0))⟩,⟨some s35,some (s31,false),(.p (.len true t34))⟩,⟨some s36,some (s31,false),(.p (.bin .eql eI t33 t35))⟩,oP s37 (.pick t31 (.c (.bool true)) t36),oM s38 t37,⟨some s39,some (s38,false),(.p (.mov t0))⟩,⟨some s40,some (s38,false),(.p (.mov t1))⟩,⟨some s41,some (s38,false),(.p (.bin .add eI t40 (ci 1)))⟩,⟨some s42,some (s38,false),(.p (.ixs t39 t41))⟩,⟨some s43,some (s38,false),(.p (.bin .neq eI t42 (cu 47)))⟩,oP s44 (.pick t38 (.c (.bool true)) t43)]) (.cond t44
 (.seq (.reg [oM s45 t1,oM s4 t45]) .ret)
 .skip)) (.blk 2 (.loop b63x0)))))))
def f63:FI:=⟨(.seq (.reg [oM s4 (ci 0)]) (.seq (.blk 0 (.loop b63x1)) (.seq (.reg [oM s58 t1,oM s4 t58]) .ret))),0,[.t s4],none⟩
def b65x0:AC:=(.seq (.seq (.reg [oM s32 t7,oM s33 t6,oP s34 (.len false t33),oQ s35 .lss t32 t34]) (.cond t35
 .skip
 (.exit 0))) (.seq (.blk 1 (.seq (.reg [oM s38 t1,oM s39 t6,oM s40 t7,oP s41 (.iad 1 t39 t40),oL s42 t41,oP s43 (.len true t42),oQ s44 .add t38 t43,oM s45 t0,oP s46 (.len true t45),oQ s47 .leq t44 t46,oM s48 t47,⟨some s49,some (s48,true),(.p (.mov t0))⟩,⟨some s50,some (s48,true),(.p (.mov t1))⟩,⟨some s51,some (s48,true),(.p (.mov t1))⟩,⟨some s52,some (s48,true),(.p (.mov t6))⟩,⟨some s53,some (s48,true),(.p (.mov t7))⟩,⟨some s54,some (s48,true),(.p (.iad 1 t52 t53))⟩,⟨some s55,some (s48,true),(.r (.ld false 1 t54))⟩,⟨some s56,some (s48,true),(.p (.len true t55))⟩,⟨some s57,some (s48,true),(.p (.bin .add eI t51 t56))⟩,⟨some s58,some (s48,true),(.p (.sls true 0 t49 (some t50) (some t57) none))⟩,⟨some s59,some (s48,true),(.p (.mov t6))⟩,⟨some s60,some (s48,true),(.p (.mov t7))⟩,⟨some s61,some (s48,true),(.p (.iad 1 t59 t60))⟩,⟨some s62,some (s48,true),(.r (.ld false 1 t61))⟩,⟨some s63,some (s48,true),(.p (.bin .eql eS t58 t62))⟩,oP s64 (.pick t48 t63 (.c (.bool false)))]) (.cond t64
 (.seq (.reg [oM s65 t6,oM s66 t7,oP s67 (.iad 1 t65 t66),oL s68 t67,oP s69 (.bld [(vi 0),(vi 0),(.str []),(vi 0)] [(1,1,(ci 6)),(2,1,t68)]),oX s8 (.new 1 false false (.cells 116 [(vi 0),(vi 0),(.str []),(vi 0)])) [],oS 4 t8 t69]) (.seq (.reg [oM s70 t1,oF s71 0 t8,oF s72 0 t71,oS 1 t72 t70]) (.seq (.reg [oR s73 (.ld true 4 t8),oM s74 t1,oM s75 t6,oM s76 t7,oP s77 (.iad 1 t75 t76),oL s78 t77,oP s79 (.len true t78),oQ s80 .add t74 t79,oP s81 (.bld [(vi 0),(vi 0),(.str []),(vi 0),(vi 0),(vi 0),(vi 0)] [(0,4,t73),(4,1,t80)]),oS 7 t4 t81]) .ret)))
 .skip))) (.reg [oM s36 t7,oQ s37 .add t36 (ci 1),oM s7 t37])))
def f65:FI:=⟨(.seq (.reg [oX s4 (.new 0 false false (.cells 161 [(vi 0),(vi 0),(.str []),(vi 0),(vi 0),(vi 0),(vi 0)])) []]) (.seq (.reg [oM s9 t0,oM s10 t1,oP s11 (.ixs t9 t10),oM s5 t11]) (.seq (.seq (.reg [oM s12 t5,oC s13 126 [t12],oM s14 t13,⟨some s15,some (s14,false),(.p (.mov t5))⟩,⟨some s16,some (s14,false),(.e (.call 127 [t15]) [])⟩,oP s17 (.pick t14 (.c (.bool true)) t16)]) (.cond t17
 (.seq (.reg [oM s18 t0,oM s19 t1,oC s20 130 [t18,t19],oS 7 t4 t20]) .ret)
 .skip)) (.seq (.seq (.reg [oM s21 t5,oC s22 128 [t21]]) (.cond t22
 (.seq (.reg [oM s23 t0,oM s24 t1,oC s25 131 [t23,t24],oS 7 t4 t25]) .ret)
 .skip)) (.seq (.seq (.reg [oM s26 t5,oQ s27 .eql t26 (cu 34)]) (.cond t27
 (.seq (.reg [oM s28 t0,oM s29 t1,oC s30 132 [t28,t29],oS 7 t4 t30]) .ret)
 .skip)) (.seq (.reg [oC s31 129 [],oM s6 t31]) (.seq (.seq (.reg [oM s7 (ci 0)]) (.blk 0 (.loop b65x0))) (.seq (.reg [oM s82 t1,oC s83 133 [(ci 10),t82],oS 7 t4 t83]) .ret)))))))),2,[.c true 7 s4],none⟩
noncomputable def f66:FI:=⟨dF 37 [3,15,46304,3,271,160,6113,351876,8546,93496037,10976,1518,352,1518,13409,1518,244324,1518,15842,1518,480,1518,18273,1518,19492,1518,20707,1518,21928,1518,113601893,436779466,25568,1902,736,1902,28001,1902,29220,1902,30435,1902,864,1902,32865,1902,263780,1902,35298,1902,48038249,1902,152580,1902,38946,1902,2272,1902,93067077,438516874,42752,1] [],0,[(.t s4)],none⟩
noncomputable def f67:FI:=⟨dF 33 [3,15,37024,3,255,96,31404462287,4384,174,192,174,68438285231,67474442,8736,302,320,302,69277408303,104012170,13088,430,448,430,70116531375,140549898,17440,558,576,558,54060735791,177087626,21792,686,704,686,50877259183,213625354,26144,814,832,31,250163082,30496,942,960,942,71059463855,286700810,33856,1] [⟨(some s27),(some (s25,false)),(.e (.call 22 [t26,(.c (.str [102,110]))]) [])⟩],0,[(.t s2)],none⟩
noncomputable def f68:FI:=⟨dF 37 [3,15,49856,3,15,49888,3,23,192,50865743727,3,5,6,3,3,87,256,9761,355524,12194,93499685,14624,1614,448,1614,55647496111,1614,18284,436323498,140,0,2,13,3,3,31,6496,21928,138070437,164,23,672,73591269711,0,63,6656,768,1984,23756124943,31,63,33312,3,23,928,55793003087,3,63,6912,1024,2240,31360398351,95,127,42752,1] [(oP s27 (.bsl 1 5 (.agg [(vi 0),(.str []),vz,vz,vz]) [(0,t26)])),(oX s28 (.app 0 0 5 (.agg [(vi 0),(.str []),vz,vz,vz]) 96 t23 t27) []),(oP s35 (.bsl 1 5 (.agg [(vi 0),(.str []),vz,vz,vz]) [(0,t34)])),(oX s36 (.app 0 0 5 (.agg [(vi 0),(.str []),vz,vz,vz]) 96 t31 t35) [])],0,[(.t s4)],none⟩
noncomputable def f69:FI:=⟨dF 60 [3,15,31,3,31,63,95,742577,3,23,224,169983414031,3,5,6,3,3,87,288,17601,710756,21506,235261861,25408,2382,480,2382,149347411727,2382,31276,1718120266,148,0,2,13,3,87,471012,37123,672,471108,42979,43745355664,305,127,159,471268,3222577,3,3,87,896,54689,747844,58594,235298949,62496,2990,1088,2990,145871382895,2990,68364,1722534954,300,23,1216,142159460463,0,3,3,31,3200,13902117,349827269,340,23,1376,151675287823,0,3,95,932644,87875,1504,3456,15300133,93227713616,721,191,223,255,932932,6567985,23,1760,168850953487,3,23,1824,150008042831,3,23,1163495,7254193,1] [(oX s4 (.new 0 false false (.cells 46 [(vi 0),(.str []),vz,vz,vz])) []),(oP s6 (.bld [(vi 0),(.str []),vz,vz,vz] [(0,(1,(ci 8)))])),(oX s5 (.new 1 false false (.cells 46 [(vi 0),(.str []),vz,vz,vz])) []),(oP s25 (.bsl 1 1 (.str []) [(0,t24)])),(oX s26 (.app 2 0 1 (.str []) 16 t20 t25) []),(oP s51 (.bld [(vi 0),(.str []),vz,vz,vz] [(0,(1,(ci 7))),(4,(1,t50))])),(oP s52 (.bsl 1 5 (.agg [(vi 0),(.str []),vz,vz,vz]) [(0,t51)])),(oX s53 (.app 2 0 5 (.agg [(vi 0),(.str []),vz,vz,vz]) 96 t46 t52) [])],2,[(.c true 5 s4)],none⟩
noncomputable def f70:FI:=⟨dF 140 [3,15,31,3,31,63,95,1234161,3,47,224,261645711,22692,40644,1648689,3,3,31,352,408889999,54188,108,3,23,448,1138228121455,3,23,6294919,3281137,1,0,3,3,23,5024,2292044741,148,3,23,608,1175111782415,3,23,6295079,4305137,1,0,3,5,3,31,768,127,112736,188,3,71,832,117345,1913860,126370,125570885,117473,1931908,6176817,3,23,919460,28705841,3,39,1088,1028861627375,1815556,7204913,3,3,87,1184,166977,2859492,176002,1560116517,185024,5838,1376,5838,1234712757903,5838,198572,25486909642,372,47,1504,1029338734351,159,2712004,10086449,0,23,1632,1235006422159,3,63,1728,1029595761135,248192,6286,1824,6286,1235227066831,25498620778,266016,428,3,23,920324,29962289,3,39,1952,1029852532559,1816420,12762161,23,2048,1235483524655,3,31,2144,191,306752,532,3,71,2208,311361,2107876,320386,125764901,311489,2125924,15027249,23,920836,31002673,3,31,2496,223,356384,620,3,71,2560,360993,2157508,370018,125814533,361121,2175556,17291313,23,921188,30809137,3,3,31,2848,255,406016,708,0,31,2912,1441995263119,414976,708,3,23,921380,30405681,3,3,23,3008,1442105363695,764,23,921476,30613553,0,3,71,3104,437697,2234212,446722,125891237,437825,2252260,20790321,3,47,3328,206552331671855,287,3609828,21818417,3,55,3456,7968,125931845,811376495087,4505988,22847537,3,3,63,922020,509890,1566722405,518912,8206,3744,319,25552651498,956,3,71,3840,541473,2337988,550498,125995013,541601,2356036,25524273,55,4064,8576,126017573,951534406735,5402596,26758193,0,3,23,6298631,27037937,1,23,919108,31356977,3,47,4256,206553395977423,351,3610756,27787313,3,23,4384,1245502670671,3,23,6298855,28471537,1] [(oX s4 (.new 0 false false (.cells 166 [(vi 0),(vi 0),(.str []),vz,vz,vz,vz])) []),(oP s6 (.bld [(vi 0),(vi 0),(.str []),vz,vz,vz,vz] [])),(oX s5 (.new 1 false false (.cells 166 [(vi 0),(vi 0),(.str []),vz,vz,vz,vz])) []),(oC s25 22 [t24,(.c (.str [108,101,116]))]),(oP s49 (.bsl 1 5 (.agg [(vi 0),(.str []),vz,vz,vz]) [(0,t48)])),(oC s68 22 [t67,(.c (.str [112,114,105,110,116]))]),(oC s79 22 [t78,(.c (.str [114,101,116,117,114,110]))]),(oC s90 22 [t89,(.c (.str [105,102]))]),(oP s106 (.bsl 1 7 (.agg [(vi 0),(vi 0),(vi 0),(.str []),vz,vz,vz]) [(0,t105)])),⟨(some s118),(some (s116,true)),(.e (.call 22 [t117,(.c (.str [101,108,115,101]))]) [])⟩,(oP s135 (.bsl 1 7 (.agg [(vi 0),(vi 0),(vi 0),(.str []),vz,vz,vz]) [(0,t134)]))],2,[(.c true 7 s4)],none⟩
noncomputable def f71:FI:=⟨dF 91 [3,23,31,270880,3,3,39,3204,26531,29480,268288,5,6,3,15,668837317,3,108,0,2,3,13,3,39,470081705,3119239,63,2323697,3,87,451876,47139,408918191,53036,55968,654,891748,654,2260423,654,393162335407,654,67756,1634908266,204,3,15,270880,1,0,23,40049573,76096,3,3,39,443492,79523,82472,268864,21,6,3,15,676805125,3,252,0,18,3,29,3,39,677239049,4491367,95,5109073,3,111,458276,100131,573047819,106016,1198,898116,1198,111907,1198,573059595,2697302474,120736,1358,4415975,1358,1029157551,1358,129580,3029299754,372,3,15,270880,1,0,23,40102661,137824,3,3,39,883876,141347,144296,269536,37,6,3,15,686100901,3,420,0,34,3,45,3,39,686534825,4553191,127,8358225,3,111,464772,161955,639506155,167840,1870,904612,1870,173731,1870,573121419,4091691050,182560,2030,4422471,2030,1530115407,2030,191404,4423688330,540,3,15,270880,1,0,23,40164485,199648,3,191,1324260,642884,206115,573153803,212000,5262,1324420,5262,1097316,5262,220835,5262,573168523,6208948522,229664,5454,1324612,5454,1554692,5454,238499,5454,241448,5454,571869989,6212044202,250272,5678,1324836,5678,4653287,5678,2102638671,6214263306,262144,1] [(oX s1 (.box 0 false 51 13 t0) []),(oX s4 (.new 1 false false (.cells 86 [(vi 0),(.str []),(vi 0),(.str []),vz,vz,vz])) []),(oX s6 (.new 2 false false (.cells 49 [(vi 0),(.str []),(.str []),vz,(vi 0),(.str []),vz,vz,vz,vz])) []),(oX s8 (.new 3 false false (.cells 49 [(vi 0),(.str []),(.str []),vz,(vi 0),(.str []),vz,vz,vz,vz])) [])],4,[(.t s2)],none⟩
noncomputable def f72:FI:=⟨dF 25 [3,23,23328,20960,3,5,3,31,1024,5868,6592,52,3,23,23328,20160,1,3,55,320,8353,9188,79554831,31,11488,76,3,23,23328,24960,1,3,55,512,13345,150180,15010,63,16480,124,3,23,23328,28960,1,0,3,55,672,17505,18340,151599983,19328,20960,1] [(oQ s14 .gtr t13 (ci 65536)),(oQ s20 .gtr t19 (ci 4096))],0,[(.t s4),(.t s5)],none⟩
noncomputable def f73:FI:=⟨dF 39 [3,31,1440,7720,50176,5,6,3,15,123191621,3,76,0,2,3,13,3,31,13227881,12835,13888,3,3,71,384,15393,263780,17954,4837765,15521,268900,1640497,3,47,608,24353,25636,216118127,31,188,10,0,3,3,47,768,30753,32036,267236367,151756453,228,39,928,37153,38436,82302806767,0,47,1056,42273,43556,7392,36797488367,23,4829733,47680] [(oQ s23 .gtr t22 (ci 65536))],0,[],none⟩
noncomputable def f74:FI:=⟨dF 151 [3,15,31,3,23,14756,38946,5,3,23,1874999973,53472,84,47,384,58401,63268,63,125846971375,3,23,1881117509,87520,140,47,608,92449,97316,95,184589247695,3,23,1886215493,121568,196,47,832,126497,131364,127,243331524015,3,23,1883157061,155616,252,63,1056,160545,165412,1035204,175139,159,318778140367,3,23,1884176901,199392,324,3,47,1344,204321,209188,191,377599584175,55,1504,4094244,233507,1230837641,5340999,427831360335,3,23,1885196869,262624,428,3,47,1760,267553,272420,223,486692383055,3,3,39,4094628,291875,296744,736480,13,6,3,15,2214773413,3,516,0,10,3,21,3,55,306496,1140156009,5418823,255,314208,14481585,3,3,47,3075332,330787,21568,286829801,345378,580,47,2336,355105,359972,287,637743950735,0,3,87,2496,379425,384292,2056196,394019,21984,300147209,408611,319,721463569615,3,31,2816,5124775,746836754447,47,2912,442657,447524,351,788795518415,23,154259845,465888,47,3104,471841,476708,383,839146040975,3,23,1888257093,500960,820,3,47,3328,505889,510756,415,897888317295,31,3488,5115783,923063902319,3,23,1887237861,549600,900,3,47,3648,554529,559396,447,981805854895,3,3,39,4096516,578851,583720,738368,29,6,3,15,2275213957,3,988,0,26,3,37,3,55,593472,1200596553,5705799,479,599360,27231409,3,87,4064,617761,622628,2057764,632355,33216,350343593,646947,511,1132659503855,3,31,4384,5136007,1158033007599,47,4480,680993,685860,543,1199991452655,23,154546501,704544,47,4672,710177,715044,575,1250341975215,0] [(oX s3 (.box 0 false 46 5 t1) []),(oP s15 (.bsl 1 1 (.str []) [(0,(.c (.str [105,110,116])))])),(oP s22 (.bsl 1 1 (.str []) [(0,(.c (.str [98,111,111,108])))])),(oP s29 (.bsl 1 1 (.str []) [(0,(.c (.str [116,101,120,116])))])),(oP s38 (.bsl 1 1 (.str []) [(0,t37)])),(oP s45 (.bsl 1 1 (.str []) [(0,(.c (.str [42])))])),(oP s58 (.bsl 1 1 (.str []) [(0,(.c (.str [123])))])),(oX s5 (.new 1 false false (.cells 46 [(vi 0),(.str []),vz,vz,vz])) []),(oP s76 (.bsl 1 1 (.str []) [(0,(.c (.str [101,109,98,101,100])))])),(oP s86 (.bsl 1 1 (.str []) [(0,t85)])),(oP s94 (.bsl 1 1 (.str []) [(0,(.c (.str [59])))])),(oP s100 (.bsl 1 1 (.str []) [(0,(.c (.str [125])))])),(oP s107 (.bsl 1 1 (.str []) [(0,(.c (.str [102,110])))])),(oP s117 (.bsl 2 1 (.str []) [(0,(.c (.str [105,110,116,101,114,102,97,99,101]))),(1,(.c (.str [123])))])),(oX s7 (.new 2 false false (.cells 46 [(vi 0),(.str []),vz,vz,vz])) []),(oP s135 (.bsl 1 1 (.str []) [(0,t134)])),(oP s143 (.bsl 1 1 (.str []) [(0,(.c (.str [59])))])),(oP s149 (.bsl 1 1 (.str []) [(0,(.c (.str [125])))]))],3,[],none⟩
noncomputable def f75:FI:=⟨dF 36 [3,15,47296,3,15,42720,3,3,31,288,10696,42976,5,6,3,15,107287301,3,100,0,2,3,13,3,31,11844137,15427,16288,3,47,3936,6272,18984,1897925,20832,3,23,4064,110282757,164,23,31,63,0,23,3994693,25696,3,31,4192,21226749327,27840,3,3,31,800,29640,43488,21,6,3,15,109075717,3,228,0,18,3,29,3,31,13632553,34371,34816,39,7904,10240,95,38208,23,4013509,40032,3,23,8032,40384,1] [(oP s21 (.ifc 9 (.c (.str [108,101,110,32,111,117,116,32,111,102,32,114,97,110,103,101])))),(oY (.pan t21) []),(oX s33 (.app 0 0 10 (.agg [(vi 0),(.str []),(.str []),vz,(vi 0),(.str []),vz,vz,vz,vz]) 184 t31 t32) [])],0,[(.t s2)],none⟩
noncomputable def f76:FI:=⟨dF 84 [3,15,31,3,5,3,39,395524,32675,535743051,37984,92,79,480,40833,43556,395716,48995,782852,54435,63,70139707759,3,39,783012,68035,535778411,73344,196,63,896,76193,78916,783204,84355,95,105305801423,47,192,16353,19076,127,28719906767,3,3,71,396260,95235,535805611,100672,1230,783460,1230,106115,1230,535816491,2319051850,340,3,47,1376,116993,119716,159,146857722991,3,3,39,1170820,130595,133320,230112,13,6,3,15,576876037,3,420,0,10,3,21,3,55,138784,354304329,2469351,191,142592,8115409,3,31,1792,12576,181979961935,3,63,1888,160513,163236,15428,168675,223,204286133935,39,2112,402660,2117639,217079812527,23,32653381,189792,47,2272,193153,195876,255,236259313647,0,3,39,2432,1558820,2144839,249008952047,39,2560,3494308,220355,261780793327] [(oX s3 (.box 0 false 49 10 t1) []),(oP s22 (.bsl 4 1 (.str []) [(0,(.c (.str [109,101,116,104,111,100]))),(1,t19),(2,(.c (.str [46]))),(3,t21)])),(oP s33 (.bsl 2 1 (.str []) [(0,(.c (.str [102,117,110,99]))),(1,t32)])),(oP s9 (.bsl 1 1 (.str []) [(0,(.c (.str [109,97,105,110])))])),(oP s46 (.bsl 1 1 (.str []) [(0,(.c (.str [40])))])),(oX s5 (.new 1 false false (.cells 122 [(.str []),(vi 0),(.str []),vz,vz,vz])) []),(oP s64 (.bsl 1 1 (.str []) [(0,t63)])),(oP s74 (.bsl 1 1 (.str []) [(0,(.c (.str [41])))]))],2,[],none⟩
noncomputable def f77:FI:=⟨dF 66 [3,23,259840,154272,3,23,31,27584,3,3,31,448,30056,142016,5,6,3,15,339327141,3,140,0,2,3,13,3,39,238998729,1901415,63,2457841,3,3,87,9120,279492,47203,95,51328,43046,309190,127,3233009,55168,3,15,17760,220,3,63,13572,326183,279748,64355,8709566605327,259840,67680,1,0,47,9504,279876,72931,1876615,159,23,17598373,78656,3,3,31,1216,81512,142784,21,6,3,15,345765285,3,332,0,18,3,29,3,39,245436873,1952871,191,5558513,3,79,288676,96515,223,815641167,102784,94502,360646,103840,105984,3,71,26976,319709893,111520,1710,555076,1710,1446375,1710,954055567,1710,120108,1929691914,468,3,63,23012,392647,289188,130819,17175002196975,259840,133152,1,0,23,17649925,136448,3,31,10528,137344,154272,1] [(oX s13 (.new 0 true true (.map [])) []),(oX s6 (.new 1 false false (.cells 86 [(vi 0),(.str []),(vi 0),(.str []),vz,vz,vz])) []),(oR s24 (.lku false [.s] true (.agg [(vi 0),(.str []),(vi 0),(.str []),vz,vz,vz]) t21 t23)),(oX s7 (.new 2 false false (.cells 86 [(vi 0),(.str []),(vi 0),(.str []),vz,vz,vz])) []),(oY (.mup false [.s] t33 t35 t36) []),(oX s10 (.new 3 false false (.cells 86 [(vi 0),(.str []),(vi 0),(.str []),vz,vz,vz])) []),(oP s47 (.bld [(vi 0),(.str []),vz,vz,vz] [(0,(1,(ci 4))),(1,(1,t46))]))],4,[(.t s2),(.t s3)],none⟩
noncomputable def f78:FI:=⟨dF 94 [3,15,303936,3,23,31,39264,3,3,31,3456,42600,286272,5,6,3,15,720374437,3,140,0,2,3,13,3,39,720831689,4687079,63,3003729,3,63,4654055,520995343,66816,60902,524166,69440,72480,3,87,832,485156,82115,95,88032,76166,539430,127,4741361,93600,3,63,485316,97315,948612,103395,159,191,5689425,3,63,16224,963783,223,43662405,255,587910,287,21,3,111,485700,133795,616235403,139872,1518,949060,1518,145955,1518,616247563,3611962922,155072,1678,28768,1678,614406789,3897329002,166816,348,3,55,22852,633511,949380,176355,34837646517135,180608,1,3,79,35072,188524,191552,2062,958628,2062,197636,2062,200674,2062,690419397,4896093738,209504,492,3,55,23300,676071,949828,218915,319,222720,1,3,111,17472,965031,351,899833701,240192,2574,959140,2574,1172740,2574,249315,2574,950212,2574,255395,2574,324609562063,6180221546,264096,604,3,55,23876,730791,950404,273635,53626472736655,276864,1,0,23,43594917,280256,3,15,303936,1] [(oX s13 (.new 0 false true (.map [])) []),(oX s7 (.new 1 false false (.cells 49 [(vi 0),(.str []),(.str []),vz,(vi 0),(.str []),vz,vz,vz,vz])) []),(oR s29 (.lku false [.s] true (.agg [(vi 0),(.str []),(vi 0),(.str []),vz,vz,vz]) t26 t28)),(oX s10 (.new 2 false false (.cells 86 [(vi 0),(.str []),(vi 0),(.str []),vz,vz,vz])) []),(oP s36 (.bld [(.str []),(.str [])] [(0,(1,t33)),(1,(1,t35))])),(oX s12 (.new 3 false false (.cells 288 [(.str []),(.str [])])) []),(oR s39 (.lku true [.s,.s] false (vi 0) t37 t38)),(oX s41 (.men true [.s,.s] (vi 0) t37 t38) []),(oY (.est true [.s,.s] t37 t42 t40) []),(oC s74 144 [t71,(ci 25),t73]),(oR s78 (.lku true [.s,.s] false (vi 0) t76 t77))],4,[(.t s4)],none⟩
noncomputable def f79:FI:=⟨dF 45 [3,15,72128,3,15,72160,3,3,31,320,14760,66624,5,6,3,15,160440901,3,108,0,2,3,13,3,39,112961257,1079047,31,1620209,95,7712,10628,176263,161892,28003,313156,786951,63,95,127,36160,23,6822117,37824,3,3,31,2304,39784,67168,21,6,3,15,163036325,3,244,0,18,3,29,3,39,163184681,1557671,159,3450193,95,8256,14052,201287,316516,53027,1526183,449956624,49538,191,223,255,60640,23,6847141,62848,3,23,8608,63488,1] [(oX s7 (.new 0 false false (.cells 86 [(vi 0),(.str []),(vi 0),(.str []),vz,vz,vz])) []),(oP s23 (.bld [(vi 0),(.str []),(vi 0),(.str []),vz,vz,vz] [(0,(1,t18)),(1,(1,t20)),(2,(5,t22))])),(oP s24 (.bsl 1 7 (.agg [(vi 0),(.str []),(vi 0),(.str []),vz,vz,vz]) [(0,t23)])),(oX s25 (.app 1 0 7 (.agg [(vi 0),(.str []),(vi 0),(.str []),vz,vz,vz]) 120 t16 t24) []),(oX s9 (.new 1 false false (.cells 49 [(vi 0),(.str []),(.str []),vz,(vi 0),(.str []),vz,vz,vz,vz])) []),(oP s40 (.bld [(vi 0),(.str []),(vi 0),(.str []),vz,vz,vz] [(0,(1,t35)),(1,(1,t37)),(2,(5,t39))])),(oP s41 (.bsl 1 7 (.agg [(vi 0),(.str []),(vi 0),(.str []),vz,vz,vz]) [(0,t40)])),(oX s42 (.app 2 0 7 (.agg [(vi 0),(.str []),(vi 0),(.str []),vz,vz,vz]) 120 t33 t41) [])],2,[(.t s4)],none⟩
noncomputable def f80:FI:=⟨dF 100 [3,15,342592,3,3,31,7136,74376,324000,5,6,3,15,831568837,3,212,0,2,3,13,3,39,586314473,3671303,31,4595953,3,79,960,1050596,2660231,135011194671,106528,93894,605926,109088,112320,3,15,33152,292,3,47,26788,631623,30048,26701945703695,128192,1,0,23,51281317,132000,3,3,31,4544,135784,324608,21,6,3,15,841358245,3,364,0,18,3,29,3,39,596103881,3732711,63,7713009,3,103,1568,1064004,2721639,215200827279,167936,155302,667334,1179366,95,8697009,173248,176480,3,23,49792,181036,460,3,55,40260,699495,552324,193955,127,198592,1,0,23,51342821,203008,3,15,323712,3,3,31,8448,206888,325312,37,6,3,15,852693349,3,540,0,34,3,45,3,39,607438985,3803815,159,11323633,63,53440,1083876,2789511,191,1917189583,38114405,240512,23,51413637,245312,3,3,23,53664,223,628,3,31,255,287,256192,1,0,3,3,31,8992,261832,325856,53,6,3,15,861452293,3,676,0,50,3,61,3,39,616197929,3858759,319,14110961,3,79,2816,1090852,2847687,379801266927,293984,281350,793382,295072,298304,3,15,73408,756,3,47,67044,819079,70304,351,313792,1,0,23,51468773,319456,3,15,342592,1] [(oX s8 (.new 0 false false (.cells 202 [(vi 0),(.str []),(vi 0),(.str []),vz,vz,vz])) []),(oX s12 (.new 1 false false (.cells 86 [(vi 0),(.str []),(vi 0),(.str []),vz,vz,vz])) []),(oX s13 (.new 2 false false (.cells 46 [(vi 0),(.str []),vz,vz,vz])) []),(oC s62 144 [t59,(ci 22),t61]),(oX s18 (.new 3 false false (.cells 202 [(vi 0),(.str []),(vi 0),(.str []),vz,vz,vz])) []),(oP s73 (.bsl 1 5 (.agg [(vi 0),(.str []),vz,vz,vz]) [(0,t72)])),(oQ s78 .gtr t77 (ci 1024)),(oP s79 (.bld [(vi 0)] [])),(oC s80 144 [t79,(ci 23),(.c (.str []))]),(oX s20 (.new 4 false false (.cells 202 [(vi 0),(.str []),(vi 0),(.str []),vz,vz,vz])) []),(oC s98 144 [t96,(ci 24),t97])],5,[(.t s6)],none⟩
noncomputable def f81:FI:=⟨dF 24 [3,15,19264,3,15,19296,3,3,31,192,4840,19456,5,6,3,15,54648101,3,76,0,2,3,13,3,39,27616073,330599,31,951473,3,3,31,4228,9634,50845893,116,31,2784,1560325,12384,0,55,2848,262468,14435,120386959,1303973,16224,23,1555141,17152,3,23,3040,17728,1] [(oX s5 (.new 0 false false (.cells 46 [(vi 0),(.str []),vz,vz,vz])) [])],1,[(.t s2)],none⟩
noncomputable def f82:FI:=⟨dF 43 [3,39,31,63,64832,62112,3,15,64896,3,23,95,15392,3,5,6,3,3,31,4516,16930,124030341,116,0,2,13,3,87,512,146404,23971,127,26624,21286,163046,159,2118897,29216,3,3,55,11712,146596,32419,191,6129541,223,3,79,14624,38060,39456,942,11968,942,146852,942,43683,255,942,181316613,502891978,284,3,39,287,3801265,64832,62112,1,0,55,147044,52131,297092,763591,52512,4222129,3,47,714087,10976,4328625,57952,63488,1] [(oX s3 (.box 0 false 46 5 t1) []),(oX s4 (.new 1 false false (.cells 46 [(vi 0),(.str []),vz,vz,vz])) []),(oX s11 (.new 2 false true (.map [])) []),(oR s19 (.lku false [.s] true (.agg [(vi 0),(.str []),(vi 0),(.str []),vz,vz,vz]) t16 t18)),(oX s9 (.new 3 false false (.cells 86 [(vi 0),(.str []),(vi 0),(.str []),vz,vz,vz])) []),(oR s25 (.lku false [.s] false (vi 0) t22 t24)),(oY (.mup false [.s] t22 t24 t26) []),⟨(some s33),(some (s29,false)),(.r (.lku false [.s] false (vi 0) t30 t32))⟩,(oP s36 (.bld [(vi 0),(.str []),vz,vz,vz] []))],4,[(.c true 5 s4),(.t s5),(.t s6)],none⟩
noncomputable def f83:FI:=⟨dF 14 [3,31,160,2440,2816,63,224,2048,2080,31,37227823,832,1337138406493103] [(oP s10 (.cvi .u64 t9))],0,[],none⟩
noncomputable def f84:FI:=⟨dF 10 [3,31,31,63,3648,3,55,804,1795,1188,2499,1484417903,3008,1] [(oX s2 (.box 0 false 197 2 t0) []),(oX s3 (.box 1 false 197 2 t1) [])],2,[(.t s4)],none⟩
noncomputable def f85:FI:=⟨dF 13 [3,15,5952,3,5,3,39,192,640,22383979,3488,44,3,15,14272,1,3,39,320,768,26940971,5280,76,3,15,5536,1,0,3,15,5952,1] [],0,[(.t s4)],none⟩
noncomputable def f86:FI:=⟨dF 70 [3,23,31,159168,3,3,31,7076,25026,325588901,108,3,79,480,298436,36387,40833733391,40768,31974,323206,42720,44992,3,23,11872,47168,1,0,3,55,704,50017,52292,54563,56840,58464,3,167,864,896,63649,65924,68195,7748,72738,63,590244,79555,881540,86371,663242800,9481411,718295376,67722,95,127,159,61889,100004,5770289,3,15,168256,3,3,39,1172996,104547,106824,160608,5,6,3,15,392648965,3,404,0,2,3,13,3,39,203655721,1571911,191,6932657,63,19616,1728,1480167,132198758287,223,255,130176,23,20495653,133728,3,87,1920,136353,138628,140899,17728,20000,208060041,149988,443460,8722481,3,23,17888,154688,1] [(oX s3 (.box 0 false 46 5 t1) []),(oP s34 (.bld [(vi 0),vz] [(0,(1,t33))])),(oP s41 (.bld [(vi 0),vz,vz,vz,(.str [])] [(0,(2,t34)),(2,(1,t37)),(3,(1,t40))])),(oP s42 (.bsl 1 5 (.agg [(vi 0),vz,vz,vz,(.str [])]) [(0,t41)])),(oX s43 (.app 1 2 5 (.agg [(vi 0),vz,vz,vz,(.str [])]) 96 t31 t42) []),(oX s10 (.new 2 false false (.cells 46 [(vi 0),(.str []),vz,vz,vz])) []),(oP s57 (.bsl 1 1 (vi 0) [(0,t56)])),(oX s58 (.app 3 0 1 (vi 0) 8 t53 t57) [])],3,[(.t s4)],none⟩
noncomputable def f87:FI:=⟨dF 14 [3,31,160,2440,2816,63,224,2048,2080,31,37227823,832,1337138406494895] [(oP s10 (.cvi .u64 t9))],0,[],none⟩
noncomputable def f89:FI:=⟨dF 37 [3,31,31,63,45184,3,103,352,13409,1622500,15842,580647,95,15191758927,20448,12422,127302,21536,22752,3,3,23,10112,127,172,3,31,10176,159,27520,87,120359,11456,30433,146500,32866,11584,35297,266212,37731,2946931116815,0,3,39,9376,15545865,42594,42816,1] [(oX s4 (.box 0 false 41 1 t1) []),(oX s5 (.box 1 false 46 5 t2) []),(oP s16 (.bsl 1 5 (.agg [(vi 0),(.str []),vz,vz,vz]) [(0,t15)])),(oP s21 (.bin .neq .ifc t20 (.c .nili))),(oP s23 (.tas 129 false .undef t22))],2,[(.t s6)],none⟩
noncomputable def f90:FI:=⟨dF 30 [3,23,31,63,3,31,95,127,556209,3,3,39,260388,6979,7976,30080,5,6,3,15,78547557,3,92,0,2,3,13,3,39,47528073,530343,159,1203409,71,348932,13923,91716,447911,191,223,349124,1771569,23,2602277,20480,3,71,349188,21859,347332,455847,255,287,349380,2517041,3,23,435815,2674865,1] [(oX s1 (.box 0 false 49 10 t0) []),(oX s2 (.new 1 false false (.cells 46 [(vi 0),(.str []),vz,vz,vz])) []),(oP s6 (.bld [(vi 0),(.str []),vz,vz,vz] [(0,(1,(ci 7)))])),(oX s3 (.new 2 false false (.cells 46 [(vi 0),(.str []),vz,vz,vz])) []),(oX s5 (.new 3 false false (.cells 122 [(.str []),(vi 0),(.str []),vz,vz,vz])) []),(oP s18 (.bsl 1 5 (.agg [(vi 0),(.str []),vz,vz,vz]) [(0,t17)])),(oX s19 (.app 4 0 5 (.agg [(vi 0),(.str []),vz,vz,vz]) 96 t15 t18) []),(oP s26 (.bsl 1 5 (.agg [(vi 0),(.str []),vz,vz,vz]) [(0,t25)])),(oX s27 (.app 4 0 5 (.agg [(vi 0),(.str []),vz,vz,vz]) 96 t23 t26) [])],4,[(.c true 5 s2)],none⟩
end Go.Abs.Run
namespace Go.Abs.Run
open Go Go.Abs Go.Proofs
noncomputable def f91:FI:=⟨dF 16 [3,23,31,10816,3,47,63,39588,2755,95,3680,3,79,1792,78628,4931,117636,395687,127,159,191,7744,1] [(oX s1 (.box 0 false 51 13 t0) []),(oP s4 (.bsl 0 10 (.agg [(vi 0),(.str []),(.str []),vz,(vi 0),(.str []),vz,vz,vz,vz]) [])),(oX s7 (.app 1 0 10 (.agg [(vi 0),(.str []),(.str []),vz,(vi 0),(.str []),vz,vz,vz,vz]) 184 t4 t6) []),(oP s14 (.bsl 1 10 (.agg [(vi 0),(.str []),(.str []),vz,(vi 0),(.str []),vz,vz,vz,vz]) [(0,t13)])),(oX s11 (.app 1 0 10 (.agg [(vi 0),(.str []),(.str []),vz,(vi 0),(.str []),vz,vz,vz,vz]) 184 t8 t10) [(.l t12)]),(oX s15 (.app 1 0 10 (.agg [(vi 0),(.str []),(.str []),vz,(vi 0),(.str []),vz,vz,vz,vz]) 184 t11 t14) [])],1,[(.t s2)],none⟩
noncomputable def f92:FI:=⟨dF 43 [3,31,1568,8488,60800,5,6,3,15,146983237,3,76,0,2,3,13,3,39,103328297,1006215,31,1165553,3,95,384,16929,18340,19746,21153,731204,23970,6119685,21281,736836,2025521,3,55,704,7620,174151,432868,35235,3137371100335,3,55,896,574724,40867,108464201,1035783,37471804111,3,39,1088,716644,49315,42183488303,39,1216,858500,54947,46872720303,23,6106661,58048] [(oX s5 (.new 0 false false (.cells 166 [(vi 0),(vi 0),(.str []),vz,vz,vz,vz])) [])],1,[],none⟩
noncomputable def f93:FI:=⟨dF 20 [3,15,17344,3,151,96,2049,2724,3395,256,5409,57284,6755,416,8769,111844,10115,32215280,6642,58430480,241,84645679,31,63,12224,1] [(oP s18 (.bld [vz,vz,vz] [(0,(1,t7)),(1,(1,t12)),(2,(1,t17))])),(oX s19 (.box 0 true 192 3 t18) [])],1,[(.t s2)],none⟩
noncomputable def f94:FI:=⟨dF 88 [3,15,261952,3,31,448,326124271,42336,3,31,8960,31,48000,3,31,9024,63,53664,3,23,95,56512,3,3,23,9120,251328,5,6,3,15,625631461,3,188,0,2,3,13,3,23,62720,67808,3,63,14880,20544,864,20608,96225486255,72589001,4425777,79,12256,20736,17952,1088,20832,120286105743,123677377967,75106761,5646385,23,36738789,110528,3,31,18176,127,115712,21,6,29,3,23,159,118464,3,31,9824,191,124192,3,3,23,9888,252096,37,6,3,15,635702245,3,380,0,34,3,45,3,23,131072,135488,3,55,12832,29760,82659689,145282,223,149600,3,3,55,15808,29920,84757769,159523,162376,252512,53,6,3,15,641157253,3,484,0,50,3,61,3,31,86433449,173762,175008,79,32992,255,13376,38752,89793161,193698,287,319,197472,23,36844005,201824,71,27648,30496,19264,33376,351,261189733039,92310985,11749425,23,36807653,223936,3,3,39,19456,383,25152,527859045,668,3,23,13952,236608,1,0,47,28064,19648,415,239488,245248] [(oX s17 (.mks 0 false true true 1 (vi 0) 8 t16 t16) []),(oX s19 (.mks 1 false true true 1 vz 24 t18 t18) []),(oX s20 (.new 2 false true (.map [])) []),(oR s41 (.mlen t40)),(oX s42 (.new 3 false true (.map [])) []),(oX s44 (.mks 4 false true true 1 (vi 0) 8 t43 t43) []),(oC s53 164 [(.c vz),t52,(ci 36)]),(oP s64 (.bsl 1 1 (vu 0) [(0,(cu 32))])),(oX s65 (.app 5 0 1 (vu 0) 1 t63 t64) [(.c t68)]),(oC s70 164 [t65,t69,(ci 36)]),(oR s76 (.b2s t75)),(oR s81 (.mlen t80)),(oR s87 (.mlen t86))],5,[(.t s2)],none⟩
noncomputable def f95:FI:=⟨dF 31 [3,15,35776,3,15,35808,3,3,31,192,6184,32000,5,6,3,15,82787653,3,76,0,2,3,13,3,47,8256,8943241,11298,10048,12064,3,21,6,3,3,39,3392,13352,5440,91730757,132,0,18,29,39,3520,31,63,18944,3,47,3616,5632,10131017,22562,85059813,196,47,3776,5792,4832,10587529,2544689,0,23,2807301,29024,3,23,3936,29824,1] [(oP s18 (.bsl 1 1 (vi 0) [(0,(.c (vj 0)))])),(oX s19 (.app 0 1 1 (vi 0) 8 t17 t18) [])],1,[(.t s2)],none⟩
noncomputable def f96:FI:=⟨dF 28 [3,15,29632,3,63,192,5601,85380,7459,8392,31,9952,3,3,55,384,11169,90948,13027,13960,26528,5,6,3,15,70663621,3,148,0,2,3,13,3,39,15231721,175367,63,1807441,55,3360,5188,20451,95,127,22496,23,2223813,23840,3,23,3552,24256,1] [(oX s11 (.mks 0 false false true 1 (.str []) 16 (ci 0) t10) []),(oX s5 (.new 0 false false (.cells 197 [(.str []),(vi 0)])) []),(oP s24 (.bsl 1 1 (.str []) [(0,t23)])),(oX s25 (.app 1 0 1 (.str []) 16 t21 t24) [])],1,[(.t s2)],none⟩
noncomputable def f97:FI:=⟨dF 27 [3,23,24320,25216,3,95,288,8097,84164,9891,1280,31,12352,7398,82598,13152,14048,3,3,23,6592,15276,148,3,23,24320,25216,1,0,3,87,608,17057,93124,18851,5920,14827881,96708,22434,22592,26080,1] [(oC s14 165 [t12,t13,(.c (.fn 166 [] []))])],0,[(.t s4),(.t s5)],none⟩
noncomputable def f98:FI:=⟨dF 83 [3,71,448,37665,420164,43043,3232,61194857,51106,53312,3,3,95,704,59169,821476,64546,16768,31,72384,56678,436518,74592,77280,3,15,22208,244,1,0,3,87,992,83361,845668,88738,17056,1152,96801,1238916,102178,63,3,71,1280,107553,1249668,112930,31639685,107681,1260420,6490161,3,47,6816,17472,72669737,131746,133088,3,3,71,1632,137121,139812,142498,25664,172306934095,150568,224960,5,6,3,15,564930437,3,476,0,2,3,13,3,31,76492073,161314,162368,39,1984,31232,7360,28672789872879,23,31680229,177152,3,71,2144,180129,182820,185506,26176,222437258671,193576,225472,21,6,3,15,571050373,3,604,0,18,3,29,3,31,82612009,204322,204928,39,2496,37056,7872,35841773961967,23,31723237,220160] [(oR s27 (.lku false [.i] true (vi 0) t25 t26)),(oY (.mup false [.i] t34 t35 t39) [])],0,[],none⟩
noncomputable def f99:FI:=⟨dF 8 [3,15,2368,3,55,96,897,1188,1475,1768,1856,1] [],0,[(.t s2)],none⟩
noncomputable def f100:FI:=⟨dF 48 [3,15,80000,3,3,31,224,1792,10962948399,5,3,23,151304037,17216,84,3,15,153728,1,3,23,152299429,20352,100,3,15,155264,1,3,23,153128933,23488,116,3,15,156800,1,3,23,152797221,26624,132,3,15,126080,1,3,23,153460837,29760,148,3,63,640,2208,28792928975,34536,291151119,31,38528,1,3,23,153295205,42304,212,3,47,896,2464,39765406671,42068078063,47744,1,3,23,152963621,51712,260,3,15,63,3,3,39,1088,2656,47994632847,55488,3,23,10400,169927371,308,47,8928,10496,95,6862667,64672,0,3,55,9056,1408,2976,61710005711,63056375791,72320,1,0,3,15,80000,1] [(oP s25 (.bin .add eS (.c (.str [102,110,32])) t24)),(oM s5 (.c (.str [114,101,99,111,114,100]))),(oP s41 (.bin .add eS (.c (.str [32,111,102,32])) t40))],0,[(.t s4)],none⟩
noncomputable def f101:FI:=⟨dF 27 [3,15,27776,3,23,31,7072,3,3,31,1152,8104,24544,5,6,3,15,66157733,3,100,0,2,3,13,3,31,7374665,11682,12320,95,4800,512,14369,90436,16163,6688,8060073,18850,63,95,20896,23,2039845,21952,3,23,5152,22592,1] [(oP s8 (.bsl 0 1 (vi 0) [])),(oP s23 (.bsl 1 1 (vi 0) [(0,t22)])),(oX s24 (.app 0 0 1 (vi 0) 8 t15 t23) [])],0,[(.t s4)],none⟩
noncomputable def f102:FI:=⟨dF 24 [3,15,22400,3,23,31,6304,3,3,47,288,1088,5343148399,8840,19616,5,6,3,15,54974661,3,116,0,2,3,13,3,39,17104617,205575,63,1383537,55,4384,134980,14434,95,127,16288,23,1558981,17312,3,23,4576,17792,1] [(oP s8 (.bsl 0 1 (vi 0) [])),(oX s7 (.new 0 false false (.cells 314 [(.str []),(.bool false),(vi 0)])) []),(oP s20 (.bsl 1 1 (vi 0) [(0,t19)])),(oX s21 (.app 1 0 1 (vi 0) 8 t17 t20) [])],1,[(.t s4)],none⟩
noncomputable def f103:FI:=⟨dF 37 [3,15,49856,3,15,49888,3,3,39,352,1568,11399335759,15584,3,23,7552,104988139,124,3,47,512,7648,16152007823,21928,45632,5,6,3,15,113609029,3,172,0,2,3,13,3,31,13459241,26787,27488,3,79,800,7936,10336,2488754268879,33920,29350,144230,34624,35840,47,6912,11680,31,63,40416,23,4274181,42080,0,3,23,7072,42752,1] [(oP s33 (.bsl 1 1 (vi 0) [(0,t32)])),(oX s34 (.app 0 0 1 (vi 0) 8 t31 t33) [])],0,[(.t s4)],none⟩
noncomputable def f104:FI:=⟨dF 24 [3,23,19328,20128,3,3,95,960,55807717,5632,270,1056,270,320,270,8033,270,73348,270,9635,270,10440,270,71357669,83033610,132,3,23,19328,20128,1,0,3,79,544,13633,78948,15235,1440,6789833,17634,17792,20896,1] [],0,[(.t s4),(.t s5)],none⟩
noncomputable def f105:FI:=⟨dF 37 [3,15,49856,3,55,288,10977,356740,13411,14632,15552,3,15,49920,3,3,31,1632,17064,45504,5,6,3,15,113144773,3,140,0,2,3,13,3,39,79836521,825863,31,1895665,63,7744,672,814119,20904679887,63,95,29792,23,4269157,31296,3,87,864,896,34081,379844,36515,6944,127,33057,385924,3313713,3,23,8256,42752,1] [(oX s8 (.new 0 false false (.cells 166 [(vi 0),(vi 0),(.str []),vz,vz,vz,vz])) []),(oP s24 (.bsl 1 1 .nilp [(0,t23)])),(oX s25 (.app 1 0 1 .nilp 8 t20 t24) []),(oP s33 (.sls false 2 t31 none (some t32) none))],1,[(.t s4)],none⟩
noncomputable def f106:FI:=⟨dF 24 [3,15,31,3,3,95,928,55806917,4832,238,1024,238,288,238,7233,238,8036,238,8835,238,9640,238,71292357,77613802,124,3,23,63,1380529,1,0,3,71,544,13633,14436,15235,1440,28465865,340199,1982641,1] [(oX s4 (.new 0 false false (.cells 209 [(vi 0),vz,vz,vz,(.str [])])) []),(oP s16 (.bld [(vi 0),vz,vz,vz,(.str [])] []))],1,[(.c true 5 s4)],none⟩
noncomputable def f107:FI:=⟨dF 25 [3,23,31,21760,3,3,95,992,59573029,5856,270,1088,270,320,270,8353,270,145188,270,10019,270,10856,270,76099685,88610922,132,3,31,63,1483921,21760,1,0,3,79,576,15009,151844,16675,1504,24633545,291175,2093201,22560,1] [(oX s4 (.new 0 false false (.cells 231 [(vi 0),(.str []),vz,vz])) []),(oP s17 (.bld [(vi 0),(.str []),vz,vz] []))],1,[(.c true 4 s4),(.t s5)],none⟩
noncomputable def f108:FI:=⟨dF 11 [3,15,5760,3,63,31,192,576,1451201231,63,95,3648,1] [(oP s5 (.bsl 0 1 (.str []) [])),(oP s9 (.fld false 2 1 t8)),(oX s10 (.app 0 2 1 (.str []) 16 t5 t9) [])],1,[(.t s4)],none⟩
noncomputable def f109:FI:=⟨dF 11 [3,31,96,1192,1472,55,160,896,928,31,23483279,9378287513039] [(oP s8 (.cvi .u64 t7))],0,[],none⟩
def f110:FI:=⟨(.seq (.reg [oM s4 (ci 0),oM s5 (.c .nili)]) (.seq (.reg [oM s6 t0,oC s7 173 [t6]]) (.seq (.reg [oM s8 t0,oM s9 t0,oN s10 t9,oF s11 1 t10,oL s12 t11,oM s13 t1,oX s14 (.app 0 0 1 (vu 0) 1 t12 t13) [],oN s15 t8,oF s16 1 t15,oS 1 t16 t14]) (.seq (.reg [oM s17 t1,oP s18 (.len true t17),oM s4 t18,oM s5 (.c .nili)]) .ret)))),0,[.t s4,.t s5],none⟩
noncomputable def f111:FI:=⟨dF 5 [3,15,1504,3,31,96,4123983,704,1] [],0,[(.t s2)],none⟩
def f113:FI:=⟨(.seq (.reg [oM s4 (.c .nili)]) (.seq (.reg [oM s5 t0,oC s6 173 [t5]]) (.seq (.reg [oM s7 t0,oM s8 t0,oN s9 t8,oF s10 1 t9,oL s11 t10,oM s12 t1,oP s13 (.bsl 1 1 (vu 0) [(0,t12)]),oX s14 (.app 0 0 1 (vu 0) 1 t11 t13) [],oN s15 t7,oF s16 1 t15,oS 1 t16 t14]) (.seq (.reg [oM s4 (.c .nili)]) .ret)))),0,[.t s4],none⟩
noncomputable def f114:FI:=⟨dF 23 [3,15,20736,3,3,95,896,52173029,4640,238,992,238,288,238,6945,238,129892,238,8483,238,9256,238,66714437,72578186,124,3,15,20736,1,0,3,71,512,12321,135268,13859,1376,6306729,16163,16320,1] [],0,[(.t s4)],none⟩
def f115:FI:=⟨(.seq (.reg [oM s2 (ci 0)]) (.seq (.reg [oM s3 t0,oN s4 t3,oF s5 1 t4,oL s6 t5,oP s7 (.len false t6),oM s2 t7]) .ret)),0,[.t s2],none⟩
noncomputable def f116:FI:=⟨dF 95 [3,15,31,3,159,480,46113,49188,52258,55329,58404,61474,3776,70689,73764,1490436,79907,526182160,417,104776543631,85568,43494,514726,88320,91392,3,39,16192,63,95,5086385,3,23,127,100576,3,63,1088,4160,107553,7649828,113699,147535986223,118848,3,3,63,4320,122913,125988,2485060,132131,135208,293312,5,6,3,15,751705349,3,380,0,2,3,13,3,47,141376,94846537,150563,146240,152352,39,25952,35104,32096,159,23,44905573,165632,3,3,95,1760,168993,172068,175138,178209,652484,184354,17184,240850063791,193576,293920,21,6,3,15,760716517,3,532,0,18,3,29,3,31,103857673,205859,207136,103,1908292,212003,29632,26624,41856,191,400267049,2586439,223,255,1908612,12461105,23,44964165,245280,3,3,55,5632,248865,251940,726212,258082,634967557,692,3,71,5824,267297,3568772,273442,2380199,287,319,14765233,1,0,3,23,2380295,14923953,1] [(oX s4 (.new 0 false false (.cells 61 [(vi 0),(vi 0),(vi 0),(.str []),vz])) []),(oP s32 (.bld [(vi 0),(vi 0),(vi 0),(.str []),vz] [(0,(1,(ci 4))),(1,(1,t31))])),(oX s7 (.new 1 false false (.cells 61 [(vi 0),(vi 0),(vi 0),(.str []),vz])) []),(oX s33 (.new 2 false true (.map [])) []),(oY (.mup false [.s] t51 t52 t53) []),(oR s74 (.lku false [.s] false (vi 0) t72 t73)),(oP s77 (.bsl 1 5 (.agg [(vi 0),(vi 0),(vi 0),(.str []),vz]) [(0,t76)])),(oX s78 (.app 3 0 5 (.agg [(vi 0),(vi 0),(vi 0),(.str []),vz]) 64 t70 t77) []),(oP s92 (.bsl 1 5 (.agg [(vi 0),(vi 0),(vi 0),(.str []),vz]) [(0,t91)])),(oP s93 (.bld [(vi 0),(vi 0),(vi 0),(.str []),vz] [(0,(1,(ci 5))),(1,(1,t90)),(4,(1,t92))]))],3,[(.c true 5 s4)],none⟩
noncomputable def f117:FI:=⟨dF 22 [3,23,31,63,3,111,320,7393,65860,8866,291911,1888,95,588374534352,113,11552,6886,64646,1434801,12928,3,23,6240,110385039,3,23,294247,1769649,1] [(oX s4 (.box 0 false 61 5 t1) []),(oX s6 (.new 1 false false (.cells 61 [(vi 0),(vi 0),(vi 0),(.str []),vz])) []),(oX s7 (.new 2 false false (.cells 61 [(vi 0),(vi 0),(vi 0),(.str []),vz])) [(.l t4),(.c t12)])],3,[(.c true 5 s6)],none⟩
def ze1:AC:=(.seq (.reg [oQ s14 .lss t13 t12]) (.seq (.cond t14
 .skip
 (.exit 0)) (.seq (.blk 1 (.seq (.reg [oP s15 (.iad 1 t11 t13),oG s16 t15,oM s7 t16]) (.reg [oM s17 t5,oM s18 t0,oM s19 t7,oC s20 61 [t18,t19],oP s21 (.bsl 1 5 (.agg [(vi 0),(vi 0),(vi 0),(.str []),vz]) [(0,t20)]),oX s22 (.app 0 0 5 (.agg [(vi 0),(vi 0),(vi 0),(.str []),vz]) 64 t17 t21) [],oM s5 t22]))) (.reg [oQ s23 .add t13 (ci 1),oM s13 t23]))))
def f118:FI:=⟨(.seq (.reg [oM s4 (.c vz)]) (.seq (.reg [oM s8 t1,oP s9 (.len false t8),oX s10 (.mks 0 false false true 5 (.agg [(vi 0),(vi 0),(vi 0),(.str []),vz]) 64 (ci 0) t9) [],oM s5 t10]) (.seq (.seq (.reg [oM s11 t1,oP s12 (.len false t11),oM s13 (ci 0)]) (.blk 0 (.loop ze1))) (.seq (.reg [oM s24 t5,oM s4 t24]) .ret)))),0,[.t s4],none⟩
noncomputable def f119:FI:=⟨dF 53 [3,39,31,63,95,101984,5,6,13,3,79,256,13857,15588,17314,965415,8900,22499,2502707022095,1739953,3,3,31,200644,27682,184586437,148,3,3,31,7396,32866,185166565,172,3,3,39,774084,38051,39784,183640293,204,15,127,0,47,774244,46691,118678537,1008391,3475633,0,3,127,966023,1024,55329,57060,58786,60513,62244,63970,393028,67427,584740,70883,7514459742384,65,3593393,73152,1,0,87,1408,76065,77796,79522,199972,82978,585028,86435,9125384693871,6022321] [(oX s4 (.box 0 false 61 5 t1) []),(oX s5 (.box 1 false 259 5 t2) []),(oX s6 (.new 2 false false (.cells 61 [(vi 0),(vi 0),(vi 0),(.str []),vz])) []),(oC s26 124 [(ci 51)])],3,[(.c true 5 s6),(.t s7)],none⟩
def zkf:AC:=(.seq (.reg [oQ s40 .lss t39 t38]) (.seq (.cond t40
 .skip
 (.exit 0)) (.seq (.blk 1 (.seq (.reg [oM s41 t39,oP s42 (.iad 1 t37 t39),oL s43 t42,oM s10 t41,oM s11 t43]) (.reg [oM s44 t9,oN s45 t44,oF s46 6 t45,oG s47 t46,oM s48 t11,oM s49 t3,oM s50 t10,oP s51 (.iad 5 t49 t50),oR s52 (.ld true 5 t51),oY (.mup false [.s] t47 t48 t52) []]))) (.reg [oQ s53 .add t39 (ci 1),oM s39 t53]))))
def f120:FI:=⟨(.seq (.reg [oX s6 (.box 0 false 61 5 t2) [],oX s8 (.new 1 false false (.cells 61 [(vi 0),(vi 0),(vi 0),(.str []),vz])) []]) (.seq (.reg [oM s14 t0,oC s15 60 [t14]]) (.seq (.seq (.reg [oM s16 t0,oN s17 t16,oF s18 4 t17,oG s19 t18,oQ s20 .eql t19 (ci 500)]) (.cond t20
 (.reg [oC s21 124 [(ci 54)]])
 .skip)) (.seq (.reg [oM s22 t0,oN s23 t22,oF s24 4 t23,oG s25 t24,oQ s26 .add t25 (ci 1),oN s27 t22,oF s28 4 t27,oS 1 t28 t26]) (.seq (.reg [oM s29 t0,oR s30 (.ld true 5 t6),oX s31 (.new 2 false true (.map [])) [],oP s32 (.bld [.nilp,(vi 0),(vi 0),(vi 0),(.str []),vz,.nilm] [(0,1,t29),(1,5,t30),(6,1,t31)]),oX s33 (.box 3 false 65 7 t32) [],oM s9 t33]) (.seq (.seq (.reg [oM s34 t1,oN s35 t34,oF s36 2 t35,oL s37 t36,oP s38 (.len false t37),oM s39 (ci 0)]) (.blk 0 (.loop zkf))) (.seq (.reg [oM s55 t9,oM s56 t1,oN s57 t56,oF s58 6 t57,oL s59 t58,oC s60 19 [t55,t59],oM s54 t60,oE s61 t54 0,oE s62 t54 1,oX s12 (.new 4 false false (.cells 61 [(vi 0),(vi 0),(vi 0),(.str []),vz])) [],oS 5 t12 t61,oM s13 t62]) (.seq (.reg [oM s63 t0,oN s64 t63,oF s65 4 t64,oG s66 t65,oQ s67 .sub t66 (ci 1),oN s68 t63,oF s69 4 t68,oS 1 t69 t67]) (.seq (.reg [oR s70 (.ld true 5 t12),oS 5 t8 t70]) .ret))))))))),5,[.c true 5 s8],none⟩
def b121x0:AC:=(.seq (.reg [oQ s13 .lss t12 t11]) (.seq (.cond t13
 .skip
 (.exit 0)) (.seq (.blk 1 (.seq (.reg [oP s14 (.iad 1 t10 t12),oG s15 t14,oM s6 t15]) (.seq (.reg [oM s16 t6,oN s17 t16,oF s18 1 t17,oL s19 t18,oM s20 t1,oP s21 (.bin .eql eS t19 t20)]) (.cond t21
 (.seq (.reg [oM s22 t6,oM s4 t22]) .ret)
 .skip)))) (.reg [oQ s23 .add t12 (ci 1),oM s12 t23]))))
def f121:FI:=⟨(.seq (.reg [oM s4 (.c .nilp)]) (.seq (.seq (.reg [oM s7 t0,oN s8 t7,oF s9 7 t8,oL s10 t9,oP s11 (.len false t10),oM s12 (ci 0)]) (.blk 0 (.loop b121x0))) (.seq (.reg [oM s4 (.c .nilp)]) .ret))),0,[.t s4],none⟩
noncomputable def f123:FI:=⟨dF 24 [3,23,20160,19424,3,3,87,256,1056,4808383823,8044,8832,398,416,398,1984,398,7482252783,398,12044,88455722,140,3,23,20160,18656,1,0,3,71,576,1376,2176,31,11213087183,44917989,17856,19424,1] [(oP s21 (.bld [(vi 0),(vi 0)] [(0,(1,t19)),(1,(1,t20))]))],0,[(.t s6),(.t s7)],none⟩
def f124:FI:=⟨(.seq (.reg [oM s2 t0,oQ s3 .neq t2 (ci 0)]) (.cond t3
 (.reg [oM s4 t0,oP s5 (.bld [(vi 0)] [(0,1,t4)]),oP s6 (.ifc 107 t5),oY (.pan t6) []])
 .skip)),0,[],none⟩
def f125:FI:=⟨(.seq (.reg [oX s6 (.new 0 false false (.cells 61 [(vi 0),(vi 0),(vi 0),(.str []),vz])) []]) (.seq (.reg [oM s8 t1,oN s9 t8,oF s10 7 t9,oG s11 t10,oP s12 (.bld [(vi 0),(vi 0),(vi 0),(.str []),vz] [(0,1,(ci 1)),(1,1,t11)]),oX s7 (.new 1 false false (.cells 61 [(vi 0),(vi 0),(vi 0),(.str []),vz])) [],oS 5 t7 t12]) (.seq (.seq (.reg [oM s13 t1,oN s14 t13,oF s15 0 t14,oF s16 1 t15,oG s17 t16]) (.blk 0 (.seq (.reg [oQ s19 .eql t17 (ci 13),oM s18 t19]) (.cond t18
 (.reg [oM s20 t2,oP s21 (.iad 5 t20 (ci 0)),oF s22 2 t21,oG s23 t22,oP s24 (.un .neg t23),oF s25 2 t7,oS 1 t25 t24])
 (.seq (.reg [oQ s27 .eql t17 (ci 14),oM s26 t27]) (.cond t26
 (.seq (.reg [oM s28 t1,oN s29 t28,oF s30 7 t29,oG s31 t30,oM s32 t2,oP s33 (.iad 5 t32 (ci 0)),oF s34 2 t33,oG s35 t34,oQ s36 .eql t35 (ci 0),oC s37 182 [t31,t36],oS 5 t6 t37]) .ret)
 (.seq (.reg [oQ s39 .eql t17 (ci 15),oM s38 t39]) (.cond t38
 (.reg [oM s40 t2,oP s41 (.iad 5 t40 (ci 0)),oF s42 2 t41,oG s43 t42,oM s44 t2,oP s45 (.iad 5 t44 (ci 1)),oF s46 2 t45,oG s47 t46,oQ s48 .mul t43 t47,oF s49 2 t7,oS 1 t49 t48])
 (.seq (.reg [oQ s51 .eql t17 (ci 17),oM s50 t51]) (.cond t50
 (.reg [oM s52 t2,oP s53 (.iad 5 t52 (ci 0)),oF s54 2 t53,oG s55 t54,oM s56 t2,oP s57 (.iad 5 t56 (ci 1)),oF s58 2 t57,oG s59 t58,oQ s60 .sub t55 t59,oF s61 2 t7,oS 1 t61 t60])
 (.seq (.reg [oQ s63 .eql t17 (ci 16),oM s62 t63]) (.cond t62
 (.seq (.seq (.reg [oM s64 t2,oP s65 (.iad 5 t64 (ci 0)),oF s66 0 t65,oG s67 t66,oQ s68 .eql t67 (ci 3)]) (.cond t68
 (.seq (.seq (.reg [oM s69 t2,oP s70 (.iad 5 t69 (ci 0)),oF s71 3 t70,oL s72 t71,oP s73 (.len true t72),oM s74 t2,oP s75 (.iad 5 t74 (ci 1)),oF s76 3 t75,oL s77 t76,oP s78 (.len true t77),oQ s79 .add t73 t78,oQ s80 .gtr t79 (ci 4096)]) (.cond t80
 (.reg [oC s81 124 [(ci 53)]])
 .skip)) (.seq (.reg [oM s82 t1,oN s83 t82,oF s84 7 t83,oG s85 t84,oM s86 t2,oP s87 (.iad 5 t86 (ci 0)),oF s88 3 t87,oL s89 t88,oM s90 t2,oP s91 (.iad 5 t90 (ci 1)),oF s92 3 t91,oL s93 t92,oP s94 (.bin .add eS t89 t93),oP s95 (.bld [(vi 0),(vi 0),(vi 0),(.str []),vz] [(0,1,(ci 3)),(1,1,t85),(3,1,t94)]),oS 5 t6 t95]) .ret))
 .skip)) (.reg [oM s96 t2,oP s97 (.iad 5 t96 (ci 0)),oF s98 2 t97,oG s99 t98,oM s100 t2,oP s101 (.iad 5 t100 (ci 1)),oF s102 2 t101,oG s103 t102,oQ s104 .add t99 t103,oF s105 2 t7,oS 1 t105 t104]))
 (.seq (.reg [oQ s107 .eql t17 (ci 18),oM s106 t107]) (.cond t106
 (.seq (.reg [oM s108 t1,oN s109 t108,oF s110 7 t109,oG s111 t110,oM s112 t2,oP s113 (.iad 5 t112 (ci 0)),oF s114 2 t113,oG s115 t114,oM s116 t2,oP s117 (.iad 5 t116 (ci 1)),oF s118 2 t117,oG s119 t118,oQ s120 .eql t115 t119,oM s121 t120,⟨some s122,some (s121,true),(.p (.mov t2))⟩,⟨some s123,some (s121,true),(.p (.iad 5 t122 (ci 0)))⟩,⟨some s124,some (s121,true),(.p (.fad 3 t123))⟩,⟨some s125,some (s121,true),(.r (.ld false 1 t124))⟩,⟨some s126,some (s121,true),(.p (.mov t2))⟩,⟨some s127,some (s121,true),(.p (.iad 5 t126 (ci 1)))⟩,⟨some s128,some (s121,true),(.p (.fad 3 t127))⟩,⟨some s129,some (s121,true),(.r (.ld false 1 t128))⟩,⟨some s130,some (s121,true),(.p (.bin .eql eS t125 t129))⟩,oP s131 (.pick t121 t130 (.c (.bool false))),oC s132 182 [t111,t131],oS 5 t6 t132]) .ret)
 (.seq (.reg [oQ s134 .eql t17 (ci 19),oM s133 t134]) (.cond t133
 (.seq (.reg [oM s135 t1,oN s136 t135,oF s137 7 t136,oG s138 t137,oM s139 t2,oP s140 (.iad 5 t139 (ci 0)),oF s141 2 t140,oG s142 t141,oM s143 t2,oP s144 (.iad 5 t143 (ci 1)),oF s145 2 t144,oG s146 t145,oQ s147 .lss t142 t146,oM s148 t147,⟨some s149,some (s148,false),(.p (.mov t2))⟩,⟨some s150,some (s148,false),(.p (.iad 5 t149 (ci 0)))⟩,⟨some s151,some (s148,false),(.p (.fad 3 t150))⟩,⟨some s152,some (s148,false),(.r (.ld false 1 t151))⟩,⟨some s153,some (s148,false),(.p (.mov t2))⟩,⟨some s154,some (s148,false),(.p (.iad 5 t153 (ci 1)))⟩,⟨some s155,some (s148,false),(.p (.fad 3 t154))⟩,⟨some s156,some (s148,false),(.r (.ld false 1 t155))⟩,⟨some s157,some (s148,false),(.p (.bin .lss eS t152 t156))⟩,oP s158 (.pick t148 (.c (.bool true)) t157),oC s159 182 [t138,t158],oS 5 t6 t159]) .ret)
 .skip)))))))))))))))) (.seq (.reg [oR s160 (.ld true 5 t7),oS 5 t6 t160]) .ret)))),2,[.c true 5 s6],none⟩
def f126:FI:=⟨(.seq (.reg [oM s2 (.c (.bool false))]) (.seq (.reg [oM s3 t0,oQ s4 .geq t3 (cu 97),oM s5 t4,⟨some s6,some (s5,true),(.p (.mov t0))⟩,⟨some s7,some (s5,true),(.p (.bin .leq eI t6 (cu 122)))⟩,oP s8 (.pick t5 t7 (.c (.bool false))),oM s2 t8]) .ret)),0,[.t s2],none⟩
def f127:FI:=⟨(.seq (.reg [oM s2 (.c (.bool false))]) (.seq (.reg [oM s3 t0,oQ s4 .geq t3 (cu 65),oM s5 t4,⟨some s6,some (s5,true),(.p (.mov t0))⟩,⟨some s7,some (s5,true),(.p (.bin .leq eI t6 (cu 90)))⟩,oP s8 (.pick t5 t7 (.c (.bool false))),oM s2 t8]) .ret)),0,[.t s2],none⟩
def f128:FI:=⟨(.seq (.reg [oM s2 (.c (.bool false))]) (.seq (.reg [oM s3 t0,oQ s4 .geq t3 (cu 48),oM s5 t4,⟨some s6,some (s5,true),(.p (.mov t0))⟩,⟨some s7,some (s5,true),(.p (.bin .leq eI t6 (cu 57)))⟩,oP s8 (.pick t5 t7 (.c (.bool false))),oM s2 t8]) .ret)),0,[.t s2],none⟩
noncomputable def f129:FI:=⟨dF 2 [3,15,448,3,23,31,64,1] [(oP s1 (.bsl 14 1 (.str []) [(0,(.c (.str [61,61]))),(1,(.c (.str [40]))),(2,(.c (.str [41]))),(3,(.c (.str [123]))),(4,(.c (.str [125]))),(5,(.c (.str [59]))),(6,(.c (.str [58]))),(7,(.c (.str [44]))),(8,(.c (.str [46]))),(9,(.c (.str [61]))),(10,(.c (.str [60]))),(11,(.c (.str [43]))),(12,(.c (.str [45]))),(13,(.c (.str [42])))]))],0,[(.t s0)],none⟩
noncomputable def f130:FI:=⟨dF 47 [3,15,31,3,23,1760,12192,3,5,6,3,3,87,7808,320,176328,173977093,18464,1934,448,1934,8000,1934,2435501,1934,198948175,846501418,148,0,2,13,3,3,39,8128,2144,20467109,63,180,3,31,8256,30977691759,2633969,1,0,31,8320,7602053,39264,3,47,864,2400,8448,95,45312,3,39,10016,127,159,3513489,3,39,2560,11620,52260,3651633,3,3,39,1152,2688,6009709,469921551,316,23,172740,5848113,3,23,10336,506969679,340,23,172836,6399025,0,3,39,655655,8960,191,5044465,1] [(oX s4 (.new 0 false false (.cells 161 [(vi 0),(vi 0),(.str []),(vi 0),(vi 0),(vi 0),(vi 0)])) []),(oQ s22 .eql t21 (ci 32)),(oP s30 (.sls true 0 t27 (some t28) (some t29) none)),(oP s32 (.bld [(vi 0),(vi 0),(.str []),(vi 0)] [(1,(1,(ci 1))),(2,(1,t31))])),(oX s7 (.new 1 false false (.cells 116 [(vi 0),(vi 0),(.str []),(vi 0)])) []),(oP s46 (.bld [(vi 0),(vi 0),(.str []),(vi 0),(vi 0),(vi 0),(vi 0)] [(0,(4,t44)),(4,(1,t45))]))],2,[(.c true 7 s4)],none⟩
def za5:AC:=(.seq (.seq (.reg [oM s10 t5,oM s11 t0,oP s12 (.len true t11),oQ s13 .lss t10 t12,oM s14 t13,⟨some s15,some (s14,true),(.p (.mov t0))⟩,⟨some s16,some (s14,true),(.p (.mov t5))⟩,⟨some s17,some (s14,true),(.p (.ixs t15 t16))⟩,⟨some s18,some (s14,true),(.e (.call 128 [t17]) [])⟩,oP s19 (.pick t14 t18 (.c (.bool false)))]) (.cond t19
 .skip
 (.exit 0))) (.blk 1 (.seq (.seq (.reg [oM s20 t5,oM s21 t1,oQ s22 .sub t20 t21,oQ s23 .gtr t22 (ci 18)]) (.cond t23
 (.seq (.reg [oM s24 t1,oC s25 133 [(ci 11),t24],oS 7 t4 t25]) .ret)
 .skip)) (.seq (.reg [oM s26 t6,oQ s27 .mul t26 (.c (.int .u64 (.ofNat 10))),oM s28 t0,oM s29 t5,oP s30 (.ixs t28 t29),oQ s31 .sub t30 (cu 48),oP s32 (.cvi .u64 t31),oQ s33 .add t27 t32,oM s6 t33]) (.reg [oM s34 t5,oQ s35 .add t34 (ci 1),oM s5 t35])))))
def f131:FI:=⟨(.seq (.reg [oX s4 (.new 0 false false (.cells 161 [(vi 0),(vi 0),(.str []),(vi 0),(vi 0),(vi 0),(vi 0)])) []]) (.seq (.reg [oM s9 t1,oM s5 t9]) (.seq (.reg [oM s6 (.c (.int .u64 (.ofNat 0)))]) (.seq (.blk 0 (.loop za5)) (.seq (.reg [oM s36 t0,oM s37 t1,oP s38 (.ixs t36 t37),oQ s39 .eql t38 (cu 48),oM s40 t39,⟨some s41,some (s40,true),(.p (.mov t5))⟩,⟨some s42,some (s40,true),(.p (.mov t1))⟩,⟨some s43,some (s40,true),(.p (.bin .add eI t42 (ci 1)))⟩,⟨some s44,some (s40,true),(.p (.bin .gtr eI t41 t43))⟩,oP s45 (.pick t40 t44 (.c (.bool false))),oM s7 t45]) (.seq (.seq (.reg [oM s46 t7,oM s47 t46,⟨some s48,some (s47,false),(.p (.mov t6))⟩,⟨some s49,some (s47,false),(.p (.bin .geq eI t48 (.c (.int .u64 (.ofNat 9223372036854775808)))))⟩,oP s50 (.pick t47 (.c (.bool true)) t49),oM s51 t50,⟨some s52,some (s51,false),(.p (.mov t5))⟩,⟨some s53,some (s51,false),(.p (.mov t0))⟩,⟨some s54,some (s51,false),(.p (.len true t53))⟩,⟨some s55,some (s51,false),(.p (.bin .lss eI t52 t54))⟩,⟨some s56,some (s51,false),(.p (.mov t55))⟩,⟨some s57,some (s56,true),(.p (.mov t0))⟩,⟨some s58,some (s56,true),(.p (.mov t5))⟩,⟨some s59,some (s56,true),(.p (.ixs t57 t58))⟩,⟨some s60,some (s56,true),(.e (.call 126 [t59]) [])⟩,⟨some s61,some (s56,true),(.p (.mov t60))⟩,⟨some s62,some (s61,false),(.p (.mov t0))⟩,⟨some s63,some (s61,false),(.p (.mov t5))⟩,⟨some s64,some (s61,false),(.p (.ixs t62 t63))⟩,⟨some s65,some (s61,false),(.e (.call 127 [t64]) [])⟩,⟨some s66,some (s56,true),(.p (.pick t61 (.c (.bool true)) t65))⟩,⟨some s67,some (s56,true),(.p (.mov t66))⟩,⟨some s68,some (s67,false),(.p (.mov t0))⟩,⟨some s69,some (s67,false),(.p (.mov t5))⟩,⟨some s70,some (s67,false),(.p (.ixs t68 t69))⟩,⟨some s71,some (s67,false),(.p (.bin .eql eI t70 (cu 95)))⟩,⟨some s72,some (s56,true),(.p (.pick t67 (.c (.bool true)) t71))⟩,⟨some s73,some (s51,false),(.p (.pick t56 t72 (.c (.bool false))))⟩,oP s74 (.pick t51 (.c (.bool true)) t73)]) (.cond t74
 (.seq (.reg [oM s75 t1,oC s76 133 [(ci 11),t75],oS 7 t4 t76]) .ret)
 .skip)) (.seq (.reg [oM s77 t6,oP s78 (.cvi .i64 t77),oP s79 (.bld [(vi 0),(vi 0),(.str []),(vi 0)] [(1,1,(ci 4)),(3,1,t78)]),oX s8 (.new 1 false false (.cells 116 [(vi 0),(vi 0),(.str []),(vi 0)])) [],oS 4 t8 t79]) (.seq (.reg [oM s80 t1,oF s81 0 t8,oF s82 0 t81,oS 1 t82 t80]) (.seq (.reg [oR s83 (.ld true 4 t8),oM s84 t5,oP s85 (.bld [(vi 0),(vi 0),(.str []),(vi 0),(vi 0),(vi 0),(vi 0)] [(0,4,t83),(4,1,t84)]),oS 7 t4 t85]) .ret))))))))),2,[.c true 7 s4],none⟩
noncomputable def f132:FI:=⟨dF 84 [3,15,31,3,23,63,21664,3,31,2976,32538565,27072,3,5,6,3,3,87,16480,384,419752,562445637,38112,3182,512,3182,16672,3182,6623821,3182,544659301,4800894986,164,0,2,13,3,3,39,672,16832,8572781,509712783,196,3,63,14240,832,16992,10521741,95,127,80800,3,31,17120,32598405,86208,10,0,3,3,39,1056,17216,13250285,548189189,292,3,31,17312,119486904655,5607665,1,0,3,31,17376,32620165,107712,3,3,39,17440,1344,501352,462662661,356,3,31,17568,144854055503,6787313,1,0,3,3,31,1504,17664,18707373,21,3,23,159,144128,420,39,15168,191,223,150688,3,3,23,489005509,157728,460,0,23,492489189,160416,460,63,15360,1952,18112,24164461,255,287,174880,3,31,17728,160708524783,7524593,1,31,18240,32693605,180288,3,3,39,18304,2208,574792,473187045,572,3,31,18432,230468189615,10768625,1,0,3,47,15808,319,351,383,11213969,3,39,5152,21316,212196,11435057,3,47,1569671,18720,32734405,415,12243185,1] [(oX s4 (.new 0 false false (.cells 161 [(vi 0),(vi 0),(.str []),(vi 0),(vi 0),(vi 0),(vi 0)])) []),(oX s8 (.mks 1 false false true 1 (vu 0) 1 (ci 0) (ci 0)) []),(oP s29 (.bsl 1 1 (vu 0) [(0,t28)])),(oX s30 (.app 1 0 1 (vu 0) 1 t25 t29) []),(oQ s53 .eql t49 (cu 110)),(oP s55 (.bsl 1 1 (vu 0) [(0,(cu 10))])),(oX s56 (.app 1 0 1 (vu 0) 1 t54 t55) []),(oP s64 (.bsl 1 1 (vu 0) [(0,t63)])),(oX s65 (.app 1 0 1 (vu 0) 1 t60 t64) []),(oR s75 (.b2s t74)),(oP s76 (.bld [(vi 0),(vi 0),(.str []),(vi 0)] [(1,(1,(ci 5))),(2,(1,t75))])),(oX s7 (.new 1 false false (.cells 116 [(vi 0),(vi 0),(.str []),(vi 0)])) []),(oP s83 (.bld [(vi 0),(vi 0),(.str []),(vi 0),(vi 0),(vi 0),(vi 0)] [(0,(4,t80)),(4,(1,t82))]))],2,[(.c true 7 s4)],none⟩
noncomputable def f134:FI:=⟨dF 48 [3,15,76864,3,3,87,192,9441,342788,12578,320,15713,17284,18851,20424,235243493,124,3,15,76864,1,0,3,103,512,25121,26692,28259,640,31393,364740,34530,75509001,701223,31,2768017,3,3,71,171332,40802,171072901,43936,2478,171460,2478,47074,2478,170913285,901149226,268,3,15,78400,1,0,3,23,63,52352,3,3,15,75424,5,6,3,3,39,8800,7296,56488,185351877,308,0,2,3,13,3,63,337700,64323,7520,9088,25282473,70595,151024107,380,3,15,78400,1,0,31,8928,8023813,61600,3,15,76864,1] [(oX s3 (.new 0 false false (.cells 116 [(vi 0),(vi 0),(.str []),(vi 0)])) [(.l t24),(.c t22),(.l t18)]),(oP s34 (.bsl 13 1 (.str []) [(0,(.c (.str [108,101,116]))),(1,(.c (.str [112,114,105,110,116]))),(2,(.c (.str [105,102]))),(3,(.c (.str [119,104,105,108,101]))),(4,(.c (.str [114,101,116,117,114,110]))),(5,(.c (.str [116,114,117,101]))),(6,(.c (.str [102,97,108,115,101]))),(7,(.c (.str [115,101,108,102]))),(8,(.c (.str [110,105,108]))),(9,(.c (.str [110,101,119]))),(10,(.c (.str [40]))),(11,(.c (.str [45]))),(12,(.c (.str [110,111,116])))]))],1,[(.t s2)],none⟩
noncomputable def f135:FI:=⟨dF 54 [3,15,96896,3,407,160,8833,601572,12354,190505381,15872,2062,352,2062,19393,2062,415140,2062,22914,2062,10662245,2062,512,2062,28193,2062,29956,2062,31715,2062,33480,2062,228537317,1261751754,38752,2478,768,2478,42273,2478,44036,2478,45795,2478,896,2478,49313,2478,445060,2478,52834,2478,10692165,2478,96179817,2478,255108,2478,59874,2478,192325829,1264729578,65152,2958,1248,2958,68673,2958,70436,2958,72195,2958,1376,2958,75713,2958,471460,2958,79234,2958,10718565,2958,99161097,2958,478500,2958,86275,2958,3360,2958,189791371,1267907882,91712,1] [],0,[(.t s4)],none⟩
noncomputable def f136:FI:=⟨dF 58 [3,15,31,3,3,23,2176,221655013,92,3,39,384,4128,23510074959,1698033,1,0,3,63,480,2368,12732709,4288,3841431100527,63,2303217,3,5,6,3,3,47,640,37793,696708,41570,219708485,196,0,2,13,3,39,800,2688,47031209775,50368,3,3,23,15744,219717925,236,3,23,1547015,3631345,1,0,3,39,15840,95,127,3876081,3,47,1056,503710223,17828,66116,4145201,3,71,1184,69889,509796,73666,12778021,70017,517348,4998193,3,87,1547463,1440,3328,12789349,5248,12793125,10458577952848,113,159,1332420,6215729,3,23,1551463,6411505,3,23,3584,221957093,444,3,23,1547847,6772977,1,0,3,23,1547879,6893809,1] [(oX s6 (.new 0 false false (.cells 257 [(vi 0),(vi 0),(vi 0),(.str []),vz,vz,vz])) []),(oX s7 (.new 1 false false (.cells 257 [(vi 0),(vi 0),(vi 0),(.str []),vz,vz,vz])) []),(oP s32 (.bld [(vi 0),(vi 0),(vi 0),(.str []),vz,vz,vz] [(1,(1,t31))])),(oX s9 (.new 2 false false (.cells 257 [(vi 0),(vi 0),(vi 0),(.str []),vz,vz,vz])) []),(oP s51 (.bsl 2 7 (.agg [(vi 0),(vi 0),(vi 0),(.str []),vz,vz,vz]) [(0,t44),(1,t50)]))],3,[(.c true 7 s6)],none⟩
noncomputable def f137:FI:=⟨dF 5 [3,15,1184,3,31,96,270366223,704,1] [],0,[(.t s2)],none⟩
noncomputable def f138:FI:=⟨dF 140 [3,23,31,636288,3,3,23,4896,1559994693,116,3,15,636288,1,0,3,3,39,3593444,67715,72232,632256,5,6,3,15,1807313253,3,156,0,2,3,13,3,39,912200329,4570279,63,4307121,3,47,4507591,5216,304743813,176977965615,112844,212,3,15,636288,1,0,23,125521509,121536,3,103,3593860,126371,130888,1801956,139907,144424,2698052,153443,157960,134624,148096,161568,3,103,906148,166979,1562795499,176000,5774,37152,5774,1560121029,25484212586,194048,5902,41760,5902,1560139077,25487814634,210880,3,3,23,10500,216610,21,3,3,23,1559261157,230080,404,0,3,23,1564637189,234560,404,0,23,1569117221,239040,404,3,55,46528,243680,6254,33152,6254,1560188709,25497720266,259968,1,3,23,1566429445,270688,476,3,135,906916,275267,2280613231,284288,6542,37920,6542,1560229317,25505824874,302336,6670,42528,6670,1560247365,25509426922,320384,6798,33696,6798,1560265413,25513028970,336128,1,3,23,1567325989,347392,612,3,55,47296,351968,7022,33920,7022,1559400997,25519332554,367488,1,3,23,1570910213,378976,668,3,55,47520,383552,7246,34144,7246,2455432581,25525636138,398848,1,3,23,1568222437,410560,724,3,159,907908,415139,1563043659,424160,7534,43392,7534,38944,7534,1520945221,25534636778,446720,7694,34592,7694,39104,7694,1525447781,25539139338,469280,7854,1804356,7854,478307,7854,3932354831,25543641898,488448,1,3,23,1570015077,500800,884,3,3,39,3596548,505379,509896,635360,29,6,3,15,1894662917,3,932,0,26,3,37,3,39,999549993,5007943,95,24178865,3,31,57572,536962,1750429477,972,3,15,636288,1,0,23,125959109,550240,3,151,908900,555011,1563183531,564032,8526,44384,8526,1560509061,25561656618,582080,8654,35552,8654,40064,8654,1552463141,25566154698,604640,8814,1805316,8814,613667,8814,5033360591,25570657258,622848,1,0,3,15,636288,1] [(oX s2 (.box 0 false 46 5 t0) []),(oX s6 (.new 1 false false (.cells 46 [(vi 0),(.str []),vz,vz,vz])) []),(oX s12 (.new 2 false false (.cells 46 [(vi 0),(.str []),vz,vz,vz])) [])],3,[(.t s4)],none⟩
noncomputable def f139:FI:=⟨dF 72 [3,23,31,170560,3,3,343,306628,14051,384434187,18720,2606,306756,2606,23395,2606,210293391,2606,28076,2974697162,32736,494,611076,494,37411,494,384457547,494,42080,2926,611204,2926,46755,2926,399159503,2926,51436,494,2977761802,986322474,58432,846,1219684,846,1583751,846,224761011631,846,67788,1227217386,72448,1038,611620,1038,77123,1038,344352363,1038,81792,3470,307620,3470,86467,3470,384506603,3470,91136,1294,916004,1294,95811,1294,98152,1294,504040581,3470,1789278634,1038,2984492490,1869550058,380,3,15,170560,1,0,3,15,177504,3,3,39,916228,112163,114504,169824,5,6,3,15,416774533,3,420,0,2,3,13,3,39,256494505,1948615,63,7304401,3,55,8672,13316,130851,95,127,136032,3,39,317572,1660839,225383866831,144876,508,3,15,170560,1,0,23,22016773,149088,3,71,8992,1229630799,154208,4462,2741636,4462,158883,4462,225534984143,2992167914,163648,1] [(oX s1 (.box 0 false 49 10 t0) []),(oX s5 (.new 1 false false (.cells 122 [(.str []),(vi 0),(.str []),vz,vz,vz])) []),(oP s58 (.bsl 1 1 (.str []) [(0,t57)])),(oX s59 (.app 2 0 1 (.str []) 16 t55 t58) [])],2,[(.t s2)],none⟩
noncomputable def f140:FI:=⟨dF 45 [3,15,31,3,47,609348,10339,11816,22693285,14528,3,47,352,16225,17700,63,17497234575,3,3,55,609636,23587,6336,95,28008,66912,5,6,3,15,161814949,3,180,0,2,3,13,3,55,30976,82583337,791367,127,33280,2694321,3,31,832,8064,33752883791,31,928,765607,37504066607,23,6835269,46752,3,47,1056,48609,50084,159,45006626639,63,1216,610372,57443,7072,85638153,817863,53712430543] [(oX s3 (.box 0 false 46 5 t1) []),(oP s14 (.bsl 1 1 (.str []) [(0,(.c (.str [40])))])),(oP s19 (.sls false 5 t17 none (some t18) none)),(oX s6 (.new 1 false false (.cells 46 [(vi 0),(.str []),vz,vz,vz])) []),(oP s36 (.bsl 1 1 (.str []) [(0,(.c (.str [41])))]))],2,[],none⟩
noncomputable def f141:FI:=⟨dF 27 [3,15,27776,3,3,23,1024,67505381,52,23,31,63,0,3,3,71,1120,288,95,352,9896,7450693,7524165,12128,3,23,1344,80593573,132,87,544,576,127,159,1536,191,736,20648,223,21600,0,3,23,832,22592,1] [(oP s7 (.ifc 9 (.c (.str [99,97,110,110,111,116,32,98,101,32,110,101,103,97,116,105,118,101])))),(oY (.pan t7) []),(oP s10 (.cap t9)),(oP s19 (.cap t18)),(oP s20 (.sls false 10 t17 none (some t19) none)),(oX s22 (.apz 0 true 10 (.agg [(vi 0),(.str []),(.str []),vz,(vi 0),(.str []),vz,vz,vz,vz]) 184 t20 t21) []),(oP s25 (.sls false 10 t22 none (some t24) none))],1,[(.t s4)],none⟩
noncomputable def f142:FI:=⟨dF 11 [3,23,480,21594661,44,47,192,2337,2724,31,1866425775,0] [(oP s9 (.bsl 1 1 (.str []) [(0,(.c (.str [44])))]))],0,[],none⟩
noncomputable def f143:FI:=⟨dF 17 [3,47,128,2337,2916,31,2429918255,3,31,288,864,3472791919,47,384,6945,7524,63,5210742063] [(oP s7 (.bsl 1 1 (.str []) [(0,(.c (.str [123])))])),(oP s15 (.bsl 1 1 (.str []) [(0,(.c (.str [125])))]))],0,[],none⟩
noncomputable def f145:FI:=⟨dF 21 [3,31,31,16864,14880,3,31,63,95,4832,3,31,273095,17435880303,6208,3,3,15,3680,84,31,3040,273223,5412865007,0,3,79,3136,9889,10596,3904,7669923663,12710,67174,12832,13536,1] [(oX s1 (.box 0 false 46 5 t0) []),(oP s6 (.bld [.nilp,vz,(vi 0)] [])),(oX s7 (.box 1 false 172 3 t6) [])],2,[(.t s2),(.t s3)],none⟩
noncomputable def f146:FI:=⟨dF 12 [3,23,31,5440,3,63,138823,19323503,2848,2182,29862,3168,3584,3,31,1856,18251877,4288,1] [(oX s1 (.box 0 false 46 5 t0) [])],1,[(.t s2)],none⟩
noncomputable def f147:FI:=⟨dF 21 [3,31,31,16864,14880,3,31,63,95,4832,3,31,545255,44822031,6208,3,3,15,3680,84,31,3040,545383,5412866351,0,3,79,3136,9889,10596,3904,7669923663,12710,67174,12832,13536,1] [(oX s1 (.box 0 false 49 10 t0) []),(oP s6 (.bld [.nilp,vz,(vi 0)] [])),(oX s7 (.box 1 false 172 3 t6) [])],2,[(.t s2),(.t s3)],none⟩
noncomputable def f148:FI:=⟨dF 9 [3,15,3296,3,47,160,480,989190671,18026181,2432,1] [],0,[(.t s4)],none⟩
noncomputable def f149:FI:=⟨dF 30 [3,23,31,63,3,31,95,127,556209,3,3,39,260388,6979,7976,30080,5,6,3,15,78547557,3,92,0,2,3,13,3,39,47528073,530343,159,1203409,71,348932,13923,91716,447911,191,223,349124,1771569,23,2602277,20480,3,71,349188,21859,347332,455847,255,287,349380,2517041,3,23,435815,2674865,1] [(oX s1 (.box 0 false 49 10 t0) []),(oX s2 (.new 1 false false (.cells 46 [(vi 0),(.str []),vz,vz,vz])) []),(oP s6 (.bld [(vi 0),(.str []),vz,vz,vz] [(0,(1,(ci 7)))])),(oX s3 (.new 2 false false (.cells 46 [(vi 0),(.str []),vz,vz,vz])) []),(oX s5 (.new 3 false false (.cells 122 [(.str []),(vi 0),(.str []),vz,vz,vz])) []),(oP s18 (.bsl 1 5 (.agg [(vi 0),(.str []),vz,vz,vz]) [(0,t17)])),(oX s19 (.app 4 0 5 (.agg [(vi 0),(.str []),vz,vz,vz]) 96 t15 t18) []),(oP s26 (.bsl 1 5 (.agg [(vi 0),(.str []),vz,vz,vz]) [(0,t25)])),(oX s27 (.app 4 0 5 (.agg [(vi 0),(.str []),vz,vz,vz]) 96 t23 t26) [])],4,[(.c true 5 s2)],none⟩
noncomputable def f150:FI:=⟨dF 28 [3,31,31,28800,27040,3,3,47,397255,63,81832079,11176,26432,5,6,3,15,70424293,3,124,0,2,3,13,3,31,8053769,14883,15456,3,79,608,6912,95,19392,16838,95718,127,1990897,20896,3,23,8832,22316,204,3,31,7104,23424,27936,1,0,23,2221157,24640,3,23,28800,27040,1] [(oX s3 (.box 0 false 46 5 t1) []),(oP s11 (.bsl 1 5 (.agg [(vi 0),(.str []),vz,vz,vz]) [(0,t10)])),(oR s21 (.lku false [.s] true (.agg [(vi 0),(.str []),(vi 0),(.str []),vz,vz,vz]) t19 t20)),(oX s8 (.new 1 false false (.cells 86 [(vi 0),(.str []),(vi 0),(.str []),vz,vz,vz])) [])],2,[(.t s4),(.t s5)],none⟩
noncomputable def f151:FI:=⟨dF 48 [3,31,31,80000,76960,3,3,39,668484,15715,17288,75680,5,6,3,15,181170117,3,116,0,2,3,13,3,55,20448,91753481,854567,63,23232,1887409,3,3,135,5188,28258,152978565,31392,2222,502980,2222,34531,2222,9984,2222,21933353,2222,39234,900141418,42368,2446,928,2446,841159,2446,41136985583,2446,48652,901147690,268,3,63,337476,53347,10368,23942825,58051,58496,78496,1,0,3,71,1280,841511,56223829839,65760,61286,227206,66304,67872,3,15,15264,364,3,31,13760,70784,78496,1,0,23,7984101,72608,3,23,80000,76960,1] [(oX s3 (.box 0 false 46 5 t1) []),(oX s7 (.new 1 false false (.cells 46 [(vi 0),(.str []),vz,vz,vz])) [])],2,[(.t s4),(.t s5)],none⟩
end Go.Abs.Run
namespace Go.Abs.Run
open Go Go.Abs Go.Proofs
noncomputable def f152:FI:=⟨dF 148 [3,15,715456,3,15,715488,5,6,13,3,39,10144,5440,226670437,109312,3,3,23,57600,2413580069,204,3,47,832,5600,10368,19872,10172091967352271,1,0,3,3,23,15200,1786112389,260,3,47,1056,5824,10592,20096,12627833591841071,1,0,3,3,23,48576,181228,316,3,47,1280,6048,10816,20320,15083575216329871,31,15648,350905925,217952,0,3,87,1536,6304,11072,20576,17890137072887823,247776,224294,1209414,251424,256192,3,3,23,68064,1791152261,452,3,47,1824,6592,11360,20864,21047519161514927,3,63,11456,350986981,63616,6816,269234245,270214629,317728,15,701376,0,3,3,71,49536,324256,6958,54336,30804030826,338560,7054,68640,7054,1785327557,30807985514,604,3,47,2432,7200,11968,21472,27713103570833551,644,1,0,0,3,3,143,7328,2605944005,391008,7406,21632,7406,2720,7406,7488,7406,351101413,7406,495904649,7406,2389799,7406,2880,7406,64480,7406,499868809,7406,2408871,31,7406,2196209381,7406,453004,30829710250,780,3,63,3136,7904,12672,64800,22208,7442649532545934831,488288,3,23,74368,492576,10,0,3,95,3392,8160,12928,65056,22464,8026414399019333999,529056,500870,1485990,530944,535712,3,23,84160,540256,3,71,79456,8448,319716901,13248,79584,322686469,554688,568928,3,31,60704,772885957,578432,3,31,89184,93952,2171720485,1004,3,39,89280,98784,2789384965,606528,3,55,4128,8896,79968,18432,23200,9704738390130101455,31,80096,146436741,644128,3,39,94368,99136,2800273381,658624,3,63,4480,80288,146465349,14048,18816,23584,10580385689801395791,23,80480,696256] [⟨(some s94),(some (s83,true)),(.e (.callv t84 [t89,t93]) [])⟩],0,[],none⟩
noncomputable def f153:FI:=⟨dF 8 [3,15,2368,3,84,3,39,96,31,8703151,1344,1,0,3,31,192,12897775,1856,1] [(oP s4 (.cvi .u32 t3))],0,[(.t s2)],none⟩
noncomputable def f154:FI:=⟨dF 8 [3,15,3392,3,3,23,96,31,36,3,15,3392,1,0,3,39,63,192,95,1856,1] [(oP s4 (.bin .eql .sl t3 (.c vz))),(oP s5 (.bsl 0 1 (.str []) [])),(oX s7 (.app 0 0 1 (.str []) 16 t5 t6) [])],0,[(.t s2)],none⟩
noncomputable def f155:FI:=⟨dF 8 [3,15,3392,3,3,23,96,31,36,3,15,3392,1,0,3,39,63,192,95,1856,1] [(oP s4 (.bin .eql .sl t3 (.c vz))),(oP s5 (.bsl 0 1 (.bool false) [])),(oX s7 (.app 0 0 1 (.bool false) 1 t5 t6) [])],0,[(.t s2)],none⟩
noncomputable def f156:FI:=⟨dF 148 [3,15,715456,3,15,715488,5,6,13,3,39,10144,5440,226670437,109312,3,3,23,57600,2413580069,204,3,47,832,5600,10368,19872,10172091967399631,1,0,3,3,23,15200,1786112389,260,3,47,1056,5824,10592,20096,12627833591888431,1,0,3,3,23,48576,181228,316,3,47,1280,6048,10816,20320,15083575216377231,31,15648,350905925,217952,0,3,87,1536,6304,11072,20576,17890137072935183,247776,224294,1209414,251424,256192,3,3,23,68064,1791152261,452,3,47,1824,6592,11360,20864,21047519161562287,3,63,11456,350986981,63616,6816,269234245,270214629,317728,15,701376,0,3,3,71,49536,324256,6958,54336,30804030826,338560,7054,68640,7054,1785327557,30807985514,604,3,47,2432,7200,11968,21472,27713103570880911,644,1,0,0,3,3,143,7328,2605944005,391008,7406,21632,7406,2720,7406,7488,7406,351101413,7406,700802953,7406,3374887,7406,2880,7406,64480,7406,704767113,7406,3393959,31,7406,2196209381,7406,453004,30829710250,780,3,63,3136,7904,12672,64800,22208,7442649532545982191,488288,3,23,74368,492576,10,0,3,95,3392,8160,12928,65056,22464,8026414399019381359,529056,500870,1485990,530944,535712,3,23,84160,540256,3,71,79456,8448,319716901,13248,79584,322686469,554688,568928,3,31,60704,772885957,578432,3,31,89184,93952,2171720485,1004,3,39,89280,98784,2789384965,606528,3,55,4128,8896,79968,18432,23200,9704738390130120399,31,80096,146436741,644128,3,39,94368,99136,2800273381,658624,3,63,4480,80288,146465349,14048,18816,23584,10580385689801414735,23,80480,696256] [⟨(some s94),(some (s83,true)),(.e (.callv t84 [t89,t93]) [])⟩],0,[],none⟩
noncomputable def f157:FI:=⟨dF 34 [3,23,42560,70880,3,3,39,320,1440,9307524879,13248,3,23,6944,31,116,3,39,7008,63,42560,17568,1,0,3,39,1632,19080,95,20896,3,3,31,1728,22440,38784,5,6,3,15,98308069,3,188,0,2,3,13,3,39,50340361,538279,127,2415793,63,8448,864,522055,23701713199,159,191,33952,23,3502213,35520,3,31,8672,36032,70880,1] [(oP s14 (.bin .neq .ptr t13 (.c .nilp))),(oP s16 (.ifc 129 t15)),(oX s19 (.mks 0 false false true 1 (vi 0) 8 (ci 0) t18) []),(oX s9 (.new 0 false false (.cells 46 [(vi 0),(.str []),vz,vz,vz])) []),(oP s30 (.bsl 1 1 (vi 0) [(0,t29)])),(oX s31 (.app 1 0 1 (vi 0) 8 t26 t30) [])],1,[(.t s4),(.t s5)],none⟩
noncomputable def f158:FI:=⟨dF 28 [3,15,31,3,31,2048,7464,26304,5,6,3,15,70105189,3,92,0,2,3,13,3,39,35489161,405415,63,1178801,119,448,480,13953,1197604,15811,608,83079,401191,1206726113872,273,95,127,13345,1205956,2189361,23,2217573,24512] [(oX s4 (.box 0 false 41 1 t1) []),(oX s7 (.new 1 false false (.cells 46 [(vi 0),(.str []),vz,vz,vz])) []),(oP s23 (.bsl 1 1 (vi 0) [(0,t22)])),(oX s24 (.app 2 0 1 (vi 0) 8 t18 t23) [])],2,[],none⟩
noncomputable def f159:FI:=⟨dF 44 [3,15,31,3,95,192,8673,10116,11554,12993,746596,15874,6460325,13121,752356,1399857,3,55,512,4772,170951,590564,27395,2516888938415,3,3,31,151364,31714,130064773,196,71,800,5060,183911,444420,40355,336241232,417,63,3900098046223,0,3,39,883876,47555,49000,64512,5,6,3,15,157466277,3,300,0,2,3,13,3,39,111923145,1079783,95,4158705,31,1280,1033383,49646890959,23,6495077,61696] [(oX s3 (.box 0 false 257 7 t1) []),(oP s31 (.bsl 1 5 (.agg [(vi 0),(.str []),vz,vz,vz]) [(0,t30)])),(oX s5 (.new 1 false false (.cells 257 [(vi 0),(vi 0),(vi 0),(.str []),vz,vz,vz])) [])],2,[],none⟩
noncomputable def f160:FI:=⟨dF 8 [3,15,3392,3,3,23,96,31,36,3,15,3392,1,0,3,39,63,192,95,1856,1] [(oP s4 (.bin .eql .sl t3 (.c vz))),(oP s5 (.bsl 0 5 (.agg [(vi 0),vz,vz,vz,(.str [])]) [])),(oX s7 (.app 0 2 5 (.agg [(vi 0),vz,vz,vz,(.str [])]) 96 t5 t6) [])],1,[(.t s2)],none⟩
noncomputable def f161:FI:=⟨dF 8 [3,15,3392,3,3,23,96,31,36,3,15,3392,1,0,3,39,63,192,95,1856,1] [(oP s4 (.bin .eql .sl t3 (.c vz))),(oP s5 (.bsl 0 2 (.agg [(.str []),(vi 0)]) [])),(oX s7 (.app 0 2 2 (.agg [(.str []),(vi 0)]) 24 t5 t6) [])],1,[(.t s2)],none⟩
noncomputable def f162:FI:=⟨dF 8 [3,15,3392,3,3,23,96,31,36,3,15,3392,1,0,3,39,63,192,95,1856,1] [(oP s4 (.bin .eql .sl t3 (.c vz))),(oP s5 (.bsl 0 3 (.agg [(.str []),(.str []),(vi 0)]) [])),(oX s7 (.app 0 2 3 (.agg [(.str []),(.str []),(vi 0)]) 40 t5 t6) [])],1,[(.t s2)],none⟩
noncomputable def f163:FI:=⟨dF 24 [3,15,19328,3,3,71,256,1056,31,7904,5734,70278,8608,9408,3,15,5024,108,3,31,4288,6978533,11648,1,0,3,55,512,1312,576,63,1563525,95,3,39,672,127,6984933,17792,1] [(oR s10 (.lku false [.s] true (vi 0) t8 t9)),(oR s19 (.mlen t18)),(oY (.mup false [.s] t16 t17 t20) []),(oR s22 (.mlen t21))],0,[(.t s4)],none⟩
noncomputable def f164:FI:=⟨dF 11 [3,15,5824,3,47,224,608,992,132484541007,3712,1] [],0,[(.t s6)],none⟩
noncomputable def f165:FI:=⟨dF 49 [3,23,78592,80192,3,31,384,19240,20640,3,31,12992,78688,22272,3,5,6,3,3,31,14592,16192,189052741,140,0,2,13,3,63,14688,16288,3276197,31,63,95,36416,3,71,3904,800,18080,41742601,385063,2496,127,194887717,252,31,18272,8425925,52032,23,18336,53632,3,135,15232,15264,13728,192675493,60832,2830,4416,2830,1312,2830,15456,2830,44502793,2830,410663,2830,3008,159,2830,157654501,958195370,55072,75488,1] [(oP s21 (.cvi .u64 t20)),(oQ s22 .shr t21 (.c (.int .u64 (.ofNat 1)))),(oP s23 (.cvi .i64 t22)),(oX s30 (.callv t24 [t28,t29]) []),⟨(some s46),(some (s39,true)),(.e (.callv t40 [t44,t45]) [])⟩],0,[(.t s6),(.t s7)],none⟩
noncomputable def f166:FI:=⟨dF 9 [3,23,31,3008,3,47,740,1635,512,1154310319,2432,1] [(oX s2 (.box 0 false 197 2 t0) [])],1,[(.t s4)],none⟩
noncomputable def f167:FI:=⟨dF 25 [3,15,23328,3,15,31,3,23,256,4490942703,3,3,31,1120,8360,21184,5,6,3,15,58558021,3,108,0,2,3,13,3,39,18164457,215687,63,1312881,3,15,37357249327,3,3,23,74148,14178,148,15,95,0,31,6244,16675,11732671119,23,1710341,18784,3,23,33635183,19328,1] [(oX s5 (.new 0 false false (.cells 150 [.nilp,vz])) []),(oX s7 (.new 1 false false (.cells 314 [(.str []),(.bool false),(vi 0)])) []),(oC s19 113 [t5,(cu 43)])],2,[(.t s4)],none⟩
noncomputable def f168:FI:=⟨dF 57 [3,15,113216,3,71,352,2208,21147157295,448,2304,26436897839,23872,29376,3,15,113312,3,3,47,544,2400,31726138607,35304,106464,5,6,3,15,253994533,3,180,0,2,3,13,3,47,39040,29485737,44578,42208,45888,3,39,17248,31,63,3245169,3,3,39,15488,10048,53864,256141669,252,55,10144,15648,32070665,63139,19396,4230193,0,3,3,39,15776,12160,70568,258079045,324,55,12256,15936,34008041,79842,233092,5317681,0,47,14240,659975,95,127,89600,23,12204165,91872,3,3,31,10752,94696,312099045,428,23,14496,159,0,3,23,14560,102272,1] [(oP s27 (.bld [(.str []),(.bool false),(vi 0)] [(2,(1,t26))])),(oX s10 (.new 0 false false (.cells 314 [(.str []),(.bool false),(vi 0)])) []),(oP s48 (.bsl 1 3 (.agg [(.str []),(.bool false),(vi 0)]) [(0,t47)])),(oX s49 (.app 1 1 3 (.agg [(.str []),(.bool false),(vi 0)]) 32 t46 t48) []),(oC s55 218 [t54,(.c (.fn 219 [] []))])],2,[(.t s4)],none⟩
noncomputable def f169:FI:=⟨dF 9 [3,15,3872,3,47,160,480,989165615,31,2432,1] [(oP s8 (.fld false 4 1 t7))],0,[(.t s4)],none⟩
noncomputable def f170:FI:=⟨dF 33 [3,15,40256,3,15,40288,3,3,55,256,8737,206244,10915,12008,36320,5,6,3,15,92526117,3,116,0,2,3,13,3,39,28688841,310983,31,1530993,3,39,7940,18531,1664,74952363,164,55,5952,106308,23971,63,95,26560,0,23,3255429,27872,3,63,6144,6176,30504,6240,32680,127,33920,1] [(oX s7 (.new 0 false false (.cells 205 [(.str []),(.str []),(vi 0)])) []),(oP s24 (.bsl 1 1 (.str []) [(0,t23)])),(oX s25 (.app 1 0 1 (.str []) 16 t21 t24) []),(oP s32 (.sls false 1 t27 none (some t29) (some t31)))],1,[(.t s4)],none⟩
noncomputable def f171:FI:=⟨dF 152 [3,23,31,773504,3,63,1046052,44098,2077284,53891,63,95,68256,3,15,841664,3,3,39,3108580,73475,78376,2781143365,148,31,608,763128207,97472,0,3,79,704,2077668,112643,203623529775,122272,102982,1134182,126688,131584,3,3,63,1046660,137122,1911927493,146912,5870,39936,5870,156716,33699753290,276,47,15716,1202567,2078116,181187,69556750464495,0,3,87,25600,1312,4140612,205667,1688232585,7433639,381774500559,196065,2292484,10035249,3,3,23,1047332,239938,5,3,23,1905843333,254560,412,3,3,15,40608,428,47,16324,1295591,2078724,274211,103558003767375,0,3,3,23,31072,2999956613,484,63,1952,26304,303585,2370820,313378,31296,118746539927663,71,26496,332961,2400196,342754,347649,7570724,357442,360128,119,2400,2432,372129,3470532,381923,2079492,391715,31808,127,159,191,367553,3514596,18541617,3,23,1912031525,435712,708,63,2880,27232,445569,2512804,455362,37088,170926842096655,3,3,23,1914094149,479776,780,0,23,1915125349,484640,780,3,3,135,27520,489633,2556868,499426,504321,7727396,514114,3424,523905,528804,533698,538593,19104516,223,553282,2085540965,924,79,28032,567969,2635204,577762,582657,587556,592452,1628519,280929264681103,0,3,71,28320,4032,5174500,621827,1086289074991,612161,3730020,28138545,71,28544,4256,6205892,656099,1145699294223,646433,4795460,29665329,3,23,1916157829,685408,1116,87,4512,28864,695265,2762500,705058,4672,714849,2782084,724642,268064701854415,0,3,23,29152,734592,1] [(oX s3 (.box 0 false 166 7 t1) []),(oP s13 (.bld [(vi 0),(.str []),.nilp,vz,vz] [(0,(1,t10)),(1,(1,t12))])),(oX s14 (.box 1 true 156 5 t13) []),(oP s83 (.bld [(.str []),(vi 0)] [(0,(1,t81)),(1,(1,t82))])),(oP s84 (.bsl 1 2 (.agg [(.str []),(vi 0)]) [(0,t83)])),(oX s85 (.app 2 0 2 (.agg [(.str []),(vi 0)]) 24 t79 t84) []),(oP s113 (.iaa 3 1 t112 (ci 1)))],2,[(.t s4)],none⟩
noncomputable def f172:FI:=⟨dF 134 [3,15,587712,3,15,587744,5,6,13,3,39,9184,4928,178102757,90368,3,3,23,43584,1898426981,188,3,39,768,5088,9408,34544548297775,1,0,3,3,23,13760,1403489061,236,3,39,960,5280,9600,42517952712111,1,0,3,3,23,35392,146924,284,3,39,1152,5472,9792,50491357126447,31,14144,273026853,175904,0,3,79,1376,5696,10016,59793662275791,198592,181606,1013510,201888,206208,3,3,23,53024,1407739141,404,3,39,1632,5952,10272,70424868160143,3,63,10336,273091653,48992,6144,209878053,210705669,257632,15,574976,0,3,3,71,36256,263552,6286,40608,22000786698,276512,6382,53568,6382,1402821349,22004127178,548,3,39,2208,6528,10848,94345081394575,580,1,0,0,3,3,127,6624,2049216133,319712,6702,2432,6702,6752,6702,273186693,6702,226597609,6702,341315,6702,2592,6702,49792,6702,229946665,6702,358595,6702,575254374383,6702,367244,22019976234,700,3,55,2816,7136,11456,50080,23459081004726671,394912,3,23,58720,398816,10,0,3,87,3040,7360,11680,50304,25263728448719663,427520,406278,1238182,429248,433568,3,23,67584,437664,3,71,63328,7616,248342885,11968,63456,250851461,450752,463648,3,31,46368,606073733,472256,3,31,72160,76480,1707480933,908,3,39,72256,80864,2194139013,497664,3,47,3744,8064,63840,16704,30935477558136879,31,63936,111997925,527456,3,39,76864,81184,2202500933,540544,3,55,4064,64128,112023845,12736,17056,33771352077848975,23,64288,570368] [],0,[],none⟩
def f173:FI:=⟨(.seq (.reg [oM s2 t0,oN s3 t2,oF s4 0 t3,oG s5 t4,oP s6 (.bin .eql .ptr t5 (.c .nilp))]) (.cond t6
 (.reg [oM s7 t0,oM s8 t0,oR s9 (.cvu t8),oC s10 234 [t9],oR s11 (.cvp [(172,3,0),(171,3,0),(170,3,0),(169,3,0),(150,2,0),(149,2,0)] t10),oN s12 t7,oF s13 0 t12,oS 1 t13 t11])
 (.seq (.reg [oM s14 t0,oN s15 t14,oF s16 0 t15,oG s17 t16,oM s18 t0,oP s19 (.bin .neq .ptr t17 t18)]) (.cond t19
 (.reg [⟨none,none,(.p (.ext (.c .undef) 0))⟩])
 .skip)))),0,[],none⟩
noncomputable def f174:FI:=⟨dF 5 [3,15,1504,3,31,96,2475004783,704,1] [],0,[(.t s2)],none⟩
noncomputable def f176:FI:=⟨dF 26 [3,23,22592,23456,3,95,288,7809,8676,9538,1248,7703575823,11904,7142,78726,12672,13536,3,3,23,6368,14732,148,3,23,22592,23456,1,0,3,79,608,16449,88868,18179,5728,7818249,20770,20928,24288,1] [],0,[(.t s4),(.t s5)],none⟩
noncomputable def f177:FI:=⟨dF 32 [3,31,31,63,34016,3,3,31,2432,12712,34240,5,6,3,15,87910885,3,124,0,2,3,13,3,31,9998857,16931,17696,3,87,608,475783,9888,1506622550735,23104,19174,113414,95,2177201,24928,3,3,23,12064,81139525,212,3,39,127,12160,2549937,28896,1,0,23,482215,2736305,23,3029957,31168,3,31,476135,2926769,34016,1] [(oX s4 (.box 0 false 61 5 t1) []),(oX s6 (.new 1 false false (.cells 61 [(vi 0),(vi 0),(vi 0),(.str []),vz])) []),(oX s10 (.new 2 false false (.cells 61 [(vi 0),(vi 0),(vi 0),(.str []),vz])) []),(oP s27 (.bld [(vi 0),(vi 0),(vi 0),(.str []),vz] []))],3,[(.c true 5 s6),(.t s7)],none⟩
noncomputable def f178:FI:=⟨dF 34 [3,15,44800,3,3,55,288,10113,624868,12355,13480,38528,5,6,3,15,97480933,3,124,0,2,3,13,3,31,11058953,17954,18752,3,119,9280,20193,21316,22435,1792,79182123,25792,1870,9504,1870,28033,1870,131428,1870,30275,1870,3104,1870,79905867,349183722,252,3,23,9728,35008,1,0,23,3493541,36352,3,15,44800,1] [],0,[(.t s6)],none⟩
noncomputable def f179:FI:=⟨dF 42 [3,15,31,3,47,1664,3040,63,95,1260625,3,103,448,19297,980292,22050,284167,127,25952,18118,155238,159,2097329,28512,3,3,23,12800,30316,188,3,103,800,34433,35812,37186,309698863,2304,3680,3585019207759,43776,33318,170438,3455153,63,1120,48193,1009188,50946,284839,697479,191,0,3,23,697511,4288689,1] [(oX s6 (.new 0 false false (.cells 259 [vz,(vi 0),(.str []),(.str []),(vi 0)])) []),(oP s12 (.bld [(vi 0),(.str [])] [(0,(1,t10)),(1,(1,t11))])),(oX s7 (.new 1 false false (.cells 366 [(vi 0),(.str [])])) []),(oR s19 (.lku true [.i,.s] true (.agg [vz,(vi 0),(.str []),(.str []),(vi 0)]) t17 t18)),(oX s8 (.new 2 false false (.cells 259 [vz,(vi 0),(.str []),(.str []),(vi 0)])) [(.l t17),(.l t7),(.c t16)]),(oY (.mup true [.i,.s] t38 t39 t40) [])],3,[(.c true 5 s6)],none⟩
noncomputable def f180:FI:=⟨dF 16 [3,15,9344,3,103,672,39109317,3296,750,768,750,288,750,4929,750,5476,750,6018,750,50884015,750,30083525,53780458,7808,1] [],0,[(.t s4)],none⟩
noncomputable def f181:FI:=⟨dF 143 [3,31,31,63,659072,3,3,63,9858,101409,1963876,110626,1872423,95,123712,3,23,23776,1831046149,236,3,23,23840,137408,1,0,3,23,127,159,3,23,191,142112,3,31,223,255,6661169,3,23,287,151328,3,31,46848,1872711,319,3,3,15,659296,5,6,3,3,39,51520,28675,175144,1922122629,324,0,2,3,13,3,55,28835,51744,418215817,2065255,351,9574481,3,71,10690,1914343,374688953967,230304,216710,1145670,233792,238400,3,3,23,65760,244268,436,3,55,10914,253473,2115940,262690,1914663,383,3,47,33955,1914727,415,447,13103153,10,0,3,31,61536,294952,661056,21,6,3,15,1946408325,3,540,0,18,3,29,3,39,627321449,3100167,479,14359665,3,87,38848,75492,2185063,1915143,511,543,350118,575,1279206,607,39,48288,75780,2226535,639,23,133141381,381920,31,51648,133025669,192544,3,3,15,659488,37,6,3,3,39,80480,34755,391720,1965998821,700,0,34,3,45,3,71,39488,34947,80736,463025545,2286439,671,437800,662048,53,6,3,15,1975347941,3,788,0,50,3,61,3,39,467688681,2314087,703,20806737,3,63,12386,465441,2327908,474658,1948167,735,1642833189,860,3,55,12610,497697,2360164,506914,1948391,767,47,35651,1948455,799,831,24120369,0,23,133284325,538496,31,80608,133242245,407808,3,3,31,31235,543784,662784,69,6,3,15,1996819269,3,972,0,66,3,77,3,39,489160009,2420071,863,25589841,3,63,13122,571425,2433892,580642,1958055,895,1642939173,1044,55,13346,603681,2466148,612898,1958279,927,0,23,133390181,626176,3,63,13538,631329,2493796,640546,1876103,959,649920,1] [(oX s2 (.box 0 false 73 1 t0) []),(oX s3 (.box 1 false 324 2 t1) []),(oR s27 (.lku true [.i,.i] false (vi 0) t25 t26)),(oX s6 (.new 2 false false (.cells 370 [vz])) []),(oX s7 (.new 3 false false (.cells 370 [vz])) []),(oX s31 (.new 4 false true (.map [])) []),(oX s32 (.new 5 false true (.map [])) []),(oX s9 (.new 6 false false (.cells 235 [.nilm])) []),(oP s33 (.mkf 238 [] [t9,t2,t6,t7])),(oX s36 (.callv t34 [t35]) []),(oX s12 (.new 7 false false (.cells 324 [(vi 0),(vi 0)])) []),(oY (.mup true [.i,.i] t58 t59 (ci 2)) []),(oP s62 (.bsl 1 2 (.agg [(vi 0),(vi 0)]) [(0,t61)])),(oX s63 (.app 8 0 2 (.agg [(vi 0),(vi 0)]) 16 t60 t62) []),(oX s16 (.new 8 false false (.cells 377 [(vi 0),(vi 0),(.str [])])) []),(oP s75 (.bsl 1 2 (.agg [(vi 0),(vi 0)]) [(0,t74)])),(oX s76 (.men true [.i,.i] vz t70 t72) []),(oX s77 (.app 9 0 2 (.agg [(vi 0),(vi 0)]) 16 t73 t75) []),(oY (.est true [.i,.i] t70 t78 t77) []),(oX s82 (.callv t79 [t81]) []),(oR s95 (.lku true [.i,.i] false vz t90 t94)),(oX s19 (.new 9 false false (.cells 324 [(vi 0),(vi 0)])) []),(oR s106 (.lku true [.i,.i] false (vi 0) t104 t105)),(oY (.mup true [.i,.i] t111 t112 (ci 2)) []),(oP s115 (.bsl 1 2 (.agg [(vi 0),(vi 0)]) [(0,t114)])),(oX s116 (.app 10 0 2 (.agg [(vi 0),(vi 0)]) 16 t113 t115) []),(oX s21 (.new 10 false false (.cells 324 [(vi 0),(vi 0)])) []),(oR s129 (.lku true [.i,.i] false (vi 0) t127 t128)),(oY (.mup true [.i,.i] t134 t135 (ci 1)) []),(oR s142 (.lku true [.i,.i] false (vi 0) t140 t141))],11,[(.t s4)],none⟩
def f182:FI:=⟨(.seq (.reg [oX s4 (.new 0 false false (.cells 61 [(vi 0),(vi 0),(vi 0),(.str []),vz])) []]) (.seq (.reg [oM s6 t0,oP s7 (.bld [(vi 0),(vi 0),(vi 0),(.str []),vz] [(0,1,(ci 2)),(1,1,t6)]),oX s5 (.new 1 false false (.cells 61 [(vi 0),(vi 0),(vi 0),(.str []),vz])) [],oS 5 t5 t7]) (.seq (.seq (.reg [oM s8 t1]) (.cond t8
 (.reg [oF s9 2 t5,oS 1 t9 (ci 1)])
 .skip)) (.seq (.reg [oR s10 (.ld true 5 t5),oS 5 t4 t10]) .ret)))),2,[.c true 5 s4],none⟩
noncomputable def f183:FI:=⟨dF 17 [3,15,10400,3,127,96,13995087,2336,174,192,174,27365071,23418378,4640,302,320,302,45191535,36322186,6944,430,448,31,49225994,8768,1] [⟨(some s15),(some (s13,false)),(.p (.bin .eql eI t14 (cu 95)))⟩],0,[(.t s2)],none⟩
noncomputable def f184:FI:=⟨dF 18 [3,15,11584,3,23,138415,2976,3,3,15,11072,5,6,3,3,39,2496,1952,4296,35407013,76,0,2,3,13,3,55,2112,2720,4095817,8547,512,28763115,140,3,15,12160,1,0,31,2624,814821,6464,3,15,11584,1] [],0,[(.t s2)],none⟩
noncomputable def f185:FI:=⟨dF 17 [3,15,10400,3,127,96,44403045,2336,718,192,31,61578346,4640,846,320,846,30877253,61748202,6944,974,448,974,31256549,61918058,8768,1] [⟨(some s7),(some (s5,true)),(.p (.bin .leq eI t6 (cu 126)))⟩],0,[(.t s2)],none⟩
noncomputable def f186:FI:=⟨dF 44 [3,15,31,3,3,71,192,94838225391,10124,11552,1710,320,1710,105680501359,1710,15884,702300970,108,3,39,448,1888,18158268303,1708273,1,0,3,3,23,1952,191850437,148,3,23,608,76994634767,3,23,63,2240753,1,0,3,31,95,127,2348273,3,3,23,736,105830448143,196,23,154276,9503793,0,3,47,832,301384687,7940,40356,2905137,3,71,960,43233,337540,46114,6490565,43361,343300,3657777,3,63,1184,2624,6497765,47213184015,159,886980,4409393,3,23,1033447,4583665,1] [(oX s4 (.new 0 false false (.cells 257 [(vi 0),(vi 0),(vi 0),(.str []),vz,vz,vz])) []),(oP s21 (.bld [(vi 0),(vi 0),(vi 0),(.str []),vz,vz,vz] [])),(oP s22 (.bld [(vi 0),(vi 0),(vi 0),(.str []),vz,vz,vz] [(1,(1,(ci 13)))])),(oX s5 (.new 1 false false (.cells 257 [(vi 0),(vi 0),(vi 0),(.str []),vz,vz,vz])) []),(oP s41 (.bsl 1 7 (.agg [(vi 0),(vi 0),(vi 0),(.str []),vz,vz,vz]) [(0,t40)]))],2,[(.c true 7 s4)],none⟩
noncomputable def f187:FI:=⟨dF 34 [3,15,38208,3,23,31,7776,3,3,15,38272,5,6,3,3,39,6784,5728,10120,97167461,92,0,2,3,13,3,135,5888,7008,11163401,17954,152897231,1696,78871941,22432,1774,704,1774,6176,1774,7296,1774,12093929,1774,28034,1774,233114671,1774,22819266831,348975850,236,3,47,6400,7520,12817673,35874,36032,1,0,31,6912,3490725,14336,3,15,38208,1] [(oP s7 (.bsl 7 1 (vi 0) [(0,(ci 21)),(1,(ci 20)),(2,(ci 18)),(3,(ci 19)),(4,(ci 16)),(5,(ci 17)),(6,(ci 15))]))],0,[(.t s4)],none⟩
noncomputable def f188:FI:=⟨dF 17 [3,15,10464,3,87,256,832,31,63,49711119,6752,4230,46150,7232,7808,3,31,3744,29749157,8832,1] [(oP s10 (.bld [(vi 0),(vi 0),(.str []),(vi 0)] [(1,(1,t8)),(2,(1,t9))])),(oP s11 (.bsl 1 4 (.agg [(vi 0),(vi 0),(.str []),(vi 0)]) [(0,t10)]))],0,[(.t s4)],none⟩
noncomputable def f189:FI:=⟨dF 27 [3,15,25120,3,23,31,5280,3,3,31,224,6312,24480,5,6,3,15,66005605,3,84,0,2,3,13,3,31,7222537,9891,10528,3,47,3008,4768,63,2043013,95,3,79,3136,4896,127,80521989,17952,686,5024,686,156763183,686,20652,159224778,204,3,15,25120,1,0,23,2038149,22752,3,15,25984,1] [(oX s6 (.new 0 false true (.map [])) []),(oR s15 (.lku false [.s] false (vi 0) t13 t14)),(oY (.mup false [.s] t13 t14 t16) []),(oR s19 (.lku false [.s] false (vi 0) t17 t18))],1,[(.t s2)],none⟩
noncomputable def f190:FI:=⟨dF 5 [3,15,1184,3,31,96,262501903,704,1] [],0,[(.t s2)],none⟩
noncomputable def f191:FI:=⟨dF 18 [3,15,11648,3,3,31,224,4296,11232,5,6,3,15,35408773,3,84,0,2,3,13,3,39,24939433,321223,31,964849,3,39,318375,1024,5215365423,9164,132,3,15,11648,1,0,23,814437,10080,3,15,12224,1] [(oX s6 (.new 0 false false (.cells 166 [(vi 0),(vi 0),(.str []),vz,vz,vz,vz])) [])],1,[(.t s4)],none⟩
noncomputable def f192:FI:=⟨dF 121 [3,31,4128,31272,472704,5,6,3,15,1274852485,3,92,0,2,3,13,3,39,894993833,4952711,31,2414833,3,3,23,720644,54690,21,3,23,1099664037,66336,132,3,63,576,70305,74212,1421700,82019,63,132690563887,3,3,39,2122660,97635,101544,473280,29,6,3,15,1287537733,3,236,0,26,3,37,3,39,653977897,3621319,95,5753009,31,1024,3532327,190483358607,23,84910213,136416,47,1152,140577,144484,127,225120965935,3,23,1103869829,163936,332,63,1376,167905,171812,1422500,179619,159,277013943887,3,23,1107374277,199072,404,47,1664,203041,206948,191,317487929135,3,23,1105272005,226400,460,47,1888,230369,234276,223,357898475535,3,23,1105973061,253728,516,47,2112,257697,261604,255,398309021935,3,23,1106674117,281056,572,47,2336,285025,288932,287,438719568335,0,3,55,2496,2825220,308451,973768009,5222087,473262691119,45,3,79,723044,347490,1232414053,355296,6830,723172,6830,363106,6830,1233130501,15669561162,374528,708,47,3104,378721,382628,319,577270013135,3,47,4227652,402147,406056,1608118565,413696,820,3,39,3424,3526980,421667,629194981551,3,47,3552,433377,437284,351,658091105935,39,3712,4228100,456803,681151398351,39,2688,3526244,331875,496417471951,23,84843237,464960] [(oX s5 (.new 0 false false (.cells 166 [(vi 0),(vi 0),(.str []),vz,vz,vz,vz])) []),(oP s23 (.bsl 2 1 (.str []) [(0,(.c (.str [108,101,116]))),(1,t22)])),(oX s7 (.new 1 false false (.cells 46 [(vi 0),(.str []),vz,vz,vz])) []),(oP s39 (.bsl 1 1 (.str []) [(0,(.c (.str [61])))])),(oP s48 (.bsl 2 1 (.str []) [(0,t47),(1,(.c (.str [61])))])),(oP s55 (.bsl 1 1 (.str []) [(0,(.c (.str [112,114,105,110,116])))])),(oP s62 (.bsl 1 1 (.str []) [(0,(.c (.str [105,102])))])),(oP s69 (.bsl 1 1 (.str []) [(0,(.c (.str [119,104,105,108,101])))])),(oP s76 (.bsl 1 1 (.str []) [(0,(.c (.str [114,101,116,117,114,110])))])),(oP s100 (.bsl 1 1 (.str []) [(0,(.c (.str [59])))])),(oP s114 (.bsl 1 1 (.str []) [(0,(.c (.str [101,108,115,101])))]))],2,[],none⟩
noncomputable def f193:FI:=⟨dF 19 [3,15,12288,3,3,31,192,3880,12416,5,6,3,15,38286661,3,76,0,2,3,13,3,23,5184,6240,3,55,960,384,3456,4426697,8995,31083915,132,3,23,3584,10464,1,0,23,918053,11200,3,15,24448,1] [],0,[(.t s4)],none⟩
noncomputable def f194:FI:=⟨dF 15 [3,15,9664,3,15,31,3,31,63,95,388145,3,31,192,127,2089078831,3,63,1731,1763,5160,1827,6184,159,6784,1] [(oX s3 (.new 0 false false (.cells 23 [vz])) []),(oX s5 (.new 1 false true (.map [])) []),(oX s4 (.new 2 false false (.cells 96 [.nilm])) []),(oP s7 (.mkf 248 [] [t4,t3])),(oP s14 (.sls false 1 t9 none (some t11) (some t13)))],3,[(.t s2)],none⟩
noncomputable def f196:FI:=⟨dF 53 [3,31,2016,10174661,18912,5,6,3,3,31,13952,3808,219074469,116,0,2,3,13,3,23,14112,29120,21,6,3,3,143,15840,2304,263547173,34592,2382,5792,2382,736,2382,16032,2382,47951817,2382,426535,2382,864,2382,16160,2382,31861989,2382,48917001,2382,435175,31,2382,226966565,1197453418,276,0,18,3,29,151,1184,16480,1248,16544,31882725,1344,16640,31887909,51817641,461095,1504,16800,52592841,468007,50659465,5375057,51237833,5838929,31,16384,31874085,61344,31,14048,10183301,27392] [⟨(some s32),(some (s21,true)),(.e (.callv t22 [t26,t31]) [])⟩],0,[],none⟩
noncomputable def f205:FI:=⟨dF 25 [3,15,20864,3,3,23,96,31,36,3,31,160,63,4800,15,95,0,3,3,23,224,127,68,3,31,288,159,8000,31,1952,4225189,9664,0,3,3,23,416,191,116,3,31,480,223,12800,31,2144,2530181,14464,0,3,63,2208,640,255,287,319,1579973,19264,1] [(oQ s4 .geq t3 (.c (.int .u64 (.ofNat 4294967296)))),(oQ s6 .shr t5 (.c (.int .u64 (.ofNat 32)))),(oM s2 (ci 32)),(oQ s8 .geq t7 (.c (.int .u64 (.ofNat 65536)))),(oQ s10 .shr t9 (.c (.int .u64 (.ofNat 16)))),(oQ s14 .geq t13 (.c (.int .u64 (.ofNat 256)))),(oQ s16 .shr t15 (.c (.int .u64 (.ofNat 8)))),(oP s21 (.cvi .u8 t20)),(oP s22 (.ixs (.c (.str [0,1,2,2,3,3,3,3,4,4,4,4,4,4,4,4,5,5,5,5,5,5,5,5,5,5,5,5,5,5,5,5,6,6,6,6,6,6,6,6,6,6,6,6,6,6,6,6,6,6,6,6,6,6,6,6,6,6,6,6,6,6,6,6,7,7,7,7,7,7,7,7,7,7,7,7,7,7,7,7,7,7,7,7,7,7,7,7,7,7,7,7,7,7,7,7,7,7,7,7,7,7,7,7,7,7,7,7,7,7,7,7,7,7,7,7,7,7,7,7,7,7,7,7,7,7,7,7,8,8,8,8,8,8,8,8,8,8,8,8,8,8,8,8,8,8,8,8,8,8,8,8,8,8,8,8,8,8,8,8,8,8,8,8,8,8,8,8,8,8,8,8,8,8,8,8,8,8,8,8,8,8,8,8,8,8,8,8,8,8,8,8,8,8,8,8,8,8,8,8,8,8,8,8,8,8,8,8,8,8,8,8,8,8,8,8,8,8,8,8,8,8,8,8,8,8,8,8,8,8,8,8,8,8,8,8,8,8,8,8,8,8,8,8,8,8,8,8,8,8,8,8,8,8,8,8])) t21)),(oP s23 (.cvi .i64 t22))],0,[(.t s2)],none⟩
noncomputable def f206:FI:=⟨dF 53 [3,31,2016,10174661,18912,5,6,3,3,31,13952,3808,219074469,116,0,2,3,13,3,23,14112,29120,21,6,3,3,143,15840,2304,263547173,34592,2382,5792,2382,736,2382,16032,2382,69608041,2382,618183,2382,864,2382,16160,2382,31861989,2382,70573225,2382,626823,31,2382,226966565,1197453418,276,0,18,3,29,151,1184,16480,1248,16544,31882725,1344,16640,31887909,73473865,652743,1504,16800,74249065,659655,72315689,5375089,72894057,5838961,31,16384,31874085,61344,31,14048,10183301,27392] [⟨(some s32),(some (s21,true)),(.e (.callv t22 [t26,t31]) [])⟩],0,[],none⟩
noncomputable def f214:FI:=⟨dF 85 [3,15,250368,3,3,31,3296,49576,234560,5,6,3,15,579428677,3,172,0,2,3,13,3,39,293877673,2032583,31,3421361,3,31,1989095,537956975,68844,212,3,31,63,41970323520911,76288,1,0,23,33579333,79520,3,3,31,3680,82600,234944,21,6,3,15,584194501,3,268,0,18,3,29,3,39,298643497,2065607,95,5205169,3,71,1184,1994983,123605856143,107232,99206,493638,109088,111840,3,15,28544,340,3,39,127,25888,20972899762095,122528,1,0,23,33612517,126144,3,55,1504,129377,132132,134883,137640,139072,3,3,31,4384,143144,235648,37,6,3,15,592931845,3,444,0,34,3,45,3,39,307380841,2126151,159,8476849,3,55,31776,2009255,191,1339941967,24218149,168992,3,23,31936,223,516,3,31,255,287,179648,1,0,23,33673029,183968,3,3,31,4896,187176,236160,53,6,3,15,599286277,3,572,0,50,3,61,3,39,313735273,2170183,319,10854577,3,71,2400,2015239,247227727599,211808,203782,598214,212672,215424,3,15,48800,644,3,39,351,46144,383,225888,1,0,23,33717093,230720,3,15,250368,1] [(oX s6 (.new 0 false false (.cells 46 [(vi 0),(.str []),vz,vz,vz])) []),(oP s27 (.bld [(vi 0)] [])),(oX s8 (.new 1 false false (.cells 46 [(vi 0),(.str []),vz,vz,vz])) []),(oP s43 (.bld [(vi 0)] [])),(oX s13 (.new 2 false false (.cells 46 [(vi 0),(.str []),vz,vz,vz])) []),(oP s60 (.bsl 1 5 (.agg [(vi 0),(.str []),vz,vz,vz]) [(0,t59)])),(oQ s64 .gtr t63 (ci 1024)),(oP s65 (.bld [(vi 0)] [])),(oC s66 144 [t65,(ci 23),(.c (.str []))]),(oX s15 (.new 3 false false (.cells 46 [(vi 0),(.str []),vz,vz,vz])) []),(oP s81 (.bld [(vi 0)] [])),(oC s83 144 [t81,(ci 24),t82])],4,[(.t s4)],none⟩
noncomputable def f216:FI:=⟨dF 21 [3,15,17664,3,31,928,31,6272,3,3,23,992,45294501,92,3,39,384,63,95,9408,31,5184,127,10976,0,3,47,544,5280,1952,694372936303,13632,1] [(oP s9 (.cvi .u64 t8)),(oP s13 (.bsl 1 1 (vu 0) [(0,(cu 45))])),(oX s14 (.app 0 0 1 (vu 0) 1 t12 t13) []),(oP s16 (.un .neg t15))],0,[(.t s6)],none⟩
noncomputable def f217:FI:=⟨dF 11 [3,15,5760,3,63,31,192,576,1451201231,63,95,3648,1] [(oP s5 (.bsl 0 1 (.bool false) [])),(oP s9 (.fld false 3 1 t8)),(oX s10 (.app 0 0 1 (.bool false) 1 t5 t9) [])],0,[(.t s4)],none⟩
noncomputable def f218:FI:=⟨dF 14 [3,31,160,2440,2816,63,224,2048,2080,31,37227823,832,1337138406541487] [(oP s10 (.cvi .u64 t9))],0,[],none⟩
noncomputable def f221:FI:=⟨dF 36 [3,15,42688,3,143,128,4769,5956,7138,8321,1668388,10691,352,13057,14244,15426,16609,1787268,18978,12509001,21346,21984,3,95,640,23713,24900,26082,27265,1797924,29634,4012133,27393,1802660,2683953,3,63,960,35553,36740,37922,4544,31116812527,40384,1] [],0,[(.t s2)],none⟩
noncomputable def f222:FI:=⟨dF 23 [3,31,31,17792,18560,3,63,224,5409,189444,6947,63,5566755535,9024,3,3,23,4832,52179173,116,3,23,17792,18560,1,0,3,87,480,11553,195588,13091,5024,11315177,76484,16162,16320,19296,1] [(oX s3 (.box 0 false 9 1 t1) []),(oP s11 (.mkf 263 [] [t3]))],1,[(.t s4),(.t s5)],none⟩
noncomputable def f223:FI:=⟨dF 120 [3,23,31,487808,3,103,288,34881,38756,42626,46497,50372,54242,58113,1444388,65859,69736,73120,3,223,640,77473,81348,85218,89089,92964,96834,864,104577,108452,112322,116193,120068,123938,127809,1514084,135555,12708,834503,703972,151042,63,95,127,101249,1552804,7971889,3,39,4851399,159,191,184512,3,47,24608,189761,193636,4344708,23093297,3,3,79,2778020,205251,209128,1576840197,216864,1838,704580,1838,224610,1838,1086794885,7550198442,492,55,25024,2016,1986591503,240161,5781316,11864113,0,3,3,71,704868,259458,1087520933,267200,2254,704996,2254,274946,2254,1086845221,9167656778,596,39,2400,25472,4852391,78912329843151,3,3,39,4161252,305923,309800,467264,5,6,3,15,1300464741,3,668,0,2,3,13,3,39,927900297,5163687,223,15675633,111,25792,25824,336897,11399972,344643,2912,4872071,523803892912,1425,255,287,333313,11430948,17609777,23,83262021,378944,31,3168,26240,569354195887,3,151,3264,394977,398852,402722,406593,410468,414338,418209,1804484,425955,22784,26656,437569,5279844,445314,451092393,1835460,21502001,3,23,26848,457088,1] [(oX s3 (.box 0 false 257 7 t1) []),(oP s41 (.bld [(vi 0),(vi 0),(vi 0)] [(0,(1,t38)),(1,(1,t40))])),(oP s42 (.bsl 1 3 (.agg [(vi 0),(vi 0),(vi 0)]) [(0,t41)])),(oX s43 (.app 1 2 3 (.agg [(vi 0),(vi 0),(vi 0)]) 24 t36 t42) [(.c t25),(.c t22)]),(oP s47 (.bld [(vi 0),(vi 0),(vi 0),(.str []),vz,vz,vz,(vi 0),(vi 0),vz,(vi 0),(.str []),(.str []),(vi 0),(.bool false),(.bool false),vz] [(0,(7,t46))])),(oX s48 (.box 2 true 262 17 t47) []),(oX s8 (.new 3 false false (.cells 257 [(vi 0),(vi 0),(vi 0),(.str []),vz,vz,vz])) []),(oP s94 (.bsl 1 1 .nilp [(0,t93)])),(oX s95 (.app 4 0 1 .nilp 8 t90 t94) [])],4,[(.t s4)],none⟩
noncomputable def f224:FI:=⟨dF 20 [3,71,192,864,4737,363812,6082,1632,373326649999,8108,108,55,1088,9441,10116,10788,62663,827213114863,0] [],0,[],none⟩
noncomputable def f225:FI:=⟨dF 49 [3,31,1824,8387525,14304,5,6,3,3,31,9728,3488,188190181,100,0,2,3,13,3,23,9888,23744,21,6,3,3,127,11488,2112,226484069,28832,2190,640,2190,11648,2190,22250633,2190,35235,2190,768,2190,11776,2190,27044133,2190,23111625,2190,43235,2190,39502121615,955087018,244,0,18,3,29,151,1056,12064,1120,12128,27061733,1216,12224,27066533,25526793,65635,1376,12384,26218409,72035,24493673,4736049,25009577,5183537,31,11968,27053733,50400,31,9824,8395525,22144] [],0,[],none⟩
noncomputable def f231:FI:=⟨dF 17 [3,15,10464,3,111,160,22986383,3488,782,800,782,36355823,782,5228,61705194,6368,398,416,398,992,398,32847755,49225450,8832,1] [],0,[(.t s4)],none⟩
noncomputable def f235:FI:=⟨dF 54 [3,15,100352,3,3,23,2048,195039717,92,3,3,55,384,249487333,22912,2190,480,31,1260773546,140,3,31,576,257042351,32960,1,0,3,15,63,3,31,640,95,36480,3,3,23,704,235444197,188,31,11136,127,43392,0,3,31,11200,370290543,46880,3,47,12992,5610021,159,11360,50455197391,3,3,23,1056,235463557,276,3,23,191,223,3,47,13248,7186213,255,287,67520,1,0,3,47,13376,7974309,319,351,74432,1,0,3,95,1440,383,3232,1536,235489957,134924202948313039,87808,77670,274694,88384,90144,3,23,17248,91712,1] [⟨(some s16),(some (s14,true)),(.p (.bin .lss eI t15 (ci 100)))⟩,(oX s5 (.new 0 false false (.cells 400 [(vu 0),(vu 0),(vu 0),(vu 0),(vu 0),(vu 0),(vu 0),(vu 0),(vu 0),(vu 0),(vu 0),(vu 0),(vu 0),(vu 0),(vu 0),(vu 0),(vu 0),(vu 0),(vu 0),(vu 0),(vu 0),(vu 0),(vu 0),(vu 0)])) []),(oP s21 (.cvi .u64 t20)),(oP s25 (.un .neg t24)),(oP s30 (.sla 24 t5 (some (ci 1)) (some t29))),(oP s35 (.iaa 24 1 t5 (ci 0))),(oS 1 t35 (cu 45)),(oP s38 (.sla 24 t5 none (some t37))),(oR s39 (.b2s t38)),(oP s42 (.sla 24 t5 (some (ci 1)) (some t41))),(oR s43 (.b2s t42)),(oP s46 (.cvi .u64 t45))],1,[(.t s4)],none⟩
noncomputable def f236:FI:=⟨dF 43 [3,31,31,63,60768,3,3,23,5828,14114,5,3,23,124169317,19680,108,3,3,39,572900,21155,22568,123043877,148,3,31,95,2010289,127,1,0,47,573060,28195,79255561,739655,2430129,3,23,124027941,35168,196,0,3,31,159,1271985,191,1,3,95,864,148132,39458,33977362575,3744,36333472303,44864,36838,178598,45664,47072,3,3,23,13504,49324,292,3,31,223,3908785,255,1,0,3,63,573636,53539,12288,78714025,766407,4436145,60768,1] [(oX s4 (.box 0 false 61 5 t1) []),(oX s6 (.new 1 false false (.cells 61 [(vi 0),(vi 0),(vi 0),(.str []),vz])) []),(oP s19 (.bld [(vi 0),(vi 0),(vi 0),(.str []),vz] [])),(oM s7 (ci 51)),(oP s12 (.bld [(vi 0),(vi 0),(vi 0),(.str []),vz] [])),(oM s7 (ci 42)),(oP s37 (.bld [(vi 0),(vi 0),(vi 0),(.str []),vz] [])),(oM s7 (ci 42))],2,[(.c true 5 s6),(.t s7)],none⟩
end Go.Abs.Run
namespace Go.Abs.Run
open Go Go.Abs Go.Proofs
noncomputable def f237:FI:=⟨dF 45 [3,23,31,66464,3,79,448,1920,18747953807,23456,19270,170502,63,1836113,26208,3,3,23,13568,28012,164,3,31,95,2264241,65024,1,0,3,87,314663,2208,3680,3281408072047,38144,32550,183782,127,2913457,40672,3,3,31,16768,42728,43584,5,3,31,18304,134010341,48512,252,3,31,159,3662001,191,1,3,63,16992,18464,22734501,21674697,57442,197374917,60160,284,3,31,223,4522161,255,1,0,3,39,771783,509124943,4737201,66464,1] [(oX s6 (.new 0 false false (.cells 259 [vz,(vi 0),(.str []),(.str []),(vi 0)])) []),(oX s8 (.new 1 false false (.cells 406 [.nilp,.nilp])) []),(oP s21 (.bld [vz,(vi 0),(.str []),(.str []),(vi 0)] [])),(oX s10 (.new 2 false false (.cells 259 [vz,(vi 0),(.str []),(.str []),(vi 0)])) []),(oP s34 (.bld [vz,(vi 0),(.str []),(.str []),(vi 0)] [])),(oM s7 (ci 30)),(oP s42 (.bld [vz,(vi 0),(.str []),(.str []),(vi 0)] [])),(oM s7 (ci 31))],3,[(.c true 5 s6),(.t s7)],none⟩
noncomputable def f238:FI:=⟨dF 38 [3,15,31,3,3,63,1410,244647,63,4538405,95,131686,127,3,39,1602,244839,159,144687461,124,1,0,3,63,2946,20001,259588,22498,245063,191,98101509,180,47,4387,245191,223,255,2612273,3,63,3298,33729,273316,36226,245415,287,98711077,268,47,5955,245543,319,351,3717169,0] [(oX s5 (.box 0 false 324 2 t0) []),(oR s8 (.lku true [.i,.i] false (vi 0) t6 t7)),(oX s10 (.men true [.i,.i] (vi 0) t6 t7) []),(oY (.est true [.i,.i] t6 t11 t9) []),(oR s14 (.lku true [.i,.i] false (vi 0) t12 t13)),(oR s21 (.lku true [.i,.i] false (vi 0) t19 t20)),(oP s25 (.bsl 1 2 (.agg [(vi 0),(vi 0)]) [(0,t24)])),(oX s26 (.app 1 0 2 (.agg [(vi 0),(vi 0)]) 16 t23 t25) []),(oR s32 (.lku true [.i,.i] false (vi 0) t30 t31)),(oP s36 (.bsl 1 2 (.agg [(vi 0),(vi 0)]) [(0,t35)])),(oX s37 (.app 1 0 2 (.agg [(vi 0),(vi 0)]) 16 t34 t36) [])],1,[],none⟩
noncomputable def f239:FI:=⟨dF 156 [3,31,31,803840,788896,3,3,47,480,63,80418,150789505743,2044494181,156,3,63,640,2172199,186326800079,110566,1188870,114944,119968,1,0,3,3,127,800,125633,130660,135682,95,145730,1024,160801,165828,170850,127,180898,266152799088,172810,328271490127,2137291115,316,3,23,803840,788896,1,0,3,135,1280,200993,206020,211042,159,221090,1504,236161,241188,246210,191,256258,399264284880,247930,461382975919,229824,264800,3,15,803968,3,3,39,1728,223,276354,496879355823,5,3,23,2041455333,296384,468,103,41856,31904,402501961,311522,36992,402517033,326594,255,287,319,351,349696,3,23,2045768837,361696,572,3,39,32288,366792,401488997,374688,3,3,23,47360,786208,13,6,3,15,2411403077,3,628,0,10,3,21,3,23,386912,394688,119,42496,37536,52544,321732073,417026,32672,52672,326065257,437122,383,415,447,479,459520,23,168597797,466720,119,42944,32992,48000,336898217,487362,38112,48128,341231401,507458,511,543,575,607,529408,3,23,2042535173,542560,860,3,79,3520,639,557698,993828904111,567584,547782,1626086,569440,574464,3,31,58624,582824,787520,29,6,3,15,2455818213,3,956,0,26,3,37,3,47,592896,360725801,607939,599456,609472,3,127,43872,33920,68896,368313801,633058,39040,69024,372646985,653154,671,74144,703,735,767,679168,3,31,64288,74304,799,1116,127,44416,39456,69440,386729833,718466,34592,69568,391063017,738562,831,74688,863,895,927,764032,0,23,168804421,772544,0,3,31,44896,773888,793888,1] [(oX s3 (.box 0 false 324 2 t1) []),(oP s16 (.iaa 2 1 t3 (ci 1))),(oP s29 (.iaa 2 1 t3 (ci 0))),(oP s36 (.iaa 2 1 t3 (ci 1))),(oP s44 (.iaa 2 1 t3 (ci 0))),(oP s51 (.iaa 2 1 t3 (ci 1))),(oP s55 (.iaa 2 1 t3 (ci 0))),(oP s67 (.bld [(vi 0),(vi 0)] [(0,(1,t63)),(1,(1,t66))])),(oP s68 (.bld [(vi 0),(vi 0),(.str [])] [(0,(2,t67)),(2,(1,(.c (.str []))))])),(oP s69 (.bsl 1 3 (.agg [(vi 0),(vi 0),(.str [])]) [(0,t68)])),(oX s70 (.app 1 0 3 (.agg [(vi 0),(vi 0),(.str [])]) 32 t60 t69) []),(oP s89 (.bld [(vi 0),(vi 0)] [(0,(1,t84)),(1,(1,t88))])),(oP s90 (.bld [(vi 0),(vi 0),(.str [])] [(0,(2,t89)),(2,(1,(.c (.str []))))])),(oP s91 (.bsl 1 3 (.agg [(vi 0),(vi 0),(.str [])]) [(0,t90)])),(oX s92 (.app 1 0 3 (.agg [(vi 0),(vi 0),(.str [])]) 32 t80 t91) []),(oP s103 (.bld [(vi 0),(vi 0)] [(0,(1,t98)),(1,(1,t102))])),(oP s104 (.bld [(vi 0),(vi 0),(.str [])] [(0,(2,t103)),(2,(1,(.c (.str []))))])),(oP s105 (.bsl 1 3 (.agg [(vi 0),(vi 0),(.str [])]) [(0,t104)])),(oX s106 (.app 1 0 3 (.agg [(vi 0),(vi 0),(.str [])]) 32 t94 t105) []),(oP s111 (.iaa 2 1 t3 (ci 0))),(oP s132 (.bld [(vi 0),(vi 0)] [(0,(1,t127)),(1,(1,t131))])),(oP s134 (.bld [(vi 0),(vi 0),(.str [])] [(0,(2,t132)),(2,(1,t133))])),(oP s135 (.bsl 1 3 (.agg [(vi 0),(vi 0),(.str [])]) [(0,t134)])),(oX s136 (.app 1 0 3 (.agg [(vi 0),(vi 0),(.str [])]) 32 t123 t135) []),(oR s139 (.lku false [.s] false (.bool false) t137 t138)),(oP s149 (.bld [(vi 0),(vi 0)] [(0,(1,t144)),(1,(1,t148))])),(oP s151 (.bld [(vi 0),(vi 0),(.str [])] [(0,(2,t149)),(2,(1,t150))])),(oP s152 (.bsl 1 3 (.agg [(vi 0),(vi 0),(.str [])]) [(0,t151)])),(oX s153 (.app 1 0 3 (.agg [(vi 0),(vi 0),(.str [])]) 32 t140 t152) [])],1,[(.t s4),(.t s5)],none⟩
noncomputable def f240:FI:=⟨dF 2 [3,15,448,3,23,31,64,1] [(oP s1 (.bsl 25 1 (.str []) [(0,(.c (.str [116,121,112,101]))),(1,(.c (.str [109,101,116,104,111,100]))),(2,(.c (.str [102,117,110,99]))),(3,(.c (.str [109,97,105,110]))),(4,(.c (.str [105,110,116,101,114,102,97,99,101]))),(5,(.c (.str [101,109,98,101,100]))),(6,(.c (.str [105,110,116]))),(7,(.c (.str [98,111,111,108]))),(8,(.c (.str [116,101,120,116]))),(9,(.c (.str [102,110]))),(10,(.c (.str [108,101,116]))),(11,(.c (.str [112,114,105,110,116]))),(12,(.c (.str [105,102]))),(13,(.c (.str [101,108,115,101]))),(14,(.c (.str [119,104,105,108,101]))),(15,(.c (.str [114,101,116,117,114,110]))),(16,(.c (.str [110,105,108]))),(17,(.c (.str [110,101,119]))),(18,(.c (.str [116,111]))),(19,(.c (.str [97,110,100]))),(20,(.c (.str [111,114]))),(21,(.c (.str [110,111,116]))),(22,(.c (.str [116,114,117,101]))),(23,(.c (.str [102,97,108,115,101]))),(24,(.c (.str [115,101,108,102])))]))],0,[(.t s0)],none⟩
noncomputable def f241:FI:=⟨dF 73 [3,15,31,3,47,224,2592,20500652207,63,1231089,3,5,6,3,3,47,320,23713,958148,28450,353593765,116,0,2,13,3,47,2186983,95,127,159,2321649,3,47,576,346931663,14660,47396,2609201,3,21,3,31,768,288066751471,59136,188,3,71,832,61601,685348,66338,22748933,61729,694820,4118577,3,23,325764,13380657,3,39,1088,186451908111,947236,4803633,3,23,1184,229776936335,308,3,23,325956,13250609,63,1280,1879460,97123,3712,14663417572911,1879588,6038577,0,3,31,1504,229968301775,113600,372,3,23,326276,16665649,63,1600,1879780,120803,4032,18074118106991,1879908,7410737,3,31,1824,191,137280,452,3,71,1888,139745,763492,144482,22827077,139873,772964,8646705,3,23,326820,11916337,47,2144,187083416399,223,1259012,9468977,3,23,2187207,3000561,1,23,2191111,9674993,3,23,2188807,9810161,1] [(oX s4 (.new 0 false false (.cells 257 [(vi 0),(vi 0),(vi 0),(.str []),vz,vz,vz])) []),(oX s5 (.new 1 false false (.cells 257 [(vi 0),(vi 0),(vi 0),(.str []),vz,vz,vz])) []),(oP s16 (.bsl 1 7 (.agg [(vi 0),(vi 0),(vi 0),(.str []),vz,vz,vz]) [(0,t15)])),(oP s17 (.bld [(vi 0),(vi 0),(vi 0),(.str []),vz,vz,vz] [(6,(1,t16))])),(oX s6 (.new 2 false false (.cells 257 [(vi 0),(vi 0),(vi 0),(.str []),vz,vz,vz])) []),(oC s58 22 [t57,(.c (.str [116,111]))]),(oP s69 (.bsl 1 5 (.agg [(vi 0),(.str []),vz,vz,vz]) [(0,t68)]))],3,[(.c true 7 s4)],none⟩
noncomputable def f242:FI:=⟨dF 24 [3,15,19264,3,3,15,96,5,3,23,46580133,3968,36,3,15,18496,1,3,23,46386661,5568,52,3,15,23104,1,3,3,23,47870501,7168,68,0,23,47935045,7936,68,3,15,26944,1,3,3,23,47289989,9568,92,0,23,47999653,10336,92,3,15,24640,1,3,23,46193381,11968,116,3,15,25408,1,3,3,23,45870885,13568,132,0,23,47806277,14336,132,3,15,26176,1,3,3,23,45806469,15968,156,0,3,23,46516133,16736,156,0,3,23,46451653,17504,156,0,23,48064485,18272,156,3,15,28480,1,0,3,15,27712,1] [],0,[(.t s2)],none⟩
noncomputable def f243:FI:=⟨dF 16 [3,15,10304,3,3,15,96,5,3,23,25061029,2688,36,3,15,25664,1,3,23,25722597,3776,52,3,15,31,1,3,23,26150693,4864,68,3,15,26176,1,3,23,26072933,5952,84,3,15,63,1,3,23,26111909,7040,100,3,15,95,1,3,23,25178085,8128,116,3,15,127,1,0,3,15,159,1] [(oM s2 (.c (.str [43]))),(oM s2 (.c (.str [61,61]))),(oM s2 (.c (.str [60]))),(oM s2 (.c (.str [97,110,100]))),(oM s2 (.c (.str [111,114])))],0,[(.t s2)],none⟩
noncomputable def f244:FI:=⟨dF 39 [3,23,53728,50016,3,15,31,3,3,31,288,11560,50272,5,6,3,15,123566117,3,100,0,2,3,13,3,55,14144,50297353,512167,63,16384,1526929,3,63,502247,175436943,22976,20582,144166,23936,25216,3,3,23,10656,26924,180,3,23,53728,48768,1,0,3,3,23,42316687,95,196,10,0,3,3,23,7040,151753893,212,15,82026768975,0,23,9632,28383452143,23,4833221,37792,3,21,3,31,42316975,127,42176,252,3,23,53728,56256,1,3,39,1120,44840,159,47264,276,3,23,53728,62496,1,0,3,31,42247279,47488,50016,1] [(oX s4 (.new 0 false false (.cells 150 [.nilp,vz])) []),(oX s6 (.new 1 false false (.cells 116 [(vi 0),(vi 0),(.str []),(vi 0)])) []),(oQ s24 .gtr t23 (ci 65536)),(oQ s33 .gtr t32 (ci 65536)),(oQ s37 .gtr t36 (ci 4096))],2,[(.t s2),(.t s3)],none⟩
noncomputable def f245:FI:=⟨dF 117 [3,23,31,445664,3,3,135,3968,1016589861,30240,302,2658564,302,37795,302,41576,302,1133241829,1604401802,52896,494,2658756,494,60451,494,899331849,494,4706823,494,733471401967,494,75564,2542790730,180,3,15,445664,1,0,3,79,670916,86882,1015991365,94432,846,671044,846,101986,846,1019982597,3481198378,112480,3,79,671172,117090,1021323077,124640,1102,671300,1102,132194,1102,1022000869,4419594794,142464,3,5,3,79,671460,151074,1250647109,158624,1390,671588,1390,166178,1390,1493868709,5475290762,177216,316,3,15,445664,1,3,127,20288,1334468,188835,1136039851,63,200160,1742,20480,1742,207712,5550,1334692,5550,215267,5550,1783456303,5550,222828,1742,13998170250,7234769066,233664,388,3,15,445664,1,3,199,1997604,241699,245480,1485333061,253024,2190,1997764,2190,260579,2190,264360,2190,1016168837,2190,271904,6094,672548,6094,279458,6094,1133479717,6094,287008,2478,1998052,2478,294563,2478,664974409,2478,3615559,2478,735372438671,2478,309676,6094,9815362954,2190,14014139178,10049920874,324000,508,3,15,445664,1,3,3,79,25280,332332,336096,6638,3323844,6638,343651,6638,347432,6638,1486097701,14020830026,358464,700,0,87,673252,362530,1138864293,370080,6926,3986820,6926,377635,6926,381416,6926,1486131685,14026828202,392160,700,3,15,445664,1,0,3,111,3324292,396515,7168,195234341,589563426575,411616,7278,3987172,7278,419171,7278,7360,7278,195256997,7278,622319892431,14034822026,434432,1] [(oX s2 (.box 0 false 166 7 t0) []),(oP s53 (.bin .neq eB t49 t52))],1,[(.t s4)],none⟩
noncomputable def f246:FI:=⟨dF 177 [3,15,31,3,23,1359492,22818,5,3,23,2782757509,56928,76,71,352,62689,68388,2702180,79778,702421487,63,187558744431,3,23,2790812037,113888,156,71,672,119649,125348,4044868,136739,1167419215,95,297989526191,3,23,2797524197,170848,236,87,992,176609,182308,127,2702852,199394,366660233,210787,159,430413665327,3,23,2793497477,239200,332,63,1376,244961,250660,4045572,262051,191,529940567375,3,23,2794840133,290464,404,47,1664,296225,301924,223,607334913583,3,23,2796182725,330336,460,3,47,1888,336097,341796,255,684636460815,55,2048,5388548,370275,1830023561,7093511,750755737071,3,3,23,2800210245,404384,564,0,23,2798867909,410048,564,31,2336,9415943,817154622351,3,23,2816318853,438560,612,3,55,2496,8073732,450019,2466385737,9857991,496085805734575,63,2688,478497,484196,4046884,495587,287,982706772591,3,23,2814976965,524000,732,3,55,2976,8074212,535459,2466471177,9943431,496251451907215,3,63,3168,563937,569636,4047364,581027,319,1148352945231,47,3392,8074628,609507,351,1203569570863,3,23,2848536805,637920,892,3,3,55,8074820,643683,2466579401,1997444,660770,2816954533,948,55,3808,8075044,683555,2466619273,10091527,1358126271503,55,4000,8075236,717731,2466653449,10125703,496604830408847,47,4192,8075428,751907,383,1479646525263,3,23,2801554725,780320,1092,3,55,4416,8075652,791779,2466727497,10199751,496748390425135,3,47,4608,820257,825956,415,1623298105775,55,4768,5391268,854435,1830507721,7577671,1689417382031,3,3,23,2802897701,888544,1244,0,23,2843168773,894208,1244,3,3,31,1364420,900002,2803770085,1284,47,5152,917089,922788,447,1811030434767,47,5312,945569,951268,479,1866245825647,55,5472,8076708,979747,2466915465,10387719,489294173480527,31,192,9413799,77268407215] [(oX s3 (.box 0 false 257 7 t1) []),(oP s17 (.bsl 1 1 (.str []) [(0,t16)])),(oP s27 (.bsl 1 1 (.str []) [(0,t26)])),(oP s34 (.bsl 2 1 (.str []) [(0,(.c (.str [102,97,108,115,101]))),(1,(.c (.str [116,114,117,101])))])),(oP s39 (.bsl 1 1 (.str []) [(0,t38)])),(oP s48 (.bsl 1 1 (.str []) [(0,t47)])),(oP s55 (.bsl 1 1 (.str []) [(0,(.c (.str [115,101,108,102])))])),(oP s62 (.bsl 1 1 (.str []) [(0,(.c (.str [110,105,108])))])),(oP s89 (.bsl 2 1 (.str []) [(0,(.c (.str [46]))),(1,t88)])),(oP s104 (.bsl 2 1 (.str []) [(0,(.c (.str [46]))),(1,t103)])),(oP s109 (.sls false 7 t108 (some (ci 1)) none none)),(oP s134 (.sls false 7 t133 (some (ci 1)) none none)),(oP s147 (.bsl 1 1 (.str []) [(0,(.c (.str [116,111])))])),(oP s164 (.bsl 1 1 (.str []) [(0,(.c (.str [45])))])),(oP s169 (.bsl 1 1 (.str []) [(0,(.c (.str [110,111,116])))]))],1,[],none⟩
noncomputable def f247:FI:=⟨dF 24 [3,31,192,4840,19456,5,6,3,15,54648101,3,76,0,2,3,13,3,39,27616073,330599,31,951473,3,3,31,4228,9634,45426885,116,39,1248,68868,12835,63,0,39,262500,15235,1440,11225720783,23,1555173,17920] [(oX s5 (.new 0 false false (.cells 46 [(vi 0),(.str []),vz,vz,vz])) []),(oX s18 (.callv t15 [t17]) [])],1,[],none⟩
noncomputable def f248:FI:=⟨dF 16 [3,47,642,160,31,625893,63,3,39,770,288,95,24286565,92,47,1411,416,127,159,1169457,0] [(oR s6 (.lku false [.s] false (vi 0) t4 t5)),(oY (.mup false [.s] t4 t5 t7) []),(oR s10 (.lku false [.s] false (vi 0) t8 t9)),(oP s14 (.bsl 1 1 (.str []) [(0,t13)])),(oX s15 (.app 0 0 1 (.str []) 16 t12 t14) [])],0,[],none⟩
noncomputable def f257:FI:=⟨dF 28 [3,31,31,28800,27040,3,3,47,397255,63,81832079,11176,26432,5,6,3,15,70424293,3,124,0,2,3,13,3,31,8053769,14883,15456,3,71,608,6912,13059839535,19392,16838,95718,19968,20896,3,23,8832,22316,204,3,31,7104,23424,27936,1,0,23,2221157,24640,3,23,28800,27040,1] [(oX s3 (.box 0 false 46 5 t1) []),(oP s11 (.bsl 1 5 (.agg [(vi 0),(.str []),vz,vz,vz]) [(0,t10)]))],1,[(.t s4),(.t s5)],none⟩
noncomputable def f258:FI:=⟨dF 64 [3,31,31,139392,135328,3,3,39,1022340,24995,27080,133600,5,6,3,15,318487045,3,132,0,2,3,13,3,55,31264,161286729,1307239,63,35008,2419889,3,3,87,6788,41634,270756549,45792,2798,768772,2798,49955,2798,13120,2798,38144873,2798,56194,2085501866,236,3,71,992,1285127,67096888367,68544,62534,316518,69888,71968,3,119,17536,302277797,76992,3278,17632,3278,302791941,2088580394,85312,3406,17760,3406,302038405,3406,91552,1454,19904,1454,302298597,3406,1497140746,2090620458,396,3,63,515652,104035,13952,44801705,110275,110720,137376,1,0,0,3,71,1792,1285927,119525611343,120544,114534,368518,121152,123232,3,15,24480,492,3,31,22464,127104,137376,1,0,23,16285669,129504,3,23,139392,135328,1] [(oX s3 (.box 0 false 46 5 t1) []),(oX s7 (.new 1 false false (.cells 46 [(vi 0),(.str []),vz,vz,vz])) [])],2,[(.t s4),(.t s5)],none⟩
noncomputable def f259:FI:=⟨dF 36 [3,15,47424,3,3,23,2592,91580869,84,3,3,23,1504,31,100,3,55,416,1600,63,143050127,95,19776,1,0,3,15,127,3,31,1728,171362927,22144,3,39,9856,159,1856,20132188015,3,47,768,10016,191,223,31296,1,0,3,71,928,2112,3296,31580216538092815,37760,33318,143942,38016,3,23,1120,40512,1] [(oQ s12 .lss t11 (.c (.int .u64 (.ofNat 100)))),(oP s15 (.cvi .i64 t14)),(oX s17 (.app 0 0 1 (vu 0) 1 t13 t16) []),(oX s7 (.new 0 false false (.cells 400 [(vu 0),(vu 0),(vu 0),(vu 0),(vu 0),(vu 0),(vu 0),(vu 0),(vu 0),(vu 0),(vu 0),(vu 0),(vu 0),(vu 0),(vu 0),(vu 0),(vu 0),(vu 0),(vu 0),(vu 0),(vu 0),(vu 0),(vu 0),(vu 0)])) []),(oP s21 (.sla 24 t7 none (some t20))),(oP s26 (.sla 24 t7 none (some t25))),(oX s27 (.app 1 0 1 (vu 0) 1 t24 t26) [])],1,[(.t s6)],none⟩
noncomputable def f260:FI:=⟨dF 148 [3,15,715456,3,15,715488,5,6,13,3,39,10144,5440,226670437,109312,3,3,23,57600,2413580069,204,3,47,832,5600,10368,19872,10172091967830607,1,0,3,3,23,15200,1786112389,260,3,47,1056,5824,10592,20096,12627833592319407,1,0,3,3,23,48576,181228,316,3,47,1280,6048,10816,20320,15083575216808207,31,15648,350905925,217952,0,3,87,1536,6304,11072,20576,17890137073366159,247776,224294,1209414,251424,256192,3,3,23,68064,1791152261,452,3,47,1824,6592,11360,20864,21047519161993263,3,63,11456,350986981,63616,6816,269234245,270214629,317728,15,701376,0,3,3,71,49536,324256,6958,54336,30804030826,338560,7054,68640,7054,1785327557,30807985514,604,3,47,2432,7200,11968,21472,27713103571311887,644,1,0,0,3,3,143,7328,2605944005,391008,7406,21632,7406,2720,7406,7488,7406,351101413,7406,700802953,7406,3374887,7406,2880,7406,64480,7406,704767113,7406,3393959,31,7406,2196209381,7406,453004,30829710250,780,3,63,3136,7904,12672,64800,22208,7442649532546413167,488288,3,23,74368,492576,10,0,3,95,3392,8160,12928,65056,22464,8026414399019812335,529056,500870,1485990,530944,535712,3,23,84160,540256,3,71,79456,8448,319716901,13248,79584,322686469,554688,568928,3,31,60704,772885957,578432,3,31,89184,93952,2171720485,1004,3,39,89280,98784,2789384965,606528,3,55,4128,8896,79968,18432,23200,9704738390130612943,31,80096,146436741,644128,3,39,94368,99136,2800273381,658624,3,63,4480,80288,146465349,14048,18816,23584,10580385689801907279,23,80480,696256] [⟨(some s94),(some (s83,true)),(.e (.callv t84 [t89,t93]) [])⟩],0,[],none⟩
noncomputable def f262:FI:=⟨dF 19 [3,15,12288,3,3,31,192,3880,12416,5,6,3,15,38286661,3,76,0,2,3,13,3,23,5184,6240,3,55,960,384,3456,8221225,105063,31,132,3,23,3584,10464,1,0,23,918053,11200,3,15,24448,1] [(oX s16 (.callv t11 [t15]) [])],0,[(.t s4)],none⟩
noncomputable def f263:FI:=⟨dF 8 [3,23,31,2656,3,47,644,1187,451,9575915,1888,1] [(oX s2 (.box 0 false 244 2 t0) [])],1,[(.t s3)],none⟩
noncomputable def f264:FI:=⟨dF 135 [3,15,31,3,151,544,74017,78372,82722,87073,91428,95778,100129,104484,108834,2549668,117539,194156076463,125792,70086,912518,129792,134144,3,3,23,31264,139308,268,47,22692,990407,2549956,156707,50902591429231,0,3,3,39,1248,27200,277427990767,1600738469,340,31,22980,1029575,188204028091215,0,3,3,39,5077476,200227,204584,589088,5,6,3,15,1683328485,3,404,0,2,3,13,3,39,1191358281,6118791,63,10392817,111,6016,6048,235041,13717796,243747,1856,5937575,409217907376,897,95,127,230977,13752612,12445745,23,113937765,282368,3,71,2112,28064,464708912431,2208,28160,485517907567,294080,307072,3,3,39,4235908,313379,317736,589920,21,6,3,15,1705344037,3,612,0,18,3,29,3,31,227765833,335139,337376,3,39,45728,58720,554880519087,352556,660,39,24260,1203655,58880,159,0,23,114050789,378240,3,3,55,4236420,383011,387368,46112,396072,1720572581,748,31,24612,1251527,191,0,3,3,39,4236708,422179,426536,590720,37,6,3,15,1726512837,3,812,0,34,3,45,3,47,435264,248934665,448291,441088,449760,127,3360,7712,461345,13944100,470051,64000,257406441,483106,51136,46848,68480,797652273008,468346,262478313,509218,159567283311343,23,114159845,521600,3,47,8192,29824,526657,6432132,24487985,3,31,868004,544034,1438525189,1020,71,8416,8448,561441,7304996,570146,557217,6475652,26495025,0] [(oX s5 (.box 0 false 257 7 t2) []),(oX s9 (.new 1 false false (.cells 257 [(vi 0),(vi 0),(vi 0),(.str []),vz,vz,vz])) []),(oP s61 (.bsl 1 1 .nilp [(0,t60)])),(oX s62 (.app 2 0 1 .nilp 8 t57 t61) []),(oC s86 43 [t84,(ci 42),t85]),(oC s96 43 [t95,(ci 41),(.c (.str []))])],2,[],none⟩
noncomputable def f265:FI:=⟨dF 286 [3,223,224,64321,73508,82690,91873,57099716,31,119426,480,137793,146980,156162,165345,57173188,63,192898,736,211265,220452,229634,238817,57246660,95,266370,128256,201504,274752,3,47,10144,284737,293924,3469700,312290,5,3,23,9671093477,339776,292,47,10368,37856,349057,22533540,13859889,3,23,9705926181,394880,340,47,10560,47200,404161,22588644,15991857,3,23,9690093413,449984,388,47,10752,56544,459265,22643748,18123825,3,23,9696426789,505088,436,31,1792,10976,1482841206287,3,23,9699593541,551008,476,3,3,47,1952,560257,3736036,578627,9684026155,524,55,11264,606177,615364,624548,3800327,127,0,183,11488,2368,679649,688836,698018,707201,716388,725570,734753,743940,753122,2688,771489,3947268,789859,2263085915919,807680,661798,3828422,671009,23001924,31627313,3,23,9702761221,863264,748,3,3,63,3040,12224,881697,26223620,900066,2575275444239,10795830565,812,55,12416,936801,945988,955172,4130951,2611149136924335,0,71,12608,12640,1001089,26343012,1019458,992033,23203972,39798833,3,23,9750260805,1065312,924,3,31,3744,12928,3069798603119,3,3,55,12992,1102113,29610628,4287076,1129666,10767551653,1004,95,13184,1157217,1166404,1175588,4351367,13344,1203137,1212324,10721284,1230691,159,0,79,13536,13568,1267425,29775940,13952164,1294978,1258401,23479492,50458673,3,23,9747095173,1340832,1164,3,31,4704,13888,3850269449519,3,3,55,13952,1377633,29886148,4562596,1405186,9672186341,1244,95,14144,1432737,1441924,1451108,4626887,14304,1478657,1487844,10996804,1506211,191,0,71,5344,14528,14560,1552129,30060644,14236868,1579682,1557130310091791,3,23,9826260933,1616352,1404,3,3,103,5664,14848,1634785,52309444,1653155,2006115081,1671522,1680705,23856036,1699074,4838266032879,10809295941,1508,95,15200,1735809,52410468,1754179,2006216105,1772546,1781729,1790916,1800100,4975879,2611156034460207,0,103,6400,15584,15616,1855201,52529860,1873571,2006335497,1891938,1901121,24076452,1919490,1890081946765487,3,23,9715431397,1956160,1700,31,6848,16032,5593321024783,3,3,23,9718598149,2002080,1740,0,3,23,9734431141,2011232,1740,0,23,9823095749,2020384,1740,3,39,7072,16256,43744,2007309642420687,47,16352,43840,2066465,24250948,80306225,3,3,23,9813596293,2112288,1836,0,3,23,9743931301,2121440,1836,0,23,9753431109,2130592,1836,3,39,7456,16640,53280,2115327707108175,47,16736,53376,2176673,24361156,84570161,3,23,9788263941,2222496,1932,3,55,7776,16960,44448,62784,223,2223293740415119,111,17120,17152,2296033,52970692,2314403,2006776329,2332770,2341953,24517284,2360322,2287137,24544836,91676721,3,23,9816763909,2406176,2092,3,63,8416,17600,45088,63424,54304,255,2412299337923375,47,17792,54432,2479745,24664228,96295985,3,23,9819930917,2525568,2196,3,55,8832,18016,45504,63840,287,2520343418305711,47,18176,54816,2589953,24774436,100559921,0] [(oP s13 (.iaa 3 1 t12 (ci 0))),(oP s21 (.iaa 3 1 t20 (ci 1))),(oP s29 (.iaa 3 1 t28 (ci 2))),(oC s71 43 [t70,(ci 45),(.c (.str []))]),(oC s136 43 [t130,(ci 42),t135]),(oC s166 43 [t160,(ci 42),t165]),(oP s247 (.bsl 2 1 (vi 0) [(0,t245),(1,t246)])),(oP s268 (.bsl 3 1 (vi 0) [(0,t265),(1,t266),(2,t267)])),(oP s280 (.bsl 2 1 (vi 0) [(0,t278),(1,t279)]))],0,[],none⟩
noncomputable def f266:FI:=⟨dF 26 [3,15,23488,3,151,320,8673,9540,10402,11265,12132,12994,13857,86276,15586,1472,2336,1070449332879,18592,8230,79814,19360,20224,3,23,6624,20992,1] [],0,[(.t s6)],none⟩
noncomputable def f270:FI:=⟨dF 6 [3,15,1600,3,39,96,128,7578603,1024,1] [],0,[(.t s2)],none⟩
noncomputable def f271:FI:=⟨dF 15 [3,15,9184,3,3,23,96,28405573,36,3,47,160,192,543109,31,3904,1,0,3,63,288,6160645,352,6161669,762181,63,6784,1] [(oP s8 (.sls true 0 (.c (.str [48,49,50,51,52,53,54,55,56,57,97,98,99,100,101,102,103,104,105,106,107,108,109,110,111,112,113,114,115,116,117,118,119,120,121,122])) (some t5) (some t7) none)),(oP s14 (.sls true 0 (.c (.str [48,48,48,49,48,50,48,51,48,52,48,53,48,54,48,55,48,56,48,57,49,48,49,49,49,50,49,51,49,52,49,53,49,54,49,55,49,56,49,57,50,48,50,49,50,50,50,51,50,52,50,53,50,54,50,55,50,56,50,57,51,48,51,49,51,50,51,51,51,52,51,53,51,54,51,55,51,56,51,57,52,48,52,49,52,50,52,51,52,52,52,53,52,54,52,55,52,56,52,57,53,48,53,49,53,50,53,51,53,52,53,53,53,54,53,55,53,56,53,57,54,48,54,49,54,50,54,51,54,52,54,53,54,54,54,55,54,56,54,57,55,48,55,49,55,50,55,51,55,52,55,53,55,54,55,55,55,56,55,57,56,48,56,49,56,50,56,51,56,52,56,53,56,54,56,55,56,56,56,57,57,48,57,49,57,50,57,51,57,52,57,53,57,54,57,55,57,56,57,57])) (some t10) (some t13) none))],0,[(.t s2)],none⟩
noncomputable def f272:FI:=⟨dF 15 [3,15,7744,3,39,128,16318735,20304207,2976,3,79,1664,256,1728,31,5154,35500229,47830031,471813,6784,1] [(oP s10 (.iaa 20 1 (.c (.vp g2 0)) t9))],0,[(.t s2)],none⟩
noncomputable def f273:FI:=⟨dF 167 [3,31,544,91432,96320,3,5,6,3,3,23,21984,3797067621,164,0,2,13,3,39,6016,31,63,123072,3,31,6112,95,133632,3,55,27552,127,27616,159,144480,155200,3,71,38368,1068891845,799591685,38464,1344278949,799607813,171264,187328,3,71,33216,1068924101,799623941,33312,1344311205,799640069,203392,219456,3,127,1344,22752,478187877,1440,22848,485482533,49632,250154213,60420877,49728,62847117,328973001,11676721,332628329,12142641,3,127,1760,23168,491601733,1856,23264,487978597,44704,250224101,76191437,44800,78617677,344813033,14711857,348468361,15177777,3,127,2176,23584,489245445,2272,23680,490474661,61152,250293989,91961997,61248,94388237,360653065,17746993,364308393,18212913,3,127,2592,24000,494167685,2688,24096,492970725,56224,250363877,107732557,56320,110158797,376493097,20782129,380148425,21248049,31,24384,493019109,507808,3,31,8416,191,518752,3,3,23,24512,3792639973,796,3,31,67328,223,540160,3,31,67392,255,550816,3,71,72800,1069289669,799989509,72896,1344676773,800005637,566912,582976,3,127,3520,24928,478553445,3616,25024,485848101,83872,250519781,142913037,83968,145339277,411828553,27552817,415483881,28018737,3,127,3936,25344,491967301,4032,25440,488344165,78944,250589669,158683597,79040,161109837,427668585,30587953,431323913,31053873,31,25728,488392549,732256,0,3,3,23,25792,3790428837,1116,3,39,68608,1344854181,800183045,759360,3,31,68704,1069499333,769920,3,127,4640,26048,478741605,4736,26144,486036261,90336,250707941,185372237,90432,187798477,454474793,35724337,458130121,36190257,31,26432,486084645,849824,0,3,23,26496,3509110693,1292,55,5184,69344,287,319,480040809,38523953,0] [(oQ s22 .rem t21 (.c (.int .u64 (.ofNat 100000000)))),(oP s23 (.cvi .u32 t22)),(oQ s25 .quo t24 (.c (.int .u64 (.ofNat 100000000)))),(oQ s27 .quo t26 (.c (.int .u32 (.ofNat 10000)))),(oQ s29 .rem t28 (.c (.int .u32 (.ofNat 10000)))),(oP s97 (.cvi .u32 t96)),(oQ s101 .rem t100 (.c (.int .u32 (.ofNat 10000)))),(oQ s103 .quo t102 (.c (.int .u32 (.ofNat 10000)))),(oQ s164 .add (.c (.int .u32 (.ofNat 48))) t163),(oP s165 (.cvi .u8 t164))],0,[],none⟩
noncomputable def f274:FI:=⟨dF 102 [3,23,349568,346336,3,3,87,7136,913773765,65952,686,7232,686,751980645,2025779530,79136,814,7360,31,2368434378,228,23,63,95,0,3,15,127,3,15,159,3,3,15,10752,244,31,4256,191,104480,0,3,3,23,7584,886758095,276,3,47,7648,223,966977519,255,124480,3,31,7776,287,131040,3,39,7840,319,351,140864,3,5,6,3,3,31,4672,50400,1137525061,372,0,2,13,3,31,43936,139749701,157088,3,63,44000,4864,53856,455434117,383,415,8847409,39,5024,47488,447,186080,3,31,44288,139785957,192992,47,44352,5216,479,511,10349617,3,31,8576,543,212704,3,21,6,3,3,31,5376,57632,1149230469,548,0,18,29,3,31,44640,139822213,228896,3,39,5536,57792,295286629,238848,3,79,44800,5664,61184,57952,212286533,127151653,575,607,13354033,23,61376,267680,3,31,45088,139868357,274592,47,45152,6016,639,671,14522417,3,3,15,12640,716,3,31,45312,139891429,297440,31,45376,703,735,0,3,3,15,16064,756,3,47,3040,45504,767,799,320192,1,0,3,39,45600,831,863,330016,1] [⟨(some s27),(some (s25,false)),(.p (.bin .gtr eI t26 (ci 36)))⟩,(oP s29 (.ifc 9 (.c (.str [115,116,114,99,111,110,118,58,32,105,108,108,101,103,97,108,32,65,112,112,101,110,100,73,110,116,47,70,111,114,109,97,116,73,110,116,32,98,97,115,101])))),(oY (.pan t29) []),(oX s12 (.new 0 false false (.cells 435 [(vu 0),(vu 0),(vu 0),(vu 0),(vu 0),(vu 0),(vu 0),(vu 0),(vu 0),(vu 0),(vu 0),(vu 0),(vu 0),(vu 0),(vu 0),(vu 0),(vu 0),(vu 0),(vu 0),(vu 0),(vu 0),(vu 0),(vu 0),(vu 0),(vu 0),(vu 0),(vu 0),(vu 0),(vu 0),(vu 0),(vu 0),(vu 0),(vu 0),(vu 0),(vu 0),(vu 0),(vu 0),(vu 0),(vu 0),(vu 0),(vu 0),(vu 0),(vu 0),(vu 0),(vu 0),(vu 0),(vu 0),(vu 0),(vu 0),(vu 0),(vu 0),(vu 0),(vu 0),(vu 0),(vu 0),(vu 0),(vu 0),(vu 0),(vu 0),(vu 0),(vu 0),(vu 0),(vu 0),(vu 0),(vu 0)])) []),(oM s13 (ci 65)),(oP s32 (.un .neg t31)),(oP s36 (.cvi .u64 t35)),(oP s38 (.cvi .u64 t37)),(oP s40 (.cvi .u64 t39)),(oP s42 (.cvi .u64 t41)),(oQ s43 .sub t42 (.c (.int .u64 (.ofNat 1)))),(oP s53 (.ixs (.c (.str [48,49,50,51,52,53,54,55,56,57,97,98,99,100,101,102,103,104,105,106,107,108,109,110,111,112,113,114,115,116,117,118,119,120,121,122])) t52)),(oP s54 (.iaa 65 1 t12 t49)),(oQ s57 .shr t55 t56),(oP s62 (.ixs (.c (.str [48,49,50,51,52,53,54,55,56,57,97,98,99,100,101,102,103,104,105,106,107,108,109,110,111,112,113,114,115,116,117,118,119,120,121,122])) t61)),(oP s63 (.iaa 65 1 t12 t60)),(oP s65 (.cvi .u64 t64)),(oP s80 (.ixs (.c (.str [48,49,50,51,52,53,54,55,56,57,97,98,99,100,101,102,103,104,105,106,107,108,109,110,111,112,113,114,115,116,117,118,119,120,121,122])) t79)),(oP s81 (.iaa 65 1 t12 t74)),(oP s87 (.ixs (.c (.str [48,49,50,51,52,53,54,55,56,57,97,98,99,100,101,102,103,104,105,106,107,108,109,110,111,112,113,114,115,116,117,118,119,120,121,122])) t86)),(oP s88 (.iaa 65 1 t12 t85)),(oP s93 (.iaa 65 1 t12 t92)),(oS 1 t93 (cu 45)),(oP s97 (.sla 65 t12 (some t96) none)),(oX s98 (.app 1 0 1 (vu 0) 1 t95 t97) []),(oP s100 (.sla 65 t12 (some t99) none)),(oR s101 (.b2s t100))],1,[(.t s10),(.t s11)],none⟩
end Go.Abs.Run
