/- On the way to: ValuePlain returns true; its listed variables read as the text lays them. -/
import Derived.Test.YtihoajjpninnoaaGreatDoorA1
import Derived.Test.YtihoajjpninnoaaGreatDoorProg
namespace Go.Abs.Run
open Go Go.Abs Go.Proofs
def s0:Pth:=.e
def s1:Pth:=(.l .e)
def s2:Pth:=(.r .e)
def s3:Pth:=(.l (.l .e))
def s4:Pth:=(.r (.l .e))
def s5:Pth:=(.l (.r .e))
def s6:Pth:=(.r (.r .e))
def s7:Pth:=(.l (.l (.l .e)))
def s8:Pth:=(.r (.l (.l .e)))
def s9:Pth:=(.l (.r (.l .e)))
def s10:Pth:=(.r (.r (.l .e)))
def s11:Pth:=(.l (.l (.r .e)))
def s12:Pth:=(.r (.l (.r .e)))
def s13:Pth:=(.l (.r (.r .e)))
def s14:Pth:=(.r (.r (.r .e)))
def s15:Pth:=(.l (.l (.l (.l .e))))
def s16:Pth:=(.r (.l (.l (.l .e))))
def s17:Pth:=(.l (.r (.l (.l .e))))
def s18:Pth:=(.r (.r (.l (.l .e))))
def s19:Pth:=(.l (.l (.r (.l .e))))
def s20:Pth:=(.r (.l (.r (.l .e))))
def s21:Pth:=(.l (.r (.r (.l .e))))
def s22:Pth:=(.r (.r (.r (.l .e))))
def s23:Pth:=(.l (.l (.l (.r .e))))
def s24:Pth:=(.r (.l (.l (.r .e))))
def s25:Pth:=(.l (.r (.l (.r .e))))
def s26:Pth:=(.r (.r (.l (.r .e))))
def s27:Pth:=(.l (.l (.r (.r .e))))
def s28:Pth:=(.r (.l (.r (.r .e))))
def s29:Pth:=(.l (.r (.r (.r .e))))
def s30:Pth:=(.r (.r (.r (.r .e))))
def s31:Pth:=(.l (.l (.l (.l (.l .e)))))
def s32:Pth:=(.r (.l (.l (.l (.l .e)))))
def s33:Pth:=(.l (.r (.l (.l (.l .e)))))
def s34:Pth:=(.r (.r (.l (.l (.l .e)))))
def s35:Pth:=(.l (.l (.r (.l (.l .e)))))
def s36:Pth:=(.r (.l (.r (.l (.l .e)))))
def s37:Pth:=(.l (.r (.r (.l (.l .e)))))
def s38:Pth:=(.r (.r (.r (.l (.l .e)))))
def s39:Pth:=(.l (.l (.l (.r (.l .e)))))
def s40:Pth:=(.r (.l (.l (.r (.l .e)))))
def s41:Pth:=(.l (.r (.l (.r (.l .e)))))
def s42:Pth:=(.r (.r (.l (.r (.l .e)))))
def s43:Pth:=(.l (.l (.r (.r (.l .e)))))
def s44:Pth:=(.r (.l (.r (.r (.l .e)))))
def s45:Pth:=(.l (.r (.r (.r (.l .e)))))
def s46:Pth:=(.r (.r (.r (.r (.l .e)))))
def s47:Pth:=(.l (.l (.l (.l (.r .e)))))
def s48:Pth:=(.r (.l (.l (.l (.r .e)))))
def s49:Pth:=(.l (.r (.l (.l (.r .e)))))
def s50:Pth:=(.r (.r (.l (.l (.r .e)))))
def s51:Pth:=(.l (.l (.r (.l (.r .e)))))
def s52:Pth:=(.r (.l (.r (.l (.r .e)))))
def s53:Pth:=(.l (.r (.r (.l (.r .e)))))
def s54:Pth:=(.r (.r (.r (.l (.r .e)))))
def s55:Pth:=(.l (.l (.l (.r (.r .e)))))
def s56:Pth:=(.r (.l (.l (.r (.r .e)))))
def s57:Pth:=(.l (.r (.l (.r (.r .e)))))
def s58:Pth:=(.r (.r (.l (.r (.r .e)))))
def s59:Pth:=(.l (.l (.r (.r (.r .e)))))
def s60:Pth:=(.r (.l (.r (.r (.r .e)))))
def s61:Pth:=(.l (.r (.r (.r (.r .e)))))
def s62:Pth:=(.r (.r (.r (.r (.r .e)))))
def s63:Pth:=(.l (.l (.l (.l (.l (.l .e))))))
def s64:Pth:=(.r (.l (.l (.l (.l (.l .e))))))
def s65:Pth:=(.l (.r (.l (.l (.l (.l .e))))))
def s66:Pth:=(.r (.r (.l (.l (.l (.l .e))))))
def s67:Pth:=(.l (.l (.r (.l (.l (.l .e))))))
def s68:Pth:=(.r (.l (.r (.l (.l (.l .e))))))
def s69:Pth:=(.l (.r (.r (.l (.l (.l .e))))))
def s70:Pth:=(.r (.r (.r (.l (.l (.l .e))))))
def s71:Pth:=(.l (.l (.l (.r (.l (.l .e))))))
def s72:Pth:=(.r (.l (.l (.r (.l (.l .e))))))
def s73:Pth:=(.l (.r (.l (.r (.l (.l .e))))))
def s74:Pth:=(.r (.r (.l (.r (.l (.l .e))))))
def s75:Pth:=(.l (.l (.r (.r (.l (.l .e))))))
def s76:Pth:=(.r (.l (.r (.r (.l (.l .e))))))
def s77:Pth:=(.l (.r (.r (.r (.l (.l .e))))))
def s78:Pth:=(.r (.r (.r (.r (.l (.l .e))))))
def s79:Pth:=(.l (.l (.l (.l (.r (.l .e))))))
def s80:Pth:=(.r (.l (.l (.l (.r (.l .e))))))
def s81:Pth:=(.l (.r (.l (.l (.r (.l .e))))))
def s82:Pth:=(.r (.r (.l (.l (.r (.l .e))))))
def s83:Pth:=(.l (.l (.r (.l (.r (.l .e))))))
def s84:Pth:=(.r (.l (.r (.l (.r (.l .e))))))
def s85:Pth:=(.l (.r (.r (.l (.r (.l .e))))))
def s86:Pth:=(.r (.r (.r (.l (.r (.l .e))))))
def s87:Pth:=(.l (.l (.l (.r (.r (.l .e))))))
def s88:Pth:=(.r (.l (.l (.r (.r (.l .e))))))
def s89:Pth:=(.l (.r (.l (.r (.r (.l .e))))))
def s90:Pth:=(.r (.r (.l (.r (.r (.l .e))))))
def s91:Pth:=(.l (.l (.r (.r (.r (.l .e))))))
def s92:Pth:=(.r (.l (.r (.r (.r (.l .e))))))
def s93:Pth:=(.l (.r (.r (.r (.r (.l .e))))))
def s94:Pth:=(.r (.r (.r (.r (.r (.l .e))))))
def s95:Pth:=(.l (.l (.l (.l (.l (.r .e))))))
def s96:Pth:=(.r (.l (.l (.l (.l (.r .e))))))
def s97:Pth:=(.l (.r (.l (.l (.l (.r .e))))))
def s98:Pth:=(.r (.r (.l (.l (.l (.r .e))))))
def s99:Pth:=(.l (.l (.r (.l (.l (.r .e))))))
def s100:Pth:=(.r (.l (.r (.l (.l (.r .e))))))
def s101:Pth:=(.l (.r (.r (.l (.l (.r .e))))))
def s102:Pth:=(.r (.r (.r (.l (.l (.r .e))))))
def s103:Pth:=(.l (.l (.l (.r (.l (.r .e))))))
def s104:Pth:=(.r (.l (.l (.r (.l (.r .e))))))
def s105:Pth:=(.l (.r (.l (.r (.l (.r .e))))))
def s106:Pth:=(.r (.r (.l (.r (.l (.r .e))))))
def s107:Pth:=(.l (.l (.r (.r (.l (.r .e))))))
def s108:Pth:=(.r (.l (.r (.r (.l (.r .e))))))
def s109:Pth:=(.l (.r (.r (.r (.l (.r .e))))))
def s110:Pth:=(.r (.r (.r (.r (.l (.r .e))))))
def s111:Pth:=(.l (.l (.l (.l (.r (.r .e))))))
def s112:Pth:=(.r (.l (.l (.l (.r (.r .e))))))
def s113:Pth:=(.l (.r (.l (.l (.r (.r .e))))))
def s114:Pth:=(.r (.r (.l (.l (.r (.r .e))))))
def s115:Pth:=(.l (.l (.r (.l (.r (.r .e))))))
def s116:Pth:=(.r (.l (.r (.l (.r (.r .e))))))
def s117:Pth:=(.l (.r (.r (.l (.r (.r .e))))))
def s118:Pth:=(.r (.r (.r (.l (.r (.r .e))))))
def s119:Pth:=(.l (.l (.l (.r (.r (.r .e))))))
def s120:Pth:=(.r (.l (.l (.r (.r (.r .e))))))
def s121:Pth:=(.l (.r (.l (.r (.r (.r .e))))))
def s122:Pth:=(.r (.r (.l (.r (.r (.r .e))))))
def s123:Pth:=(.l (.l (.r (.r (.r (.r .e))))))
def s124:Pth:=(.r (.l (.r (.r (.r (.r .e))))))
def s125:Pth:=(.l (.r (.r (.r (.r (.r .e))))))
def s126:Pth:=(.r (.r (.r (.r (.r (.r .e))))))
def s127:Pth:=(.l (.l (.l (.l (.l (.l (.l .e)))))))
def s128:Pth:=(.r (.l (.l (.l (.l (.l (.l .e)))))))
def s129:Pth:=(.l (.r (.l (.l (.l (.l (.l .e)))))))
def s130:Pth:=(.r (.r (.l (.l (.l (.l (.l .e)))))))
def s131:Pth:=(.l (.l (.r (.l (.l (.l (.l .e)))))))
def s132:Pth:=(.r (.l (.r (.l (.l (.l (.l .e)))))))
def s133:Pth:=(.l (.r (.r (.l (.l (.l (.l .e)))))))
def s134:Pth:=(.r (.r (.r (.l (.l (.l (.l .e)))))))
def s135:Pth:=(.l (.l (.l (.r (.l (.l (.l .e)))))))
def s136:Pth:=(.r (.l (.l (.r (.l (.l (.l .e)))))))
def s137:Pth:=(.l (.r (.l (.r (.l (.l (.l .e)))))))
def s138:Pth:=(.r (.r (.l (.r (.l (.l (.l .e)))))))
def s139:Pth:=(.l (.l (.r (.r (.l (.l (.l .e)))))))
def s140:Pth:=(.r (.l (.r (.r (.l (.l (.l .e)))))))
def s141:Pth:=(.l (.r (.r (.r (.l (.l (.l .e)))))))
def s142:Pth:=(.r (.r (.r (.r (.l (.l (.l .e)))))))
def s143:Pth:=(.l (.l (.l (.l (.r (.l (.l .e)))))))
def s144:Pth:=(.r (.l (.l (.l (.r (.l (.l .e)))))))
def s145:Pth:=(.l (.r (.l (.l (.r (.l (.l .e)))))))
def s146:Pth:=(.r (.r (.l (.l (.r (.l (.l .e)))))))
def s147:Pth:=(.l (.l (.r (.l (.r (.l (.l .e)))))))
def s148:Pth:=(.r (.l (.r (.l (.r (.l (.l .e)))))))
def s149:Pth:=(.l (.r (.r (.l (.r (.l (.l .e)))))))
def s150:Pth:=(.r (.r (.r (.l (.r (.l (.l .e)))))))
def s151:Pth:=(.l (.l (.l (.r (.r (.l (.l .e)))))))
def s152:Pth:=(.r (.l (.l (.r (.r (.l (.l .e)))))))
def s153:Pth:=(.l (.r (.l (.r (.r (.l (.l .e)))))))
def s154:Pth:=(.r (.r (.l (.r (.r (.l (.l .e)))))))
def s155:Pth:=(.l (.l (.r (.r (.r (.l (.l .e)))))))
def s156:Pth:=(.r (.l (.r (.r (.r (.l (.l .e)))))))
def s157:Pth:=(.l (.r (.r (.r (.r (.l (.l .e)))))))
def s158:Pth:=(.r (.r (.r (.r (.r (.l (.l .e)))))))
def s159:Pth:=(.l (.l (.l (.l (.l (.r (.l .e)))))))
def s160:Pth:=(.r (.l (.l (.l (.l (.r (.l .e)))))))
def s161:Pth:=(.l (.r (.l (.l (.l (.r (.l .e)))))))
def s162:Pth:=(.r (.r (.l (.l (.l (.r (.l .e)))))))
def s163:Pth:=(.l (.l (.r (.l (.l (.r (.l .e)))))))
def s164:Pth:=(.r (.l (.r (.l (.l (.r (.l .e)))))))
def s165:Pth:=(.l (.r (.r (.l (.l (.r (.l .e)))))))
def s166:Pth:=(.r (.r (.r (.l (.l (.r (.l .e)))))))
def s167:Pth:=(.l (.l (.l (.r (.l (.r (.l .e)))))))
def s168:Pth:=(.r (.l (.l (.r (.l (.r (.l .e)))))))
def s169:Pth:=(.l (.r (.l (.r (.l (.r (.l .e)))))))
def s170:Pth:=(.r (.r (.l (.r (.l (.r (.l .e)))))))
def s171:Pth:=(.l (.l (.r (.r (.l (.r (.l .e)))))))
def s172:Pth:=(.r (.l (.r (.r (.l (.r (.l .e)))))))
def s173:Pth:=(.l (.r (.r (.r (.l (.r (.l .e)))))))
def s174:Pth:=(.r (.r (.r (.r (.l (.r (.l .e)))))))
def s175:Pth:=(.l (.l (.l (.l (.r (.r (.l .e)))))))
def s176:Pth:=(.r (.l (.l (.l (.r (.r (.l .e)))))))
def s177:Pth:=(.l (.r (.l (.l (.r (.r (.l .e)))))))
def s178:Pth:=(.r (.r (.l (.l (.r (.r (.l .e)))))))
def s179:Pth:=(.l (.l (.r (.l (.r (.r (.l .e)))))))
def s180:Pth:=(.r (.l (.r (.l (.r (.r (.l .e)))))))
def s181:Pth:=(.l (.r (.r (.l (.r (.r (.l .e)))))))
def s182:Pth:=(.r (.r (.r (.l (.r (.r (.l .e)))))))
def s183:Pth:=(.l (.l (.l (.r (.r (.r (.l .e)))))))
def s184:Pth:=(.r (.l (.l (.r (.r (.r (.l .e)))))))
def s185:Pth:=(.l (.r (.l (.r (.r (.r (.l .e)))))))
def s186:Pth:=(.r (.r (.l (.r (.r (.r (.l .e)))))))
def s187:Pth:=(.l (.l (.r (.r (.r (.r (.l .e)))))))
def s188:Pth:=(.r (.l (.r (.r (.r (.r (.l .e)))))))
def s189:Pth:=(.l (.r (.r (.r (.r (.r (.l .e)))))))
def s190:Pth:=(.r (.r (.r (.r (.r (.r (.l .e)))))))
def s191:Pth:=(.l (.l (.l (.l (.l (.l (.r .e)))))))
def s192:Pth:=(.r (.l (.l (.l (.l (.l (.r .e)))))))
def s193:Pth:=(.l (.r (.l (.l (.l (.l (.r .e)))))))
def s194:Pth:=(.r (.r (.l (.l (.l (.l (.r .e)))))))
def s195:Pth:=(.l (.l (.r (.l (.l (.l (.r .e)))))))
def s196:Pth:=(.r (.l (.r (.l (.l (.l (.r .e)))))))
def s197:Pth:=(.l (.r (.r (.l (.l (.l (.r .e)))))))
def s198:Pth:=(.r (.r (.r (.l (.l (.l (.r .e)))))))
def s199:Pth:=(.l (.l (.l (.r (.l (.l (.r .e)))))))
def s200:Pth:=(.r (.l (.l (.r (.l (.l (.r .e)))))))
def s201:Pth:=(.l (.r (.l (.r (.l (.l (.r .e)))))))
def s202:Pth:=(.r (.r (.l (.r (.l (.l (.r .e)))))))
def s203:Pth:=(.l (.l (.r (.r (.l (.l (.r .e)))))))
def s204:Pth:=(.r (.l (.r (.r (.l (.l (.r .e)))))))
def s205:Pth:=(.l (.r (.r (.r (.l (.l (.r .e)))))))
def s206:Pth:=(.r (.r (.r (.r (.l (.l (.r .e)))))))
def s207:Pth:=(.l (.l (.l (.l (.r (.l (.r .e)))))))
def s208:Pth:=(.r (.l (.l (.l (.r (.l (.r .e)))))))
def s209:Pth:=(.l (.r (.l (.l (.r (.l (.r .e)))))))
def s210:Pth:=(.r (.r (.l (.l (.r (.l (.r .e)))))))
def s211:Pth:=(.l (.l (.r (.l (.r (.l (.r .e)))))))
def s212:Pth:=(.r (.l (.r (.l (.r (.l (.r .e)))))))
def s213:Pth:=(.l (.r (.r (.l (.r (.l (.r .e)))))))
def s214:Pth:=(.r (.r (.r (.l (.r (.l (.r .e)))))))
def s215:Pth:=(.l (.l (.l (.r (.r (.l (.r .e)))))))
def s216:Pth:=(.r (.l (.l (.r (.r (.l (.r .e)))))))
def s217:Pth:=(.l (.r (.l (.r (.r (.l (.r .e)))))))
def s218:Pth:=(.r (.r (.l (.r (.r (.l (.r .e)))))))
def s219:Pth:=(.l (.l (.r (.r (.r (.l (.r .e)))))))
def s220:Pth:=(.r (.l (.r (.r (.r (.l (.r .e)))))))
def s221:Pth:=(.l (.r (.r (.r (.r (.l (.r .e)))))))
def s222:Pth:=(.r (.r (.r (.r (.r (.l (.r .e)))))))
def s223:Pth:=(.l (.l (.l (.l (.l (.r (.r .e)))))))
def s224:Pth:=(.r (.l (.l (.l (.l (.r (.r .e)))))))
def s225:Pth:=(.l (.r (.l (.l (.l (.r (.r .e)))))))
def s226:Pth:=(.r (.r (.l (.l (.l (.r (.r .e)))))))
def s227:Pth:=(.l (.l (.r (.l (.l (.r (.r .e)))))))
def s228:Pth:=(.r (.l (.r (.l (.l (.r (.r .e)))))))
def s229:Pth:=(.l (.r (.r (.l (.l (.r (.r .e)))))))
def s230:Pth:=(.r (.r (.r (.l (.l (.r (.r .e)))))))
def s231:Pth:=(.l (.l (.l (.r (.l (.r (.r .e)))))))
def s232:Pth:=(.r (.l (.l (.r (.l (.r (.r .e)))))))
def s233:Pth:=(.l (.r (.l (.r (.l (.r (.r .e)))))))
def s234:Pth:=(.r (.r (.l (.r (.l (.r (.r .e)))))))
def s235:Pth:=(.l (.l (.r (.r (.l (.r (.r .e)))))))
def s236:Pth:=(.r (.l (.r (.r (.l (.r (.r .e)))))))
def s237:Pth:=(.l (.r (.r (.r (.l (.r (.r .e)))))))
def s238:Pth:=(.r (.r (.r (.r (.l (.r (.r .e)))))))
def s239:Pth:=(.l (.l (.l (.l (.r (.r (.r .e)))))))
def s240:Pth:=(.r (.l (.l (.l (.r (.r (.r .e)))))))
def s241:Pth:=(.l (.r (.l (.l (.r (.r (.r .e)))))))
def s242:Pth:=(.r (.r (.l (.l (.r (.r (.r .e)))))))
def s243:Pth:=(.l (.l (.r (.l (.r (.r (.r .e)))))))
def s244:Pth:=(.r (.l (.r (.l (.r (.r (.r .e)))))))
def s245:Pth:=(.l (.r (.r (.l (.r (.r (.r .e)))))))
def s246:Pth:=(.r (.r (.r (.l (.r (.r (.r .e)))))))
def s247:Pth:=(.l (.l (.l (.r (.r (.r (.r .e)))))))
def s248:Pth:=(.r (.l (.l (.r (.r (.r (.r .e)))))))
def s249:Pth:=(.l (.r (.l (.r (.r (.r (.r .e)))))))
def s250:Pth:=(.r (.r (.l (.r (.r (.r (.r .e)))))))
def s251:Pth:=(.l (.l (.r (.r (.r (.r (.r .e)))))))
def s252:Pth:=(.r (.l (.r (.r (.r (.r (.r .e)))))))
def s253:Pth:=(.l (.r (.r (.r (.r (.r (.r .e)))))))
def s254:Pth:=(.r (.r (.r (.r (.r (.r (.r .e)))))))
def s255:Pth:=(.l (.l (.l (.l (.l (.l (.l (.l .e))))))))
def s256:Pth:=(.r (.l (.l (.l (.l (.l (.l (.l .e))))))))
def s257:Pth:=(.l (.r (.l (.l (.l (.l (.l (.l .e))))))))
def s258:Pth:=(.r (.r (.l (.l (.l (.l (.l (.l .e))))))))
def s259:Pth:=(.l (.l (.r (.l (.l (.l (.l (.l .e))))))))
def s260:Pth:=(.r (.l (.r (.l (.l (.l (.l (.l .e))))))))
def s261:Pth:=(.l (.r (.r (.l (.l (.l (.l (.l .e))))))))
def s262:Pth:=(.r (.r (.r (.l (.l (.l (.l (.l .e))))))))
def s263:Pth:=(.l (.l (.l (.r (.l (.l (.l (.l .e))))))))
def s264:Pth:=(.r (.l (.l (.r (.l (.l (.l (.l .e))))))))
def s265:Pth:=(.l (.r (.l (.r (.l (.l (.l (.l .e))))))))
def s266:Pth:=(.r (.r (.l (.r (.l (.l (.l (.l .e))))))))
def s267:Pth:=(.l (.l (.r (.r (.l (.l (.l (.l .e))))))))
def s268:Pth:=(.r (.l (.r (.r (.l (.l (.l (.l .e))))))))
def s269:Pth:=(.l (.r (.r (.r (.l (.l (.l (.l .e))))))))
def s270:Pth:=(.r (.r (.r (.r (.l (.l (.l (.l .e))))))))
def s271:Pth:=(.l (.l (.l (.l (.r (.l (.l (.l .e))))))))
def s272:Pth:=(.r (.l (.l (.l (.r (.l (.l (.l .e))))))))
def s273:Pth:=(.l (.r (.l (.l (.r (.l (.l (.l .e))))))))
def t0:AX:=.t s0
def t1:AX:=.t s1
def t2:AX:=.t s2
def t3:AX:=.t s3
def t4:AX:=.t s4
def t5:AX:=.t s5
def t6:AX:=.t s6
def t7:AX:=.t s7
def t8:AX:=.t s8
def t9:AX:=.t s9
def t10:AX:=.t s10
def t11:AX:=.t s11
def t12:AX:=.t s12
def t13:AX:=.t s13
def t14:AX:=.t s14
def t15:AX:=.t s15
def t16:AX:=.t s16
def t17:AX:=.t s17
def t18:AX:=.t s18
def t19:AX:=.t s19
def t20:AX:=.t s20
def t21:AX:=.t s21
def t22:AX:=.t s22
def t23:AX:=.t s23
def t24:AX:=.t s24
def t25:AX:=.t s25
def t26:AX:=.t s26
def t27:AX:=.t s27
def t28:AX:=.t s28
def t29:AX:=.t s29
def t30:AX:=.t s30
def t31:AX:=.t s31
def t32:AX:=.t s32
def t33:AX:=.t s33
def t34:AX:=.t s34
def t35:AX:=.t s35
def t36:AX:=.t s36
def t37:AX:=.t s37
def t38:AX:=.t s38
def t39:AX:=.t s39
def t40:AX:=.t s40
def t41:AX:=.t s41
def t42:AX:=.t s42
def t43:AX:=.t s43
def t44:AX:=.t s44
def t45:AX:=.t s45
def t46:AX:=.t s46
def t47:AX:=.t s47
def t48:AX:=.t s48
def t49:AX:=.t s49
def t50:AX:=.t s50
def t51:AX:=.t s51
def t52:AX:=.t s52
def t53:AX:=.t s53
def t54:AX:=.t s54
def t55:AX:=.t s55
def t56:AX:=.t s56
def t57:AX:=.t s57
def t58:AX:=.t s58
def t59:AX:=.t s59
def t60:AX:=.t s60
def t61:AX:=.t s61
def t62:AX:=.t s62
def t63:AX:=.t s63
def t64:AX:=.t s64
def t65:AX:=.t s65
def t66:AX:=.t s66
def t67:AX:=.t s67
def t68:AX:=.t s68
def t69:AX:=.t s69
def t70:AX:=.t s70
def t71:AX:=.t s71
def t72:AX:=.t s72
def t73:AX:=.t s73
def t74:AX:=.t s74
def t75:AX:=.t s75
def t76:AX:=.t s76
def t77:AX:=.t s77
def t78:AX:=.t s78
def t79:AX:=.t s79
def t80:AX:=.t s80
def t81:AX:=.t s81
def t82:AX:=.t s82
def t83:AX:=.t s83
def t84:AX:=.t s84
def t85:AX:=.t s85
def t86:AX:=.t s86
def t87:AX:=.t s87
def t88:AX:=.t s88
def t89:AX:=.t s89
def t90:AX:=.t s90
def t91:AX:=.t s91
def t92:AX:=.t s92
def t93:AX:=.t s93
def t94:AX:=.t s94
def t95:AX:=.t s95
def t96:AX:=.t s96
def t97:AX:=.t s97
def t98:AX:=.t s98
def t99:AX:=.t s99
def t100:AX:=.t s100
def t101:AX:=.t s101
def t102:AX:=.t s102
def t103:AX:=.t s103
def t104:AX:=.t s104
def t105:AX:=.t s105
def t106:AX:=.t s106
def t107:AX:=.t s107
def t108:AX:=.t s108
def t109:AX:=.t s109
def t110:AX:=.t s110
def t111:AX:=.t s111
def t112:AX:=.t s112
def t113:AX:=.t s113
def t114:AX:=.t s114
def t115:AX:=.t s115
def t116:AX:=.t s116
def t117:AX:=.t s117
def t118:AX:=.t s118
def t119:AX:=.t s119
def t120:AX:=.t s120
def t121:AX:=.t s121
def t122:AX:=.t s122
def t123:AX:=.t s123
def t124:AX:=.t s124
def t125:AX:=.t s125
def t126:AX:=.t s126
def t127:AX:=.t s127
def t128:AX:=.t s128
def t129:AX:=.t s129
def t130:AX:=.t s130
def t131:AX:=.t s131
def t132:AX:=.t s132
def t133:AX:=.t s133
def t134:AX:=.t s134
def t135:AX:=.t s135
def t136:AX:=.t s136
def t137:AX:=.t s137
def t138:AX:=.t s138
def t139:AX:=.t s139
def t140:AX:=.t s140
def t141:AX:=.t s141
def t142:AX:=.t s142
def t143:AX:=.t s143
def t144:AX:=.t s144
def t145:AX:=.t s145
def t146:AX:=.t s146
def t147:AX:=.t s147
def t148:AX:=.t s148
def t149:AX:=.t s149
def t150:AX:=.t s150
def t151:AX:=.t s151
def t152:AX:=.t s152
def t153:AX:=.t s153
def t154:AX:=.t s154
def t155:AX:=.t s155
def t156:AX:=.t s156
def t157:AX:=.t s157
def t158:AX:=.t s158
def t159:AX:=.t s159
def t160:AX:=.t s160
def t161:AX:=.t s161
def t162:AX:=.t s162
def t163:AX:=.t s163
def t164:AX:=.t s164
def t165:AX:=.t s165
def t166:AX:=.t s166
def t167:AX:=.t s167
def t168:AX:=.t s168
def t169:AX:=.t s169
def t170:AX:=.t s170
def t171:AX:=.t s171
def t172:AX:=.t s172
def t173:AX:=.t s173
def t174:AX:=.t s174
def t175:AX:=.t s175
def t176:AX:=.t s176
def t177:AX:=.t s177
def t178:AX:=.t s178
def t179:AX:=.t s179
def t180:AX:=.t s180
def t181:AX:=.t s181
def t182:AX:=.t s182
def t183:AX:=.t s183
def t184:AX:=.t s184
def t185:AX:=.t s185
def t186:AX:=.t s186
def t187:AX:=.t s187
def t188:AX:=.t s188
def t189:AX:=.t s189
def t190:AX:=.t s190
def t191:AX:=.t s191
def t192:AX:=.t s192
def t193:AX:=.t s193
def t194:AX:=.t s194
def t195:AX:=.t s195
def t196:AX:=.t s196
def t197:AX:=.t s197
def t198:AX:=.t s198
def t199:AX:=.t s199
def t200:AX:=.t s200
def t201:AX:=.t s201
def t202:AX:=.t s202
def t203:AX:=.t s203
def t204:AX:=.t s204
def t205:AX:=.t s205
def t206:AX:=.t s206
def t207:AX:=.t s207
def t208:AX:=.t s208
def t209:AX:=.t s209
def t210:AX:=.t s210
def t211:AX:=.t s211
def t212:AX:=.t s212
def t213:AX:=.t s213
def t214:AX:=.t s214
def t215:AX:=.t s215
def t216:AX:=.t s216
def t217:AX:=.t s217
def t218:AX:=.t s218
def t219:AX:=.t s219
def t220:AX:=.t s220
def t221:AX:=.t s221
def t222:AX:=.t s222
def t223:AX:=.t s223
def t224:AX:=.t s224
def t225:AX:=.t s225
def t226:AX:=.t s226
def t227:AX:=.t s227
def t228:AX:=.t s228
def t229:AX:=.t s229
def t230:AX:=.t s230
def t231:AX:=.t s231
def t232:AX:=.t s232
def t233:AX:=.t s233
def t234:AX:=.t s234
def t235:AX:=.t s235
def t236:AX:=.t s236
def t237:AX:=.t s237
def t238:AX:=.t s238
def t239:AX:=.t s239
def t240:AX:=.t s240
def t241:AX:=.t s241
def t242:AX:=.t s242
def t243:AX:=.t s243
def t244:AX:=.t s244
def t245:AX:=.t s245
def t246:AX:=.t s246
def t247:AX:=.t s247
def t248:AX:=.t s248
def t249:AX:=.t s249
def t250:AX:=.t s250
def t251:AX:=.t s251
def t252:AX:=.t s252
def t253:AX:=.t s253
def t254:AX:=.t s254
def t255:AX:=.t s255
def t256:AX:=.t s256
def t257:AX:=.t s257
def t258:AX:=.t s258
def t259:AX:=.t s259
def t260:AX:=.t s260
def t261:AX:=.t s261
def t262:AX:=.t s262
def t263:AX:=.t s263
def t264:AX:=.t s264
def t265:AX:=.t s265
def t266:AX:=.t s266
def t267:AX:=.t s267
def t268:AX:=.t s268
def t269:AX:=.t s269
def t270:AX:=.t s270
def t271:AX:=.t s271
def t272:AX:=.t s272
def t273:AX:=.t s273
def vi (n:Nat):AV:=.int .i64 (.ofNat n)
def vj (n:Nat):AV:=.int .i64 (.negSucc n)
def vu (n:Nat):AV:=.int .u8 (.ofNat n)
def vz:AV:=.sl 1 0 []
def ci (n:Nat):AX:=.c (.int .i64 (.ofNat n))
def cu (n:Nat):AX:=.c (.int .u8 (.ofNat n))
def eI:EqK:=.cells false [.i]
def eS:EqK:=.cells false [.s]
def eB:EqK:=.cells false [.b]
def oM (d:Pth) (x:AX):AO:=⟨some d,none,.p (.mov x)⟩
def oN (d:Pth) (x:AX):AO:=⟨some d,none,.p (.nilc x)⟩
def oF (d:Pth) (n:Nat) (x:AX):AO:=⟨some d,none,.p (.fad n x)⟩
def oE (d:Pth) (x:AX) (n:Nat):AO:=⟨some d,none,.p (.ext x n)⟩
def oQ (d:Pth) (o:BinOp) (x y:AX):AO:=⟨some d,none,.p (.bin o (.cells false [.i]) x y)⟩
def oP (d:Pth) (o:PO):AO:=⟨some d,none,.p o⟩
def oG (d:Pth) (x:AX):AO:=⟨some d,none,.r (.ldc x)⟩
def oL (d:Pth) (x:AX):AO:=⟨some d,none,.r (.ld false 1 x)⟩
def oR (d:Pth) (o:RO):AO:=⟨some d,none,.r o⟩
def oC (d:Pth) (f:Nat) (l:List AX):AO:=⟨some d,none,.e (.call f l) []⟩
def oX (d:Pth) (o:EO) (w:List WX):AO:=⟨some d,none,.e o w⟩
def oS (n:Nat) (a x:AX):AO:=⟨none,none,.e (.st n a x) []⟩
def oY (o:EO) (w:List WX):AO:=⟨none,none,.e o w⟩
def n2:List Nat:=[1,10,100,1000,10000,100000,1000000,10000000,100000000,1000000000,10000000000,100000000000,1000000000000,10000000000000,100000000000000,1000000000000000,10000000000000000,100000000000000000,1000000000000000000,10000000000000000000]
def g2:List AV:=[.int .u64 (.ofNat 1),.int .u64 (.ofNat 10),.int .u64 (.ofNat 100),.int .u64 (.ofNat 1000),.int .u64 (.ofNat 10000),.int .u64 (.ofNat 100000),.int .u64 (.ofNat 1000000),.int .u64 (.ofNat 10000000),.int .u64 (.ofNat 100000000),.int .u64 (.ofNat 1000000000),.int .u64 (.ofNat 10000000000),.int .u64 (.ofNat 100000000000),.int .u64 (.ofNat 1000000000000),.int .u64 (.ofNat 10000000000000),.int .u64 (.ofNat 100000000000000),.int .u64 (.ofNat 1000000000000000),.int .u64 (.ofNat 10000000000000000),.int .u64 (.ofNat 100000000000000000),.int .u64 (.ofNat 1000000000000000000),.int .u64 (.ofNat 10000000000000000000)]
set_option maxRecDepth 100000 in
theorem g2_eq:g2=n2.map fun m=>.int .u64 (.ofNat m):=rfl
def n3:List Nat:=[0,0,0,0,0,0,0,0,0,1,1,1,1,1,0,0,0,0,0,0,0,0,0,0,0,0,0,0,0,0,0,0,1,0,0,0,0,0,0,0,0,0,0,0,0,0,0,0,0,0,0,0,0,0,0,0,0,0,0,0,0,0,0,0,0,0,0,0,0,0,0,0,0,0,0,0,0,0,0,0,0,0,0,0,0,0,0,0,0,0,0,0,0,0,0,0,0,0,0,0,0,0,0,0,0,0,0,0,0,0,0,0,0,0,0,0,0,0,0,0,0,0,0,0,0,0,0,0,0,0,0,0,0,0,0,0,0,0,0,0,0,0,0,0,0,0,0,0,0,0,0,0,0,0,0,0,0,0,0,0,0,0,0,0,0,0,0,0,0,0,0,0,0,0,0,0,0,0,0,0,0,0,0,0,0,0,0,0,0,0,0,0,0,0,0,0,0,0,0,0,0,0,0,0,0,0,0,0,0,0,0,0,0,0,0,0,0,0,0,0,0,0,0,0,0,0,0,0,0,0,0,0,0,0,0,0,0,0,0,0,0,0,0,0,0,0,0,0,0,0,0,0,0,0,0,0]
def g3:List AV:=[.int .u8 (.ofNat 0),.int .u8 (.ofNat 0),.int .u8 (.ofNat 0),.int .u8 (.ofNat 0),.int .u8 (.ofNat 0),.int .u8 (.ofNat 0),.int .u8 (.ofNat 0),.int .u8 (.ofNat 0),.int .u8 (.ofNat 0),.int .u8 (.ofNat 1),.int .u8 (.ofNat 1),.int .u8 (.ofNat 1),.int .u8 (.ofNat 1),.int .u8 (.ofNat 1),.int .u8 (.ofNat 0),.int .u8 (.ofNat 0),.int .u8 (.ofNat 0),.int .u8 (.ofNat 0),.int .u8 (.ofNat 0),.int .u8 (.ofNat 0),.int .u8 (.ofNat 0),.int .u8 (.ofNat 0),.int .u8 (.ofNat 0),.int .u8 (.ofNat 0),.int .u8 (.ofNat 0),.int .u8 (.ofNat 0),.int .u8 (.ofNat 0),.int .u8 (.ofNat 0),.int .u8 (.ofNat 0),.int .u8 (.ofNat 0),.int .u8 (.ofNat 0),.int .u8 (.ofNat 0),.int .u8 (.ofNat 1),.int .u8 (.ofNat 0),.int .u8 (.ofNat 0),.int .u8 (.ofNat 0),.int .u8 (.ofNat 0),.int .u8 (.ofNat 0),.int .u8 (.ofNat 0),.int .u8 (.ofNat 0),.int .u8 (.ofNat 0),.int .u8 (.ofNat 0),.int .u8 (.ofNat 0),.int .u8 (.ofNat 0),.int .u8 (.ofNat 0),.int .u8 (.ofNat 0),.int .u8 (.ofNat 0),.int .u8 (.ofNat 0),.int .u8 (.ofNat 0),.int .u8 (.ofNat 0),.int .u8 (.ofNat 0),.int .u8 (.ofNat 0),.int .u8 (.ofNat 0),.int .u8 (.ofNat 0),.int .u8 (.ofNat 0),.int .u8 (.ofNat 0),.int .u8 (.ofNat 0),.int .u8 (.ofNat 0),.int .u8 (.ofNat 0),.int .u8 (.ofNat 0),.int .u8 (.ofNat 0),.int .u8 (.ofNat 0),.int .u8 (.ofNat 0),.int .u8 (.ofNat 0),.int .u8 (.ofNat 0),.int .u8 (.ofNat 0),.int .u8 (.ofNat 0),.int .u8 (.ofNat 0),.int .u8 (.ofNat 0),.int .u8 (.ofNat 0),.int .u8 (.ofNat 0),.int .u8 (.ofNat 0),.int .u8 (.ofNat 0),.int .u8 (.ofNat 0),.int .u8 (.ofNat 0),.int .u8 (.ofNat 0),.int .u8 (.ofNat 0),.int .u8 (.ofNat 0),.int .u8 (.ofNat 0),.int .u8 (.ofNat 0),.int .u8 (.ofNat 0),.int .u8 (.ofNat 0),.int .u8 (.ofNat 0),.int .u8 (.ofNat 0),.int .u8 (.ofNat 0),.int .u8 (.ofNat 0),.int .u8 (.ofNat 0),.int .u8 (.ofNat 0),.int .u8 (.ofNat 0),.int .u8 (.ofNat 0),.int .u8 (.ofNat 0),.int .u8 (.ofNat 0),.int .u8 (.ofNat 0),.int .u8 (.ofNat 0),.int .u8 (.ofNat 0),.int .u8 (.ofNat 0),.int .u8 (.ofNat 0),.int .u8 (.ofNat 0),.int .u8 (.ofNat 0),.int .u8 (.ofNat 0),.int .u8 (.ofNat 0),.int .u8 (.ofNat 0),.int .u8 (.ofNat 0),.int .u8 (.ofNat 0),.int .u8 (.ofNat 0),.int .u8 (.ofNat 0),.int .u8 (.ofNat 0),.int .u8 (.ofNat 0),.int .u8 (.ofNat 0),.int .u8 (.ofNat 0),.int .u8 (.ofNat 0),.int .u8 (.ofNat 0),.int .u8 (.ofNat 0),.int .u8 (.ofNat 0),.int .u8 (.ofNat 0),.int .u8 (.ofNat 0),.int .u8 (.ofNat 0),.int .u8 (.ofNat 0),.int .u8 (.ofNat 0),.int .u8 (.ofNat 0),.int .u8 (.ofNat 0),.int .u8 (.ofNat 0),.int .u8 (.ofNat 0),.int .u8 (.ofNat 0),.int .u8 (.ofNat 0),.int .u8 (.ofNat 0),.int .u8 (.ofNat 0),.int .u8 (.ofNat 0),.int .u8 (.ofNat 0),.int .u8 (.ofNat 0),.int .u8 (.ofNat 0),.int .u8 (.ofNat 0),.int .u8 (.ofNat 0),.int .u8 (.ofNat 0),.int .u8 (.ofNat 0),.int .u8 (.ofNat 0),.int .u8 (.ofNat 0),.int .u8 (.ofNat 0),.int .u8 (.ofNat 0),.int .u8 (.ofNat 0),.int .u8 (.ofNat 0),.int .u8 (.ofNat 0),.int .u8 (.ofNat 0),.int .u8 (.ofNat 0),.int .u8 (.ofNat 0),.int .u8 (.ofNat 0),.int .u8 (.ofNat 0),.int .u8 (.ofNat 0),.int .u8 (.ofNat 0),.int .u8 (.ofNat 0),.int .u8 (.ofNat 0),.int .u8 (.ofNat 0),.int .u8 (.ofNat 0),.int .u8 (.ofNat 0),.int .u8 (.ofNat 0),.int .u8 (.ofNat 0),.int .u8 (.ofNat 0),.int .u8 (.ofNat 0),.int .u8 (.ofNat 0),.int .u8 (.ofNat 0),.int .u8 (.ofNat 0),.int .u8 (.ofNat 0),.int .u8 (.ofNat 0),.int .u8 (.ofNat 0),.int .u8 (.ofNat 0),.int .u8 (.ofNat 0),.int .u8 (.ofNat 0),.int .u8 (.ofNat 0),.int .u8 (.ofNat 0),.int .u8 (.ofNat 0),.int .u8 (.ofNat 0),.int .u8 (.ofNat 0),.int .u8 (.ofNat 0),.int .u8 (.ofNat 0),.int .u8 (.ofNat 0),.int .u8 (.ofNat 0),.int .u8 (.ofNat 0),.int .u8 (.ofNat 0),.int .u8 (.ofNat 0),.int .u8 (.ofNat 0),.int .u8 (.ofNat 0),.int .u8 (.ofNat 0),.int .u8 (.ofNat 0),.int .u8 (.ofNat 0),.int .u8 (.ofNat 0),.int .u8 (.ofNat 0),.int .u8 (.ofNat 0),.int .u8 (.ofNat 0),.int .u8 (.ofNat 0),.int .u8 (.ofNat 0),.int .u8 (.ofNat 0),.int .u8 (.ofNat 0),.int .u8 (.ofNat 0),.int .u8 (.ofNat 0),.int .u8 (.ofNat 0),.int .u8 (.ofNat 0),.int .u8 (.ofNat 0),.int .u8 (.ofNat 0),.int .u8 (.ofNat 0),.int .u8 (.ofNat 0),.int .u8 (.ofNat 0),.int .u8 (.ofNat 0),.int .u8 (.ofNat 0),.int .u8 (.ofNat 0),.int .u8 (.ofNat 0),.int .u8 (.ofNat 0),.int .u8 (.ofNat 0),.int .u8 (.ofNat 0),.int .u8 (.ofNat 0),.int .u8 (.ofNat 0),.int .u8 (.ofNat 0),.int .u8 (.ofNat 0),.int .u8 (.ofNat 0),.int .u8 (.ofNat 0),.int .u8 (.ofNat 0),.int .u8 (.ofNat 0),.int .u8 (.ofNat 0),.int .u8 (.ofNat 0),.int .u8 (.ofNat 0),.int .u8 (.ofNat 0),.int .u8 (.ofNat 0),.int .u8 (.ofNat 0),.int .u8 (.ofNat 0),.int .u8 (.ofNat 0),.int .u8 (.ofNat 0),.int .u8 (.ofNat 0),.int .u8 (.ofNat 0),.int .u8 (.ofNat 0),.int .u8 (.ofNat 0),.int .u8 (.ofNat 0),.int .u8 (.ofNat 0),.int .u8 (.ofNat 0),.int .u8 (.ofNat 0),.int .u8 (.ofNat 0),.int .u8 (.ofNat 0),.int .u8 (.ofNat 0),.int .u8 (.ofNat 0),.int .u8 (.ofNat 0),.int .u8 (.ofNat 0),.int .u8 (.ofNat 0),.int .u8 (.ofNat 0),.int .u8 (.ofNat 0),.int .u8 (.ofNat 0),.int .u8 (.ofNat 0),.int .u8 (.ofNat 0),.int .u8 (.ofNat 0),.int .u8 (.ofNat 0),.int .u8 (.ofNat 0),.int .u8 (.ofNat 0),.int .u8 (.ofNat 0),.int .u8 (.ofNat 0),.int .u8 (.ofNat 0),.int .u8 (.ofNat 0),.int .u8 (.ofNat 0),.int .u8 (.ofNat 0),.int .u8 (.ofNat 0)]
set_option maxRecDepth 100000 in
theorem g3_eq:g3=n3.map fun m=>.int .u8 (.ofNat m):=rfl
def gvs (g:Nat):Option (List AV):=cond (Nat.beq g 4) (some g3) (cond (Nat.beq g 1) (some g2) (none))
instance glob:Glob where
 gv:=gvs
 u8:=fun t=>u8B Tryz.prog t=true
end Go.Abs.Run
namespace Go.Abs.Run
open Go Go.Abs Go.Proofs
def b3x0:AC:=(.seq (.seq (.reg [oM s110 t15,oM s111 t1,oP s112 (.len true t111),oQ s113 .lss t110 t112]) (.cond t113
 .skip
 (.exit 2))) (.seq (.blk 3 (.reg [oM s116 t14,oM s117 t116,⟨some s118,some (s117,true),(.p (.mov t1))⟩,⟨some s119,some (s117,true),(.p (.mov t15))⟩,⟨some s120,some (s117,true),(.p (.ixs t118 t119))⟩,⟨some s121,some (s117,true),(.p (.bin .eql eI t120 (cu 10)))⟩,⟨some s122,some (s117,true),(.p (.mov t121))⟩,⟨some s123,some (s122,false),(.p (.mov t1))⟩,⟨some s124,some (s122,false),(.p (.mov t15))⟩,⟨some s125,some (s122,false),(.p (.ixs t123 t124))⟩,⟨some s126,some (s122,false),(.p (.bin .geq eI t125 (cu 32)))⟩,⟨some s127,some (s122,false),(.p (.mov t126))⟩,⟨some s128,some (s127,true),(.p (.mov t1))⟩,⟨some s129,some (s127,true),(.p (.mov t15))⟩,⟨some s130,some (s127,true),(.p (.ixs t128 t129))⟩,⟨some s131,some (s127,true),(.p (.bin .leq eI t130 (cu 126)))⟩,⟨some s132,some (s122,false),(.p (.pick t127 t131 (.c (.bool false))))⟩,⟨some s133,some (s117,true),(.p (.pick t122 (.c (.bool true)) t132))⟩,oP s134 (.pick t117 t133 (.c (.bool false))),oM s14 t134])) (.reg [oM s114 t15,oQ s115 .add t114 (ci 1),oM s15 t115])))
def b3x1:AC:=(.seq (.seq (.reg [oM s72 t11,oM s73 t9,oP s74 (.len true t73),oQ s75 .lss t72 t74]) (.cond t75
 .skip
 (.exit 0))) (.seq (.blk 1 (.seq (.seq (.reg [oM s78 t9,oM s79 t11,oP s80 (.ixs t78 t79),oQ s81 .lss t80 (cu 48),oM s82 t81,⟨some s83,some (s82,false),(.p (.mov t9))⟩,⟨some s84,some (s82,false),(.p (.mov t11))⟩,⟨some s85,some (s82,false),(.p (.ixs t83 t84))⟩,⟨some s86,some (s82,false),(.p (.bin .gtr eI t85 (cu 57)))⟩,oP s87 (.pick t82 (.c (.bool true)) t86)]) (.cond t87
 (.seq (.reg [oM s4 (.c (.bool false))]) .ret)
 .skip)) (.reg [oM s88 t10,oQ s89 .mul t88 (ci 10),oM s90 t9,oM s91 t11,oP s92 (.ixs t90 t91),oQ s93 .sub t92 (cu 48),oP s94 (.cvi .i64 t93),oQ s95 .add t89 t94,oM s10 t95]))) (.reg [oM s76 t11,oQ s77 .add t76 (ci 1),oM s11 t77])))
def f3:FI:=⟨(.seq (.reg [oM s4 (.c (.bool false))]) (.seq (.reg [oP s20 (.bld [vz,vz] []),oP s21 (.bld [(vi 0),(.str []),vz,vz,vz] [(0,1,(ci 1))]),oP s22 (.bld [(vi 0),(.str []),vz,vz,vz] [(0,1,(ci 3))]),oP s23 (.bld [(vi 0),(.str []),vz,vz,vz] [(0,1,(ci 2))]),oP s24 (.bsl 3 5 (.agg [(vi 0),(.str []),vz,vz,vz]) [(0,t21),(1,t22),(2,t23)]),oC s25 4 [t20,t24],oM s19 t25,oE s26 t19 0,oE s27 t19 1,oM s5 t26,oM s6 t27]) (.seq (.seq (.reg [oM s28 t6,oP s29 (.bin .eql .ptr t28 (.c .nilp)),oM s30 t29,⟨some s31,some (s30,false),(.p (.mov t5))⟩,⟨some s32,some (s30,false),(.p (.bin .eql .ptr t31 (.c .nilp)))⟩,oP s33 (.pick t30 (.c (.bool true)) t32),oM s34 t33,⟨some s35,some (s34,false),(.p (.mov t5))⟩,⟨some s36,some (s34,false),(.e (.call 5 [t35]) [])⟩,⟨some s37,some (s34,false),(.p (.bin .neq eI t36 (ci 3)))⟩,oP s38 (.pick t34 (.c (.bool true)) t37)]) (.cond t38
 (.seq (.reg [oM s4 (.c (.bool false))]) .ret)
 .skip)) (.seq (.seq (.reg [oM s39 t1,oP s40 (.len true t39),oQ s41 .gtr t40 (ci 5000)]) (.cond t41
 (.reg [oM s42 t1,oP s43 (.sls true 0 t42 none (some (ci 5000)) none),oM s1 t43])
 .skip)) (.seq (.reg [oM s45 t5,oM s46 t0,oP s47 (.bld [(vi 0),(vi 0),(vi 0),(.str []),vz] [(0,1,(ci 1)),(2,1,t46)]),oC s48 6 [t45,t47],oM s44 t48,oE s49 t44 0,oE s50 t44 1,oM s7 t49,oM s8 t50]) (.seq (.seq (.reg [oM s51 t8,oQ s52 .neq t51 (ci 0),oM s53 t52,⟨some s54,some (s53,false),(.p (.mov t7))⟩,⟨some s55,some (s53,false),(.p (.len true t54))⟩,⟨some s56,some (s53,false),(.p (.bin .eql eI t55 (ci 0)))⟩,oP s57 (.pick t53 (.c (.bool true)) t56),oM s58 t57,⟨some s59,some (s58,false),(.p (.mov t0))⟩,⟨some s60,some (s58,false),(.p (.bin .lss eI t59 (ci 0)))⟩,⟨some s61,some (s58,false),(.p (.mov t60))⟩,⟨some s62,some (s61,true),(.p (.mov t7))⟩,⟨some s63,some (s61,true),(.p (.ixs t62 (ci 0)))⟩,⟨some s64,some (s61,true),(.p (.bin .neq eI t63 (cu 45)))⟩,⟨some s65,some (s58,false),(.p (.pick t61 t64 (.c (.bool false))))⟩,oP s66 (.pick t58 (.c (.bool true)) t65)]) (.cond t66
 (.seq (.reg [oM s4 (.c (.bool false))]) .ret)
 .skip)) (.seq (.reg [oM s67 t7,oM s9 t67]) (.seq (.seq (.reg [oM s68 t0,oQ s69 .lss t68 (ci 0)]) (.cond t69
 (.reg [oM s70 t7,oP s71 (.sls true 0 t70 (some (ci 1)) none none),oM s9 t71])
 .skip)) (.seq (.reg [oM s10 (ci 0)]) (.seq (.seq (.reg [oM s11 (ci 0)]) (.blk 0 (.loop b3x1))) (.seq (.seq (.reg [oM s96 t0,oQ s97 .lss t96 (ci 0)]) (.cond t97
 (.reg [oM s98 t10,oP s99 (.un .neg t98),oM s10 t99])
 .skip)) (.seq (.reg [oM s101 t5,oM s102 t1,oP s103 (.bld [(vi 0),(vi 0),(vi 0),(.str []),vz] [(0,1,(ci 3)),(1,1,(ci 1)),(3,1,t102)]),oC s104 6 [t101,t103],oM s100 t104,oE s105 t100 0,oE s106 t100 1,oM s12 t105,oM s13 t106]) (.seq (.reg [oM s107 t1,oP s108 (.len true t107),oQ s109 .leq t108 (ci 4096),oM s14 t109]) (.seq (.seq (.reg [oM s15 (ci 0)]) (.blk 2 (.loop b3x0))) (.seq (.reg [oM s135 t0,oC s136 7 [t135,(ci 0),(ci 1)],oM s16 t136]) (.seq (.reg [oM s138 t5,oM s139 t16,oP s140 (.bld [(vi 0),(vi 0),(vi 0),(.str []),vz] [(0,1,(ci 2)),(1,1,(ci 2)),(2,1,t139)]),oC s141 6 [t138,t140],oM s137 t141,oE s142 t137 0,oE s143 t137 1,oM s17 t142,oM s18 t143]) (.seq (.reg [oM s144 t10,oM s145 t0,oQ s146 .eql t144 t145,oM s147 t146,⟨some s148,some (s147,true),(.p (.mov t9))⟩,⟨some s149,some (s147,true),(.p (.len true t148))⟩,⟨some s150,some (s147,true),(.p (.bin .gtr eI t149 (ci 0)))⟩,oP s151 (.pick t147 t150 (.c (.bool false))),oM s152 t151,⟨some s153,some (s152,true),(.p (.mov t9))⟩,⟨some s154,some (s152,true),(.p (.bin .eql eS t153 (.c (.str [48]))))⟩,⟨some s155,some (s152,true),(.p (.mov t154))⟩,⟨some s156,some (s155,false),(.p (.mov t9))⟩,⟨some s157,some (s155,false),(.p (.ixs t156 (ci 0)))⟩,⟨some s158,some (s155,false),(.p (.bin .neq eI t157 (cu 48)))⟩,⟨some s159,some (s152,true),(.p (.pick t155 (.c (.bool true)) t158))⟩,oP s160 (.pick t152 t159 (.c (.bool false))),oM s161 t160,⟨some s162,some (s161,true),(.p (.mov t14))⟩,⟨some s163,some (s161,true),(.p (.mov t13))⟩,⟨some s164,some (s161,true),(.p (.bin .eql eI t163 (ci 0)))⟩,⟨some s165,some (s161,true),(.p (.bin .eql eB t162 t164))⟩,oP s166 (.pick t161 t165 (.c (.bool false))),oM s167 t166,⟨some s168,some (s167,true),(.p (.mov t14))⟩,⟨some s169,some (s167,true),(.p (.un .not t168))⟩,⟨some s170,some (s167,true),(.p (.mov t169))⟩,⟨some s171,some (s170,false),(.p (.mov t12))⟩,⟨some s172,some (s170,false),(.p (.mov t1))⟩,⟨some s173,some (s170,false),(.p (.bin .eql eS t171 t172))⟩,⟨some s174,some (s167,true),(.p (.pick t170 (.c (.bool true)) t173))⟩,oP s175 (.pick t167 t174 (.c (.bool false))),oM s176 t175,⟨some s177,some (s176,true),(.p (.mov t18))⟩,⟨some s178,some (s176,true),(.p (.bin .eql eI t177 (ci 0)))⟩,oP s179 (.pick t176 t178 (.c (.bool false))),oM s180 t179,⟨some s181,some (s180,true),(.p (.mov t17))⟩,⟨some s182,some (s180,true),(.p (.bin .eql eS t181 (.c (.str [116,114,117,101]))))⟩,⟨some s183,some (s180,true),(.p (.mov t16))⟩,⟨some s184,some (s180,true),(.p (.bin .eql eI t183 (ci 1)))⟩,⟨some s185,some (s180,true),(.p (.bin .eql eB t182 t184))⟩,oP s186 (.pick t180 t185 (.c (.bool false))),oM s187 t186,⟨some s188,some (s187,true),(.p (.mov t17))⟩,⟨some s189,some (s187,true),(.p (.bin .eql eS t188 (.c (.str [102,97,108,115,101]))))⟩,⟨some s190,some (s187,true),(.p (.mov t16))⟩,⟨some s191,some (s187,true),(.p (.bin .eql eI t190 (ci 0)))⟩,⟨some s192,some (s187,true),(.p (.bin .eql eB t189 t191))⟩,oP s193 (.pick t187 t192 (.c (.bool false))),oM s194 t193,⟨some s195,some (s194,true),(.e (.call 8 []) [])⟩,oP s196 (.pick t194 t195 (.c (.bool false))),oM s4 t196]) .ret))))))))))))))))),0,[.t s4],none⟩
def b4x0:AC:=(.seq (.seq (.reg [oM s37 t10,oM s38 t1,oP s39 (.len false t38),oQ s40 .lss t37 t39,oM s41 t40,⟨some s42,some (s41,true),(.p (.mov t10))⟩,⟨some s43,some (s41,true),(.p (.bin .lss eI t42 (ci 8)))⟩,oP s44 (.pick t41 t43 (.c (.bool false)))]) (.cond t44
 .skip
 (.exit 0))) (.seq (.blk 1 (.seq (.reg [oM s47 t6,oM s48 t1,oM s49 t10,oP s50 (.iad 5 t48 t49),oR s51 (.ld true 5 t50),oP s52 (.bsl 1 5 (.agg [(vi 0),(.str []),vz,vz,vz]) [(0,t51)]),oC s53 12 [t47,t52]]) (.reg [oM s54 t8,oM s55 t1,oM s56 t10,oP s57 (.iad 5 t55 t56),oR s58 (.ld true 5 t57),oP s59 (.bsl 1 5 (.agg [(vi 0),(.str []),vz,vz,vz]) [(0,t58)]),oC s60 13 [t54,t59]]))) (.reg [oM s45 t10,oQ s46 .add t45 (ci 1),oM s10 t46])))
def f4:FI:=⟨(.seq (.reg [oX s2 (.box 0 false 29 2 t0) [],oM s4 (.c .nilp),oM s5 (.c .nilp)]) (.seq (.seq (.reg [oR s11 (.ld true 2 t2),oC s12 9 [t11],oP s13 (.un .not t12)]) (.cond t13
 (.seq (.reg [oM s4 (.c .nilp),oM s5 (.c .nilp)]) .ret)
 .skip)) (.seq (.reg [oF s15 0 t2,oL s16 t15,oF s17 1 t2,oL s18 t17,oC s19 10 [t16,t18],oM s14 t19,oE s20 t14 0,oE s21 t14 1,oM s6 t20,oM s7 t21]) (.seq (.reg [oF s23 0 t2,oL s24 t23,oF s25 1 t2,oL s26 t25,oC s27 11 [t24,t26],oM s22 t27,oE s28 t22 0,oE s29 t22 1,oX s9 (.new 1 false false (.cells 53 [(vi 0),(vi 0),(.str [])])) [],oM s8 t28,oS 3 t9 t29]) (.seq (.seq (.reg [oF s30 1 t9,oG s31 t30,oQ s32 .neq t31 (ci 0),oM s33 t32,⟨some s34,some (s33,false),(.p (.mov t6))⟩,⟨some s35,some (s33,false),(.p (.bin .eql .ptr t34 (.c .nilp)))⟩,oP s36 (.pick t33 (.c (.bool true)) t35)]) (.cond t36
 (.seq (.reg [oM s4 (.c .nilp),oM s5 (.c .nilp)]) .ret)
 .skip)) (.seq (.seq (.reg [oM s10 (ci 0)]) (.blk 0 (.loop b4x0))) (.seq (.seq (.reg [oM s61 t8,oN s62 t61,oF s63 0 t62,oL s64 t63,oP s65 (.len false t64),oQ s66 .gtr t65 (ci 300)]) (.cond t66
 (.seq (.reg [oM s4 (.c .nilp),oM s5 (.c .nilp)]) .ret)
 .skip)) (.seq (.reg [oM s67 t6,oC s68 14 [t67],oM s69 t8,oC s70 15 [t69],oM s4 t68,oM s5 t70]) .ret)))))))),2,[.t s4,.t s5],none⟩
def f5:FI:=⟨(.seq (.reg [oM s2 (ci 0)]) (.seq (.reg [oM s3 t0,oN s4 t3,oF s5 2 t4,oL s6 t5,oP s7 (.len false t6),oM s2 t7]) .ret)),0,[.t s2],none⟩
def f6:FI:=⟨(.seq (.reg [oX s3 (.box 0 false 41 5 t1) [],oM s4 (.c (.str [])),oM s5 (ci 0)]) (.seq (.seq (.reg [oM s6 t0,oR s7 (.ld true 5 t3),oC s8 16 [t6,t7],oP s9 (.un .not t8)]) (.cond t9
 (.seq (.reg [oM s4 (.c (.str [])),oM s5 (ci 1)]) .ret)
 .skip)) (.seq (.reg [oM s10 t0,oR s12 (.ld true 5 t3),oX s11 (.call 17 [t10]) [(.l t3)],oC s13 18 [t11,t12],oE s14 t13 0,oE s15 t13 1,oM s4 t14,oM s5 t15]) .ret))),1,[.t s4,.t s5],none⟩
def f7:FI:=⟨(.seq (.reg [oM s6 (ci 0)]) (.seq (.reg [oM s7 t0,oM s8 t2,oM s9 t1,oQ s10 .sub t8 t9,oQ s11 .add t10 (ci 1),oQ s12 .rem t7 t11,oM s0 t12]) (.seq (.seq (.reg [oM s13 t0,oQ s14 .lss t13 (ci 0)]) (.cond t14
 (.reg [oM s15 t0,oM s16 t2,oQ s17 .add t15 t16,oM s18 t1,oQ s19 .sub t17 t18,oQ s20 .add t19 (ci 1),oM s0 t20])
 .skip)) (.seq (.reg [oM s21 t1,oM s22 t0,oQ s23 .add t21 t22,oM s6 t23]) .ret)))),0,[.t s6],none⟩
def b8x0:AC:=(.seq (.seq (.reg [oM s176 t29,oM s177 t28,oP s178 (.len false t177),oQ s179 .lss t176 t178]) (.cond t179
 .skip
 (.exit 0))) (.seq (.blk 1 (.reg [oM s182 t28,oM s183 t29,oP s184 (.iad 1 t182 t183),oS 1 t184 (cu 97)])) (.reg [oM s180 t29,oQ s181 .add t180 (ci 1),oM s29 t181])))
def f8:FI:=⟨(.seq (.reg [oM s0 (.c (.bool false))]) (.seq (.reg [oC s35 19 [(.c (.str [116,121,112,101,32,65,32,61,32,123,120,32,105,110,116,59,32,110,101,120,116,32,42,65,59,125,59]))],oM s34 t35,oE s36 t34 0,oE s37 t34 1,oE s38 t34 2,oE s39 t34 3,oM s1 t36,oM s2 t37,oM s3 t38,oM s4 t39]) (.seq (.reg [oM s41 t1,oP s42 (.bld [vz,vz] [(0,1,t41)]),oP s43 (.bld [(vi 0),(.str []),vz,vz,vz] [(0,1,(ci 3))]),oP s44 (.bsl 1 5 (.agg [(vi 0),(.str []),vz,vz,vz]) [(0,t43)]),oC s45 4 [t42,t44],oM s40 t45,oE s46 t40 0,oE s47 t40 1,oM s5 t46,oM s6 t47]) (.seq (.seq (.reg [oM s48 t4,oQ s49 .neq t48 (ci 0),oM s50 t49,⟨some s51,some (s50,false),(.p (.mov t5))⟩,⟨some s52,some (s50,false),(.p (.bin .eql .ptr t51 (.c .nilp)))⟩,oP s53 (.pick t50 (.c (.bool true)) t52),oM s54 t53,⟨some s55,some (s54,false),(.p (.mov t6))⟩,⟨some s56,some (s54,false),(.p (.bin .eql .ptr t55 (.c .nilp)))⟩,oP s57 (.pick t54 (.c (.bool true)) t56)]) (.cond t57
 (.seq (.reg [oM s0 (.c (.bool false))]) .ret)
 .skip)) (.seq (.reg [oM s59 t5,oC s60 20 [t59,(.c (.str [65]))],oM s58 t60,oE s61 t58 0,oE s62 t58 1,oM s7 t61,oM s8 t62]) (.seq (.reg [oM s63 t5,oM s64 t7,oC s65 21 [t63,t64],oM s9 t65]) (.seq (.reg [oM s67 t5,oP s68 (.bld [(vi 0),(.str []),vz,vz,vz] [(0,1,(ci 3))]),oP s69 (.bsl 1 5 (.agg [(vi 0),(.str []),vz,vz,vz]) [(0,t68)]),oC s70 22 [t67,t69],oM s66 t70,oE s71 t66 0,oE s72 t66 1,oM s10 t71,oM s11 t72]) (.seq (.seq (.reg [oM s73 t9,oP s74 (.len false t73),oQ s75 .neq t74 (ci 2),oM s76 t75,⟨some s77,some (s76,false),(.p (.mov t11))⟩,⟨some s78,some (s76,false),(.p (.bin .neq .ifc t77 (.c .nili)))⟩,oP s79 (.pick t76 (.c (.bool true)) t78),oM s80 t79,⟨some s81,some (s80,false),(.p (.mov t10))⟩,⟨some s82,some (s80,false),(.p (.len false t81))⟩,⟨some s83,some (s80,false),(.p (.bin .neq eI t82 (ci 1)))⟩,oP s84 (.pick t80 (.c (.bool true)) t83)]) (.cond t84
 (.seq (.reg [oM s0 (.c (.bool false))]) .ret)
 .skip)) (.seq (.reg [oM s85 t9,oP s86 (.iad 1 t85 (ci 1)),oG s87 t86,oP s88 (.bld [(vi 0),(vi 0),(vi 0),(.str []),vz] [(0,1,(ci 1)),(1,1,t87),(2,1,(ci 5))]),oX s12 (.new 0 false false (.cells 41 [(vi 0),(vi 0),(vi 0),(.str []),vz])) [],oS 5 t12 t88]) (.seq (.reg [oM s89 t9,oP s90 (.iad 1 t89 (ci 0)),oG s91 t90,oP s92 (.bld [(vi 0),(vi 0),(vi 0),(.str []),vz] [(0,1,(ci 5)),(1,1,t91)]),oX s13 (.new 1 false false (.cells 41 [(vi 0),(vi 0),(vi 0),(.str []),vz])) [],oS 5 t13 t92]) (.seq (.reg [oM s93 t7,oR s94 (.ld true 5 t13),oR s95 (.ld true 5 t12),oP s96 (.bsl 2 5 (.agg [(vi 0),(vi 0),(vi 0),(.str []),vz]) [(0,t94),(1,t95)]),oP s97 (.bld [(vi 0),(vi 0),(vi 0),(.str []),vz] [(0,1,(ci 4)),(1,1,t93),(4,1,t96)]),oX s14 (.new 2 false false (.cells 41 [(vi 0),(vi 0),(vi 0),(.str []),vz])) [],oS 5 t14 t97]) (.seq (.reg [oM s98 t9,oP s99 (.iad 1 t98 (ci 0)),oG s100 t99,oR s101 (.ld true 5 t14),oP s102 (.bsl 1 5 (.agg [(vi 0),(vi 0),(vi 0),(.str []),vz]) [(0,t101)]),oP s103 (.bld [(vi 0),(vi 0),(vi 0),(.str []),vz] [(0,1,(ci 5)),(1,1,t100),(4,1,t102)]),oX s15 (.new 3 false false (.cells 41 [(vi 0),(vi 0),(vi 0),(.str []),vz])) [(.l t14),(.c t99)],oS 5 t15 t103]) (.seq (.reg [oM s105 t5,oR s106 (.ld true 5 t14),oC s107 6 [t105,t106],oM s104 t107,oE s108 t104 0,oE s109 t104 1,oM s16 t108,oM s17 t109]) (.seq (.reg [oM s111 t5,oR s112 (.ld true 5 t15),oC s113 6 [t111,t112],oM s110 t113,oE s114 t110 0,oE s115 t110 1,oM s18 t114,oM s19 t115]) (.seq (.reg [oM s117 t5,oR s118 (.ld true 5 t15),oC s119 23 [t117,t118,(.c (.str [120]))],oM s116 t119,oE s120 t116 0,oE s121 t116 1,oX s20 (.new 4 false false (.cells 41 [(vi 0),(vi 0),(vi 0),(.str []),vz])) [],oS 5 t20 t120,oM s21 t121]) (.seq (.reg [oM s123 t5,oR s124 (.ld true 5 t13),oC s125 23 [t123,t124,(.c (.str [120]))],oM s122 t125,oE s126 t122 0,oE s127 t122 1,oX s22 (.new 5 false false (.cells 41 [(vi 0),(vi 0),(vi 0),(.str []),vz])) [],oS 5 t22 t126,oM s23 t127]) (.seq (.reg [oM s129 t5,oR s130 (.ld true 5 t15),oC s131 23 [t129,t130,(.c (.str [121]))],oM s128 t131,oE s132 t128 0,oE s133 t128 1,oX s24 (.new 6 false false (.cells 41 [(vi 0),(vi 0),(vi 0),(.str []),vz])) [],oS 5 t24 t132,oM s25 t133]) (.seq (.reg [oM s135 t5,oR s136 (.ld true 5 t12),oC s137 23 [t135,t136,(.c (.str [120]))],oM s134 t137,oE s138 t134 0,oE s139 t134 1,oX s26 (.new 7 false false (.cells 41 [(vi 0),(vi 0),(vi 0),(.str []),vz])) [],oS 5 t26 t138,oM s27 t139]) (.seq (.seq (.reg [oM s140 t16,oP s141 (.bin .neq eS t140 (.c (.str [123,110,101,120,116,58,32,110,105,108,44,32,120,58,32,53,125]))),oM s142 t141,⟨some s143,some (s142,false),(.p (.mov t17))⟩,⟨some s144,some (s142,false),(.p (.bin .neq eI t143 (ci 0)))⟩,oP s145 (.pick t142 (.c (.bool true)) t144),oM s146 t145,⟨some s147,some (s146,false),(.p (.mov t18))⟩,⟨some s148,some (s146,false),(.p (.bin .neq eS t147 (.c (.str [38,123,110,101,120,116,58,32,110,105,108,44,32,120,58,32,53,125]))))⟩,oP s149 (.pick t146 (.c (.bool true)) t148),oM s150 t149,⟨some s151,some (s150,false),(.p (.mov t19))⟩,⟨some s152,some (s150,false),(.p (.bin .neq eI t151 (ci 0)))⟩,oP s153 (.pick t150 (.c (.bool true)) t152),oM s154 t153,⟨some s155,some (s154,false),(.p (.fad 2 t20))⟩,⟨some s156,some (s154,false),(.r (.ldc t155))⟩,⟨some s157,some (s154,false),(.p (.bin .neq eI t156 (ci 5)))⟩,oP s158 (.pick t154 (.c (.bool true)) t157),oM s159 t158,⟨some s160,some (s159,false),(.p (.mov t21))⟩,⟨some s161,some (s159,false),(.p (.bin .neq eI t160 (ci 0)))⟩,oP s162 (.pick t159 (.c (.bool true)) t161),oM s163 t162,⟨some s164,some (s163,false),(.p (.mov t23))⟩,⟨some s165,some (s163,false),(.p (.bin .neq eI t164 (ci 51)))⟩,oP s166 (.pick t163 (.c (.bool true)) t165),oM s167 t166,⟨some s168,some (s167,false),(.p (.mov t25))⟩,⟨some s169,some (s167,false),(.p (.bin .neq eI t168 (ci 42)))⟩,oP s170 (.pick t167 (.c (.bool true)) t169),oM s171 t170,⟨some s172,some (s171,false),(.p (.mov t27))⟩,⟨some s173,some (s171,false),(.p (.bin .neq eI t172 (ci 42)))⟩,oP s174 (.pick t171 (.c (.bool true)) t173)]) (.cond t174
 (.seq (.reg [oM s0 (.c (.bool false))]) .ret)
 .skip)) (.seq (.reg [oX s175 (.mks 8 false true false 1 (vu 0) 1 (ci 4097) (ci 4097)) [],oM s28 t175]) (.seq (.seq (.reg [oM s29 (ci 0)]) (.blk 0 (.loop b8x0))) (.seq (.reg [oR s185 (.ld true 5 t12),oX s30 (.new 9 false false (.cells 41 [(vi 0),(vi 0),(vi 0),(.str []),vz])) [],oS 5 t30 t185]) (.seq (.reg [oR s186 (.ld true 5 t12),oP s187 (.bsl 1 5 (.agg [(vi 0),(vi 0),(vi 0),(.str []),vz]) [(0,t186)]),oF s188 4 t30,oS 1 t188 t187]) (.seq (.reg [oM s190 t5,oR s191 (.ld true 5 t30),oC s192 6 [t190,t191],oM s189 t192,oE s193 t189 0,oE s194 t189 1,oM s17 t194]) (.seq (.reg [oM s196 t5,oM s197 t10,oP s198 (.iad 1 t197 (ci 0)),oG s199 t198,oM s200 t28,oR s201 (.b2s t200),oP s202 (.bld [(vi 0),(vi 0),(vi 0),(.str []),vz] [(0,1,(ci 3)),(1,1,t199),(3,1,t201)]),oC s203 6 [t196,t202],oM s195 t203,oE s204 t195 0,oE s205 t195 1,oM s19 t205]) (.seq (.reg [oM s207 t5,oM s208 t10,oP s209 (.iad 1 t208 (ci 0)),oG s210 t209,oM s211 t28,oP s212 (.sls false 1 t211 none (some (ci 4096)) none),oR s213 (.b2s t212),oP s214 (.bld [(vi 0),(vi 0),(vi 0),(.str []),vz] [(0,1,(ci 3)),(1,1,t210),(3,1,t213)]),oC s215 6 [t207,t214],oM s206 t215,oE s216 t206 0,oE s217 t206 1,oM s31 t216,oM s21 t217]) (.seq (.reg [oM s219 t5,oR s220 (.ld true 5 t15),oP s221 (.bsl 1 1 (.str []) [(0,(.c (.str [110,101,120,116])))]),oC s222 24 [t219,t220,t221],oM s218 t222,oE s223 t218 0,oE s224 t218 1,oX s32 (.new 10 false false (.cells 41 [(vi 0),(vi 0),(vi 0),(.str []),vz])) [],oS 5 t32 t223,oM s23 t224]) (.seq (.reg [oM s226 t5,oR s227 (.ld true 5 t14),oC s228 24 [t226,t227,(.c vz)],oM s225 t228,oE s229 t225 0,oE s230 t225 1,oX s33 (.new 11 false false (.cells 41 [(vi 0),(vi 0),(vi 0),(.str []),vz])) [],oS 5 t33 t229,oM s25 t230]) (.seq (.reg [oM s231 t17,oQ s232 .eql t231 (ci 1),oM s233 t232,⟨some s234,some (s233,true),(.p (.mov t19))⟩,⟨some s235,some (s233,true),(.p (.bin .eql eI t234 (ci 1)))⟩,oP s236 (.pick t233 t235 (.c (.bool false))),oM s237 t236,⟨some s238,some (s237,true),(.p (.mov t31))⟩,⟨some s239,some (s237,true),(.p (.len true t238))⟩,⟨some s240,some (s237,true),(.p (.bin .eql eI t239 (ci 4096)))⟩,oP s241 (.pick t237 t240 (.c (.bool false))),oM s242 t241,⟨some s243,some (s242,true),(.p (.mov t21))⟩,⟨some s244,some (s242,true),(.p (.bin .eql eI t243 (ci 0)))⟩,oP s245 (.pick t242 t244 (.c (.bool false))),oM s246 t245,⟨some s247,some (s246,true),(.p (.fad 0 t32))⟩,⟨some s248,some (s246,true),(.r (.ldc t247))⟩,⟨some s249,some (s246,true),(.p (.bin .eql eI t248 (ci 5)))⟩,oP s250 (.pick t246 t249 (.c (.bool false))),oM s251 t250,⟨some s252,some (s251,true),(.p (.mov t23))⟩,⟨some s253,some (s251,true),(.p (.bin .eql eI t252 (ci 0)))⟩,oP s254 (.pick t251 t253 (.c (.bool false))),oM s255 t254,⟨some s256,some (s255,true),(.r (.ld true 5 t33))⟩,⟨some s257,some (s255,true),(.r (.ld true 5 t14))⟩,⟨some s258,some (s255,true),(.e (.call 25 [t256,t257]) [])⟩,oP s259 (.pick t255 t258 (.c (.bool false))),oM s260 t259,⟨some s261,some (s260,true),(.p (.mov t25))⟩,⟨some s262,some (s260,true),(.p (.bin .eql eI t261 (ci 0)))⟩,oP s263 (.pick t260 t262 (.c (.bool false))),oM s264 t263,⟨some s265,some (s264,true),(.r (.ld true 5 t12))⟩,⟨some s266,some (s264,true),(.e (.call 16 [(.c .nilp),t265]) [])⟩,⟨some s267,some (s264,true),(.p (.un .not t266))⟩,oP s268 (.pick t264 t267 (.c (.bool false))),oM s269 t268,⟨some s270,some (s269,true),(.p (.mov t5))⟩,⟨some s271,some (s269,true),(.r (.ld true 5 t14))⟩,⟨some s272,some (s269,true),(.e (.call 16 [t270,t271]) [])⟩,oP s273 (.pick t269 t272 (.c (.bool false))),oM s0 t273]) .ret))))))))))))))))))))))))))))),12,[.t s0],none⟩
def f9:FI:=⟨(.seq (.reg [oX s1 (.box 0 false 29 2 t0) [],oM s2 (.c (.bool false))]) (.seq (.reg [oF s4 0 t1,oL s5 t4,oF s6 1 t1,oL s7 t6,oP s8 (.bld [vz,vz,vz,(vi 0),(.str []),(.str []),vz,(vi 0),(.str []),vz,vz,vz,vz] [(0,1,t5),(1,1,t7)]),oX s3 (.new 1 false false (.cells 90 [vz,vz,vz,(vi 0),(.str []),(.str []),vz,(vi 0),(.str []),vz,vz,vz,vz])) [],oS 13 t3 t8]) (.seq (.reg [oR s9 (.ld true 13 t3),oC s10 26 [t9,(ci 9000)],oQ s11 .lss t10 (ci 9000),oM s2 t11]) .ret))),2,[.t s2],none⟩
def b10x0:AC:=(.seq (.reg [oQ s146 .lss t145 t144]) (.seq (.cond t146
 .skip
 (.exit 6)) (.seq (.blk 7 (.seq (.reg [oP s147 (.iad 10 t143 t145),oR s148 (.ld true 10 t147),oX s23 (.new 8 false false (.cells 88 [(vi 0),(.str []),(.str []),vz,(vi 0),(.str []),vz,vz,vz,vz])) [],oS 10 t23 t148]) (.reg [oM s149 t9,oN s150 t149,oF s151 0 t150,oL s152 t151,oM s153 t10,oF s154 1 t23,oL s155 t154,oR s156 (.lku false [.s] false (vi 0) t153 t155),oF s157 1 t23,oL s158 t157,oP s159 (.iad 5 t152 t156),oF s160 4 t159,oS 1 t160 t158]))) (.reg [oQ s161 .add t145 (ci 1),oM s145 t161]))))
def b10x1:AC:=(.seq (.reg [oQ s109 .lss t108 t107]) (.seq (.cond t109
 .skip
 (.exit 4)) (.seq (.blk 5 (.seq (.reg [oM s110 t108,oP s111 (.iad 7 t106 t108),oR s112 (.ld true 7 t111),oX s20 (.new 6 false false (.cells 118 [(vi 0),(.str []),(vi 0),(.str []),vz,vz,vz])) [],oM s19 t110,oS 7 t20 t112]) (.seq (.reg [oM s113 t9,oF s114 2 t20,oR s115 (.ld true 5 t114),oC s116 36 [t113,t115],oM s21 t116]) (.seq (.reg [oM s117 t19,oM s118 t0,oP s119 (.len false t118),oQ s120 .geq t117 t119]) (.cond t120
 (.reg [oM s121 t9,oM s122 t9,oN s123 t122,oF s124 2 t123,oL s125 t124,oM s126 t1,oM s127 t19,oM s128 t0,oP s129 (.len false t128),oQ s130 .sub t127 t129,oP s131 (.iad 10 t126 t130),oF s132 1 t131,oL s133 t132,oF s134 1 t20,oL s135 t134,oM s136 t21,oP s137 (.bld [(.str []),(.str []),(vi 0)] [(0,1,t133),(1,1,t135),(2,1,t136)]),oP s138 (.bsl 1 3 (.agg [(.str []),(.str []),(vi 0)]) [(0,t137)]),oX s139 (.app 7 2 3 (.agg [(.str []),(.str []),(vi 0)]) 40 t125 t138) [],oN s140 t121,oF s141 2 t140,oS 1 t141 t139])
 .skip))))) (.reg [oQ s142 .add t108 (ci 1),oM s108 t142]))))
def b10x2:AC:=(.seq (.reg [oQ s70 .lss t69 t68]) (.seq (.cond t70
 .skip
 (.exit 2)) (.seq (.blk 3 (.seq (.reg [oP s71 (.iad 7 t67 t69),oR s72 (.ld true 7 t71),oX s15 (.new 3 false false (.cells 108 [(vi 0),(.str []),(vi 0),(.str []),vz,vz,vz])) [],oS 7 t15 t72]) (.seq (.reg [oM s74 t6,oF s75 2 t15,oR s76 (.ld true 5 t75),oC s77 32 [t74,t76],oM s73 t77,oE s78 t73 0,oE s79 t73 1,oE s80 t73 2,oX s16 (.new 4 false false (.cells 34 [(vi 0),(.str []),vz,vz,vz])) [],oS 5 t16 t78,oM s17 t79,oM s18 t80]) (.seq (.seq (.reg [oM s81 t17,oP s82 (.bin .eql eS t81 (.c (.str [])))]) (.cond t82
 (.reg [oF s83 1 t15,oL s84 t83,oM s17 t84])
 .skip)) (.reg [oM s85 t9,oM s86 t9,oN s87 t86,oF s88 1 t87,oL s89 t88,oF s90 1 t15,oL s91 t90,oM s92 t10,oM s93 t17,oR s94 (.lku false [.s] false (vi 0) t92 t93),oP s95 (.bld [(.str []),(vi 0)] [(0,1,t91),(1,1,t94)]),oP s96 (.bsl 1 2 (.agg [(.str []),(vi 0)]) [(0,t95)]),oX s97 (.app 5 2 2 (.agg [(.str []),(vi 0)]) 24 t89 t96) [],oN s98 t85,oF s99 1 t98,oS 1 t99 t97]))))) (.reg [oQ s100 .add t69 (ci 1),oM s69 t100]))))
def b10x3:AC:=(.seq (.reg [oQ s53 .lss t52 t51]) (.seq (.cond t53
 .skip
 (.exit 0)) (.seq (.blk 1 (.seq (.reg [oP s54 (.iad 7 t50 t52),oR s55 (.ld true 7 t54),oX s13 (.new 2 false false (.cells 108 [(vi 0),(.str []),(vi 0),(.str []),vz,vz,vz])) [],oS 7 t13 t55]) (.seq (.reg [oM s56 t10,oF s57 1 t13,oL s58 t57,oM s59 t11,oY (.mup false [.s] t56 t58 t59) []]) (.reg [oM s60 t11,oF s61 2 t13,oR s62 (.ld true 5 t61),oP s63 (.bsl 1 5 (.agg [(vi 0),(.str []),vz,vz,vz]) [(0,t62)]),oC s64 31 [t63],oQ s65 .add t60 t64,oM s11 t65])))) (.reg [oQ s66 .add t52 (ci 1),oM s52 t66]))))
def f10:FI:=⟨(.seq (.reg [oM s4 (.c .nilp),oM s5 (.c .nili)]) (.seq (.reg [oM s25 t0,oC s26 27 [t25],oM s24 t26,oE s27 t24 0,oE s28 t24 1,oM s6 t27,oM s7 t28]) (.seq (.seq (.reg [oM s29 t7,oP s30 (.bin .eql .ptr t29 (.c .nilp))]) (.cond t30
 (.reg [oM s31 t6,oM s32 t1,oC s33 28 [t31,t32],oM s7 t33])
 .skip)) (.seq (.reg [oM s34 t0,oM s35 t1,oC s36 29 [t34,t35],oM s8 t36]) (.seq (.seq (.reg [oM s37 t7,oP s38 (.bin .eql .ptr t37 (.c .nilp))]) (.cond t38
 (.reg [oM s39 t6,oM s40 t0,oM s41 t8,oC s42 30 [t39,t40,t41],oM s7 t42])
 .skip)) (.seq (.seq (.reg [oM s43 t7,oP s44 (.bin .neq .ptr t43 (.c .nilp))]) (.cond t44
 (.seq (.reg [oM s45 t7,oP s46 (.ifc 94 t45),oM s4 (.c .nilp),oM s5 t46]) .ret)
 .skip)) (.seq (.reg [oP s47 (.bld [vz,vz,vz] []),oX s48 (.box 0 true 105 3 t47) [],oM s9 t48]) (.seq (.reg [oX s49 (.new 1 false true (.map [])) [],oM s10 t49]) (.seq (.reg [oM s11 (ci 0)]) (.seq (.seq (.reg [oM s50 t0,oP s51 (.len false t50),oM s52 (ci 0)]) (.blk 0 (.loop b10x3))) (.seq (.seq (.reg [oM s67 t0,oP s68 (.len false t67),oM s69 (ci 0)]) (.blk 2 (.loop b10x2))) (.seq (.reg [oM s101 t9,oN s102 t101,oF s103 1 t102,oL s104 t103,oC s105 33 [t104,(.c (.fn 34 [] []))]]) (.seq (.seq (.reg [oM s106 t8,oP s107 (.len false t106),oM s108 (ci 0)]) (.blk 4 (.loop b10x1))) (.seq (.seq (.reg [oM s143 t1,oP s144 (.len false t143),oM s145 (ci 0)]) (.blk 6 (.loop b10x0))) (.seq (.reg [oM s162 t9,oN s163 t162,oF s164 2 t163,oL s165 t164,oC s166 37 [t165,(.c (.fn 38 [] []))]]) (.seq (.reg [oM s167 t9,oM s4 t167,oM s5 (.c .nili)]) .ret)))))))))))))))),9,[.t s4,.t s5],none⟩
def b11x0:AC:=(.seq (.seq (.reg [oM s135 t18,oM s136 t1,oP s137 (.len false t136),oQ s138 .lss t135 t137]) (.cond t138
 .skip
 (.exit 10))) (.seq (.blk 11 (.seq (.reg [oM s141 t6,oM s142 t6,oN s143 t142,oF s144 3 t143,oL s145 t144,oM s146 t6,oM s147 t1,oM s148 t18,oP s149 (.iad 10 t147 t148),oR s150 (.ld true 10 t149),oX s151 (.call 43 [t150]) [(.l t144)],oX s152 (.call 44 [t146,t151]) [(.l t144)],oP s153 (.bsl 1 1 (vi 0) [(0,t152)]),oX s154 (.app 3 0 1 (vi 0) 8 t145 t153) [],oN s155 t141,oF s156 3 t155,oS 1 t156 t154]) (.reg [oM s157 t6,oN s158 t157,oF s159 0 t158,oL s160 t159,oM s161 t6,oN s162 t161,oF s163 4 t162,oL s164 t163,oM s165 t6,oM s166 t1,oM s167 t18,oP s168 (.iad 10 t166 t167),oF s169 1 t168,oL s170 t169,oM s174 t1,oM s175 t18,oP s176 (.iad 10 t174 t175),oF s177 1 t176,oL s178 t177,oX s171 (.call 46 [t165,t170]) [(.l t177),(.l t163),(.l t159)],oP s172 (.iad 1 t164 t171),oG s173 t172,oP s179 (.iad 5 t160 t173),oF s180 4 t179,oS 1 t180 t178]))) (.reg [oM s139 t18,oQ s140 .add t139 (ci 1),oM s18 t140])))
def b11x1:AC:=(.seq (.seq (.reg [oM s114 t17,oM s115 t0,oP s116 (.len false t115),oQ s117 .lss t114 t116]) (.cond t117
 .skip
 (.exit 8))) (.seq (.blk 9 (.reg [oM s120 t6,oM s121 t6,oN s122 t121,oF s123 4 t122,oL s124 t123,oM s125 t15,oM s126 t6,oM s127 t17,oX s128 (.call 45 [t126,t127]) [(.l t123)],oP s129 (.iad 1 t125 t128),oG s130 t129,oP s131 (.bsl 1 1 (vi 0) [(0,t130)]),oX s132 (.app 3 0 1 (vi 0) 8 t124 t131) [],oN s133 t120,oF s134 4 t133,oS 1 t134 t132])) (.reg [oM s118 t17,oQ s119 .add t118 (ci 1),oM s17 t119])))
def b11x2:AC:=(.seq (.seq (.reg [oM s98 t16,oM s99 t0,oP s100 (.len false t99),oQ s101 .lss t98 t100]) (.cond t101
 .skip
 (.exit 6))) (.seq (.blk 7 (.reg [oM s104 t15,oM s105 t6,oM s106 t0,oM s107 t16,oP s108 (.iad 7 t106 t107),oF s109 2 t108,oR s110 (.ld true 5 t109),oC s111 44 [t105,t110],oP s112 (.bsl 1 1 (vi 0) [(0,t111)]),oX s113 (.app 3 0 1 (vi 0) 8 t104 t112) [],oM s15 t113])) (.reg [oM s102 t16,oQ s103 .add t102 (ci 1),oM s16 t103])))
def b11x3:AC:=(.seq (.seq (.reg [oM s73 t12,oM s74 t1,oP s75 (.len false t74),oQ s76 .lss t73 t75]) (.cond t76
 .skip
 (.exit 4))) (.seq (.blk 5 (.seq (.reg [oM s80 t6,oM s81 t1,oM s82 t12,oP s83 (.iad 10 t81 t82),oR s84 (.ld true 10 t83),oC s85 43 [t84],oC s86 42 [t80,t85],oM s79 t86,oE s87 t79 0,oE s88 t79 1,oM s13 t87,oM s14 t88]) (.seq (.reg [oM s89 t14]) (.cond t89
 (.seq (.reg [oM s90 t1,oM s91 t12,oP s92 (.iad 10 t90 t91),oF s93 0 t92,oF s94 0 t93,oG s95 t94,oM s96 t13,oP s97 (.bld [(vi 0),(vi 0),(.str [])] [(0,1,t95),(1,1,(ci 24)),(2,1,t96)]),oM s4 (.c .nilp),oS 3 t5 t97]) .ret)
 .skip)))) (.reg [oM s77 t12,oQ s78 .add t77 (ci 1),oM s12 t78])))
def b11x4:AC:=(.seq (.seq (.reg [oM s48 t9,oM s49 t0,oP s50 (.len false t49),oQ s51 .lss t48 t50]) (.cond t51
 .skip
 (.exit 2))) (.seq (.blk 3 (.seq (.reg [oM s55 t6,oM s56 t0,oM s57 t9,oP s58 (.iad 7 t56 t57),oF s59 2 t58,oR s60 (.ld true 5 t59),oC s61 42 [t55,t60],oM s54 t61,oE s62 t54 0,oE s63 t54 1,oM s10 t62,oM s11 t63]) (.seq (.reg [oM s64 t11]) (.cond t64
 (.seq (.reg [oM s65 t0,oM s66 t9,oP s67 (.iad 7 t65 t66),oF s68 0 t67,oF s69 0 t68,oG s70 t69,oM s71 t10,oP s72 (.bld [(vi 0),(vi 0),(.str [])] [(0,1,t70),(1,1,(ci 24)),(2,1,t71)]),oM s4 (.c .nilp),oS 3 t5 t72]) .ret)
 .skip)))) (.reg [oM s52 t9,oQ s53 .add t52 (ci 1),oM s9 t53])))
def b11x5:AC:=(.seq (.seq (.reg [oM s25 t8,oM s26 t1,oP s27 (.len false t26),oQ s28 .lss t25 t27,oM s29 t28,⟨some s30,some (s29,true),(.p (.fad 1 t7))⟩,⟨some s31,some (s29,true),(.r (.ldc t30))⟩,⟨some s32,some (s29,true),(.p (.bin .eql eI t31 (ci 0)))⟩,oP s33 (.pick t29 t32 (.c (.bool false)))]) (.cond t33
 .skip
 (.exit 0))) (.seq (.blk 1 (.reg [oM s36 t6,oM s37 t8,oC s38 40 [t36,t37],oS 3 t7 t38])) (.reg [oM s34 t8,oQ s35 .add t34 (ci 1),oM s8 t35])))
def f11:FI:=⟨(.seq (.reg [oM s4 (.c .nilp),oX s5 (.new 0 false false (.cells 53 [(vi 0),(vi 0),(.str [])])) []]) (.seq (.reg [oM s19 t0,oM s20 t1,oP s21 (.bld [vz,vz,vz,vz,vz] [(1,1,t19),(2,1,t20)]),oX s22 (.box 1 true 63 5 t21) [],oM s6 t22]) (.seq (.reg [oM s23 t6,oC s24 39 [t23],oX s7 (.new 2 false false (.cells 53 [(vi 0),(vi 0),(.str [])])) [],oS 3 t7 t24]) (.seq (.seq (.reg [oM s8 (ci 0)]) (.blk 0 (.loop b11x5))) (.seq (.seq (.reg [oF s39 1 t7,oG s40 t39,oQ s41 .eql t40 (ci 0)]) (.cond t41
 (.reg [oM s42 t6,oC s43 41 [t42],oS 3 t7 t43])
 .skip)) (.seq (.seq (.reg [oF s44 1 t7,oG s45 t44,oQ s46 .neq t45 (ci 0)]) (.cond t46
 (.seq (.reg [oR s47 (.ld true 3 t7),oM s4 (.c .nilp),oS 3 t5 t47]) .ret)
 .skip)) (.seq (.seq (.reg [oM s9 (ci 0)]) (.blk 2 (.loop b11x4))) (.seq (.seq (.reg [oM s12 (ci 0)]) (.blk 4 (.loop b11x3))) (.seq (.reg [oM s15 (.c vz)]) (.seq (.seq (.reg [oM s16 (ci 0)]) (.blk 6 (.loop b11x2))) (.seq (.seq (.reg [oM s17 (ci 0)]) (.blk 8 (.loop b11x1))) (.seq (.seq (.reg [oM s18 (ci 0)]) (.blk 10 (.loop b11x0))) (.seq (.reg [oM s181 t6,oC s182 47 [t181,(ci 0)]]) (.seq (.reg [oM s183 t6,oP s184 (.bld [(vi 0),(vi 0),(.str [])] []),oM s4 t183,oS 3 t5 t184]) .ret)))))))))))))),3,[.t s4,.c true 3 s5],none⟩
def b12x0:AC:=(.seq (.reg [oQ s23 .lss t22 t21]) (.seq (.cond t23
 .skip
 (.exit 0)) (.seq (.blk 1 (.seq (.reg [oP s24 (.iad 5 t20 t22),oR s25 (.ld true 5 t24),oX s9 (.new 0 false false (.cells 34 [(vi 0),(.str []),vz,vz,vz])) [],oS 5 t9 t25]) (.reg [oM s26 t7,oM s27 t0,oR s28 (.ld true 5 t9),oC s29 36 [t27,t28],oP s30 (.bsl 1 1 (vi 0) [(0,t29)]),oX s31 (.app 1 0 1 (vi 0) 8 t26 t30) [],oM s7 t31]))) (.reg [oQ s32 .add t22 (ci 1),oM s22 t32]))))
def f12:FI:=⟨(.seq (.reg [oM s4 (.c vz),oM s5 (.c .nili)]) (.seq (.seq (.reg [oM s10 t0,oM s11 t1,oC s12 48 [t10,t11],oM s6 t12]) (.seq (.reg [oM s13 t6,oP s14 (.bin .neq .ptr t13 (.c .nilp))]) (.cond t14
 (.seq (.reg [oM s15 t6,oP s16 (.ifc 94 t15),oM s4 (.c vz),oM s5 t16]) .ret)
 .skip))) (.seq (.reg [oM s17 t1,oP s18 (.len false t17),oX s19 (.mks 0 false false true 1 (vi 0) 8 (ci 0) t18) [],oM s7 t19]) (.seq (.seq (.reg [oM s20 t1,oP s21 (.len false t20),oM s22 (ci 0)]) (.blk 0 (.loop b12x0))) (.seq (.reg [oM s33 t7,oM s4 t33,oM s5 (.c .nili)]) .ret))))),1,[.t s4,.t s5],none⟩
def b13x0:AC:=(.seq (.seq (.reg [oM s90 t16,oM s91 t1,oP s92 (.len false t91),oQ s93 .lss t90 t92]) (.cond t93
 .skip
 (.exit 8))) (.seq (.blk 9 (.reg [oM s96 t15,oM s97 t0,oM s98 t0,oM s99 t1,oM s100 t16,oP s101 (.iad 5 t99 t100),oR s102 (.ld true 5 t101),oC s103 44 [t98,t102],oC s104 52 [t97,t103],oP s105 (.bsl 1 1 (vi 0) [(0,t104)]),oX s106 (.app 1 0 1 (vi 0) 8 t96 t105) [],oM s15 t106])) (.reg [oM s94 t16,oQ s95 .add t94 (ci 1),oM s16 t95])))
def b13x1:AC:=(.seq (.seq (.reg [oM s67 t11,oM s68 t1,oP s69 (.len false t68),oQ s70 .lss t67 t69]) (.cond t70
 .skip
 (.exit 6))) (.seq (.blk 7 (.seq (.reg [oM s74 t0,oM s75 t1,oM s76 t11,oP s77 (.iad 5 t75 t76),oR s78 (.ld true 5 t77),oC s79 42 [t74,t78],oM s73 t79,oE s80 t73 0,oE s81 t73 1,oM s12 t80,oM s13 t81]) (.seq (.reg [oM s82 t13]) (.cond t82
 (.seq (.reg [oM s83 t12,oP s84 (.bld [(vi 0),(vi 0),(.str [])] [(0,1,(ci 0)),(1,1,(ci 24)),(2,1,t83)]),oM s4 (.c vz),oS 3 t5 t84]) .ret)
 .skip)))) (.reg [oM s71 t11,oQ s72 .add t71 (ci 1),oM s11 t72])))
def b13x2:AC:=(.seq (.seq (.reg [oM s51 t10,oM s52 t1,oP s53 (.len false t52),oQ s54 .lss t51 t53]) (.cond t54
 .skip
 (.exit 4))) (.seq (.blk 5 (.reg [oM s57 t9,oM s58 t1,oM s59 t10,oP s60 (.iad 5 t58 t59),oR s61 (.ld true 5 t60),oC s62 51 [t61],oQ s63 .add t57 t62,oM s9 t63])) (.reg [oM s55 t10,oQ s56 .add t55 (ci 1),oM s10 t56])))
def b13x3:AC:=(.seq (.seq (.reg [oM s30 t7,oM s31 t1,oP s32 (.len false t31),oQ s33 .lss t30 t32]) (.cond t33
 .skip
 (.exit 2))) (.seq (.blk 3 (.seq (.reg [oM s36 t0,oM s37 t1,oM s38 t7,oP s39 (.iad 5 t37 t38),oR s40 (.ld true 5 t39),oC s41 50 [t36,t40],oM s8 t41]) (.seq (.reg [oM s42 t8,oP s43 (.bin .neq eS t42 (.c (.str [])))]) (.cond t43
 (.seq (.reg [oM s44 t8,oP s45 (.bld [(vi 0),(vi 0),(.str [])] [(0,1,(ci 0)),(1,1,(ci 21)),(2,1,t44)]),oM s4 (.c vz),oS 3 t5 t45]) .ret)
 .skip)))) (.reg [oM s34 t7,oQ s35 .add t34 (ci 1),oM s7 t35])))
def b13x4:AC:=(.seq (.seq (.reg [oM s17 t6,oM s18 t1,oP s19 (.len false t18),oQ s20 .lss t17 t19]) (.cond t20
 .skip
 (.exit 0))) (.seq (.blk 1 (.seq (.reg [oM s23 t1,oM s24 t6,oP s25 (.iad 5 t23 t24),oR s26 (.ld true 5 t25),oC s27 49 [t26,(ci 64)],oP s28 (.un .not t27)]) (.cond t28
 (.seq (.reg [oP s29 (.bld [(vi 0),(vi 0),(.str [])] [(0,1,(ci 0)),(1,1,(ci 1)),(2,1,(.c (.str [])))]),oM s4 (.c vz),oS 3 t5 t29]) .ret)
 .skip))) (.reg [oM s21 t6,oQ s22 .add t21 (ci 1),oM s6 t22])))
def f13:FI:=⟨(.seq (.reg [oM s4 (.c vz),oX s5 (.new 0 false false (.cells 53 [(vi 0),(vi 0),(.str [])])) []]) (.seq (.seq (.reg [oM s6 (ci 0)]) (.blk 0 (.loop b13x4))) (.seq (.seq (.reg [oM s7 (ci 0)]) (.blk 2 (.loop b13x3))) (.seq (.reg [oM s46 t0,oN s47 t46,oF s48 0 t47,oL s49 t48,oP s50 (.len false t49),oM s9 t50]) (.seq (.seq (.reg [oM s10 (ci 0)]) (.blk 4 (.loop b13x2))) (.seq (.seq (.reg [oM s64 t9,oQ s65 .gtr t64 (ci 1024)]) (.cond t65
 (.seq (.reg [oP s66 (.bld [(vi 0),(vi 0),(.str [])] [(0,1,(ci 0)),(1,1,(ci 23)),(2,1,(.c (.str [])))]),oM s4 (.c vz),oS 3 t5 t66]) .ret)
 .skip)) (.seq (.seq (.reg [oM s11 (ci 0)]) (.blk 6 (.loop b13x1))) (.seq (.reg [oM s85 t0,oN s86 t85,oF s87 0 t86,oL s88 t87,oP s89 (.len false t88),oM s14 t89]) (.seq (.reg [oM s15 (.c vz)]) (.seq (.seq (.reg [oM s16 (ci 0)]) (.blk 8 (.loop b13x0))) (.seq (.reg [oM s107 t0,oM s108 t14,oC s109 47 [t107,t108]]) (.seq (.reg [oM s110 t15,oP s111 (.bld [(vi 0),(vi 0),(.str [])] []),oM s4 t110,oS 3 t5 t111]) .ret)))))))))))),1,[.t s4,.c true 3 s5],none⟩
def b14x0:AC:=(.seq (.reg [oQ s116 .lss t115 t114]) (.seq (.cond t116
 .skip
 (.exit 8)) (.seq (.blk 9 (.seq (.reg [oM s117 t115,oM s15 t117]) (.seq (.reg [oM s118 t11,oN s119 t118,oF s120 2 t119,oL s121 t120,oM s122 t15,oP s123 (.iad 4 t121 t122),oM s16 t123]) (.seq (.reg [oM s124 t16,oM s125 t0,oM s126 t16,oN s127 t126,oF s128 0 t127,oF s129 0 t128,oG s130 t129,oC s131 60 [t125,t130],oN s132 t124,oF s133 0 t132,oF s134 1 t133,oS 1 t134 t131]) (.seq (.reg [oM s135 t16,oM s136 t11,oM s137 t0,oM s138 t16,oN s139 t138,oF s140 0 t139,oF s141 0 t140,oG s142 t141,oC s143 62 [t137,t142],oC s144 61 [t136,t143],oN s145 t135,oF s146 0 t145,oF s147 2 t146,oS 1 t147 t144]) (.reg [oM s148 t16,oM s149 t11,oM s150 t0,oM s151 t16,oN s152 t151,oF s153 0 t152,oF s154 0 t153,oG s155 t154,oC s156 63 [t150,t155],oC s157 61 [t149,t156],oN s158 t148,oF s159 3 t158,oS 1 t159 t157])))))) (.reg [oQ s160 .add t115 (ci 1),oM s115 t160]))))
def b14x1:AC:=(.seq (.seq (.reg [oM s91 t14,oQ s92 .geq t91 (ci 0)]) (.cond t92
 .skip
 (.exit 6))) (.seq (.blk 7 (.reg [oM s95 t11,oN s96 t95,oF s97 2 t96,oL s98 t97,oM s99 t11,oN s100 t99,oF s101 1 t100,oL s102 t101,oM s103 t14,oP s104 (.iad 1 t102 t103),oG s105 t104,oM s106 t14,oP s107 (.iad 4 t98 t105),oF s108 0 t107,oF s109 0 t108,oS 1 t109 t106])) (.reg [oM s93 t14,oQ s94 .sub t93 (ci 1),oM s14 t94])))
def b14x2:AC:=(.seq (.reg [oQ s69 .lss t68 t67]) (.seq (.cond t69
 .skip
 (.exit 4)) (.seq (.blk 5 (.seq (.reg [oP s70 (.iad 1 t66 t68),oG s71 t70,oM s13 t71]) (.reg [oM s72 t11,oM s73 t11,oN s74 t73,oF s75 1 t74,oL s76 t75,oM s77 t5,oN s78 t77,oF s79 2 t78,oG s80 t79,oM s81 t13,oR s82 (.lku false [.i] false (vi 0) t80 t81),oP s83 (.bsl 1 1 (vi 0) [(0,t82)]),oX s84 (.app 4 0 1 (vi 0) 8 t76 t83) [],oN s85 t72,oF s86 1 t85,oS 1 t86 t84]))) (.reg [oQ s87 .add t68 (ci 1),oM s68 t87]))))
def b14x3:AC:=(.seq (.reg [oQ s51 .lss t50 t49]) (.seq (.cond t51
 .skip
 (.exit 2)) (.seq (.blk 3 (.seq (.reg [oM s52 t50,oM s10 t52]) (.reg [oM s53 t5,oM s54 t10,oM s55 t4,oC s56 58 [t53,t54,t55]]))) (.reg [oQ s57 .add t50 (ci 1),oM s50 t57]))))
def b14x4:AC:=(.seq (.reg [oQ s34 .lss t33 t32]) (.seq (.cond t34
 .skip
 (.exit 0)) (.seq (.blk 1 (.seq (.reg [oP s35 (.iad 1 t31 t33),oL s36 t35,oM s7 t36]) (.seq (.reg [oM s38 t0,oM s39 t7,oC s40 57 [t38,t39],oM s37 t40,oE s41 t37 0,oE s42 t37 1,oM s8 t41,oM s9 t42]) (.reg [oM s43 t5,oM s44 t8,oM s45 t4,oC s46 58 [t43,t44,t45]])))) (.reg [oQ s47 .add t33 (ci 1),oM s33 t47]))))
def f14:FI:=⟨(.seq (.reg [oM s2 (.c .nilp)]) (.seq (.seq (.reg [oM s17 t0,oP s18 (.bin .eql .ptr t17 (.c .nilp))]) (.cond t18
 (.seq (.reg [oM s2 (.c .nilp)]) .ret)
 .skip)) (.seq (.reg [oM s19 t0,oC s20 53 [t19],oM s0 t20]) (.seq (.reg [oM s21 t0,oC s22 54 [t21],oM s3 t22]) (.seq (.reg [oM s23 t3,oC s24 55 [t23],oM s4 t24]) (.seq (.reg [oM s25 t0,oM s26 t3,oX s27 (.new 0 false true (.map [])) [],oP s28 (.bld [.nilp,vz,.nilm,(vi 0)] [(0,1,t25),(1,1,t26),(2,1,t27)]),oX s29 (.box 1 false 147 4 t28) [],oM s5 t29]) (.seq (.seq (.reg [oM s30 t0,oC s31 56 [t30],oP s32 (.len false t31),oM s33 (ci 0)]) (.blk 0 (.loop b14x4))) (.seq (.seq (.reg [oM s48 t0,oC s49 59 [t48],oM s50 (ci 0)]) (.blk 2 (.loop b14x3))) (.seq (.reg [oM s58 t0,oM s59 t5,oN s60 t59,oF s61 3 t60,oG s62 t61,oX s63 (.mks 2 true true true 4 (.agg [(vi 0),(.str []),vz,vz]) 72 t62 t62) [],oP s64 (.bld [.nilp,vz,vz] [(0,1,t58),(2,1,t63)]),oX s65 (.box 3 true 68 3 t64) [],oM s11 t65]) (.seq (.seq (.reg [oM s66 t3,oP s67 (.len false t66),oM s68 (ci 0)]) (.blk 4 (.loop b14x2))) (.seq (.seq (.reg [oM s88 t0,oC s89 59 [t88],oQ s90 .sub t89 (ci 1),oM s14 t90]) (.blk 6 (.loop b14x1))) (.seq (.seq (.reg [oM s110 t11,oN s111 t110,oF s112 2 t111,oL s113 t112,oP s114 (.len false t113),oM s115 (ci 0)]) (.blk 8 (.loop b14x0))) (.seq (.reg [oM s161 t11,oM s2 t161]) .ret))))))))))))),4,[.t s2],none⟩
def b15x0:AC:=(.seq (.seq (.reg [oM s101 t13,oM s102 t11,oP s103 (.len false t102),oQ s104 .lss t101 t103]) (.cond t104
 .skip
 (.exit 8))) (.seq (.blk 9 (.reg [oM s107 t12,oM s108 t3,oM s109 t11,oM s110 t13,oP s111 (.iad 1 t109 t110),oG s112 t111,oC s113 70 [t108,t112],oP s114 (.bsl 1 1 (vi 0) [(0,t113)]),oX s115 (.app 2 0 1 (vi 0) 8 t107 t114) [],oM s12 t115])) (.reg [oM s105 t13,oQ s106 .add t105 (ci 1),oM s13 t106])))
def b15x1:AC:=(.seq (.seq (.reg [oM s80 t10,oM s81 t3,oN s82 t81,oF s83 3 t82,oL s84 t83,oP s85 (.len false t84),oQ s86 .lss t80 t85]) (.cond t86
 .skip
 (.exit 6))) (.seq (.blk 7 (.seq (.reg [oM s89 t3,oN s90 t89,oF s91 0 t90,oG s92 t91,oM s93 t3,oN s94 t93,oF s95 3 t94,oL s96 t95,oM s97 t10,oP s98 (.iad 1 t96 t97),oG s99 t98,oC s100 69 [t92,t99],oM s11 t100]) (.seq (.reg [oM s12 (.c vz)]) (.seq (.seq (.reg [oM s13 (ci 0)]) (.blk 8 (.loop b15x0))) (.seq (.reg [oM s116 t3,oM s117 t3,oN s118 t117,oF s119 5 t118,oL s120 t119,oM s121 t12,oP s122 (.bsl 1 1 vz [(0,t121)]),oX s123 (.app 2 0 1 vz 24 t120 t122) [],oN s124 t116,oF s125 5 t124,oS 1 t125 t123]) (.seq (.reg [oM s126 t3,oM s127 t3,oN s128 t127,oF s129 4 t128,oL s130 t129,oM s131 t3,oN s132 t131,oF s133 0 t132,oG s134 t133,oM s135 t3,oN s136 t135,oF s137 3 t136,oL s138 t137,oM s139 t10,oP s140 (.iad 1 t138 t139),oG s141 t140,oX s142 (.call 71 [t134,t141]) [(.l t129)],oP s143 (.bsl 1 1 (.str []) [(0,t142)]),oX s144 (.app 2 0 1 (.str []) 16 t130 t143) [],oN s145 t126,oF s146 4 t145,oS 1 t146 t144]) (.reg [oM s147 t3,oM s148 t3,oN s149 t148,oF s150 6 t149,oL s151 t150,oM s152 t3,oN s153 t152,oF s154 0 t153,oG s155 t154,oN s156 t155,oF s157 0 t156,oL s158 t157,oM s159 t3,oN s160 t159,oF s161 3 t160,oL s162 t161,oM s163 t10,oP s164 (.iad 1 t162 t163),oG s165 t164,oP s166 (.iad 5 t158 t165),oF s167 2 t166,oL s168 t167,oX s169 (.call 72 [t168]) [(.l t150)],oP s170 (.bsl 1 1 vz [(0,t169)]),oX s171 (.app 2 0 1 vz 24 t151 t170) [],oN s172 t147,oF s173 6 t172,oS 1 t173 t171]))))))) (.reg [oM s87 t10,oQ s88 .add t87 (ci 1),oM s10 t88])))
def b15x2:AC:=(.seq (.seq (.reg [oM s68 t9,oM s69 t0,oN s70 t69,oF s71 0 t70,oL s72 t71,oP s73 (.len false t72),oQ s74 .lss t68 t73]) (.cond t74
 .skip
 (.exit 4))) (.seq (.blk 5 (.reg [oM s77 t3,oM s78 t9,oC s79 68 [t77,t78]])) (.reg [oM s75 t9,oQ s76 .add t75 (ci 1),oM s9 t76])))
def b15x3:AC:=(.seq (.seq (.reg [oM s50 t6,oM s51 t5,oP s52 (.len false t51),oQ s53 .lss t50 t52]) (.cond t53
 .skip
 (.exit 2))) (.seq (.blk 3 (.seq (.reg [oM s57 t0,oM s58 t5,oM s59 t6,oP s60 (.iad 1 t58 t59),oL s61 t60,oC s62 67 [t57,t61],oM s56 t62,oE s63 t56 0,oE s64 t56 1,oM s7 t63,oM s8 t64]) (.reg [oM s65 t3,oM s66 t7,oC s67 68 [t65,t66]]))) (.reg [oM s54 t6,oQ s55 .add t54 (ci 1),oM s6 t55])))
def b15x4:AC:=(.seq (.seq (.reg [oM s33 t4,oM s34 t3,oN s35 t34,oF s36 2 t35,oL s37 t36,oP s38 (.len false t37),oQ s39 .lss t33 t38]) (.cond t39
 .skip
 (.exit 0))) (.seq (.blk 1 (.reg [oM s42 t3,oN s43 t42,oF s44 2 t43,oL s45 t44,oM s46 t4,oP s47 (.iad 1 t45 t46),oS 1 t47 (.c (vj 0))])) (.reg [oM s40 t4,oQ s41 .add t40 (ci 1),oM s4 t41])))
def f15:FI:=⟨(.seq (.reg [oM s2 (.c .nilp)]) (.seq (.reg [oM s14 t0,oC s15 64 [t14],oP s16 (.bld [.nilp,vz,vz,vz,vz,vz,vz] [(0,1,t15)]),oX s17 (.box 0 true 161 7 t16) [],oM s3 t17]) (.seq (.reg [oM s18 t3,oM s19 t0,oC s20 65 [t19],oN s21 t18,oF s22 1 t21,oS 1 t22 t20]) (.seq (.reg [oM s23 t3,oM s24 t0,oN s25 t24,oF s26 0 t25,oL s27 t26,oP s28 (.len false t27),oQ s29 .add t28 (ci 2),oX s30 (.mks 1 false true true 1 (vi 0) 8 t29 t29) [],oN s31 t23,oF s32 2 t31,oS 1 t32 t30]) (.seq (.seq (.reg [oM s4 (ci 0)]) (.blk 0 (.loop b15x4))) (.seq (.reg [oM s48 t0,oC s49 66 [t48],oM s5 t49]) (.seq (.seq (.reg [oM s6 (ci 0)]) (.blk 2 (.loop b15x3))) (.seq (.seq (.reg [oM s9 (ci 0)]) (.blk 4 (.loop b15x2))) (.seq (.seq (.reg [oM s10 (ci 0)]) (.blk 6 (.loop b15x1))) (.seq (.reg [oM s174 t3,oM s2 t174]) .ret)))))))))),2,[.t s2],none⟩
def f16:FI:=⟨(.seq (.reg [oX s3 (.box 0 false 41 5 t1) [],oM s4 (.c (.bool false))]) (.seq (.reg [oM s5 t0,oP s6 (.bin .neq .ptr t5 (.c .nilp)),oM s7 t6,⟨some s8,some (s7,true),(.p (.mov t0))⟩,⟨some s10,some (s7,true),(.r (.ld true 5 t3))⟩,⟨some s9,some (s7,true),(.e (.call 17 [t8]) [(.l t3)])⟩,⟨some s11,some (s7,true),(.e (.call 73 [t9,t10]) [])⟩,oP s12 (.pick t7 t11 (.c (.bool false))),oM s4 t12]) .ret)),1,[.t s4],none⟩
def b17x0:AC:=(.seq (.reg [oQ s16 .lss t15 t14]) (.seq (.cond t16
 .skip
 (.exit 0)) (.seq (.blk 1 (.seq (.reg [oM s17 t15,oM s5 t17]) (.seq (.reg [oM s19 t0,oM s20 t5,oC s21 75 [t19,t20],oM s18 t21,oE s22 t18 0,oE s23 t18 1,oM s6 t22,oM s7 t23]) (.seq (.reg [oM s24 t3,oM s25 t3,oN s26 t25,oF s27 1 t26,oL s28 t27,oM s29 t4,oM s30 t6,oX s31 (.call 76 [t29,t30]) [(.l t27)],oP s32 (.bsl 1 1 (vi 0) [(0,t31)]),oX s33 (.app 1 0 1 (vi 0) 8 t28 t32) [],oN s34 t24,oF s35 1 t34,oS 1 t35 t33]) (.reg [oM s36 t3,oM s37 t3,oN s38 t37,oF s39 2 t38,oL s40 t39,oM s41 t4,oM s42 t6,oX s43 (.call 77 [t41,t42]) [(.l t39)],oP s44 (.bsl 1 1 vz [(0,t43)]),oX s45 (.app 1 0 1 vz 24 t40 t44) [],oN s46 t36,oF s47 2 t46,oS 1 t47 t45]))))) (.reg [oQ s48 .add t15 (ci 1),oM s15 t48]))))
def f17:FI:=⟨(.seq (.reg [oM s2 (.c .nilp)]) (.seq (.reg [oM s8 t0,oP s9 (.bld [.nilp,vz,vz] [(0,1,t8)]),oX s10 (.box 0 true 168 3 t9) [],oM s3 t10]) (.seq (.reg [oM s11 t0,oC s12 74 [t11],oM s4 t12]) (.seq (.seq (.reg [oM s13 t0,oC s14 5 [t13],oM s15 (ci 0)]) (.blk 0 (.loop b17x0))) (.seq (.reg [oM s49 t3,oM s2 t49]) .ret))))),1,[.t s2],none⟩
def f18:FI:=⟨(.seq (.reg [oX s3 (.box 0 false 41 5 t1) [],oM s4 (.c (.str [])),oM s5 (ci 0)]) (.seq (.reg [oX s6 (.new 1 false false (.cells 173 [.nilp,vz])) []]) (.seq (.seq (.reg [oM s7 t0,oR s8 (.ld true 5 t3),oC s9 78 [t7,t8,t6],oP s10 (.un .not t9)]) (.cond t10
 (.seq (.reg [oM s4 (.c (.str [])),oM s5 (ci 53)]) .ret)
 .skip)) (.seq (.reg [oC s11 79 [t6],oM s4 t11,oM s5 (ci 0)]) .ret)))),2,[.t s4,.t s5],none⟩
def b19x0:AC:=(.seq (.seq (.reg [oM s11 t6,oN s12 t11,oF s13 3 t12,oG s14 t13,oQ s15 .eql t14 (ci 0),oM s16 t15,⟨some s17,some (s16,true),(.p (.mov t6))⟩,⟨some s18,some (s16,true),(.p (.nilc t17))⟩,⟨some s19,some (s16,true),(.p (.fad 2 t18))⟩,⟨some s20,some (s16,true),(.r (.ldc t19))⟩,⟨some s21,some (s16,true),(.p (.mov t6))⟩,⟨some s22,some (s16,true),(.p (.nilc t21))⟩,⟨some s23,some (s16,true),(.p (.fad 0 t22))⟩,⟨some s24,some (s16,true),(.r (.ld false 1 t23))⟩,⟨some s25,some (s16,true),(.p (.len false t24))⟩,⟨some s26,some (s16,true),(.p (.bin .lss eI t20 t25))⟩,oP s27 (.pick t16 t26 (.c (.bool false)))]) (.cond t27
 .skip
 (.exit 0))) (.blk 1 (.blk 2 (.seq (.reg [oM s31 t6,oC s32 81 [t31,(.c (.str [116,121,112,101]))],oM s30 t32]) (.cond t30
 (.reg [oM s33 t7,oM s34 t6,oC s35 82 [t34],oP s36 (.bsl 1 7 (.agg [(vi 0),(.str []),(vi 0),(.str []),vz,vz,vz]) [(0,t35)]),oX s37 (.app 0 0 7 (.agg [(vi 0),(.str []),(vi 0),(.str []),vz,vz,vz]) 120 t33 t36) [],oM s7 t37])
 (.seq (.reg [oM s39 t6,oC s40 81 [t39,(.c (.str [109,101,116,104,111,100]))],oM s38 t40]) (.cond t38
 (.reg [oM s41 t8,oM s42 t6,oC s43 83 [t42],oP s44 (.bsl 1 10 (.agg [(vi 0),(.str []),(.str []),vz,(vi 0),(.str []),vz,vz,vz,vz]) [(0,t43)]),oX s45 (.app 0 0 10 (.agg [(vi 0),(.str []),(.str []),vz,(vi 0),(.str []),vz,vz,vz,vz]) 184 t41 t44) [],oM s8 t45])
 (.reg [oM s28 t6,oC s29 84 [t28,(ci 13)]]))))))))
def f19:FI:=⟨(.seq (.reg [oM s2 (.c vz),oM s3 (.c vz),oM s4 (ci 0),oM s5 (ci 0)]) (.seq (.reg [oM s9 t0,oC s10 80 [t9],oM s6 t10]) (.seq (.reg [oM s7 (.c vz)]) (.seq (.reg [oM s8 (.c vz)]) (.seq (.blk 0 (.loop b19x0)) (.seq (.seq (.reg [oM s46 t6,oN s47 t46,oF s48 3 t47,oG s49 t48,oQ s50 .neq t49 (ci 0)]) (.cond t50
 (.seq (.reg [oM s51 t6,oN s52 t51,oF s53 4 t52,oG s54 t53,oM s55 t6,oN s56 t55,oF s57 3 t56,oG s58 t57,oM s2 (.c vz),oM s3 (.c vz),oM s4 t54,oM s5 t58]) .ret)
 .skip)) (.seq (.reg [oM s59 t7,oM s60 t8,oM s2 t59,oM s3 t60,oM s4 (ci 0),oM s5 (ci 0)]) .ret))))))),0,[.t s2,.t s3,.t s4,.t s5],none⟩
def f20:FI:=⟨(.seq (.reg [oM s4 (ci 0),oM s5 (.c (.bool false))]) (.seq (.reg [oM s9 t0,oN s10 t9,oF s11 0 t10,oG s12 t11,oM s13 t1,oC s14 57 [t12,t13],oM s8 t14,oE s15 t8 0,oE s16 t8 1,oM s6 t15,oM s7 t16]) (.seq (.seq (.reg [oM s17 t7,oP s18 (.un .not t17)]) (.cond t18
 (.seq (.reg [oM s4 (ci 0),oM s5 (.c (.bool false))]) .ret)
 .skip)) (.seq (.reg [oM s19 t0,oN s20 t19,oF s21 1 t20,oL s22 t21,oM s23 t6,oP s24 (.iad 1 t22 t23),oG s25 t24,oM s4 t25,oM s5 (.c (.bool true))]) .ret)))),0,[.t s4,.t s5],none⟩
def f21:FI:=⟨(.seq (.reg [oM s4 (.c vz)]) (.seq (.reg [oM s8 t0,oM s9 t1,oC s10 85 [t8,t9],oM s7 t10,oE s11 t7 0,oE s12 t7 1,oX s5 (.new 0 false false (.cells 153 [(vi 0),(.str []),vz,vz])) [],oS 4 t5 t11,oM s6 t12]) (.seq (.reg [oP s13 (.bsl 0 1 (vi 0) []),oF s14 0 t5,oF s15 2 t14,oL s16 t15,oX s17 (.app 1 0 1 (vi 0) 8 t13 t16) [],oM s4 t17]) .ret))),1,[.t s4],none⟩
def f22:FI:=⟨(.seq (.reg [oM s4 (.c vz),oM s5 (.c .nili)]) (.seq (.reg [oM s10 t0,oM s11 t1,oC s12 86 [t10,t11],oM s9 t12,oE s13 t9 0,oE s14 t9 1,oE s15 t9 2,oM s6 t13,oM s7 t14,oM s8 t15]) (.seq (.reg [oM s16 t7,oM s17 t8,oM s4 t16,oM s5 t17]) .ret))),0,[.t s4,.t s5],none⟩
def f23:FI:=⟨(.seq (.reg [oX s4 (.box 0 false 41 5 t1) [],oX s6 (.new 1 false false (.cells 41 [(vi 0),(vi 0),(vi 0),(.str []),vz])) [],oM s7 (ci 0)]) (.seq (.reg [oM s8 t0,oR s9 (.ld true 5 t4),oM s10 t2,oP s11 (.bsl 1 1 (.str []) [(0,t10)]),oC s12 24 [t8,t9,t11],oE s13 t12 0,oE s14 t12 1,oS 5 t6 t13,oM s7 t14]) .ret)),2,[.c true 5 s6,.t s7],none⟩
def f24:FI:=⟨(.seq (.reg [oX s4 (.box 0 false 41 5 t1) [],oX s6 (.new 1 false false (.cells 41 [(vi 0),(vi 0),(vi 0),(.str []),vz])) [],oM s7 (ci 0)]) (.seq (.seq (.reg [oM s10 t0,oR s11 (.ld true 5 t4),oC s12 16 [t10,t11],oP s13 (.un .not t12)]) (.cond t13
 (.seq (.reg [oP s14 (.bld [(vi 0),(vi 0),(vi 0),(.str []),vz] []),oS 5 t6 t14,oM s7 (ci 1)]) .ret)
 .skip)) (.seq (.reg [oM s16 t0,oR s18 (.ld true 5 t4),oM s19 t2,oX s8 (.new 2 false false (.cells 41 [(vi 0),(vi 0),(vi 0),(.str []),vz])) [(.l t4)],oX s17 (.call 17 [t16]) [(.l t8),(.l t4)],oX s20 (.call 87 [t17,t18,t19]) [(.l t8)],oM s15 t20,oE s21 t15 0,oE s22 t15 1,oS 5 t8 t21,oM s9 t22]) (.seq (.seq (.reg [oM s23 t9,oQ s24 .neq t23 (ci 0)]) (.cond t24
 (.seq (.reg [oP s25 (.bld [(vi 0),(vi 0),(vi 0),(.str []),vz] []),oM s26 t9,oS 5 t6 t25,oM s7 t26]) .ret)
 .skip)) (.seq (.reg [oR s27 (.ld true 5 t8),oC s28 88 [t27],oS 5 t6 t28,oM s7 (ci 0)]) .ret))))),3,[.c true 5 s6,.t s7],none⟩
def f25:FI:=⟨(.seq (.reg [oX s2 (.box 0 false 41 5 t0) [],oX s3 (.box 1 false 41 5 t1) [],oM s4 (.c (.bool false))]) (.seq (.reg [oF s5 0 t2,oG s6 t5,oF s7 0 t3,oG s8 t7,oQ s9 .eql t6 t8,oM s10 t9,⟨some s11,some (s10,true),(.p (.fad 1 t2))⟩,⟨some s12,some (s10,true),(.r (.ldc t11))⟩,⟨some s13,some (s10,true),(.p (.fad 1 t3))⟩,⟨some s14,some (s10,true),(.r (.ldc t13))⟩,⟨some s15,some (s10,true),(.p (.bin .eql eI t12 t14))⟩,oP s16 (.pick t10 t15 (.c (.bool false))),oM s17 t16,⟨some s18,some (s17,true),(.p (.fad 2 t2))⟩,⟨some s19,some (s17,true),(.r (.ldc t18))⟩,⟨some s20,some (s17,true),(.p (.fad 2 t3))⟩,⟨some s21,some (s17,true),(.r (.ldc t20))⟩,⟨some s22,some (s17,true),(.p (.bin .eql eI t19 t21))⟩,oP s23 (.pick t17 t22 (.c (.bool false))),oM s24 t23,⟨some s25,some (s24,true),(.p (.fad 3 t2))⟩,⟨some s26,some (s24,true),(.r (.ld false 1 t25))⟩,⟨some s27,some (s24,true),(.p (.fad 3 t3))⟩,⟨some s28,some (s24,true),(.r (.ld false 1 t27))⟩,⟨some s29,some (s24,true),(.p (.bin .eql eS t26 t28))⟩,oP s30 (.pick t24 t29 (.c (.bool false))),oM s31 t30,⟨some s32,some (s31,true),(.p (.fad 4 t2))⟩,⟨some s33,some (s31,true),(.r (.ld false 1 t32))⟩,⟨some s34,some (s31,true),(.p (.fad 4 t3))⟩,⟨some s35,some (s31,true),(.r (.ld false 1 t34))⟩,⟨some s36,some (s31,true),(.e (.call 89 [t33,t35,(.c (.fn 25 [] []))]) [])⟩,oP s37 (.pick t31 t36 (.c (.bool false))),oM s4 t37]) .ret)),2,[.t s4],none⟩
def b26x0:AC:=(.seq (.seq (.reg [oM s69 t8,oF s70 2 t2,oL s71 t70,oP s72 (.len false t71),oQ s73 .lss t69 t72,oM s74 t73,⟨some s75,some (s74,true),(.p (.mov t5))⟩,⟨some s76,some (s74,true),(.p (.mov t1))⟩,⟨some s77,some (s74,true),(.p (.bin .lss eI t75 t76))⟩,oP s78 (.pick t74 t77 (.c (.bool false)))]) (.cond t78
 .skip
 (.exit 4))) (.seq (.blk 5 (.reg [oM s81 t5,oF s82 2 t2,oL s83 t82,oM s84 t8,oP s85 (.iad 10 t83 t84),oR s86 (.ld true 10 t85),oM s87 t1,oM s88 t5,oQ s89 .sub t87 t88,oC s90 90 [t86,t89],oQ s91 .add t81 t90,oM s5 t91])) (.reg [oM s79 t8,oQ s80 .add t79 (ci 1),oM s8 t80])))
def b26x1:AC:=(.seq (.seq (.reg [oM s46 t7,oF s47 1 t2,oL s48 t47,oP s49 (.len false t48),oQ s50 .lss t46 t49,oM s51 t50,⟨some s52,some (s51,true),(.p (.mov t5))⟩,⟨some s53,some (s51,true),(.p (.mov t1))⟩,⟨some s54,some (s51,true),(.p (.bin .lss eI t52 t53))⟩,oP s55 (.pick t51 t54 (.c (.bool false)))]) (.cond t55
 .skip
 (.exit 2))) (.seq (.blk 3 (.reg [oM s58 t5,oF s59 1 t2,oL s60 t59,oM s61 t7,oP s62 (.iad 10 t60 t61),oR s63 (.ld true 10 t62),oM s64 t1,oM s65 t5,oQ s66 .sub t64 t65,oC s67 90 [t63,t66],oQ s68 .add t58 t67,oM s5 t68])) (.reg [oM s56 t7,oQ s57 .add t56 (ci 1),oM s7 t57])))
def b26x2:AC:=(.seq (.seq (.reg [oM s13 t6,oF s14 0 t2,oL s15 t14,oP s16 (.len false t15),oQ s17 .lss t13 t16,oM s18 t17,⟨some s19,some (s18,true),(.p (.mov t5))⟩,⟨some s20,some (s18,true),(.p (.mov t1))⟩,⟨some s21,some (s18,true),(.p (.bin .lss eI t19 t20))⟩,oP s22 (.pick t18 t21 (.c (.bool false)))]) (.cond t22
 .skip
 (.exit 0))) (.seq (.blk 1 (.reg [oM s25 t5,oQ s26 .add t25 (ci 1),oF s27 0 t2,oL s28 t27,oM s29 t6,oP s30 (.iad 7 t28 t29),oF s31 1 t30,oL s32 t31,oP s33 (.len true t32),oQ s34 .add t26 t33,oF s35 0 t2,oL s36 t35,oM s37 t6,oP s38 (.iad 7 t36 t37),oF s39 2 t38,oR s40 (.ld true 5 t39),oM s41 t1,oM s42 t5,oQ s43 .sub t41 t42,oX s44 (.call 91 [t40,t43]) [(.l t31),(.l t27)],oQ s45 .add t34 t44,oM s5 t45])) (.reg [oM s23 t6,oQ s24 .add t23 (ci 1),oM s6 t24])))
def f26:FI:=⟨(.seq (.reg [oX s2 (.box 0 false 90 13 t0) [],oM s4 (ci 0)]) (.seq (.reg [oF s9 3 t2,oR s10 (.ld true 10 t9),oM s11 t1,oC s12 90 [t10,t11],oM s5 t12]) (.seq (.seq (.reg [oM s6 (ci 0)]) (.blk 0 (.loop b26x2))) (.seq (.seq (.reg [oM s7 (ci 0)]) (.blk 2 (.loop b26x1))) (.seq (.seq (.reg [oM s8 (ci 0)]) (.blk 4 (.loop b26x0))) (.seq (.reg [oM s92 t5,oM s4 t92]) .ret)))))),1,[.t s4],none⟩
def b27x0:AC:=(.seq (.reg [oQ s41 .lss t40 t39]) (.seq (.cond t41
 .skip
 (.exit 2)) (.seq (.blk 3 (.seq (.reg [oP s42 (.iad 7 t38 t40),oR s43 (.ld true 7 t42),oX s10 (.new 3 false false (.cells 108 [(vi 0),(.str []),(vi 0),(.str []),vz,vz,vz])) [],oS 7 t10 t43]) (.seq (.reg [oF s45 1 t10,oL s46 t45,oP s47 (.bld [(vi 0),(.str []),vz,vz,vz] [(0,1,(ci 4)),(1,1,t46)]),oC s48 93 [t47],oM s44 t48,oE s49 t44 0,oE s50 t44 1,oM s11 t49,oM s12 t50]) (.seq (.reg [oM s51 t12,oQ s52 .neq t51 (ci 0),oM s53 t52,⟨some s54,some (s53,false),(.p (.fad 2 t10))⟩,⟨some s55,some (s53,false),(.r (.ld true 5 t54))⟩,⟨some s56,some (s53,false),(.e (.call 94 [t55]) [])⟩,⟨some s57,some (s53,false),(.p (.un .not t56))⟩,oP s58 (.pick t53 (.c (.bool true)) t57)]) (.cond t58
 (.seq (.reg [oF s59 0 t10,oR s60 (.ld true 1 t59),oF s61 1 t10,oL s62 t61,oC s63 92 [t60,(ci 1),t62],oM s2 (.c .nilm),oM s3 t63]) .ret)
 .skip))))) (.reg [oQ s64 .add t40 (ci 1),oM s40 t64]))))
def b27x1:AC:=(.seq (.reg [oQ s17 .lss t16 t15]) (.seq (.cond t17
 .skip
 (.exit 0)) (.seq (.blk 1 (.seq (.reg [oP s18 (.iad 7 t14 t16),oR s19 (.ld true 7 t18),oX s6 (.new 1 false false (.cells 108 [(vi 0),(.str []),(vi 0),(.str []),vz,vz,vz])) [],oS 7 t6 t19]) (.seq (.seq (.reg [oM s21 t4,oF s22 1 t6,oL s23 t22,oR s24 (.lku false [.s] true (.agg [(vi 0),(.str []),(vi 0),(.str []),vz,vz,vz]) t21 t23),oM s20 t24,oE s25 t20 0,oE s26 t20 1,oX s7 (.new 2 false false (.cells 108 [(vi 0),(.str []),(vi 0),(.str []),vz,vz,vz])) [],oS 7 t7 t25,oM s8 t26]) (.seq (.reg [oM s27 t8]) (.cond t27
 (.seq (.reg [oF s28 0 t6,oR s29 (.ld true 1 t28),oF s30 1 t6,oL s31 t30,oC s32 92 [t29,(ci 20),t31],oM s2 (.c .nilm),oM s3 t32]) .ret)
 .skip))) (.reg [oM s33 t4,oF s34 1 t6,oL s35 t34,oR s36 (.ld true 7 t6),oY (.mup false [.s] t33 t35 t36) []])))) (.reg [oQ s37 .add t16 (ci 1),oM s16 t37]))))
def f27:FI:=⟨(.seq (.reg [oM s2 (.c .nilm),oM s3 (.c .nilp)]) (.seq (.reg [oX s13 (.new 0 true true (.map [])) [],oM s4 t13]) (.seq (.seq (.reg [oM s14 t0,oP s15 (.len false t14),oM s16 (ci 0)]) (.blk 0 (.loop b27x1))) (.seq (.seq (.reg [oM s38 t0,oP s39 (.len false t38),oM s40 (ci 0)]) (.blk 2 (.loop b27x0))) (.seq (.reg [oM s65 t4,oM s2 t65,oM s3 (.c .nilp)]) .ret))))),4,[.t s2,.t s3],none⟩
def b28x0:AC:=(.seq (.reg [oQ s17 .lss t16 t15]) (.seq (.cond t17
 .skip
 (.exit 0)) (.seq (.blk 1 (.seq (.reg [oP s18 (.iad 10 t14 t16),oR s19 (.ld true 10 t18),oX s7 (.new 1 false false (.cells 88 [(vi 0),(.str []),(.str []),vz,(vi 0),(.str []),vz,vz,vz,vz])) [],oS 10 t7 t19]) (.seq (.reg [oR s21 (.ld true 10 t7),oC s22 95 [t21],oM s20 t22,oE s23 t20 0,oE s24 t20 1,oM s8 t23,oM s9 t24]) (.seq (.reg [oM s26 t0,oF s27 1 t7,oL s28 t27,oR s29 (.lku false [.s] true (.agg [(vi 0),(.str []),(vi 0),(.str []),vz,vz,vz]) t26 t28),oM s25 t29,oE s30 t25 0,oE s31 t25 1,oX s10 (.new 2 false false (.cells 108 [(vi 0),(.str []),(vi 0),(.str []),vz,vz,vz])) [],oS 7 t10 t30,oM s11 t31]) (.seq (.reg [oF s32 1 t7,oL s33 t32,oF s34 2 t7,oL s35 t34,oP s36 (.bld [(.str []),(.str [])] [(0,1,t33),(1,1,t35)]),oX s12 (.new 3 false false (.cells 200 [(.str []),(.str [])])) [],oS 2 t12 t36]) (.seq (.reg [oM s37 t5,oR s38 (.ld true 2 t12),oR s39 (.lku true [.s,.s] false (vi 0) t37 t38),oQ s40 .add t39 (ci 1),oX s41 (.men true [.s,.s] (vi 0) t37 t38) [],oE s42 t41 1,oY (.est true [.s,.s] t37 t42 t40) []]) (.blk 2 (.seq (.reg [oF s44 1 t7,oL s45 t44,oP s46 (.bin .eql eS t45 (.c (.str []))),oM s47 t46,⟨some s48,some (s47,false),(.p (.fad 2 t7))⟩,⟨some s49,some (s47,false),(.r (.ld false 1 t48))⟩,⟨some s50,some (s47,false),(.p (.bin .eql eS t49 (.c (.str []))))⟩,oP s51 (.pick t47 (.c (.bool true)) t50),oM s52 t51,⟨some s53,some (s52,false),(.p (.mov t9))⟩,⟨some s54,some (s52,false),(.p (.bin .eql eI t53 (ci 1)))⟩,oP s55 (.pick t52 (.c (.bool true)) t54),oM s43 t55]) (.cond t43
 (.seq (.reg [oF s56 0 t7,oR s57 (.ld true 1 t56),oF s58 2 t7,oL s59 t58,oC s60 92 [t57,(ci 1),t59],oM s4 t60]) .ret)
 (.seq (.reg [oM s62 t11,oP s63 (.un .not t62),oM s64 t63,⟨some s65,some (s64,false),(.p (.fad 2 t10))⟩,⟨some s66,some (s64,false),(.p (.fad 0 t65))⟩,⟨some s67,some (s64,false),(.r (.ldc t66))⟩,⟨some s68,some (s64,false),(.p (.bin .neq eI t67 (ci 6)))⟩,oP s69 (.pick t64 (.c (.bool true)) t68),oM s61 t69]) (.cond t61
 (.seq (.reg [oF s70 0 t7,oR s71 (.ld true 1 t70),oF s72 2 t7,oL s73 t72,oC s74 92 [t71,(ci 25),t73],oM s4 t74]) .ret)
 (.seq (.reg [oM s76 t5,oR s77 (.ld true 2 t12),oR s78 (.lku true [.s,.s] false (vi 0) t76 t77),oQ s79 .gtr t78 (ci 1),oM s80 t79,⟨some s81,some (s80,false),(.p (.fad 2 t10))⟩,⟨some s82,some (s80,false),(.p (.fad 2 t81))⟩,⟨some s83,some (s80,false),(.r (.ld false 1 t82))⟩,⟨some s84,some (s80,false),(.p (.fad 2 t7))⟩,⟨some s85,some (s80,false),(.r (.ld false 1 t84))⟩,⟨some s86,some (s80,false),(.e (.call 96 [t83,t85]) [])⟩,oP s87 (.pick t80 (.c (.bool true)) t86),oM s75 t87]) (.cond t75
 (.seq (.reg [oF s88 0 t7,oR s89 (.ld true 1 t88),oF s90 2 t7,oL s91 t90,oC s92 92 [t89,(ci 20),t91],oM s4 t92]) .ret)
 .skip))))))))))))) (.reg [oQ s93 .add t16 (ci 1),oM s16 t93]))))
def f28:FI:=⟨(.seq (.reg [oM s4 (.c .nilp)]) (.seq (.reg [oX s13 (.new 0 false true (.map [])) [],oM s5 t13]) (.seq (.seq (.reg [oM s14 t1,oP s15 (.len false t14),oM s16 (ci 0)]) (.blk 0 (.loop b28x0))) (.seq (.reg [oM s4 (.c .nilp)]) .ret)))),4,[.t s4],none⟩
def b29x0:AC:=(.seq (.reg [oQ s30 .lss t29 t28]) (.seq (.cond t30
 .skip
 (.exit 2)) (.seq (.blk 3 (.seq (.reg [oP s31 (.iad 10 t27 t29),oR s32 (.ld true 10 t31),oX s9 (.new 1 false false (.cells 88 [(vi 0),(.str []),(.str []),vz,(vi 0),(.str []),vz,vz,vz,vz])) [],oS 10 t9 t32]) (.reg [oM s33 t5,oF s34 0 t9,oR s35 (.ld true 1 t34),oF s36 2 t9,oL s37 t36,oR s38 (.ld true 10 t9),oX s39 (.call 97 [t38]) [(.l t36),(.l t34)],oP s40 (.bld [(vi 0),(.str []),(vi 0),(.str []),vz,vz,vz] [(0,1,t35),(1,1,t37),(2,5,t39)]),oP s41 (.bsl 1 7 (.agg [(vi 0),(.str []),(vi 0),(.str []),vz,vz,vz]) [(0,t40)]),oX s42 (.app 2 0 7 (.agg [(vi 0),(.str []),(vi 0),(.str []),vz,vz,vz]) 120 t33 t41) [],oM s5 t42]))) (.reg [oQ s43 .add t29 (ci 1),oM s29 t43]))))
def b29x1:AC:=(.seq (.reg [oQ s13 .lss t12 t11]) (.seq (.cond t13
 .skip
 (.exit 0)) (.seq (.blk 1 (.seq (.reg [oP s14 (.iad 7 t10 t12),oR s15 (.ld true 7 t14),oX s7 (.new 0 false false (.cells 108 [(vi 0),(.str []),(vi 0),(.str []),vz,vz,vz])) [],oS 7 t7 t15]) (.reg [oM s16 t5,oF s17 0 t7,oR s18 (.ld true 1 t17),oF s19 1 t7,oL s20 t19,oF s21 2 t7,oR s22 (.ld true 5 t21),oP s23 (.bld [(vi 0),(.str []),(vi 0),(.str []),vz,vz,vz] [(0,1,t18),(1,1,t20),(2,5,t22)]),oP s24 (.bsl 1 7 (.agg [(vi 0),(.str []),(vi 0),(.str []),vz,vz,vz]) [(0,t23)]),oX s25 (.app 1 0 7 (.agg [(vi 0),(.str []),(vi 0),(.str []),vz,vz,vz]) 120 t16 t24) [],oM s5 t25]))) (.reg [oQ s26 .add t12 (ci 1),oM s12 t26]))))
def f29:FI:=⟨(.seq (.reg [oM s4 (.c vz)]) (.seq (.reg [oM s5 (.c vz)]) (.seq (.seq (.reg [oM s10 t0,oP s11 (.len false t10),oM s12 (ci 0)]) (.blk 0 (.loop b29x1))) (.seq (.seq (.reg [oM s27 t1,oP s28 (.len false t27),oM s29 (ci 0)]) (.blk 2 (.loop b29x0))) (.seq (.reg [oM s44 t5,oM s4 t44]) .ret))))),2,[.t s4],none⟩
end Go.Abs.Run
namespace Go.Abs.Run
open Go Go.Abs Go.Proofs
def b30x0:AC:=(.seq (.reg [oQ s84 .lss t83 t82]) (.seq (.cond t84
 .skip
 (.exit 6)) (.seq (.blk 7 (.seq (.reg [oP s85 (.iad 7 t81 t83),oR s86 (.ld true 7 t85),oX s20 (.new 4 false false (.cells 118 [(vi 0),(.str []),(vi 0),(.str []),vz,vz,vz])) [],oS 7 t20 t86]) (.seq (.reg [oM s88 t0,oF s89 2 t20,oR s90 (.ld true 5 t89),oC s91 99 [t88,t90],oM s87 t91,oE s92 t87 0,oE s93 t87 1,oM s21 t92,oM s22 t93]) (.seq (.reg [oM s94 t22]) (.cond t94
 (.seq (.reg [oF s95 0 t20,oR s96 (.ld true 1 t95),oM s97 t21,oC s98 92 [t96,(ci 24),t97],oM s6 t98]) .ret)
 .skip))))) (.reg [oQ s99 .add t83 (ci 1),oM s83 t99]))))
def b30x1:AC:=(.seq (.reg [oQ s67 .lss t66 t65]) (.seq (.cond t67
 .skip
 (.exit 4)) (.seq (.blk 5 (.seq (.reg [oP s68 (.iad 7 t64 t66),oR s69 (.ld true 7 t68),oX s18 (.new 3 false false (.cells 118 [(vi 0),(.str []),(vi 0),(.str []),vz,vz,vz])) [],oS 7 t18 t69]) (.reg [oM s70 t16,oF s71 2 t18,oR s72 (.ld true 5 t71),oP s73 (.bsl 1 5 (.agg [(vi 0),(.str []),vz,vz,vz]) [(0,t72)]),oC s74 31 [t73],oQ s75 .add t70 t74,oM s16 t75]))) (.reg [oQ s76 .add t66 (ci 1),oM s66 t76]))))
def b30x2:AC:=(.seq (.reg [oQ s45 .lss t44 t43]) (.seq (.cond t45
 .skip
 (.exit 2)) (.seq (.blk 3 (.seq (.reg [oP s46 (.iad 7 t42 t44),oR s47 (.ld true 7 t46),oX s12 (.new 1 false false (.cells 108 [(vi 0),(.str []),(vi 0),(.str []),vz,vz,vz])) [],oS 7 t12 t47]) (.seq (.reg [oM s49 t0,oF s50 2 t12,oR s51 (.ld true 5 t50),oC s52 32 [t49,t51],oM s48 t52,oE s53 t48 0,oE s54 t48 1,oE s55 t48 2,oX s13 (.new 2 false false (.cells 34 [(vi 0),(.str []),vz,vz,vz])) [],oS 5 t13 t53,oM s14 t54,oM s15 t55]) (.seq (.reg [oM s56 t15,oP s57 (.un .not t56)]) (.cond t57
 (.seq (.reg [oF s58 0 t12,oR s59 (.ld true 1 t58),oF s60 1 t12,oL s61 t60,oC s62 92 [t59,(ci 22),t61],oM s6 t62]) .ret)
 .skip))))) (.reg [oQ s63 .add t44 (ci 1),oM s44 t63]))))
def b30x3:AC:=(.seq (.reg [oQ s26 .lss t25 t24]) (.seq (.cond t26
 .skip
 (.exit 0)) (.seq (.blk 1 (.seq (.reg [oP s27 (.iad 7 t23 t25),oR s28 (.ld true 7 t27),oX s8 (.new 0 false false (.cells 118 [(vi 0),(.str []),(vi 0),(.str []),vz,vz,vz])) [],oS 7 t8 t28]) (.seq (.reg [oM s30 t0,oF s31 2 t8,oR s32 (.ld true 5 t31),oC s33 98 [t30,t32],oM s29 t33,oE s34 t29 0,oE s35 t29 1,oM s9 t34,oM s10 t35]) (.seq (.reg [oM s36 t10]) (.cond t36
 (.seq (.reg [oF s37 0 t8,oR s38 (.ld true 1 t37),oM s39 t9,oC s40 92 [t38,(ci 21),t39],oM s6 t40]) .ret)
 .skip))))) (.reg [oQ s41 .add t25 (ci 1),oM s25 t41]))))
def f30:FI:=⟨(.seq (.reg [oM s6 (.c .nilp)]) (.seq (.seq (.reg [oM s23 t2,oP s24 (.len false t23),oM s25 (ci 0)]) (.blk 0 (.loop b30x3))) (.seq (.seq (.reg [oM s42 t1,oP s43 (.len false t42),oM s44 (ci 0)]) (.blk 2 (.loop b30x2))) (.seq (.reg [oM s16 (ci 0)]) (.seq (.seq (.reg [oM s64 t2,oP s65 (.len false t64),oM s66 (ci 0)]) (.blk 4 (.loop b30x1))) (.seq (.seq (.reg [oM s77 t16,oQ s78 .gtr t77 (ci 1024)]) (.cond t78
 (.seq (.reg [oP s79 (.bld [(vi 0)] []),oC s80 92 [t79,(ci 23),(.c (.str []))],oM s6 t80]) .ret)
 .skip)) (.seq (.seq (.reg [oM s81 t2,oP s82 (.len false t81),oM s83 (ci 0)]) (.blk 6 (.loop b30x0))) (.seq (.reg [oM s6 (.c .nilp)]) .ret)))))))),5,[.t s6],none⟩
def b31x0:AC:=(.seq (.reg [oQ s9 .lss t8 t7]) (.seq (.cond t9
 .skip
 (.exit 0)) (.seq (.blk 1 (.seq (.reg [oP s10 (.iad 5 t6 t8),oR s11 (.ld true 5 t10),oX s5 (.new 0 false false (.cells 34 [(vi 0),(.str []),vz,vz,vz])) [],oS 5 t5 t11]) (.seq (.seq (.reg [oF s12 0 t5,oG s13 t12,oQ s14 .neq t13 (ci 4)]) (.cond t14
 (.reg [oM s15 t3,oQ s16 .add t15 (ci 1),oM s3 t16])
 .skip)) (.reg [oM s17 t3,oF s18 4 t5,oL s19 t18,oC s20 31 [t19],oQ s21 .add t17 t20,oM s3 t21])))) (.reg [oQ s22 .add t8 (ci 1),oM s8 t22]))))
def f31:FI:=⟨(.seq (.reg [oM s2 (ci 0)]) (.seq (.reg [oM s3 (ci 0)]) (.seq (.seq (.reg [oM s6 t0,oP s7 (.len false t6),oM s8 (ci 0)]) (.blk 0 (.loop b31x0))) (.seq (.reg [oM s23 t3,oM s2 t23]) .ret)))),1,[.t s2],none⟩
def b32x0:AC:=(.seq (.seq (.reg [oF s12 0 t3,oG s13 t12,oQ s14 .eql t13 (ci 4)]) (.cond t14
 .skip
 (.exit 0))) (.blk 1 (.seq (.reg [oM s16 t0,oF s17 1 t3,oL s18 t17,oR s19 (.lku false [.s] true (.agg [(vi 0),(.str []),(vi 0),(.str []),vz,vz,vz]) t16 t18),oM s15 t19,oE s20 t15 0,oE s21 t15 1,oX s9 (.new 3 false false (.cells 108 [(vi 0),(.str []),(vi 0),(.str []),vz,vz,vz])) [],oS 7 t9 t20,oM s10 t21]) (.seq (.seq (.reg [oM s22 t8,oF s23 1 t3,oL s24 t23,oR s25 (.lku false [.s] false (vi 0) t22 t24),oQ s26 .add t25 (ci 1),oY (.mup false [.s] t22 t24 t26) []]) (.seq (.reg [oM s27 t10,oP s28 (.un .not t27),oM s29 t28,⟨some s30,some (s29,false),(.p (.mov t8))⟩,⟨some s31,some (s29,false),(.p (.fad 1 t3))⟩,⟨some s32,some (s29,false),(.r (.ld false 1 t31))⟩,⟨some s33,some (s29,false),(.r (.lku false [.s] false (vi 0) t30 t32))⟩,⟨some s34,some (s29,false),(.p (.bin .gtr eI t33 (ci 1)))⟩,oP s35 (.pick t29 (.c (.bool true)) t34)]) (.cond t35
 (.seq (.reg [oP s36 (.bld [(vi 0),(.str []),vz,vz,vz] []),oS 5 t4 t36,oM s5 (.c (.str [])),oM s6 (.c (.bool false))]) .ret)
 .skip))) (.reg [oF s37 1 t3,oL s38 t37,oF s39 2 t9,oR s40 (.ld true 5 t39),oM s7 t38,oS 5 t3 t40])))))
def f32:FI:=⟨(.seq (.reg [oX s3 (.box 0 false 34 5 t1) [],oX s4 (.new 1 false false (.cells 34 [(vi 0),(.str []),vz,vz,vz])) [],oM s5 (.c (.str [])),oM s6 (.c (.bool false))]) (.seq (.reg [oM s7 (.c (.str []))]) (.seq (.reg [oX s11 (.new 2 false true (.map [])) [],oM s8 t11]) (.seq (.blk 0 (.loop b32x0)) (.seq (.reg [oR s41 (.ld true 5 t3),oM s42 t7,oS 5 t4 t41,oM s5 t42,oM s6 (.c (.bool true))]) .ret))))),4,[.c true 5 s4,.t s5,.t s6],none⟩
def f33:FI:=⟨(.seq (.reg [oM s5 t0,oP s6 (.len false t5),oM s4 t6]) (.reg [oM s7 t0,oM s8 t4,oM s9 t4,oP s10 (.cvi .u64 t9),oC s11 101 [t10],oM s12 t1,oC s13 100 [t7,(ci 0),t8,t11,t12]])),0,[],none⟩
def f35:FI:=⟨(.seq (.reg [oM s4 (ci 0)]) (.seq (.blk 0 (.seq (.reg [oM s6 t0,oM s7 t1,oP s8 (.bin .lss eS t6 t7),oM s5 t8]) (.cond t5
 (.seq (.reg [oM s4 (.c (vj 0))]) .ret)
 (.seq (.reg [oM s10 t0,oM s11 t1,oP s12 (.bin .gtr eS t10 t11),oM s9 t12]) (.cond t9
 (.seq (.reg [oM s4 (ci 1)]) .ret)
 .skip))))) (.seq (.reg [oM s4 (ci 0)]) .ret))),0,[.t s4],none⟩
def b36x0:AC:=(.seq (.reg [oQ s50 .lss t49 t48]) (.seq (.cond t50
 .skip
 (.exit 0)) (.seq (.blk 1 (.seq (.reg [oP s51 (.iad 5 t47 t49),oR s52 (.ld true 5 t51),oX s10 (.new 2 false false (.cells 34 [(vi 0),(.str []),vz,vz,vz])) [],oS 5 t10 t52]) (.reg [oM s53 t8,oM s54 t0,oR s55 (.ld true 5 t10),oC s56 36 [t54,t55],oP s57 (.bsl 1 1 (vi 0) [(0,t56)]),oX s58 (.app 3 0 1 (vi 0) 8 t53 t57) [],oM s8 t58]))) (.reg [oQ s59 .add t49 (ci 1),oM s49 t59]))))
def f36:FI:=⟨(.seq (.reg [oX s3 (.box 0 false 34 5 t1) [],oM s4 (ci 0)]) (.seq (.seq (.reg [oF s11 0 t3,oG s12 t11,oQ s13 .eql t12 (ci 4)]) (.cond t13
 (.seq (.reg [oM s15 t0,oF s16 1 t3,oL s17 t16,oC s18 57 [t15,t17],oM s14 t18,oE s19 t14 0,oE s20 t14 1,oM s5 t19,oM s6 t20]) (.seq (.reg [oM s21 t5,oM s4 t21]) .ret))
 .skip)) (.seq (.reg [oM s22 t0,oN s23 t22,oF s24 0 t23,oL s25 t24,oP s26 (.len false t25),oM s7 t26]) (.seq (.reg [oM s27 t0,oM s28 t0,oN s29 t28,oF s30 0 t29,oL s31 t30,oF s32 0 t3,oG s33 t32,oP s34 (.bld [(vi 0),vz] [(0,1,t33)]),oF s35 2 t3,oL s36 t35,oF s38 3 t3,oL s39 t38,oX s37 (.call 102 [t36]) [(.l t38),(.c t32),(.l t30)],oX s40 (.call 103 [t39]) [(.c t32),(.l t30)],oP s41 (.bld [(vi 0),vz,vz,vz,(.str [])] [(0,2,t34),(2,1,t37),(3,1,t40)]),oP s42 (.bsl 1 5 (.agg [(vi 0),vz,vz,vz,(.str [])]) [(0,t41)]),oX s43 (.app 1 2 5 (.agg [(vi 0),vz,vz,vz,(.str [])]) 96 t31 t42) [],oN s44 t27,oF s45 0 t44,oS 1 t45 t43]) (.seq (.reg [oM s8 (.c vz)]) (.seq (.seq (.reg [oF s46 4 t3,oL s47 t46,oP s48 (.len false t47),oM s49 (ci 0)]) (.blk 0 (.loop b36x0))) (.seq (.reg [oM s60 t0,oN s61 t60,oF s62 0 t61,oL s63 t62,oM s64 t7,oM s65 t8,oP s66 (.iad 5 t63 t64),oF s67 0 t66,oF s68 1 t67,oS 1 t68 t65]) (.seq (.reg [oM s69 t7,oM s4 t69]) .ret)))))))),3,[.t s4],none⟩
def f37:FI:=⟨(.seq (.reg [oM s5 t0,oP s6 (.len false t5),oM s4 t6]) (.reg [oM s7 t0,oM s8 t4,oM s9 t4,oP s10 (.cvi .u64 t9),oC s11 101 [t10],oM s12 t1,oC s13 104 [t7,(ci 0),t8,t11,t12]])),0,[],none⟩
def b39x0:AC:=(.seq (.seq (.reg [oM s44 t4,oM s45 t0,oN s46 t45,oF s47 1 t46,oL s48 t47,oP s49 (.len false t48),oQ s50 .lss t44 t49]) (.cond t50
 .skip
 (.exit 2))) (.seq (.blk 3 (.seq (.reg [oM s53 t0,oN s54 t53,oF s55 1 t54,oL s56 t55,oM s57 t4,oP s58 (.iad 7 t56 t57),oF s59 1 t58,oL s60 t59,oC s61 105 [t60],oP s62 (.un .not t61),oM s63 t62,⟨some s64,some (s63,false),(.p (.mov t0))⟩,⟨some s65,some (s63,false),(.p (.nilc t64))⟩,⟨some s66,some (s63,false),(.p (.fad 1 t65))⟩,⟨some s67,some (s63,false),(.r (.ld false 1 t66))⟩,⟨some s68,some (s63,false),(.p (.mov t4))⟩,⟨some s69,some (s63,false),(.p (.iad 7 t67 t68))⟩,⟨some s70,some (s63,false),(.p (.fad 2 t69))⟩,⟨some s71,some (s63,false),(.r (.ld true 5 t70))⟩,⟨some s72,some (s63,false),(.e (.call 49 [t71,(ci 64)]) [])⟩,⟨some s73,some (s63,false),(.p (.un .not t72))⟩,oP s74 (.pick t63 (.c (.bool true)) t73)]) (.cond t74
 (.seq (.reg [oM s75 t0,oN s76 t75,oF s77 1 t76,oL s78 t77,oM s79 t4,oP s80 (.iad 7 t78 t79),oF s81 0 t80,oF s82 0 t81,oG s83 t82,oM s84 t0,oN s85 t84,oF s86 1 t85,oL s87 t86,oM s88 t4,oP s89 (.iad 7 t87 t88),oF s90 1 t89,oL s91 t90,oP s92 (.bld [(vi 0),(vi 0),(.str [])] [(0,1,t83),(1,1,(ci 1)),(2,1,t91)]),oS 3 t2 t92]) .ret)
 .skip))) (.reg [oM s51 t4,oQ s52 .add t51 (ci 1),oM s4 t52])))
def b39x1:AC:=(.seq (.seq (.reg [oM s5 t3,oM s6 t0,oN s7 t6,oF s8 1 t7,oL s9 t8,oP s10 (.len false t9),oQ s11 .lss t5 t10]) (.cond t11
 .skip
 (.exit 0))) (.seq (.blk 1 (.seq (.reg [oM s14 t0,oM s15 t0,oN s16 t15,oF s17 1 t16,oL s18 t17,oM s19 t3,oP s20 (.iad 7 t18 t19),oF s21 1 t20,oL s22 t21,oC s23 46 [t14,t22],oM s24 t3,oQ s25 .lss t23 t24]) (.cond t25
 (.seq (.reg [oM s26 t0,oN s27 t26,oF s28 1 t27,oL s29 t28,oM s30 t3,oP s31 (.iad 7 t29 t30),oF s32 0 t31,oF s33 0 t32,oG s34 t33,oM s35 t0,oN s36 t35,oF s37 1 t36,oL s38 t37,oM s39 t3,oP s40 (.iad 7 t38 t39),oF s41 1 t40,oL s42 t41,oP s43 (.bld [(vi 0),(vi 0),(.str [])] [(0,1,t34),(1,1,(ci 20)),(2,1,t42)]),oS 3 t2 t43]) .ret)
 .skip))) (.reg [oM s12 t3,oQ s13 .add t12 (ci 1),oM s3 t13])))
def f39:FI:=⟨(.seq (.reg [oX s2 (.new 0 false false (.cells 53 [(vi 0),(vi 0),(.str [])])) []]) (.seq (.seq (.reg [oM s3 (ci 0)]) (.blk 0 (.loop b39x1))) (.seq (.seq (.reg [oM s4 (ci 0)]) (.blk 2 (.loop b39x0))) (.seq (.reg [oP s93 (.bld [(vi 0),(vi 0),(.str [])] []),oS 3 t2 t93]) .ret)))),1,[.c true 3 s2],none⟩
def b41x0:AC:=(.seq (.seq (.reg [oM s126 t10,oM s127 t0,oN s128 t127,oF s129 2 t128,oL s130 t129,oP s131 (.len false t130),oQ s132 .lss t126 t131]) (.cond t132
 .skip
 (.exit 8))) (.seq (.blk 9 (.reg [oM s135 t8,oM s136 t0,oN s137 t136,oF s138 2 t137,oL s139 t138,oM s140 t10,oP s141 (.iad 10 t139 t140),oR s142 (.ld true 10 t141),oC s143 43 [t142],oC s144 51 [t143],oQ s145 .add t135 t144,oM s8 t145])) (.reg [oM s133 t10,oQ s134 .add t133 (ci 1),oM s10 t134])))
def b41x1:AC:=(.seq (.seq (.reg [oM s106 t9,oM s107 t0,oN s108 t107,oF s109 1 t108,oL s110 t109,oP s111 (.len false t110),oQ s112 .lss t106 t111]) (.cond t112
 .skip
 (.exit 6))) (.seq (.blk 7 (.reg [oM s115 t8,oM s116 t0,oN s117 t116,oF s118 1 t117,oL s119 t118,oM s120 t9,oP s121 (.iad 7 t119 t120),oF s122 2 t121,oR s123 (.ld true 5 t122),oC s124 51 [t123],oQ s125 .add t115 t124,oM s8 t125])) (.reg [oM s113 t9,oQ s114 .add t113 (ci 1),oM s9 t114])))
def b41x2:AC:=(.seq (.seq (.reg [oM s75 t7,oM s76 t0,oN s77 t76,oF s78 1 t77,oL s79 t78,oP s80 (.len false t79),oQ s81 .lss t75 t80]) (.cond t81
 .skip
 (.exit 4))) (.seq (.blk 5 (.seq (.reg [oM s84 t0,oM s85 t7,oC s86 45 [t84,t85],oQ s87 .lss t86 (ci 0)]) (.cond t87
 (.seq (.reg [oM s88 t0,oN s89 t88,oF s90 1 t89,oL s91 t90,oM s92 t7,oP s93 (.iad 7 t91 t92),oF s94 0 t93,oF s95 0 t94,oG s96 t95,oM s97 t0,oN s98 t97,oF s99 1 t98,oL s100 t99,oM s101 t7,oP s102 (.iad 7 t100 t101),oF s103 1 t102,oL s104 t103,oP s105 (.bld [(vi 0),(vi 0),(.str [])] [(0,1,t96),(1,1,(ci 22)),(2,1,t104)]),oS 3 t2 t105]) .ret)
 .skip))) (.reg [oM s82 t7,oQ s83 .add t82 (ci 1),oM s7 t83])))
def b41x3:AC:=(.seq (.seq (.reg [oM s43 t5,oM s44 t0,oN s45 t44,oF s46 2 t45,oL s47 t46,oP s48 (.len false t47),oQ s49 .lss t43 t48]) (.cond t49
 .skip
 (.exit 2))) (.seq (.blk 3 (.seq (.reg [oM s52 t0,oM s53 t0,oN s54 t53,oF s55 2 t54,oL s56 t55,oM s57 t5,oP s58 (.iad 10 t56 t57),oR s59 (.ld true 10 t58),oC s60 43 [t59],oC s61 50 [t52,t60],oM s6 t61]) (.seq (.reg [oM s62 t6,oP s63 (.bin .neq eS t62 (.c (.str [])))]) (.cond t63
 (.seq (.reg [oM s64 t0,oN s65 t64,oF s66 2 t65,oL s67 t66,oM s68 t5,oP s69 (.iad 10 t67 t68),oF s70 0 t69,oF s71 0 t70,oG s72 t71,oM s73 t6,oP s74 (.bld [(vi 0),(vi 0),(.str [])] [(0,1,t72),(1,1,(ci 21)),(2,1,t73)]),oS 3 t2 t74]) .ret)
 .skip)))) (.reg [oM s50 t5,oQ s51 .add t50 (ci 1),oM s5 t51])))
def b41x4:AC:=(.seq (.seq (.reg [oM s11 t3,oM s12 t0,oN s13 t12,oF s14 1 t13,oL s15 t14,oP s16 (.len false t15),oQ s17 .lss t11 t16]) (.cond t17
 .skip
 (.exit 0))) (.seq (.blk 1 (.seq (.reg [oM s20 t0,oM s21 t0,oN s22 t21,oF s23 1 t22,oL s24 t23,oM s25 t3,oP s26 (.iad 7 t24 t25),oF s27 2 t26,oR s28 (.ld true 5 t27),oC s29 50 [t20,t28],oM s4 t29]) (.seq (.reg [oM s30 t4,oP s31 (.bin .neq eS t30 (.c (.str [])))]) (.cond t31
 (.seq (.reg [oM s32 t0,oN s33 t32,oF s34 1 t33,oL s35 t34,oM s36 t3,oP s37 (.iad 7 t35 t36),oF s38 0 t37,oF s39 0 t38,oG s40 t39,oM s41 t4,oP s42 (.bld [(vi 0),(vi 0),(.str [])] [(0,1,t40),(1,1,(ci 21)),(2,1,t41)]),oS 3 t2 t42]) .ret)
 .skip)))) (.reg [oM s18 t3,oQ s19 .add t18 (ci 1),oM s3 t19])))
def f41:FI:=⟨(.seq (.reg [oX s2 (.new 0 false false (.cells 53 [(vi 0),(vi 0),(.str [])])) []]) (.seq (.seq (.reg [oM s3 (ci 0)]) (.blk 0 (.loop b41x4))) (.seq (.seq (.reg [oM s5 (ci 0)]) (.blk 2 (.loop b41x3))) (.seq (.seq (.reg [oM s7 (ci 0)]) (.blk 4 (.loop b41x2))) (.seq (.reg [oM s8 (ci 0)]) (.seq (.seq (.reg [oM s9 (ci 0)]) (.blk 6 (.loop b41x1))) (.seq (.seq (.reg [oM s10 (ci 0)]) (.blk 8 (.loop b41x0))) (.seq (.seq (.reg [oM s146 t8,oQ s147 .gtr t146 (ci 1024)]) (.cond t147
 (.seq (.reg [oP s148 (.bld [(vi 0),(vi 0),(.str [])] [(0,1,(ci 0)),(1,1,(ci 23)),(2,1,(.c (.str [])))]),oS 3 t2 t148]) .ret)
 .skip)) (.seq (.reg [oP s149 (.bld [(vi 0),(vi 0),(.str [])] []),oS 3 t2 t149]) .ret))))))))),1,[.c true 3 s2],none⟩
def b42x0:AC:=(.seq (.seq (.reg [oM s9 t6,oF s10 4 t3,oL s11 t10,oP s12 (.len false t11),oQ s13 .lss t9 t12]) (.cond t13
 .skip
 (.exit 0))) (.seq (.blk 1 (.seq (.seq (.reg [oF s16 0 t3,oG s17 t16,oQ s18 .eql t17 (ci 6),oM s19 t18,⟨some s20,some (s19,true),(.p (.fad 3 t3))⟩,⟨some s21,some (s19,true),(.r (.ld false 1 t20))⟩,⟨some s22,some (s19,true),(.p (.mov t6))⟩,⟨some s23,some (s19,true),(.p (.iad 1 t21 t22))⟩,⟨some s24,some (s19,true),(.r (.ldc t23))⟩,oP s25 (.pick t19 t24 (.c (.bool false))),oM s26 t25,⟨some s27,some (s26,true),(.p (.mov t0))⟩,⟨some s28,some (s26,true),(.p (.fad 4 t3))⟩,⟨some s29,some (s26,true),(.r (.ld false 1 t28))⟩,⟨some s30,some (s26,true),(.p (.mov t6))⟩,⟨some s31,some (s26,true),(.p (.iad 5 t29 t30))⟩,⟨some s32,some (s26,true),(.r (.ld true 5 t31))⟩,⟨some s33,some (s26,true),(.e (.call 107 [t27,t32]) [])⟩,⟨some s34,some (s26,true),(.p (.un .not t33))⟩,oP s35 (.pick t26 t34 (.c (.bool false)))]) (.cond t35
 (.seq (.reg [oF s36 2 t3,oL s37 t36,oM s38 t6,oP s39 (.iad 1 t37 t38),oL s40 t39,oM s4 t40,oM s5 (.c (.bool true))]) .ret)
 .skip)) (.seq (.reg [oM s42 t0,oF s43 4 t3,oL s44 t43,oM s45 t6,oP s46 (.iad 5 t44 t45),oR s47 (.ld true 5 t46),oC s48 42 [t42,t47],oM s41 t48,oE s49 t41 0,oE s50 t41 1,oM s7 t49,oM s8 t50]) (.seq (.reg [oM s51 t8]) (.cond t51
 (.seq (.reg [oM s52 t7,oM s4 t52,oM s5 (.c (.bool true))]) .ret)
 .skip))))) (.reg [oM s14 t6,oQ s15 .add t14 (ci 1),oM s6 t15])))
def f42:FI:=⟨(.seq (.reg [oX s3 (.box 0 false 34 5 t1) [],oM s4 (.c (.str [])),oM s5 (.c (.bool false))]) (.seq (.seq (.reg [oM s6 (ci 0)]) (.blk 0 (.loop b42x0))) (.seq (.reg [oM s4 (.c (.str [])),oM s5 (.c (.bool false))]) .ret))),1,[.t s4,.t s5],none⟩
def b44x0:AC:=(.seq (.seq (.reg [oM s41 t7,oF s42 4 t3,oL s43 t42,oP s44 (.len false t43),oQ s45 .lss t41 t44]) (.cond t45
 .skip
 (.exit 0))) (.seq (.blk 1 (.reg [oM s48 t6,oM s49 t0,oF s50 4 t3,oL s51 t50,oM s52 t7,oP s53 (.iad 5 t51 t52),oR s54 (.ld true 5 t53),oC s55 44 [t49,t54],oP s56 (.bsl 1 1 (vi 0) [(0,t55)]),oX s57 (.app 2 2 1 (vi 0) 8 t48 t56) [],oM s6 t57])) (.reg [oM s46 t7,oQ s47 .add t46 (ci 1),oM s7 t47])))
def f44:FI:=⟨(.seq (.reg [oX s3 (.box 0 false 34 5 t1) [],oM s4 (ci 0)]) (.seq (.seq (.reg [oF s8 0 t3,oG s9 t8,oQ s10 .eql t9 (ci 4)]) (.cond t10
 (.seq (.reg [oM s11 t0,oF s12 1 t3,oL s13 t12,oC s14 46 [t11,t13],oQ s15 .sub (.c (vj 0)) t14,oM s4 t15]) .ret)
 .skip)) (.seq (.reg [oM s16 t0,oN s17 t16,oF s18 0 t17,oL s19 t18,oP s20 (.len false t19),oM s5 t20]) (.seq (.reg [oM s21 t0,oM s22 t0,oN s23 t22,oF s24 0 t23,oL s25 t24,oF s26 0 t3,oG s27 t26,oP s28 (.bsl 0 1 (.str []) []),oF s29 2 t3,oL s30 t29,oP s32 (.bsl 0 1 (.bool false) []),oF s33 3 t3,oL s34 t33,oX s31 (.app 1 0 1 (.str []) 16 t28 t30) [(.l t33),(.c t26),(.l t24)],oX s35 (.app 1 0 1 (.bool false) 1 t32 t34) [(.c t26),(.l t24)],oP s36 (.bld [(vi 0),vz,vz,vz,(.str [])] [(0,1,t27),(2,1,t31),(3,1,t35)]),oP s37 (.bsl 1 5 (.agg [(vi 0),vz,vz,vz,(.str [])]) [(0,t36)]),oX s38 (.app 1 2 5 (.agg [(vi 0),vz,vz,vz,(.str [])]) 96 t25 t37) [],oN s39 t21,oF s40 0 t39,oS 1 t40 t38]) (.seq (.reg [oM s6 (.c vz)]) (.seq (.seq (.reg [oM s7 (ci 0)]) (.blk 0 (.loop b44x0))) (.seq (.reg [oM s58 t0,oN s59 t58,oF s60 0 t59,oL s61 t60,oM s62 t5,oM s63 t6,oP s64 (.iad 5 t61 t62),oF s65 1 t64,oS 1 t65 t63]) (.seq (.reg [oM s66 t5,oM s4 t66]) .ret)))))))),3,[.t s4],none⟩
def b45x0:AC:=(.seq (.seq (.reg [oM s6 t5,oM s7 t0,oN s8 t7,oF s9 1 t8,oL s10 t9,oP s11 (.len false t10),oQ s12 .leq t6 t11]) (.cond t12
 .skip
 (.exit 0))) (.seq (.blk 1 (.seq (.seq (.reg [oM s15 t0,oN s16 t15,oF s17 1 t16,oL s18 t17,oM s19 t1,oP s20 (.iad 7 t18 t19),oF s21 2 t20,oF s22 0 t21,oG s23 t22,oQ s24 .neq t23 (ci 4)]) (.cond t24
 (.seq (.reg [oM s25 t1,oM s4 t25]) .ret)
 .skip)) (.reg [oM s26 t0,oM s27 t0,oN s28 t27,oF s29 1 t28,oL s30 t29,oM s31 t1,oP s32 (.iad 7 t30 t31),oF s33 2 t32,oF s34 1 t33,oL s35 t34,oC s36 46 [t26,t35],oM s1 t36]))) (.reg [oM s13 t5,oQ s14 .add t13 (ci 1),oM s5 t14])))
def f45:FI:=⟨(.seq (.reg [oM s4 (ci 0)]) (.seq (.seq (.reg [oM s5 (ci 0)]) (.blk 0 (.loop b45x0))) (.seq (.reg [oM s4 (.c (vj 0))]) .ret))),0,[.t s4],none⟩
def b46x0:AC:=(.seq (.seq (.reg [oM s6 t5,oM s7 t0,oN s8 t7,oF s9 1 t8,oL s10 t9,oP s11 (.len false t10),oQ s12 .lss t6 t11]) (.cond t12
 .skip
 (.exit 0))) (.seq (.blk 1 (.seq (.reg [oM s15 t0,oN s16 t15,oF s17 1 t16,oL s18 t17,oM s19 t5,oP s20 (.iad 7 t18 t19),oF s21 1 t20,oL s22 t21,oM s23 t1,oP s24 (.bin .eql eS t22 t23)]) (.cond t24
 (.seq (.reg [oM s25 t5,oM s4 t25]) .ret)
 .skip))) (.reg [oM s13 t5,oQ s14 .add t13 (ci 1),oM s5 t14])))
def f46:FI:=⟨(.seq (.reg [oM s4 (ci 0)]) (.seq (.seq (.reg [oM s5 (ci 0)]) (.blk 0 (.loop b46x0))) (.seq (.reg [oM s4 (.c (vj 0))]) .ret))),0,[.t s4],none⟩
def b47x0:AC:=(.seq (.seq (.reg [oM s16 t5,oM s17 t0,oN s18 t17,oF s19 0 t18,oL s20 t19,oM s21 t4,oP s22 (.iad 5 t20 t21),oF s23 1 t22,oL s24 t23,oP s25 (.len false t24),oQ s26 .lss t16 t25]) (.cond t26
 .skip
 (.exit 2))) (.seq (.blk 3 (.reg [oM s29 t0,oN s30 t29,oF s31 0 t30,oL s32 t31,oM s33 t4,oP s34 (.iad 5 t32 t33),oF s35 1 t34,oL s36 t35,oM s37 t5,oM s38 t0,oM s39 t0,oN s40 t39,oF s41 0 t40,oL s42 t41,oM s43 t4,oP s44 (.iad 5 t42 t43),oF s45 1 t44,oL s46 t45,oM s47 t5,oP s48 (.iad 1 t46 t47),oG s49 t48,oX s50 (.call 52 [t38,t49]) [(.l t35),(.l t31)],oP s51 (.iad 1 t36 t37),oS 1 t51 t50])) (.reg [oM s27 t5,oQ s28 .add t27 (ci 1),oM s5 t28])))
def b47x1:AC:=(.seq (.seq (.reg [oM s7 t4,oM s8 t0,oN s9 t8,oF s10 0 t9,oL s11 t10,oP s12 (.len false t11),oQ s13 .lss t7 t12]) (.cond t13
 .skip
 (.exit 0))) (.seq (.blk 1 (.seq (.reg [oM s5 (ci 0)]) (.blk 2 (.loop b47x0)))) (.reg [oM s14 t4,oQ s15 .add t14 (ci 1),oM s4 t15])))
def f47:FI:=⟨(.seq (.reg [oM s6 t1,oM s4 t6]) (.blk 0 (.loop b47x1))),0,[],none⟩
def b48x0:AC:=(.seq (.reg [oQ s71 .lss t70 t69]) (.seq (.cond t71
 .skip
 (.exit 6)) (.seq (.blk 7 (.seq (.reg [oP s72 (.iad 5 t68 t70),oR s73 (.ld true 5 t72),oX s15 (.new 3 false false (.cells 34 [(vi 0),(.str []),vz,vz,vz])) [],oS 5 t15 t73]) (.seq (.reg [oM s75 t0,oR s76 (.ld true 5 t15),oC s77 109 [t75,t76],oM s74 t77,oE s78 t74 0,oE s79 t74 1,oM s16 t78,oM s17 t79]) (.seq (.reg [oM s80 t17]) (.cond t80
 (.seq (.reg [oP s81 (.bld [(vi 0)] []),oM s82 t16,oC s83 92 [t81,(ci 24),t82],oM s4 t83]) .ret)
 .skip))))) (.reg [oQ s84 .add t70 (ci 1),oM s70 t84]))))
def b48x1:AC:=(.seq (.reg [oQ s55 .lss t54 t53]) (.seq (.cond t55
 .skip
 (.exit 4)) (.seq (.blk 5 (.seq (.reg [oP s56 (.iad 5 t52 t54),oR s57 (.ld true 5 t56),oX s13 (.new 2 false false (.cells 34 [(vi 0),(.str []),vz,vz,vz])) [],oS 5 t13 t57]) (.seq (.reg [oM s58 t11,oR s59 (.ld true 5 t13),oP s60 (.bsl 1 5 (.agg [(vi 0),(.str []),vz,vz,vz]) [(0,t59)]),oC s61 31 [t60],oQ s62 .add t58 t61,oM s11 t62]) (.seq (.reg [oM s63 t11,oQ s64 .gtr t63 (ci 1024)]) (.cond t64
 (.seq (.reg [oP s65 (.bld [(vi 0)] []),oC s66 92 [t65,(ci 23),(.c (.str []))],oM s4 t66]) .ret)
 .skip))))) (.reg [oQ s67 .add t54 (ci 1),oM s54 t67]))))
def b48x2:AC:=(.seq (.reg [oQ s33 .lss t32 t31]) (.seq (.cond t33
 .skip
 (.exit 2)) (.seq (.blk 3 (.seq (.reg [oP s34 (.iad 5 t30 t32),oR s35 (.ld true 5 t34),oX s8 (.new 1 false false (.cells 34 [(vi 0),(.str []),vz,vz,vz])) [],oS 5 t8 t35]) (.seq (.reg [oM s37 t0,oR s38 (.ld true 5 t8),oC s39 108 [t37,t38],oM s36 t39,oE s40 t36 0,oE s41 t36 1,oM s9 t40,oM s10 t41]) (.seq (.reg [oM s42 t10]) (.cond t42
 (.seq (.reg [oP s43 (.bld [(vi 0)] []),oM s44 t9,oC s45 92 [t43,(ci 21),t44],oM s4 t45]) .ret)
 .skip))))) (.reg [oQ s46 .add t32 (ci 1),oM s32 t46]))))
def b48x3:AC:=(.seq (.reg [oQ s21 .lss t20 t19]) (.seq (.cond t21
 .skip
 (.exit 0)) (.seq (.blk 1 (.seq (.reg [oP s22 (.iad 5 t18 t20),oR s23 (.ld true 5 t22),oX s6 (.new 0 false false (.cells 34 [(vi 0),(.str []),vz,vz,vz])) [],oS 5 t6 t23]) (.seq (.reg [oR s24 (.ld true 5 t6),oC s25 94 [t24],oP s26 (.un .not t25)]) (.cond t26
 (.seq (.reg [oP s27 (.bld [(vi 0)] []),oC s28 92 [t27,(ci 1),(.c (.str []))],oM s4 t28]) .ret)
 .skip)))) (.reg [oQ s29 .add t20 (ci 1),oM s20 t29]))))
def f48:FI:=⟨(.seq (.reg [oM s4 (.c .nilp)]) (.seq (.seq (.reg [oM s18 t1,oP s19 (.len false t18),oM s20 (ci 0)]) (.blk 0 (.loop b48x3))) (.seq (.seq (.reg [oM s30 t1,oP s31 (.len false t30),oM s32 (ci 0)]) (.blk 2 (.loop b48x2))) (.seq (.reg [oM s47 t0,oN s48 t47,oF s49 0 t48,oL s50 t49,oP s51 (.len false t50),oM s11 t51]) (.seq (.seq (.reg [oM s52 t1,oP s53 (.len false t52),oM s54 (ci 0)]) (.blk 4 (.loop b48x1))) (.seq (.seq (.reg [oM s68 t1,oP s69 (.len false t68),oM s70 (ci 0)]) (.blk 6 (.loop b48x0))) (.seq (.reg [oM s4 (.c .nilp)]) .ret))))))),4,[.t s4],none⟩
def b49x0:AC:=(.seq (.seq (.reg [oM s121 t7,oF s122 4 t2,oL s123 t122,oP s124 (.len false t123),oQ s125 .lss t121 t124]) (.cond t125
 .skip
 (.exit 3))) (.seq (.blk 4 (.seq (.reg [oF s128 4 t2,oL s129 t128,oM s130 t7,oP s131 (.iad 5 t129 t130),oF s132 0 t131,oG s133 t132,oQ s134 .neq t133 (ci 7)]) (.cond t134
 (.seq (.reg [oM s4 (.c (.bool false))]) .ret)
 .skip))) (.reg [oM s126 t7,oQ s127 .add t126 (ci 1),oM s7 t127])))
def b49x1:AC:=(.seq (.seq (.reg [oM s10 t5,oF s11 4 t2,oL s12 t11,oP s13 (.len false t12),oQ s14 .lss t10 t13]) (.cond t14
 .skip
 (.exit 0))) (.seq (.blk 1 (.seq (.reg [oF s17 4 t2,oL s18 t17,oM s19 t5,oP s20 (.iad 5 t18 t19),oR s21 (.ld true 5 t20),oM s22 t1,oQ s23 .sub t22 (ci 1),oC s24 49 [t21,t23],oP s25 (.un .not t24)]) (.cond t25
 (.seq (.reg [oM s4 (.c (.bool false))]) .ret)
 .skip))) (.reg [oM s15 t5,oQ s16 .add t15 (ci 1),oM s5 t16])))
def f49:FI:=⟨(.seq (.reg [oX s2 (.box 0 false 34 5 t0) [],oM s4 (.c (.bool false))]) (.seq (.seq (.reg [oM s8 t1,oQ s9 .eql t8 (ci 0)]) (.cond t9
 (.seq (.reg [oM s4 (.c (.bool false))]) .ret)
 .skip)) (.seq (.seq (.reg [oM s5 (ci 0)]) (.blk 0 (.loop b49x1))) (.seq (.reg [oF s26 1 t2,oL s27 t26,oP s28 (.bin .eql eS t27 (.c (.str []))),oM s29 t28,⟨some s30,some (s29,true),(.p (.fad 2 t2))⟩,⟨some s31,some (s29,true),(.r (.ld false 1 t30))⟩,⟨some s32,some (s29,true),(.p (.len false t31))⟩,⟨some s33,some (s29,true),(.p (.bin .eql eI t32 (ci 0)))⟩,oP s34 (.pick t29 t33 (.c (.bool false))),oM s35 t34,⟨some s36,some (s35,true),(.p (.fad 3 t2))⟩,⟨some s37,some (s35,true),(.r (.ld false 1 t36))⟩,⟨some s38,some (s35,true),(.p (.len false t37))⟩,⟨some s39,some (s35,true),(.p (.bin .eql eI t38 (ci 0)))⟩,oP s40 (.pick t35 t39 (.c (.bool false))),oM s6 t40]) (.seq (.seq (.reg [oF s41 0 t2,oG s42 t41]) (.blk 2 (.seq (.seq (.reg [oQ s44 .eql t42 (ci 1),oM s43 t44]) (.cond t43
 .skip
 (.seq (.reg [oQ s45 .eql t42 (ci 2),oM s43 t45]) (.cond t43
 .skip
 (.reg [oQ s46 .eql t42 (ci 3),oM s43 t46]))))) (.cond t43
 (.seq (.reg [oM s47 t6,oM s48 t47,⟨some s49,some (s48,true),(.p (.fad 4 t2))⟩,⟨some s50,some (s48,true),(.r (.ld false 1 t49))⟩,⟨some s51,some (s48,true),(.p (.len false t50))⟩,⟨some s52,some (s48,true),(.p (.bin .eql eI t51 (ci 0)))⟩,oP s53 (.pick t48 t52 (.c (.bool false))),oM s4 t53]) .ret)
 (.seq (.reg [oQ s55 .eql t42 (ci 4),oM s54 t55]) (.cond t54
 (.seq (.reg [oF s56 1 t2,oL s57 t56,oC s58 105 [t57],oM s59 t58,⟨some s60,some (s59,true),(.p (.fad 2 t2))⟩,⟨some s61,some (s59,true),(.r (.ld false 1 t60))⟩,⟨some s62,some (s59,true),(.p (.len false t61))⟩,⟨some s63,some (s59,true),(.p (.fad 3 t2))⟩,⟨some s64,some (s59,true),(.r (.ld false 1 t63))⟩,⟨some s65,some (s59,true),(.p (.len false t64))⟩,⟨some s66,some (s59,true),(.p (.bin .add eI t62 t65))⟩,⟨some s67,some (s59,true),(.p (.fad 4 t2))⟩,⟨some s68,some (s59,true),(.r (.ld false 1 t67))⟩,⟨some s69,some (s59,true),(.p (.len false t68))⟩,⟨some s70,some (s59,true),(.p (.bin .add eI t66 t69))⟩,⟨some s71,some (s59,true),(.p (.bin .eql eI t70 (ci 0)))⟩,oP s72 (.pick t59 t71 (.c (.bool false))),oM s4 t72]) .ret)
 (.seq (.reg [oQ s74 .eql t42 (ci 5),oM s73 t74]) (.cond t73
 (.seq (.reg [oM s75 t6,oM s76 t75,⟨some s77,some (s76,true),(.p (.fad 4 t2))⟩,⟨some s78,some (s76,true),(.r (.ld false 1 t77))⟩,⟨some s79,some (s76,true),(.p (.len false t78))⟩,⟨some s80,some (s76,true),(.p (.bin .eql eI t79 (ci 1)))⟩,oP s81 (.pick t76 t80 (.c (.bool false))),oM s4 t81]) .ret)
 (.seq (.reg [oQ s83 .eql t42 (ci 7),oM s82 t83]) (.cond t82
 (.seq (.reg [oM s84 t6,oM s85 t84,⟨some s86,some (s85,true),(.p (.fad 4 t2))⟩,⟨some s87,some (s85,true),(.r (.ld false 1 t86))⟩,⟨some s88,some (s85,true),(.p (.len false t87))⟩,⟨some s89,some (s85,true),(.p (.bin .gtr eI t88 (ci 0)))⟩,oP s90 (.pick t85 t89 (.c (.bool false))),oM s4 t90]) .ret)
 (.seq (.reg [oQ s92 .eql t42 (ci 6),oM s91 t92]) (.cond t91
 (.seq (.reg [oF s93 1 t2,oL s94 t93,oP s95 (.bin .eql eS t94 (.c (.str []))),oM s96 t95,⟨some s97,some (s96,true),(.p (.fad 2 t2))⟩,⟨some s98,some (s96,true),(.r (.ld false 1 t97))⟩,⟨some s99,some (s96,true),(.p (.len false t98))⟩,⟨some s100,some (s96,true),(.p (.fad 4 t2))⟩,⟨some s101,some (s96,true),(.r (.ld false 1 t100))⟩,⟨some s102,some (s96,true),(.p (.len false t101))⟩,⟨some s103,some (s96,true),(.p (.bin .eql eI t99 t102))⟩,oP s104 (.pick t96 t103 (.c (.bool false))),oM s105 t104,⟨some s106,some (s105,true),(.p (.fad 3 t2))⟩,⟨some s107,some (s105,true),(.r (.ld false 1 t106))⟩,⟨some s108,some (s105,true),(.p (.len false t107))⟩,⟨some s109,some (s105,true),(.p (.fad 4 t2))⟩,⟨some s110,some (s105,true),(.r (.ld false 1 t109))⟩,⟨some s111,some (s105,true),(.p (.len false t110))⟩,⟨some s112,some (s105,true),(.p (.bin .eql eI t108 t111))⟩,oP s113 (.pick t105 t112 (.c (.bool false))),oM s114 t113,⟨some s115,some (s114,true),(.p (.fad 2 t2))⟩,⟨some s116,some (s114,true),(.r (.ld false 1 t115))⟩,⟨some s117,some (s114,true),(.e (.call 110 [t116]) [])⟩,oP s118 (.pick t114 t117 (.c (.bool false))),oM s4 t118]) .ret)
 (.seq (.reg [oQ s120 .eql t42 (ci 8),oM s119 t120]) (.cond t119
 (.seq (.seq (.reg [oM s7 (ci 0)]) (.blk 3 (.loop b49x0))) (.seq (.reg [oF s135 1 t2,oL s136 t135,oP s137 (.bin .eql eS t136 (.c (.str []))),oM s138 t137,⟨some s139,some (s138,true),(.p (.fad 2 t2))⟩,⟨some s140,some (s138,true),(.r (.ld false 1 t139))⟩,⟨some s141,some (s138,true),(.p (.len false t140))⟩,⟨some s142,some (s138,true),(.p (.fad 4 t2))⟩,⟨some s143,some (s138,true),(.r (.ld false 1 t142))⟩,⟨some s144,some (s138,true),(.p (.len false t143))⟩,⟨some s145,some (s138,true),(.p (.bin .eql eI t141 t144))⟩,oP s146 (.pick t138 t145 (.c (.bool false))),oM s147 t146,⟨some s148,some (s147,true),(.p (.fad 3 t2))⟩,⟨some s149,some (s147,true),(.r (.ld false 1 t148))⟩,⟨some s150,some (s147,true),(.p (.len false t149))⟩,⟨some s151,some (s147,true),(.p (.bin .eql eI t150 (ci 0)))⟩,oP s152 (.pick t147 t151 (.c (.bool false))),oM s153 t152,⟨some s154,some (s153,true),(.p (.fad 2 t2))⟩,⟨some s155,some (s153,true),(.r (.ld false 1 t154))⟩,⟨some s156,some (s153,true),(.e (.call 110 [t155]) [])⟩,oP s157 (.pick t153 t156 (.c (.bool false))),oM s4 t157]) .ret))
 .skip)))))))))))))) (.seq (.reg [oM s4 (.c (.bool false))]) .ret)))))),1,[.t s4],none⟩
def b50x0:AC:=(.seq (.seq (.reg [oM s9 t6,oM s10 t5,oP s11 (.len false t10),oQ s12 .lss t9 t11]) (.cond t12
 .skip
 (.exit 0))) (.seq (.blk 1 (.seq (.reg [oM s15 t0,oM s16 t5,oM s17 t6,oP s18 (.iad 1 t16 t17),oL s19 t18,oC s20 46 [t15,t19],oQ s21 .lss t20 (ci 0)]) (.cond t21
 (.seq (.reg [oM s22 t5,oM s23 t6,oP s24 (.iad 1 t22 t23),oL s25 t24,oM s4 t25]) .ret)
 .skip))) (.reg [oM s13 t6,oQ s14 .add t13 (ci 1),oM s6 t14])))
def f50:FI:=⟨(.seq (.reg [oX s3 (.box 0 false 34 5 t1) [],oM s4 (.c (.str []))]) (.seq (.reg [oR s7 (.ld true 5 t3),oC s8 111 [(.c vz),t7],oM s5 t8]) (.seq (.seq (.reg [oM s6 (ci 0)]) (.blk 0 (.loop b50x0))) (.seq (.reg [oM s4 (.c (.str []))]) .ret)))),1,[.t s4],none⟩
def b51x0:AC:=(.seq (.seq (.reg [oM s8 t4,oF s9 4 t1,oL s10 t9,oP s11 (.len false t10),oQ s12 .lss t8 t11]) (.cond t12
 .skip
 (.exit 0))) (.seq (.blk 1 (.reg [oM s15 t3,oF s16 4 t1,oL s17 t16,oM s18 t4,oP s19 (.iad 5 t17 t18),oR s20 (.ld true 5 t19),oC s21 51 [t20],oQ s22 .add t15 t21,oM s3 t22])) (.reg [oM s13 t4,oQ s14 .add t13 (ci 1),oM s4 t14])))
def f51:FI:=⟨(.seq (.reg [oX s1 (.box 0 false 34 5 t0) [],oM s2 (ci 0)]) (.seq (.reg [oM s3 (ci 1)]) (.seq (.seq (.reg [oF s5 0 t1,oG s6 t5,oQ s7 .eql t6 (ci 4)]) (.cond t7
 (.reg [oM s3 (ci 0)])
 .skip)) (.seq (.seq (.reg [oM s4 (ci 0)]) (.blk 0 (.loop b51x0))) (.seq (.reg [oM s23 t3,oM s2 t23]) .ret))))),1,[.t s2],none⟩
def f52:FI:=⟨(.seq (.reg [oM s4 (ci 0)]) (.seq (.seq (.reg [oM s5 t1,oQ s6 .geq t5 (ci 0)]) (.cond t6
 (.seq (.reg [oM s7 t1,oM s4 t7]) .ret)
 .skip)) (.seq (.reg [oM s8 t0,oN s9 t8,oF s10 4 t9,oL s11 t10,oM s12 t1,oQ s13 .sub (.c (vj 0)) t12,oP s14 (.iad 1 t11 t13),oG s15 t14,oM s4 t15]) .ret))),0,[.t s4],none⟩
def f53:FI:=⟨(.seq (.reg [oM s2 (.c .nilp)]) (.seq (.reg [oM s3 t0,oN s4 t3,oF s5 0 t4,oL s6 t5,oM s8 t0,oN s9 t8,oF s10 1 t9,oL s11 t10,oM s13 t0,oN s14 t13,oF s15 2 t14,oL s16 t15,oX s7 (.call 112 [t6]) [(.l t15),(.l t10)],oX s12 (.call 113 [t11]) [(.l t15)],oC s17 114 [t16],oP s18 (.bld [vz,vz,vz] [(0,1,t7),(1,1,t12),(2,1,t17)]),oX s19 (.box 0 true 105 3 t18) [],oM s2 t19]) .ret)),1,[.t s2],none⟩
def b54x0:AC:=(.seq (.reg [oQ s60 .lss t59 t58]) (.seq (.cond t60
 .skip
 (.exit 6)) (.seq (.blk 7 (.seq (.reg [oP s61 (.iad 1 t57 t59),oG s62 t61,oM s13 t62]) (.reg [oM s63 t11,oP s64 (.bsl 1 1 (vu 0) [(0,(cu 32))]),oM s66 t4,oM s67 t13,oP s68 (.iad 1 t66 t67),oG s69 t68,oX s65 (.app 5 0 1 (vu 0) 1 t63 t64) [(.c t68)],oC s70 116 [t65,t69,(ci 36)],oM s11 t70]))) (.reg [oQ s71 .add t59 (ci 1),oM s59 t71]))))
def b54x1:AC:=(.seq (.reg [oQ s47 .lss t46 t45]) (.seq (.cond t47
 .skip
 (.exit 4)) (.seq (.blk 5 (.seq (.reg [oM s48 t46,oM s10 t48]) (.seq (.reg [oM s49 t4,oM s50 t10,oP s51 (.iad 1 t49 t50),oG s52 t51,oC s53 116 [(.c vz),t52,(ci 36)],oM s11 t53]) (.seq (.seq (.reg [oM s54 t5,oM s55 t10,oP s56 (.iad 1 t54 t55),oL s57 t56,oP s58 (.len false t57),oM s59 (ci 0)]) (.blk 6 (.loop b54x0))) (.reg [oM s72 t9,oM s73 t10,oM s74 t6,oM s75 t11,oR s76 (.b2s t75),oC s77 115 [t74,t76],oP s78 (.iad 1 t72 t73),oS 1 t78 t77]))))) (.reg [oQ s79 .add t46 (ci 1),oM s46 t79]))))
def b54x2:AC:=(.blk 3 (.seq (.reg [oX s42 (.new 3 false true (.map [])) [],oM s6 t42]) (.seq (.reg [oM s43 t3,oX s44 (.mks 4 false true true 1 (vi 0) 8 t43 t43) [],oM s9 t44]) (.seq (.seq (.reg [oM s45 t3,oM s46 (ci 0)]) (.blk 4 (.loop b54x1))) (.seq (.seq (.reg [oM s80 t6,oR s81 (.mlen t80),oM s82 t8,oQ s83 .eql t81 t82]) (.cond t83
 (.seq (.reg [oM s84 t4,oM s2 t84]) .ret)
 .skip)) (.reg [oM s85 t9,oM s86 t6,oR s87 (.mlen t86),oM s4 t85,oM s8 t87]))))))
def b54x3:AC:=(.seq (.reg [oQ s23 .lss t22 t21]) (.seq (.cond t23
 .skip
 (.exit 0)) (.seq (.blk 1 (.seq (.reg [oM s24 t22,oM s7 t24]) (.seq (.reg [oM s25 t5,oM s26 t7,oM s27 t0,oM s28 t7,oC s29 62 [t27,t28],oP s30 (.iad 1 t25 t26),oS 1 t30 t29]) (.reg [oM s31 t4,oM s32 t7,oM s33 t6,oM s34 t0,oM s35 t7,oC s36 60 [t34,t35],oC s37 115 [t33,t36],oP s38 (.iad 1 t31 t32),oS 1 t38 t37])))) (.reg [oQ s39 .add t22 (ci 1),oM s22 t39]))))
def f54:FI:=⟨(.seq (.reg [oM s2 (.c vz)]) (.seq (.reg [oM s14 t0,oC s15 59 [t14],oM s3 t15]) (.seq (.reg [oM s16 t3,oX s17 (.mks 0 false true true 1 (vi 0) 8 t16 t16) [],oM s4 t17]) (.seq (.reg [oM s18 t3,oX s19 (.mks 1 false true true 1 vz 24 t18 t18) [],oM s5 t19]) (.seq (.reg [oX s20 (.new 2 false true (.map [])) [],oM s6 t20]) (.seq (.seq (.reg [oM s21 t3,oM s22 (ci 0)]) (.blk 0 (.loop b54x3))) (.seq (.reg [oM s40 t6,oR s41 (.mlen t40),oM s8 t41]) (.blk 2 (.loop b54x2))))))))),5,[.t s2],none⟩
def b55x0:AC:=(.seq (.seq (.reg [oM s13 t3,oP s14 (.len false t13),oM s15 t5,oQ s16 .leq t14 t15]) (.cond t16
 .skip
 (.exit 2))) (.blk 3 (.reg [oM s17 t3,oP s18 (.bsl 1 1 (vi 0) [(0,(.c (vj 0)))]),oX s19 (.app 0 1 1 (vi 0) 8 t17 t18) [],oM s3 t19])))
def b55x1:AC:=(.seq (.reg [oQ s9 .lss t8 t7]) (.seq (.cond t9
 .skip
 (.exit 0)) (.seq (.blk 1 (.seq (.reg [oM s10 t8,oP s11 (.iad 1 t6 t8),oG s12 t11,oM s4 t10,oM s5 t12]) (.seq (.blk 2 (.loop b55x0)) (.seq (.reg [oM s20 t3,oM s21 t5,oP s22 (.iad 1 t20 t21),oG s23 t22,oQ s24 .lss t23 (ci 0)]) (.cond t24
 (.reg [oM s25 t3,oM s26 t5,oM s27 t4,oP s28 (.iad 1 t25 t26),oS 1 t28 t27])
 .skip))))) (.reg [oQ s29 .add t8 (ci 1),oM s8 t29]))))
def f55:FI:=⟨(.seq (.reg [oM s2 (.c vz)]) (.seq (.reg [oM s3 (.c vz)]) (.seq (.seq (.reg [oM s6 t0,oP s7 (.len false t6),oM s8 (ci 0)]) (.blk 0 (.loop b55x1))) (.seq (.reg [oM s30 t3,oM s2 t30]) .ret)))),1,[.t s2],none⟩
def b56x0:AC:=(.seq (.reg [oQ s18 .lss t17 t16]) (.seq (.cond t18
 .skip
 (.exit 0)) (.seq (.blk 1 (.seq (.reg [oP s19 (.iad 2 t15 t17),oR s20 (.ld true 2 t19),oX s5 (.new 0 false false (.cells 113 [(.str []),(vi 0)])) [],oS 2 t5 t20]) (.reg [oM s21 t3,oF s22 0 t5,oL s23 t22,oP s24 (.bsl 1 1 (.str []) [(0,t23)]),oX s25 (.app 1 0 1 (.str []) 16 t21 t24) [],oM s3 t25]))) (.reg [oQ s26 .add t17 (ci 1),oM s17 t26]))))
def f56:FI:=⟨(.seq (.reg [oM s2 (.c vz)]) (.seq (.reg [oM s6 t0,oN s7 t6,oF s8 1 t7,oL s9 t8,oP s10 (.len false t9),oX s11 (.mks 0 false false true 1 (.str []) 16 (ci 0) t10) [],oM s3 t11]) (.seq (.seq (.reg [oM s12 t0,oN s13 t12,oF s14 1 t13,oL s15 t14,oP s16 (.len false t15),oM s17 (ci 0)]) (.blk 0 (.loop b56x0))) (.seq (.reg [oM s27 t3,oM s2 t27]) .ret)))),1,[.t s2],none⟩
def f57:FI:=⟨(.seq (.reg [oM s4 (ci 0),oM s5 (.c (.bool false))]) (.seq (.reg [oM s9 t0,oN s10 t9,oF s11 1 t10,oL s12 t11,oM s13 t1,oC s14 117 [t12,t13,(.c (.fn 118 [] []))],oM s8 t14,oE s15 t8 0,oE s16 t8 1,oM s6 t15,oM s7 t16]) (.seq (.seq (.reg [oM s17 t7,oP s18 (.un .not t17)]) (.cond t18
 (.seq (.reg [oM s4 (ci 0),oM s5 (.c (.bool false))]) .ret)
 .skip)) (.seq (.reg [oM s19 t0,oN s20 t19,oF s21 1 t20,oL s22 t21,oM s23 t6,oP s24 (.iad 2 t22 t23),oF s25 1 t24,oG s26 t25,oM s4 t26,oM s5 (.c (.bool true))]) .ret)))),0,[.t s4,.t s5],none⟩
def b58x0:AC:=(.seq (.reg [oQ s75 .lss t74 t73]) (.seq (.cond t75
 .skip
 (.exit 2)) (.seq (.blk 3 (.seq (.reg [oP s76 (.iad 1 t72 t74),oG s77 t76,oM s13 t77]) (.reg [oM s78 t0,oM s79 t13,oM s80 t2,oC s81 58 [t78,t79,t80]]))) (.reg [oQ s82 .add t74 (ci 1),oM s74 t82]))))
def b58x1:AC:=(.seq (.reg [oQ s59 .lss t58 t57]) (.seq (.cond t59
 .skip
 (.exit 0)) (.seq (.blk 1 (.seq (.reg [oP s60 (.iad 1 t56 t58),oG s61 t60,oM s11 t61]) (.reg [oM s62 t0,oM s63 t11,oM s64 t2,oC s65 58 [t62,t63,t64]]))) (.reg [oQ s66 .add t58 (ci 1),oM s58 t66]))))
def f58:FI:=⟨(.seq (.reg [oM s14 t0,oN s15 t14,oF s16 1 t15,oL s17 t16,oM s18 t1,oP s19 (.iad 1 t17 t18),oG s20 t19,oM s6 t20]) (.seq (.seq (.reg [oM s22 t0,oN s23 t22,oF s24 2 t23,oG s25 t24,oM s26 t6,oR s27 (.lku false [.i] true (vi 0) t25 t26),oM s21 t27,oE s28 t21 0,oE s29 t21 1,oM s7 t28,oM s8 t29]) (.seq (.reg [oM s30 t8]) (.cond t30
 .ret
 .skip))) (.seq (.reg [oM s31 t0,oN s32 t31,oF s33 2 t32,oG s34 t33,oM s35 t6,oM s36 t0,oN s37 t36,oF s38 3 t37,oG s39 t38,oY (.mup false [.i] t34 t35 t39) []]) (.seq (.reg [oM s40 t0,oN s41 t40,oF s42 3 t41,oG s43 t42,oQ s44 .add t43 (ci 1),oN s45 t40,oF s46 3 t45,oS 1 t46 t44]) (.seq (.reg [oM s47 t2,oM s48 t6,oP s49 (.iad 1 t47 t48),oG s50 t49,oM s9 t50]) (.seq (.seq (.reg [oM s51 t0,oN s52 t51,oF s53 0 t52,oG s54 t53,oM s55 t9,oC s56 62 [t54,t55],oP s57 (.len false t56),oM s58 (ci 0)]) (.blk 0 (.loop b58x1))) (.seq (.reg [oM s67 t0,oN s68 t67,oF s69 0 t68,oG s70 t69,oM s71 t9,oC s72 63 [t70,t71],oP s73 (.len false t72),oM s74 (ci 0)]) (.blk 2 (.loop b58x0))))))))),0,[],none⟩
def f59:FI:=⟨(.seq (.reg [oM s2 (ci 0)]) (.seq (.reg [oM s3 t0,oN s4 t3,oF s5 0 t4,oL s6 t5,oP s7 (.len false t6),oM s2 t7]) .ret)),0,[.t s2],none⟩
def f60:FI:=⟨(.seq (.reg [oM s4 (.c (.str []))]) (.seq (.seq (.reg [oM s7 t0,oM s8 t1,oC s9 76 [t7,t8]]) (.blk 0 (.seq (.reg [oQ s11 .eql t9 (ci 1),oM s10 t11]) (.cond t10
 (.seq (.reg [oM s4 (.c (.str [105,110,116]))]) .ret)
 (.seq (.reg [oQ s13 .eql t9 (ci 2),oM s12 t13]) (.cond t12
 (.seq (.reg [oM s4 (.c (.str [98,111,111,108]))]) .ret)
 (.seq (.reg [oQ s15 .eql t9 (ci 3),oM s14 t15]) (.cond t14
 (.seq (.reg [oM s4 (.c (.str [116,101,120,116]))]) .ret)
 (.seq (.reg [oQ s17 .eql t9 (ci 5),oM s16 t17]) (.cond t16
 (.seq (.reg [oM s4 (.c (.str [42]))]) .ret)
 (.seq (.reg [oQ s19 .eql t9 (ci 7),oM s18 t19]) (.cond t18
 (.seq (.reg [oM s20 t0,oM s21 t1,oC s22 120 [t20,t21],oP s23 (.len false t22),oC s24 119 [t23],oP s25 (.bin .add eS (.c (.str [102,110,32])) t24),oM s4 t25]) .ret)
 (.seq (.reg [oQ s27 .eql t9 (ci 8),oM s26 t27]) (.cond t26
 (.seq (.reg [oM s28 t0,oM s29 t1,oC s30 122 [t28,t29],oC s31 121 [(.c (.str [105,110,116,101,114,102,97,99,101])),t30],oM s4 t31]) .ret)
 (.seq (.reg [oQ s33 .eql t9 (ci 6),oM s32 t33]) (.cond t32
 (.seq (.reg [oM s5 (.c (.str [114,101,99,111,114,100]))]) (.seq (.seq (.reg [oM s34 t0,oM s35 t1,oC s36 123 [t34,t35],oM s6 t36]) (.seq (.reg [oM s37 t6,oP s38 (.bin .neq eS t37 (.c (.str [])))]) (.cond t38
 (.reg [oM s39 t5,oM s40 t6,oP s41 (.bin .add eS (.c (.str [32,111,102,32])) t40),oP s42 (.bin .add eS t39 t41),oM s5 t42])
 .skip))) (.seq (.reg [oM s43 t5,oM s44 t0,oM s45 t1,oC s46 122 [t44,t45],oC s47 121 [t43,t46],oM s4 t47]) .ret)))
 .skip)))))))))))))))) (.seq (.reg [oM s4 (.c (.str []))]) .ret))),0,[.t s4],none⟩
def b61x0:AC:=(.seq (.reg [oQ s12 .lss t11 t10]) (.seq (.cond t12
 .skip
 (.exit 0)) (.seq (.blk 1 (.seq (.reg [oP s13 (.iad 1 t9 t11),oG s14 t13,oM s7 t14]) (.reg [oM s15 t5,oM s16 t0,oN s17 t16,oF s18 1 t17,oL s19 t18,oM s20 t7,oP s21 (.iad 1 t19 t20),oG s22 t21,oP s23 (.bsl 1 1 (vi 0) [(0,t22)]),oX s24 (.app 0 0 1 (vi 0) 8 t15 t23) [],oM s5 t24]))) (.reg [oQ s25 .add t11 (ci 1),oM s11 t25]))))
def f61:FI:=⟨(.seq (.reg [oM s4 (.c vz)]) (.seq (.reg [oP s8 (.bsl 0 1 (vi 0) []),oM s5 t8]) (.seq (.seq (.reg [oM s9 t1,oP s10 (.len false t9),oM s11 (ci 0)]) (.blk 0 (.loop b61x0))) (.seq (.reg [oM s26 t5,oM s4 t26]) .ret)))),0,[.t s4],none⟩
def b62x0:AC:=(.seq (.reg [oQ s14 .lss t13 t12]) (.seq (.cond t14
 .skip
 (.exit 0)) (.seq (.blk 1 (.seq (.reg [oP s15 (.iad 3 t11 t13),oR s16 (.ld true 3 t15),oX s7 (.new 0 false false (.cells 224 [(.str []),(.bool false),(vi 0)])) [],oS 3 t7 t16]) (.reg [oM s17 t5,oF s18 2 t7,oG s19 t18,oP s20 (.bsl 1 1 (vi 0) [(0,t19)]),oX s21 (.app 1 0 1 (vi 0) 8 t17 t20) [],oM s5 t21]))) (.reg [oQ s22 .add t13 (ci 1),oM s13 t22]))))
def f62:FI:=⟨(.seq (.reg [oM s4 (.c vz)]) (.seq (.reg [oP s8 (.bsl 0 1 (vi 0) []),oM s5 t8]) (.seq (.seq (.reg [oM s9 t0,oM s10 t1,oC s11 122 [t9,t10],oP s12 (.len false t11),oM s13 (ci 0)]) (.blk 0 (.loop b62x0))) (.seq (.reg [oM s23 t5,oM s4 t23]) .ret)))),1,[.t s4],none⟩
def b63x0:AC:=(.seq (.reg [oQ s21 .lss t20 t19]) (.seq (.cond t21
 .skip
 (.exit 0)) (.seq (.blk 1 (.seq (.reg [oP s22 (.iad 1 t18 t20),oL s23 t22,oM s8 t23]) (.seq (.reg [oM s25 t0,oM s26 t6,oM s27 t8,oC s28 125 [t25,t26,t27],oM s24 t28,oE s29 t24 0,oE s30 t24 1,oM s9 t29,oM s10 t30]) (.reg [oM s31 t5,oM s32 t9,oP s33 (.bsl 1 1 (vi 0) [(0,t32)]),oX s34 (.app 0 0 1 (vi 0) 8 t31 t33) [],oM s5 t34])))) (.reg [oQ s35 .add t20 (ci 1),oM s20 t35]))))
def f63:FI:=⟨(.seq (.reg [oM s4 (.c vz)]) (.seq (.reg [oM s5 (.c vz)]) (.seq (.seq (.reg [oM s11 t0,oM s12 t1,oC s13 123 [t11,t12],oM s6 t13]) (.seq (.reg [oM s14 t6,oP s15 (.bin .neq eS t14 (.c (.str [])))]) (.cond t15
 (.seq (.reg [oM s16 t0,oM s17 t6,oC s18 124 [t16,t17],oP s19 (.len false t18),oM s20 (ci 0)]) (.blk 0 (.loop b63x0)))
 .skip))) (.seq (.reg [oM s36 t5,oM s4 t36]) .ret)))),0,[.t s4],none⟩
def f64:FI:=⟨(.seq (.reg [oM s2 (.c .nilp)]) (.seq (.reg [oP s3 (.bsl 0 5 (.agg [(vi 0),vz,vz,vz,(.str [])]) []),oM s4 t0,oN s5 t4,oF s6 0 t5,oL s7 t6,oM s9 t0,oN s10 t9,oF s11 1 t10,oL s12 t11,oM s13 t0,oN s14 t13,oF s15 2 t14,oL s16 t15,oM s17 t0,oN s18 t17,oF s19 3 t18,oL s20 t19,oM s21 t0,oN s22 t21,oF s23 4 t22,oL s24 t23,oX s8 (.app 0 0 5 (.agg [(vi 0),vz,vz,vz,(.str [])]) 96 t3 t7) [(.l t23),(.l t19),(.l t15),(.l t11)],oP s25 (.bld [vz,vz,vz,vz,vz] [(0,1,t8),(1,1,t12),(2,1,t16),(3,1,t20),(4,1,t24)]),oX s26 (.box 0 true 63 5 t25) [],oM s2 t26]) .ret)),1,[.t s2],none⟩
def b65x0:AC:=(.seq (.seq (.reg [oM s64 t10,oM s65 t3,oP s66 (.len false t65),oQ s67 .lss t64 t66]) (.cond t67
 .skip
 (.exit 4))) (.seq (.blk 5 (.seq (.reg [oM s70 t3,oM s71 t10,oM s72 t4,oM s73 t10,oP s74 (.iad 1 t72 t73),oL s75 t74,oC s76 126 [t70,t71,t75],oM s11 t76]) (.seq (.seq (.reg [oM s77 t5,oM s78 t11,oR s79 (.lku false [.s] false (vi 0) t77 t78),oQ s80 .eql t79 (ci 0)]) (.cond t80
 (.reg [oM s81 t5,oM s82 t11,oM s83 t5,oR s84 (.mlen t83),oQ s85 .add t84 (ci 1),oY (.mup false [.s] t81 t82 t85) []])
 .skip)) (.reg [oM s86 t9,oM s87 t10,oM s88 t5,oM s89 t11,oR s90 (.lku false [.s] false (vi 0) t88 t89),oP s91 (.iad 1 t86 t87),oS 1 t91 t90])))) (.reg [oM s68 t10,oQ s69 .add t68 (ci 1),oM s10 t69])))
def b65x1:AC:=(.blk 3 (.seq (.reg [oM s60 t3,oP s61 (.len false t60),oX s62 (.mks 3 false true true 1 (vi 0) 8 t61 t61) [],oM s9 t62]) (.seq (.reg [oX s63 (.new 4 false true (.map [])) [],oM s5 t63]) (.seq (.seq (.reg [oM s10 (ci 0)]) (.blk 4 (.loop b65x0))) (.seq (.reg [oM s92 t9,oM s3 t92]) (.seq (.seq (.reg [oM s93 t5,oR s94 (.mlen t93),oM s95 t8,oQ s96 .eql t94 t95]) (.cond t96
 (.seq (.reg [oM s97 t3,oM s2 t97]) .ret)
 .skip)) (.reg [oM s98 t5,oR s99 (.mlen t98),oM s8 t99])))))))
def b65x2:AC:=(.seq (.seq (.reg [oM s25 t6,oM s26 t0,oN s27 t26,oF s28 0 t27,oL s29 t28,oP s30 (.len false t29),oQ s31 .lss t25 t30]) (.cond t31
 .skip
 (.exit 0))) (.seq (.blk 1 (.seq (.reg [oM s34 t0,oM s35 t6,oC s36 71 [t34,t35],oM s7 t36]) (.seq (.seq (.reg [oM s37 t5,oM s38 t7,oR s39 (.lku false [.s] false (vi 0) t37 t38),oQ s40 .eql t39 (ci 0)]) (.cond t40
 (.reg [oM s41 t5,oM s42 t7,oM s43 t5,oR s44 (.mlen t43),oQ s45 .add t44 (ci 1),oY (.mup false [.s] t41 t42 t45) []])
 .skip)) (.seq (.reg [oM s46 t3,oM s47 t6,oM s48 t5,oM s49 t7,oR s50 (.lku false [.s] false (vi 0) t48 t49),oP s51 (.iad 1 t46 t47),oS 1 t51 t50]) (.reg [oM s52 t4,oM s53 t6,oM s54 t0,oM s55 t6,oC s56 69 [t54,t55],oP s57 (.iad 1 t52 t53),oS 1 t57 t56]))))) (.reg [oM s32 t6,oQ s33 .add t32 (ci 1),oM s6 t33])))
def f65:FI:=⟨(.seq (.reg [oM s2 (.c vz)]) (.seq (.reg [oM s12 t0,oN s13 t12,oF s14 0 t13,oL s15 t14,oP s16 (.len false t15),oX s17 (.mks 0 false true true 1 (vi 0) 8 t16 t16) [],oM s3 t17]) (.seq (.reg [oM s18 t0,oN s19 t18,oF s20 0 t19,oL s21 t20,oP s22 (.len false t21),oX s23 (.mks 1 false true true 1 vz 24 t22 t22) [],oM s4 t23]) (.seq (.reg [oX s24 (.new 2 false true (.map [])) [],oM s5 t24]) (.seq (.seq (.reg [oM s6 (ci 0)]) (.blk 0 (.loop b65x2))) (.seq (.reg [oM s58 t5,oR s59 (.mlen t58),oM s8 t59]) (.blk 2 (.loop b65x1)))))))),5,[.t s2],none⟩
def b66x0:AC:=(.seq (.seq (.reg [oM s5 t4,oM s6 t0,oN s7 t6,oF s8 1 t7,oL s9 t8,oP s10 (.len false t9),oQ s11 .lss t5 t10]) (.cond t11
 .skip
 (.exit 0))) (.seq (.blk 1 (.reg [oM s14 t3,oM s15 t0,oN s16 t15,oF s17 1 t16,oL s18 t17,oM s19 t4,oP s20 (.iad 7 t18 t19),oF s21 1 t20,oL s22 t21,oP s23 (.bsl 1 1 (.str []) [(0,t22)]),oX s24 (.app 0 0 1 (.str []) 16 t14 t23) [],oM s3 t24])) (.reg [oM s12 t4,oQ s13 .add t12 (ci 1),oM s4 t13])))
def f66:FI:=⟨(.seq (.reg [oM s2 (.c vz)]) (.seq (.reg [oM s3 (.c vz)]) (.seq (.seq (.reg [oM s4 (ci 0)]) (.blk 0 (.loop b66x0))) (.seq (.reg [oM s25 t3,oC s26 72 [t25],oM s2 t26]) .ret)))),0,[.t s2],none⟩
def f67:FI:=⟨(.seq (.reg [oM s4 (ci 0),oM s5 (.c (.bool false))]) (.seq (.reg [oM s7 t0,oM s8 t1,oC s9 46 [t7,t8],oM s6 t9]) (.seq (.seq (.reg [oM s10 t6,oQ s11 .lss t10 (ci 0)]) (.cond t11
 (.seq (.reg [oM s4 (ci 0),oM s5 (.c (.bool false))]) .ret)
 .skip)) (.seq (.reg [oM s12 t0,oN s13 t12,oF s14 4 t13,oL s15 t14,oM s16 t6,oP s17 (.iad 1 t15 t16),oG s18 t17,oM s4 t18,oM s5 (.c (.bool true))]) .ret)))),0,[.t s4,.t s5],none⟩
def b68x0:AC:=(.seq (.seq (.reg [oM s101 t11,oM s102 t10,oP s103 (.len false t102),oQ s104 .lss t101 t103]) (.cond t104
 .skip
 (.exit 4))) (.seq (.blk 5 (.seq (.reg [oM s108 t0,oN s109 t108,oF s110 0 t109,oG s111 t110,oM s112 t9,oM s113 t10,oM s114 t11,oP s115 (.iad 1 t113 t114),oL s116 t115,oC s117 128 [t111,t112,t116],oM s107 t117,oE s118 t107 0,oE s119 t107 1,oM s12 t118,oM s13 t119]) (.reg [oM s120 t0,oM s121 t12,oC s122 68 [t120,t121]]))) (.reg [oM s105 t11,oQ s106 .add t105 (ci 1),oM s11 t106])))
def b68x1:AC:=(.seq (.seq (.reg [oM s72 t8,oM s73 t7,oP s74 (.len false t73),oQ s75 .lss t72 t74]) (.cond t75
 .skip
 (.exit 2))) (.seq (.blk 3 (.reg [oM s78 t0,oM s79 t7,oM s80 t8,oP s81 (.iad 1 t79 t80),oG s82 t81,oC s83 68 [t78,t82]])) (.reg [oM s76 t8,oQ s77 .add t76 (ci 1),oM s8 t77])))
def b68x2:AC:=(.seq (.seq (.reg [oM s41 t6,oM s42 t1,oQ s43 .lss t41 t42]) (.cond t43
 .skip
 (.exit 0))) (.seq (.blk 1 (.seq (.reg [oM s46 t0,oN s47 t46,oF s48 1 t47,oL s49 t48,oM s50 t6,oP s51 (.iad 1 t49 t50),oG s52 t51,oM s53 t4,oQ s54 .eql t52 t53]) (.cond t54
 (.seq (.reg [oM s55 t6,oM s5 t55]) (.exit 0))
 .skip))) (.reg [oM s44 t6,oQ s45 .add t44 (ci 1),oM s6 t45])))
def f68:FI:=⟨(.seq (.reg [oM s14 t0,oN s15 t14,oF s16 1 t15,oL s17 t16,oM s18 t1,oP s19 (.iad 1 t17 t18),oG s20 t19,oM s4 t20]) (.seq (.seq (.reg [oM s21 t0,oN s22 t21,oF s23 2 t22,oL s24 t23,oM s25 t4,oP s26 (.iad 1 t24 t25),oG s27 t26,oQ s28 .geq t27 (ci 0)]) (.cond t28
 .ret
 .skip)) (.seq (.reg [oM s29 t0,oN s30 t29,oF s31 2 t30,oL s32 t31,oM s33 t4,oM s34 t0,oN s35 t34,oF s36 3 t35,oL s37 t36,oP s38 (.len false t37),oP s39 (.iad 1 t32 t33),oS 1 t39 t38]) (.seq (.reg [oM s40 t1,oM s5 t40]) (.seq (.seq (.reg [oM s6 (ci 0)]) (.blk 0 (.loop b68x2))) (.seq (.reg [oM s56 t0,oM s57 t0,oN s58 t57,oF s59 3 t58,oL s60 t59,oM s61 t5,oP s62 (.bsl 1 1 (vi 0) [(0,t61)]),oX s63 (.app 0 0 1 (vi 0) 8 t60 t62) [],oN s64 t56,oF s65 3 t64,oS 1 t65 t63]) (.seq (.reg [oM s66 t0,oN s67 t66,oF s68 0 t67,oG s69 t68,oM s70 t1,oC s71 69 [t69,t70],oM s7 t71]) (.seq (.seq (.reg [oM s8 (ci 0)]) (.blk 2 (.loop b68x1))) (.seq (.reg [oM s84 t0,oN s85 t84,oF s86 0 t85,oG s87 t86,oN s88 t87,oF s89 0 t88,oL s90 t89,oM s91 t1,oP s92 (.iad 5 t90 t91),oF s93 4 t92,oL s94 t93,oM s9 t94]) (.seq (.reg [oM s95 t0,oN s96 t95,oF s97 0 t96,oG s98 t97,oM s99 t9,oC s100 127 [t98,t99],oM s10 t100]) (.seq (.reg [oM s11 (ci 0)]) (.blk 4 (.loop b68x0))))))))))))),0,[],none⟩
def b69x0:AC:=(.seq (.seq (.reg [oM s22 t8,oM s23 t6,oP s24 (.len false t23),oQ s25 .lss t22 t24]) (.cond t25
 .skip
 (.exit 0))) (.seq (.blk 1 (.reg [oM s28 t7,oF s29 1 t5,oL s30 t29,oM s31 t6,oM s32 t8,oP s33 (.iad 1 t31 t32),oG s34 t33,oP s35 (.iad 1 t30 t34),oG s36 t35,oP s37 (.bsl 1 1 (vi 0) [(0,t36)]),oX s38 (.app 1 0 1 (vi 0) 8 t28 t37) [],oM s7 t38])) (.reg [oM s26 t8,oQ s27 .add t26 (ci 1),oM s8 t27])))
def f69:FI:=⟨(.seq (.reg [oM s4 (.c vz)]) (.seq (.seq (.reg [oM s9 t0,oM s10 t1,oC s11 129 [t9,t10],oP s12 (.un .not t11)]) (.cond t12
 (.seq (.reg [oM s4 (.c vz)]) .ret)
 .skip)) (.seq (.reg [oM s13 t0,oN s14 t13,oF s15 0 t14,oL s16 t15,oM s17 t1,oP s18 (.iad 5 t16 t17),oR s19 (.ld true 5 t18),oX s5 (.new 0 false false (.cells 135 [(vi 0),vz,vz,vz,(.str [])])) [],oS 5 t5 t19]) (.seq (.reg [oR s20 (.ld true 5 t5),oC s21 130 [t20],oM s6 t21]) (.seq (.reg [oM s7 (.c vz)]) (.seq (.seq (.reg [oM s8 (ci 0)]) (.blk 0 (.loop b69x0))) (.seq (.reg [oM s39 t7,oM s4 t39]) .ret))))))),1,[.t s4],none⟩
def f70:FI:=⟨(.seq (.reg [oM s4 (ci 0)]) (.seq (.reg [oM s5 t0,oN s6 t5,oF s7 2 t6,oL s8 t7,oM s9 t0,oN s10 t9,oF s11 1 t10,oL s12 t11,oM s13 t1,oP s14 (.iad 1 t12 t13),oG s15 t14,oP s16 (.iad 1 t8 t15),oG s17 t16,oM s4 t17]) .ret)),0,[.t s4],none⟩
def b71x0:AC:=(.seq (.seq (.reg [oM s49 t8,oM s50 t7,oP s51 (.len false t50),oQ s52 .lss t49 t51]) (.cond t52
 .skip
 (.exit 1))) (.seq (.blk 2 (.seq (.reg [oM s55 t6,oP s56 (.bin .add eS t55 (.c (.str [32]))),oM s6 t56]) (.seq (.seq (.reg [oF s57 0 t5,oG s58 t57,oQ s59 .eql t58 (ci 6),oM s60 t59,⟨some s61,some (s60,true),(.p (.fad 3 t5))⟩,⟨some s62,some (s60,true),(.r (.ld false 1 t61))⟩,⟨some s63,some (s60,true),(.p (.mov t7))⟩,⟨some s64,some (s60,true),(.p (.mov t8))⟩,⟨some s65,some (s60,true),(.p (.iad 1 t63 t64))⟩,⟨some s66,some (s60,true),(.r (.ldc t65))⟩,⟨some s67,some (s60,true),(.p (.iad 1 t62 t66))⟩,⟨some s68,some (s60,true),(.r (.ldc t67))⟩,oP s69 (.pick t60 t68 (.c (.bool false)))]) (.cond t69
 (.reg [oM s70 t6,oP s71 (.bin .add eS t70 (.c (.str [43]))),oM s6 t71])
 .skip)) (.reg [oM s72 t6,oF s73 2 t5,oL s74 t73,oM s75 t7,oM s76 t8,oP s77 (.iad 1 t75 t76),oG s78 t77,oP s79 (.iad 1 t74 t78),oL s80 t79,oP s81 (.bin .add eS t72 t80),oM s6 t81])))) (.reg [oM s53 t8,oQ s54 .add t53 (ci 1),oM s8 t54])))
def f71:FI:=⟨(.seq (.reg [oM s4 (.c (.str []))]) (.seq (.seq (.reg [oM s9 t0,oM s10 t1,oC s11 129 [t9,t10],oP s12 (.un .not t11)]) (.cond t12
 (.seq (.reg [oM s4 (.c (.str []))]) .ret)
 .skip)) (.seq (.reg [oM s13 t0,oN s14 t13,oF s15 0 t14,oL s16 t15,oM s17 t1,oP s18 (.iad 5 t16 t17),oR s19 (.ld true 5 t18),oX s5 (.new 0 false false (.cells 135 [(vi 0),vz,vz,vz,(.str [])])) [],oS 5 t5 t19]) (.seq (.reg [oM s6 (.c (.str []))]) (.seq (.seq (.reg [oF s20 0 t5,oG s21 t20]) (.blk 0 (.seq (.reg [oQ s31 .eql t21 (ci 1),oM s30 t31]) (.cond t30
 (.seq (.reg [oM s4 (.c (.str [105,110,116]))]) .ret)
 (.seq (.reg [oQ s33 .eql t21 (ci 2),oM s32 t33]) (.cond t32
 (.seq (.reg [oM s4 (.c (.str [98,111,111,108]))]) .ret)
 (.seq (.reg [oQ s35 .eql t21 (ci 3),oM s34 t35]) (.cond t34
 (.seq (.reg [oM s4 (.c (.str [116,101,120,116]))]) .ret)
 (.seq (.reg [oQ s37 .eql t21 (ci 5),oM s36 t37]) (.cond t36
 (.seq (.reg [oM s4 (.c (.str [42]))]) .ret)
 (.seq (.reg [oQ s39 .eql t21 (ci 7),oM s38 t39]) (.cond t38
 (.seq (.reg [oF s40 1 t5,oL s41 t40,oP s42 (.len false t41),oC s43 131 [t42],oP s44 (.bin .add eS (.c (.str [102,110,32])) t43),oM s4 t44]) .ret)
 (.seq (.reg [oQ s46 .eql t21 (ci 8),oM s45 t46]) (.cond t45
 (.reg [oM s6 (.c (.str [105,110,116,101,114,102,97,99,101]))])
 (.seq (.reg [oM s6 (.c (.str [114,101,99,111,114,100]))]) (.seq (.reg [oF s22 4 t5,oL s23 t22,oP s24 (.bin .neq eS t23 (.c (.str [])))]) (.cond t24
 (.reg [oM s25 t6,oP s26 (.bin .add eS t25 (.c (.str [32,111,102,32]))),oF s27 4 t5,oL s28 t27,oP s29 (.bin .add eS t26 t28),oM s6 t29])
 .skip))))))))))))))))) (.seq (.reg [oR s47 (.ld true 5 t5),oC s48 130 [t47],oM s7 t48]) (.seq (.seq (.reg [oM s8 (ci 0)]) (.blk 1 (.loop b71x0))) (.seq (.reg [oM s82 t6,oM s4 t82]) .ret)))))))),1,[.t s4],none⟩
def b72x0:AC:=(.seq (.seq (.reg [oM s16 t5,oQ s17 .gtr t16 (ci 0),oM s18 t17,⟨some s19,some (s18,true),(.p (.mov t3))⟩,⟨some s20,some (s18,true),(.p (.mov t5))⟩,⟨some s21,some (s18,true),(.p (.iad 1 t19 t20))⟩,⟨some s22,some (s18,true),(.r (.ld false 1 t21))⟩,⟨some s23,some (s18,true),(.p (.mov t3))⟩,⟨some s24,some (s18,true),(.p (.mov t5))⟩,⟨some s25,some (s18,true),(.p (.bin .sub eI t24 (ci 1)))⟩,⟨some s26,some (s18,true),(.p (.iad 1 t23 t25))⟩,⟨some s27,some (s18,true),(.r (.ld false 1 t26))⟩,⟨some s28,some (s18,true),(.p (.bin .lss eS t22 t27))⟩,oP s29 (.pick t18 t28 (.c (.bool false)))]) (.cond t29
 .skip
 (.exit 2))) (.seq (.blk 3 (.reg [oM s32 t3,oM s33 t5,oM s34 t3,oM s35 t5,oQ s36 .sub t35 (ci 1),oM s37 t3,oM s38 t5,oQ s39 .sub t38 (ci 1),oP s40 (.iad 1 t37 t39),oL s41 t40,oM s42 t3,oM s43 t5,oP s44 (.iad 1 t42 t43),oL s45 t44,oP s46 (.iad 1 t32 t33),oS 1 t46 t41,oP s47 (.iad 1 t34 t36),oS 1 t47 t45])) (.reg [oM s30 t5,oQ s31 .sub t30 (ci 1),oM s5 t31])))
def b72x1:AC:=(.seq (.seq (.reg [oM s9 t4,oM s10 t3,oP s11 (.len false t10),oQ s12 .lss t9 t11]) (.cond t12
 .skip
 (.exit 0))) (.seq (.blk 1 (.seq (.reg [oM s15 t4,oM s5 t15]) (.blk 2 (.loop b72x0)))) (.reg [oM s13 t4,oQ s14 .add t13 (ci 1),oM s4 t14])))
def f72:FI:=⟨(.seq (.reg [oM s2 (.c vz)]) (.seq (.reg [oP s6 (.bsl 0 1 (.str []) []),oM s7 t0,oX s8 (.app 0 1 1 (.str []) 16 t6 t7) [],oM s3 t8]) (.seq (.seq (.reg [oM s4 (ci 1)]) (.blk 0 (.loop b72x1))) (.seq (.reg [oM s48 t3,oM s2 t48]) .ret)))),1,[.t s2],none⟩
def b73x0:AC:=(.seq (.reg [oQ s127 .lss t126 t125]) (.seq (.cond t127
 .skip
 (.exit 1)) (.seq (.blk 2 (.seq (.reg [oP s128 (.iad 5 t124 t126),oR s129 (.ld true 5 t128),oX s7 (.new 1 false false (.cells 41 [(vi 0),(vi 0),(vi 0),(.str []),vz])) [],oS 5 t7 t129]) (.seq (.reg [oM s130 t0,oR s131 (.ld true 5 t7),oC s132 73 [t130,t131],oP s133 (.un .not t132)]) (.cond t133
 (.seq (.reg [oM s4 (.c (.bool false))]) .ret)
 .skip)))) (.reg [oQ s134 .add t126 (ci 1),oM s126 t134]))))
def f73:FI:=⟨(.seq (.reg [oX s3 (.box 0 false 41 5 t1) [],oM s4 (.c (.bool false))]) (.seq (.reg [oF s8 4 t3,oL s9 t8,oP s10 (.len false t9),oM s5 t10]) (.seq (.seq (.reg [oF s11 0 t3,oG s12 t11]) (.blk 0 (.seq (.reg [oQ s14 .eql t12 (ci 1),oM s13 t14]) (.cond t13
 (.seq (.reg [oM s15 t0,oF s16 1 t3,oG s17 t16,oC s18 132 [t15,t17],oQ s19 .eql t18 (ci 1),oM s20 t19,⟨some s21,some (s20,true),(.p (.fad 3 t3))⟩,⟨some s22,some (s20,true),(.r (.ld false 1 t21))⟩,⟨some s23,some (s20,true),(.p (.bin .eql eS t22 (.c (.str []))))⟩,oP s24 (.pick t20 t23 (.c (.bool false))),oM s25 t24,⟨some s26,some (s25,true),(.p (.mov t5))⟩,⟨some s27,some (s25,true),(.p (.bin .eql eI t26 (ci 0)))⟩,oP s28 (.pick t25 t27 (.c (.bool false))),oM s4 t28]) .ret)
 (.seq (.reg [oQ s30 .eql t12 (ci 2),oM s29 t30]) (.cond t29
 (.seq (.reg [oM s31 t0,oF s32 1 t3,oG s33 t32,oC s34 132 [t31,t33],oQ s35 .eql t34 (ci 2),oM s36 t35,⟨some s37,some (s36,true),(.p (.fad 2 t3))⟩,⟨some s38,some (s36,true),(.r (.ldc t37))⟩,⟨some s39,some (s36,true),(.p (.bin .eql eI t38 (ci 0)))⟩,⟨some s40,some (s36,true),(.p (.mov t39))⟩,⟨some s41,some (s40,false),(.p (.fad 2 t3))⟩,⟨some s42,some (s40,false),(.r (.ldc t41))⟩,⟨some s43,some (s40,false),(.p (.bin .eql eI t42 (ci 1)))⟩,⟨some s44,some (s36,true),(.p (.pick t40 (.c (.bool true)) t43))⟩,oP s45 (.pick t36 t44 (.c (.bool false))),oM s46 t45,⟨some s47,some (s46,true),(.p (.fad 3 t3))⟩,⟨some s48,some (s46,true),(.r (.ld false 1 t47))⟩,⟨some s49,some (s46,true),(.p (.bin .eql eS t48 (.c (.str []))))⟩,oP s50 (.pick t46 t49 (.c (.bool false))),oM s51 t50,⟨some s52,some (s51,true),(.p (.mov t5))⟩,⟨some s53,some (s51,true),(.p (.bin .eql eI t52 (ci 0)))⟩,oP s54 (.pick t51 t53 (.c (.bool false))),oM s4 t54]) .ret)
 (.seq (.reg [oQ s56 .eql t12 (ci 3),oM s55 t56]) (.cond t55
 (.seq (.reg [oM s57 t0,oF s58 1 t3,oG s59 t58,oC s60 132 [t57,t59],oQ s61 .eql t60 (ci 3),oM s62 t61,⟨some s63,some (s62,true),(.p (.fad 2 t3))⟩,⟨some s64,some (s62,true),(.r (.ldc t63))⟩,⟨some s65,some (s62,true),(.p (.bin .eql eI t64 (ci 0)))⟩,oP s66 (.pick t62 t65 (.c (.bool false))),oM s67 t66,⟨some s68,some (s67,true),(.p (.fad 3 t3))⟩,⟨some s69,some (s67,true),(.r (.ld false 1 t68))⟩,⟨some s70,some (s67,true),(.e (.call 133 [t69]) [])⟩,oP s71 (.pick t67 t70 (.c (.bool false))),oM s72 t71,⟨some s73,some (s72,true),(.p (.mov t5))⟩,⟨some s74,some (s72,true),(.p (.bin .eql eI t73 (ci 0)))⟩,oP s75 (.pick t72 t74 (.c (.bool false))),oM s4 t75]) .ret)
 (.seq (.reg [oQ s77 .eql t12 (ci 6),oM s76 t77]) (.cond t76
 (.seq (.reg [oM s78 t0,oF s79 1 t3,oG s80 t79,oC s81 132 [t78,t80],oQ s82 .eql t81 (ci 7),oM s83 t82,⟨some s84,some (s83,true),(.p (.fad 2 t3))⟩,⟨some s85,some (s83,true),(.r (.ldc t84))⟩,⟨some s86,some (s83,true),(.p (.bin .eql eI t85 (ci 0)))⟩,oP s87 (.pick t83 t86 (.c (.bool false))),oM s88 t87,⟨some s89,some (s88,true),(.p (.fad 3 t3))⟩,⟨some s90,some (s88,true),(.r (.ld false 1 t89))⟩,⟨some s91,some (s88,true),(.e (.call 134 [t90]) [])⟩,oP s92 (.pick t88 t91 (.c (.bool false))),oM s93 t92,⟨some s94,some (s93,true),(.p (.mov t5))⟩,⟨some s95,some (s93,true),(.p (.bin .eql eI t94 (ci 0)))⟩,oP s96 (.pick t93 t95 (.c (.bool false))),oM s4 t96]) .ret)
 (.seq (.reg [oQ s98 .eql t12 (ci 4),oM s97 t98]) (.cond t97
 (.seq (.seq (.reg [oM s99 t0,oF s100 1 t3,oG s101 t100,oC s102 132 [t99,t101],oQ s103 .neq t102 (ci 6),oM s104 t103,⟨some s105,some (s104,false),(.p (.fad 2 t3))⟩,⟨some s106,some (s104,false),(.r (.ldc t105))⟩,⟨some s107,some (s104,false),(.p (.bin .neq eI t106 (ci 0)))⟩,oP s108 (.pick t104 (.c (.bool true)) t107),oM s109 t108,⟨some s110,some (s109,false),(.p (.fad 3 t3))⟩,⟨some s111,some (s109,false),(.r (.ld false 1 t110))⟩,⟨some s112,some (s109,false),(.p (.bin .neq eS t111 (.c (.str []))))⟩,oP s113 (.pick t109 (.c (.bool true)) t112),oM s114 t113,⟨some s115,some (s114,false),(.p (.mov t5))⟩,⟨some s116,some (s114,false),(.p (.mov t0))⟩,⟨some s117,some (s114,false),(.p (.fad 1 t3))⟩,⟨some s118,some (s114,false),(.r (.ldc t117))⟩,⟨some s119,some (s114,false),(.e (.call 135 [t116,t118]) [])⟩,⟨some s120,some (s114,false),(.p (.len false t119))⟩,⟨some s121,some (s114,false),(.p (.bin .neq eI t115 t120))⟩,oP s122 (.pick t114 (.c (.bool true)) t121)]) (.cond t122
 (.seq (.reg [oM s4 (.c (.bool false))]) .ret)
 .skip)) (.seq (.seq (.reg [oF s123 4 t3,oL s124 t123,oP s125 (.len false t124),oM s126 (ci 0)]) (.blk 1 (.loop b73x0))) (.seq (.reg [oM s4 (.c (.bool true))]) .ret)))
 (.seq (.reg [oQ s136 .eql t12 (ci 5),oM s135 t136]) (.cond t135
 (.seq (.seq (.reg [oM s137 t0,oF s138 1 t3,oG s139 t138,oC s140 132 [t137,t139],oQ s141 .neq t140 (ci 5),oM s142 t141,⟨some s143,some (s142,false),(.p (.fad 2 t3))⟩,⟨some s144,some (s142,false),(.r (.ldc t143))⟩,⟨some s145,some (s142,false),(.p (.bin .neq eI t144 (ci 0)))⟩,oP s146 (.pick t142 (.c (.bool true)) t145),oM s147 t146,⟨some s148,some (s147,false),(.p (.fad 3 t3))⟩,⟨some s149,some (s147,false),(.r (.ld false 1 t148))⟩,⟨some s150,some (s147,false),(.p (.bin .neq eS t149 (.c (.str []))))⟩,oP s151 (.pick t147 (.c (.bool true)) t150),oM s152 t151,⟨some s153,some (s152,false),(.p (.mov t5))⟩,⟨some s154,some (s152,false),(.p (.bin .gtr eI t153 (ci 1)))⟩,oP s155 (.pick t152 (.c (.bool true)) t154)]) (.cond t155
 (.seq (.reg [oM s4 (.c (.bool false))]) .ret)
 .skip)) (.seq (.reg [oM s156 t5,oQ s157 .eql t156 (ci 0),oM s158 t157,⟨some s159,some (s158,false),(.p (.fad 4 t3))⟩,⟨some s160,some (s158,false),(.r (.ld false 1 t159))⟩,⟨some s161,some (s158,false),(.p (.iad 5 t160 (ci 0)))⟩,⟨some s162,some (s158,false),(.p (.fad 0 t161))⟩,⟨some s163,some (s158,false),(.r (.ldc t162))⟩,⟨some s164,some (s158,false),(.p (.bin .eql eI t163 (ci 4)))⟩,⟨some s165,some (s158,false),(.p (.mov t164))⟩,⟨some s166,some (s165,true),(.p (.fad 4 t3))⟩,⟨some s167,some (s165,true),(.r (.ld false 1 t166))⟩,⟨some s168,some (s165,true),(.p (.iad 5 t167 (ci 0)))⟩,⟨some s169,some (s165,true),(.p (.fad 1 t168))⟩,⟨some s170,some (s165,true),(.r (.ldc t169))⟩,⟨some s171,some (s165,true),(.p (.mov t0))⟩,⟨some s172,some (s165,true),(.p (.nilc t171))⟩,⟨some s173,some (s165,true),(.p (.fad 0 t172))⟩,⟨some s174,some (s165,true),(.r (.ldc t173))⟩,⟨some s175,some (s165,true),(.p (.fad 1 t3))⟩,⟨some s176,some (s165,true),(.r (.ldc t175))⟩,⟨some s177,some (s165,true),(.e (.call 21 [t174,t176]) [(.c t169),(.l t166)])⟩,⟨some s178,some (s165,true),(.p (.iad 1 t177 (ci 0)))⟩,⟨some s179,some (s165,true),(.r (.ldc t178))⟩,⟨some s180,some (s165,true),(.p (.bin .eql eI t170 t179))⟩,⟨some s181,some (s158,false),(.p (.pick t165 t180 (.c (.bool false))))⟩,⟨some s182,some (s158,false),(.p (.mov t181))⟩,⟨some s183,some (s182,true),(.p (.mov t0))⟩,⟨some s184,some (s182,true),(.p (.fad 4 t3))⟩,⟨some s185,some (s182,true),(.r (.ld false 1 t184))⟩,⟨some s186,some (s182,true),(.p (.iad 5 t185 (ci 0)))⟩,⟨some s187,some (s182,true),(.r (.ld true 5 t186))⟩,⟨some s188,some (s182,true),(.e (.call 73 [t183,t187]) [])⟩,⟨some s189,some (s158,false),(.p (.pick t182 t188 (.c (.bool false))))⟩,oP s190 (.pick t158 (.c (.bool true)) t189),oM s4 t190]) .ret))
 .skip)))))))))))))) (.seq (.reg [oM s4 (.c (.bool false))]) .ret)))),2,[.t s4],none⟩
def f74:FI:=⟨(.seq (.reg [oM s2 (.c .nilp)]) (.seq (.reg [oM s3 t0,oN s4 t3,oF s5 0 t4,oG s6 t5,oC s7 53 [t6],oM s2 t7]) .ret)),0,[.t s2],none⟩
def f75:FI:=⟨(.seq (.reg [oM s4 (ci 0),oM s5 (.c (.bool false))]) (.seq (.reg [oM s9 t0,oM s10 t1,oC s11 85 [t9,t10],oM s8 t11,oE s12 t8 0,oE s13 t8 1,oX s6 (.new 0 false false (.cells 153 [(vi 0),(.str []),vz,vz])) [],oS 4 t6 t12,oM s7 t13]) (.seq (.reg [oF s14 0 t6,oF s15 0 t14,oG s16 t15,oM s17 t7,oM s4 t16,oM s5 t17]) .ret))),1,[.t s4,.t s5],none⟩
end Go.Abs.Run
namespace Go.Abs.Run
open Go Go.Abs Go.Proofs
def f76:FI:=⟨(.seq (.reg [oM s4 (ci 0)]) (.seq (.reg [oM s5 t0,oM s6 t1,oC s7 136 [t5,t6],oP s8 (.fld true 0 2 t7),oP s9 (.fld false 0 1 t8),oM s4 t9]) .ret)),0,[.t s4],none⟩
def f77:FI:=⟨(.seq (.reg [oM s4 (.c vz)]) (.seq (.reg [oM s6 t0,oM s7 t1,oC s8 137 [t6,t7],oM s5 t8]) (.seq (.reg [oM s9 t5,oC s10 138 [t9]]) (.seq (.reg [oM s11 t5,oM s4 t11]) .ret)))),0,[.t s4],none⟩
def b78x0:AC:=(.seq (.reg [oQ s66 .lss t65 t64]) (.seq (.cond t66
 .skip
 (.exit 1)) (.seq (.blk 2 (.seq (.reg [oM s67 t65,oP s68 (.iad 1 t63 t65),oL s69 t68,oM s7 t67,oM s8 t69]) (.seq (.seq (.reg [oM s70 t7,oQ s71 .gtr t70 (ci 0)]) (.cond t71
 (.reg [oM s72 t2,oC s73 139 [t72,(.c (.str [44,32]))]])
 .skip)) (.seq (.reg [oM s74 t2,oM s75 t8,oP s76 (.bin .add eS t75 (.c (.str [58,32]))),oC s77 139 [t74,t76]]) (.seq (.reg [oM s78 t2,oC s79 142 [t78],oQ s80 .gtr t79 (ci 4096),oM s81 t80,⟨some s82,some (s81,false),(.p (.mov t0))⟩,⟨some s83,some (s81,false),(.p (.fad 4 t4))⟩,⟨some s84,some (s81,false),(.r (.ld false 1 t83))⟩,⟨some s85,some (s81,false),(.p (.mov t7))⟩,⟨some s86,some (s81,false),(.p (.iad 5 t84 t85))⟩,⟨some s87,some (s81,false),(.r (.ld true 5 t86))⟩,⟨some s88,some (s81,false),(.p (.mov t2))⟩,⟨some s89,some (s81,false),(.e (.call 78 [t82,t87,t88]) [])⟩,⟨some s90,some (s81,false),(.p (.un .not t89))⟩,oP s91 (.pick t81 (.c (.bool true)) t90)]) (.cond t91
 (.seq (.reg [oM s6 (.c (.bool false))]) .ret)
 .skip)))))) (.reg [oQ s92 .add t65 (ci 1),oM s65 t92]))))
def f78:FI:=⟨(.seq (.reg [oX s4 (.box 0 false 41 5 t1) [],oM s6 (.c (.bool false))]) (.seq (.seq (.reg [oF s9 0 t4,oG s10 t9]) (.blk 0 (.seq (.reg [oQ s12 .eql t10 (ci 1),oM s11 t12]) (.cond t11
 (.reg [oM s13 t2,oF s14 2 t4,oG s15 t14,oC s16 119 [t15],oC s17 139 [t13,t16]])
 (.seq (.reg [oQ s19 .eql t10 (ci 2),oM s18 t19]) (.cond t18
 (.reg [oM s20 t2,oF s21 2 t4,oG s22 t21,oQ s23 .eql t22 (ci 1),oC s24 140 [t23],oC s25 139 [t20,t24]])
 (.seq (.reg [oQ s27 .eql t10 (ci 3),oM s26 t27]) (.cond t26
 (.reg [oM s28 t2,oF s29 3 t4,oL s30 t29,oC s31 139 [t28,t30]])
 (.seq (.reg [oQ s33 .eql t10 (ci 6),oM s32 t33]) (.cond t32
 (.reg [oM s34 t2,oF s35 3 t4,oL s36 t35,oP s37 (.bin .add eS (.c (.str [102,110,32])) t36),oC s38 139 [t34,t37]])
 (.seq (.reg [oQ s40 .eql t10 (ci 5),oM s39 t40]) (.cond t39
 (.seq (.seq (.reg [oF s41 4 t4,oL s42 t41,oP s43 (.len false t42),oQ s44 .eql t43 (ci 0)]) (.cond t44
 (.seq (.reg [oM s45 t2,oC s46 139 [t45,(.c (.str [110,105,108]))]]) (.exit 0))
 .skip)) (.seq (.reg [oM s47 t2,oC s48 141 [t47,(cu 38)]]) (.seq (.reg [oM s49 t0,oF s50 4 t4,oL s51 t50,oP s52 (.iad 5 t51 (ci 0)),oR s53 (.ld true 5 t52),oM s54 t2,oC s55 78 [t49,t53,t54],oM s6 t55]) .ret)))
 (.seq (.reg [oQ s57 .eql t10 (ci 4),oM s56 t57]) (.cond t56
 (.seq (.reg [oM s58 t2,oC s59 141 [t58,(cu 123)]]) (.seq (.seq (.reg [oM s60 t0,oF s61 1 t4,oG s62 t61,oC s63 135 [t60,t62],oP s64 (.len false t63),oM s65 (ci 0)]) (.blk 1 (.loop b78x0))) (.reg [oM s93 t2,oC s94 141 [t93,(cu 125)]])))
 .skip)))))))))))))) (.seq (.reg [oM s95 t2,oC s96 142 [t95],oQ s97 .leq t96 (ci 4096),oM s6 t97]) .ret))),1,[.t s6],none⟩
def f79:FI:=⟨(.seq (.reg [oM s2 (.c (.str []))]) (.seq (.reg [oM s3 t0,oN s4 t3,oF s5 1 t4,oL s6 t5,oP s7 (.usd t6),oM s8 t0,oN s9 t8,oF s10 1 t9,oL s11 t10,oP s12 (.len false t11),oP s13 (.ust t7 t12),oM s2 t13]) .ret)),0,[.t s2],none⟩
def f80:FI:=⟨(.seq (.reg [oM s2 (.c .nilp)]) (.seq (.reg [oM s8 t0,oC s9 143 [t8],oM s7 t9,oE s10 t7 0,oE s11 t7 1,oE s12 t7 2,oM s3 t10,oM s4 t11,oM s5 t12]) (.seq (.reg [oM s13 t3,oM s14 t0,oP s15 (.len true t14),oM s16 t5,oM s17 t4,oP s18 (.bld [vz,(vi 0),(vi 0),(vi 0),(vi 0)] [(0,1,t13),(1,1,t15),(3,1,t16),(4,1,t17)]),oX s19 (.box 0 true 180 5 t18) [],oM s6 t19]) (.seq (.reg [oM s20 t6,oM s2 t20]) .ret)))),1,[.t s2],none⟩
def f81:FI:=⟨(.seq (.reg [oM s4 (.c (.bool false))]) (.seq (.seq (.reg [oM s6 t0,oN s7 t6,oF s8 3 t7,oG s9 t8,oQ s10 .neq t9 (ci 0),oM s11 t10,⟨some s12,some (s11,false),(.p (.mov t0))⟩,⟨some s13,some (s11,false),(.p (.nilc t12))⟩,⟨some s14,some (s11,false),(.p (.fad 2 t13))⟩,⟨some s15,some (s11,false),(.r (.ldc t14))⟩,⟨some s16,some (s11,false),(.p (.mov t0))⟩,⟨some s17,some (s11,false),(.p (.nilc t16))⟩,⟨some s18,some (s11,false),(.p (.fad 0 t17))⟩,⟨some s19,some (s11,false),(.r (.ld false 1 t18))⟩,⟨some s20,some (s11,false),(.p (.len false t19))⟩,⟨some s21,some (s11,false),(.p (.bin .geq eI t15 t20))⟩,oP s22 (.pick t11 (.c (.bool true)) t21)]) (.cond t22
 (.seq (.reg [oM s4 (.c (.bool false))]) .ret)
 .skip)) (.seq (.reg [oM s23 t0,oN s24 t23,oF s25 0 t24,oL s26 t25,oM s27 t0,oN s28 t27,oF s29 2 t28,oG s30 t29,oP s31 (.iad 4 t26 t30),oR s32 (.ld true 4 t31),oX s5 (.new 0 false false (.cells 241 [(vi 0),(vi 0),(.str []),(vi 0)])) [(.l t31),(.c t29),(.l t25)],oS 4 t5 t32]) (.seq (.reg [oF s33 1 t5,oG s34 t33,oQ s35 .eql t34 (ci 3),oM s36 t35,⟨some s37,some (s36,false),(.p (.fad 1 t5))⟩,⟨some s38,some (s36,false),(.r (.ldc t37))⟩,⟨some s39,some (s36,false),(.p (.bin .eql eI t38 (ci 6)))⟩,oP s40 (.pick t36 (.c (.bool true)) t39),oM s41 t40,⟨some s42,some (s41,true),(.p (.fad 2 t5))⟩,⟨some s43,some (s41,true),(.r (.ld false 1 t42))⟩,⟨some s44,some (s41,true),(.p (.mov t1))⟩,⟨some s45,some (s41,true),(.p (.bin .eql eS t43 t44))⟩,oP s46 (.pick t41 t45 (.c (.bool false))),oM s4 t46]) .ret)))),1,[.t s4],none⟩
def f82:FI:=⟨(.seq (.reg [oX s2 (.new 0 false false (.cells 108 [(vi 0),(.str []),(vi 0),(.str []),vz,vz,vz])) []]) (.seq (.reg [oP s4 (.bld [(vi 0),(.str []),(vi 0),(.str []),vz,vz,vz] []),oX s3 (.new 1 false false (.cells 108 [(vi 0),(.str []),(vi 0),(.str []),vz,vz,vz])) [],oS 7 t3 t4]) (.seq (.reg [oM s5 t0,oC s6 144 [t5],oF s7 0 t3,oF s8 0 t7,oS 1 t8 t6]) (.seq (.reg [oM s9 t0,oC s10 145 [t9,(.c (.str [116,121,112,101]))]]) (.seq (.reg [oM s11 t0,oC s12 146 [t11,(ci 2)],oF s13 1 t3,oS 1 t13 t12]) (.seq (.reg [oM s14 t0,oC s15 145 [t14,(.c (.str [61]))]]) (.seq (.reg [oM s16 t0,oC s17 147 [t16,(ci 1)],oF s18 2 t3,oS 5 t18 t17]) (.seq (.reg [oM s19 t0,oC s20 145 [t19,(.c (.str [59]))]]) (.seq (.reg [oR s21 (.ld true 7 t3),oS 7 t2 t21]) .ret))))))))),2,[.c true 7 s2],none⟩
def f85:FI:=⟨(.seq (.reg [oX s4 (.new 0 false false (.cells 153 [(vi 0),(.str []),vz,vz])) [],oM s5 (.c (.bool false))]) (.seq (.seq (.reg [oM s6 t1,oQ s7 .lss t6 (ci 0),oM s8 t7,⟨some s9,some (s8,false),(.p (.mov t1))⟩,⟨some s10,some (s8,false),(.p (.mov t0))⟩,⟨some s11,some (s8,false),(.p (.nilc t10))⟩,⟨some s12,some (s8,false),(.p (.fad 2 t11))⟩,⟨some s13,some (s8,false),(.r (.ld false 1 t12))⟩,⟨some s14,some (s8,false),(.p (.len false t13))⟩,⟨some s15,some (s8,false),(.p (.bin .geq eI t9 t14))⟩,oP s16 (.pick t8 (.c (.bool true)) t15)]) (.cond t16
 (.seq (.reg [oP s17 (.bld [(vi 0),(.str []),vz,vz] []),oS 4 t4 t17,oM s5 (.c (.bool false))]) .ret)
 .skip)) (.seq (.reg [oM s18 t0,oN s19 t18,oF s20 2 t19,oL s21 t20,oM s22 t1,oP s23 (.iad 4 t21 t22),oR s24 (.ld true 4 t23),oS 4 t4 t24,oM s5 (.c (.bool true))]) .ret))),1,[.c true 4 s4,.t s5],none⟩
def f86:FI:=⟨(.seq (.reg [oM s4 (.c .nilp),oM s5 (.c vz),oM s6 (.c .nili)]) (.seq (.reg [oM s11 t0,oN s12 t11,oF s13 0 t12,oG s14 t13,oC s15 53 [t14],oM s7 t15]) (.seq (.reg [oM s17 t7,oM s18 t1,oC s19 12 [t17,t18],oM s16 t19,oE s20 t16 0,oE s21 t16 1,oM s8 t20,oM s9 t21]) (.seq (.seq (.reg [oM s22 t9,oP s23 (.bin .neq .ifc t22 (.c .nili))]) (.cond t23
 (.seq (.reg [oM s24 t9,oM s4 (.c .nilp),oM s5 (.c vz),oM s6 t24]) .ret)
 .skip)) (.seq (.reg [oM s25 t7,oC s26 14 [t25],oM s10 t26]) (.seq (.reg [oM s27 t10,oM s28 t10,oM s29 t8,oC s30 61 [t28,t29],oM s4 t27,oM s5 t30,oM s6 (.c .nili)]) .ret)))))),0,[.t s4,.t s5,.t s6],none⟩
def b87x0:AC:=(.seq (.reg [oQ s15 .lss t14 t13]) (.seq (.cond t15
 .skip
 (.exit 0)) (.seq (.blk 1 (.seq (.reg [oP s16 (.iad 1 t12 t14),oL s17 t16,oM s9 t17]) (.seq (.reg [oM s19 t0,oR s20 (.ld true 5 t4),oM s21 t9,oC s22 150 [t19,t20,t21],oM s18 t22,oE s23 t18 0,oE s24 t18 1,oX s10 (.new 2 false false (.cells 41 [(vi 0),(vi 0),(vi 0),(.str []),vz])) [],oS 5 t10 t23,oM s11 t24]) (.seq (.seq (.reg [oM s25 t11,oQ s26 .neq t25 (ci 0)]) (.cond t26
 (.seq (.reg [oP s27 (.bld [(vi 0),(vi 0),(vi 0),(.str []),vz] []),oM s28 t11,oS 5 t6 t27,oM s7 t28]) .ret)
 .skip)) (.reg [oR s29 (.ld true 5 t10),oS 5 t4 t29]))))) (.reg [oQ s30 .add t14 (ci 1),oM s14 t30]))))
def f87:FI:=⟨(.seq (.reg [oX s4 (.box 0 false 41 5 t1) [],oX s6 (.new 1 false false (.cells 41 [(vi 0),(vi 0),(vi 0),(.str []),vz])) [],oM s7 (ci 0)]) (.seq (.seq (.reg [oM s12 t2,oP s13 (.len false t12),oM s14 (ci 0)]) (.blk 0 (.loop b87x0))) (.seq (.reg [oR s31 (.ld true 5 t4),oS 5 t6 t31,oM s7 (ci 0)]) .ret))),3,[.c true 5 s6,.t s7],none⟩
def b88x0:AC:=(.seq (.reg [oQ s10 .lss t9 t8]) (.seq (.cond t10
 .skip
 (.exit 0)) (.seq (.blk 1 (.seq (.reg [oP s11 (.iad 5 t7 t9),oR s12 (.ld true 5 t11),oX s5 (.new 2 false false (.cells 41 [(vi 0),(vi 0),(vi 0),(.str []),vz])) [],oS 5 t5 t12]) (.reg [oM s13 t3,oR s14 (.ld true 5 t5),oC s15 88 [t14],oP s16 (.bsl 1 5 (.agg [(vi 0),(vi 0),(vi 0),(.str []),vz]) [(0,t15)]),oX s17 (.app 3 0 5 (.agg [(vi 0),(vi 0),(vi 0),(.str []),vz]) 64 t13 t16) [],oM s3 t17]))) (.reg [oQ s18 .add t9 (ci 1),oM s9 t18]))))
def f88:FI:=⟨(.seq (.reg [oX s1 (.box 0 false 41 5 t0) [],oX s2 (.new 1 false false (.cells 41 [(vi 0),(vi 0),(vi 0),(.str []),vz])) []]) (.seq (.reg [oM s3 (.c vz)]) (.seq (.seq (.reg [oF s6 4 t1,oL s7 t6,oP s8 (.len false t7),oM s9 (ci 0)]) (.blk 0 (.loop b88x0))) (.seq (.reg [oM s19 t3,oF s20 4 t1,oS 1 t20 t19]) (.seq (.reg [oR s21 (.ld true 5 t1),oS 5 t2 t21]) .ret))))),3,[.c true 5 s2],none⟩
def b89x0:AC:=(.seq (.reg [oQ s18 .lss t17 t16]) (.seq (.cond t18
 .skip
 (.exit 0)) (.seq (.blk 1 (.seq (.reg [oM s19 t17,oP s20 (.iad 5 t15 t17),oR s21 (.ld true 5 t20),oX s8 (.new 0 false false (.cells 41 [(vi 0),(vi 0),(vi 0),(.str []),vz])) [],oM s7 t19,oS 5 t8 t21]) (.seq (.reg [oM s22 t1,oM s23 t7,oP s24 (.iad 5 t22 t23),oR s25 (.ld true 5 t24),oX s9 (.new 1 false false (.cells 41 [(vi 0),(vi 0),(vi 0),(.str []),vz])) [],oS 5 t9 t25]) (.seq (.reg [oM s26 t2,oR s27 (.ld true 5 t8),oR s28 (.ld true 5 t9),oX s29 (.callv t26 [t27,t28]) [],oP s30 (.un .not t29)]) (.cond t30
 (.seq (.reg [oM s6 (.c (.bool false))]) .ret)
 .skip))))) (.reg [oQ s31 .add t17 (ci 1),oM s17 t31]))))
def f89:FI:=⟨(.seq (.reg [oM s6 (.c (.bool false))]) (.seq (.seq (.reg [oM s10 t0,oP s11 (.len false t10),oM s12 t1,oP s13 (.len false t12),oQ s14 .neq t11 t13]) (.cond t14
 (.seq (.reg [oM s6 (.c (.bool false))]) .ret)
 .skip)) (.seq (.seq (.reg [oM s15 t0,oP s16 (.len false t15),oM s17 (ci 0)]) (.blk 0 (.loop b89x0))) (.seq (.reg [oM s6 (.c (.bool true))]) .ret)))),2,[.t s6],none⟩
def b90x0:AC:=(.seq (.seq (.reg [oM s20 t6,oF s21 3 t2,oL s22 t21,oP s23 (.len false t22),oQ s24 .lss t20 t23,oM s25 t24,⟨some s26,some (s25,true),(.p (.mov t5))⟩,⟨some s27,some (s25,true),(.p (.mov t1))⟩,⟨some s28,some (s25,true),(.p (.bin .lss eI t26 t27))⟩,oP s29 (.pick t25 t28 (.c (.bool false)))]) (.cond t29
 .skip
 (.exit 0))) (.seq (.blk 1 (.reg [oM s32 t5,oQ s33 .add t32 (ci 1),oF s34 3 t2,oL s35 t34,oM s36 t6,oP s37 (.iad 6 t35 t36),oF s38 0 t37,oL s39 t38,oP s40 (.len true t39),oQ s41 .add t33 t40,oF s42 3 t2,oL s43 t42,oM s44 t6,oP s45 (.iad 6 t43 t44),oF s46 1 t45,oR s47 (.ld true 5 t46),oM s48 t1,oM s49 t5,oQ s50 .sub t48 t49,oX s51 (.call 91 [t47,t50]) [(.l t38),(.l t34)],oQ s52 .add t41 t51,oM s5 t52])) (.reg [oM s30 t6,oQ s31 .add t30 (ci 1),oM s6 t31])))
def f90:FI:=⟨(.seq (.reg [oX s2 (.box 0 false 88 10 t0) [],oM s4 (ci 0)]) (.seq (.reg [oF s7 1 t2,oL s8 t7,oP s9 (.len true t8),oQ s10 .add (ci 1) t9,oF s11 2 t2,oL s12 t11,oP s13 (.len true t12),oQ s14 .add t10 t13,oF s15 4 t2,oR s16 (.ld true 5 t15),oM s17 t1,oX s18 (.call 91 [t16,t17]) [(.l t11),(.l t7)],oQ s19 .add t14 t18,oM s5 t19]) (.seq (.seq (.reg [oM s6 (ci 0)]) (.blk 0 (.loop b90x0))) (.seq (.seq (.reg [oM s53 t5,oM s54 t1,oQ s55 .lss t53 t54]) (.cond t55
 (.reg [oM s56 t5,oF s57 9 t2,oL s58 t57,oM s59 t1,oM s60 t5,oQ s61 .sub t59 t60,oC s62 151 [t58,t61],oQ s63 .add t56 t62,oM s5 t63])
 .skip)) (.seq (.reg [oM s64 t5,oM s4 t64]) .ret))))),1,[.t s4],none⟩
def b91x0:AC:=(.seq (.seq (.reg [oM s40 t7,oF s41 4 t2,oL s42 t41,oP s43 (.len false t42),oQ s44 .lss t40 t43,oM s45 t44,⟨some s46,some (s45,true),(.p (.mov t5))⟩,⟨some s47,some (s45,true),(.p (.mov t1))⟩,⟨some s48,some (s45,true),(.p (.bin .lss eI t46 t47))⟩,oP s49 (.pick t45 t48 (.c (.bool false)))]) (.cond t49
 .skip
 (.exit 2))) (.seq (.blk 3 (.reg [oM s52 t5,oF s53 4 t2,oL s54 t53,oM s55 t7,oP s56 (.iad 5 t54 t55),oR s57 (.ld true 5 t56),oM s58 t1,oM s59 t5,oQ s60 .sub t58 t59,oC s61 91 [t57,t60],oQ s62 .add t52 t61,oM s5 t62])) (.reg [oM s50 t7,oQ s51 .add t50 (ci 1),oM s7 t51])))
def b91x1:AC:=(.seq (.seq (.reg [oM s20 t6,oF s21 2 t2,oL s22 t21,oP s23 (.len false t22),oQ s24 .lss t20 t23,oM s25 t24,⟨some s26,some (s25,true),(.p (.mov t5))⟩,⟨some s27,some (s25,true),(.p (.mov t1))⟩,⟨some s28,some (s25,true),(.p (.bin .lss eI t26 t27))⟩,oP s29 (.pick t25 t28 (.c (.bool false)))]) (.cond t29
 .skip
 (.exit 0))) (.seq (.blk 1 (.reg [oM s32 t5,oF s33 2 t2,oL s34 t33,oM s35 t6,oP s36 (.iad 1 t34 t35),oL s37 t36,oP s38 (.len true t37),oQ s39 .add t32 t38,oM s5 t39])) (.reg [oM s30 t6,oQ s31 .add t30 (ci 1),oM s6 t31])))
def f91:FI:=⟨(.seq (.reg [oX s2 (.box 0 false 34 5 t0) [],oM s4 (ci 0)]) (.seq (.reg [oF s8 1 t2,oL s9 t8,oP s10 (.len true t9),oQ s11 .add (ci 1) t10,oF s12 2 t2,oL s13 t12,oP s14 (.len false t13),oQ s15 .add t11 t14,oF s16 3 t2,oL s17 t16,oP s18 (.len false t17),oQ s19 .add t15 t18,oM s5 t19]) (.seq (.seq (.reg [oM s6 (ci 0)]) (.blk 0 (.loop b91x1))) (.seq (.seq (.reg [oM s7 (ci 0)]) (.blk 2 (.loop b91x0))) (.seq (.reg [oM s63 t5,oM s4 t63]) .ret))))),1,[.t s4],none⟩
def f93:FI:=⟨(.seq (.reg [oX s1 (.box 0 false 34 5 t0) [],oM s2 (.c (.str [])),oM s3 (ci 0)]) (.seq (.reg [oP s6 (.bld [.nilp,vz,(vi 0)] []),oX s7 (.box 1 false 254 3 t6) [],oM s4 t7]) (.seq (.reg [oR s8 (.ld true 5 t1),oC s9 152 [t8,(ci 64)],oM s5 t9]) (.seq (.seq (.reg [oM s10 t5]) (.cond t10
 (.reg [oM s11 t4,oR s12 (.ld true 5 t1),oC s13 153 [t11,t12]])
 .skip)) (.seq (.reg [oM s14 t4,oN s15 t14,oF s16 0 t15,oM s17 t5,oC s18 154 [t16,t17],oE s19 t18 0,oE s20 t18 1,oM s2 t19,oM s3 t20]) .ret))))),2,[.t s2,.t s3],none⟩
def f94:FI:=⟨(.seq (.reg [oX s1 (.box 0 false 34 5 t0) [],oM s2 (.c (.bool false))]) (.seq (.reg [oR s6 (.ld true 5 t1),oC s7 93 [t6],oM s5 t7,oE s8 t5 0,oE s9 t5 1,oM s3 t8,oM s4 t9]) (.seq (.reg [oM s10 t4,oQ s11 .neq t10 (ci 1),oM s2 t11]) .ret))),1,[.t s2],none⟩
def b98x0:AC:=(.seq (.reg [oQ s15 .lss t14 t13]) (.seq (.cond t15
 .skip
 (.exit 0)) (.seq (.blk 1 (.seq (.reg [oP s16 (.iad 1 t12 t14),oL s17 t16,oM s7 t17]) (.seq (.reg [oM s19 t0,oM s20 t7,oR s21 (.lku false [.s] true (.agg [(vi 0),(.str []),(vi 0),(.str []),vz,vz,vz]) t19 t20),oM s18 t21,oE s22 t18 0,oE s23 t18 1,oX s8 (.new 1 false false (.cells 108 [(vi 0),(.str []),(vi 0),(.str []),vz,vz,vz])) [],oS 7 t8 t22,oM s9 t23]) (.seq (.reg [oM s24 t9,oP s25 (.un .not t24)]) (.cond t25
 (.seq (.reg [oM s26 t7,oM s4 t26,oM s5 (.c (.bool true))]) .ret)
 .skip))))) (.reg [oQ s27 .add t14 (ci 1),oM s14 t27]))))
def f98:FI:=⟨(.seq (.reg [oX s3 (.box 0 false 34 5 t1) [],oM s4 (.c (.str [])),oM s5 (.c (.bool false))]) (.seq (.seq (.reg [oR s10 (.ld true 5 t3),oP s11 (.bsl 1 5 (.agg [(vi 0),(.str []),vz,vz,vz]) [(0,t10)]),oC s12 158 [t11],oP s13 (.len false t12),oM s14 (ci 0)]) (.blk 0 (.loop b98x0))) (.seq (.reg [oM s4 (.c (.str [])),oM s5 (.c (.bool false))]) .ret))),2,[.t s4,.t s5],none⟩
def b99x0:AC:=(.seq (.reg [oQ s14 .lss t13 t12]) (.seq (.cond t14
 .skip
 (.exit 0)) (.seq (.blk 1 (.seq (.reg [oM s15 t13,oP s16 (.iad 5 t11 t13),oR s17 (.ld true 5 t16),oX s7 (.new 1 false false (.cells 34 [(vi 0),(.str []),vz,vz,vz])) [],oM s6 t15,oS 5 t7 t17]) (.seq (.seq (.reg [oF s18 0 t3,oG s19 t18,oQ s20 .eql t19 (ci 6),oM s21 t20,⟨some s22,some (s21,true),(.p (.fad 3 t3))⟩,⟨some s23,some (s21,true),(.r (.ld false 1 t22))⟩,⟨some s24,some (s21,true),(.p (.mov t6))⟩,⟨some s25,some (s21,true),(.p (.iad 1 t23 t24))⟩,⟨some s26,some (s21,true),(.r (.ldc t25))⟩,oP s27 (.pick t21 t26 (.c (.bool false))),oM s28 t27,⟨some s29,some (s28,true),(.p (.mov t0))⟩,⟨some s30,some (s28,true),(.r (.ld true 5 t7))⟩,⟨some s31,some (s28,true),(.e (.call 159 [t29,t30]) [])⟩,⟨some s32,some (s28,true),(.p (.un .not t31))⟩,oP s33 (.pick t28 t32 (.c (.bool false)))]) (.cond t33
 (.seq (.reg [oF s34 2 t3,oL s35 t34,oM s36 t6,oP s37 (.iad 1 t35 t36),oL s38 t37,oM s4 t38,oM s5 (.c (.bool true))]) .ret)
 .skip)) (.seq (.reg [oM s40 t0,oR s41 (.ld true 5 t7),oC s42 99 [t40,t41],oM s39 t42,oE s43 t39 0,oE s44 t39 1,oM s8 t43,oM s9 t44]) (.seq (.reg [oM s45 t9]) (.cond t45
 (.seq (.reg [oM s46 t8,oM s4 t46,oM s5 (.c (.bool true))]) .ret)
 .skip)))))) (.reg [oQ s47 .add t13 (ci 1),oM s13 t47]))))
def f99:FI:=⟨(.seq (.reg [oX s3 (.box 0 false 34 5 t1) [],oM s4 (.c (.str [])),oM s5 (.c (.bool false))]) (.seq (.seq (.reg [oF s10 4 t3,oL s11 t10,oP s12 (.len false t11),oM s13 (ci 0)]) (.blk 0 (.loop b99x0))) (.seq (.reg [oM s4 (.c (.str [])),oM s5 (.c (.bool false))]) .ret))),2,[.t s4,.t s5],none⟩
def b100x0:AC:=(.blk 1 (.seq (.reg [oM s21 t2,oM s22 t1,oQ s23 .sub t21 t22,oM s12 t23]) (.seq (.seq (.reg [oM s24 t12,oQ s25 .leq t24 (ci 12)]) (.cond t25
 (.seq (.reg [oM s26 t0,oM s27 t1,oM s28 t2,oM s29 t4,oC s30 160 [t26,t27,t28,t29]]) .ret)
 .skip)) (.seq (.seq (.reg [oM s31 t3,oQ s32 .eql t31 (ci 0)]) (.cond t32
 (.seq (.reg [oM s33 t0,oM s34 t1,oM s35 t2,oM s36 t4,oC s37 161 [t33,t34,t35,t36]]) .ret)
 .skip)) (.seq (.seq (.reg [oM s38 t10,oP s39 (.un .not t38)]) (.cond t39
 (.seq (.reg [oM s40 t0,oM s41 t1,oM s42 t2,oM s43 t4,oC s44 162 [t40,t41,t42,t43]]) (.reg [oM s45 t3,oQ s46 .sub t45 (ci 1),oM s3 t46]))
 .skip)) (.seq (.reg [oM s48 t0,oM s49 t1,oM s50 t2,oM s51 t4,oC s52 163 [t48,t49,t50,t51],oM s47 t52,oE s53 t47 0,oE s54 t47 1,oM s13 t53,oM s14 t54]) (.seq (.seq (.reg [oM s55 t14,oQ s56 .eql t55 (ci 2)]) (.cond t56
 (.seq (.reg [oM s57 t0,oM s58 t1,oM s59 t2,oM s60 t4,oC s61 164 [t57,t58,t59,t60]]) (.seq (.reg [oM s62 t2,oQ s63 .sub t62 (ci 1),oM s64 t13,oM s65 t1,oQ s66 .sub t64 t65,oQ s67 .sub t63 t66,oM s13 t67]) (.reg [oM s14 (ci 1)])))
 .skip)) (.seq (.seq (.reg [oM s68 t10,oM s69 t68,⟨some s70,some (s69,true),(.p (.mov t11))⟩,oP s71 (.pick t69 t70 (.c (.bool false))),oM s72 t71,⟨some s73,some (s72,true),(.p (.mov t14))⟩,⟨some s74,some (s72,true),(.p (.bin .eql eI t73 (ci 1)))⟩,oP s75 (.pick t72 t74 (.c (.bool false)))]) (.cond t75
 (.seq (.reg [oM s76 t0,oM s77 t1,oM s78 t2,oM s79 t4,oC s80 165 [t76,t77,t78,t79]]) (.cond t80
 .ret
 .skip))
 .skip)) (.seq (.seq (.reg [oM s81 t1,oQ s82 .gtr t81 (ci 0),oM s83 t82,⟨some s84,some (s83,true),(.p (.mov t4))⟩,⟨some s85,some (s83,true),(.p (.mov t0))⟩,⟨some s86,some (s83,true),(.p (.mov t1))⟩,⟨some s87,some (s83,true),(.p (.bin .sub eI t86 (ci 1)))⟩,⟨some s88,some (s83,true),(.p (.iad 2 t85 t87))⟩,⟨some s89,some (s83,true),(.r (.ld true 2 t88))⟩,⟨some s90,some (s83,true),(.p (.mov t0))⟩,⟨some s91,some (s83,true),(.p (.mov t13))⟩,⟨some s92,some (s83,true),(.p (.iad 2 t90 t91))⟩,⟨some s93,some (s83,true),(.r (.ld true 2 t92))⟩,⟨some s94,some (s83,true),(.e (.callv t84 [t89,t93]) [])⟩,⟨some s95,some (s83,true),(.p (.bin .lss eI t94 (ci 0)))⟩,⟨some s96,some (s83,true),(.p (.un .not t95))⟩,oP s97 (.pick t83 t96 (.c (.bool false)))]) (.cond t97
 (.seq (.reg [oM s98 t0,oM s99 t1,oM s100 t2,oM s101 t13,oM s102 t4,oC s103 166 [t98,t99,t100,t101,t102],oM s15 t103]) (.seq (.reg [oM s104 t15,oM s1 t104]) (.exit 1)))
 .skip)) (.seq (.reg [oM s106 t0,oM s107 t1,oM s108 t2,oM s109 t13,oM s110 t4,oC s111 167 [t106,t107,t108,t109,t110],oM s105 t111,oE s112 t105 0,oE s113 t105 1,oM s16 t112,oM s17 t113]) (.seq (.reg [oM s114 t17,oM s11 t114]) (.seq (.reg [oM s115 t16,oM s116 t1,oQ s117 .sub t115 t116,oM s118 t2,oM s119 t16,oQ s120 .sub t118 t119,oM s18 t117,oM s19 t120]) (.seq (.reg [oM s121 t12,oQ s122 .quo t121 (ci 8),oM s20 t122]) (.seq (.reg [oM s123 t18,oM s124 t19,oQ s125 .lss t123 t124]) (.cond t125
 (.seq (.reg [oM s126 t18,oM s127 t20,oQ s128 .geq t126 t127,oM s10 t128]) (.seq (.reg [oM s129 t0,oM s130 t1,oM s131 t16,oM s132 t3,oM s133 t4,oC s134 100 [t129,t130,t131,t132,t133]]) (.reg [oM s135 t16,oQ s136 .add t135 (ci 1),oM s1 t136])))
 (.seq (.reg [oM s137 t19,oM s138 t20,oQ s139 .geq t137 t138,oM s10 t139]) (.seq (.reg [oM s140 t0,oM s141 t16,oQ s142 .add t141 (ci 1),oM s143 t2,oM s144 t3,oM s145 t4,oC s146 100 [t140,t142,t143,t144,t145]]) (.reg [oM s147 t16,oM s2 t147]))))))))))))))))))
def f100:FI:=⟨(.seq (.reg [oM s10 (.c (.bool true))]) (.seq (.reg [oM s11 (.c (.bool true))]) (.blk 0 (.loop b100x0)))),0,[],none⟩
def f101:FI:=⟨(.seq (.reg [oM s2 (ci 0)]) (.seq (.cond (.c (.bool false))
 (.seq (.reg [oM s3 t0,oP s4 (.cvi .u32 t3),oC s5 168 [t4],oM s2 t5]) .ret)
 .skip) (.seq (.reg [oM s6 t0,oC s7 169 [t6],oM s2 t7]) .ret))),0,[.t s2],none⟩
def f102:FI:=⟨(.seq (.reg [oM s2 (.c vz)]) (.seq (.seq (.reg [oM s3 t0,oP s4 (.bin .eql .sl t3 (.c vz))]) (.cond t4
 (.seq (.reg [oM s2 (.c vz)]) .ret)
 .skip)) (.seq (.reg [oP s5 (.bsl 0 1 (.str []) []),oM s6 t0,oX s7 (.app 0 0 1 (.str []) 16 t5 t6) [],oM s2 t7]) .ret))),0,[.t s2],none⟩
def f103:FI:=⟨(.seq (.reg [oM s2 (.c vz)]) (.seq (.seq (.reg [oM s3 t0,oP s4 (.bin .eql .sl t3 (.c vz))]) (.cond t4
 (.seq (.reg [oM s2 (.c vz)]) .ret)
 .skip)) (.seq (.reg [oP s5 (.bsl 0 1 (.bool false) []),oM s6 t0,oX s7 (.app 0 0 1 (.bool false) 1 t5 t6) [],oM s2 t7]) .ret))),0,[.t s2],none⟩
def b104x0:AC:=(.blk 1 (.seq (.reg [oM s21 t2,oM s22 t1,oQ s23 .sub t21 t22,oM s12 t23]) (.seq (.seq (.reg [oM s24 t12,oQ s25 .leq t24 (ci 12)]) (.cond t25
 (.seq (.reg [oM s26 t0,oM s27 t1,oM s28 t2,oM s29 t4,oC s30 170 [t26,t27,t28,t29]]) .ret)
 .skip)) (.seq (.seq (.reg [oM s31 t3,oQ s32 .eql t31 (ci 0)]) (.cond t32
 (.seq (.reg [oM s33 t0,oM s34 t1,oM s35 t2,oM s36 t4,oC s37 171 [t33,t34,t35,t36]]) .ret)
 .skip)) (.seq (.seq (.reg [oM s38 t10,oP s39 (.un .not t38)]) (.cond t39
 (.seq (.reg [oM s40 t0,oM s41 t1,oM s42 t2,oM s43 t4,oC s44 172 [t40,t41,t42,t43]]) (.reg [oM s45 t3,oQ s46 .sub t45 (ci 1),oM s3 t46]))
 .skip)) (.seq (.reg [oM s48 t0,oM s49 t1,oM s50 t2,oM s51 t4,oC s52 173 [t48,t49,t50,t51],oM s47 t52,oE s53 t47 0,oE s54 t47 1,oM s13 t53,oM s14 t54]) (.seq (.seq (.reg [oM s55 t14,oQ s56 .eql t55 (ci 2)]) (.cond t56
 (.seq (.reg [oM s57 t0,oM s58 t1,oM s59 t2,oM s60 t4,oC s61 174 [t57,t58,t59,t60]]) (.seq (.reg [oM s62 t2,oQ s63 .sub t62 (ci 1),oM s64 t13,oM s65 t1,oQ s66 .sub t64 t65,oQ s67 .sub t63 t66,oM s13 t67]) (.reg [oM s14 (ci 1)])))
 .skip)) (.seq (.seq (.reg [oM s68 t10,oM s69 t68,⟨some s70,some (s69,true),(.p (.mov t11))⟩,oP s71 (.pick t69 t70 (.c (.bool false))),oM s72 t71,⟨some s73,some (s72,true),(.p (.mov t14))⟩,⟨some s74,some (s72,true),(.p (.bin .eql eI t73 (ci 1)))⟩,oP s75 (.pick t72 t74 (.c (.bool false)))]) (.cond t75
 (.seq (.reg [oM s76 t0,oM s77 t1,oM s78 t2,oM s79 t4,oC s80 175 [t76,t77,t78,t79]]) (.cond t80
 .ret
 .skip))
 .skip)) (.seq (.seq (.reg [oM s81 t1,oQ s82 .gtr t81 (ci 0),oM s83 t82,⟨some s84,some (s83,true),(.p (.mov t4))⟩,⟨some s85,some (s83,true),(.p (.mov t0))⟩,⟨some s86,some (s83,true),(.p (.mov t1))⟩,⟨some s87,some (s83,true),(.p (.bin .sub eI t86 (ci 1)))⟩,⟨some s88,some (s83,true),(.p (.iad 3 t85 t87))⟩,⟨some s89,some (s83,true),(.r (.ld true 3 t88))⟩,⟨some s90,some (s83,true),(.p (.mov t0))⟩,⟨some s91,some (s83,true),(.p (.mov t13))⟩,⟨some s92,some (s83,true),(.p (.iad 3 t90 t91))⟩,⟨some s93,some (s83,true),(.r (.ld true 3 t92))⟩,⟨some s94,some (s83,true),(.e (.callv t84 [t89,t93]) [])⟩,⟨some s95,some (s83,true),(.p (.bin .lss eI t94 (ci 0)))⟩,⟨some s96,some (s83,true),(.p (.un .not t95))⟩,oP s97 (.pick t83 t96 (.c (.bool false)))]) (.cond t97
 (.seq (.reg [oM s98 t0,oM s99 t1,oM s100 t2,oM s101 t13,oM s102 t4,oC s103 176 [t98,t99,t100,t101,t102],oM s15 t103]) (.seq (.reg [oM s104 t15,oM s1 t104]) (.exit 1)))
 .skip)) (.seq (.reg [oM s106 t0,oM s107 t1,oM s108 t2,oM s109 t13,oM s110 t4,oC s111 177 [t106,t107,t108,t109,t110],oM s105 t111,oE s112 t105 0,oE s113 t105 1,oM s16 t112,oM s17 t113]) (.seq (.reg [oM s114 t17,oM s11 t114]) (.seq (.reg [oM s115 t16,oM s116 t1,oQ s117 .sub t115 t116,oM s118 t2,oM s119 t16,oQ s120 .sub t118 t119,oM s18 t117,oM s19 t120]) (.seq (.reg [oM s121 t12,oQ s122 .quo t121 (ci 8),oM s20 t122]) (.seq (.reg [oM s123 t18,oM s124 t19,oQ s125 .lss t123 t124]) (.cond t125
 (.seq (.reg [oM s126 t18,oM s127 t20,oQ s128 .geq t126 t127,oM s10 t128]) (.seq (.reg [oM s129 t0,oM s130 t1,oM s131 t16,oM s132 t3,oM s133 t4,oC s134 104 [t129,t130,t131,t132,t133]]) (.reg [oM s135 t16,oQ s136 .add t135 (ci 1),oM s1 t136])))
 (.seq (.reg [oM s137 t19,oM s138 t20,oQ s139 .geq t137 t138,oM s10 t139]) (.seq (.reg [oM s140 t0,oM s141 t16,oQ s142 .add t141 (ci 1),oM s143 t2,oM s144 t3,oM s145 t4,oC s146 104 [t140,t142,t143,t144,t145]]) (.reg [oM s147 t16,oM s2 t147]))))))))))))))))))
def f104:FI:=⟨(.seq (.reg [oM s10 (.c (.bool true))]) (.seq (.reg [oM s11 (.c (.bool true))]) (.blk 0 (.loop b104x0)))),0,[],none⟩
def f105:FI:=⟨(.seq (.reg [oM s2 (.c (.bool false))]) (.seq (.reg [oM s6 t0,oP s7 (.bld [(vi 0),(vi 0),(.str []),(vi 0)] [(1,1,(ci 2)),(2,1,t6)]),oC s8 178 [t7],oM s5 t8,oE s9 t5 0,oE s10 t5 1,oM s3 t9,oM s4 t10]) (.seq (.reg [oM s11 t4,oM s2 t11]) .ret))),0,[.t s2],none⟩
def b108x0:AC:=(.seq (.reg [oQ s15 .lss t14 t13]) (.seq (.cond t15
 .skip
 (.exit 0)) (.seq (.blk 1 (.seq (.reg [oP s16 (.iad 1 t12 t14),oL s17 t16,oM s7 t17]) (.seq (.reg [oM s19 t0,oM s20 t7,oC s21 57 [t19,t20],oM s18 t21,oE s22 t18 0,oE s23 t18 1,oM s8 t22,oM s9 t23]) (.seq (.reg [oM s24 t9,oP s25 (.un .not t24)]) (.cond t25
 (.seq (.reg [oM s26 t7,oM s4 t26,oM s5 (.c (.bool true))]) .ret)
 .skip))))) (.reg [oQ s27 .add t14 (ci 1),oM s14 t27]))))
def f108:FI:=⟨(.seq (.reg [oX s3 (.box 0 false 34 5 t1) [],oM s4 (.c (.str [])),oM s5 (.c (.bool false))]) (.seq (.seq (.reg [oR s10 (.ld true 5 t3),oP s11 (.bsl 1 5 (.agg [(vi 0),(.str []),vz,vz,vz]) [(0,t10)]),oC s12 158 [t11],oP s13 (.len false t12),oM s14 (ci 0)]) (.blk 0 (.loop b108x0))) (.seq (.reg [oM s4 (.c (.str [])),oM s5 (.c (.bool false))]) .ret))),1,[.t s4,.t s5],none⟩
def b109x0:AC:=(.seq (.reg [oQ s16 .lss t15 t14]) (.seq (.cond t16
 .skip
 (.exit 0)) (.seq (.blk 1 (.seq (.reg [oM s17 t15,oP s18 (.iad 5 t13 t15),oR s19 (.ld true 5 t18),oX s7 (.new 1 false false (.cells 34 [(vi 0),(.str []),vz,vz,vz])) [],oM s6 t17,oS 5 t7 t19]) (.seq (.seq (.reg [oF s20 0 t3,oG s21 t20,oQ s22 .eql t21 (ci 6),oM s23 t22,⟨some s24,some (s23,true),(.p (.fad 3 t3))⟩,⟨some s25,some (s23,true),(.r (.ld false 1 t24))⟩,⟨some s26,some (s23,true),(.p (.mov t6))⟩,⟨some s27,some (s23,true),(.p (.iad 1 t25 t26))⟩,⟨some s28,some (s23,true),(.r (.ldc t27))⟩,oP s29 (.pick t23 t28 (.c (.bool false)))]) (.cond t29
 (.seq (.reg [oM s31 t0,oR s32 (.ld true 5 t7),oC s33 182 [t31,t32],oM s30 t33,oE s34 t30 0,oE s35 t30 1,oM s8 t34,oM s9 t35]) (.seq (.reg [oM s36 t8,oQ s37 .neq t36 (ci 6),oM s38 t37,⟨some s39,some (s38,true),(.p (.mov t8))⟩,⟨some s40,some (s38,true),(.p (.bin .neq eI t39 (ci 8)))⟩,oP s41 (.pick t38 t40 (.c (.bool false))),oM s42 t41,⟨some s43,some (s42,true),(.p (.mov t8))⟩,⟨some s44,some (s42,true),(.p (.bin .neq eI t43 (ci 5)))⟩,⟨some s45,some (s42,true),(.p (.mov t44))⟩,⟨some s46,some (s45,false),(.p (.mov t9))⟩,⟨some s47,some (s45,false),(.p (.bin .neq eI t46 (ci 6)))⟩,⟨some s48,some (s42,true),(.p (.pick t45 (.c (.bool true)) t47))⟩,oP s49 (.pick t42 t48 (.c (.bool false)))]) (.cond t49
 (.seq (.reg [oF s50 2 t3,oL s51 t50,oM s52 t6,oP s53 (.iad 1 t51 t52),oL s54 t53,oM s4 t54,oM s5 (.c (.bool true))]) .ret)
 .skip)))
 .skip)) (.seq (.reg [oM s56 t0,oR s57 (.ld true 5 t7),oC s58 109 [t56,t57],oM s55 t58,oE s59 t55 0,oE s60 t55 1,oM s10 t59,oM s11 t60]) (.seq (.reg [oM s61 t11]) (.cond t61
 (.seq (.reg [oM s62 t10,oM s4 t62,oM s5 (.c (.bool true))]) .ret)
 .skip)))))) (.reg [oQ s63 .add t15 (ci 1),oM s15 t63]))))
def f109:FI:=⟨(.seq (.reg [oX s3 (.box 0 false 34 5 t1) [],oM s4 (.c (.str [])),oM s5 (.c (.bool false))]) (.seq (.seq (.reg [oF s12 4 t3,oL s13 t12,oP s14 (.len false t13),oM s15 (ci 0)]) (.blk 0 (.loop b109x0))) (.seq (.reg [oM s4 (.c (.str [])),oM s5 (.c (.bool false))]) .ret))),2,[.t s4,.t s5],none⟩
def b110x0:AC:=(.seq (.seq (.reg [oM s17 t4,oM s18 t3,oQ s19 .lss t17 t18]) (.cond t19
 .skip
 (.exit 2))) (.seq (.blk 3 (.seq (.reg [oM s22 t0,oM s23 t3,oP s24 (.iad 1 t22 t23),oL s25 t24,oM s26 t0,oM s27 t4,oP s28 (.iad 1 t26 t27),oL s29 t28,oP s30 (.bin .eql eS t25 t29)]) (.cond t30
 (.seq (.reg [oM s2 (.c (.bool false))]) .ret)
 .skip))) (.reg [oM s20 t4,oQ s21 .add t20 (ci 1),oM s4 t21])))
def b110x1:AC:=(.seq (.seq (.reg [oM s5 t3,oM s6 t0,oP s7 (.len false t6),oQ s8 .lss t5 t7]) (.cond t8
 .skip
 (.exit 0))) (.seq (.blk 1 (.seq (.seq (.reg [oM s11 t0,oM s12 t3,oP s13 (.iad 1 t11 t12),oL s14 t13,oC s15 179 [t14],oP s16 (.un .not t15)]) (.cond t16
 (.seq (.reg [oM s2 (.c (.bool false))]) .ret)
 .skip)) (.seq (.reg [oM s4 (ci 0)]) (.blk 2 (.loop b110x0))))) (.reg [oM s9 t3,oQ s10 .add t9 (ci 1),oM s3 t10])))
def f110:FI:=⟨(.seq (.reg [oM s2 (.c (.bool false))]) (.seq (.seq (.reg [oM s3 (ci 0)]) (.blk 0 (.loop b110x1))) (.seq (.reg [oM s2 (.c (.bool true))]) .ret))),0,[.t s2],none⟩
def b111x0:AC:=(.seq (.seq (.reg [oM s34 t7,oF s35 4 t3,oL s36 t35,oP s37 (.len false t36),oQ s38 .lss t34 t37]) (.cond t38
 .skip
 (.exit 2))) (.seq (.blk 3 (.reg [oM s41 t0,oF s42 4 t3,oL s43 t42,oM s44 t7,oP s45 (.iad 5 t43 t44),oR s46 (.ld true 5 t45),oC s47 111 [t41,t46],oM s0 t47])) (.reg [oM s39 t7,oQ s40 .add t39 (ci 1),oM s7 t40])))
def b111x1:AC:=(.seq (.seq (.reg [oM s11 t6,oM s12 t0,oP s13 (.len false t12),oQ s14 .lss t11 t13]) (.cond t14
 .skip
 (.exit 0))) (.seq (.blk 1 (.reg [oM s17 t5,oM s18 t17,⟨some s19,some (s18,false),(.p (.mov t0))⟩,⟨some s20,some (s18,false),(.p (.mov t6))⟩,⟨some s21,some (s18,false),(.p (.iad 1 t19 t20))⟩,⟨some s22,some (s18,false),(.r (.ld false 1 t21))⟩,⟨some s23,some (s18,false),(.p (.fad 1 t3))⟩,⟨some s24,some (s18,false),(.r (.ld false 1 t23))⟩,⟨some s25,some (s18,false),(.p (.bin .eql eS t22 t24))⟩,oP s26 (.pick t18 (.c (.bool true)) t25),oM s5 t26])) (.reg [oM s15 t6,oQ s16 .add t15 (ci 1),oM s6 t16])))
def f111:FI:=⟨(.seq (.reg [oX s3 (.box 0 false 34 5 t1) [],oM s4 (.c vz)]) (.seq (.seq (.reg [oF s8 0 t3,oG s9 t8,oQ s10 .eql t9 (ci 4)]) (.cond t10
 (.seq (.reg [oM s5 (.c (.bool false))]) (.seq (.seq (.reg [oM s6 (ci 0)]) (.blk 0 (.loop b111x1))) (.seq (.reg [oM s27 t5,oP s28 (.un .not t27)]) (.cond t28
 (.reg [oM s29 t0,oF s30 1 t3,oL s31 t30,oP s32 (.bsl 1 1 (.str []) [(0,t31)]),oX s33 (.app 1 0 1 (.str []) 16 t29 t32) [],oM s0 t33])
 .skip))))
 .skip)) (.seq (.seq (.reg [oM s7 (ci 0)]) (.blk 2 (.loop b111x0))) (.seq (.reg [oM s48 t0,oM s4 t48]) .ret)))),1,[.t s4],none⟩
def f112:FI:=⟨(.seq (.reg [oM s2 (.c vz)]) (.seq (.seq (.reg [oM s3 t0,oP s4 (.bin .eql .sl t3 (.c vz))]) (.cond t4
 (.seq (.reg [oM s2 (.c vz)]) .ret)
 .skip)) (.seq (.reg [oP s5 (.bsl 0 5 (.agg [(vi 0),vz,vz,vz,(.str [])]) []),oM s6 t0,oX s7 (.app 0 2 5 (.agg [(vi 0),vz,vz,vz,(.str [])]) 96 t5 t6) [],oM s2 t7]) .ret))),1,[.t s2],none⟩
def f113:FI:=⟨(.seq (.reg [oM s2 (.c vz)]) (.seq (.seq (.reg [oM s3 t0,oP s4 (.bin .eql .sl t3 (.c vz))]) (.cond t4
 (.seq (.reg [oM s2 (.c vz)]) .ret)
 .skip)) (.seq (.reg [oP s5 (.bsl 0 2 (.agg [(.str []),(vi 0)]) []),oM s6 t0,oX s7 (.app 0 2 2 (.agg [(.str []),(vi 0)]) 24 t5 t6) [],oM s2 t7]) .ret))),1,[.t s2],none⟩
def f114:FI:=⟨(.seq (.reg [oM s2 (.c vz)]) (.seq (.seq (.reg [oM s3 t0,oP s4 (.bin .eql .sl t3 (.c vz))]) (.cond t4
 (.seq (.reg [oM s2 (.c vz)]) .ret)
 .skip)) (.seq (.reg [oP s5 (.bsl 0 3 (.agg [(.str []),(.str []),(vi 0)]) []),oM s6 t0,oX s7 (.app 0 2 3 (.agg [(.str []),(.str []),(vi 0)]) 40 t5 t6) [],oM s2 t7]) .ret))),1,[.t s2],none⟩
def f115:FI:=⟨(.seq (.reg [oM s4 (ci 0)]) (.seq (.seq (.reg [oM s8 t0,oM s9 t1,oR s10 (.lku false [.s] true (vi 0) t8 t9),oM s7 t10,oE s11 t7 0,oE s12 t7 1,oM s5 t11,oM s6 t12]) (.seq (.reg [oM s13 t6]) (.cond t13
 (.seq (.reg [oM s14 t5,oQ s15 .sub t14 (ci 1),oM s4 t15]) .ret)
 .skip))) (.seq (.reg [oM s16 t0,oM s17 t1,oM s18 t0,oR s19 (.mlen t18),oQ s20 .add t19 (ci 1),oY (.mup false [.s] t16 t17 t20) []]) (.seq (.reg [oM s21 t0,oR s22 (.mlen t21),oQ s23 .sub t22 (ci 1),oM s4 t23]) .ret)))),0,[.t s4],none⟩
def f116:FI:=⟨(.seq (.reg [oM s6 (.c vz)]) (.seq (.reg [oM s7 t0,oM s8 t1,oM s9 t2,oC s10 183 [t7,t8,t9],oM s6 t10]) .ret)),0,[.t s6],none⟩
def b117x0:AC:=(.seq (.seq (.reg [oM s15 t9,oM s16 t10,oQ s17 .lss t15 t16]) (.cond t17
 .skip
 (.exit 0))) (.blk 1 (.seq (.reg [oM s18 t9,oM s19 t10,oQ s20 .add t18 t19,oP s21 (.cvi .u64 t20),oQ s22 .shr t21 (.c (.int .u64 (.ofNat 1))),oP s23 (.cvi .i64 t22),oM s11 t23]) (.seq (.reg [oM s24 t2,oM s25 t0,oM s26 t11,oP s27 (.iad 2 t25 t26),oR s28 (.ld true 2 t27),oM s29 t1,oX s30 (.callv t24 [t28,t29]) [],oQ s31 .lss t30 (ci 0)]) (.cond t31
 (.reg [oM s32 t11,oQ s33 .add t32 (ci 1),oM s9 t33])
 (.reg [oM s34 t11,oM s10 t34]))))))
def f117:FI:=⟨(.seq (.reg [oM s6 (ci 0),oM s7 (.c (.bool false))]) (.seq (.reg [oM s12 t0,oP s13 (.len false t12),oM s8 t13]) (.seq (.reg [oM s14 t8,oM s9 (ci 0),oM s10 t14]) (.seq (.blk 0 (.loop b117x0)) (.seq (.reg [oM s35 t9,oM s36 t9,oM s37 t8,oQ s38 .lss t36 t37,oM s39 t38,⟨some s40,some (s39,true),(.p (.mov t2))⟩,⟨some s41,some (s39,true),(.p (.mov t0))⟩,⟨some s42,some (s39,true),(.p (.mov t9))⟩,⟨some s43,some (s39,true),(.p (.iad 2 t41 t42))⟩,⟨some s44,some (s39,true),(.r (.ld true 2 t43))⟩,⟨some s45,some (s39,true),(.p (.mov t1))⟩,⟨some s46,some (s39,true),(.e (.callv t40 [t44,t45]) [])⟩,⟨some s47,some (s39,true),(.p (.bin .eql eI t46 (ci 0)))⟩,oP s48 (.pick t39 t47 (.c (.bool false))),oM s6 t35,oM s7 t48]) .ret))))),0,[.t s6,.t s7],none⟩
def f118:FI:=⟨(.seq (.reg [oX s2 (.box 0 false 113 2 t0) [],oM s4 (ci 0)]) (.seq (.reg [oF s5 0 t2,oL s6 t5,oM s7 t1,oC s8 35 [t6,t7],oM s4 t8]) .ret)),1,[.t s4],none⟩
def f119:FI:=⟨(.seq (.reg [oM s2 (.c (.str []))]) (.seq (.reg [oM s3 t0,oC s4 184 [t3],oM s2 t4]) .ret)),0,[.t s2],none⟩
def f120:FI:=⟨(.seq (.reg [oM s4 (.c vz)]) (.seq (.reg [oP s5 (.bsl 0 1 (vi 0) []),oM s6 t0,oM s7 t1,oC s8 136 [t6,t7],oP s9 (.fld true 0 2 t8),oP s10 (.fld false 1 1 t9),oX s11 (.app 0 0 1 (vi 0) 8 t5 t10) [],oM s4 t11]) .ret)),0,[.t s4],none⟩
def b121x0:AC:=(.seq (.reg [oQ s13 .lss t12 t11]) (.seq (.cond t13
 .skip
 (.exit 0)) (.seq (.blk 1 (.seq (.reg [oP s14 (.iad 3 t10 t12),oR s15 (.ld true 3 t14),oX s7 (.new 1 false false (.cells 224 [(.str []),(.bool false),(vi 0)])) [],oS 3 t7 t15]) (.seq (.reg [oC s16 141 [t5,(cu 32)]]) (.seq (.seq (.reg [oF s17 1 t7,oG s18 t17]) (.cond t18
 (.reg [oC s19 141 [t5,(cu 43)]])
 .skip)) (.reg [oF s20 0 t7,oL s21 t20,oC s22 139 [t5,t21]]))))) (.reg [oQ s23 .add t12 (ci 1),oM s12 t23]))))
def f121:FI:=⟨(.seq (.reg [oM s4 (.c (.str []))]) (.seq (.reg [oX s5 (.new 0 false false (.cells 173 [.nilp,vz])) []]) (.seq (.reg [oM s8 t0,oC s9 139 [t5,t8]]) (.seq (.seq (.reg [oM s10 t1,oP s11 (.len false t10),oM s12 (ci 0)]) (.blk 0 (.loop b121x0))) (.seq (.reg [oC s24 79 [t5],oM s4 t24]) .ret))))),2,[.t s4],none⟩
def b122x0:AC:=(.seq (.reg [oQ s22 .lss t21 t20]) (.seq (.cond t22
 .skip
 (.exit 0)) (.seq (.blk 1 (.seq (.reg [oM s23 t21,oP s24 (.iad 1 t19 t21),oG s25 t24,oM s8 t23,oM s9 t25]) (.seq (.reg [oM s26 t9,oP s27 (.bld [(.str []),(.bool false),(vi 0)] [(2,1,t26)]),oX s10 (.new 0 false false (.cells 224 [(.str []),(.bool false),(vi 0)])) [],oS 3 t10 t27]) (.seq (.seq (.reg [oM s28 t8,oM s29 t5,oP s30 (.len false t29),oQ s31 .lss t28 t30]) (.cond t31
 (.reg [oM s32 t5,oM s33 t8,oP s34 (.iad 1 t32 t33),oL s35 t34,oF s36 0 t10,oS 1 t36 t35])
 .skip)) (.seq (.seq (.reg [oM s37 t8,oM s38 t6,oP s39 (.len false t38),oQ s40 .lss t37 t39]) (.cond t40
 (.reg [oM s41 t6,oM s42 t8,oP s43 (.iad 1 t41 t42),oG s44 t43,oF s45 1 t10,oS 1 t45 t44])
 .skip)) (.reg [oM s46 t7,oR s47 (.ld true 3 t10),oP s48 (.bsl 1 3 (.agg [(.str []),(.bool false),(vi 0)]) [(0,t47)]),oX s49 (.app 1 1 3 (.agg [(.str []),(.bool false),(vi 0)]) 32 t46 t48) [],oM s7 t49])))))) (.reg [oQ s50 .add t21 (ci 1),oM s21 t50]))))
def f122:FI:=⟨(.seq (.reg [oM s4 (.c vz)]) (.seq (.reg [oM s11 t0,oM s12 t1,oC s13 137 [t11,t12],oM s14 t0,oM s15 t1,oC s16 185 [t14,t15],oM s5 t13,oM s6 t16]) (.seq (.reg [oM s7 (.c vz)]) (.seq (.seq (.reg [oM s17 t0,oM s18 t1,oC s19 120 [t17,t18],oP s20 (.len false t19),oM s21 (ci 0)]) (.blk 0 (.loop b122x0))) (.seq (.seq (.reg [oM s51 t5,oP s52 (.len false t51),oQ s53 .gtr t52 (ci 0)]) (.cond t53
 (.reg [oM s54 t7,oC s55 186 [t54,(.c (.fn 187 [] []))]])
 .skip)) (.seq (.reg [oM s56 t7,oM s4 t56]) .ret)))))),2,[.t s4],none⟩
def f123:FI:=⟨(.seq (.reg [oM s4 (.c (.str []))]) (.seq (.reg [oM s5 t0,oM s6 t1,oC s7 136 [t5,t6],oP s8 (.fld false 4 1 t7),oM s4 t8]) .ret)),0,[.t s4],none⟩
def b126x0:AC:=(.seq (.seq (.reg [oM s14 t8,oM s15 t2,oP s16 (.len false t15),oQ s17 .lss t14 t16]) (.cond t17
 .skip
 (.exit 0))) (.seq (.blk 1 (.reg [oM s20 t7,oP s21 (.bin .add eS t20 (.c (.str [32]))),oM s22 t0,oM s23 t2,oM s24 t8,oP s25 (.iad 1 t23 t24),oG s26 t25,oP s27 (.iad 1 t22 t26),oG s28 t27,oC s29 131 [t28],oP s30 (.bin .add eS t21 t29),oM s7 t30])) (.reg [oM s18 t8,oQ s19 .add t18 (ci 1),oM s8 t19])))
def f126:FI:=⟨(.seq (.reg [oM s6 (.c (.str []))]) (.seq (.reg [oM s9 t0,oM s10 t1,oP s11 (.iad 1 t9 t10),oG s12 t11,oC s13 131 [t12],oM s7 t13]) (.seq (.seq (.reg [oM s8 (ci 0)]) (.blk 0 (.loop b126x0))) (.seq (.reg [oM s31 t7,oM s6 t31]) .ret)))),0,[.t s6],none⟩
def b127x0:AC:=(.seq (.seq (.reg [oM s7 t6,oM s8 t0,oN s9 t8,oF s10 2 t9,oL s11 t10,oP s12 (.len false t11),oQ s13 .lss t7 t12]) (.cond t13
 .skip
 (.exit 0))) (.seq (.blk 1 (.seq (.reg [oM s16 t1,oP s17 (.bin .neq eS t16 (.c (.str []))),oM s18 t17,⟨some s19,some (s18,true),(.p (.mov t0))⟩,⟨some s20,some (s18,true),(.p (.nilc t19))⟩,⟨some s21,some (s18,true),(.p (.fad 2 t20))⟩,⟨some s22,some (s18,true),(.r (.ld false 1 t21))⟩,⟨some s23,some (s18,true),(.p (.mov t6))⟩,⟨some s24,some (s18,true),(.p (.iad 10 t22 t23))⟩,⟨some s25,some (s18,true),(.p (.fad 1 t24))⟩,⟨some s26,some (s18,true),(.r (.ld false 1 t25))⟩,⟨some s27,some (s18,true),(.p (.mov t1))⟩,⟨some s28,some (s18,true),(.p (.bin .eql eS t26 t27))⟩,oP s29 (.pick t18 t28 (.c (.bool false)))]) (.cond t29
 (.reg [oM s30 t5,oM s31 t0,oN s32 t31,oF s33 2 t32,oL s34 t33,oM s35 t6,oP s36 (.iad 10 t34 t35),oF s37 2 t36,oL s38 t37,oP s39 (.bsl 1 1 (.str []) [(0,t38)]),oX s40 (.app 0 0 1 (.str []) 16 t30 t39) [],oM s5 t40])
 .skip))) (.reg [oM s14 t6,oQ s15 .add t14 (ci 1),oM s6 t15])))
def f127:FI:=⟨(.seq (.reg [oM s4 (.c vz)]) (.seq (.reg [oM s5 (.c vz)]) (.seq (.seq (.reg [oM s6 (ci 0)]) (.blk 0 (.loop b127x0))) (.seq (.reg [oM s41 t5,oC s42 72 [t41],oM s4 t42]) .ret)))),0,[.t s4],none⟩
def f129:FI:=⟨(.seq (.reg [oM s4 (.c (.bool false))]) (.seq (.reg [oM s5 t1,oQ s6 .geq t5 (ci 0),oM s7 t6,⟨some s8,some (s7,true),(.p (.mov t1))⟩,⟨some s9,some (s7,true),(.p (.mov t0))⟩,⟨some s10,some (s7,true),(.p (.nilc t9))⟩,⟨some s11,some (s7,true),(.p (.fad 0 t10))⟩,⟨some s12,some (s7,true),(.r (.ld false 1 t11))⟩,⟨some s13,some (s7,true),(.p (.len false t12))⟩,⟨some s14,some (s7,true),(.p (.bin .lss eI t8 t13))⟩,oP s15 (.pick t7 t14 (.c (.bool false))),oM s4 t15]) .ret)),0,[.t s4],none⟩
def b130x0:AC:=(.seq (.seq (.reg [oM s30 t6,oQ s31 .gtr t30 (ci 0),oM s32 t31,⟨some s33,some (s32,true),(.p (.fad 2 t1))⟩,⟨some s34,some (s32,true),(.r (.ld false 1 t33))⟩,⟨some s35,some (s32,true),(.p (.mov t3))⟩,⟨some s36,some (s32,true),(.p (.mov t6))⟩,⟨some s37,some (s32,true),(.p (.iad 1 t35 t36))⟩,⟨some s38,some (s32,true),(.r (.ldc t37))⟩,⟨some s39,some (s32,true),(.p (.iad 1 t34 t38))⟩,⟨some s40,some (s32,true),(.r (.ld false 1 t39))⟩,⟨some s41,some (s32,true),(.p (.fad 2 t1))⟩,⟨some s42,some (s32,true),(.r (.ld false 1 t41))⟩,⟨some s43,some (s32,true),(.p (.mov t3))⟩,⟨some s44,some (s32,true),(.p (.mov t6))⟩,⟨some s45,some (s32,true),(.p (.bin .sub eI t44 (ci 1)))⟩,⟨some s46,some (s32,true),(.p (.iad 1 t43 t45))⟩,⟨some s47,some (s32,true),(.r (.ldc t46))⟩,⟨some s48,some (s32,true),(.p (.iad 1 t42 t47))⟩,⟨some s49,some (s32,true),(.r (.ld false 1 t48))⟩,⟨some s50,some (s32,true),(.p (.bin .lss eS t40 t49))⟩,oP s51 (.pick t32 t50 (.c (.bool false)))]) (.cond t51
 .skip
 (.exit 4))) (.seq (.blk 5 (.reg [oM s54 t3,oM s55 t6,oM s56 t3,oM s57 t6,oQ s58 .sub t57 (ci 1),oM s59 t3,oM s60 t6,oQ s61 .sub t60 (ci 1),oP s62 (.iad 1 t59 t61),oG s63 t62,oM s64 t3,oM s65 t6,oP s66 (.iad 1 t64 t65),oG s67 t66,oP s68 (.iad 1 t54 t55),oS 1 t68 t63,oP s69 (.iad 1 t56 t58),oS 1 t69 t67])) (.reg [oM s52 t6,oQ s53 .sub t52 (ci 1),oM s6 t53])))
def b130x1:AC:=(.seq (.seq (.reg [oM s23 t5,oM s24 t3,oP s25 (.len false t24),oQ s26 .lss t23 t25]) (.cond t26
 .skip
 (.exit 2))) (.seq (.blk 3 (.seq (.reg [oM s29 t5,oM s6 t29]) (.blk 4 (.loop b130x0)))) (.reg [oM s27 t5,oQ s28 .add t27 (ci 1),oM s5 t28])))
def b130x2:AC:=(.seq (.seq (.reg [oM s7 t4,oF s8 1 t1,oL s9 t8,oP s10 (.len false t9),oQ s11 .lss t7 t10]) (.cond t11
 .skip
 (.exit 0))) (.seq (.blk 1 (.reg [oM s14 t3,oM s15 t4,oP s16 (.bsl 1 1 (vi 0) [(0,t15)]),oX s17 (.app 1 1 1 (vi 0) 8 t14 t16) [],oM s3 t17])) (.reg [oM s12 t4,oQ s13 .add t12 (ci 1),oM s4 t13])))
def f130:FI:=⟨(.seq (.reg [oX s1 (.box 0 false 135 5 t0) [],oM s2 (.c vz)]) (.seq (.reg [oM s3 (.c vz)]) (.seq (.seq (.reg [oM s4 (ci 0)]) (.blk 0 (.loop b130x2))) (.seq (.seq (.reg [oF s18 2 t1,oL s19 t18,oP s20 (.len false t19),oQ s21 .eql t20 (ci 0)]) (.cond t21
 (.seq (.reg [oM s22 t3,oM s2 t22]) .ret)
 .skip)) (.seq (.seq (.reg [oM s5 (ci 1)]) (.blk 2 (.loop b130x1))) (.seq (.reg [oM s70 t3,oM s2 t70]) .ret)))))),2,[.t s2],none⟩
def f131:FI:=⟨(.seq (.reg [oM s2 (.c (.str []))]) (.seq (.seq (.reg [oM s3 t0,oQ s4 .lss t3 (ci 10)]) (.cond t4
 (.seq (.reg [oM s5 t0,oQ s6 .add (ci 48) t5,oP s7 (.cvi .u8 t6),oP s8 (.bsl 1 1 (vu 0) [(0,t7)]),oR s9 (.b2s t8),oM s2 t9]) .ret)
 .skip)) (.seq (.reg [oM s10 t0,oQ s11 .quo t10 (ci 10),oM s13 t0,oQ s14 .rem t13 (ci 10),oQ s15 .add (ci 48) t14,oP s16 (.cvi .u8 t15),oP s17 (.bsl 1 1 (vu 0) [(0,t16)]),oR s18 (.b2s t17),oX s12 (.call 131 [t11]) [(.l t17)],oP s19 (.bin .add eS t12 t18),oM s2 t19]) .ret))),0,[.t s2],none⟩
def f132:FI:=⟨(.seq (.reg [oM s4 (ci 0)]) (.seq (.seq (.reg [oM s5 t1,oQ s6 .lss t5 (ci 0),oM s7 t6,⟨some s8,some (s7,false),(.p (.mov t1))⟩,⟨some s9,some (s7,false),(.p (.mov t0))⟩,⟨some s10,some (s7,false),(.p (.nilc t9))⟩,⟨some s11,some (s7,false),(.p (.fad 1 t10))⟩,⟨some s12,some (s7,false),(.r (.ld false 1 t11))⟩,⟨some s13,some (s7,false),(.p (.len false t12))⟩,⟨some s14,some (s7,false),(.p (.bin .geq eI t8 t13))⟩,oP s15 (.pick t7 (.c (.bool true)) t14)]) (.cond t15
 (.seq (.reg [oM s4 (ci 0)]) .ret)
 .skip)) (.seq (.reg [oM s16 t0,oN s17 t16,oF s18 1 t17,oL s19 t18,oM s20 t1,oP s21 (.iad 1 t19 t20),oG s22 t21,oM s4 t22]) .ret))),0,[.t s4],none⟩
def f133:FI:=⟨(.seq (.reg [oM s2 (.c (.bool false))]) (.seq (.reg [oM s6 t0,oP s7 (.bld [(vi 0),(vi 0),(.str []),(vi 0)] [(1,1,(ci 5)),(2,1,t6)]),oP s8 (.bsl 1 4 (.agg [(vi 0),(vi 0),(.str []),(vi 0)]) [(0,t7)]),oC s9 189 [t8],oM s5 t9,oE s10 t5 0,oE s11 t5 1,oM s3 t10,oM s4 t11]) (.seq (.reg [oM s12 t4,oQ s13 .neq t12 (ci 1),oM s14 t13,⟨some s15,some (s14,true),(.p (.mov t0))⟩,⟨some s16,some (s14,true),(.p (.len true t15))⟩,⟨some s17,some (s14,true),(.p (.bin .leq eI t16 (ci 4096)))⟩,oP s18 (.pick t14 t17 (.c (.bool false))),oM s2 t18]) .ret))),0,[.t s2],none⟩
def f135:FI:=⟨(.seq (.reg [oM s4 (.c vz)]) (.seq (.seq (.reg [oM s5 t1,oQ s6 .lss t5 (ci 0),oM s7 t6,⟨some s8,some (s7,false),(.p (.mov t1))⟩,⟨some s9,some (s7,false),(.p (.mov t0))⟩,⟨some s10,some (s7,false),(.p (.nilc t9))⟩,⟨some s11,some (s7,false),(.p (.fad 2 t10))⟩,⟨some s12,some (s7,false),(.r (.ld false 1 t11))⟩,⟨some s13,some (s7,false),(.p (.len false t12))⟩,⟨some s14,some (s7,false),(.p (.bin .geq eI t8 t13))⟩,oP s15 (.pick t7 (.c (.bool true)) t14)]) (.cond t15
 (.seq (.reg [oM s4 (.c vz)]) .ret)
 .skip)) (.seq (.reg [oM s16 t0,oN s17 t16,oF s18 2 t17,oL s19 t18,oM s20 t1,oP s21 (.iad 1 t19 t20),oL s22 t21,oM s4 t22]) .ret))),0,[.t s4],none⟩
def f136:FI:=⟨(.seq (.reg [oX s4 (.new 0 false false (.cells 125 [(vi 0),vz,vz,vz,(.str [])])) []]) (.seq (.seq (.reg [oM s5 t1,oQ s6 .lss t5 (ci 0),oM s7 t6,⟨some s8,some (s7,false),(.p (.mov t1))⟩,⟨some s9,some (s7,false),(.p (.mov t0))⟩,⟨some s10,some (s7,false),(.p (.nilc t9))⟩,⟨some s11,some (s7,false),(.p (.fad 0 t10))⟩,⟨some s12,some (s7,false),(.r (.ld false 1 t11))⟩,⟨some s13,some (s7,false),(.p (.len false t12))⟩,⟨some s14,some (s7,false),(.p (.bin .geq eI t8 t13))⟩,oP s15 (.pick t7 (.c (.bool true)) t14)]) (.cond t15
 (.seq (.reg [oP s16 (.bld [(vi 0),vz,vz,vz,(.str [])] []),oS 5 t4 t16]) .ret)
 .skip)) (.seq (.reg [oM s17 t0,oN s18 t17,oF s19 0 t18,oL s20 t19,oM s21 t1,oP s22 (.iad 5 t20 t21),oR s23 (.ld true 5 t22),oS 5 t4 t23]) .ret))),1,[.c true 5 s4],none⟩
def f137:FI:=⟨(.seq (.reg [oM s4 (.c vz)]) (.seq (.reg [oP s5 (.bsl 0 1 (.str []) []),oM s6 t0,oM s7 t1,oC s8 136 [t6,t7],oP s9 (.fld false 2 1 t8),oX s10 (.app 0 2 1 (.str []) 16 t5 t9) [],oM s4 t10]) .ret)),1,[.t s4],none⟩
def f138:FI:=⟨(.seq (.reg [oM s3 t0,oP s4 (.len false t3),oM s2 t4]) (.reg [oM s5 t0,oM s6 t2,oM s7 t2,oP s8 (.cvi .u64 t7),oC s9 101 [t8],oC s10 190 [t5,(ci 0),t6,t9]])),0,[],none⟩
def f139:FI:=⟨(.seq (.reg [oM s4 (ci 0),oM s5 (.c .nili)]) (.seq (.reg [oM s6 t0,oC s7 191 [t6]]) (.seq (.reg [oM s8 t0,oM s9 t0,oN s10 t9,oF s11 1 t10,oL s12 t11,oM s13 t1,oX s14 (.app 0 0 1 (vu 0) 1 t12 t13) [],oN s15 t8,oF s16 1 t15,oS 1 t16 t14]) (.seq (.reg [oM s17 t1,oP s18 (.len true t17),oM s4 t18,oM s5 (.c .nili)]) .ret)))),0,[.t s4,.t s5],none⟩
def f140:FI:=⟨(.seq (.reg [oM s2 (.c (.str []))]) (.seq (.reg [oM s3 t0,oC s4 192 [t3],oM s2 t4]) .ret)),0,[.t s2],none⟩
def f141:FI:=⟨(.seq (.reg [oM s4 (.c .nili)]) (.seq (.reg [oM s5 t0,oC s6 191 [t5]]) (.seq (.reg [oM s7 t0,oM s8 t0,oN s9 t8,oF s10 1 t9,oL s11 t10,oM s12 t1,oP s13 (.bsl 1 1 (vu 0) [(0,t12)]),oX s14 (.app 0 0 1 (vu 0) 1 t11 t13) [],oN s15 t7,oF s16 1 t15,oS 1 t16 t14]) (.seq (.reg [oM s4 (.c .nili)]) .ret)))),0,[.t s4],none⟩
def f142:FI:=⟨(.seq (.reg [oM s2 (ci 0)]) (.seq (.reg [oM s3 t0,oN s4 t3,oF s5 1 t4,oL s6 t5,oP s7 (.len false t6),oM s2 t7]) .ret)),0,[.t s2],none⟩
def b143x0:AC:=(.seq (.seq (.reg [oM s13 t6,oM s14 t0,oP s15 (.len true t14),oQ s16 .lss t13 t15]) (.cond t16
 .skip
 (.exit 0))) (.blk 1 (.seq (.seq (.reg [oM s17 t5,oP s18 (.len false t17),oQ s19 .eql t18 (ci 4096),oM s20 t19,⟨some s21,some (s20,true),(.p (.mov t0))⟩,⟨some s22,some (s20,true),(.p (.mov t6))⟩,⟨some s23,some (s20,true),(.p (.ixs t21 t22))⟩,⟨some s24,some (s20,true),(.e (.call 194 [t23]) [])⟩,oP s25 (.pick t20 t24 (.c (.bool false)))]) (.cond t25
 (.seq (.reg [oM s26 t5,oM s27 t6,oM s2 t26,oM s3 t27,oM s4 (ci 3)]) .ret)
 .skip)) (.seq (.reg [oM s28 t0,oM s29 t6,oC s30 195 [t28,t29],oX s7 (.new 0 false false (.cells 289 [(vi 0),(vi 0),(.str []),(vi 0),(vi 0),(vi 0),(vi 0)])) [],oS 7 t7 t30]) (.seq (.seq (.reg [oF s31 5 t7,oG s32 t31,oQ s33 .neq t32 (ci 0)]) (.cond t33
 (.seq (.reg [oM s34 t5,oF s35 6 t7,oG s36 t35,oF s37 5 t7,oG s38 t37,oM s2 t34,oM s3 t36,oM s4 t38]) .ret)
 .skip)) (.seq (.reg [oM s39 t5,oF s40 0 t7,oR s41 (.ld true 4 t40),oP s42 (.bsl 1 4 (.agg [(vi 0),(vi 0),(.str []),(vi 0)]) [(0,t41)]),oX s43 (.app 1 0 4 (.agg [(vi 0),(vi 0),(.str []),(vi 0)]) 40 t39 t42) [],oM s5 t43]) (.reg [oM s44 t0,oF s45 4 t7,oG s46 t45,oC s47 193 [t44,t46],oM s6 t47])))))))
def f143:FI:=⟨(.seq (.reg [oM s2 (.c vz),oM s3 (ci 0),oM s4 (ci 0)]) (.seq (.seq (.reg [oM s8 t0,oP s9 (.len true t8),oQ s10 .gtr t9 (ci 65536)]) (.cond t10
 (.seq (.reg [oM s2 (.c vz),oM s3 (ci 0),oM s4 (ci 2)]) .ret)
 .skip)) (.seq (.reg [oM s5 (.c vz)]) (.seq (.reg [oM s11 t0,oC s12 193 [t11,(ci 0)],oM s6 t12]) (.seq (.blk 0 (.loop b143x0)) (.seq (.reg [oM s48 t5,oM s2 t48,oM s3 (ci 0),oM s4 (ci 0)]) .ret)))))),1,[.t s2,.t s3,.t s4],none⟩
def f144:FI:=⟨(.seq (.reg [oM s2 (ci 0)]) (.seq (.seq (.reg [oM s3 t0,oN s4 t3,oF s5 2 t4,oG s6 t5,oM s7 t0,oN s8 t7,oF s9 0 t8,oL s10 t9,oP s11 (.len false t10),oQ s12 .lss t6 t11]) (.cond t12
 (.seq (.reg [oM s13 t0,oN s14 t13,oF s15 0 t14,oL s16 t15,oM s17 t0,oN s18 t17,oF s19 2 t18,oG s20 t19,oP s21 (.iad 4 t16 t20),oF s22 0 t21,oF s23 0 t22,oG s24 t23,oM s2 t24]) .ret)
 .skip)) (.seq (.reg [oM s25 t0,oN s26 t25,oF s27 1 t26,oG s28 t27,oM s2 t28]) .ret))),0,[.t s2],none⟩
def f145:FI:=⟨(.seq (.seq (.reg [oM s4 t0,oM s5 t1,oC s6 81 [t4,t5],oP s7 (.un .not t6)]) (.cond t7
 (.seq (.reg [oM s8 t0,oC s9 84 [t8,(ci 13)]]) .ret)
 .skip)) (.reg [oM s10 t0,oN s11 t10,oF s12 2 t11,oG s13 t12,oQ s14 .add t13 (ci 1),oN s15 t10,oF s16 2 t15,oS 1 t16 t14])),0,[],none⟩
def f146:FI:=⟨(.seq (.reg [oM s4 (.c (.str []))]) (.seq (.seq (.reg [oM s5 t0,oM s6 t1,oC s7 196 [t5,t6],oP s8 (.un .not t7)]) (.cond t8
 (.seq (.reg [oM s9 t0,oC s10 84 [t9,(ci 13)]]) (.seq (.reg [oM s4 (.c (.str []))]) .ret))
 .skip)) (.seq (.reg [oM s11 t0,oN s12 t11,oF s13 2 t12,oG s14 t13,oQ s15 .add t14 (ci 1),oN s16 t11,oF s17 2 t16,oS 1 t17 t15]) (.seq (.reg [oM s18 t0,oN s19 t18,oF s20 0 t19,oL s21 t20,oM s22 t0,oN s23 t22,oF s24 2 t23,oG s25 t24,oQ s26 .sub t25 (ci 1),oP s27 (.iad 4 t21 t26),oF s28 2 t27,oL s29 t28,oM s4 t29]) .ret)))),0,[.t s4],none⟩
def b147x0:AC:=(.seq (.seq (.reg [oM s73 t0,oN s74 t73,oF s75 3 t74,oG s76 t75,oQ s77 .eql t76 (ci 0),oM s78 t77,⟨some s79,some (s78,true),(.p (.mov t0))⟩,⟨some s80,some (s78,true),(.e (.call 81 [t79,(.c (.str [125]))]) [])⟩,⟨some s81,some (s78,true),(.p (.un .not t80))⟩,oP s82 (.pick t78 t81 (.c (.bool false)))]) (.cond t82
 .skip
 (.exit 1))) (.blk 2 (.seq (.reg [oM s83 t0,oC s84 81 [t83,(.c (.str [101,109,98,101,100]))],oM s7 t84]) (.seq (.seq (.reg [oM s85 t7]) (.cond t85
 (.reg [oM s86 t0,oN s87 t86,oF s88 2 t87,oG s89 t88,oQ s90 .add t89 (ci 1),oN s91 t86,oF s92 2 t91,oS 1 t92 t90])
 .skip)) (.seq (.reg [oF s93 2 t6,oL s94 t93,oM s95 t0,oF s96 2 t6,oL s97 t96,oX s98 (.call 148 [t95,t97]) [(.l t93)],oP s99 (.bsl 1 1 (.str []) [(0,t98)]),oX s100 (.app 2 0 1 (.str []) 16 t94 t99) [],oF s101 2 t6,oS 1 t101 t100]) (.seq (.reg [oF s102 3 t6,oL s103 t102,oM s104 t7,oP s105 (.bsl 1 1 (.bool false) [(0,t104)]),oX s106 (.app 2 0 1 (.bool false) 1 t103 t105) [],oF s107 3 t6,oS 1 t107 t106]) (.seq (.reg [oF s108 4 t6,oL s109 t108,oM s110 t0,oM s111 t1,oQ s112 .add t111 (ci 1),oX s113 (.call 147 [t110,t112]) [(.l t108)],oP s114 (.bsl 1 5 (.agg [(vi 0),(.str []),vz,vz,vz]) [(0,t113)]),oX s115 (.app 2 0 5 (.agg [(vi 0),(.str []),vz,vz,vz]) 96 t109 t114) [],oF s116 4 t6,oS 1 t116 t115]) (.reg [oM s117 t0,oC s118 145 [t117,(.c (.str [59]))]]))))))))
def f147:FI:=⟨(.seq (.reg [oX s4 (.new 0 false false (.cells 34 [(vi 0),(.str []),vz,vz,vz])) []]) (.seq (.seq (.reg [oM s8 t0,oC s9 197 [t8],oP s10 (.un .not t9)]) (.cond t10
 (.seq (.reg [oM s11 t0,oC s12 84 [t11,(ci 13)]]) (.seq (.reg [oP s13 (.bld [(vi 0),(.str []),vz,vz,vz] []),oS 5 t4 t13]) .ret))
 .skip)) (.seq (.seq (.reg [oM s14 t1,oQ s15 .gtr t14 (ci 64)]) (.cond t15
 (.seq (.reg [oM s16 t0,oC s17 84 [t16,(ci 15)]]) (.seq (.reg [oP s18 (.bld [(vi 0),(.str []),vz,vz,vz] []),oS 5 t4 t18]) .ret))
 .skip)) (.seq (.seq (.reg [oM s19 t0,oC s20 196 [t19,(ci 2)]]) (.cond t20
 (.seq (.reg [oM s21 t0,oC s22 146 [t21,(ci 2)],oP s23 (.bld [(vi 0),(.str []),vz,vz,vz] [(0,1,(ci 4)),(1,1,t22)]),oS 5 t4 t23]) .ret)
 .skip)) (.seq (.reg [oM s24 t0,oN s25 t24,oF s26 0 t25,oL s27 t26,oM s28 t0,oN s29 t28,oF s30 2 t29,oG s31 t30,oP s32 (.iad 4 t27 t31),oF s33 2 t32,oL s34 t33,oM s5 t34]) (.seq (.reg [oM s35 t0,oN s36 t35,oF s37 2 t36,oG s38 t37,oQ s39 .add t38 (ci 1),oN s40 t35,oF s41 2 t40,oS 1 t41 t39]) (.seq (.seq (.reg [oM s42 t5]) (.blk 0 (.seq (.reg [oP s44 (.bin .eql eS t42 (.c (.str [105,110,116]))),oM s43 t44]) (.cond t43
 (.seq (.reg [oP s45 (.bld [(vi 0),(.str []),vz,vz,vz] [(0,1,(ci 1))]),oS 5 t4 t45]) .ret)
 (.seq (.reg [oP s47 (.bin .eql eS t42 (.c (.str [98,111,111,108]))),oM s46 t47]) (.cond t46
 (.seq (.reg [oP s48 (.bld [(vi 0),(.str []),vz,vz,vz] [(0,1,(ci 2))]),oS 5 t4 t48]) .ret)
 (.seq (.reg [oP s50 (.bin .eql eS t42 (.c (.str [116,101,120,116]))),oM s49 t50]) (.cond t49
 (.seq (.reg [oP s51 (.bld [(vi 0),(.str []),vz,vz,vz] [(0,1,(ci 3))]),oS 5 t4 t51]) .ret)
 (.seq (.reg [oP s53 (.bin .eql eS t42 (.c (.str [42]))),oM s52 t53]) (.cond t52
 (.seq (.reg [oM s54 t0,oM s55 t1,oQ s56 .add t55 (ci 1),oC s57 147 [t54,t56],oP s58 (.bsl 1 5 (.agg [(vi 0),(.str []),vz,vz,vz]) [(0,t57)]),oP s59 (.bld [(vi 0),(.str []),vz,vz,vz] [(0,1,(ci 5)),(4,1,t58)]),oS 5 t4 t59]) .ret)
 (.seq (.reg [oP s61 (.bin .eql eS t42 (.c (.str [102,110]))),oM s60 t61]) (.cond t60
 (.seq (.reg [oM s62 t0,oM s63 t1,oQ s64 .add t63 (ci 1),oC s65 198 [t62,t64],oP s66 (.bld [(vi 0),(.str []),vz,vz,vz] [(0,1,(ci 7)),(4,1,t65)]),oS 5 t4 t66]) .ret)
 (.seq (.reg [oP s68 (.bin .eql eS t42 (.c (.str [105,110,116,101,114,102,97,99,101]))),oM s67 t68]) (.cond t67
 (.seq (.reg [oM s69 t0,oM s70 t1,oC s71 199 [t69,t70],oS 5 t4 t71]) .ret)
 .skip)))))))))))))) (.seq (.reg [oP s72 (.bld [(vi 0),(.str []),vz,vz,vz] [(0,1,(ci 6))]),oX s6 (.new 1 false false (.cells 34 [(vi 0),(.str []),vz,vz,vz])) [],oS 5 t6 t72]) (.seq (.blk 1 (.loop b147x0)) (.seq (.reg [oM s119 t0,oC s120 145 [t119,(.c (.str [125]))]]) (.seq (.reg [oR s121 (.ld true 5 t6),oS 5 t4 t121]) .ret))))))))))),2,[.c true 5 s4],none⟩
def b148x0:AC:=(.seq (.seq (.reg [oM s8 t5,oM s9 t1,oP s10 (.len false t9),oQ s11 .lss t8 t10]) (.cond t11
 .skip
 (.exit 0))) (.seq (.blk 1 (.seq (.reg [oM s14 t1,oM s15 t5,oP s16 (.iad 1 t14 t15),oL s17 t16,oM s18 t0,oN s19 t18,oF s20 0 t19,oL s21 t20,oM s22 t0,oN s23 t22,oF s24 2 t23,oG s25 t24,oP s26 (.iad 4 t21 t25),oF s27 2 t26,oL s28 t27,oP s29 (.bin .eql eS t17 t28)]) (.cond t29
 (.seq (.reg [oM s30 t0,oC s31 84 [t30,(ci 20)]]) (.seq (.reg [oM s4 (.c (.str []))]) .ret))
 .skip))) (.reg [oM s12 t5,oQ s13 .add t12 (ci 1),oM s5 t13])))
def f148:FI:=⟨(.seq (.reg [oM s4 (.c (.str []))]) (.seq (.seq (.reg [oM s6 t0,oC s7 196 [t6,(ci 1)]]) (.cond t7
 (.seq (.reg [oM s5 (ci 0)]) (.blk 0 (.loop b148x0)))
 .skip)) (.seq (.reg [oM s32 t0,oC s33 146 [t32,(ci 1)],oM s4 t33]) .ret))),0,[.t s4],none⟩
def f150:FI:=⟨(.seq (.reg [oX s4 (.box 0 false 41 5 t1) [],oX s6 (.new 1 false false (.cells 41 [(vi 0),(vi 0),(vi 0),(.str []),vz])) [],oM s7 (ci 0)]) (.seq (.seq (.reg [oF s10 0 t4,oG s11 t10]) (.blk 0 (.seq (.reg [oQ s14 .eql t11 (ci 5),oM s13 t14]) (.cond t13
 (.seq (.seq (.reg [oF s15 4 t4,oL s16 t15,oP s17 (.len false t16),oQ s18 .eql t17 (ci 0)]) (.cond t18
 (.seq (.reg [oP s19 (.bld [(vi 0),(vi 0),(vi 0),(.str []),vz] []),oS 5 t6 t19,oM s7 (ci 51)]) .ret)
 .skip)) (.reg [oF s20 4 t4,oL s21 t20,oP s22 (.iad 5 t21 (ci 0)),oR s23 (.ld true 5 t22),oS 5 t4 t23]))
 (.seq (.reg [oQ s25 .eql t11 (ci 4),oM s24 t25]) (.cond t24
 .skip
 (.seq (.reg [oP s12 (.bld [(vi 0),(vi 0),(vi 0),(.str []),vz] []),oS 5 t6 t12,oM s7 (ci 42)]) .ret))))))) (.seq (.reg [oM s27 t0,oF s28 1 t4,oG s29 t28,oC s30 135 [t27,t29],oM s31 t2,oC s32 201 [t30,t31],oM s26 t32,oE s33 t26 0,oE s34 t26 1,oM s8 t33,oM s9 t34]) (.seq (.seq (.reg [oM s35 t9,oP s36 (.un .not t35)]) (.cond t36
 (.seq (.reg [oP s37 (.bld [(vi 0),(vi 0),(vi 0),(.str []),vz] []),oS 5 t6 t37,oM s7 (ci 42)]) .ret)
 .skip)) (.seq (.reg [oF s38 4 t4,oL s39 t38,oM s40 t8,oP s41 (.iad 5 t39 t40),oR s42 (.ld true 5 t41),oS 5 t6 t42,oM s7 (ci 0)]) .ret))))),2,[.c true 5 s6,.t s7],none⟩
def b151x0:AC:=(.seq (.seq (.reg [oM s58 t8,oM s59 t0,oM s60 t6,oP s61 (.iad 7 t59 t60),oF s62 4 t61,oL s63 t62,oP s64 (.len false t63),oQ s65 .lss t58 t64,oM s66 t65,⟨some s67,some (s66,true),(.p (.mov t5))⟩,⟨some s68,some (s66,true),(.p (.mov t1))⟩,⟨some s69,some (s66,true),(.p (.bin .lss eI t67 t68))⟩,oP s70 (.pick t66 t69 (.c (.bool false)))]) (.cond t70
 .skip
 (.exit 4))) (.seq (.blk 5 (.reg [oM s73 t5,oM s74 t0,oM s75 t6,oP s76 (.iad 7 t74 t75),oF s77 4 t76,oL s78 t77,oM s79 t8,oP s80 (.iad 7 t78 t79),oR s81 (.ld true 7 t80),oM s82 t1,oM s83 t5,oQ s84 .sub t82 t83,oC s85 202 [t81,t84],oQ s86 .add t73 t85,oM s5 t86])) (.reg [oM s71 t8,oQ s72 .add t71 (ci 1),oM s8 t72])))
def b151x1:AC:=(.seq (.seq (.reg [oM s29 t7,oM s30 t0,oM s31 t6,oP s32 (.iad 7 t30 t31),oF s33 3 t32,oL s34 t33,oP s35 (.len false t34),oQ s36 .lss t29 t35,oM s37 t36,⟨some s38,some (s37,true),(.p (.mov t5))⟩,⟨some s39,some (s37,true),(.p (.mov t1))⟩,⟨some s40,some (s37,true),(.p (.bin .lss eI t38 t39))⟩,oP s41 (.pick t37 t40 (.c (.bool false)))]) (.cond t41
 .skip
 (.exit 2))) (.seq (.blk 3 (.reg [oM s44 t5,oM s45 t0,oM s46 t6,oP s47 (.iad 7 t45 t46),oF s48 3 t47,oL s49 t48,oM s50 t7,oP s51 (.iad 5 t49 t50),oR s52 (.ld true 5 t51),oM s53 t1,oM s54 t5,oQ s55 .sub t53 t54,oC s56 91 [t52,t55],oQ s57 .add t44 t56,oM s5 t57])) (.reg [oM s42 t7,oQ s43 .add t42 (ci 1),oM s7 t43])))
def b151x2:AC:=(.seq (.seq (.reg [oM s9 t6,oM s10 t0,oP s11 (.len false t10),oQ s12 .lss t9 t11,oM s13 t12,⟨some s14,some (s13,true),(.p (.mov t5))⟩,⟨some s15,some (s13,true),(.p (.mov t1))⟩,⟨some s16,some (s13,true),(.p (.bin .lss eI t14 t15))⟩,oP s17 (.pick t13 t16 (.c (.bool false)))]) (.cond t17
 .skip
 (.exit 0))) (.seq (.blk 1 (.seq (.reg [oM s20 t5,oQ s21 .add t20 (ci 1),oM s22 t0,oM s23 t6,oP s24 (.iad 7 t22 t23),oF s25 2 t24,oL s26 t25,oP s27 (.len true t26),oQ s28 .add t21 t27,oM s5 t28]) (.seq (.seq (.reg [oM s7 (ci 0)]) (.blk 2 (.loop b151x1))) (.seq (.seq (.reg [oM s8 (ci 0)]) (.blk 4 (.loop b151x0))) (.seq (.seq (.reg [oM s87 t5,oM s88 t1,oQ s89 .lss t87 t88]) (.cond t89
 (.reg [oM s90 t5,oM s91 t0,oM s92 t6,oP s93 (.iad 7 t91 t92),oF s94 5 t93,oL s95 t94,oM s96 t1,oM s97 t5,oQ s98 .sub t96 t97,oC s99 151 [t95,t98],oQ s100 .add t90 t99,oM s5 t100])
 .skip)) (.seq (.reg [oM s101 t5,oM s102 t1,oQ s103 .lss t101 t102]) (.cond t103
 (.reg [oM s104 t5,oM s105 t0,oM s106 t6,oP s107 (.iad 7 t105 t106),oF s108 6 t107,oL s109 t108,oM s110 t1,oM s111 t5,oQ s112 .sub t110 t111,oC s113 151 [t109,t112],oQ s114 .add t104 t113,oM s5 t114])
 .skip))))))) (.reg [oM s18 t6,oQ s19 .add t18 (ci 1),oM s6 t19])))
def f151:FI:=⟨(.seq (.reg [oM s4 (ci 0)]) (.seq (.reg [oM s5 (ci 0)]) (.seq (.seq (.reg [oM s6 (ci 0)]) (.blk 0 (.loop b151x2))) (.seq (.reg [oM s115 t5,oM s4 t115]) .ret)))),0,[.t s4],none⟩
end Go.Abs.Run
