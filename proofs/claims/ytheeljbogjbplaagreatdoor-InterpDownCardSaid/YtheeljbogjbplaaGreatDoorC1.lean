/- On the way to: InterpDown returns true; its listed variables read as the text lays them. -/
import Derived.Test.YtheeljbogjbplaaGreatDoorA1
import Derived.Test.YtheeljbogjbplaaGreatDoorProg
namespace Go.Abs.Run
open Go Go.Abs Go.Proofs
def s0:Pth:=.e
def s1:Pth:=(.l .e)
def s2:Pth:=(.r .e)
def s3:Pth:=(.l (.l .e))
def s4:Pth:=(.r (.l .e))
def s5:Pth:=(.l (.r .e))
def s6:Pth:=(.r (.r .e))
def s7:Pth:=(.l (.l (.l .e)))
def s8:Pth:=(.r (.l (.l .e)))
def s9:Pth:=(.l (.r (.l .e)))
def s10:Pth:=(.r (.r (.l .e)))
def s11:Pth:=(.l (.l (.r .e)))
def s12:Pth:=(.r (.l (.r .e)))
def s13:Pth:=(.l (.r (.r .e)))
def s14:Pth:=(.r (.r (.r .e)))
def s15:Pth:=(.l (.l (.l (.l .e))))
def s16:Pth:=(.r (.l (.l (.l .e))))
def s17:Pth:=(.l (.r (.l (.l .e))))
def s18:Pth:=(.r (.r (.l (.l .e))))
def s19:Pth:=(.l (.l (.r (.l .e))))
def s20:Pth:=(.r (.l (.r (.l .e))))
def s21:Pth:=(.l (.r (.r (.l .e))))
def s22:Pth:=(.r (.r (.r (.l .e))))
def s23:Pth:=(.l (.l (.l (.r .e))))
def s24:Pth:=(.r (.l (.l (.r .e))))
def s25:Pth:=(.l (.r (.l (.r .e))))
def s26:Pth:=(.r (.r (.l (.r .e))))
def s27:Pth:=(.l (.l (.r (.r .e))))
def s28:Pth:=(.r (.l (.r (.r .e))))
def s29:Pth:=(.l (.r (.r (.r .e))))
def s30:Pth:=(.r (.r (.r (.r .e))))
def s31:Pth:=(.l (.l (.l (.l (.l .e)))))
def s32:Pth:=(.r (.l (.l (.l (.l .e)))))
def s33:Pth:=(.l (.r (.l (.l (.l .e)))))
def s34:Pth:=(.r (.r (.l (.l (.l .e)))))
def s35:Pth:=(.l (.l (.r (.l (.l .e)))))
def s36:Pth:=(.r (.l (.r (.l (.l .e)))))
def s37:Pth:=(.l (.r (.r (.l (.l .e)))))
def s38:Pth:=(.r (.r (.r (.l (.l .e)))))
def s39:Pth:=(.l (.l (.l (.r (.l .e)))))
def s40:Pth:=(.r (.l (.l (.r (.l .e)))))
def s41:Pth:=(.l (.r (.l (.r (.l .e)))))
def s42:Pth:=(.r (.r (.l (.r (.l .e)))))
def s43:Pth:=(.l (.l (.r (.r (.l .e)))))
def s44:Pth:=(.r (.l (.r (.r (.l .e)))))
def s45:Pth:=(.l (.r (.r (.r (.l .e)))))
def s46:Pth:=(.r (.r (.r (.r (.l .e)))))
def s47:Pth:=(.l (.l (.l (.l (.r .e)))))
def s48:Pth:=(.r (.l (.l (.l (.r .e)))))
def s49:Pth:=(.l (.r (.l (.l (.r .e)))))
def s50:Pth:=(.r (.r (.l (.l (.r .e)))))
def s51:Pth:=(.l (.l (.r (.l (.r .e)))))
def s52:Pth:=(.r (.l (.r (.l (.r .e)))))
def s53:Pth:=(.l (.r (.r (.l (.r .e)))))
def s54:Pth:=(.r (.r (.r (.l (.r .e)))))
def s55:Pth:=(.l (.l (.l (.r (.r .e)))))
def s56:Pth:=(.r (.l (.l (.r (.r .e)))))
def s57:Pth:=(.l (.r (.l (.r (.r .e)))))
def s58:Pth:=(.r (.r (.l (.r (.r .e)))))
def s59:Pth:=(.l (.l (.r (.r (.r .e)))))
def s60:Pth:=(.r (.l (.r (.r (.r .e)))))
def s61:Pth:=(.l (.r (.r (.r (.r .e)))))
def s62:Pth:=(.r (.r (.r (.r (.r .e)))))
def s63:Pth:=(.l (.l (.l (.l (.l (.l .e))))))
def s64:Pth:=(.r (.l (.l (.l (.l (.l .e))))))
def s65:Pth:=(.l (.r (.l (.l (.l (.l .e))))))
def s66:Pth:=(.r (.r (.l (.l (.l (.l .e))))))
def s67:Pth:=(.l (.l (.r (.l (.l (.l .e))))))
def s68:Pth:=(.r (.l (.r (.l (.l (.l .e))))))
def s69:Pth:=(.l (.r (.r (.l (.l (.l .e))))))
def s70:Pth:=(.r (.r (.r (.l (.l (.l .e))))))
def s71:Pth:=(.l (.l (.l (.r (.l (.l .e))))))
def s72:Pth:=(.r (.l (.l (.r (.l (.l .e))))))
def s73:Pth:=(.l (.r (.l (.r (.l (.l .e))))))
def s74:Pth:=(.r (.r (.l (.r (.l (.l .e))))))
def s75:Pth:=(.l (.l (.r (.r (.l (.l .e))))))
def s76:Pth:=(.r (.l (.r (.r (.l (.l .e))))))
def s77:Pth:=(.l (.r (.r (.r (.l (.l .e))))))
def s78:Pth:=(.r (.r (.r (.r (.l (.l .e))))))
def s79:Pth:=(.l (.l (.l (.l (.r (.l .e))))))
def s80:Pth:=(.r (.l (.l (.l (.r (.l .e))))))
def s81:Pth:=(.l (.r (.l (.l (.r (.l .e))))))
def s82:Pth:=(.r (.r (.l (.l (.r (.l .e))))))
def s83:Pth:=(.l (.l (.r (.l (.r (.l .e))))))
def s84:Pth:=(.r (.l (.r (.l (.r (.l .e))))))
def s85:Pth:=(.l (.r (.r (.l (.r (.l .e))))))
def s86:Pth:=(.r (.r (.r (.l (.r (.l .e))))))
def s87:Pth:=(.l (.l (.l (.r (.r (.l .e))))))
def s88:Pth:=(.r (.l (.l (.r (.r (.l .e))))))
def s89:Pth:=(.l (.r (.l (.r (.r (.l .e))))))
def s90:Pth:=(.r (.r (.l (.r (.r (.l .e))))))
def s91:Pth:=(.l (.l (.r (.r (.r (.l .e))))))
def s92:Pth:=(.r (.l (.r (.r (.r (.l .e))))))
def s93:Pth:=(.l (.r (.r (.r (.r (.l .e))))))
def s94:Pth:=(.r (.r (.r (.r (.r (.l .e))))))
def s95:Pth:=(.l (.l (.l (.l (.l (.r .e))))))
def s96:Pth:=(.r (.l (.l (.l (.l (.r .e))))))
def s97:Pth:=(.l (.r (.l (.l (.l (.r .e))))))
def s98:Pth:=(.r (.r (.l (.l (.l (.r .e))))))
def s99:Pth:=(.l (.l (.r (.l (.l (.r .e))))))
def s100:Pth:=(.r (.l (.r (.l (.l (.r .e))))))
def s101:Pth:=(.l (.r (.r (.l (.l (.r .e))))))
def s102:Pth:=(.r (.r (.r (.l (.l (.r .e))))))
def s103:Pth:=(.l (.l (.l (.r (.l (.r .e))))))
def s104:Pth:=(.r (.l (.l (.r (.l (.r .e))))))
def s105:Pth:=(.l (.r (.l (.r (.l (.r .e))))))
def s106:Pth:=(.r (.r (.l (.r (.l (.r .e))))))
def s107:Pth:=(.l (.l (.r (.r (.l (.r .e))))))
def s108:Pth:=(.r (.l (.r (.r (.l (.r .e))))))
def s109:Pth:=(.l (.r (.r (.r (.l (.r .e))))))
def s110:Pth:=(.r (.r (.r (.r (.l (.r .e))))))
def s111:Pth:=(.l (.l (.l (.l (.r (.r .e))))))
def s112:Pth:=(.r (.l (.l (.l (.r (.r .e))))))
def s113:Pth:=(.l (.r (.l (.l (.r (.r .e))))))
def s114:Pth:=(.r (.r (.l (.l (.r (.r .e))))))
def s115:Pth:=(.l (.l (.r (.l (.r (.r .e))))))
def s116:Pth:=(.r (.l (.r (.l (.r (.r .e))))))
def s117:Pth:=(.l (.r (.r (.l (.r (.r .e))))))
def s118:Pth:=(.r (.r (.r (.l (.r (.r .e))))))
def s119:Pth:=(.l (.l (.l (.r (.r (.r .e))))))
def s120:Pth:=(.r (.l (.l (.r (.r (.r .e))))))
def s121:Pth:=(.l (.r (.l (.r (.r (.r .e))))))
def s122:Pth:=(.r (.r (.l (.r (.r (.r .e))))))
def s123:Pth:=(.l (.l (.r (.r (.r (.r .e))))))
def s124:Pth:=(.r (.l (.r (.r (.r (.r .e))))))
def s125:Pth:=(.l (.r (.r (.r (.r (.r .e))))))
def s126:Pth:=(.r (.r (.r (.r (.r (.r .e))))))
def s127:Pth:=(.l (.l (.l (.l (.l (.l (.l .e)))))))
def s128:Pth:=(.r (.l (.l (.l (.l (.l (.l .e)))))))
def s129:Pth:=(.l (.r (.l (.l (.l (.l (.l .e)))))))
def s130:Pth:=(.r (.r (.l (.l (.l (.l (.l .e)))))))
def s131:Pth:=(.l (.l (.r (.l (.l (.l (.l .e)))))))
def s132:Pth:=(.r (.l (.r (.l (.l (.l (.l .e)))))))
def s133:Pth:=(.l (.r (.r (.l (.l (.l (.l .e)))))))
def s134:Pth:=(.r (.r (.r (.l (.l (.l (.l .e)))))))
def s135:Pth:=(.l (.l (.l (.r (.l (.l (.l .e)))))))
def s136:Pth:=(.r (.l (.l (.r (.l (.l (.l .e)))))))
def s137:Pth:=(.l (.r (.l (.r (.l (.l (.l .e)))))))
def s138:Pth:=(.r (.r (.l (.r (.l (.l (.l .e)))))))
def s139:Pth:=(.l (.l (.r (.r (.l (.l (.l .e)))))))
def s140:Pth:=(.r (.l (.r (.r (.l (.l (.l .e)))))))
def s141:Pth:=(.l (.r (.r (.r (.l (.l (.l .e)))))))
def s142:Pth:=(.r (.r (.r (.r (.l (.l (.l .e)))))))
def s143:Pth:=(.l (.l (.l (.l (.r (.l (.l .e)))))))
def s144:Pth:=(.r (.l (.l (.l (.r (.l (.l .e)))))))
def s145:Pth:=(.l (.r (.l (.l (.r (.l (.l .e)))))))
def s146:Pth:=(.r (.r (.l (.l (.r (.l (.l .e)))))))
def s147:Pth:=(.l (.l (.r (.l (.r (.l (.l .e)))))))
def s148:Pth:=(.r (.l (.r (.l (.r (.l (.l .e)))))))
def s149:Pth:=(.l (.r (.r (.l (.r (.l (.l .e)))))))
def s150:Pth:=(.r (.r (.r (.l (.r (.l (.l .e)))))))
def s151:Pth:=(.l (.l (.l (.r (.r (.l (.l .e)))))))
def s152:Pth:=(.r (.l (.l (.r (.r (.l (.l .e)))))))
def s153:Pth:=(.l (.r (.l (.r (.r (.l (.l .e)))))))
def s154:Pth:=(.r (.r (.l (.r (.r (.l (.l .e)))))))
def s155:Pth:=(.l (.l (.r (.r (.r (.l (.l .e)))))))
def s156:Pth:=(.r (.l (.r (.r (.r (.l (.l .e)))))))
def s157:Pth:=(.l (.r (.r (.r (.r (.l (.l .e)))))))
def s158:Pth:=(.r (.r (.r (.r (.r (.l (.l .e)))))))
def s159:Pth:=(.l (.l (.l (.l (.l (.r (.l .e)))))))
def s160:Pth:=(.r (.l (.l (.l (.l (.r (.l .e)))))))
def s161:Pth:=(.l (.r (.l (.l (.l (.r (.l .e)))))))
def s162:Pth:=(.r (.r (.l (.l (.l (.r (.l .e)))))))
def s163:Pth:=(.l (.l (.r (.l (.l (.r (.l .e)))))))
def s164:Pth:=(.r (.l (.r (.l (.l (.r (.l .e)))))))
def s165:Pth:=(.l (.r (.r (.l (.l (.r (.l .e)))))))
def s166:Pth:=(.r (.r (.r (.l (.l (.r (.l .e)))))))
def s167:Pth:=(.l (.l (.l (.r (.l (.r (.l .e)))))))
def s168:Pth:=(.r (.l (.l (.r (.l (.r (.l .e)))))))
def s169:Pth:=(.l (.r (.l (.r (.l (.r (.l .e)))))))
def s170:Pth:=(.r (.r (.l (.r (.l (.r (.l .e)))))))
def s171:Pth:=(.l (.l (.r (.r (.l (.r (.l .e)))))))
def s172:Pth:=(.r (.l (.r (.r (.l (.r (.l .e)))))))
def s173:Pth:=(.l (.r (.r (.r (.l (.r (.l .e)))))))
def s174:Pth:=(.r (.r (.r (.r (.l (.r (.l .e)))))))
def s175:Pth:=(.l (.l (.l (.l (.r (.r (.l .e)))))))
def s176:Pth:=(.r (.l (.l (.l (.r (.r (.l .e)))))))
def s177:Pth:=(.l (.r (.l (.l (.r (.r (.l .e)))))))
def s178:Pth:=(.r (.r (.l (.l (.r (.r (.l .e)))))))
def s179:Pth:=(.l (.l (.r (.l (.r (.r (.l .e)))))))
def s180:Pth:=(.r (.l (.r (.l (.r (.r (.l .e)))))))
def s181:Pth:=(.l (.r (.r (.l (.r (.r (.l .e)))))))
def s182:Pth:=(.r (.r (.r (.l (.r (.r (.l .e)))))))
def s183:Pth:=(.l (.l (.l (.r (.r (.r (.l .e)))))))
def s184:Pth:=(.r (.l (.l (.r (.r (.r (.l .e)))))))
def s185:Pth:=(.l (.r (.l (.r (.r (.r (.l .e)))))))
def s186:Pth:=(.r (.r (.l (.r (.r (.r (.l .e)))))))
def s187:Pth:=(.l (.l (.r (.r (.r (.r (.l .e)))))))
def s188:Pth:=(.r (.l (.r (.r (.r (.r (.l .e)))))))
def s189:Pth:=(.l (.r (.r (.r (.r (.r (.l .e)))))))
def s190:Pth:=(.r (.r (.r (.r (.r (.r (.l .e)))))))
def s191:Pth:=(.l (.l (.l (.l (.l (.l (.r .e)))))))
def s192:Pth:=(.r (.l (.l (.l (.l (.l (.r .e)))))))
def s193:Pth:=(.l (.r (.l (.l (.l (.l (.r .e)))))))
def s194:Pth:=(.r (.r (.l (.l (.l (.l (.r .e)))))))
def s195:Pth:=(.l (.l (.r (.l (.l (.l (.r .e)))))))
def s196:Pth:=(.r (.l (.r (.l (.l (.l (.r .e)))))))
def s197:Pth:=(.l (.r (.r (.l (.l (.l (.r .e)))))))
def s198:Pth:=(.r (.r (.r (.l (.l (.l (.r .e)))))))
def s199:Pth:=(.l (.l (.l (.r (.l (.l (.r .e)))))))
def s200:Pth:=(.r (.l (.l (.r (.l (.l (.r .e)))))))
def s201:Pth:=(.l (.r (.l (.r (.l (.l (.r .e)))))))
def s202:Pth:=(.r (.r (.l (.r (.l (.l (.r .e)))))))
def s203:Pth:=(.l (.l (.r (.r (.l (.l (.r .e)))))))
def s204:Pth:=(.r (.l (.r (.r (.l (.l (.r .e)))))))
def s205:Pth:=(.l (.r (.r (.r (.l (.l (.r .e)))))))
def s206:Pth:=(.r (.r (.r (.r (.l (.l (.r .e)))))))
def s207:Pth:=(.l (.l (.l (.l (.r (.l (.r .e)))))))
def s208:Pth:=(.r (.l (.l (.l (.r (.l (.r .e)))))))
def s209:Pth:=(.l (.r (.l (.l (.r (.l (.r .e)))))))
def s210:Pth:=(.r (.r (.l (.l (.r (.l (.r .e)))))))
def s211:Pth:=(.l (.l (.r (.l (.r (.l (.r .e)))))))
def s212:Pth:=(.r (.l (.r (.l (.r (.l (.r .e)))))))
def s213:Pth:=(.l (.r (.r (.l (.r (.l (.r .e)))))))
def s214:Pth:=(.r (.r (.r (.l (.r (.l (.r .e)))))))
def s215:Pth:=(.l (.l (.l (.r (.r (.l (.r .e)))))))
def s216:Pth:=(.r (.l (.l (.r (.r (.l (.r .e)))))))
def s217:Pth:=(.l (.r (.l (.r (.r (.l (.r .e)))))))
def s218:Pth:=(.r (.r (.l (.r (.r (.l (.r .e)))))))
def s219:Pth:=(.l (.l (.r (.r (.r (.l (.r .e)))))))
def s220:Pth:=(.r (.l (.r (.r (.r (.l (.r .e)))))))
def s221:Pth:=(.l (.r (.r (.r (.r (.l (.r .e)))))))
def s222:Pth:=(.r (.r (.r (.r (.r (.l (.r .e)))))))
def s223:Pth:=(.l (.l (.l (.l (.l (.r (.r .e)))))))
def s224:Pth:=(.r (.l (.l (.l (.l (.r (.r .e)))))))
def s225:Pth:=(.l (.r (.l (.l (.l (.r (.r .e)))))))
def s226:Pth:=(.r (.r (.l (.l (.l (.r (.r .e)))))))
def s227:Pth:=(.l (.l (.r (.l (.l (.r (.r .e)))))))
def s228:Pth:=(.r (.l (.r (.l (.l (.r (.r .e)))))))
def s229:Pth:=(.l (.r (.r (.l (.l (.r (.r .e)))))))
def s230:Pth:=(.r (.r (.r (.l (.l (.r (.r .e)))))))
def s231:Pth:=(.l (.l (.l (.r (.l (.r (.r .e)))))))
def s232:Pth:=(.r (.l (.l (.r (.l (.r (.r .e)))))))
def s233:Pth:=(.l (.r (.l (.r (.l (.r (.r .e)))))))
def s234:Pth:=(.r (.r (.l (.r (.l (.r (.r .e)))))))
def s235:Pth:=(.l (.l (.r (.r (.l (.r (.r .e)))))))
def s236:Pth:=(.r (.l (.r (.r (.l (.r (.r .e)))))))
def s237:Pth:=(.l (.r (.r (.r (.l (.r (.r .e)))))))
def s238:Pth:=(.r (.r (.r (.r (.l (.r (.r .e)))))))
def s239:Pth:=(.l (.l (.l (.l (.r (.r (.r .e)))))))
def s240:Pth:=(.r (.l (.l (.l (.r (.r (.r .e)))))))
def s241:Pth:=(.l (.r (.l (.l (.r (.r (.r .e)))))))
def s242:Pth:=(.r (.r (.l (.l (.r (.r (.r .e)))))))
def s243:Pth:=(.l (.l (.r (.l (.r (.r (.r .e)))))))
def s244:Pth:=(.r (.l (.r (.l (.r (.r (.r .e)))))))
def s245:Pth:=(.l (.r (.r (.l (.r (.r (.r .e)))))))
def s246:Pth:=(.r (.r (.r (.l (.r (.r (.r .e)))))))
def s247:Pth:=(.l (.l (.l (.r (.r (.r (.r .e)))))))
def s248:Pth:=(.r (.l (.l (.r (.r (.r (.r .e)))))))
def s249:Pth:=(.l (.r (.l (.r (.r (.r (.r .e)))))))
def s250:Pth:=(.r (.r (.l (.r (.r (.r (.r .e)))))))
def s251:Pth:=(.l (.l (.r (.r (.r (.r (.r .e)))))))
def s252:Pth:=(.r (.l (.r (.r (.r (.r (.r .e)))))))
def s253:Pth:=(.l (.r (.r (.r (.r (.r (.r .e)))))))
def s254:Pth:=(.r (.r (.r (.r (.r (.r (.r .e)))))))
def s255:Pth:=(.l (.l (.l (.l (.l (.l (.l (.l .e))))))))
def s256:Pth:=(.r (.l (.l (.l (.l (.l (.l (.l .e))))))))
def s257:Pth:=(.l (.r (.l (.l (.l (.l (.l (.l .e))))))))
def s258:Pth:=(.r (.r (.l (.l (.l (.l (.l (.l .e))))))))
def s259:Pth:=(.l (.l (.r (.l (.l (.l (.l (.l .e))))))))
def s260:Pth:=(.r (.l (.r (.l (.l (.l (.l (.l .e))))))))
def s261:Pth:=(.l (.r (.r (.l (.l (.l (.l (.l .e))))))))
def s262:Pth:=(.r (.r (.r (.l (.l (.l (.l (.l .e))))))))
def s263:Pth:=(.l (.l (.l (.r (.l (.l (.l (.l .e))))))))
def s264:Pth:=(.r (.l (.l (.r (.l (.l (.l (.l .e))))))))
def s265:Pth:=(.l (.r (.l (.r (.l (.l (.l (.l .e))))))))
def s266:Pth:=(.r (.r (.l (.r (.l (.l (.l (.l .e))))))))
def s267:Pth:=(.l (.l (.r (.r (.l (.l (.l (.l .e))))))))
def s268:Pth:=(.r (.l (.r (.r (.l (.l (.l (.l .e))))))))
def s269:Pth:=(.l (.r (.r (.r (.l (.l (.l (.l .e))))))))
def s270:Pth:=(.r (.r (.r (.r (.l (.l (.l (.l .e))))))))
def s271:Pth:=(.l (.l (.l (.l (.r (.l (.l (.l .e))))))))
def s272:Pth:=(.r (.l (.l (.l (.r (.l (.l (.l .e))))))))
def s273:Pth:=(.l (.r (.l (.l (.r (.l (.l (.l .e))))))))
def s274:Pth:=(.r (.r (.l (.l (.r (.l (.l (.l .e))))))))
def s275:Pth:=(.l (.l (.r (.l (.r (.l (.l (.l .e))))))))
def s276:Pth:=(.r (.l (.r (.l (.r (.l (.l (.l .e))))))))
def s277:Pth:=(.l (.r (.r (.l (.r (.l (.l (.l .e))))))))
def s278:Pth:=(.r (.r (.r (.l (.r (.l (.l (.l .e))))))))
def s279:Pth:=(.l (.l (.l (.r (.r (.l (.l (.l .e))))))))
def s280:Pth:=(.r (.l (.l (.r (.r (.l (.l (.l .e))))))))
def s281:Pth:=(.l (.r (.l (.r (.r (.l (.l (.l .e))))))))
def s282:Pth:=(.r (.r (.l (.r (.r (.l (.l (.l .e))))))))
def s283:Pth:=(.l (.l (.r (.r (.r (.l (.l (.l .e))))))))
def s284:Pth:=(.r (.l (.r (.r (.r (.l (.l (.l .e))))))))
def s285:Pth:=(.l (.r (.r (.r (.r (.l (.l (.l .e))))))))
def t0:AX:=.t s0
def t1:AX:=.t s1
def t2:AX:=.t s2
def t3:AX:=.t s3
def t4:AX:=.t s4
def t5:AX:=.t s5
def t6:AX:=.t s6
def t7:AX:=.t s7
def t8:AX:=.t s8
def t9:AX:=.t s9
def t10:AX:=.t s10
def t11:AX:=.t s11
def t12:AX:=.t s12
def t13:AX:=.t s13
def t14:AX:=.t s14
def t15:AX:=.t s15
def t16:AX:=.t s16
def t17:AX:=.t s17
def t18:AX:=.t s18
def t19:AX:=.t s19
def t20:AX:=.t s20
def t21:AX:=.t s21
def t22:AX:=.t s22
def t23:AX:=.t s23
def t24:AX:=.t s24
def t25:AX:=.t s25
def t26:AX:=.t s26
def t27:AX:=.t s27
def t28:AX:=.t s28
def t29:AX:=.t s29
def t30:AX:=.t s30
def t31:AX:=.t s31
def t32:AX:=.t s32
def t33:AX:=.t s33
def t34:AX:=.t s34
def t35:AX:=.t s35
def t36:AX:=.t s36
def t37:AX:=.t s37
def t38:AX:=.t s38
def t39:AX:=.t s39
def t40:AX:=.t s40
def t41:AX:=.t s41
def t42:AX:=.t s42
def t43:AX:=.t s43
def t44:AX:=.t s44
def t45:AX:=.t s45
def t46:AX:=.t s46
def t47:AX:=.t s47
def t48:AX:=.t s48
def t49:AX:=.t s49
def t50:AX:=.t s50
def t51:AX:=.t s51
def t52:AX:=.t s52
def t53:AX:=.t s53
def t54:AX:=.t s54
def t55:AX:=.t s55
def t56:AX:=.t s56
def t57:AX:=.t s57
def t58:AX:=.t s58
def t59:AX:=.t s59
def t60:AX:=.t s60
def t61:AX:=.t s61
def t62:AX:=.t s62
def t63:AX:=.t s63
def t64:AX:=.t s64
def t65:AX:=.t s65
def t66:AX:=.t s66
def t67:AX:=.t s67
def t68:AX:=.t s68
def t69:AX:=.t s69
def t70:AX:=.t s70
def t71:AX:=.t s71
def t72:AX:=.t s72
def t73:AX:=.t s73
def t74:AX:=.t s74
def t75:AX:=.t s75
def t76:AX:=.t s76
def t77:AX:=.t s77
def t78:AX:=.t s78
def t79:AX:=.t s79
def t80:AX:=.t s80
def t81:AX:=.t s81
def t82:AX:=.t s82
def t83:AX:=.t s83
def t84:AX:=.t s84
def t85:AX:=.t s85
def t86:AX:=.t s86
def t87:AX:=.t s87
def t88:AX:=.t s88
def t89:AX:=.t s89
def t90:AX:=.t s90
def t91:AX:=.t s91
def t92:AX:=.t s92
def t93:AX:=.t s93
def t94:AX:=.t s94
def t95:AX:=.t s95
def t96:AX:=.t s96
def t97:AX:=.t s97
def t98:AX:=.t s98
def t99:AX:=.t s99
def t100:AX:=.t s100
def t101:AX:=.t s101
def t102:AX:=.t s102
def t103:AX:=.t s103
def t104:AX:=.t s104
def t105:AX:=.t s105
def t106:AX:=.t s106
def t107:AX:=.t s107
def t108:AX:=.t s108
def t109:AX:=.t s109
def t110:AX:=.t s110
def t111:AX:=.t s111
def t112:AX:=.t s112
def t113:AX:=.t s113
def t114:AX:=.t s114
def t115:AX:=.t s115
def t116:AX:=.t s116
def t117:AX:=.t s117
def t118:AX:=.t s118
def t119:AX:=.t s119
def t120:AX:=.t s120
def t121:AX:=.t s121
def t122:AX:=.t s122
def t123:AX:=.t s123
def t124:AX:=.t s124
def t125:AX:=.t s125
def t126:AX:=.t s126
def t127:AX:=.t s127
def t128:AX:=.t s128
def t129:AX:=.t s129
def t130:AX:=.t s130
def t131:AX:=.t s131
def t132:AX:=.t s132
def t133:AX:=.t s133
def t134:AX:=.t s134
def t135:AX:=.t s135
def t136:AX:=.t s136
def t137:AX:=.t s137
def t138:AX:=.t s138
def t139:AX:=.t s139
def t140:AX:=.t s140
def t141:AX:=.t s141
def t142:AX:=.t s142
def t143:AX:=.t s143
def t144:AX:=.t s144
def t145:AX:=.t s145
def t146:AX:=.t s146
def t147:AX:=.t s147
def t148:AX:=.t s148
def t149:AX:=.t s149
def t150:AX:=.t s150
def t151:AX:=.t s151
def t152:AX:=.t s152
def t153:AX:=.t s153
def t154:AX:=.t s154
def t155:AX:=.t s155
def t156:AX:=.t s156
def t157:AX:=.t s157
def t158:AX:=.t s158
def t159:AX:=.t s159
def t160:AX:=.t s160
def t161:AX:=.t s161
def t162:AX:=.t s162
def t163:AX:=.t s163
def t164:AX:=.t s164
def t165:AX:=.t s165
def t166:AX:=.t s166
def t167:AX:=.t s167
def t168:AX:=.t s168
def t169:AX:=.t s169
def t170:AX:=.t s170
def t171:AX:=.t s171
def t172:AX:=.t s172
def t173:AX:=.t s173
def t174:AX:=.t s174
def t175:AX:=.t s175
def t176:AX:=.t s176
def t177:AX:=.t s177
def t178:AX:=.t s178
def t179:AX:=.t s179
def t180:AX:=.t s180
def t181:AX:=.t s181
def t182:AX:=.t s182
def t183:AX:=.t s183
def t184:AX:=.t s184
def t185:AX:=.t s185
def t186:AX:=.t s186
def t187:AX:=.t s187
def t188:AX:=.t s188
def t189:AX:=.t s189
def t190:AX:=.t s190
def t191:AX:=.t s191
def t192:AX:=.t s192
def t193:AX:=.t s193
def t194:AX:=.t s194
def t195:AX:=.t s195
def t196:AX:=.t s196
def t197:AX:=.t s197
def t198:AX:=.t s198
def t199:AX:=.t s199
def t200:AX:=.t s200
def t201:AX:=.t s201
def t202:AX:=.t s202
def t203:AX:=.t s203
def t204:AX:=.t s204
def t205:AX:=.t s205
def t206:AX:=.t s206
def t207:AX:=.t s207
def t208:AX:=.t s208
def t209:AX:=.t s209
def t210:AX:=.t s210
def t211:AX:=.t s211
def t212:AX:=.t s212
def t213:AX:=.t s213
def t214:AX:=.t s214
def t215:AX:=.t s215
def t216:AX:=.t s216
def t217:AX:=.t s217
def t218:AX:=.t s218
def t219:AX:=.t s219
def t220:AX:=.t s220
def t221:AX:=.t s221
def t222:AX:=.t s222
def t223:AX:=.t s223
def t224:AX:=.t s224
def t225:AX:=.t s225
def t226:AX:=.t s226
def t227:AX:=.t s227
def t228:AX:=.t s228
def t229:AX:=.t s229
def t230:AX:=.t s230
def t231:AX:=.t s231
def t232:AX:=.t s232
def t233:AX:=.t s233
def t234:AX:=.t s234
def t235:AX:=.t s235
def t236:AX:=.t s236
def t237:AX:=.t s237
def t238:AX:=.t s238
def t239:AX:=.t s239
def t240:AX:=.t s240
def t241:AX:=.t s241
def t242:AX:=.t s242
def t243:AX:=.t s243
def t244:AX:=.t s244
def t245:AX:=.t s245
def t246:AX:=.t s246
def t247:AX:=.t s247
def t248:AX:=.t s248
def t249:AX:=.t s249
def t250:AX:=.t s250
def t251:AX:=.t s251
def t252:AX:=.t s252
def t253:AX:=.t s253
def t254:AX:=.t s254
def t255:AX:=.t s255
def t256:AX:=.t s256
def t257:AX:=.t s257
def t258:AX:=.t s258
def t259:AX:=.t s259
def t260:AX:=.t s260
def t261:AX:=.t s261
def t262:AX:=.t s262
def t263:AX:=.t s263
def t264:AX:=.t s264
def t265:AX:=.t s265
def t266:AX:=.t s266
def t267:AX:=.t s267
def t268:AX:=.t s268
def t269:AX:=.t s269
def t270:AX:=.t s270
def t271:AX:=.t s271
def t272:AX:=.t s272
def t273:AX:=.t s273
def t274:AX:=.t s274
def t275:AX:=.t s275
def t276:AX:=.t s276
def t277:AX:=.t s277
def t278:AX:=.t s278
def t279:AX:=.t s279
def t280:AX:=.t s280
def t281:AX:=.t s281
def t282:AX:=.t s282
def t283:AX:=.t s283
def t284:AX:=.t s284
def t285:AX:=.t s285
def vi (n:Nat):AV:=.int .i64 (.ofNat n)
def vj (n:Nat):AV:=.int .i64 (.negSucc n)
def vu (n:Nat):AV:=.int .u8 (.ofNat n)
def vz:AV:=.sl 1 0 []
def ci (n:Nat):AX:=.c (.int .i64 (.ofNat n))
def cu (n:Nat):AX:=.c (.int .u8 (.ofNat n))
def eI:EqK:=.cells false [.i]
def eS:EqK:=.cells false [.s]
def eB:EqK:=.cells false [.b]
def oM (d:Pth) (x:AX):AO:=⟨some d,none,.p (.mov x)⟩
def oN (d:Pth) (x:AX):AO:=⟨some d,none,.p (.nilc x)⟩
def oF (d:Pth) (n:Nat) (x:AX):AO:=⟨some d,none,.p (.fad n x)⟩
def oE (d:Pth) (x:AX) (n:Nat):AO:=⟨some d,none,.p (.ext x n)⟩
def oQ (d:Pth) (o:BinOp) (x y:AX):AO:=⟨some d,none,.p (.bin o (.cells false [.i]) x y)⟩
def oP (d:Pth) (o:PO):AO:=⟨some d,none,.p o⟩
def oG (d:Pth) (x:AX):AO:=⟨some d,none,.r (.ldc x)⟩
def oL (d:Pth) (x:AX):AO:=⟨some d,none,.r (.ld false 1 x)⟩
def oR (d:Pth) (o:RO):AO:=⟨some d,none,.r o⟩
def oC (d:Pth) (f:Nat) (l:List AX):AO:=⟨some d,none,.e (.call f l) []⟩
def oX (d:Pth) (o:EO) (w:List WX):AO:=⟨some d,none,.e o w⟩
def oS (n:Nat) (a x:AX):AO:=⟨none,none,.e (.st n a x) []⟩
def oY (o:EO) (w:List WX):AO:=⟨none,none,.e o w⟩
def n2:List Nat:=[1,10,100,1000,10000,100000,1000000,10000000,100000000,1000000000,10000000000,100000000000,1000000000000,10000000000000,100000000000000,1000000000000000,10000000000000000,100000000000000000,1000000000000000000,10000000000000000000]
def g2:List AV:=[.int .u64 (.ofNat 1),.int .u64 (.ofNat 10),.int .u64 (.ofNat 100),.int .u64 (.ofNat 1000),.int .u64 (.ofNat 10000),.int .u64 (.ofNat 100000),.int .u64 (.ofNat 1000000),.int .u64 (.ofNat 10000000),.int .u64 (.ofNat 100000000),.int .u64 (.ofNat 1000000000),.int .u64 (.ofNat 10000000000),.int .u64 (.ofNat 100000000000),.int .u64 (.ofNat 1000000000000),.int .u64 (.ofNat 10000000000000),.int .u64 (.ofNat 100000000000000),.int .u64 (.ofNat 1000000000000000),.int .u64 (.ofNat 10000000000000000),.int .u64 (.ofNat 100000000000000000),.int .u64 (.ofNat 1000000000000000000),.int .u64 (.ofNat 10000000000000000000)]
set_option maxRecDepth 100000 in
theorem g2_eq:g2=n2.map fun m=>.int .u64 (.ofNat m):=rfl
def n3:List Nat:=[0,0,0,0,0,0,0,0,0,1,1,1,1,1,0,0,0,0,0,0,0,0,0,0,0,0,0,0,0,0,0,0,1,0,0,0,0,0,0,0,0,0,0,0,0,0,0,0,0,0,0,0,0,0,0,0,0,0,0,0,0,0,0,0,0,0,0,0,0,0,0,0,0,0,0,0,0,0,0,0,0,0,0,0,0,0,0,0,0,0,0,0,0,0,0,0,0,0,0,0,0,0,0,0,0,0,0,0,0,0,0,0,0,0,0,0,0,0,0,0,0,0,0,0,0,0,0,0,0,0,0,0,0,0,0,0,0,0,0,0,0,0,0,0,0,0,0,0,0,0,0,0,0,0,0,0,0,0,0,0,0,0,0,0,0,0,0,0,0,0,0,0,0,0,0,0,0,0,0,0,0,0,0,0,0,0,0,0,0,0,0,0,0,0,0,0,0,0,0,0,0,0,0,0,0,0,0,0,0,0,0,0,0,0,0,0,0,0,0,0,0,0,0,0,0,0,0,0,0,0,0,0,0,0,0,0,0,0,0,0,0,0,0,0,0,0,0,0,0,0,0,0,0,0,0,0]
def g3:List AV:=[.int .u8 (.ofNat 0),.int .u8 (.ofNat 0),.int .u8 (.ofNat 0),.int .u8 (.ofNat 0),.int .u8 (.ofNat 0),.int .u8 (.ofNat 0),.int .u8 (.ofNat 0),.int .u8 (.ofNat 0),.int .u8 (.ofNat 0),.int .u8 (.ofNat 1),.int .u8 (.ofNat 1),.int .u8 (.ofNat 1),.int .u8 (.ofNat 1),.int .u8 (.ofNat 1),.int .u8 (.ofNat 0),.int .u8 (.ofNat 0),.int .u8 (.ofNat 0),.int .u8 (.ofNat 0),.int .u8 (.ofNat 0),.int .u8 (.ofNat 0),.int .u8 (.ofNat 0),.int .u8 (.ofNat 0),.int .u8 (.ofNat 0),.int .u8 (.ofNat 0),.int .u8 (.ofNat 0),.int .u8 (.ofNat 0),.int .u8 (.ofNat 0),.int .u8 (.ofNat 0),.int .u8 (.ofNat 0),.int .u8 (.ofNat 0),.int .u8 (.ofNat 0),.int .u8 (.ofNat 0),.int .u8 (.ofNat 1),.int .u8 (.ofNat 0),.int .u8 (.ofNat 0),.int .u8 (.ofNat 0),.int .u8 (.ofNat 0),.int .u8 (.ofNat 0),.int .u8 (.ofNat 0),.int .u8 (.ofNat 0),.int .u8 (.ofNat 0),.int .u8 (.ofNat 0),.int .u8 (.ofNat 0),.int .u8 (.ofNat 0),.int .u8 (.ofNat 0),.int .u8 (.ofNat 0),.int .u8 (.ofNat 0),.int .u8 (.ofNat 0),.int .u8 (.ofNat 0),.int .u8 (.ofNat 0),.int .u8 (.ofNat 0),.int .u8 (.ofNat 0),.int .u8 (.ofNat 0),.int .u8 (.ofNat 0),.int .u8 (.ofNat 0),.int .u8 (.ofNat 0),.int .u8 (.ofNat 0),.int .u8 (.ofNat 0),.int .u8 (.ofNat 0),.int .u8 (.ofNat 0),.int .u8 (.ofNat 0),.int .u8 (.ofNat 0),.int .u8 (.ofNat 0),.int .u8 (.ofNat 0),.int .u8 (.ofNat 0),.int .u8 (.ofNat 0),.int .u8 (.ofNat 0),.int .u8 (.ofNat 0),.int .u8 (.ofNat 0),.int .u8 (.ofNat 0),.int .u8 (.ofNat 0),.int .u8 (.ofNat 0),.int .u8 (.ofNat 0),.int .u8 (.ofNat 0),.int .u8 (.ofNat 0),.int .u8 (.ofNat 0),.int .u8 (.ofNat 0),.int .u8 (.ofNat 0),.int .u8 (.ofNat 0),.int .u8 (.ofNat 0),.int .u8 (.ofNat 0),.int .u8 (.ofNat 0),.int .u8 (.ofNat 0),.int .u8 (.ofNat 0),.int .u8 (.ofNat 0),.int .u8 (.ofNat 0),.int .u8 (.ofNat 0),.int .u8 (.ofNat 0),.int .u8 (.ofNat 0),.int .u8 (.ofNat 0),.int .u8 (.ofNat 0),.int .u8 (.ofNat 0),.int .u8 (.ofNat 0),.int .u8 (.ofNat 0),.int .u8 (.ofNat 0),.int .u8 (.ofNat 0),.int .u8 (.ofNat 0),.int .u8 (.ofNat 0),.int .u8 (.ofNat 0),.int .u8 (.ofNat 0),.int .u8 (.ofNat 0),.int .u8 (.ofNat 0),.int .u8 (.ofNat 0),.int .u8 (.ofNat 0),.int .u8 (.ofNat 0),.int .u8 (.ofNat 0),.int .u8 (.ofNat 0),.int .u8 (.ofNat 0),.int .u8 (.ofNat 0),.int .u8 (.ofNat 0),.int .u8 (.ofNat 0),.int .u8 (.ofNat 0),.int .u8 (.ofNat 0),.int .u8 (.ofNat 0),.int .u8 (.ofNat 0),.int .u8 (.ofNat 0),.int .u8 (.ofNat 0),.int .u8 (.ofNat 0),.int .u8 (.ofNat 0),.int .u8 (.ofNat 0),.int .u8 (.ofNat 0),.int .u8 (.ofNat 0),.int .u8 (.ofNat 0),.int .u8 (.ofNat 0),.int .u8 (.ofNat 0),.int .u8 (.ofNat 0),.int .u8 (.ofNat 0),.int .u8 (.ofNat 0),.int .u8 (.ofNat 0),.int .u8 (.ofNat 0),.int .u8 (.ofNat 0),.int .u8 (.ofNat 0),.int .u8 (.ofNat 0),.int .u8 (.ofNat 0),.int .u8 (.ofNat 0),.int .u8 (.ofNat 0),.int .u8 (.ofNat 0),.int .u8 (.ofNat 0),.int .u8 (.ofNat 0),.int .u8 (.ofNat 0),.int .u8 (.ofNat 0),.int .u8 (.ofNat 0),.int .u8 (.ofNat 0),.int .u8 (.ofNat 0),.int .u8 (.ofNat 0),.int .u8 (.ofNat 0),.int .u8 (.ofNat 0),.int .u8 (.ofNat 0),.int .u8 (.ofNat 0),.int .u8 (.ofNat 0),.int .u8 (.ofNat 0),.int .u8 (.ofNat 0),.int .u8 (.ofNat 0),.int .u8 (.ofNat 0),.int .u8 (.ofNat 0),.int .u8 (.ofNat 0),.int .u8 (.ofNat 0),.int .u8 (.ofNat 0),.int .u8 (.ofNat 0),.int .u8 (.ofNat 0),.int .u8 (.ofNat 0),.int .u8 (.ofNat 0),.int .u8 (.ofNat 0),.int .u8 (.ofNat 0),.int .u8 (.ofNat 0),.int .u8 (.ofNat 0),.int .u8 (.ofNat 0),.int .u8 (.ofNat 0),.int .u8 (.ofNat 0),.int .u8 (.ofNat 0),.int .u8 (.ofNat 0),.int .u8 (.ofNat 0),.int .u8 (.ofNat 0),.int .u8 (.ofNat 0),.int .u8 (.ofNat 0),.int .u8 (.ofNat 0),.int .u8 (.ofNat 0),.int .u8 (.ofNat 0),.int .u8 (.ofNat 0),.int .u8 (.ofNat 0),.int .u8 (.ofNat 0),.int .u8 (.ofNat 0),.int .u8 (.ofNat 0),.int .u8 (.ofNat 0),.int .u8 (.ofNat 0),.int .u8 (.ofNat 0),.int .u8 (.ofNat 0),.int .u8 (.ofNat 0),.int .u8 (.ofNat 0),.int .u8 (.ofNat 0),.int .u8 (.ofNat 0),.int .u8 (.ofNat 0),.int .u8 (.ofNat 0),.int .u8 (.ofNat 0),.int .u8 (.ofNat 0),.int .u8 (.ofNat 0),.int .u8 (.ofNat 0),.int .u8 (.ofNat 0),.int .u8 (.ofNat 0),.int .u8 (.ofNat 0),.int .u8 (.ofNat 0),.int .u8 (.ofNat 0),.int .u8 (.ofNat 0),.int .u8 (.ofNat 0),.int .u8 (.ofNat 0),.int .u8 (.ofNat 0),.int .u8 (.ofNat 0),.int .u8 (.ofNat 0),.int .u8 (.ofNat 0),.int .u8 (.ofNat 0),.int .u8 (.ofNat 0),.int .u8 (.ofNat 0),.int .u8 (.ofNat 0),.int .u8 (.ofNat 0),.int .u8 (.ofNat 0),.int .u8 (.ofNat 0),.int .u8 (.ofNat 0),.int .u8 (.ofNat 0),.int .u8 (.ofNat 0),.int .u8 (.ofNat 0),.int .u8 (.ofNat 0),.int .u8 (.ofNat 0),.int .u8 (.ofNat 0),.int .u8 (.ofNat 0),.int .u8 (.ofNat 0),.int .u8 (.ofNat 0),.int .u8 (.ofNat 0),.int .u8 (.ofNat 0),.int .u8 (.ofNat 0),.int .u8 (.ofNat 0),.int .u8 (.ofNat 0),.int .u8 (.ofNat 0),.int .u8 (.ofNat 0),.int .u8 (.ofNat 0),.int .u8 (.ofNat 0),.int .u8 (.ofNat 0),.int .u8 (.ofNat 0),.int .u8 (.ofNat 0),.int .u8 (.ofNat 0),.int .u8 (.ofNat 0),.int .u8 (.ofNat 0),.int .u8 (.ofNat 0),.int .u8 (.ofNat 0),.int .u8 (.ofNat 0),.int .u8 (.ofNat 0),.int .u8 (.ofNat 0),.int .u8 (.ofNat 0),.int .u8 (.ofNat 0),.int .u8 (.ofNat 0),.int .u8 (.ofNat 0),.int .u8 (.ofNat 0),.int .u8 (.ofNat 0),.int .u8 (.ofNat 0),.int .u8 (.ofNat 0),.int .u8 (.ofNat 0),.int .u8 (.ofNat 0)]
set_option maxRecDepth 100000 in
theorem g3_eq:g3=n3.map fun m=>.int .u8 (.ofNat m):=rfl
def gvs (g:Nat):Option (List AV):=cond (Nat.beq g 4) (some g3) (cond (Nat.beq g 1) (some g2) (none))
instance glob:Glob where
 gv:=gvs
 u8:=fun t=>u8B Tryz.prog t=true
end Go.Abs.Run
namespace Go.Abs.Run
open Go Go.Abs Go.Proofs
def f3:FI:=⟨(.seq (.reg [oM s4 (.c (.bool false))]) (.seq (.reg [oP s8 (.bsl 5 1 (.str []) [(0,(.c (.str [65]))),(1,(.c (.str [66]))),(2,(.c (.str [42,65]))),(3,(.c (.str [105,110,116]))),(4,(.c (.str [116,101,120,116])))]),oM s5 t8]) (.seq (.reg [oP s9 (.bsl 5 1 (.str []) [(0,(.c (.str [65,123,120,58,32,49,125]))),(1,(.c (.str [66,123,120,58,32,49,125]))),(2,(.c (.str [110,105,108,32,42,65]))),(3,(.c (.str [53]))),(4,(.c (.str [34,113,34])))]),oM s6 t9]) (.seq (.reg [oM s10 t0,oC s11 4 [t10,(ci 0),(ci 4)],oM s0 t11]) (.seq (.reg [oM s12 t1,oC s13 4 [t12,(ci 0),(ci 4)],oM s1 t13]) (.seq (.reg [oM s14 t6,oM s15 t0,oP s16 (.iad 1 t14 t15),oL s17 t16,oP s18 (.bin .add eS (.c (.str [116,121,112,101,32,65,32,61,32,123,120,32,105,110,116,59,125,59,32,109,101,116,104,111,100,32,65,46,109,40,41,32,105,110,116,32,123,32,114,101,116,117,114,110,32,49,59,32,125,32,116,121,112,101,32,66,32,61,32,123,120,32,105,110,116,59,125,59,32,109,97,105,110,32,105,110,116,32,123,32,108,101,116,32,101,32,105,110,116,101,114,102,97,99,101,32,123,125,32,61,32])) t17),oP s19 (.bin .add eS t18 (.c (.str [59,32,108,101,116,32,120,32,61,32,101,32,116,111,32]))),oM s20 t5,oM s21 t1,oP s22 (.iad 1 t20 t21),oL s23 t22,oP s24 (.bin .add eS t19 t23),oP s25 (.bin .add eS t24 (.c (.str [59,32,114,101,116,117,114,110,32,55,59,32,125]))),oX s7 (.new 0 false false (.cells 26 [vz,(vi 0),(.str []),(vi 0)])) [(.l t22),(.l t16)],oX s26 (.call 5 [t25,(ci 99)]) [(.l t7)],oS 4 t7 t26]) (.seq (.seq (.reg [oM s27 t0,oM s28 t1,oQ s29 .eql t27 t28]) (.cond t29
 (.seq (.reg [oR s30 (.ld true 4 t7),oP s31 (.bld [vz,(vi 0),(.str []),(vi 0)] [(2,1,(.c (.str [55]))),(3,1,(ci 3))]),oC s32 6 [t30,t31],oM s33 t32,⟨some s34,some (s33,true),(.e (.call 7 []) [])⟩,oP s35 (.pick t33 t34 (.c (.bool false))),oM s4 t35]) .ret)
 .skip)) (.seq (.reg [oR s36 (.ld true 4 t7),oP s37 (.bld [vz,(vi 0),(.str []),(vi 0)] [(1,1,(ci 52)),(3,1,(ci 2))]),oC s38 6 [t36,t37],oM s39 t38,⟨some s40,some (s39,true),(.e (.call 7 []) [])⟩,oP s41 (.pick t39 t40 (.c (.bool false))),oM s4 t41]) .ret)))))))),1,[.t s4],none⟩
def f4:FI:=⟨(.seq (.reg [oM s6 (ci 0)]) (.seq (.reg [oM s7 t0,oM s8 t2,oM s9 t1,oQ s10 .sub t8 t9,oQ s11 .add t10 (ci 1),oQ s12 .rem t7 t11,oM s0 t12]) (.seq (.seq (.reg [oM s13 t0,oQ s14 .lss t13 (ci 0)]) (.cond t14
 (.reg [oM s15 t0,oM s16 t2,oQ s17 .add t15 t16,oM s18 t1,oQ s19 .sub t17 t18,oQ s20 .add t19 (ci 1),oM s0 t20])
 .skip)) (.seq (.reg [oM s21 t1,oM s22 t0,oQ s23 .add t21 t22,oM s6 t23]) .ret)))),0,[.t s6],none⟩
def f5:FI:=⟨(.seq (.reg [oX s4 (.new 0 false false (.cells 26 [vz,(vi 0),(.str []),(vi 0)])) []]) (.seq (.reg [oM s8 t0,oC s9 8 [t8],oM s7 t9,oE s10 t7 0,oE s11 t7 1,oM s5 t10,oM s6 t11]) (.seq (.seq (.reg [oM s12 t5,oP s13 (.bin .eql .ptr t12 (.c .nilp))]) (.cond t13
 (.seq (.reg [oP s14 (.bld [vz,(vi 0),(.str []),(vi 0)] [(1,1,(.c (vj 0)))]),oS 4 t4 t14]) .ret)
 .skip)) (.seq (.reg [oM s15 t5,oM s16 t1,oC s17 9 [t15,t16],oS 4 t4 t17]) .ret)))),1,[.c true 4 s4],none⟩
def f6:FI:=⟨(.seq (.reg [oX s2 (.box 0 false 26 4 t0) [],oX s3 (.box 1 false 26 4 t1) [],oM s4 (.c (.bool false))]) (.seq (.reg [oF s5 0 t2,oL s6 t5,oF s7 0 t3,oL s8 t7,oC s9 10 [t6,t8],oM s10 t9,⟨some s11,some (s10,true),(.p (.fad 1 t2))⟩,⟨some s12,some (s10,true),(.r (.ldc t11))⟩,⟨some s13,some (s10,true),(.p (.fad 1 t3))⟩,⟨some s14,some (s10,true),(.r (.ldc t13))⟩,⟨some s15,some (s10,true),(.p (.bin .eql eI t12 t14))⟩,oP s16 (.pick t10 t15 (.c (.bool false))),oM s17 t16,⟨some s18,some (s17,true),(.p (.fad 2 t2))⟩,⟨some s19,some (s17,true),(.r (.ld false 1 t18))⟩,⟨some s20,some (s17,true),(.p (.fad 2 t3))⟩,⟨some s21,some (s17,true),(.r (.ld false 1 t20))⟩,⟨some s22,some (s17,true),(.p (.bin .eql eS t19 t21))⟩,oP s23 (.pick t17 t22 (.c (.bool false))),oM s24 t23,⟨some s25,some (s24,true),(.p (.fad 3 t2))⟩,⟨some s26,some (s24,true),(.r (.ldc t25))⟩,⟨some s27,some (s24,true),(.p (.fad 3 t3))⟩,⟨some s28,some (s24,true),(.r (.ldc t27))⟩,⟨some s29,some (s24,true),(.p (.bin .eql eI t26 t28))⟩,oP s30 (.pick t24 t29 (.c (.bool false))),oM s4 t30]) .ret)),2,[.t s4],none⟩
def f7:FI:=⟨(.seq (.reg [oM s0 (.c (.bool false))]) (.seq (.reg [oM s1 (.c (.str [109,97,105,110,32,105,110,116,32,123,32,112,114,105,110,116,32,49,59,32,114,101,116,117,114,110,32,50,59,32,125]))]) (.seq (.seq (.reg [oM s4 t1,oC s5 5 [t4,(ci 5)],oP s6 (.bsl 1 1 (.str []) [(0,(.c (.str [49])))]),oP s7 (.bld [vz,(vi 0),(.str []),(vi 0)] [(0,1,t6),(2,1,(.c (.str [50]))),(3,1,(ci 2))]),oC s8 6 [t5,t7],oP s9 (.un .not t8),oM s10 t9,⟨some s11,some (s10,false),(.p (.mov t1))⟩,⟨some s12,some (s10,false),(.e (.call 5 [t11,(ci 1)]) [])⟩,⟨some s13,some (s10,false),(.p (.bsl 1 1 (.str []) [(0,(.c (.str [49])))]))⟩,⟨some s14,some (s10,false),(.p (.bld [vz,(vi 0),(.str []),(vi 0)] [(0,1,t13),(1,1,(ci 50)),(3,1,(ci 1))]))⟩,⟨some s15,some (s10,false),(.e (.call 6 [t12,t14]) [])⟩,⟨some s16,some (s10,false),(.p (.un .not t15))⟩,oP s17 (.pick t10 (.c (.bool true)) t16),oM s18 t17,⟨some s19,some (s18,false),(.p (.mov t1))⟩,⟨some s20,some (s18,false),(.e (.call 5 [t19,(ci 0)]) [])⟩,⟨some s21,some (s18,false),(.p (.bld [vz,(vi 0),(.str []),(vi 0)] [(1,1,(ci 50))]))⟩,⟨some s22,some (s18,false),(.e (.call 6 [t20,t21]) [])⟩,⟨some s23,some (s18,false),(.p (.un .not t22))⟩,oP s24 (.pick t18 (.c (.bool true)) t23),oM s25 t24,⟨some s26,some (s25,false),(.p (.mov t1))⟩,⟨some s27,some (s25,false),(.e (.call 5 [t26,(.c (vj 0))]) [])⟩,⟨some s28,some (s25,false),(.p (.bld [vz,(vi 0),(.str []),(vi 0)] [(1,1,(ci 4))]))⟩,⟨some s29,some (s25,false),(.e (.call 6 [t27,t28]) [])⟩,⟨some s30,some (s25,false),(.p (.un .not t29))⟩,oP s31 (.pick t25 (.c (.bool true)) t30),oM s32 t31,⟨some s33,some (s32,false),(.p (.mov t1))⟩,⟨some s34,some (s32,false),(.e (.call 5 [t33,(ci 100001)]) [])⟩,⟨some s35,some (s32,false),(.p (.bld [vz,(vi 0),(.str []),(vi 0)] [(1,1,(ci 4))]))⟩,⟨some s36,some (s32,false),(.e (.call 6 [t34,t35]) [])⟩,⟨some s37,some (s32,false),(.p (.un .not t36))⟩,oP s38 (.pick t32 (.c (.bool true)) t37),oM s39 t38,⟨some s40,some (s39,false),(.e (.call 9 [(.c .nilp),(ci 5)]) [])⟩,⟨some s41,some (s39,false),(.p (.bld [vz,(vi 0),(.str []),(vi 0)] [(1,1,(ci 1))]))⟩,⟨some s42,some (s39,false),(.e (.call 6 [t40,t41]) [])⟩,⟨some s43,some (s39,false),(.p (.un .not t42))⟩,oP s44 (.pick t39 (.c (.bool true)) t43)]) (.cond t44
 (.seq (.reg [oM s0 (.c (.bool false))]) .ret)
 .skip)) (.seq (.reg [oM s2 (.c (.str [102,117,110,99,32,102,40,110,32,105,110,116,41,32,105,110,116,32,123,32,105,102,32,110,32,60,32,49,32,123,32,114,101,116,117,114,110,32,48,59,32,125,32,114,101,116,117,114,110,32,102,40,110,32,45,32,49,41,32,43,32,49,59,32,125,32,109,97,105,110,32,105,110,116,32,123,32,114,101,116,117,114,110,32,102,40]))]) (.seq (.seq (.reg [oM s45 t2,oP s46 (.bin .add eS t45 (.c (.str [51,41,59,32,125]))),oC s47 5 [t46,(ci 99)],oP s48 (.bld [vz,(vi 0),(.str []),(vi 0)] [(2,1,(.c (.str [51]))),(3,1,(ci 13))]),oC s49 6 [t47,t48],oP s50 (.un .not t49),oM s51 t50,⟨some s52,some (s51,false),(.p (.mov t2))⟩,⟨some s53,some (s51,false),(.p (.bin .add eS t52 (.c (.str [54,48,48,41,59,32,125]))))⟩,⟨some s54,some (s51,false),(.e (.call 5 [t53,(ci 99999)]) [])⟩,⟨some s55,some (s51,false),(.p (.fld false 1 1 t54))⟩,⟨some s56,some (s51,false),(.p (.bin .neq eI t55 (ci 54)))⟩,oP s57 (.pick t51 (.c (.bool true)) t56)]) (.cond t57
 (.seq (.reg [oM s0 (.c (.bool false))]) .ret)
 .skip)) (.seq (.reg [oM s3 (.c (.str [116,121,112,101,32,73,32,61,32,105,110,116,101,114,102,97,99,101,32,123,109,40,41,32,105,110,116,59,125,59,32,116,121,112,101,32,65,32,61,32,123,120,32,105,110,116,59,125,59,32,109,101,116,104,111,100,32,65,46,109,40,41,32,105,110,116,32,123,32,114,101,116,117,114,110,32,115,101,108,102,46,120,59,32,125,32,109,97,105,110,32,105,110,116,32,123,32,108,101,116,32,105,32,73,32,61,32,65,123,120,58,32,55,125,59,32,114,101,116,117,114,110,32,105,46,109,40,41,59,32,125]))]) (.seq (.reg [oM s58 t3,oC s59 5 [t58,(ci 9)],oP s60 (.bld [vz,(vi 0),(.str []),(vi 0)] [(2,1,(.c (.str [55]))),(3,1,(ci 4))]),oC s61 6 [t59,t60],oM s62 t61,⟨some s63,some (s62,true),(.e (.call 5 [(.c (.str [116,121,112,101,32,65,32,61,32,123,120,32,105,110,116,59,125,59,32,109,97,105,110,32,105,110,116,32,123,32,108,101,116,32,97,32,61,32,110,105,108,32,42,65,59,32,114,101,116,117,114,110,32,97,46,120,59,32,125])),(ci 9)]) [])⟩,⟨some s64,some (s62,true),(.p (.bld [vz,(vi 0),(.str []),(vi 0)] [(1,1,(ci 51)),(3,1,(ci 2))]))⟩,⟨some s65,some (s62,true),(.e (.call 6 [t63,t64]) [])⟩,oP s66 (.pick t62 t65 (.c (.bool false))),oM s67 t66,⟨some s68,some (s67,true),(.e (.call 5 [(.c (.str [109,97,105,110,32,116,101,120,116,32,123,32,108,101,116,32,97,32,61,32,34,120,34,59,32,119,104,105,108,101,32,116,114,117,101,32,123,32,97,32,61,32,97,32,43,32,97,59,32,125,32,114,101,116,117,114,110,32,97,59,32,125])),(ci 99)]) [])⟩,⟨some s69,some (s67,true),(.p (.bld [vz,(vi 0),(.str []),(vi 0)] [(1,1,(ci 53)),(3,1,(ci 27))]))⟩,⟨some s70,some (s67,true),(.e (.call 6 [t68,t69]) [])⟩,oP s71 (.pick t67 t70 (.c (.bool false))),oM s72 t71,⟨some s73,some (s72,true),(.e (.call 5 [(.c (.str [109,97,105,110,32,105,110,116,32,123,32,119,104,105,108,101,32,116,114,117,101,32,123,32,125,32,114,101,116,117,114,110,32,49,59,32,125])),(ci 77)]) [])⟩,⟨some s74,some (s72,true),(.p (.bld [vz,(vi 0),(.str []),(vi 0)] [(1,1,(ci 50)),(3,1,(ci 77))]))⟩,⟨some s75,some (s72,true),(.e (.call 6 [t73,t74]) [])⟩,oP s76 (.pick t72 t75 (.c (.bool false))),oM s0 t76]) .ret))))))),0,[.t s0],none⟩
def f8:FI:=⟨(.seq (.reg [oM s2 (.c .nilp),oM s3 (.c .nili)]) (.seq (.reg [oM s8 t0,oC s9 11 [t8],oM s7 t9,oE s10 t7 0,oE s11 t7 1,oE s12 t7 2,oX s4 (.new 0 false false (.cells 51 [vz,vz,vz,(vi 0),(.str []),(.str []),vz,(vi 0),(.str []),vz,vz,vz,vz])) [],oS 13 t4 t10,oM s5 t11,oM s6 t12]) (.seq (.seq (.reg [oM s13 t6,oQ s14 .neq t13 (ci 0)]) (.cond t14
 (.seq (.reg [oM s2 (.c .nilp),oM s3 (.c .nili)]) .ret)
 .skip)) (.seq (.reg [oR s15 (.ld true 13 t4),oC s16 12 [t15],oE s17 t16 0,oE s18 t16 1,oM s2 t17,oM s3 t18]) .ret)))),1,[.t s2,.t s3],none⟩
def f9:FI:=⟨(.seq (.reg [oX s2 (.box 0 false 31 1 t0) [],oX s4 (.new 1 false false (.cells 26 [vz,(vi 0),(.str []),(vi 0)])) []]) (.seq (.seq (.reg [oG s7 t2,oM s8 t1,oC s9 13 [t7,t8],oM s5 t9]) (.seq (.reg [oM s10 t5,oQ s11 .neq t10 (ci 0)]) (.cond t11
 (.seq (.reg [oM s12 t5,oP s13 (.bld [vz,(vi 0),(.str []),(vi 0)] [(1,1,t12)]),oS 4 t4 t13]) .ret)
 .skip))) (.seq (.reg [oG s14 t2,oM s15 t1,oC s16 14 [t14,t15],oX s6 (.new 2 false false (.cells 56 [.nilp])) [],oS 1 t6 t16]) (.seq (.reg [oG s17 t6,oP s18 (.mkf 16 [] [t6,t2]),oC s19 15 [t17,t18],oS 4 t4 t19]) .ret)))),3,[.c true 4 s4],none⟩
def b10x0:AC:=(.seq (.seq (.reg [oM s11 t5,oM s12 t0,oP s13 (.len false t12),oQ s14 .lss t11 t13]) (.cond t14
 .skip
 (.exit 0))) (.seq (.blk 1 (.seq (.reg [oM s17 t0,oM s18 t5,oP s19 (.iad 1 t17 t18),oL s20 t19,oM s21 t1,oM s22 t5,oP s23 (.iad 1 t21 t22),oL s24 t23,oP s25 (.bin .neq eS t20 t24)]) (.cond t25
 (.seq (.reg [oM s4 (.c (.bool false))]) .ret)
 .skip))) (.reg [oM s15 t5,oQ s16 .add t15 (ci 1),oM s5 t16])))
def f10:FI:=⟨(.seq (.reg [oM s4 (.c (.bool false))]) (.seq (.seq (.reg [oM s6 t0,oP s7 (.len false t6),oM s8 t1,oP s9 (.len false t8),oQ s10 .neq t7 t9]) (.cond t10
 (.seq (.reg [oM s4 (.c (.bool false))]) .ret)
 .skip)) (.seq (.seq (.reg [oM s5 (ci 0)]) (.blk 0 (.loop b10x0))) (.seq (.reg [oM s4 (.c (.bool true))]) .ret)))),0,[.t s4],none⟩
def b11x0:AC:=(.seq (.seq (.reg [oM s10 t5,oC s11 19 [t10,(.c (.str [116,121,112,101]))],oM s12 t11,⟨some s13,some (s12,false),(.p (.mov t5))⟩,⟨some s14,some (s12,false),(.e (.call 19 [t13,(.c (.str [109,101,116,104,111,100]))]) [])⟩,oP s15 (.pick t12 (.c (.bool true)) t14),oM s16 t15,⟨some s17,some (s16,false),(.p (.mov t5))⟩,⟨some s18,some (s16,false),(.e (.call 19 [t17,(.c (.str [102,117,110,99]))]) [])⟩,oP s19 (.pick t16 (.c (.bool true)) t18)]) (.cond t19
 .skip
 (.exit 0))) (.blk 1 (.blk 2 (.seq (.reg [oM s28 t5,oC s29 19 [t28,(.c (.str [116,121,112,101]))],oM s27 t29]) (.cond t27
 (.reg [oF s30 0 t6,oL s31 t30,oM s32 t5,oX s33 (.call 20 [t32]) [(.l t30)],oP s34 (.bsl 1 7 (.agg [(vi 0),(.str []),(vi 0),(.str []),vz,vz,vz]) [(0,t33)]),oX s35 (.app 2 0 7 (.agg [(vi 0),(.str []),(vi 0),(.str []),vz,vz,vz]) 120 t31 t34) [],oF s36 0 t6,oS 1 t36 t35])
 (.seq (.reg [oM s38 t5,oC s39 19 [t38,(.c (.str [109,101,116,104,111,100]))],oM s37 t39]) (.cond t37
 (.reg [oF s40 1 t6,oL s41 t40,oM s42 t5,oX s43 (.call 21 [t42]) [(.l t40)],oP s44 (.bsl 1 10 (.agg [(vi 0),(.str []),(.str []),vz,(vi 0),(.str []),vz,vz,vz,vz]) [(0,t43)]),oX s45 (.app 2 0 10 (.agg [(vi 0),(.str []),(.str []),vz,(vi 0),(.str []),vz,vz,vz,vz]) 184 t41 t44) [],oF s46 1 t6,oS 1 t46 t45])
 (.reg [oF s20 2 t6,oL s21 t20,oM s22 t5,oX s23 (.call 21 [t22]) [(.l t20)],oP s24 (.bsl 1 10 (.agg [(vi 0),(.str []),(.str []),vz,(vi 0),(.str []),vz,vz,vz,vz]) [(0,t23)]),oX s25 (.app 2 0 10 (.agg [(vi 0),(.str []),(.str []),vz,(vi 0),(.str []),vz,vz,vz,vz]) 184 t21 t24) [],oF s26 2 t6,oS 1 t26 t25]))))))))
def f11:FI:=⟨(.seq (.reg [oX s2 (.new 0 false false (.cells 51 [vz,vz,vz,(vi 0),(.str []),(.str []),vz,(vi 0),(.str []),vz,vz,vz,vz])) [],oM s3 (ci 0),oM s4 (ci 0)]) (.seq (.reg [oM s7 t0,oC s8 18 [t7],oM s5 t8]) (.seq (.reg [oP s9 (.bld [vz,vz,vz,(vi 0),(.str []),(.str []),vz,(vi 0),(.str []),vz,vz,vz,vz] []),oX s6 (.new 1 false false (.cells 51 [vz,vz,vz,(vi 0),(.str []),(.str []),vz,(vi 0),(.str []),vz,vz,vz,vz])) [],oS 13 t6 t9]) (.seq (.blk 0 (.loop b11x0)) (.seq (.reg [oM s47 t5,oC s48 22 [t47],oF s49 3 t6,oS 10 t49 t48]) (.seq (.reg [oM s50 t5,oC s51 23 [t50]]) (.seq (.seq (.reg [oM s52 t5,oN s53 t52,oF s54 3 t53,oG s55 t54,oQ s56 .neq t55 (ci 0)]) (.cond t56
 (.seq (.reg [oP s57 (.bld [vz,vz,vz,(vi 0),(.str []),(.str []),vz,(vi 0),(.str []),vz,vz,vz,vz] []),oM s58 t5,oN s59 t58,oF s60 4 t59,oG s61 t60,oM s62 t5,oN s63 t62,oF s64 3 t63,oG s65 t64,oY (.st 13 t2 t57) [(.c t64),(.c t60)],oM s3 t61,oM s4 t65]) .ret)
 .skip)) (.seq (.reg [oR s66 (.ld true 13 t6),oS 13 t2 t66,oM s3 (ci 0),oM s4 (ci 0)]) .ret)))))))),2,[.c true 13 s2,.t s3,.t s4],none⟩
def f12:FI:=⟨(.seq (.reg [oX s1 (.box 0 false 51 13 t0) [],oX s2 (.new 1 false false (.cells 31 [.nilp])) [],oX s3 (.new 2 false false (.cells 33 [.nili])) []]) .skip),5,[.c false 1 s2,.c false 1 s3],(some ⟨s5,24,[t2,t3],(.seq (.reg [oP s6 (.bld [.nilp,.nilp,vz,(vi 0),(vi 0),(vi 0),vz,vz,.nilp] []),oX s7 (.box 3 true 78 9 t6) [],oR s8 (.ld true 13 t1),oP s9 (.bld [.nilp,vz,vz,vz,(vi 0),(.str []),(.str []),vz,(vi 0),(.str []),vz,vz,vz,vz,.nilp,vz,(vi 0),.nilm,(vi 0),(vi 0),(vi 0)] [(0,1,t7),(1,13,t8)]),oX s10 (.box 4 true 97 21 t9) [],oM s4 t10]) (.seq (.reg [oM s11 t4,oC s12 25 [t11]]) (.seq (.reg [oM s13 t4,oN s14 t13,oF s15 0 t14,oG s16 t15,oS 1 t2 t16,oS 1 t3 (.c .nili)]) .ret))),(.seq (.seq (.reg [oM s6 t2,oP s7 (.bin .eql .ifc t6 (.c .nili))]) (.cond t7
 .ret
 .skip)) (.seq (.reg [oM s9 t2,oP s10 (.tas 90 true .nilp t9),oM s8 t10,oE s11 t8 0,oE s12 t8 1,oM s3 t11,oM s4 t12]) (.seq (.seq (.reg [oM s13 t4,oP s14 (.un .not t13)]) (.cond t14
 (.reg [oM s15 t2,oY (.pan t15) []])
 .skip)) (.reg [oM s16 t3,oP s17 (.ifc 90 t16),oS 1 t0 (.c .nilp),oS 1 t1 t17])))),0,[s5,s2]⟩)⟩
def f13:FI:=⟨(.seq (.reg [oM s4 (ci 0)]) (.seq (.blk 0 (.seq (.reg [oM s6 t0,oP s7 (.bin .eql .ptr t6 (.c .nilp)),oM s5 t7]) (.cond t5
 (.seq (.reg [oM s4 (ci 1)]) .ret)
 (.seq (.reg [oM s9 t1,oQ s10 .lss t9 (ci 0),oM s11 t10,⟨some s12,some (s11,false),(.p (.mov t1))⟩,⟨some s13,some (s11,false),(.p (.bin .gtr eI t12 (ci 100000)))⟩,oP s14 (.pick t11 (.c (.bool true)) t13),oM s8 t14]) (.cond t8
 (.seq (.reg [oM s4 (ci 4)]) .ret)
 .skip))))) (.seq (.reg [oM s4 (ci 0)]) .ret))),0,[.t s4],none⟩
def f14:FI:=⟨(.seq (.reg [oM s4 (.c .nilp)]) (.seq (.reg [oM s5 t0,oM s6 t0,oC s7 27 [t6],oC s8 26 [t7],oM s9 t1,oX s10 (.new 0 true true (.map [])) [],oP s11 (.bld [.nilp,.nilp,(vi 0),(vi 0),(vi 0),vz,(vi 0),.nilm] [(0,1,t5),(1,1,t8),(2,1,t9),(7,1,t10)]),oX s12 (.box 1 true 103 8 t11) [],oM s4 t12]) .ret)),2,[.t s4],none⟩
def f15:FI:=⟨(.seq (.reg [oX s2 (.box 0 false 56 1 t0) [],oX s4 (.new 1 false false (.cells 26 [vz,(vi 0),(.str []),(vi 0)])) []]) .skip),2,[.c true 4 s4],(some ⟨s7,28,[t2,t4],(.seq (.reg [oG s9 t2,oN s10 t9,oF s11 1 t10,oG s12 t11,oM s13 t1,oX s14 (.callv t13 []) [(.c t11),(.c t2)],oC s15 29 [t12,t14],oM s8 t15,oE s16 t8 0,oE s17 t8 1,oM s5 t16,oM s6 t17]) (.seq (.reg [oG s18 t2,oN s19 t18,oF s20 5 t19,oL s21 t20,oM s22 t6,oM s23 t5,oG s24 t2,oN s25 t24,oF s26 3 t25,oG s27 t26,oP s28 (.bld [vz,(vi 0),(.str []),(vi 0)] [(0,1,t21),(1,1,t22),(2,1,t23),(3,1,t27)]),oS 4 t4 t28]) .ret)),(.seq (.seq (.reg [oM s6 t2,oP s7 (.bin .eql .ifc t6 (.c .nili))]) (.cond t7
 .ret
 .skip)) (.seq (.reg [oM s9 t2,oP s10 (.tas 105 true (.agg [(vi 0)]) t9),oM s8 t10,oE s11 t8 0,oE s12 t8 1,oX s3 (.new 0 false false (.cells 105 [(vi 0)])) [],oS 1 t3 t11,oM s4 t12]) (.seq (.seq (.reg [oM s13 t4,oP s14 (.un .not t13)]) (.cond t14
 (.reg [oM s15 t2,oY (.pan t15) []])
 .skip)) (.reg [oG s16 t0,oN s17 t16,oF s18 5 t17,oL s19 t18,oF s20 0 t3,oG s21 t20,oG s22 t0,oN s23 t22,oF s24 3 t23,oG s25 t24,oP s26 (.bld [vz,(vi 0),(.str []),(vi 0)] [(0,1,t19),(1,1,t21),(3,1,t25)]),oS 4 t1 t26])))),1,[s5,s2]⟩)⟩
def f16:FI:=⟨(.seq (.reg [oX s2 (.new 0 false false (.cells 61 [(vi 0),(vi 0),(vi 0),(.str []),vz])) []]) (.seq (.reg [oG s6 t0,oX s7 (.new 1 false true (.map [])) [],oP s8 (.bld [.nilp,(vi 0),(vi 0),(vi 0),(.str []),vz,.nilm] [(0,1,t6),(6,1,t7)]),oX s9 (.box 2 false 65 7 t8) [],oM s3 t9]) (.seq (.reg [oM s11 t3,oG s12 t1,oN s13 t12,oF s14 8 t13,oG s15 t14,oN s16 t15,oF s17 6 t16,oL s18 t17,oC s19 17 [t11,t18],oM s10 t19,oE s20 t10 0,oE s21 t10 1,oX s4 (.new 3 false false (.cells 61 [(vi 0),(vi 0),(vi 0),(.str []),vz])) [],oS 5 t4 t20,oM s5 t21]) (.seq (.reg [oR s22 (.ld true 5 t4),oS 5 t2 t22]) .ret)))),4,[.c true 5 s2],none⟩
def zbr:AC:=(.seq (.reg [oQ s13 .lss t12 t11]) (.seq (.cond t13
 .skip
 (.exit 0)) (.seq (.blk 1 (.seq (.reg [oP s14 (.iad 1 t10 t12),oG s15 t14,oM s7 t15]) (.seq (.reg [oM s17 t0,oM s18 t7,oC s19 30 [t17,t18],oM s16 t19,oE s20 t16 0,oE s21 t16 1,oX s8 (.new 1 false false (.cells 61 [(vi 0),(vi 0),(vi 0),(.str []),vz])) [],oS 5 t8 t20,oM s9 t21]) (.seq (.reg [oM s22 t9]) (.cond t22
 (.seq (.reg [oR s23 (.ld true 5 t8),oS 5 t4 t23,oM s5 (.c (.bool true))]) .ret)
 .skip))))) (.reg [oQ s24 .add t12 (ci 1),oM s12 t24]))))
def f17:FI:=⟨(.seq (.reg [oX s4 (.new 0 false false (.cells 61 [(vi 0),(vi 0),(vi 0),(.str []),vz])) [],oM s5 (.c (.bool false))]) (.seq (.seq (.reg [oM s10 t1,oP s11 (.len false t10),oM s12 (ci 0)]) (.blk 0 (.loop zbr))) (.seq (.reg [oP s25 (.bld [(vi 0),(vi 0),(vi 0),(.str []),vz] []),oS 5 t4 t25,oM s5 (.c (.bool false))]) .ret))),2,[.c true 5 s4,.t s5],none⟩
def f18:FI:=⟨(.seq (.reg [oM s2 (.c .nilp)]) (.seq (.reg [oM s8 t0,oC s9 31 [t8],oM s7 t9,oE s10 t7 0,oE s11 t7 1,oE s12 t7 2,oM s3 t10,oM s4 t11,oM s5 t12]) (.seq (.reg [oM s13 t3,oM s14 t0,oP s15 (.len true t14),oM s16 t5,oM s17 t4,oP s18 (.bld [vz,(vi 0),(vi 0),(vi 0),(vi 0)] [(0,1,t13),(1,1,t15),(3,1,t16),(4,1,t17)]),oX s19 (.box 0 true 89 5 t18) [],oM s6 t19]) (.seq (.reg [oM s20 t6,oM s2 t20]) .ret)))),1,[.t s2],none⟩
def f19:FI:=⟨(.seq (.reg [oM s4 (.c (.bool false))]) (.seq (.seq (.reg [oM s6 t0,oN s7 t6,oF s8 3 t7,oG s9 t8,oQ s10 .neq t9 (ci 0),oM s11 t10,⟨some s12,some (s11,false),(.p (.mov t0))⟩,⟨some s13,some (s11,false),(.p (.nilc t12))⟩,⟨some s14,some (s11,false),(.p (.fad 2 t13))⟩,⟨some s15,some (s11,false),(.r (.ldc t14))⟩,⟨some s16,some (s11,false),(.p (.mov t0))⟩,⟨some s17,some (s11,false),(.p (.nilc t16))⟩,⟨some s18,some (s11,false),(.p (.fad 0 t17))⟩,⟨some s19,some (s11,false),(.r (.ld false 1 t18))⟩,⟨some s20,some (s11,false),(.p (.len false t19))⟩,⟨some s21,some (s11,false),(.p (.bin .geq eI t15 t20))⟩,oP s22 (.pick t11 (.c (.bool true)) t21)]) (.cond t22
 (.seq (.reg [oM s4 (.c (.bool false))]) .ret)
 .skip)) (.seq (.reg [oM s23 t0,oN s24 t23,oF s25 0 t24,oL s26 t25,oM s27 t0,oN s28 t27,oF s29 2 t28,oG s30 t29,oP s31 (.iad 4 t26 t30),oR s32 (.ld true 4 t31),oX s5 (.new 0 false false (.cells 114 [(vi 0),(vi 0),(.str []),(vi 0)])) [(.l t31),(.c t29),(.l t25)],oS 4 t5 t32]) (.seq (.reg [oF s33 1 t5,oG s34 t33,oQ s35 .eql t34 (ci 3),oM s36 t35,⟨some s37,some (s36,false),(.p (.fad 1 t5))⟩,⟨some s38,some (s36,false),(.r (.ldc t37))⟩,⟨some s39,some (s36,false),(.p (.bin .eql eI t38 (ci 6)))⟩,oP s40 (.pick t36 (.c (.bool true)) t39),oM s41 t40,⟨some s42,some (s41,true),(.p (.fad 2 t5))⟩,⟨some s43,some (s41,true),(.r (.ld false 1 t42))⟩,⟨some s44,some (s41,true),(.p (.mov t1))⟩,⟨some s45,some (s41,true),(.p (.bin .eql eS t43 t44))⟩,oP s46 (.pick t41 t45 (.c (.bool false))),oM s4 t46]) .ret)))),1,[.t s4],none⟩
def f20:FI:=⟨(.seq (.reg [oX s2 (.new 0 false false (.cells 84 [(vi 0),(.str []),(vi 0),(.str []),vz,vz,vz])) []]) (.seq (.reg [oP s4 (.bld [(vi 0),(.str []),(vi 0),(.str []),vz,vz,vz] []),oX s3 (.new 1 false false (.cells 84 [(vi 0),(.str []),(vi 0),(.str []),vz,vz,vz])) [],oS 7 t3 t4]) (.seq (.reg [oM s5 t0,oC s6 32 [t5],oF s7 0 t3,oF s8 0 t7,oS 1 t8 t6]) (.seq (.reg [oM s9 t0,oC s10 33 [t9,(.c (.str [116,121,112,101]))]]) (.seq (.reg [oM s11 t0,oC s12 34 [t11,(ci 2)],oF s13 1 t3,oS 1 t13 t12]) (.seq (.reg [oM s14 t0,oC s15 33 [t14,(.c (.str [61]))]]) (.seq (.reg [oM s16 t0,oC s17 35 [t16,(ci 1)],oF s18 2 t3,oS 5 t18 t17]) (.seq (.reg [oM s19 t0,oC s20 33 [t19,(.c (.str [59]))]]) (.seq (.reg [oR s21 (.ld true 7 t3),oS 7 t2 t21]) .ret))))))))),2,[.c true 7 s2],none⟩
def b21x0:AC:=(.seq (.seq (.reg [oM s49 t0,oN s50 t49,oF s51 3 t50,oG s52 t51,oQ s53 .eql t52 (ci 0),oM s54 t53,⟨some s55,some (s54,true),(.p (.mov t0))⟩,⟨some s56,some (s54,true),(.e (.call 19 [t55,(.c (.str [41]))]) [])⟩,⟨some s57,some (s54,true),(.p (.un .not t56))⟩,oP s58 (.pick t54 t57 (.c (.bool false)))]) (.cond t58
 .skip
 (.exit 1))) (.blk 2 (.seq (.seq (.reg [oM s59 t4,oP s60 (.len false t59),oQ s61 .gtr t60 (ci 0)]) (.cond t61
 (.reg [oM s62 t0,oC s63 33 [t62,(.c (.str [44]))]])
 .skip)) (.seq (.reg [oM s64 t0,oM s65 t4,oC s66 36 [t64,t65],oM s5 t66]) (.seq (.reg [oM s67 t4,oM s68 t5,oP s69 (.bsl 1 1 (.str []) [(0,t68)]),oX s70 (.app 2 0 1 (.str []) 16 t67 t69) [],oM s4 t70]) (.reg [oF s71 3 t3,oL s72 t71,oM s73 t5,oM s74 t0,oX s75 (.call 35 [t74,(ci 1)]) [(.l t71)],oP s76 (.bld [(.str []),(vi 0),(.str []),vz,vz,vz] [(0,1,t73),(1,5,t75)]),oP s77 (.bsl 1 6 (.agg [(.str []),(vi 0),(.str []),vz,vz,vz]) [(0,t76)]),oX s78 (.app 2 0 6 (.agg [(.str []),(vi 0),(.str []),vz,vz,vz]) 112 t72 t77) [],oF s79 3 t3,oS 1 t79 t78]))))))
def f21:FI:=⟨(.seq (.reg [oX s2 (.new 0 false false (.cells 49 [(vi 0),(.str []),(.str []),vz,(vi 0),(.str []),vz,vz,vz,vz])) []]) (.seq (.reg [oP s6 (.bld [(vi 0),(.str []),(.str []),vz,(vi 0),(.str []),vz,vz,vz,vz] []),oX s3 (.new 1 false false (.cells 49 [(vi 0),(.str []),(.str []),vz,(vi 0),(.str []),vz,vz,vz,vz])) [],oS 10 t3 t6]) (.seq (.reg [oM s7 t0,oC s8 32 [t7],oF s9 0 t3,oF s10 0 t9,oS 1 t10 t8]) (.seq (.blk 0 (.seq (.reg [oM s14 t0,oC s15 19 [t14,(.c (.str [109,101,116,104,111,100]))],oM s13 t15]) (.cond t13
 (.seq (.reg [oM s16 t0,oN s17 t16,oF s18 2 t17,oG s19 t18,oQ s20 .add t19 (ci 1),oN s21 t16,oF s22 2 t21,oS 1 t22 t20]) (.seq (.reg [oM s23 t0,oC s24 34 [t23,(ci 2)],oF s25 1 t3,oS 1 t25 t24]) (.seq (.reg [oM s26 t0,oC s27 33 [t26,(.c (.str [46]))]]) (.reg [oM s28 t0,oC s29 34 [t28,(ci 1)],oF s30 2 t3,oS 1 t30 t29]))))
 (.seq (.reg [oM s32 t0,oC s33 19 [t32,(.c (.str [102,117,110,99]))],oM s31 t33]) (.cond t31
 (.seq (.reg [oM s34 t0,oN s35 t34,oF s36 2 t35,oG s37 t36,oQ s38 .add t37 (ci 1),oN s39 t34,oF s40 2 t39,oS 1 t40 t38]) (.reg [oM s41 t0,oC s42 34 [t41,(ci 1)],oF s43 2 t3,oS 1 t43 t42]))
 (.reg [oM s11 t0,oC s12 33 [t11,(.c (.str [109,97,105,110]))]])))))) (.seq (.seq (.reg [oF s44 2 t3,oL s45 t44,oP s46 (.bin .neq eS t45 (.c (.str [])))]) (.cond t46
 (.seq (.reg [oM s4 (.c vz)]) (.seq (.reg [oM s47 t0,oC s48 33 [t47,(.c (.str [40]))]]) (.seq (.blk 1 (.loop b21x0)) (.reg [oM s80 t0,oC s81 33 [t80,(.c (.str [41]))]]))))
 .skip)) (.seq (.reg [oM s82 t0,oC s83 35 [t82,(ci 1)],oF s84 4 t3,oS 5 t84 t83]) (.seq (.reg [oM s85 t0,oC s86 37 [t85,(ci 1)],oF s87 9 t3,oS 1 t87 t86]) (.seq (.reg [oR s88 (.ld true 10 t3),oS 10 t2 t88]) .ret)))))))),2,[.c true 10 s2],none⟩
def f22:FI:=⟨(.seq (.reg [oX s2 (.new 0 false false (.cells 49 [(vi 0),(.str []),(.str []),vz,(vi 0),(.str []),vz,vz,vz,vz])) []]) (.seq (.seq (.reg [oM s3 t0,oC s4 19 [t3,(.c (.str [109,97,105,110]))],oP s5 (.un .not t4)]) (.cond t5
 (.seq (.reg [oM s6 t0,oC s7 38 [t6,(ci 13)]]) (.seq (.reg [oP s8 (.bld [(vi 0),(.str []),(.str []),vz,(vi 0),(.str []),vz,vz,vz,vz] []),oS 10 t2 t8]) .ret))
 .skip)) (.seq (.reg [oM s9 t0,oC s10 21 [t9],oS 10 t2 t10]) .ret))),1,[.c true 10 s2],none⟩
def f23:FI:=⟨(.seq (.reg [oM s2 t0,oN s3 t2,oF s4 2 t3,oG s5 t4,oM s6 t0,oN s7 t6,oF s8 0 t7,oL s9 t8,oP s10 (.len false t9),oQ s11 .lss t5 t10]) (.cond t11
 (.reg [oM s12 t0,oC s13 38 [t12,(ci 13)]])
 .skip)),0,[],none⟩
def b25x0:AC:=(.seq (.reg [oQ s192 .lss t191 t190]) (.seq (.cond t192
 .skip
 (.exit 6)) (.seq (.blk 7 (.seq (.reg [oM s193 t191,oP s194 (.iad 10 t189 t191),oR s195 (.ld true 10 t194),oX s19 (.new 4 false false (.cells 49 [(vi 0),(.str []),(.str []),vz,(vi 0),(.str []),vz,vz,vz,vz])) [],oM s18 t193,oS 10 t19 t195]) (.seq (.reg [oM s196 t0,oR s197 (.ld true 10 t19),oM s198 t4,oM s199 t7,oM s200 t18,oP s201 (.iad 1 t199 t200),oG s202 t201,oX s203 (.call 49 [t198,t202]) [(.l t19)],oC s204 48 [t196,t197,t203],oM s20 t204]) (.seq (.reg [oM s205 t20,oM s206 t0,oM s207 t7,oM s208 t18,oP s209 (.iad 1 t207 t208),oG s210 t209,oC s211 46 [t206,t210],oN s212 t205,oF s213 4 t212,oS 1 t213 t211]) (.reg [oM s214 t0,oN s215 t214,oF s216 0 t215,oG s217 t216,oM s218 t0,oN s219 t218,oF s220 0 t219,oG s221 t220,oN s222 t221,oF s223 7 t222,oG s224 t223,oM s225 t20,oP s226 (.bsl 1 1 .nilp [(0,t225)]),oX s227 (.app 5 0 1 .nilp 8 t224 t226) [(.c t216)],oN s228 t217,oF s229 7 t228,oS 1 t229 t227]))))) (.reg [oQ s230 .add t191 (ci 1),oM s191 t230]))))
def b25x1:AC:=(.seq (.reg [oQ s151 .lss t150 t149]) (.seq (.cond t151
 .skip
 (.exit 4)) (.seq (.blk 5 (.seq (.reg [oP s152 (.iad 10 t148 t150),oR s153 (.ld true 10 t152),oX s15 (.new 3 false false (.cells 49 [(vi 0),(.str []),(.str []),vz,(vi 0),(.str []),vz,vz,vz,vz])) [],oS 10 t15 t153]) (.seq (.reg [oM s155 t4,oF s156 1 t15,oL s157 t156,oF s158 2 t15,oL s159 t158,oC s160 47 [t155,t157,t159],oM s154 t160,oE s161 t154 0,oE s162 t154 1,oM s16 t161,oM s17 t162]) (.reg [oM s163 t0,oN s164 t163,oF s165 0 t164,oG s166 t165,oM s167 t0,oN s168 t167,oF s169 0 t168,oG s170 t169,oN s171 t170,oF s172 6 t171,oG s173 t172,oM s174 t0,oR s175 (.ld true 10 t15),oM s176 t4,oM s177 t16,oX s178 (.call 49 [t176,t177]) [(.l t15),(.c t172),(.c t169),(.c t165)],oX s179 (.call 48 [t174,t175,t178]) [(.c t172),(.c t169),(.c t165)],oP s180 (.bsl 1 1 .nilp [(0,t179)]),oX s181 (.app 4 0 1 .nilp 8 t173 t180) [(.c t165)],oN s182 t166,oF s183 6 t182,oS 1 t183 t181])))) (.reg [oQ s184 .add t150 (ci 1),oM s150 t184]))))
def b25x2:AC:=(.seq (.reg [oQ s127 .lss t126 t125]) (.seq (.cond t127
 .skip
 (.exit 2)) (.seq (.blk 3 (.seq (.reg [oM s128 t126,oP s129 (.iad 10 t124 t126),oR s130 (.ld true 10 t129),oX s13 (.new 2 false false (.cells 49 [(vi 0),(.str []),(.str []),vz,(vi 0),(.str []),vz,vz,vz,vz])) [],oM s12 t128,oS 10 t13 t130]) (.reg [oM s131 t0,oN s132 t131,oF s133 17 t132,oG s134 t133,oF s135 2 t13,oL s136 t135,oM s137 t0,oM s138 t7,oM s139 t12,oP s140 (.iad 1 t138 t139),oG s141 t140,oX s142 (.call 46 [t137,t141]) [(.l t135),(.c t133)],oY (.mup false [.s] t134 t136 t142) []]))) (.reg [oQ s143 .add t126 (ci 1),oM s126 t143]))))
def b25x3:AC:=(.seq (.reg [oQ s104 .lss t103 (ci 3)]) (.seq (.cond t104
 .skip
 (.exit 0)) (.seq (.blk 1 (.seq (.reg [oM s105 t103,oP s106 (.ixa 3 1 false t102 t103),oM s10 t105,oM s11 t106]) (.reg [oM s107 t0,oM s108 t10,oM s109 t0,oM s110 t11,oN s112 t107,oF s113 18 t112,oC s111 46 [t109,t110],oP s114 (.iaa 3 1 t113 t108),oS 1 t114 t111]))) (.reg [oQ s115 .add t103 (ci 1),oM s103 t115]))))
def f25:FI:=⟨(.seq (.seq (.reg [oM s22 t0,oN s23 t22,oF s24 1 t23,oR s25 (.ld true 13 t24),oC s26 39 [t25],oM s21 t26,oE s27 t21 0,oE s28 t21 1,oM s2 t27,oM s3 t28]) (.seq (.reg [oM s29 t3,oQ s30 .eql t29 (ci 1)]) (.cond t30
 (.reg [oP s31 (.bld [(vi 0)] []),oC s32 40 [t31,(ci 1),(.c (.str []))]])
 .skip))) (.seq (.reg [oM s34 t0,oN s35 t34,oF s36 1 t35,oF s37 0 t36,oL s38 t37,oM s39 t0,oN s40 t39,oF s41 1 t40,oF s42 1 t41,oL s43 t42,oC s44 41 [t38,t43],oM s33 t44,oE s45 t33 0,oE s46 t33 1,oM s4 t45,oM s5 t46]) (.seq (.seq (.reg [oM s47 t5,oP s48 (.bin .neq .ifc t47 (.c .nili))]) (.cond t48
 (.seq (.reg [oM s49 t5,oP s50 (.tas 128 false .undef t49),oM s6 t50]) (.reg [oM s51 t6,oN s52 t51,oF s53 0 t52,oR s54 (.ld true 1 t53),oM s55 t6,oN s56 t55,oF s57 1 t56,oG s58 t57,oM s59 t6,oN s60 t59,oF s61 2 t60,oL s62 t61,oC s63 40 [t54,t58,t62]]))
 .skip)) (.seq (.reg [oM s64 t0,oM s65 t4,oN s66 t64,oF s67 14 t66,oS 1 t67 t65]) (.seq (.reg [oM s68 t0,oN s69 t68,oF s70 1 t69,oF s71 2 t70,oL s72 t71,oC s73 42 [t72]]) (.seq (.reg [oM s75 t0,oC s76 43 [t75],oM s74 t76,oE s77 t74 0,oE s78 t74 1,oE s79 t74 2,oX s9 (.new 0 false false (.cells 95 [(vi 0),(vi 0),(vi 0)])) [],oM s7 t77,oM s8 t78,oS 3 t9 t79]) (.seq (.reg [oM s80 t0,oN s81 t80,oF s82 0 t81,oG s83 t82,oM s84 t4,oX s85 (.call 44 [t84]) [(.c t82)],oN s86 t83,oF s87 0 t86,oS 1 t87 t85]) (.seq (.reg [oM s88 t0,oN s89 t88,oF s90 0 t89,oG s91 t90,oM s92 t0,oN s93 t92,oF s94 0 t93,oG s95 t94,oN s96 t95,oF s97 0 t96,oG s98 t97,oX s99 (.call 45 [t98]) [(.c t90)],oN s100 t91,oF s101 1 t100,oS 1 t101 t99]) (.seq (.seq (.reg [oR s102 (.ld true 3 t9),oM s103 (ci 0)]) (.blk 0 (.loop b25x3))) (.seq (.reg [oM s116 t0,oX s117 (.new 1 true true (.map [])) [],oN s118 t116,oF s119 17 t118,oS 1 t119 t117]) (.seq (.seq (.reg [oM s120 t0,oN s121 t120,oF s122 1 t121,oF s123 2 t122,oL s124 t123,oP s125 (.len false t124),oM s126 (ci 0)]) (.blk 2 (.loop b25x2))) (.seq (.seq (.reg [oM s144 t0,oN s145 t144,oF s146 1 t145,oF s147 1 t146,oL s148 t147,oP s149 (.len false t148),oM s150 (ci 0)]) (.blk 4 (.loop b25x1))) (.seq (.seq (.reg [oM s185 t0,oN s186 t185,oF s187 1 t186,oF s188 2 t187,oL s189 t188,oP s190 (.len false t189),oM s191 (ci 0)]) (.blk 6 (.loop b25x0))) (.reg [oM s231 t0,oN s232 t231,oF s233 0 t232,oG s234 t233,oM s235 t0,oM s236 t0,oN s237 t236,oF s238 1 t237,oF s239 3 t238,oR s240 (.ld true 10 t239),oM s241 t8,oP s242 (.bsl 1 1 (vi 0) [(0,t241)]),oX s243 (.call 48 [t235,t240,t242]) [(.c t233)],oN s244 t234,oF s245 8 t244,oS 1 t245 t243])))))))))))))),5,[],none⟩
def b26x0:AC:=(.seq (.reg [oQ s16 .lss t15 t14]) (.seq (.cond t16
 .skip
 (.exit 0)) (.seq (.blk 1 (.seq (.reg [oM s17 t15,oM s5 t17]) (.seq (.reg [oM s19 t0,oM s20 t5,oC s21 52 [t19,t20],oM s18 t21,oE s22 t18 0,oE s23 t18 1,oM s6 t22,oM s7 t23]) (.seq (.reg [oM s24 t3,oM s25 t3,oN s26 t25,oF s27 1 t26,oL s28 t27,oM s29 t4,oM s30 t6,oX s31 (.call 53 [t29,t30]) [(.l t27)],oP s32 (.bsl 1 1 (vi 0) [(0,t31)]),oX s33 (.app 1 0 1 (vi 0) 8 t28 t32) [],oN s34 t24,oF s35 1 t34,oS 1 t35 t33]) (.reg [oM s36 t3,oM s37 t3,oN s38 t37,oF s39 2 t38,oL s40 t39,oM s41 t4,oM s42 t6,oX s43 (.call 54 [t41,t42]) [(.l t39)],oP s44 (.bsl 1 1 vz [(0,t43)]),oX s45 (.app 1 0 1 vz 24 t40 t44) [],oN s46 t36,oF s47 2 t46,oS 1 t47 t45]))))) (.reg [oQ s48 .add t15 (ci 1),oM s15 t48]))))
def f26:FI:=⟨(.seq (.reg [oM s2 (.c .nilp)]) (.seq (.reg [oM s8 t0,oP s9 (.bld [.nilp,vz,vz] [(0,1,t8)]),oX s10 (.box 0 true 143 3 t9) [],oM s3 t10]) (.seq (.reg [oM s11 t0,oC s12 50 [t11],oM s4 t12]) (.seq (.seq (.reg [oM s13 t0,oC s14 51 [t13],oM s15 (ci 0)]) (.blk 0 (.loop b26x0))) (.seq (.reg [oM s49 t3,oM s2 t49]) .ret))))),1,[.t s2],none⟩
def f27:FI:=⟨(.seq (.reg [oM s2 (.c .nilp)]) (.seq (.reg [oM s3 t0,oN s4 t3,oF s5 0 t4,oG s6 t5,oM s2 t6]) .ret)),0,[.t s2],none⟩
def f29:FI:=⟨(.seq (.reg [oX s3 (.box 0 false 61 5 t1) [],oM s4 (.c (.str [])),oM s5 (ci 0)]) (.seq (.reg [oX s6 (.new 1 false false (.cells 150 [.nilp,vz])) []]) (.seq (.seq (.reg [oM s7 t0,oR s8 (.ld true 5 t3),oC s9 55 [t7,t8,t6],oP s10 (.un .not t9)]) (.cond t10
 (.seq (.reg [oM s4 (.c (.str [])),oM s5 (ci 53)]) .ret)
 .skip)) (.seq (.reg [oC s11 56 [t6],oM s4 t11,oM s5 (ci 0)]) .ret)))),2,[.t s4,.t s5],none⟩
def b30x0:AC:=(.seq (.seq (.reg [oF s70 2 t6,oG s71 t70,oQ s72 .eql t71 (ci 1)]) (.cond t72
 .skip
 (.exit 1))) (.blk 2 (.seq (.seq (.reg [oM s74 t0,oM s75 t1,oN s76 t75,oF s77 3 t76,oL s78 t77,oC s79 17 [t74,t78],oM s73 t79,oE s80 t73 0,oE s81 t73 1,oX s7 (.new 2 false false (.cells 61 [(vi 0),(vi 0),(vi 0),(.str []),vz])) [],oS 5 t7 t80,oM s8 t81]) (.seq (.reg [oM s82 t8]) (.cond t82
 (.seq (.reg [oR s83 (.ld true 5 t7),oS 5 t4 t83,oM s5 (.c (.bool true))]) .ret)
 .skip))) (.seq (.reg [oM s84 t0,oN s85 t84,oF s86 0 t85,oG s87 t86,oC s88 57 [t87]]) (.reg [oM s89 t0,oM s90 t1,oN s91 t90,oF s92 2 t91,oG s93 t92,oC s94 58 [t89,t93],oS 5 t6 t94])))))
def f30:FI:=⟨(.seq (.reg [oX s4 (.new 0 false false (.cells 61 [(vi 0),(vi 0),(vi 0),(.str []),vz])) [],oM s5 (.c (.bool false))]) (.seq (.reg [oM s9 t0,oN s10 t9,oF s11 0 t10,oG s12 t11,oC s13 57 [t12]]) (.seq (.reg [oM s14 t0,oM s15 t1,oN s16 t15,oF s17 2 t16,oG s18 t17,oC s19 58 [t14,t18],oX s6 (.new 1 false false (.cells 61 [(vi 0),(vi 0),(vi 0),(.str []),vz])) [],oS 5 t6 t19]) (.seq (.seq (.reg [oM s20 t1,oN s21 t20,oF s22 0 t21,oG s23 t22]) (.blk 0 (.seq (.seq (.reg [oQ s25 .eql t23 (ci 1),oM s24 t25]) (.cond t24
 .skip
 (.reg [oQ s26 .eql t23 (ci 2),oM s24 t26]))) (.cond t24
 (.reg [oM s27 t0,oN s28 t27,oF s29 6 t28,oG s30 t29,oM s31 t1,oN s32 t31,oF s33 1 t32,oL s34 t33,oR s35 (.ld true 5 t6),oY (.mup false [.s] t30 t34 t35) []])
 (.seq (.reg [oQ s37 .eql t23 (ci 3),oM s36 t37]) (.cond t36
 (.reg [oM s38 t0,oN s39 t38,oF s40 0 t39,oG s41 t40,oR s42 (.ld true 5 t6),oC s43 59 [t41,t42]])
 (.seq (.reg [oQ s45 .eql t23 (ci 6),oM s44 t45]) (.cond t44
 (.seq (.reg [oR s46 (.ld true 5 t6),oS 5 t4 t46,oM s5 (.c (.bool true))]) .ret)
 (.seq (.reg [oQ s48 .eql t23 (ci 4),oM s47 t48]) (.cond t47
 (.seq (.seq (.reg [oF s49 2 t6,oG s50 t49,oQ s51 .eql t50 (ci 1)]) (.cond t51
 (.seq (.reg [oM s52 t0,oM s53 t1,oN s54 t53,oF s55 3 t54,oL s56 t55,oC s57 17 [t52,t56],oE s58 t57 0,oE s59 t57 1,oS 5 t4 t58,oM s5 t59]) .ret)
 .skip)) (.seq (.reg [oM s60 t0,oM s61 t1,oN s62 t61,oF s63 4 t62,oL s64 t63,oC s65 17 [t60,t64],oE s66 t65 0,oE s67 t65 1,oS 5 t4 t66,oM s5 t67]) .ret))
 (.seq (.reg [oQ s69 .eql t23 (ci 5),oM s68 t69]) (.cond t68
 (.blk 1 (.loop b30x0))
 .skip)))))))))))) (.seq (.reg [oP s95 (.bld [(vi 0),(vi 0),(vi 0),(.str []),vz] []),oS 5 t4 t95,oM s5 (.c (.bool false))]) .ret))))),3,[.c true 5 s4,.t s5],none⟩
def b31x0:AC:=(.seq (.seq (.reg [oM s13 t6,oM s14 t0,oP s15 (.len true t14),oQ s16 .lss t13 t15]) (.cond t16
 .skip
 (.exit 0))) (.blk 1 (.seq (.seq (.reg [oM s17 t5,oP s18 (.len false t17),oQ s19 .eql t18 (ci 4096),oM s20 t19,⟨some s21,some (s20,true),(.p (.mov t0))⟩,⟨some s22,some (s20,true),(.p (.mov t6))⟩,⟨some s23,some (s20,true),(.p (.ixs t21 t22))⟩,⟨some s24,some (s20,true),(.e (.call 61 [t23]) [])⟩,oP s25 (.pick t20 t24 (.c (.bool false)))]) (.cond t25
 (.seq (.reg [oM s26 t5,oM s27 t6,oM s2 t26,oM s3 t27,oM s4 (ci 3)]) .ret)
 .skip)) (.seq (.reg [oM s28 t0,oM s29 t6,oC s30 62 [t28,t29],oX s7 (.new 0 false false (.cells 161 [(vi 0),(vi 0),(.str []),(vi 0),(vi 0),(vi 0),(vi 0)])) [],oS 7 t7 t30]) (.seq (.seq (.reg [oF s31 5 t7,oG s32 t31,oQ s33 .neq t32 (ci 0)]) (.cond t33
 (.seq (.reg [oM s34 t5,oF s35 6 t7,oG s36 t35,oF s37 5 t7,oG s38 t37,oM s2 t34,oM s3 t36,oM s4 t38]) .ret)
 .skip)) (.seq (.reg [oM s39 t5,oF s40 0 t7,oR s41 (.ld true 4 t40),oP s42 (.bsl 1 4 (.agg [(vi 0),(vi 0),(.str []),(vi 0)]) [(0,t41)]),oX s43 (.app 1 0 4 (.agg [(vi 0),(vi 0),(.str []),(vi 0)]) 40 t39 t42) [],oM s5 t43]) (.reg [oM s44 t0,oF s45 4 t7,oG s46 t45,oC s47 60 [t44,t46],oM s6 t47])))))))
def f31:FI:=⟨(.seq (.reg [oM s2 (.c vz),oM s3 (ci 0),oM s4 (ci 0)]) (.seq (.seq (.reg [oM s8 t0,oP s9 (.len true t8),oQ s10 .gtr t9 (ci 65536)]) (.cond t10
 (.seq (.reg [oM s2 (.c vz),oM s3 (ci 0),oM s4 (ci 2)]) .ret)
 .skip)) (.seq (.reg [oM s5 (.c vz)]) (.seq (.reg [oM s11 t0,oC s12 60 [t11,(ci 0)],oM s6 t12]) (.seq (.blk 0 (.loop b31x0)) (.seq (.reg [oM s48 t5,oM s2 t48,oM s3 (ci 0),oM s4 (ci 0)]) .ret)))))),1,[.t s2,.t s3,.t s4],none⟩
def f32:FI:=⟨(.seq (.reg [oM s2 (ci 0)]) (.seq (.seq (.reg [oM s3 t0,oN s4 t3,oF s5 2 t4,oG s6 t5,oM s7 t0,oN s8 t7,oF s9 0 t8,oL s10 t9,oP s11 (.len false t10),oQ s12 .lss t6 t11]) (.cond t12
 (.seq (.reg [oM s13 t0,oN s14 t13,oF s15 0 t14,oL s16 t15,oM s17 t0,oN s18 t17,oF s19 2 t18,oG s20 t19,oP s21 (.iad 4 t16 t20),oF s22 0 t21,oF s23 0 t22,oG s24 t23,oM s2 t24]) .ret)
 .skip)) (.seq (.reg [oM s25 t0,oN s26 t25,oF s27 1 t26,oG s28 t27,oM s2 t28]) .ret))),0,[.t s2],none⟩
def f33:FI:=⟨(.seq (.seq (.reg [oM s4 t0,oM s5 t1,oC s6 19 [t4,t5],oP s7 (.un .not t6)]) (.cond t7
 (.seq (.reg [oM s8 t0,oC s9 38 [t8,(ci 13)]]) .ret)
 .skip)) (.reg [oM s10 t0,oN s11 t10,oF s12 2 t11,oG s13 t12,oQ s14 .add t13 (ci 1),oN s15 t10,oF s16 2 t15,oS 1 t16 t14])),0,[],none⟩
def f34:FI:=⟨(.seq (.reg [oM s4 (.c (.str []))]) (.seq (.seq (.reg [oM s5 t0,oM s6 t1,oC s7 63 [t5,t6],oP s8 (.un .not t7)]) (.cond t8
 (.seq (.reg [oM s9 t0,oC s10 38 [t9,(ci 13)]]) (.seq (.reg [oM s4 (.c (.str []))]) .ret))
 .skip)) (.seq (.reg [oM s11 t0,oN s12 t11,oF s13 2 t12,oG s14 t13,oQ s15 .add t14 (ci 1),oN s16 t11,oF s17 2 t16,oS 1 t17 t15]) (.seq (.reg [oM s18 t0,oN s19 t18,oF s20 0 t19,oL s21 t20,oM s22 t0,oN s23 t22,oF s24 2 t23,oG s25 t24,oQ s26 .sub t25 (ci 1),oP s27 (.iad 4 t21 t26),oF s28 2 t27,oL s29 t28,oM s4 t29]) .ret)))),0,[.t s4],none⟩
def b35x0:AC:=(.seq (.seq (.reg [oM s73 t0,oN s74 t73,oF s75 3 t74,oG s76 t75,oQ s77 .eql t76 (ci 0),oM s78 t77,⟨some s79,some (s78,true),(.p (.mov t0))⟩,⟨some s80,some (s78,true),(.e (.call 19 [t79,(.c (.str [125]))]) [])⟩,⟨some s81,some (s78,true),(.p (.un .not t80))⟩,oP s82 (.pick t78 t81 (.c (.bool false)))]) (.cond t82
 .skip
 (.exit 1))) (.blk 2 (.seq (.reg [oM s83 t0,oC s84 19 [t83,(.c (.str [101,109,98,101,100]))],oM s7 t84]) (.seq (.seq (.reg [oM s85 t7]) (.cond t85
 (.reg [oM s86 t0,oN s87 t86,oF s88 2 t87,oG s89 t88,oQ s90 .add t89 (ci 1),oN s91 t86,oF s92 2 t91,oS 1 t92 t90])
 .skip)) (.seq (.reg [oF s93 2 t6,oL s94 t93,oM s95 t0,oF s96 2 t6,oL s97 t96,oX s98 (.call 36 [t95,t97]) [(.l t93)],oP s99 (.bsl 1 1 (.str []) [(0,t98)]),oX s100 (.app 2 0 1 (.str []) 16 t94 t99) [],oF s101 2 t6,oS 1 t101 t100]) (.seq (.reg [oF s102 3 t6,oL s103 t102,oM s104 t7,oP s105 (.bsl 1 1 (.bool false) [(0,t104)]),oX s106 (.app 2 0 1 (.bool false) 1 t103 t105) [],oF s107 3 t6,oS 1 t107 t106]) (.seq (.reg [oF s108 4 t6,oL s109 t108,oM s110 t0,oM s111 t1,oQ s112 .add t111 (ci 1),oX s113 (.call 35 [t110,t112]) [(.l t108)],oP s114 (.bsl 1 5 (.agg [(vi 0),(.str []),vz,vz,vz]) [(0,t113)]),oX s115 (.app 2 0 5 (.agg [(vi 0),(.str []),vz,vz,vz]) 96 t109 t114) [],oF s116 4 t6,oS 1 t116 t115]) (.reg [oM s117 t0,oC s118 33 [t117,(.c (.str [59]))]]))))))))
def f35:FI:=⟨(.seq (.reg [oX s4 (.new 0 false false (.cells 46 [(vi 0),(.str []),vz,vz,vz])) []]) (.seq (.seq (.reg [oM s8 t0,oC s9 64 [t8],oP s10 (.un .not t9)]) (.cond t10
 (.seq (.reg [oM s11 t0,oC s12 38 [t11,(ci 13)]]) (.seq (.reg [oP s13 (.bld [(vi 0),(.str []),vz,vz,vz] []),oS 5 t4 t13]) .ret))
 .skip)) (.seq (.seq (.reg [oM s14 t1,oQ s15 .gtr t14 (ci 64)]) (.cond t15
 (.seq (.reg [oM s16 t0,oC s17 38 [t16,(ci 15)]]) (.seq (.reg [oP s18 (.bld [(vi 0),(.str []),vz,vz,vz] []),oS 5 t4 t18]) .ret))
 .skip)) (.seq (.seq (.reg [oM s19 t0,oC s20 63 [t19,(ci 2)]]) (.cond t20
 (.seq (.reg [oM s21 t0,oC s22 34 [t21,(ci 2)],oP s23 (.bld [(vi 0),(.str []),vz,vz,vz] [(0,1,(ci 4)),(1,1,t22)]),oS 5 t4 t23]) .ret)
 .skip)) (.seq (.reg [oM s24 t0,oN s25 t24,oF s26 0 t25,oL s27 t26,oM s28 t0,oN s29 t28,oF s30 2 t29,oG s31 t30,oP s32 (.iad 4 t27 t31),oF s33 2 t32,oL s34 t33,oM s5 t34]) (.seq (.reg [oM s35 t0,oN s36 t35,oF s37 2 t36,oG s38 t37,oQ s39 .add t38 (ci 1),oN s40 t35,oF s41 2 t40,oS 1 t41 t39]) (.seq (.seq (.reg [oM s42 t5]) (.blk 0 (.seq (.reg [oP s44 (.bin .eql eS t42 (.c (.str [105,110,116]))),oM s43 t44]) (.cond t43
 (.seq (.reg [oP s45 (.bld [(vi 0),(.str []),vz,vz,vz] [(0,1,(ci 1))]),oS 5 t4 t45]) .ret)
 (.seq (.reg [oP s47 (.bin .eql eS t42 (.c (.str [98,111,111,108]))),oM s46 t47]) (.cond t46
 (.seq (.reg [oP s48 (.bld [(vi 0),(.str []),vz,vz,vz] [(0,1,(ci 2))]),oS 5 t4 t48]) .ret)
 (.seq (.reg [oP s50 (.bin .eql eS t42 (.c (.str [116,101,120,116]))),oM s49 t50]) (.cond t49
 (.seq (.reg [oP s51 (.bld [(vi 0),(.str []),vz,vz,vz] [(0,1,(ci 3))]),oS 5 t4 t51]) .ret)
 (.seq (.reg [oP s53 (.bin .eql eS t42 (.c (.str [42]))),oM s52 t53]) (.cond t52
 (.seq (.reg [oM s54 t0,oM s55 t1,oQ s56 .add t55 (ci 1),oC s57 35 [t54,t56],oP s58 (.bsl 1 5 (.agg [(vi 0),(.str []),vz,vz,vz]) [(0,t57)]),oP s59 (.bld [(vi 0),(.str []),vz,vz,vz] [(0,1,(ci 5)),(4,1,t58)]),oS 5 t4 t59]) .ret)
 (.seq (.reg [oP s61 (.bin .eql eS t42 (.c (.str [102,110]))),oM s60 t61]) (.cond t60
 (.seq (.reg [oM s62 t0,oM s63 t1,oQ s64 .add t63 (ci 1),oC s65 65 [t62,t64],oP s66 (.bld [(vi 0),(.str []),vz,vz,vz] [(0,1,(ci 7)),(4,1,t65)]),oS 5 t4 t66]) .ret)
 (.seq (.reg [oP s68 (.bin .eql eS t42 (.c (.str [105,110,116,101,114,102,97,99,101]))),oM s67 t68]) (.cond t67
 (.seq (.reg [oM s69 t0,oM s70 t1,oC s71 66 [t69,t70],oS 5 t4 t71]) .ret)
 .skip)))))))))))))) (.seq (.reg [oP s72 (.bld [(vi 0),(.str []),vz,vz,vz] [(0,1,(ci 6))]),oX s6 (.new 1 false false (.cells 46 [(vi 0),(.str []),vz,vz,vz])) [],oS 5 t6 t72]) (.seq (.blk 1 (.loop b35x0)) (.seq (.reg [oM s119 t0,oC s120 33 [t119,(.c (.str [125]))]]) (.seq (.reg [oR s121 (.ld true 5 t6),oS 5 t4 t121]) .ret))))))))))),2,[.c true 5 s4],none⟩
def b36x0:AC:=(.seq (.seq (.reg [oM s8 t5,oM s9 t1,oP s10 (.len false t9),oQ s11 .lss t8 t10]) (.cond t11
 .skip
 (.exit 0))) (.seq (.blk 1 (.seq (.reg [oM s14 t1,oM s15 t5,oP s16 (.iad 1 t14 t15),oL s17 t16,oM s18 t0,oN s19 t18,oF s20 0 t19,oL s21 t20,oM s22 t0,oN s23 t22,oF s24 2 t23,oG s25 t24,oP s26 (.iad 4 t21 t25),oF s27 2 t26,oL s28 t27,oP s29 (.bin .eql eS t17 t28)]) (.cond t29
 (.seq (.reg [oM s30 t0,oC s31 38 [t30,(ci 20)]]) (.seq (.reg [oM s4 (.c (.str []))]) .ret))
 .skip))) (.reg [oM s12 t5,oQ s13 .add t12 (ci 1),oM s5 t13])))
def f36:FI:=⟨(.seq (.reg [oM s4 (.c (.str []))]) (.seq (.seq (.reg [oM s6 t0,oC s7 63 [t6,(ci 1)]]) (.cond t7
 (.seq (.reg [oM s5 (ci 0)]) (.blk 0 (.loop b36x0)))
 .skip)) (.seq (.reg [oM s32 t0,oC s33 34 [t32,(ci 1)],oM s4 t33]) .ret))),0,[.t s4],none⟩
def b37x0:AC:=(.seq (.seq (.reg [oM s8 t0,oN s9 t8,oF s10 3 t9,oG s11 t10,oQ s12 .eql t11 (ci 0),oM s13 t12,⟨some s14,some (s13,true),(.p (.mov t0))⟩,⟨some s15,some (s13,true),(.e (.call 19 [t14,(.c (.str [125]))]) [])⟩,⟨some s16,some (s13,true),(.p (.un .not t15))⟩,oP s17 (.pick t13 t16 (.c (.bool false)))]) (.cond t17
 .skip
 (.exit 0))) (.blk 1 (.reg [oM s18 t5,oM s19 t0,oM s20 t1,oC s21 67 [t19,t20],oP s22 (.bsl 1 7 (.agg [(vi 0),(vi 0),(.str []),vz,vz,vz,vz]) [(0,t21)]),oX s23 (.app 0 0 7 (.agg [(vi 0),(vi 0),(.str []),vz,vz,vz,vz]) 128 t18 t22) [],oM s5 t23])))
def f37:FI:=⟨(.seq (.reg [oM s4 (.c vz)]) (.seq (.reg [oM s6 t0,oC s7 33 [t6,(.c (.str [123]))]]) (.seq (.reg [oM s5 (.c vz)]) (.seq (.blk 0 (.loop b37x0)) (.seq (.reg [oM s24 t0,oC s25 33 [t24,(.c (.str [125]))]]) (.seq (.reg [oM s26 t5,oM s4 t26]) .ret)))))),0,[.t s4],none⟩
def b39x0:AC:=(.seq (.reg [oQ s52 .lss t51 t50]) (.seq (.cond t52
 .skip
 (.exit 2)) (.seq (.blk 3 (.seq (.reg [oP s53 (.iad 10 t49 t51),oR s54 (.ld true 10 t53),oX s8 (.new 3 false false (.cells 49 [(vi 0),(.str []),(.str []),vz,(vi 0),(.str []),vz,vz,vz,vz])) [],oS 10 t8 t54]) (.reg [oM s55 t4,oR s56 (.ld true 10 t8),oC s57 73 [t55,t56]]))) (.reg [oQ s58 .add t51 (ci 1),oM s51 t58]))))
def b39x1:AC:=(.seq (.reg [oQ s24 .lss t23 t22]) (.seq (.cond t24
 .skip
 (.exit 0)) (.seq (.blk 1 (.seq (.reg [oP s25 (.iad 7 t21 t23),oR s26 (.ld true 7 t25),oX s6 (.new 2 false false (.cells 84 [(vi 0),(.str []),(vi 0),(.str []),vz,vz,vz])) [],oS 7 t6 t26]) (.seq (.reg [oM s27 t4,oN s28 t27,oF s29 0 t28,oF s30 1 t6,oL s31 t30,oP s32 (.bsl 3 1 (.str []) [(0,(.c (.str [116,121,112,101]))),(1,t31),(2,(.c (.str [61])))]),oC s33 70 [t29,t32]]) (.seq (.reg [oM s34 t4,oF s35 2 t6,oR s36 (.ld true 5 t35),oC s37 71 [t34,t36]]) (.reg [oM s38 t4,oN s39 t38,oF s40 0 t39,oP s41 (.bsl 1 1 (.str []) [(0,(.c (.str [59])))]),oC s42 70 [t40,t41]]))))) (.reg [oQ s43 .add t23 (ci 1),oM s23 t43]))))
def f39:FI:=⟨(.seq (.reg [oX s1 (.box 0 false 51 13 t0) [],oM s2 (.c (.str [])),oM s3 (ci 0)]) (.seq (.reg [oP s9 (.bld [.nilp,vz,(vi 0)] []),oX s10 (.box 1 false 173 3 t9) [],oM s4 t10]) (.seq (.seq (.reg [oR s11 (.ld true 13 t1),oC s12 68 [t11],oP s13 (.un .not t12)]) (.cond t13
 (.seq (.reg [oM s14 t4,oN s15 t14,oF s16 0 t15,oC s17 69 [t16,(.c (.bool false))],oE s18 t17 0,oE s19 t17 1,oM s2 t18,oM s3 t19]) .ret)
 .skip)) (.seq (.seq (.reg [oF s20 0 t1,oL s21 t20,oP s22 (.len false t21),oM s23 (ci 0)]) (.blk 0 (.loop b39x1))) (.seq (.seq (.reg [oF s44 1 t1,oL s45 t44,oF s46 2 t1,oL s47 t46,oP s48 (.bsl 2 1 vz [(0,t45),(1,t47)]),oC s49 72 [t48],oP s50 (.len false t49),oM s51 (ci 0)]) (.blk 2 (.loop b39x0))) (.seq (.reg [oM s59 t4,oF s60 3 t1,oR s61 (.ld true 10 t60),oC s62 73 [t59,t61]]) (.seq (.reg [oM s63 t4,oN s64 t63,oF s65 0 t64,oC s66 69 [t65,(.c (.bool true))],oE s67 t66 0,oE s68 t66 1,oM s2 t67,oM s3 t68]) .ret))))))),4,[.t s2,.t s3],none⟩
def b41x0:AC:=(.seq (.reg [oQ s146 .lss t145 t144]) (.seq (.cond t146
 .skip
 (.exit 6)) (.seq (.blk 7 (.seq (.reg [oP s147 (.iad 10 t143 t145),oR s148 (.ld true 10 t147),oX s23 (.new 8 false false (.cells 49 [(vi 0),(.str []),(.str []),vz,(vi 0),(.str []),vz,vz,vz,vz])) [],oS 10 t23 t148]) (.reg [oM s149 t9,oN s150 t149,oF s151 0 t150,oL s152 t151,oM s153 t10,oF s154 1 t23,oL s155 t154,oR s156 (.lku false [.s] false (vi 0) t153 t155),oF s157 1 t23,oL s158 t157,oP s159 (.iad 5 t152 t156),oF s160 4 t159,oS 1 t160 t158]))) (.reg [oQ s161 .add t145 (ci 1),oM s145 t161]))))
def b41x1:AC:=(.seq (.reg [oQ s109 .lss t108 t107]) (.seq (.cond t109
 .skip
 (.exit 4)) (.seq (.blk 5 (.seq (.reg [oM s110 t108,oP s111 (.iad 7 t106 t108),oR s112 (.ld true 7 t111),oX s20 (.new 6 false false (.cells 203 [(vi 0),(.str []),(vi 0),(.str []),vz,vz,vz])) [],oM s19 t110,oS 7 t20 t112]) (.seq (.reg [oM s113 t9,oF s114 2 t20,oR s115 (.ld true 5 t114),oC s116 83 [t113,t115],oM s21 t116]) (.seq (.reg [oM s117 t19,oM s118 t0,oP s119 (.len false t118),oQ s120 .geq t117 t119]) (.cond t120
 (.reg [oM s121 t9,oM s122 t9,oN s123 t122,oF s124 2 t123,oL s125 t124,oM s126 t1,oM s127 t19,oM s128 t0,oP s129 (.len false t128),oQ s130 .sub t127 t129,oP s131 (.iad 10 t126 t130),oF s132 1 t131,oL s133 t132,oF s134 1 t20,oL s135 t134,oM s136 t21,oP s137 (.bld [(.str []),(.str []),(vi 0)] [(0,1,t133),(1,1,t135),(2,1,t136)]),oP s138 (.bsl 1 3 (.agg [(.str []),(.str []),(vi 0)]) [(0,t137)]),oX s139 (.app 7 2 3 (.agg [(.str []),(.str []),(vi 0)]) 40 t125 t138) [],oN s140 t121,oF s141 2 t140,oS 1 t141 t139])
 .skip))))) (.reg [oQ s142 .add t108 (ci 1),oM s108 t142]))))
def b41x2:AC:=(.seq (.reg [oQ s70 .lss t69 t68]) (.seq (.cond t70
 .skip
 (.exit 2)) (.seq (.blk 3 (.seq (.reg [oP s71 (.iad 7 t67 t69),oR s72 (.ld true 7 t71),oX s15 (.new 3 false false (.cells 84 [(vi 0),(.str []),(vi 0),(.str []),vz,vz,vz])) [],oS 7 t15 t72]) (.seq (.reg [oM s74 t6,oF s75 2 t15,oR s76 (.ld true 5 t75),oC s77 79 [t74,t76],oM s73 t77,oE s78 t73 0,oE s79 t73 1,oE s80 t73 2,oX s16 (.new 4 false false (.cells 46 [(vi 0),(.str []),vz,vz,vz])) [],oS 5 t16 t78,oM s17 t79,oM s18 t80]) (.seq (.seq (.reg [oM s81 t17,oP s82 (.bin .eql eS t81 (.c (.str [])))]) (.cond t82
 (.reg [oF s83 1 t15,oL s84 t83,oM s17 t84])
 .skip)) (.reg [oM s85 t9,oM s86 t9,oN s87 t86,oF s88 1 t87,oL s89 t88,oF s90 1 t15,oL s91 t90,oM s92 t10,oM s93 t17,oR s94 (.lku false [.s] false (vi 0) t92 t93),oP s95 (.bld [(.str []),(vi 0)] [(0,1,t91),(1,1,t94)]),oP s96 (.bsl 1 2 (.agg [(.str []),(vi 0)]) [(0,t95)]),oX s97 (.app 5 2 2 (.agg [(.str []),(vi 0)]) 24 t89 t96) [],oN s98 t85,oF s99 1 t98,oS 1 t99 t97]))))) (.reg [oQ s100 .add t69 (ci 1),oM s69 t100]))))
def b41x3:AC:=(.seq (.reg [oQ s53 .lss t52 t51]) (.seq (.cond t53
 .skip
 (.exit 0)) (.seq (.blk 1 (.seq (.reg [oP s54 (.iad 7 t50 t52),oR s55 (.ld true 7 t54),oX s13 (.new 2 false false (.cells 84 [(vi 0),(.str []),(vi 0),(.str []),vz,vz,vz])) [],oS 7 t13 t55]) (.seq (.reg [oM s56 t10,oF s57 1 t13,oL s58 t57,oM s59 t11,oY (.mup false [.s] t56 t58 t59) []]) (.reg [oM s60 t11,oF s61 2 t13,oR s62 (.ld true 5 t61),oP s63 (.bsl 1 5 (.agg [(vi 0),(.str []),vz,vz,vz]) [(0,t62)]),oC s64 78 [t63],oQ s65 .add t60 t64,oM s11 t65])))) (.reg [oQ s66 .add t52 (ci 1),oM s52 t66]))))
def f41:FI:=⟨(.seq (.reg [oM s4 (.c .nilp),oM s5 (.c .nili)]) (.seq (.reg [oM s25 t0,oC s26 74 [t25],oM s24 t26,oE s27 t24 0,oE s28 t24 1,oM s6 t27,oM s7 t28]) (.seq (.seq (.reg [oM s29 t7,oP s30 (.bin .eql .ptr t29 (.c .nilp))]) (.cond t30
 (.reg [oM s31 t6,oM s32 t1,oC s33 75 [t31,t32],oM s7 t33])
 .skip)) (.seq (.reg [oM s34 t0,oM s35 t1,oC s36 76 [t34,t35],oM s8 t36]) (.seq (.seq (.reg [oM s37 t7,oP s38 (.bin .eql .ptr t37 (.c .nilp))]) (.cond t38
 (.reg [oM s39 t6,oM s40 t0,oM s41 t8,oC s42 77 [t39,t40,t41],oM s7 t42])
 .skip)) (.seq (.seq (.reg [oM s43 t7,oP s44 (.bin .neq .ptr t43 (.c .nilp))]) (.cond t44
 (.seq (.reg [oM s45 t7,oP s46 (.ifc 128 t45),oM s4 (.c .nilp),oM s5 t46]) .ret)
 .skip)) (.seq (.reg [oP s47 (.bld [vz,vz,vz] []),oX s48 (.box 0 true 193 3 t47) [],oM s9 t48]) (.seq (.reg [oX s49 (.new 1 false true (.map [])) [],oM s10 t49]) (.seq (.reg [oM s11 (ci 0)]) (.seq (.seq (.reg [oM s50 t0,oP s51 (.len false t50),oM s52 (ci 0)]) (.blk 0 (.loop b41x3))) (.seq (.seq (.reg [oM s67 t0,oP s68 (.len false t67),oM s69 (ci 0)]) (.blk 2 (.loop b41x2))) (.seq (.reg [oM s101 t9,oN s102 t101,oF s103 1 t102,oL s104 t103,oC s105 80 [t104,(.c (.fn 81 [] []))]]) (.seq (.seq (.reg [oM s106 t8,oP s107 (.len false t106),oM s108 (ci 0)]) (.blk 4 (.loop b41x1))) (.seq (.seq (.reg [oM s143 t1,oP s144 (.len false t143),oM s145 (ci 0)]) (.blk 6 (.loop b41x0))) (.seq (.reg [oM s162 t9,oN s163 t162,oF s164 2 t163,oL s165 t164,oC s166 84 [t165,(.c (.fn 85 [] []))]]) (.seq (.reg [oM s167 t9,oM s4 t167,oM s5 (.c .nili)]) .ret)))))))))))))))),9,[.t s4,.t s5],none⟩
def b42x0:AC:=(.seq (.reg [oQ s9 .lss t8 t7]) (.seq (.cond t9
 .skip
 (.exit 0)) (.seq (.blk 1 (.seq (.reg [oP s10 (.iad 10 t6 t8),oR s11 (.ld true 10 t10),oX s4 (.new 1 false false (.cells 49 [(vi 0),(.str []),(.str []),vz,(vi 0),(.str []),vz,vz,vz,vz])) [],oS 10 t4 t11]) (.seq (.reg [oM s12 t2,oF s13 2 t4,oL s14 t13,oR s15 (.lku false [.s] false (vi 0) t12 t14),oQ s16 .add t15 (ci 1),oY (.mup false [.s] t12 t14 t16) []]) (.seq (.reg [oM s17 t2,oF s18 2 t4,oL s19 t18,oR s20 (.lku false [.s] false (vi 0) t17 t19),oQ s21 .gtr t20 (ci 1)]) (.cond t21
 (.reg [oF s22 0 t4,oR s23 (.ld true 1 t22),oF s24 2 t4,oL s25 t24,oC s26 40 [t23,(ci 20),t25]])
 .skip))))) (.reg [oQ s27 .add t8 (ci 1),oM s8 t27]))))
def f42:FI:=⟨(.seq (.reg [oX s5 (.new 0 false true (.map [])) [],oM s2 t5]) (.seq (.reg [oM s6 t0,oP s7 (.len false t6),oM s8 (ci 0)]) (.blk 0 (.loop b42x0)))),2,[],none⟩
def b43x0:AC:=(.seq (.reg [oQ s62 .lss t61 (ci 3)]) (.seq (.cond t62
 .skip
 (.exit 4)) (.seq (.blk 5 (.seq (.reg [oM s63 t61,oP s64 (.ixa 3 1 false t60 t61),oM s9 t63,oM s10 t64]) (.reg [oM s65 t9,oM s66 t0,oP s67 (.bld [(vi 0)] []),oM s68 t10,oP s69 (.bld [(vi 0),(.str []),vz,vz,vz] [(0,1,t68)]),oC s70 86 [t66,t67,t69],oP s71 (.iaa 3 1 t4 t65),oS 1 t71 t70]))) (.reg [oQ s72 .add t61 (ci 1),oM s61 t72]))))
def b43x1:AC:=(.seq (.reg [oQ s52 .lss t51 t50]) (.seq (.cond t52
 .skip
 (.exit 2)) (.seq (.blk 3 (.seq (.reg [oP s53 (.iad 10 t49 t51),oR s54 (.ld true 10 t53),oX s8 (.new 2 false false (.cells 49 [(vi 0),(.str []),(.str []),vz,(vi 0),(.str []),vz,vz,vz,vz])) [],oS 10 t8 t54]) (.reg [oM s55 t0,oF s56 9 t8,oL s57 t56,oC s58 89 [t55,t57]]))) (.reg [oQ s59 .add t51 (ci 1),oM s51 t59]))))
def b43x2:AC:=(.seq (.reg [oQ s18 .lss t17 t16]) (.seq (.cond t18
 .skip
 (.exit 0)) (.seq (.blk 1 (.seq (.reg [oP s19 (.iad 10 t15 t17),oR s20 (.ld true 10 t19),oX s6 (.new 1 false false (.cells 49 [(vi 0),(.str []),(.str []),vz,(vi 0),(.str []),vz,vz,vz,vz])) [],oS 10 t6 t20]) (.reg [oM s21 t2,oM s22 t0,oF s23 0 t6,oR s24 (.ld true 1 t23),oR s25 (.ld true 10 t6),oX s26 (.call 87 [t25]) [(.l t23)],oC s27 86 [t22,t24,t26],oP s28 (.bsl 1 1 (vi 0) [(0,t27)]),oX s29 (.app 2 0 1 (vi 0) 8 t21 t28) [],oM s2 t29]))) (.reg [oQ s30 .add t17 (ci 1),oM s17 t30]))))
def f43:FI:=⟨(.seq (.reg [oM s2 (.c vz),oM s3 (ci 0),oX s4 (.new 0 false false (.cells 95 [(vi 0),(vi 0),(vi 0)])) []]) (.seq (.seq (.reg [oM s11 t0,oN s12 t11,oF s13 1 t12,oF s14 2 t13,oL s15 t14,oP s16 (.len false t15),oM s17 (ci 0)]) (.blk 0 (.loop b43x2))) (.seq (.reg [oM s31 t0,oM s32 t0,oN s33 t32,oF s34 1 t33,oF s35 3 t34,oF s36 0 t35,oR s37 (.ld true 1 t36),oM s38 t0,oN s39 t38,oF s40 1 t39,oF s41 3 t40,oF s42 4 t41,oR s43 (.ld true 5 t42),oC s44 86 [t31,t37,t43],oM s3 t44]) (.seq (.seq (.reg [oM s45 t0,oN s46 t45,oF s47 1 t46,oR s48 (.ld true 13 t47),oC s49 88 [t48],oP s50 (.len false t49),oM s51 (ci 0)]) (.blk 2 (.loop b43x1))) (.seq (.seq (.reg [oP s60 (.bld [(vi 0),(vi 0),(vi 0)] [(0,1,(ci 1)),(1,1,(ci 2)),(2,1,(ci 3))]),oM s61 (ci 0)]) (.blk 4 (.loop b43x0))) (.seq (.reg [oM s73 t2,oM s74 t3,oR s75 (.ld true 3 t4),oM s2 t73,oM s3 t74,oS 3 t4 t75]) .ret)))))),3,[.t s2,.t s3,.c true 3 s4],none⟩
def b44x0:AC:=(.seq (.reg [oQ s116 .lss t115 t114]) (.seq (.cond t116
 .skip
 (.exit 8)) (.seq (.blk 9 (.seq (.reg [oM s117 t115,oM s15 t117]) (.seq (.reg [oM s118 t11,oN s119 t118,oF s120 2 t119,oL s121 t120,oM s122 t15,oP s123 (.iad 4 t121 t122),oM s16 t123]) (.seq (.reg [oM s124 t16,oM s125 t0,oM s126 t16,oN s127 t126,oF s128 0 t127,oF s129 0 t128,oG s130 t129,oC s131 97 [t125,t130],oN s132 t124,oF s133 0 t132,oF s134 1 t133,oS 1 t134 t131]) (.seq (.reg [oM s135 t16,oM s136 t11,oM s137 t0,oM s138 t16,oN s139 t138,oF s140 0 t139,oF s141 0 t140,oG s142 t141,oC s143 99 [t137,t142],oC s144 98 [t136,t143],oN s145 t135,oF s146 0 t145,oF s147 2 t146,oS 1 t147 t144]) (.reg [oM s148 t16,oM s149 t11,oM s150 t0,oM s151 t16,oN s152 t151,oF s153 0 t152,oF s154 0 t153,oG s155 t154,oC s156 100 [t150,t155],oC s157 98 [t149,t156],oN s158 t148,oF s159 3 t158,oS 1 t159 t157])))))) (.reg [oQ s160 .add t115 (ci 1),oM s115 t160]))))
def b44x1:AC:=(.seq (.seq (.reg [oM s91 t14,oQ s92 .geq t91 (ci 0)]) (.cond t92
 .skip
 (.exit 6))) (.seq (.blk 7 (.reg [oM s95 t11,oN s96 t95,oF s97 2 t96,oL s98 t97,oM s99 t11,oN s100 t99,oF s101 1 t100,oL s102 t101,oM s103 t14,oP s104 (.iad 1 t102 t103),oG s105 t104,oM s106 t14,oP s107 (.iad 4 t98 t105),oF s108 0 t107,oF s109 0 t108,oS 1 t109 t106])) (.reg [oM s93 t14,oQ s94 .sub t93 (ci 1),oM s14 t94])))
def b44x2:AC:=(.seq (.reg [oQ s69 .lss t68 t67]) (.seq (.cond t69
 .skip
 (.exit 4)) (.seq (.blk 5 (.seq (.reg [oP s70 (.iad 1 t66 t68),oG s71 t70,oM s13 t71]) (.reg [oM s72 t11,oM s73 t11,oN s74 t73,oF s75 1 t74,oL s76 t75,oM s77 t5,oN s78 t77,oF s79 2 t78,oG s80 t79,oM s81 t13,oR s82 (.lku false [.i] false (vi 0) t80 t81),oP s83 (.bsl 1 1 (vi 0) [(0,t82)]),oX s84 (.app 4 0 1 (vi 0) 8 t76 t83) [],oN s85 t72,oF s86 1 t85,oS 1 t86 t84]))) (.reg [oQ s87 .add t68 (ci 1),oM s68 t87]))))
def b44x3:AC:=(.seq (.reg [oQ s51 .lss t50 t49]) (.seq (.cond t51
 .skip
 (.exit 2)) (.seq (.blk 3 (.seq (.reg [oM s52 t50,oM s10 t52]) (.reg [oM s53 t5,oM s54 t10,oM s55 t4,oC s56 95 [t53,t54,t55]]))) (.reg [oQ s57 .add t50 (ci 1),oM s50 t57]))))
def b44x4:AC:=(.seq (.reg [oQ s34 .lss t33 t32]) (.seq (.cond t34
 .skip
 (.exit 0)) (.seq (.blk 1 (.seq (.reg [oP s35 (.iad 1 t31 t33),oL s36 t35,oM s7 t36]) (.seq (.reg [oM s38 t0,oM s39 t7,oC s40 94 [t38,t39],oM s37 t40,oE s41 t37 0,oE s42 t37 1,oM s8 t41,oM s9 t42]) (.reg [oM s43 t5,oM s44 t8,oM s45 t4,oC s46 95 [t43,t44,t45]])))) (.reg [oQ s47 .add t33 (ci 1),oM s33 t47]))))
def f44:FI:=⟨(.seq (.reg [oM s2 (.c .nilp)]) (.seq (.seq (.reg [oM s17 t0,oP s18 (.bin .eql .ptr t17 (.c .nilp))]) (.cond t18
 (.seq (.reg [oM s2 (.c .nilp)]) .ret)
 .skip)) (.seq (.reg [oM s19 t0,oC s20 90 [t19],oM s0 t20]) (.seq (.reg [oM s21 t0,oC s22 91 [t21],oM s3 t22]) (.seq (.reg [oM s23 t3,oC s24 92 [t23],oM s4 t24]) (.seq (.reg [oM s25 t0,oM s26 t3,oX s27 (.new 0 false true (.map [])) [],oP s28 (.bld [.nilp,vz,.nilm,(vi 0)] [(0,1,t25),(1,1,t26),(2,1,t27)]),oX s29 (.box 1 false 222 4 t28) [],oM s5 t29]) (.seq (.seq (.reg [oM s30 t0,oC s31 93 [t30],oP s32 (.len false t31),oM s33 (ci 0)]) (.blk 0 (.loop b44x4))) (.seq (.seq (.reg [oM s48 t0,oC s49 96 [t48],oM s50 (ci 0)]) (.blk 2 (.loop b44x3))) (.seq (.reg [oM s58 t0,oM s59 t5,oN s60 t59,oF s61 3 t60,oG s62 t61,oX s63 (.mks 2 true true true 4 (.agg [(vi 0),(.str []),vz,vz]) 72 t62 t62) [],oP s64 (.bld [.nilp,vz,vz] [(0,1,t58),(2,1,t63)]),oX s65 (.box 3 true 228 3 t64) [],oM s11 t65]) (.seq (.seq (.reg [oM s66 t3,oP s67 (.len false t66),oM s68 (ci 0)]) (.blk 4 (.loop b44x2))) (.seq (.seq (.reg [oM s88 t0,oC s89 96 [t88],oQ s90 .sub t89 (ci 1),oM s14 t90]) (.blk 6 (.loop b44x1))) (.seq (.seq (.reg [oM s110 t11,oN s111 t110,oF s112 2 t111,oL s113 t112,oP s114 (.len false t113),oM s115 (ci 0)]) (.blk 8 (.loop b44x0))) (.seq (.reg [oM s161 t11,oM s2 t161]) .ret))))))))))))),4,[.t s2],none⟩
def f45:FI:=⟨(.seq (.reg [oM s2 (.c .nilp)]) (.seq (.seq (.reg [oM s3 t0,oP s4 (.bin .eql .ptr t3 (.c .nilp))]) (.cond t4
 (.seq (.reg [oM s2 (.c .nilp)]) .ret)
 .skip)) (.seq (.reg [oM s5 t0,oM s6 t0,oC s7 50 [t6],oX s8 (.new 0 true true (.map [])) [],oX s9 (.new 1 true true (.map [])) [],oP s10 (.bld [.nilp,.nilp,.nilm,.nilm] [(0,1,t5),(1,1,t7),(2,1,t8),(3,1,t9)]),oX s11 (.box 2 true 239 4 t10) [],oM s2 t11]) .ret))),3,[.t s2],none⟩
def f46:FI:=⟨(.seq (.reg [oM s4 (ci 0)]) (.seq (.reg [oM s8 t0,oN s9 t8,oF s10 0 t9,oG s11 t10,oN s12 t11,oF s13 0 t12,oG s14 t13,oM s15 t1,oC s16 101 [t14,t15],oM s7 t16,oE s17 t7 0,oE s18 t7 1,oM s5 t17,oM s6 t18]) (.seq (.reg [oM s19 t5,oM s4 t19]) .ret))),0,[.t s4],none⟩
def b47x0:AC:=(.seq (.reg [oQ s16 .lss t15 t14]) (.seq (.cond t16
 .skip
 (.exit 0)) (.seq (.blk 1 (.seq (.reg [oP s17 (.iad 3 t13 t15),oR s18 (.ld true 3 t17),oX s9 (.new 0 false false (.cells 206 [(.str []),(.str []),(vi 0)])) [],oS 3 t9 t18]) (.seq (.reg [oF s19 0 t9,oL s20 t19,oM s21 t1,oP s22 (.bin .eql eS t20 t21),oM s23 t22,⟨some s24,some (s23,true),(.p (.fad 1 t9))⟩,⟨some s25,some (s23,true),(.r (.ld false 1 t24))⟩,⟨some s26,some (s23,true),(.p (.mov t2))⟩,⟨some s27,some (s23,true),(.p (.bin .eql eS t25 t26))⟩,oP s28 (.pick t23 t27 (.c (.bool false)))]) (.cond t28
 (.seq (.reg [oF s29 2 t9,oG s30 t29,oM s6 t30,oM s7 (.c (.bool true))]) .ret)
 .skip)))) (.reg [oQ s31 .add t15 (ci 1),oM s15 t31]))))
def f47:FI:=⟨(.seq (.reg [oM s6 (ci 0),oM s7 (.c (.bool false))]) (.seq (.seq (.reg [oM s10 t0,oN s11 t10,oF s12 2 t11,oL s13 t12,oP s14 (.len false t13),oM s15 (ci 0)]) (.blk 0 (.loop b47x0))) (.seq (.reg [oM s6 (ci 0),oM s7 (.c (.bool false))]) .ret))),1,[.t s6,.t s7],none⟩
end Go.Abs.Run
namespace Go.Abs.Run
open Go Go.Abs Go.Proofs
def b48x0:AC:=(.seq (.reg [oQ s28 .lss t27 t26]) (.seq (.cond t28
 .skip
 (.exit 0)) (.seq (.blk 1 (.seq (.reg [oM s29 t27,oP s30 (.iad 6 t25 t27),oR s31 (.ld true 6 t30),oX s10 (.new 3 false false (.cells 121 [(.str []),(vi 0),(.str []),vz,vz,vz])) [],oM s9 t29,oS 6 t10 t31]) (.seq (.reg [oM s32 t0,oM s33 t2,oM s34 t9,oP s35 (.iad 1 t33 t34),oG s36 t35,oC s37 46 [t32,t36],oM s11 t37]) (.seq (.reg [oM s38 t7,oM s39 t7,oM s40 t7,oN s41 t40,oF s42 2 t41,oL s43 t42,oF s44 0 t10,oL s45 t44,oP s46 (.bsl 1 1 (.str []) [(0,t45)]),oM s48 t7,oN s49 t48,oF s50 3 t49,oL s51 t50,oM s52 t11,oP s53 (.bsl 1 1 (vi 0) [(0,t52)]),oX s47 (.app 4 0 1 (.str []) 16 t43 t46) [(.l t50)],oX s54 (.app 4 0 1 (vi 0) 8 t51 t53) [],oN s55 t38,oF s56 2 t55,oS 1 t56 t47,oN s57 t39,oF s58 3 t57,oS 1 t58 t54]) (.reg [oM s59 t8,oM s60 t8,oN s61 t60,oF s62 3 t61,oL s63 t62,oF s64 0 t10,oL s65 t64,oM s66 t11,oP s67 (.bld [(.str []),(vi 0)] [(0,1,t65),(1,1,t66)]),oP s68 (.bsl 1 2 (.agg [(.str []),(vi 0)]) [(0,t67)]),oX s69 (.app 4 0 2 (.agg [(.str []),(vi 0)]) 24 t63 t68) [],oN s70 t59,oF s71 3 t70,oS 1 t71 t69]))))) (.reg [oQ s72 .add t27 (ci 1),oM s27 t72]))))
def f48:FI:=⟨(.seq (.reg [oX s4 (.box 0 false 49 10 t1) [],oM s6 (.c .nilp)]) (.seq (.reg [oF s13 1 t4,oL s14 t13,oF s15 2 t4,oL s16 t15,oP s17 (.bld [(.str []),(.str []),vz,vz,(vi 0),(vi 0),vz] [(0,1,t14),(1,1,t16)]),oX s18 (.box 1 true 71 7 t17) [],oM s7 t18]) (.seq (.reg [oM s19 t0,oF s20 1 t4,oL s21 t20,oP s22 (.bld [.nilp,(.str []),(vi 0),vz] [(0,1,t19),(1,1,t21)]),oX s23 (.box 2 false 243 4 t22) [],oM s8 t23]) (.seq (.seq (.reg [oF s24 3 t4,oL s25 t24,oP s26 (.len false t25),oM s27 (ci 0)]) (.blk 0 (.loop b48x0))) (.seq (.reg [oM s73 t7,oM s74 t0,oM s75 t2,oM s76 t2,oP s77 (.len false t76),oQ s78 .sub t77 (ci 1),oP s79 (.iad 1 t75 t78),oG s80 t79,oC s81 46 [t74,t80],oN s82 t73,oF s83 5 t82,oS 1 t83 t81]) (.seq (.reg [oM s84 t8,oM s85 t7,oN s86 t85,oF s87 5 t86,oG s88 t87,oN s89 t84,oF s90 2 t89,oS 1 t90 t88]) (.seq (.reg [oM s91 t7,oM s92 t8,oF s93 9 t4,oL s94 t93,oC s95 102 [t92,t94],oN s96 t91,oF s97 6 t96,oS 1 t97 t95]) (.seq (.seq (.reg [oF s98 9 t4,oL s99 t98,oP s100 (.len false t99),oM s12 t100]) (.seq (.reg [oM s101 t12,oQ s102 .eql t101 (ci 0),oM s103 t102,⟨some s104,some (s103,false),(.p (.fad 9 t4))⟩,⟨some s105,some (s103,false),(.r (.ld false 1 t104))⟩,⟨some s106,some (s103,false),(.p (.mov t12))⟩,⟨some s107,some (s103,false),(.p (.bin .sub eI t106 (ci 1)))⟩,⟨some s108,some (s103,false),(.p (.iad 7 t105 t107))⟩,⟨some s109,some (s103,false),(.p (.fad 1 t108))⟩,⟨some s110,some (s103,false),(.r (.ldc t109))⟩,⟨some s111,some (s103,false),(.p (.bin .neq eI t110 (ci 6)))⟩,oP s112 (.pick t103 (.c (.bool true)) t111)]) (.cond t112
 (.reg [oF s113 0 t4,oR s114 (.ld true 1 t113),oF s115 2 t4,oL s116 t115,oC s117 40 [t114,(ci 44),t116]])
 .skip))) (.seq (.reg [oM s118 t7,oM s6 t118]) .ret))))))))),4,[.t s6],none⟩
def f49:FI:=⟨(.seq (.reg [oM s4 (.c vz)]) (.seq (.reg [oP s5 (.bsl 0 1 (vi 0) []),oM s6 t0,oM s7 t1,oC s8 103 [t6,t7],oP s9 (.fld true 0 2 t8),oP s10 (.fld false 1 1 t9),oX s11 (.app 0 0 1 (vi 0) 8 t5 t10) [],oM s4 t11]) .ret)),0,[.t s4],none⟩
def f50:FI:=⟨(.seq (.reg [oM s2 (.c .nilp)]) (.seq (.reg [oM s3 t0,oN s4 t3,oF s5 0 t4,oG s6 t5,oC s7 90 [t6],oM s2 t7]) .ret)),0,[.t s2],none⟩
def f51:FI:=⟨(.seq (.reg [oM s2 (ci 0)]) (.seq (.reg [oM s3 t0,oN s4 t3,oF s5 2 t4,oL s6 t5,oP s7 (.len false t6),oM s2 t7]) .ret)),0,[.t s2],none⟩
def f52:FI:=⟨(.seq (.reg [oM s4 (ci 0),oM s5 (.c (.bool false))]) (.seq (.reg [oM s9 t0,oM s10 t1,oC s11 104 [t9,t10],oM s8 t11,oE s12 t8 0,oE s13 t8 1,oX s6 (.new 0 false false (.cells 232 [(vi 0),(.str []),vz,vz])) [],oS 4 t6 t12,oM s7 t13]) (.seq (.reg [oF s14 0 t6,oF s15 0 t14,oG s16 t15,oM s17 t7,oM s4 t16,oM s5 t17]) .ret))),1,[.t s4,.t s5],none⟩
def f53:FI:=⟨(.seq (.reg [oM s4 (ci 0)]) (.seq (.reg [oM s5 t0,oM s6 t1,oC s7 103 [t5,t6],oP s8 (.fld true 0 2 t7),oP s9 (.fld false 0 1 t8),oM s4 t9]) .ret)),0,[.t s4],none⟩
def f54:FI:=⟨(.seq (.reg [oM s4 (.c vz)]) (.seq (.reg [oM s6 t0,oM s7 t1,oC s8 105 [t6,t7],oM s5 t8]) (.seq (.reg [oM s9 t5,oC s10 106 [t9]]) (.seq (.reg [oM s11 t5,oM s4 t11]) .ret)))),0,[.t s4],none⟩
def b55x0:AC:=(.seq (.reg [oQ s66 .lss t65 t64]) (.seq (.cond t66
 .skip
 (.exit 1)) (.seq (.blk 2 (.seq (.reg [oM s67 t65,oP s68 (.iad 1 t63 t65),oL s69 t68,oM s7 t67,oM s8 t69]) (.seq (.seq (.reg [oM s70 t7,oQ s71 .gtr t70 (ci 0)]) (.cond t71
 (.reg [oM s72 t2,oC s73 107 [t72,(.c (.str [44,32]))]])
 .skip)) (.seq (.reg [oM s74 t2,oM s75 t8,oP s76 (.bin .add eS t75 (.c (.str [58,32]))),oC s77 107 [t74,t76]]) (.seq (.reg [oM s78 t2,oC s79 112 [t78],oQ s80 .gtr t79 (ci 4096),oM s81 t80,⟨some s82,some (s81,false),(.p (.mov t0))⟩,⟨some s83,some (s81,false),(.p (.fad 4 t4))⟩,⟨some s84,some (s81,false),(.r (.ld false 1 t83))⟩,⟨some s85,some (s81,false),(.p (.mov t7))⟩,⟨some s86,some (s81,false),(.p (.iad 5 t84 t85))⟩,⟨some s87,some (s81,false),(.r (.ld true 5 t86))⟩,⟨some s88,some (s81,false),(.p (.mov t2))⟩,⟨some s89,some (s81,false),(.e (.call 55 [t82,t87,t88]) [])⟩,⟨some s90,some (s81,false),(.p (.un .not t89))⟩,oP s91 (.pick t81 (.c (.bool true)) t90)]) (.cond t91
 (.seq (.reg [oM s6 (.c (.bool false))]) .ret)
 .skip)))))) (.reg [oQ s92 .add t65 (ci 1),oM s65 t92]))))
def f55:FI:=⟨(.seq (.reg [oX s4 (.box 0 false 61 5 t1) [],oM s6 (.c (.bool false))]) (.seq (.seq (.reg [oF s9 0 t4,oG s10 t9]) (.blk 0 (.seq (.reg [oQ s12 .eql t10 (ci 1),oM s11 t12]) (.cond t11
 (.reg [oM s13 t2,oF s14 2 t4,oG s15 t14,oC s16 108 [t15],oC s17 107 [t13,t16]])
 (.seq (.reg [oQ s19 .eql t10 (ci 2),oM s18 t19]) (.cond t18
 (.reg [oM s20 t2,oF s21 2 t4,oG s22 t21,oQ s23 .eql t22 (ci 1),oC s24 109 [t23],oC s25 107 [t20,t24]])
 (.seq (.reg [oQ s27 .eql t10 (ci 3),oM s26 t27]) (.cond t26
 (.reg [oM s28 t2,oF s29 3 t4,oL s30 t29,oC s31 107 [t28,t30]])
 (.seq (.reg [oQ s33 .eql t10 (ci 6),oM s32 t33]) (.cond t32
 (.reg [oM s34 t2,oF s35 3 t4,oL s36 t35,oP s37 (.bin .add eS (.c (.str [102,110,32])) t36),oC s38 107 [t34,t37]])
 (.seq (.reg [oQ s40 .eql t10 (ci 5),oM s39 t40]) (.cond t39
 (.seq (.seq (.reg [oF s41 4 t4,oL s42 t41,oP s43 (.len false t42),oQ s44 .eql t43 (ci 0)]) (.cond t44
 (.seq (.reg [oM s45 t2,oC s46 107 [t45,(.c (.str [110,105,108]))]]) (.exit 0))
 .skip)) (.seq (.reg [oM s47 t2,oC s48 110 [t47,(cu 38)]]) (.seq (.reg [oM s49 t0,oF s50 4 t4,oL s51 t50,oP s52 (.iad 5 t51 (ci 0)),oR s53 (.ld true 5 t52),oM s54 t2,oC s55 55 [t49,t53,t54],oM s6 t55]) .ret)))
 (.seq (.reg [oQ s57 .eql t10 (ci 4),oM s56 t57]) (.cond t56
 (.seq (.reg [oM s58 t2,oC s59 110 [t58,(cu 123)]]) (.seq (.seq (.reg [oM s60 t0,oF s61 1 t4,oG s62 t61,oC s63 111 [t60,t62],oP s64 (.len false t63),oM s65 (ci 0)]) (.blk 1 (.loop b55x0))) (.reg [oM s93 t2,oC s94 110 [t93,(cu 125)]])))
 .skip)))))))))))))) (.seq (.reg [oM s95 t2,oC s96 112 [t95],oQ s97 .leq t96 (ci 4096),oM s6 t97]) .ret))),1,[.t s6],none⟩
def f56:FI:=⟨(.seq (.reg [oM s2 (.c (.str []))]) (.seq (.reg [oM s3 t0,oN s4 t3,oF s5 1 t4,oL s6 t5,oP s7 (.usd t6),oM s8 t0,oN s9 t8,oF s10 1 t9,oL s11 t10,oP s12 (.len false t11),oP s13 (.ust t7 t12),oM s2 t13]) .ret)),0,[.t s2],none⟩
def f57:FI:=⟨(.seq (.seq (.reg [oM s2 t0,oN s3 t2,oF s4 3 t3,oG s5 t4,oM s6 t0,oN s7 t6,oF s8 2 t7,oG s9 t8,oQ s10 .eql t5 t9]) (.cond t10
 (.reg [oP s11 (.bld [(vi 0)] [(0,1,(ci 50))]),oP s12 (.ifc 105 t11),oY (.pan t12) []])
 .skip)) (.reg [oM s13 t0,oN s14 t13,oF s15 3 t14,oG s16 t15,oQ s17 .add t16 (ci 1),oN s18 t13,oF s19 3 t18,oS 1 t19 t17])),0,[],none⟩
def f58:FI:=⟨(.seq (.reg [oX s4 (.new 0 false false (.cells 61 [(vi 0),(vi 0),(vi 0),(.str []),vz])) []]) (.seq (.seq (.reg [oM s16 t1,oN s17 t16,oF s18 0 t17,oF s19 1 t18,oG s20 t19]) (.blk 0 (.seq (.reg [oQ s22 .eql t20 (ci 1),oM s21 t22]) (.cond t21
 (.seq (.reg [oM s23 t1,oN s24 t23,oF s25 7 t24,oG s26 t25,oM s27 t1,oN s28 t27,oF s29 0 t28,oF s30 2 t29,oG s31 t30,oP s32 (.bld [(vi 0),(vi 0),(vi 0),(.str []),vz] [(0,1,(ci 1)),(1,1,t26),(2,1,t31)]),oS 5 t4 t32]) .ret)
 (.seq (.reg [oQ s34 .eql t20 (ci 2),oM s33 t34]) (.cond t33
 (.seq (.reg [oM s35 t1,oN s36 t35,oF s37 7 t36,oG s38 t37,oM s39 t1,oN s40 t39,oF s41 0 t40,oF s42 3 t41,oL s43 t42,oP s44 (.bld [(vi 0),(vi 0),(vi 0),(.str []),vz] [(0,1,(ci 3)),(1,1,t38),(3,1,t43)]),oS 5 t4 t44]) .ret)
 (.seq (.reg [oQ s46 .eql t20 (ci 3),oM s45 t46]) (.cond t45
 (.seq (.reg [oM s47 t1,oN s48 t47,oF s49 7 t48,oG s50 t49,oM s51 t1,oN s52 t51,oF s53 0 t52,oF s54 2 t53,oG s55 t54,oP s56 (.bld [(vi 0),(vi 0),(vi 0),(.str []),vz] [(0,1,(ci 2)),(1,1,t50),(2,1,t55)]),oS 5 t4 t56]) .ret)
 (.seq (.reg [oQ s58 .eql t20 (ci 4),oM s57 t58]) (.cond t57
 (.seq (.seq (.reg [oM s59 t1,oN s60 t59,oF s61 14 t60,oG s62 t61]) (.cond t62
 (.seq (.reg [oM s63 t1,oN s64 t63,oF s65 7 t64,oG s66 t65,oM s67 t1,oN s68 t67,oF s69 0 t68,oF s70 3 t69,oL s71 t70,oP s72 (.bld [(vi 0),(vi 0),(vi 0),(.str []),vz] [(0,1,(ci 6)),(1,1,t66),(3,1,t71)]),oS 5 t4 t72]) .ret)
 .skip)) (.seq (.reg [oM s73 t0,oN s74 t73,oF s75 6 t74,oG s76 t75,oM s77 t1,oN s78 t77,oF s79 0 t78,oF s80 3 t79,oL s81 t80,oR s82 (.lku false [.s] false (.agg [(vi 0),(vi 0),(vi 0),(.str []),vz]) t76 t81),oS 5 t4 t82]) .ret))
 (.seq (.reg [oQ s84 .eql t20 (ci 5),oM s83 t84]) (.cond t83
 (.seq (.reg [oM s85 t0,oN s86 t85,oF s87 1 t86,oR s88 (.ld true 5 t87),oS 5 t4 t88]) .ret)
 (.seq (.reg [oQ s90 .eql t20 (ci 6),oM s89 t90]) (.cond t89
 (.seq (.reg [oM s91 t1,oN s92 t91,oF s93 7 t92,oG s94 t93,oP s95 (.bld [(vi 0),(vi 0),(vi 0),(.str []),vz] [(0,1,(ci 5)),(1,1,t94)]),oS 5 t4 t95]) .ret)
 (.seq (.seq (.reg [oQ s97 .eql t20 (ci 7),oM s96 t97]) (.cond t96
 .skip
 (.reg [oQ s98 .eql t20 (ci 8),oM s96 t98]))) (.cond t96
 (.seq (.reg [oM s99 t0,oM s100 t1,oC s101 113 [t99,t100],oS 5 t4 t101]) .ret)
 (.seq (.reg [oQ s103 .eql t20 (ci 9),oM s102 t103]) (.cond t102
 (.seq (.reg [oM s104 t0,oM s105 t1,oN s106 t105,oF s107 16 t106,oL s108 t107,oP s109 (.iad 1 t108 (ci 0)),oG s110 t109,oC s111 58 [t104,t110],oX s5 (.new 1 false false (.cells 61 [(vi 0),(vi 0),(vi 0),(.str []),vz])) [],oS 5 t5 t111]) (.seq (.reg [oM s112 t0,oN s113 t112,oF s114 0 t113,oG s115 t114,oM s116 t0,oN s117 t116,oF s118 0 t117,oG s119 t118,oR s120 (.ld true 5 t5),oM s121 t1,oN s122 t121,oF s123 9 t122,oF s124 0 t123,oL s125 t124,oM s127 t1,oN s128 t127,oF s129 0 t128,oF s130 3 t129,oL s131 t130,oP s132 (.bsl 1 1 (.str []) [(0,t131)]),oX s126 (.call 114 [t119,t120,t125]) [(.l t130),(.c t114)],oC s133 114 [t115,t126,t132],oS 5 t4 t133]) .ret))
 (.seq (.reg [oQ s135 .eql t20 (ci 10),oM s134 t135]) (.cond t134
 (.seq (.reg [oM s136 t0,oM s137 t1,oN s138 t137,oF s139 16 t138,oL s140 t139,oP s141 (.iad 1 t140 (ci 0)),oG s142 t141,oC s143 58 [t136,t142],oX s6 (.new 2 false false (.cells 61 [(vi 0),(vi 0),(vi 0),(.str []),vz])) [],oS 5 t6 t143]) (.seq (.reg [oM s144 t0,oM s145 t1,oN s146 t145,oF s147 16 t146,oL s148 t147,oP s149 (.sls false 1 t148 (some (ci 1)) none none),oC s150 115 [t144,t149],oM s7 t150]) (.seq (.reg [oM s152 t0,oR s153 (.ld true 5 t6),oM s154 t1,oN s155 t154,oF s156 9 t155,oR s157 (.ld true 5 t156),oX s8 (.new 3 false false (.cells 61 [(vi 0),(vi 0),(vi 0),(.str []),vz])) [(.l t156),(.l t6)],oX s158 (.call 116 [t152,t153,t157]) [(.l t8)],oM s151 t158,oE s159 t151 0,oE s160 t151 1,oS 5 t8 t159,oM s9 t160]) (.seq (.reg [oM s161 t0,oN s162 t161,oF s163 0 t162,oG s164 t163,oM s165 t9,oR s166 (.ld true 5 t8),oM s167 t7,oC s168 117 [t164,t165,t166,t167],oS 5 t4 t168]) .ret))))
 (.seq (.reg [oQ s170 .eql t20 (ci 11),oM s169 t170]) (.cond t169
 (.seq (.reg [oM s171 t0,oM s172 t1,oN s173 t172,oF s174 16 t173,oL s175 t174,oP s176 (.iad 1 t175 (ci 0)),oG s177 t176,oC s178 58 [t171,t177],oX s10 (.new 4 false false (.cells 61 [(vi 0),(vi 0),(vi 0),(.str []),vz])) [],oS 5 t10 t178]) (.seq (.reg [oM s179 t0,oM s180 t1,oN s181 t180,oF s182 16 t181,oL s183 t182,oP s184 (.sls false 1 t183 (some (ci 1)) none none),oC s185 115 [t179,t184],oM s11 t185]) (.seq (.reg [oM s186 t0,oN s187 t186,oF s188 0 t187,oG s189 t188,oM s190 t0,oN s191 t190,oF s192 0 t191,oG s193 t192,oN s194 t193,oF s195 0 t194,oG s196 t195,oF s197 3 t10,oL s198 t197,oP s200 (.bld [(vi 0),(vi 0),(vi 0),(.str []),vz] []),oM s201 t11,oX s199 (.call 118 [t196,t198]) [(.c t188)],oC s202 117 [t189,t199,t200,t201],oS 5 t4 t202]) .ret)))
 (.seq (.reg [oQ s204 .eql t20 (ci 12),oM s203 t204]) (.cond t203
 (.seq (.reg [oM s205 t0,oM s206 t1,oN s207 t206,oF s208 16 t207,oL s209 t208,oP s210 (.iad 1 t209 (ci 0)),oG s211 t210,oC s212 58 [t205,t211],oX s12 (.new 5 false false (.cells 61 [(vi 0),(vi 0),(vi 0),(.str []),vz])) [],oS 5 t12 t212]) (.seq (.seq (.reg [oM s214 t0,oN s215 t214,oF s216 0 t215,oG s217 t216,oN s218 t217,oF s219 0 t218,oG s220 t219,oF s222 1 t12,oG s223 t222,oM s224 t1,oN s225 t224,oF s226 8 t225,oG s227 t226,oX s221 (.call 119 [t220]) [(.c t226),(.c t222)],oC s228 120 [t221,t223,t227],oM s213 t228,oE s229 t213 0,oE s230 t213 1,oM s13 t229,oM s14 t230]) (.seq (.reg [oM s231 t1,oN s232 t231,oF s233 15 t232,oG s234 t233,oP s235 (.un .not t234),oM s236 t235,⟨some s237,some (s236,true),(.p (.mov t13))⟩,⟨some s238,some (s236,true),(.p (.un .not t237))⟩,oP s239 (.pick t236 t238 (.c (.bool false)))]) (.cond t239
 (.reg [oC s240 121 [(ci 52)]])
 .skip))) (.seq (.reg [oR s241 (.ld true 5 t12),oS 5 t4 t241]) .ret)))
 (.seq (.seq (.reg [oQ s243 .eql t20 (ci 20),oM s242 t243]) (.cond t242
 .skip
 (.reg [oQ s244 .eql t20 (ci 21),oM s242 t244]))) (.cond t242
 (.seq (.reg [oM s245 t0,oM s246 t1,oN s247 t246,oF s248 16 t247,oL s249 t248,oP s250 (.iad 1 t249 (ci 0)),oG s251 t250,oC s252 58 [t245,t251],oX s15 (.new 6 false false (.cells 61 [(vi 0),(vi 0),(vi 0),(.str []),vz])) [],oS 5 t15 t252]) (.seq (.seq (.reg [oF s253 2 t15,oG s254 t253,oQ s255 .eql t254 (ci 1),oM s256 t1,oN s257 t256,oF s258 0 t257,oF s259 1 t258,oG s260 t259,oQ s261 .eql t260 (ci 21),oP s262 (.bin .eql eB t255 t261)]) (.cond t262
 (.seq (.reg [oR s263 (.ld true 5 t15),oS 5 t4 t263]) .ret)
 .skip)) (.seq (.reg [oM s264 t0,oM s265 t1,oN s266 t265,oF s267 16 t266,oL s268 t267,oP s269 (.iad 1 t268 (ci 1)),oG s270 t269,oC s271 58 [t264,t270],oS 5 t4 t271]) .ret)))
 .skip)))))))))))))))))))))))))) (.seq (.reg [oM s272 t0,oM s273 t1,oM s274 t0,oM s275 t1,oN s276 t275,oF s277 16 t276,oL s278 t277,oC s279 115 [t274,t278],oC s280 122 [t272,t273,t279],oS 5 t4 t280]) .ret))),7,[.c true 5 s4],none⟩
def f59:FI:=⟨(.seq (.reg [oX s3 (.box 0 false 61 5 t1) []]) (.seq (.reg [oM s7 t0,oN s8 t7,oF s9 1 t8,oG s10 t9,oR s11 (.ld true 5 t3),oC s12 29 [t10,t11],oM s6 t12,oE s13 t6 0,oE s14 t6 1,oM s4 t13,oM s5 t14]) (.seq (.reg [oM s15 t5,oC s16 121 [t15]]) (.seq (.seq (.reg [oM s17 t0,oN s18 t17,oF s19 6 t18,oG s20 t19,oM s21 t4,oP s22 (.len true t21),oQ s23 .add t20 t22,oQ s24 .add t23 (ci 1),oQ s25 .gtr t24 (ci 65536)]) (.cond t25
 (.reg [oC s26 121 [(ci 53)]])
 .skip)) (.seq (.reg [oM s27 t0,oN s28 t27,oF s29 6 t28,oG s30 t29,oM s31 t4,oP s32 (.len true t31),oQ s33 .add t32 (ci 1),oQ s34 .add t30 t33,oN s35 t27,oF s36 6 t35,oS 1 t36 t34]) (.reg [oM s37 t0,oM s38 t0,oN s39 t38,oF s40 5 t39,oL s41 t40,oM s42 t4,oP s43 (.bsl 1 1 (.str []) [(0,t42)]),oX s44 (.app 1 0 1 (.str []) 16 t41 t43) [],oN s45 t37,oF s46 5 t45,oS 1 t46 t44])))))),1,[],none⟩
def b60x0:AC:=(.seq (.seq (.reg [oM s46 t1,oM s47 t0,oP s48 (.len true t47),oQ s49 .lss t46 t48,oM s50 t49,⟨some s51,some (s50,true),(.p (.mov t0))⟩,⟨some s52,some (s50,true),(.p (.mov t1))⟩,⟨some s53,some (s50,true),(.p (.ixs t51 t52))⟩,⟨some s54,some (s50,true),(.p (.bin .neq eI t53 (cu 10)))⟩,oP s55 (.pick t50 t54 (.c (.bool false)))]) (.cond t55
 .skip
 (.exit 2))) (.blk 3 (.reg [oM s56 t1,oQ s57 .add t56 (ci 1),oM s1 t57])))
def b60x1:AC:=(.seq (.seq (.reg [oM s6 t1,oM s7 t0,oP s8 (.len true t7),oQ s9 .lss t6 t8]) (.cond t9
 .skip
 (.exit 0))) (.blk 1 (.seq (.reg [oM s10 t0,oM s11 t1,oP s12 (.ixs t10 t11),oM s5 t12]) (.seq (.seq (.reg [oM s13 t5,oQ s14 .eql t13 (cu 9),oM s15 t14,⟨some s16,some (s15,false),(.p (.mov t5))⟩,⟨some s17,some (s15,false),(.p (.bin .eql eI t16 (cu 10)))⟩,oP s18 (.pick t15 (.c (.bool true)) t17),oM s19 t18,⟨some s20,some (s19,false),(.p (.mov t5))⟩,⟨some s21,some (s19,false),(.p (.bin .eql eI t20 (cu 13)))⟩,oP s22 (.pick t19 (.c (.bool true)) t21),oM s23 t22,⟨some s24,some (s23,false),(.p (.mov t5))⟩,⟨some s25,some (s23,false),(.p (.bin .eql eI t24 (cu 32)))⟩,oP s26 (.pick t23 (.c (.bool true)) t25)]) (.cond t26
 (.seq (.reg [oM s27 t1,oQ s28 .add t27 (ci 1),oM s1 t28]) (.exit 1))
 .skip)) (.seq (.seq (.reg [oM s29 t5,oQ s30 .neq t29 (cu 47),oM s31 t30,⟨some s32,some (s31,false),(.p (.mov t1))⟩,⟨some s33,some (s31,false),(.p (.bin .add eI t32 (ci 1)))⟩,⟨some s34,some (s31,false),(.p (.mov t0))⟩,⟨some s35,some (s31,false),(.p (.len true t34))⟩,⟨some s36,some (s31,false),(.p (.bin .eql eI t33 t35))⟩,oP s37 (.pick t31 (.c (.bool true)) t36),oM s38 t37,⟨some s39,some (s38,false),(.p (.mov t0))⟩,⟨some s40,some (s38,false),(.p (.mov t1))⟩,⟨some s41,some (s38,false),(.p (.bin .add eI t40 (ci 1)))⟩,⟨some s42,some (s38,false),(.p (.ixs t39 t41))⟩,⟨some s43,some (s38,false),(.p (.bin .neq eI t42 (cu 47)))⟩,oP s44 (.pick t38 (.c (.bool true)) t43)]) (.cond t44
 (.seq (.reg [oM s45 t1,oM s4 t45]) .ret)
 .skip)) (.blk 2 (.loop b60x0)))))))
def f60:FI:=⟨(.seq (.reg [oM s4 (ci 0)]) (.seq (.blk 0 (.loop b60x1)) (.seq (.reg [oM s58 t1,oM s4 t58]) .ret))),0,[.t s4],none⟩
def b62x0:AC:=(.seq (.seq (.reg [oM s32 t7,oM s33 t6,oP s34 (.len false t33),oQ s35 .lss t32 t34]) (.cond t35
 .skip
 (.exit 0))) (.seq (.blk 1 (.seq (.reg [oM s38 t1,oM s39 t6,oM s40 t7,oP s41 (.iad 1 t39 t40),oL s42 t41,oP s43 (.len true t42),oQ s44 .add t38 t43,oM s45 t0,oP s46 (.len true t45),oQ s47 .leq t44 t46,oM s48 t47,⟨some s49,some (s48,true),(.p (.mov t0))⟩,⟨some s50,some (s48,true),(.p (.mov t1))⟩,⟨some s51,some (s48,true),(.p (.mov t1))⟩,⟨some s52,some (s48,true),(.p (.mov t6))⟩,⟨some s53,some (s48,true),(.p (.mov t7))⟩,⟨some s54,some (s48,true),(.p (.iad 1 t52 t53))⟩,⟨some s55,some (s48,true),(.r (.ld false 1 t54))⟩,⟨some s56,some (s48,true),(.p (.len true t55))⟩,⟨some s57,some (s48,true),(.p (.bin .add eI t51 t56))⟩,⟨some s58,some (s48,true),(.p (.sls true 0 t49 (some t50) (some t57) none))⟩,⟨some s59,some (s48,true),(.p (.mov t6))⟩,⟨some s60,some (s48,true),(.p (.mov t7))⟩,⟨some s61,some (s48,true),(.p (.iad 1 t59 t60))⟩,⟨some s62,some (s48,true),(.r (.ld false 1 t61))⟩,⟨some s63,some (s48,true),(.p (.bin .eql eS t58 t62))⟩,oP s64 (.pick t48 t63 (.c (.bool false)))]) (.cond t64
 (.seq (.reg [oM s65 t6,oM s66 t7,oP s67 (.iad 1 t65 t66),oL s68 t67,oP s69 (.bld [(vi 0),(vi 0),(.str []),(vi 0)] [(1,1,(ci 6)),(2,1,t68)]),oX s8 (.new 1 false false (.cells 114 [(vi 0),(vi 0),(.str []),(vi 0)])) [],oS 4 t8 t69]) (.seq (.reg [oM s70 t1,oF s71 0 t8,oF s72 0 t71,oS 1 t72 t70]) (.seq (.reg [oR s73 (.ld true 4 t8),oM s74 t1,oM s75 t6,oM s76 t7,oP s77 (.iad 1 t75 t76),oL s78 t77,oP s79 (.len true t78),oQ s80 .add t74 t79,oP s81 (.bld [(vi 0),(vi 0),(.str []),(vi 0),(vi 0),(vi 0),(vi 0)] [(0,4,t73),(4,1,t80)]),oS 7 t4 t81]) .ret)))
 .skip))) (.reg [oM s36 t7,oQ s37 .add t36 (ci 1),oM s7 t37])))
def f62:FI:=⟨(.seq (.reg [oX s4 (.new 0 false false (.cells 161 [(vi 0),(vi 0),(.str []),(vi 0),(vi 0),(vi 0),(vi 0)])) []]) (.seq (.reg [oM s9 t0,oM s10 t1,oP s11 (.ixs t9 t10),oM s5 t11]) (.seq (.seq (.reg [oM s12 t5,oC s13 123 [t12],oM s14 t13,⟨some s15,some (s14,false),(.p (.mov t5))⟩,⟨some s16,some (s14,false),(.e (.call 124 [t15]) [])⟩,oP s17 (.pick t14 (.c (.bool true)) t16)]) (.cond t17
 (.seq (.reg [oM s18 t0,oM s19 t1,oC s20 127 [t18,t19],oS 7 t4 t20]) .ret)
 .skip)) (.seq (.seq (.reg [oM s21 t5,oC s22 125 [t21]]) (.cond t22
 (.seq (.reg [oM s23 t0,oM s24 t1,oC s25 128 [t23,t24],oS 7 t4 t25]) .ret)
 .skip)) (.seq (.seq (.reg [oM s26 t5,oQ s27 .eql t26 (cu 34)]) (.cond t27
 (.seq (.reg [oM s28 t0,oM s29 t1,oC s30 129 [t28,t29],oS 7 t4 t30]) .ret)
 .skip)) (.seq (.reg [oC s31 126 [],oM s6 t31]) (.seq (.seq (.reg [oM s7 (ci 0)]) (.blk 0 (.loop b62x0))) (.seq (.reg [oM s82 t1,oC s83 130 [(ci 10),t82],oS 7 t4 t83]) .ret)))))))),2,[.c true 7 s4],none⟩
def f63:FI:=⟨(.seq (.reg [oM s4 (.c (.bool false))]) (.seq (.reg [oM s5 t0,oN s6 t5,oF s7 3 t6,oG s8 t7,oQ s9 .eql t8 (ci 0),oM s10 t9,⟨some s11,some (s10,true),(.p (.mov t0))⟩,⟨some s12,some (s10,true),(.p (.nilc t11))⟩,⟨some s13,some (s10,true),(.p (.fad 2 t12))⟩,⟨some s14,some (s10,true),(.r (.ldc t13))⟩,⟨some s15,some (s10,true),(.p (.mov t0))⟩,⟨some s16,some (s10,true),(.p (.nilc t15))⟩,⟨some s17,some (s10,true),(.p (.fad 0 t16))⟩,⟨some s18,some (s10,true),(.r (.ld false 1 t17))⟩,⟨some s19,some (s10,true),(.p (.len false t18))⟩,⟨some s20,some (s10,true),(.p (.bin .lss eI t14 t19))⟩,oP s21 (.pick t10 t20 (.c (.bool false))),oM s22 t21,⟨some s23,some (s22,true),(.p (.mov t0))⟩,⟨some s24,some (s22,true),(.p (.nilc t23))⟩,⟨some s25,some (s22,true),(.p (.fad 0 t24))⟩,⟨some s26,some (s22,true),(.r (.ld false 1 t25))⟩,⟨some s27,some (s22,true),(.p (.mov t0))⟩,⟨some s28,some (s22,true),(.p (.nilc t27))⟩,⟨some s29,some (s22,true),(.p (.fad 2 t28))⟩,⟨some s30,some (s22,true),(.r (.ldc t29))⟩,⟨some s31,some (s22,true),(.p (.iad 4 t26 t30))⟩,⟨some s32,some (s22,true),(.p (.fad 1 t31))⟩,⟨some s33,some (s22,true),(.r (.ldc t32))⟩,⟨some s34,some (s22,true),(.p (.mov t1))⟩,⟨some s35,some (s22,true),(.p (.bin .eql eI t33 t34))⟩,oP s36 (.pick t22 t35 (.c (.bool false))),oM s4 t36]) .ret)),0,[.t s4],none⟩
def f64:FI:=⟨(.seq (.reg [oM s2 (.c (.bool false))]) (.seq (.reg [oM s3 t0,oC s4 63 [t3,(ci 2)],oM s5 t4,⟨some s6,some (s5,false),(.p (.mov t0))⟩,⟨some s7,some (s5,false),(.e (.call 19 [t6,(.c (.str [105,110,116]))]) [])⟩,oP s8 (.pick t5 (.c (.bool true)) t7),oM s9 t8,⟨some s10,some (s9,false),(.p (.mov t0))⟩,⟨some s11,some (s9,false),(.e (.call 19 [t10,(.c (.str [98,111,111,108]))]) [])⟩,oP s12 (.pick t9 (.c (.bool true)) t11),oM s13 t12,⟨some s14,some (s13,false),(.p (.mov t0))⟩,⟨some s15,some (s13,false),(.e (.call 19 [t14,(.c (.str [116,101,120,116]))]) [])⟩,oP s16 (.pick t13 (.c (.bool true)) t15),oM s17 t16,⟨some s18,some (s17,false),(.p (.mov t0))⟩,⟨some s19,some (s17,false),(.e (.call 19 [t18,(.c (.str [42]))]) [])⟩,oP s20 (.pick t17 (.c (.bool true)) t19),oM s21 t20,⟨some s22,some (s21,false),(.p (.mov t0))⟩,⟨some s23,some (s21,false),(.e (.call 19 [t22,(.c (.str [123]))]) [])⟩,oP s24 (.pick t21 (.c (.bool true)) t23),oM s25 t24,⟨some s26,some (s25,false),(.p (.mov t0))⟩,⟨some s27,some (s25,false),(.e (.call 19 [t26,(.c (.str [102,110]))]) [])⟩,oP s28 (.pick t25 (.c (.bool true)) t27),oM s29 t28,⟨some s30,some (s29,false),(.p (.mov t0))⟩,⟨some s31,some (s29,false),(.e (.call 19 [t30,(.c (.str [105,110,116,101,114,102,97,99,101]))]) [])⟩,oP s32 (.pick t29 (.c (.bool true)) t31),oM s2 t32]) .ret)),0,[.t s2],none⟩
def b65x0:AC:=(.seq (.seq (.reg [oM s8 t0,oN s9 t8,oF s10 3 t9,oG s11 t10,oQ s12 .eql t11 (ci 0),oM s13 t12,⟨some s14,some (s13,true),(.p (.mov t0))⟩,⟨some s15,some (s13,true),(.e (.call 19 [t14,(.c (.str [41]))]) [])⟩,⟨some s16,some (s13,true),(.p (.un .not t15))⟩,oP s17 (.pick t13 t16 (.c (.bool false)))]) (.cond t17
 .skip
 (.exit 0))) (.blk 1 (.seq (.seq (.reg [oM s18 t5,oP s19 (.len false t18),oQ s20 .gtr t19 (ci 0)]) (.cond t20
 (.reg [oM s21 t0,oC s22 33 [t21,(.c (.str [44]))]])
 .skip)) (.reg [oM s23 t5,oM s24 t0,oM s25 t1,oC s26 35 [t24,t25],oP s27 (.bsl 1 5 (.agg [(vi 0),(.str []),vz,vz,vz]) [(0,t26)]),oX s28 (.app 0 0 5 (.agg [(vi 0),(.str []),vz,vz,vz]) 96 t23 t27) [],oM s5 t28]))))
def f65:FI:=⟨(.seq (.reg [oM s4 (.c vz)]) (.seq (.reg [oM s5 (.c vz)]) (.seq (.reg [oM s6 t0,oC s7 33 [t6,(.c (.str [40]))]]) (.seq (.blk 0 (.loop b65x0)) (.seq (.reg [oM s29 t0,oC s30 33 [t29,(.c (.str [41]))]]) (.seq (.reg [oM s31 t5,oM s32 t0,oM s33 t1,oC s34 35 [t32,t33],oP s35 (.bsl 1 5 (.agg [(vi 0),(.str []),vz,vz,vz]) [(0,t34)]),oX s36 (.app 0 0 5 (.agg [(vi 0),(.str []),vz,vz,vz]) 96 t31 t35) [],oM s4 t36]) .ret)))))),0,[.t s4],none⟩
def b66x0:AC:=(.seq (.seq (.reg [oM s9 t0,oN s10 t9,oF s11 3 t10,oG s12 t11,oQ s13 .eql t12 (ci 0),oM s14 t13,⟨some s15,some (s14,true),(.p (.mov t0))⟩,⟨some s16,some (s14,true),(.e (.call 19 [t15,(.c (.str [125]))]) [])⟩,⟨some s17,some (s14,true),(.p (.un .not t16))⟩,oP s18 (.pick t14 t17 (.c (.bool false)))]) (.cond t18
 .skip
 (.exit 0))) (.blk 1 (.seq (.reg [oF s19 2 t5,oL s20 t19,oM s21 t0,oF s22 2 t5,oL s23 t22,oX s24 (.call 36 [t21,t23]) [(.l t19)],oP s25 (.bsl 1 1 (.str []) [(0,t24)]),oX s26 (.app 2 0 1 (.str []) 16 t20 t25) [],oF s27 2 t5,oS 1 t27 t26]) (.seq (.seq (.reg [oM s28 t0,oN s29 t28,oF s30 3 t29,oG s31 t30,oQ s32 .eql t31 (ci 0),oM s33 t32,⟨some s34,some (s33,true),(.p (.mov t0))⟩,⟨some s35,some (s33,true),(.e (.call 19 [t34,(.c (.str [40]))]) [])⟩,⟨some s36,some (s33,true),(.p (.un .not t35))⟩,oP s37 (.pick t33 t36 (.c (.bool false)))]) (.cond t37
 (.reg [oM s38 t0,oC s39 38 [t38,(ci 13)]])
 .skip)) (.seq (.seq (.reg [oM s40 t1,oQ s41 .add t40 (ci 1),oQ s42 .gtr t41 (ci 64)]) (.cond t42
 (.reg [oM s43 t0,oC s44 38 [t43,(ci 15)]])
 .skip)) (.seq (.reg [oF s45 4 t5,oL s46 t45,oM s47 t0,oM s48 t1,oQ s49 .add t48 (ci 2),oX s50 (.call 65 [t47,t49]) [(.l t45)],oP s51 (.bld [(vi 0),(.str []),vz,vz,vz] [(0,1,(ci 7)),(4,1,t50)]),oP s52 (.bsl 1 5 (.agg [(vi 0),(.str []),vz,vz,vz]) [(0,t51)]),oX s53 (.app 2 0 5 (.agg [(vi 0),(.str []),vz,vz,vz]) 96 t46 t52) [],oF s54 4 t5,oS 1 t54 t53]) (.reg [oM s55 t0,oC s56 33 [t55,(.c (.str [59]))]])))))))
def f66:FI:=⟨(.seq (.reg [oX s4 (.new 0 false false (.cells 46 [(vi 0),(.str []),vz,vz,vz])) []]) (.seq (.reg [oP s6 (.bld [(vi 0),(.str []),vz,vz,vz] [(0,1,(ci 8))]),oX s5 (.new 1 false false (.cells 46 [(vi 0),(.str []),vz,vz,vz])) [],oS 5 t5 t6]) (.seq (.reg [oM s7 t0,oC s8 33 [t7,(.c (.str [123]))]]) (.seq (.blk 0 (.loop b66x0)) (.seq (.reg [oM s57 t0,oC s58 33 [t57,(.c (.str [125]))]]) (.seq (.reg [oR s59 (.ld true 5 t5),oS 5 t4 t59]) .ret)))))),2,[.c true 5 s4],none⟩
def f67:FI:=⟨(.seq (.reg [oX s4 (.new 0 false false (.cells 167 [(vi 0),(vi 0),(.str []),vz,vz,vz,vz])) []]) (.seq (.reg [oP s6 (.bld [(vi 0),(vi 0),(.str []),vz,vz,vz,vz] []),oX s5 (.new 1 false false (.cells 167 [(vi 0),(vi 0),(.str []),vz,vz,vz,vz])) [],oS 7 t5 t6]) (.seq (.reg [oM s7 t0,oC s8 32 [t7],oF s9 0 t5,oF s10 0 t9,oS 1 t10 t8]) (.seq (.seq (.reg [oM s11 t0,oC s12 131 [t11],oP s13 (.un .not t12)]) (.cond t13
 (.seq (.reg [oM s14 t0,oC s15 38 [t14,(ci 13)]]) (.seq (.reg [oR s16 (.ld true 7 t5),oS 7 t4 t16]) .ret))
 .skip)) (.seq (.seq (.reg [oM s17 t1,oQ s18 .gtr t17 (ci 64)]) (.cond t18
 (.seq (.reg [oM s19 t0,oC s20 38 [t19,(ci 15)]]) (.seq (.reg [oR s21 (.ld true 7 t5),oS 7 t4 t21]) .ret))
 .skip)) (.seq (.blk 0 (.seq (.reg [oM s24 t0,oC s25 19 [t24,(.c (.str [108,101,116]))],oM s23 t25]) (.cond t23
 (.seq (.reg [oM s26 t0,oN s27 t26,oF s28 2 t27,oG s29 t28,oQ s30 .add t29 (ci 1),oN s31 t26,oF s32 2 t31,oS 1 t32 t30]) (.seq (.reg [oF s33 1 t5,oS 1 t33 (ci 1)]) (.seq (.reg [oM s34 t0,oC s35 34 [t34,(ci 1)],oF s36 2 t5,oS 1 t36 t35]) (.seq (.seq (.reg [oM s37 t0,oN s38 t37,oF s39 3 t38,oG s40 t39,oQ s41 .eql t40 (ci 0),oM s42 t41,⟨some s43,some (s42,true),(.p (.mov t0))⟩,⟨some s44,some (s42,true),(.e (.call 19 [t43,(.c (.str [61]))]) [])⟩,⟨some s45,some (s42,true),(.p (.un .not t44))⟩,oP s46 (.pick t42 t45 (.c (.bool false)))]) (.cond t46
 (.reg [oM s47 t0,oC s48 35 [t47,(ci 1)],oP s49 (.bsl 1 5 (.agg [(vi 0),(.str []),vz,vz,vz]) [(0,t48)]),oF s50 3 t5,oS 1 t50 t49])
 .skip)) (.reg [oM s51 t0,oC s52 33 [t51,(.c (.str [61]))]])))))
 (.seq (.reg [oM s54 t0,oC s55 63 [t54,(ci 1)],oM s56 t55,⟨some s57,some (s56,true),(.p (.mov t0))⟩,⟨some s58,some (s56,true),(.e (.call 132 [t57,(.c (.str [61]))]) [])⟩,oP s59 (.pick t56 t58 (.c (.bool false))),oM s53 t59]) (.cond t53
 (.seq (.reg [oF s60 1 t5,oS 1 t60 (ci 2)]) (.seq (.reg [oM s61 t0,oC s62 34 [t61,(ci 1)],oF s63 2 t5,oS 1 t63 t62]) (.reg [oM s64 t0,oC s65 33 [t64,(.c (.str [61]))]])))
 (.seq (.reg [oM s67 t0,oC s68 19 [t67,(.c (.str [112,114,105,110,116]))],oM s66 t68]) (.cond t66
 (.seq (.reg [oM s69 t0,oN s70 t69,oF s71 2 t70,oG s72 t71,oQ s73 .add t72 (ci 1),oN s74 t69,oF s75 2 t74,oS 1 t75 t73]) (.reg [oF s76 1 t5,oS 1 t76 (ci 3)]))
 (.seq (.reg [oM s78 t0,oC s79 19 [t78,(.c (.str [114,101,116,117,114,110]))],oM s77 t79]) (.cond t77
 (.seq (.reg [oM s80 t0,oN s81 t80,oF s82 2 t81,oG s83 t82,oQ s84 .add t83 (ci 1),oN s85 t80,oF s86 2 t85,oS 1 t86 t84]) (.reg [oF s87 1 t5,oS 1 t87 (ci 6)]))
 (.seq (.seq (.reg [oM s89 t0,oC s90 19 [t89,(.c (.str [105,102]))],oM s88 t90]) (.cond t88
 .skip
 (.reg [oM s91 t0,oC s92 19 [t91,(.c (.str [119,104,105,108,101]))],oM s88 t92]))) (.cond t88
 (.seq (.reg [oF s93 1 t5,oS 1 t93 (ci 4)]) (.seq (.seq (.reg [oM s94 t0,oC s95 19 [t94,(.c (.str [119,104,105,108,101]))]]) (.cond t95
 (.reg [oF s96 1 t5,oS 1 t96 (ci 5)])
 .skip)) (.seq (.reg [oM s97 t0,oN s98 t97,oF s99 2 t98,oG s100 t99,oQ s101 .add t100 (ci 1),oN s102 t97,oF s103 2 t102,oS 1 t103 t101]) (.seq (.reg [oM s104 t0,oC s105 133 [t104,(ci 1),(ci 1)],oP s106 (.bsl 1 7 (.agg [(vi 0),(vi 0),(vi 0),(.str []),vz,vz,vz]) [(0,t105)]),oF s107 4 t5,oS 1 t107 t106]) (.seq (.reg [oM s108 t0,oM s109 t1,oQ s110 .add t109 (ci 1),oC s111 37 [t108,t110],oF s112 5 t5,oS 1 t112 t111]) (.seq (.seq (.reg [oF s113 1 t5,oG s114 t113,oQ s115 .eql t114 (ci 4),oM s116 t115,⟨some s117,some (s116,true),(.p (.mov t0))⟩,⟨some s118,some (s116,true),(.e (.call 19 [t117,(.c (.str [101,108,115,101]))]) [])⟩,oP s119 (.pick t116 t118 (.c (.bool false)))]) (.cond t119
 (.seq (.reg [oM s120 t0,oN s121 t120,oF s122 2 t121,oG s123 t122,oQ s124 .add t123 (ci 1),oN s125 t120,oF s126 2 t125,oS 1 t126 t124]) (.reg [oM s127 t0,oM s128 t1,oQ s129 .add t128 (ci 1),oC s130 37 [t127,t129],oF s131 6 t5,oS 1 t131 t130]))
 .skip)) (.seq (.reg [oR s132 (.ld true 7 t5),oS 7 t4 t132]) .ret)))))))
 (.reg [oF s22 1 t5,oS 1 t22 (ci 7)])))))))))))) (.seq (.reg [oM s133 t0,oC s134 133 [t133,(ci 1),(ci 1)],oP s135 (.bsl 1 7 (.agg [(vi 0),(vi 0),(vi 0),(.str []),vz,vz,vz]) [(0,t134)]),oF s136 4 t5,oS 1 t136 t135]) (.seq (.reg [oM s137 t0,oC s138 33 [t137,(.c (.str [59]))]]) (.seq (.reg [oR s139 (.ld true 7 t5),oS 7 t4 t139]) .ret))))))))),2,[.c true 7 s4],none⟩
def b68x0:AC:=(.seq (.reg [oQ s52 .lss t51 t50]) (.seq (.cond t52
 .skip
 (.exit 4)) (.seq (.blk 5 (.seq (.reg [oP s53 (.iad 10 t49 t51),oR s54 (.ld true 10 t53),oX s8 (.new 3 false false (.cells 49 [(vi 0),(.str []),(.str []),vz,(vi 0),(.str []),vz,vz,vz,vz])) [],oS 10 t8 t54]) (.seq (.reg [oF s55 1 t8,oL s56 t55,oP s57 (.bin .neq eS t56 (.c (.str []))),oM s58 t57,⟨some s59,some (s58,false),(.p (.fad 2 t8))⟩,⟨some s60,some (s58,false),(.r (.ld false 1 t59))⟩,⟨some s61,some (s58,false),(.p (.bin .eql eS t60 (.c (.str []))))⟩,oP s62 (.pick t58 (.c (.bool true)) t61),oM s63 t62,⟨some s64,some (s63,false),(.r (.ld true 10 t8))⟩,⟨some s65,some (s63,false),(.e (.call 136 [t64]) [])⟩,⟨some s66,some (s63,false),(.p (.un .not t65))⟩,oP s67 (.pick t63 (.c (.bool true)) t66)]) (.cond t67
 (.seq (.reg [oM s2 (.c (.bool false))]) .ret)
 .skip)))) (.reg [oQ s68 .add t51 (ci 1),oM s51 t68]))))
def b68x1:AC:=(.seq (.reg [oQ s31 .lss t30 t29]) (.seq (.cond t31
 .skip
 (.exit 2)) (.seq (.blk 3 (.seq (.reg [oP s32 (.iad 10 t28 t30),oR s33 (.ld true 10 t32),oX s6 (.new 2 false false (.cells 49 [(vi 0),(.str []),(.str []),vz,(vi 0),(.str []),vz,vz,vz,vz])) [],oS 10 t6 t33]) (.seq (.reg [oF s34 1 t6,oL s35 t34,oP s36 (.bin .eql eS t35 (.c (.str []))),oM s37 t36,⟨some s38,some (s37,false),(.p (.fad 2 t6))⟩,⟨some s39,some (s37,false),(.r (.ld false 1 t38))⟩,⟨some s40,some (s37,false),(.p (.bin .eql eS t39 (.c (.str []))))⟩,oP s41 (.pick t37 (.c (.bool true)) t40),oM s42 t41,⟨some s43,some (s42,false),(.r (.ld true 10 t6))⟩,⟨some s44,some (s42,false),(.e (.call 136 [t43]) [])⟩,⟨some s45,some (s42,false),(.p (.un .not t44))⟩,oP s46 (.pick t42 (.c (.bool true)) t45)]) (.cond t46
 (.seq (.reg [oM s2 (.c (.bool false))]) .ret)
 .skip)))) (.reg [oQ s47 .add t30 (ci 1),oM s30 t47]))))
def b68x2:AC:=(.seq (.reg [oQ s13 .lss t12 t11]) (.seq (.cond t13
 .skip
 (.exit 0)) (.seq (.blk 1 (.seq (.reg [oP s14 (.iad 7 t10 t12),oR s15 (.ld true 7 t14),oX s4 (.new 1 false false (.cells 84 [(vi 0),(.str []),(vi 0),(.str []),vz,vz,vz])) [],oS 7 t4 t15]) (.seq (.reg [oF s16 1 t4,oL s17 t16,oC s18 134 [t17],oP s19 (.un .not t18),oM s20 t19,⟨some s21,some (s20,false),(.p (.fad 2 t4))⟩,⟨some s22,some (s20,false),(.r (.ld true 5 t21))⟩,⟨some s23,some (s20,false),(.e (.call 135 [t22,(ci 64)]) [])⟩,⟨some s24,some (s20,false),(.p (.un .not t23))⟩,oP s25 (.pick t20 (.c (.bool true)) t24)]) (.cond t25
 (.seq (.reg [oM s2 (.c (.bool false))]) .ret)
 .skip)))) (.reg [oQ s26 .add t12 (ci 1),oM s12 t26]))))
def f68:FI:=⟨(.seq (.reg [oX s1 (.box 0 false 51 13 t0) [],oM s2 (.c (.bool false))]) (.seq (.seq (.reg [oF s9 0 t1,oL s10 t9,oP s11 (.len false t10),oM s12 (ci 0)]) (.blk 0 (.loop b68x2))) (.seq (.seq (.reg [oF s27 1 t1,oL s28 t27,oP s29 (.len false t28),oM s30 (ci 0)]) (.blk 2 (.loop b68x1))) (.seq (.seq (.reg [oF s48 2 t1,oL s49 t48,oP s50 (.len false t49),oM s51 (ci 0)]) (.blk 4 (.loop b68x0))) (.seq (.reg [oF s69 3 t1,oF s70 1 t69,oL s71 t70,oP s72 (.bin .eql eS t71 (.c (.str []))),oM s73 t72,⟨some s74,some (s73,true),(.p (.fad 3 t1))⟩,⟨some s75,some (s73,true),(.p (.fad 2 t74))⟩,⟨some s76,some (s73,true),(.r (.ld false 1 t75))⟩,⟨some s77,some (s73,true),(.p (.bin .eql eS t76 (.c (.str []))))⟩,oP s78 (.pick t73 t77 (.c (.bool false))),oM s79 t78,⟨some s80,some (s79,true),(.p (.fad 3 t1))⟩,⟨some s81,some (s79,true),(.p (.fad 3 t80))⟩,⟨some s82,some (s79,true),(.r (.ld false 1 t81))⟩,⟨some s83,some (s79,true),(.p (.len false t82))⟩,⟨some s84,some (s79,true),(.p (.bin .eql eI t83 (ci 0)))⟩,oP s85 (.pick t79 t84 (.c (.bool false))),oM s86 t85,⟨some s87,some (s86,true),(.p (.fad 3 t1))⟩,⟨some s88,some (s86,true),(.r (.ld true 10 t87))⟩,⟨some s89,some (s86,true),(.e (.call 136 [t88]) [])⟩,oP s90 (.pick t86 t89 (.c (.bool false))),oM s2 t90]) .ret))))),4,[.t s2],none⟩
def f69:FI:=⟨(.seq (.reg [oM s4 (.c (.str [])),oM s5 (ci 0)]) (.seq (.blk 0 (.seq (.reg [oM s7 t1,oP s8 (.un .not t7),oM s6 t8]) (.cond t6
 (.seq (.reg [oM s4 (.c (.str [])),oM s5 (ci 1)]) .ret)
 (.seq (.reg [oM s10 t0,oN s11 t10,oF s12 0 t11,oC s13 112 [t12],oQ s14 .gtr t13 (ci 65536),oM s9 t14]) (.cond t9
 (.seq (.reg [oM s4 (.c (.str [])),oM s5 (ci 2)]) .ret)
 (.seq (.reg [oM s16 t0,oN s17 t16,oF s18 2 t17,oG s19 t18,oQ s20 .gtr t19 (ci 4096),oM s15 t20]) (.cond t15
 (.seq (.reg [oM s4 (.c (.str [])),oM s5 (ci 3)]) .ret)
 .skip))))))) (.seq (.reg [oM s21 t0,oN s22 t21,oF s23 0 t22,oC s24 56 [t23],oM s4 t24,oM s5 (ci 0)]) .ret))),0,[.t s4,.t s5],none⟩
def b70x0:AC:=(.seq (.reg [oQ s9 .lss t8 t7]) (.seq (.cond t9
 .skip
 (.exit 0)) (.seq (.blk 1 (.seq (.reg [oP s10 (.iad 1 t6 t8),oL s11 t10,oM s5 t11]) (.seq (.seq (.reg [oM s12 t0,oN s13 t12,oF s14 2 t13,oG s15 t14,oQ s16 .add t15 (ci 1),oN s17 t12,oF s18 2 t17,oS 1 t18 t16]) (.seq (.reg [oM s19 t0,oN s20 t19,oF s21 0 t20,oC s22 112 [t21],oQ s23 .gtr t22 (ci 65536)]) (.cond t23
 (.exit 1)
 .skip))) (.seq (.seq (.reg [oM s24 t0,oN s25 t24,oF s26 0 t25,oC s27 112 [t26],oQ s28 .gtr t27 (ci 0)]) (.cond t28
 (.reg [oM s29 t0,oN s30 t29,oF s31 0 t30,oC s32 110 [t31,(cu 32)]])
 .skip)) (.reg [oM s33 t0,oN s34 t33,oF s35 0 t34,oM s36 t5,oC s37 107 [t35,t36]]))))) (.reg [oQ s38 .add t8 (ci 1),oM s8 t38]))))
def f70:FI:=⟨(.seq (.reg [oM s6 t1,oP s7 (.len false t6),oM s8 (ci 0)]) (.blk 0 (.loop b70x0))),0,[],none⟩
def b71x0:AC:=(.seq (.reg [oQ s123 .lss t122 t121]) (.seq (.cond t123
 .skip
 (.exit 3)) (.seq (.blk 4 (.seq (.reg [oM s124 t122,oP s125 (.iad 5 t120 t122),oR s126 (.ld true 5 t125),oX s7 (.new 2 false false (.cells 46 [(vi 0),(.str []),vz,vz,vz])) [],oM s6 t124,oS 5 t7 t126]) (.seq (.reg [oM s127 t0,oN s128 t127,oF s129 0 t128,oF s130 2 t3,oL s131 t130,oM s132 t6,oP s133 (.iad 1 t131 t132),oL s134 t133,oP s135 (.bsl 1 1 (.str []) [(0,t134)]),oC s136 70 [t129,t135]]) (.seq (.reg [oM s137 t0,oR s138 (.ld true 5 t7),oC s139 137 [t137,t138]]) (.reg [oM s140 t0,oN s141 t140,oF s142 0 t141,oP s143 (.bsl 1 1 (.str []) [(0,(.c (.str [59])))]),oC s144 70 [t142,t143]]))))) (.reg [oQ s145 .add t122 (ci 1),oM s122 t145]))))
def b71x1:AC:=(.seq (.reg [oQ s64 .lss t63 t62]) (.seq (.cond t64
 .skip
 (.exit 1)) (.seq (.blk 2 (.seq (.reg [oM s65 t63,oP s66 (.iad 5 t61 t63),oR s67 (.ld true 5 t66),oX s5 (.new 1 false false (.cells 46 [(vi 0),(.str []),vz,vz,vz])) [],oM s4 t65,oS 5 t5 t67]) (.seq (.seq (.reg [oF s68 3 t3,oL s69 t68,oM s70 t4,oP s71 (.iad 1 t69 t70),oG s72 t71]) (.cond t72
 (.reg [oM s73 t0,oN s74 t73,oF s75 0 t74,oP s76 (.bsl 1 1 (.str []) [(0,(.c (.str [101,109,98,101,100])))]),oC s77 70 [t75,t76]])
 .skip)) (.seq (.reg [oM s78 t0,oN s79 t78,oF s80 0 t79,oF s81 2 t3,oL s82 t81,oM s83 t4,oP s84 (.iad 1 t82 t83),oL s85 t84,oP s86 (.bsl 1 1 (.str []) [(0,t85)]),oC s87 70 [t80,t86]]) (.seq (.reg [oM s88 t0,oR s89 (.ld true 5 t5),oC s90 71 [t88,t89]]) (.reg [oM s91 t0,oN s92 t91,oF s93 0 t92,oP s94 (.bsl 1 1 (.str []) [(0,(.c (.str [59])))]),oC s95 70 [t93,t94]])))))) (.reg [oQ s96 .add t63 (ci 1),oM s63 t96]))))
def f71:FI:=⟨(.seq (.reg [oX s3 (.box 0 false 46 5 t1) []]) (.seq (.reg [oF s8 0 t3,oG s9 t8]) (.blk 0 (.seq (.reg [oQ s11 .eql t9 (ci 1),oM s10 t11]) (.cond t10
 (.reg [oM s12 t0,oN s13 t12,oF s14 0 t13,oP s15 (.bsl 1 1 (.str []) [(0,(.c (.str [105,110,116])))]),oC s16 70 [t14,t15]])
 (.seq (.reg [oQ s18 .eql t9 (ci 2),oM s17 t18]) (.cond t17
 (.reg [oM s19 t0,oN s20 t19,oF s21 0 t20,oP s22 (.bsl 1 1 (.str []) [(0,(.c (.str [98,111,111,108])))]),oC s23 70 [t21,t22]])
 (.seq (.reg [oQ s25 .eql t9 (ci 3),oM s24 t25]) (.cond t24
 (.reg [oM s26 t0,oN s27 t26,oF s28 0 t27,oP s29 (.bsl 1 1 (.str []) [(0,(.c (.str [116,101,120,116])))]),oC s30 70 [t28,t29]])
 (.seq (.reg [oQ s32 .eql t9 (ci 4),oM s31 t32]) (.cond t31
 (.reg [oM s33 t0,oN s34 t33,oF s35 0 t34,oF s36 1 t3,oL s37 t36,oP s38 (.bsl 1 1 (.str []) [(0,t37)]),oC s39 70 [t35,t38]])
 (.seq (.reg [oQ s41 .eql t9 (ci 5),oM s40 t41]) (.cond t40
 (.seq (.reg [oM s42 t0,oN s43 t42,oF s44 0 t43,oP s45 (.bsl 1 1 (.str []) [(0,(.c (.str [42])))]),oC s46 70 [t44,t45]]) (.reg [oM s47 t0,oF s48 4 t3,oL s49 t48,oP s50 (.iad 5 t49 (ci 0)),oR s51 (.ld true 5 t50),oC s52 71 [t47,t51]]))
 (.seq (.reg [oQ s54 .eql t9 (ci 6),oM s53 t54]) (.cond t53
 (.seq (.reg [oM s55 t0,oN s56 t55,oF s57 0 t56,oP s58 (.bsl 1 1 (.str []) [(0,(.c (.str [123])))]),oC s59 70 [t57,t58]]) (.seq (.seq (.reg [oF s60 4 t3,oL s61 t60,oP s62 (.len false t61),oM s63 (ci 0)]) (.blk 1 (.loop b71x1))) (.reg [oM s97 t0,oN s98 t97,oF s99 0 t98,oP s100 (.bsl 1 1 (.str []) [(0,(.c (.str [125])))]),oC s101 70 [t99,t100]])))
 (.seq (.reg [oQ s103 .eql t9 (ci 7),oM s102 t103]) (.cond t102
 (.seq (.reg [oM s104 t0,oN s105 t104,oF s106 0 t105,oP s107 (.bsl 1 1 (.str []) [(0,(.c (.str [102,110])))]),oC s108 70 [t106,t107]]) (.reg [oM s109 t0,oR s110 (.ld true 5 t3),oC s111 137 [t109,t110]]))
 (.seq (.reg [oQ s113 .eql t9 (ci 8),oM s112 t113]) (.cond t112
 (.seq (.reg [oM s114 t0,oN s115 t114,oF s116 0 t115,oP s117 (.bsl 2 1 (.str []) [(0,(.c (.str [105,110,116,101,114,102,97,99,101]))),(1,(.c (.str [123])))]),oC s118 70 [t116,t117]]) (.seq (.seq (.reg [oF s119 4 t3,oL s120 t119,oP s121 (.len false t120),oM s122 (ci 0)]) (.blk 3 (.loop b71x0))) (.reg [oM s146 t0,oN s147 t146,oF s148 0 t147,oP s149 (.bsl 1 1 (.str []) [(0,(.c (.str [125])))]),oC s150 70 [t148,t149]])))
 .skip))))))))))))))))))),3,[],none⟩
def b72x0:AC:=(.seq (.reg [oQ s28 .lss t27 t26]) (.seq (.cond t28
 .skip
 (.exit 2)) (.seq (.blk 3 (.seq (.reg [oP s29 (.iad 1 t25 t27),oL s30 t29,oM s8 t30]) (.reg [oM s31 t6,oM s32 t8,oX s33 (.app 0 0 10 (.agg [(vi 0),(.str []),(.str []),vz,(vi 0),(.str []),vz,vz,vz,vz]) 184 t31 t32) [],oM s6 t33]))) (.reg [oQ s34 .add t27 (ci 1),oM s27 t34]))))
def b72x1:AC:=(.seq (.reg [oQ s12 .lss t11 t10]) (.seq (.cond t12
 .skip
 (.exit 0)) (.seq (.blk 1 (.seq (.reg [oP s13 (.iad 1 t9 t11),oL s14 t13,oM s5 t14]) (.seq (.reg [oM s15 t3,oM s16 t5,oP s17 (.len false t16),oQ s18 .add t15 t17,oM s3 t18]) (.seq (.reg [oM s19 t3,oQ s20 .lss t19 (ci 0)]) (.cond t20
 (.reg [oP s21 (.ifc 9 (.c (.str [108,101,110,32,111,117,116,32,111,102,32,114,97,110,103,101]))),oY (.pan t21) []])
 .skip))))) (.reg [oQ s22 .add t11 (ci 1),oM s11 t22]))))
def f72:FI:=⟨(.seq (.reg [oM s2 (.c vz)]) (.seq (.reg [oM s3 (ci 0)]) (.seq (.seq (.reg [oM s9 t0,oP s10 (.len false t9),oM s11 (ci 0)]) (.blk 0 (.loop b72x1))) (.seq (.reg [oM s23 t3,oC s24 138 [(.c vz),t23],oM s6 t24]) (.seq (.seq (.reg [oM s25 t0,oP s26 (.len false t25),oM s27 (ci 0)]) (.blk 2 (.loop b72x0))) (.seq (.reg [oM s35 t6,oM s2 t35]) .ret)))))),0,[.t s2],none⟩
def b73x0:AC:=(.seq (.reg [oQ s52 .lss t51 t50]) (.seq (.cond t52
 .skip
 (.exit 1)) (.seq (.blk 2 (.seq (.reg [oM s53 t51,oP s54 (.iad 6 t49 t51),oR s55 (.ld true 6 t54),oX s5 (.new 1 false false (.cells 121 [(.str []),(vi 0),(.str []),vz,vz,vz])) [],oM s4 t53,oS 6 t5 t55]) (.seq (.reg [oM s56 t0,oM s57 t4,oC s58 139 [t56,t57]]) (.seq (.reg [oM s59 t0,oN s60 t59,oF s61 0 t60,oF s62 0 t5,oL s63 t62,oP s64 (.bsl 1 1 (.str []) [(0,t63)]),oC s65 70 [t61,t64]]) (.reg [oM s66 t0,oF s67 1 t5,oR s68 (.ld true 5 t67),oC s69 71 [t66,t68]]))))) (.reg [oQ s70 .add t51 (ci 1),oM s51 t70]))))
def f73:FI:=⟨(.seq (.reg [oX s3 (.box 0 false 49 10 t1) []]) (.seq (.blk 0 (.seq (.reg [oF s12 1 t3,oL s13 t12,oP s14 (.bin .neq eS t13 (.c (.str []))),oM s11 t14]) (.cond t11
 (.reg [oM s15 t0,oN s16 t15,oF s17 0 t16,oF s18 1 t3,oL s19 t18,oF s20 2 t3,oL s21 t20,oP s22 (.bsl 4 1 (.str []) [(0,(.c (.str [109,101,116,104,111,100]))),(1,t19),(2,(.c (.str [46]))),(3,t21)]),oC s23 70 [t17,t22]])
 (.seq (.reg [oF s25 2 t3,oL s26 t25,oP s27 (.bin .neq eS t26 (.c (.str []))),oM s24 t27]) (.cond t24
 (.reg [oM s28 t0,oN s29 t28,oF s30 0 t29,oF s31 2 t3,oL s32 t31,oP s33 (.bsl 2 1 (.str []) [(0,(.c (.str [102,117,110,99]))),(1,t32)]),oC s34 70 [t30,t33]])
 (.reg [oM s6 t0,oN s7 t6,oF s8 0 t7,oP s9 (.bsl 1 1 (.str []) [(0,(.c (.str [109,97,105,110])))]),oC s10 70 [t8,t9]])))))) (.seq (.seq (.reg [oF s35 1 t3,oL s36 t35,oP s37 (.bin .neq eS t36 (.c (.str []))),oM s38 t37,⟨some s39,some (s38,false),(.p (.fad 2 t3))⟩,⟨some s40,some (s38,false),(.r (.ld false 1 t39))⟩,⟨some s41,some (s38,false),(.p (.bin .neq eS t40 (.c (.str []))))⟩,oP s42 (.pick t38 (.c (.bool true)) t41)]) (.cond t42
 (.seq (.reg [oM s43 t0,oN s44 t43,oF s45 0 t44,oP s46 (.bsl 1 1 (.str []) [(0,(.c (.str [40])))]),oC s47 70 [t45,t46]]) (.seq (.seq (.reg [oF s48 3 t3,oL s49 t48,oP s50 (.len false t49),oM s51 (ci 0)]) (.blk 1 (.loop b73x0))) (.reg [oM s71 t0,oN s72 t71,oF s73 0 t72,oP s74 (.bsl 1 1 (.str []) [(0,(.c (.str [41])))]),oC s75 70 [t73,t74]])))
 .skip)) (.seq (.reg [oM s76 t0,oF s77 4 t3,oR s78 (.ld true 5 t77),oC s79 71 [t76,t78]]) (.reg [oM s80 t0,oF s81 9 t3,oL s82 t81,oC s83 140 [t80,t82]]))))),2,[],none⟩
def b74x0:AC:=(.seq (.reg [oQ s41 .lss t40 t39]) (.seq (.cond t41
 .skip
 (.exit 2)) (.seq (.blk 3 (.seq (.reg [oP s42 (.iad 7 t38 t40),oR s43 (.ld true 7 t42),oX s10 (.new 3 false false (.cells 84 [(vi 0),(.str []),(vi 0),(.str []),vz,vz,vz])) [],oS 7 t10 t43]) (.seq (.reg [oF s45 1 t10,oL s46 t45,oP s47 (.bld [(vi 0),(.str []),vz,vz,vz] [(0,1,(ci 4)),(1,1,t46)]),oC s48 142 [t47],oM s44 t48,oE s49 t44 0,oE s50 t44 1,oM s11 t49,oM s12 t50]) (.seq (.reg [oM s51 t12,oQ s52 .neq t51 (ci 0),oM s53 t52,⟨some s54,some (s53,false),(.p (.fad 2 t10))⟩,⟨some s55,some (s53,false),(.r (.ld true 5 t54))⟩,⟨some s56,some (s53,false),(.e (.call 143 [t55]) [])⟩,⟨some s57,some (s53,false),(.p (.un .not t56))⟩,oP s58 (.pick t53 (.c (.bool true)) t57)]) (.cond t58
 (.seq (.reg [oF s59 0 t10,oR s60 (.ld true 1 t59),oF s61 1 t10,oL s62 t61,oC s63 141 [t60,(ci 1),t62],oM s2 (.c .nilm),oM s3 t63]) .ret)
 .skip))))) (.reg [oQ s64 .add t40 (ci 1),oM s40 t64]))))
def b74x1:AC:=(.seq (.reg [oQ s17 .lss t16 t15]) (.seq (.cond t17
 .skip
 (.exit 0)) (.seq (.blk 1 (.seq (.reg [oP s18 (.iad 7 t14 t16),oR s19 (.ld true 7 t18),oX s6 (.new 1 false false (.cells 84 [(vi 0),(.str []),(vi 0),(.str []),vz,vz,vz])) [],oS 7 t6 t19]) (.seq (.seq (.reg [oM s21 t4,oF s22 1 t6,oL s23 t22,oR s24 (.lku false [.s] true (.agg [(vi 0),(.str []),(vi 0),(.str []),vz,vz,vz]) t21 t23),oM s20 t24,oE s25 t20 0,oE s26 t20 1,oX s7 (.new 2 false false (.cells 84 [(vi 0),(.str []),(vi 0),(.str []),vz,vz,vz])) [],oS 7 t7 t25,oM s8 t26]) (.seq (.reg [oM s27 t8]) (.cond t27
 (.seq (.reg [oF s28 0 t6,oR s29 (.ld true 1 t28),oF s30 1 t6,oL s31 t30,oC s32 141 [t29,(ci 20),t31],oM s2 (.c .nilm),oM s3 t32]) .ret)
 .skip))) (.reg [oM s33 t4,oF s34 1 t6,oL s35 t34,oR s36 (.ld true 7 t6),oY (.mup false [.s] t33 t35 t36) []])))) (.reg [oQ s37 .add t16 (ci 1),oM s16 t37]))))
def f74:FI:=⟨(.seq (.reg [oM s2 (.c .nilm),oM s3 (.c .nilp)]) (.seq (.reg [oX s13 (.new 0 true true (.map [])) [],oM s4 t13]) (.seq (.seq (.reg [oM s14 t0,oP s15 (.len false t14),oM s16 (ci 0)]) (.blk 0 (.loop b74x1))) (.seq (.seq (.reg [oM s38 t0,oP s39 (.len false t38),oM s40 (ci 0)]) (.blk 2 (.loop b74x0))) (.seq (.reg [oM s65 t4,oM s2 t65,oM s3 (.c .nilp)]) .ret))))),4,[.t s2,.t s3],none⟩
def b75x0:AC:=(.seq (.reg [oQ s17 .lss t16 t15]) (.seq (.cond t17
 .skip
 (.exit 0)) (.seq (.blk 1 (.seq (.reg [oP s18 (.iad 10 t14 t16),oR s19 (.ld true 10 t18),oX s7 (.new 1 false false (.cells 49 [(vi 0),(.str []),(.str []),vz,(vi 0),(.str []),vz,vz,vz,vz])) [],oS 10 t7 t19]) (.seq (.reg [oR s21 (.ld true 10 t7),oC s22 144 [t21],oM s20 t22,oE s23 t20 0,oE s24 t20 1,oM s8 t23,oM s9 t24]) (.seq (.reg [oM s26 t0,oF s27 1 t7,oL s28 t27,oR s29 (.lku false [.s] true (.agg [(vi 0),(.str []),(vi 0),(.str []),vz,vz,vz]) t26 t28),oM s25 t29,oE s30 t25 0,oE s31 t25 1,oX s10 (.new 2 false false (.cells 84 [(vi 0),(.str []),(vi 0),(.str []),vz,vz,vz])) [],oS 7 t10 t30,oM s11 t31]) (.seq (.reg [oF s32 1 t7,oL s33 t32,oF s34 2 t7,oL s35 t34,oP s36 (.bld [(.str []),(.str [])] [(0,1,t33),(1,1,t35)]),oX s12 (.new 3 false false (.cells 289 [(.str []),(.str [])])) [],oS 2 t12 t36]) (.seq (.reg [oM s37 t5,oR s38 (.ld true 2 t12),oR s39 (.lku true [.s,.s] false (vi 0) t37 t38),oQ s40 .add t39 (ci 1),oX s41 (.men true [.s,.s] (vi 0) t37 t38) [],oE s42 t41 1,oY (.est true [.s,.s] t37 t42 t40) []]) (.blk 2 (.seq (.reg [oF s44 1 t7,oL s45 t44,oP s46 (.bin .eql eS t45 (.c (.str []))),oM s47 t46,⟨some s48,some (s47,false),(.p (.fad 2 t7))⟩,⟨some s49,some (s47,false),(.r (.ld false 1 t48))⟩,⟨some s50,some (s47,false),(.p (.bin .eql eS t49 (.c (.str []))))⟩,oP s51 (.pick t47 (.c (.bool true)) t50),oM s52 t51,⟨some s53,some (s52,false),(.p (.mov t9))⟩,⟨some s54,some (s52,false),(.p (.bin .eql eI t53 (ci 1)))⟩,oP s55 (.pick t52 (.c (.bool true)) t54),oM s43 t55]) (.cond t43
 (.seq (.reg [oF s56 0 t7,oR s57 (.ld true 1 t56),oF s58 2 t7,oL s59 t58,oC s60 141 [t57,(ci 1),t59],oM s4 t60]) .ret)
 (.seq (.reg [oM s62 t11,oP s63 (.un .not t62),oM s64 t63,⟨some s65,some (s64,false),(.p (.fad 2 t10))⟩,⟨some s66,some (s64,false),(.p (.fad 0 t65))⟩,⟨some s67,some (s64,false),(.r (.ldc t66))⟩,⟨some s68,some (s64,false),(.p (.bin .neq eI t67 (ci 6)))⟩,oP s69 (.pick t64 (.c (.bool true)) t68),oM s61 t69]) (.cond t61
 (.seq (.reg [oF s70 0 t7,oR s71 (.ld true 1 t70),oF s72 2 t7,oL s73 t72,oC s74 141 [t71,(ci 25),t73],oM s4 t74]) .ret)
 (.seq (.reg [oM s76 t5,oR s77 (.ld true 2 t12),oR s78 (.lku true [.s,.s] false (vi 0) t76 t77),oQ s79 .gtr t78 (ci 1),oM s80 t79,⟨some s81,some (s80,false),(.p (.fad 2 t10))⟩,⟨some s82,some (s80,false),(.p (.fad 2 t81))⟩,⟨some s83,some (s80,false),(.r (.ld false 1 t82))⟩,⟨some s84,some (s80,false),(.p (.fad 2 t7))⟩,⟨some s85,some (s80,false),(.r (.ld false 1 t84))⟩,⟨some s86,some (s80,false),(.e (.call 145 [t83,t85]) [])⟩,oP s87 (.pick t80 (.c (.bool true)) t86),oM s75 t87]) (.cond t75
 (.seq (.reg [oF s88 0 t7,oR s89 (.ld true 1 t88),oF s90 2 t7,oL s91 t90,oC s92 141 [t89,(ci 20),t91],oM s4 t92]) .ret)
 .skip))))))))))))) (.reg [oQ s93 .add t16 (ci 1),oM s16 t93]))))
def f75:FI:=⟨(.seq (.reg [oM s4 (.c .nilp)]) (.seq (.reg [oX s13 (.new 0 false true (.map [])) [],oM s5 t13]) (.seq (.seq (.reg [oM s14 t1,oP s15 (.len false t14),oM s16 (ci 0)]) (.blk 0 (.loop b75x0))) (.seq (.reg [oM s4 (.c .nilp)]) .ret)))),4,[.t s4],none⟩
def b76x0:AC:=(.seq (.reg [oQ s30 .lss t29 t28]) (.seq (.cond t30
 .skip
 (.exit 2)) (.seq (.blk 3 (.seq (.reg [oP s31 (.iad 10 t27 t29),oR s32 (.ld true 10 t31),oX s9 (.new 1 false false (.cells 49 [(vi 0),(.str []),(.str []),vz,(vi 0),(.str []),vz,vz,vz,vz])) [],oS 10 t9 t32]) (.reg [oM s33 t5,oF s34 0 t9,oR s35 (.ld true 1 t34),oF s36 2 t9,oL s37 t36,oR s38 (.ld true 10 t9),oX s39 (.call 146 [t38]) [(.l t36),(.l t34)],oP s40 (.bld [(vi 0),(.str []),(vi 0),(.str []),vz,vz,vz] [(0,1,t35),(1,1,t37),(2,5,t39)]),oP s41 (.bsl 1 7 (.agg [(vi 0),(.str []),(vi 0),(.str []),vz,vz,vz]) [(0,t40)]),oX s42 (.app 2 0 7 (.agg [(vi 0),(.str []),(vi 0),(.str []),vz,vz,vz]) 120 t33 t41) [],oM s5 t42]))) (.reg [oQ s43 .add t29 (ci 1),oM s29 t43]))))
def b76x1:AC:=(.seq (.reg [oQ s13 .lss t12 t11]) (.seq (.cond t13
 .skip
 (.exit 0)) (.seq (.blk 1 (.seq (.reg [oP s14 (.iad 7 t10 t12),oR s15 (.ld true 7 t14),oX s7 (.new 0 false false (.cells 84 [(vi 0),(.str []),(vi 0),(.str []),vz,vz,vz])) [],oS 7 t7 t15]) (.reg [oM s16 t5,oF s17 0 t7,oR s18 (.ld true 1 t17),oF s19 1 t7,oL s20 t19,oF s21 2 t7,oR s22 (.ld true 5 t21),oP s23 (.bld [(vi 0),(.str []),(vi 0),(.str []),vz,vz,vz] [(0,1,t18),(1,1,t20),(2,5,t22)]),oP s24 (.bsl 1 7 (.agg [(vi 0),(.str []),(vi 0),(.str []),vz,vz,vz]) [(0,t23)]),oX s25 (.app 1 0 7 (.agg [(vi 0),(.str []),(vi 0),(.str []),vz,vz,vz]) 120 t16 t24) [],oM s5 t25]))) (.reg [oQ s26 .add t12 (ci 1),oM s12 t26]))))
def f76:FI:=⟨(.seq (.reg [oM s4 (.c vz)]) (.seq (.reg [oM s5 (.c vz)]) (.seq (.seq (.reg [oM s10 t0,oP s11 (.len false t10),oM s12 (ci 0)]) (.blk 0 (.loop b76x1))) (.seq (.seq (.reg [oM s27 t1,oP s28 (.len false t27),oM s29 (ci 0)]) (.blk 2 (.loop b76x0))) (.seq (.reg [oM s44 t5,oM s4 t44]) .ret))))),2,[.t s4],none⟩
def b77x0:AC:=(.seq (.reg [oQ s84 .lss t83 t82]) (.seq (.cond t84
 .skip
 (.exit 6)) (.seq (.blk 7 (.seq (.reg [oP s85 (.iad 7 t81 t83),oR s86 (.ld true 7 t85),oX s20 (.new 4 false false (.cells 203 [(vi 0),(.str []),(vi 0),(.str []),vz,vz,vz])) [],oS 7 t20 t86]) (.seq (.reg [oM s88 t0,oF s89 2 t20,oR s90 (.ld true 5 t89),oC s91 148 [t88,t90],oM s87 t91,oE s92 t87 0,oE s93 t87 1,oM s21 t92,oM s22 t93]) (.seq (.reg [oM s94 t22]) (.cond t94
 (.seq (.reg [oF s95 0 t20,oR s96 (.ld true 1 t95),oM s97 t21,oC s98 141 [t96,(ci 24),t97],oM s6 t98]) .ret)
 .skip))))) (.reg [oQ s99 .add t83 (ci 1),oM s83 t99]))))
def b77x1:AC:=(.seq (.reg [oQ s67 .lss t66 t65]) (.seq (.cond t67
 .skip
 (.exit 4)) (.seq (.blk 5 (.seq (.reg [oP s68 (.iad 7 t64 t66),oR s69 (.ld true 7 t68),oX s18 (.new 3 false false (.cells 203 [(vi 0),(.str []),(vi 0),(.str []),vz,vz,vz])) [],oS 7 t18 t69]) (.reg [oM s70 t16,oF s71 2 t18,oR s72 (.ld true 5 t71),oP s73 (.bsl 1 5 (.agg [(vi 0),(.str []),vz,vz,vz]) [(0,t72)]),oC s74 78 [t73],oQ s75 .add t70 t74,oM s16 t75]))) (.reg [oQ s76 .add t66 (ci 1),oM s66 t76]))))
def b77x2:AC:=(.seq (.reg [oQ s45 .lss t44 t43]) (.seq (.cond t45
 .skip
 (.exit 2)) (.seq (.blk 3 (.seq (.reg [oP s46 (.iad 7 t42 t44),oR s47 (.ld true 7 t46),oX s12 (.new 1 false false (.cells 84 [(vi 0),(.str []),(vi 0),(.str []),vz,vz,vz])) [],oS 7 t12 t47]) (.seq (.reg [oM s49 t0,oF s50 2 t12,oR s51 (.ld true 5 t50),oC s52 79 [t49,t51],oM s48 t52,oE s53 t48 0,oE s54 t48 1,oE s55 t48 2,oX s13 (.new 2 false false (.cells 46 [(vi 0),(.str []),vz,vz,vz])) [],oS 5 t13 t53,oM s14 t54,oM s15 t55]) (.seq (.reg [oM s56 t15,oP s57 (.un .not t56)]) (.cond t57
 (.seq (.reg [oF s58 0 t12,oR s59 (.ld true 1 t58),oF s60 1 t12,oL s61 t60,oC s62 141 [t59,(ci 22),t61],oM s6 t62]) .ret)
 .skip))))) (.reg [oQ s63 .add t44 (ci 1),oM s44 t63]))))
def b77x3:AC:=(.seq (.reg [oQ s26 .lss t25 t24]) (.seq (.cond t26
 .skip
 (.exit 0)) (.seq (.blk 1 (.seq (.reg [oP s27 (.iad 7 t23 t25),oR s28 (.ld true 7 t27),oX s8 (.new 0 false false (.cells 203 [(vi 0),(.str []),(vi 0),(.str []),vz,vz,vz])) [],oS 7 t8 t28]) (.seq (.reg [oM s30 t0,oF s31 2 t8,oR s32 (.ld true 5 t31),oC s33 147 [t30,t32],oM s29 t33,oE s34 t29 0,oE s35 t29 1,oM s9 t34,oM s10 t35]) (.seq (.reg [oM s36 t10]) (.cond t36
 (.seq (.reg [oF s37 0 t8,oR s38 (.ld true 1 t37),oM s39 t9,oC s40 141 [t38,(ci 21),t39],oM s6 t40]) .ret)
 .skip))))) (.reg [oQ s41 .add t25 (ci 1),oM s25 t41]))))
def f77:FI:=⟨(.seq (.reg [oM s6 (.c .nilp)]) (.seq (.seq (.reg [oM s23 t2,oP s24 (.len false t23),oM s25 (ci 0)]) (.blk 0 (.loop b77x3))) (.seq (.seq (.reg [oM s42 t1,oP s43 (.len false t42),oM s44 (ci 0)]) (.blk 2 (.loop b77x2))) (.seq (.reg [oM s16 (ci 0)]) (.seq (.seq (.reg [oM s64 t2,oP s65 (.len false t64),oM s66 (ci 0)]) (.blk 4 (.loop b77x1))) (.seq (.seq (.reg [oM s77 t16,oQ s78 .gtr t77 (ci 1024)]) (.cond t78
 (.seq (.reg [oP s79 (.bld [(vi 0)] []),oC s80 141 [t79,(ci 23),(.c (.str []))],oM s6 t80]) .ret)
 .skip)) (.seq (.seq (.reg [oM s81 t2,oP s82 (.len false t81),oM s83 (ci 0)]) (.blk 6 (.loop b77x0))) (.seq (.reg [oM s6 (.c .nilp)]) .ret)))))))),5,[.t s6],none⟩
def b78x0:AC:=(.seq (.reg [oQ s9 .lss t8 t7]) (.seq (.cond t9
 .skip
 (.exit 0)) (.seq (.blk 1 (.seq (.reg [oP s10 (.iad 5 t6 t8),oR s11 (.ld true 5 t10),oX s5 (.new 0 false false (.cells 46 [(vi 0),(.str []),vz,vz,vz])) [],oS 5 t5 t11]) (.seq (.seq (.reg [oF s12 0 t5,oG s13 t12,oQ s14 .neq t13 (ci 4)]) (.cond t14
 (.reg [oM s15 t3,oQ s16 .add t15 (ci 1),oM s3 t16])
 .skip)) (.reg [oM s17 t3,oF s18 4 t5,oL s19 t18,oC s20 78 [t19],oQ s21 .add t17 t20,oM s3 t21])))) (.reg [oQ s22 .add t8 (ci 1),oM s8 t22]))))
def f78:FI:=⟨(.seq (.reg [oM s2 (ci 0)]) (.seq (.reg [oM s3 (ci 0)]) (.seq (.seq (.reg [oM s6 t0,oP s7 (.len false t6),oM s8 (ci 0)]) (.blk 0 (.loop b78x0))) (.seq (.reg [oM s23 t3,oM s2 t23]) .ret)))),1,[.t s2],none⟩
def b79x0:AC:=(.seq (.seq (.reg [oF s12 0 t3,oG s13 t12,oQ s14 .eql t13 (ci 4)]) (.cond t14
 .skip
 (.exit 0))) (.blk 1 (.seq (.reg [oM s16 t0,oF s17 1 t3,oL s18 t17,oR s19 (.lku false [.s] true (.agg [(vi 0),(.str []),(vi 0),(.str []),vz,vz,vz]) t16 t18),oM s15 t19,oE s20 t15 0,oE s21 t15 1,oX s9 (.new 3 false false (.cells 84 [(vi 0),(.str []),(vi 0),(.str []),vz,vz,vz])) [],oS 7 t9 t20,oM s10 t21]) (.seq (.seq (.reg [oM s22 t8,oF s23 1 t3,oL s24 t23,oR s25 (.lku false [.s] false (vi 0) t22 t24),oQ s26 .add t25 (ci 1),oY (.mup false [.s] t22 t24 t26) []]) (.seq (.reg [oM s27 t10,oP s28 (.un .not t27),oM s29 t28,⟨some s30,some (s29,false),(.p (.mov t8))⟩,⟨some s31,some (s29,false),(.p (.fad 1 t3))⟩,⟨some s32,some (s29,false),(.r (.ld false 1 t31))⟩,⟨some s33,some (s29,false),(.r (.lku false [.s] false (vi 0) t30 t32))⟩,⟨some s34,some (s29,false),(.p (.bin .gtr eI t33 (ci 1)))⟩,oP s35 (.pick t29 (.c (.bool true)) t34)]) (.cond t35
 (.seq (.reg [oP s36 (.bld [(vi 0),(.str []),vz,vz,vz] []),oS 5 t4 t36,oM s5 (.c (.str [])),oM s6 (.c (.bool false))]) .ret)
 .skip))) (.reg [oF s37 1 t3,oL s38 t37,oF s39 2 t9,oR s40 (.ld true 5 t39),oM s7 t38,oS 5 t3 t40])))))
def f79:FI:=⟨(.seq (.reg [oX s3 (.box 0 false 46 5 t1) [],oX s4 (.new 1 false false (.cells 46 [(vi 0),(.str []),vz,vz,vz])) [],oM s5 (.c (.str [])),oM s6 (.c (.bool false))]) (.seq (.reg [oM s7 (.c (.str []))]) (.seq (.reg [oX s11 (.new 2 false true (.map [])) [],oM s8 t11]) (.seq (.blk 0 (.loop b79x0)) (.seq (.reg [oR s41 (.ld true 5 t3),oM s42 t7,oS 5 t4 t41,oM s5 t42,oM s6 (.c (.bool true))]) .ret))))),4,[.c true 5 s4,.t s5,.t s6],none⟩
def f80:FI:=⟨(.seq (.reg [oM s5 t0,oP s6 (.len false t5),oM s4 t6]) (.reg [oM s7 t0,oM s8 t4,oM s9 t4,oP s10 (.cvi .u64 t9),oC s11 150 [t10],oM s12 t1,oC s13 149 [t7,(ci 0),t8,t11,t12]])),0,[],none⟩
def f81:FI:=⟨(.seq (.reg [oX s2 (.box 0 false 198 2 t0) [],oX s3 (.box 1 false 198 2 t1) [],oM s4 (ci 0)]) (.seq (.reg [oF s5 0 t2,oL s6 t5,oF s7 0 t3,oL s8 t7,oC s9 82 [t6,t8],oM s4 t9]) .ret)),2,[.t s4],none⟩
def f82:FI:=⟨(.seq (.reg [oM s4 (ci 0)]) (.seq (.blk 0 (.seq (.reg [oM s6 t0,oM s7 t1,oP s8 (.bin .lss eS t6 t7),oM s5 t8]) (.cond t5
 (.seq (.reg [oM s4 (.c (vj 0))]) .ret)
 (.seq (.reg [oM s10 t0,oM s11 t1,oP s12 (.bin .gtr eS t10 t11),oM s9 t12]) (.cond t9
 (.seq (.reg [oM s4 (ci 1)]) .ret)
 .skip))))) (.seq (.reg [oM s4 (ci 0)]) .ret))),0,[.t s4],none⟩
def b83x0:AC:=(.seq (.reg [oQ s50 .lss t49 t48]) (.seq (.cond t50
 .skip
 (.exit 0)) (.seq (.blk 1 (.seq (.reg [oP s51 (.iad 5 t47 t49),oR s52 (.ld true 5 t51),oX s10 (.new 2 false false (.cells 46 [(vi 0),(.str []),vz,vz,vz])) [],oS 5 t10 t52]) (.reg [oM s53 t8,oM s54 t0,oR s55 (.ld true 5 t10),oC s56 83 [t54,t55],oP s57 (.bsl 1 1 (vi 0) [(0,t56)]),oX s58 (.app 3 0 1 (vi 0) 8 t53 t57) [],oM s8 t58]))) (.reg [oQ s59 .add t49 (ci 1),oM s49 t59]))))
def f83:FI:=⟨(.seq (.reg [oX s3 (.box 0 false 46 5 t1) [],oM s4 (ci 0)]) (.seq (.seq (.reg [oF s11 0 t3,oG s12 t11,oQ s13 .eql t12 (ci 4)]) (.cond t13
 (.seq (.reg [oM s15 t0,oF s16 1 t3,oL s17 t16,oC s18 94 [t15,t17],oM s14 t18,oE s19 t14 0,oE s20 t14 1,oM s5 t19,oM s6 t20]) (.seq (.reg [oM s21 t5,oM s4 t21]) .ret))
 .skip)) (.seq (.reg [oM s22 t0,oN s23 t22,oF s24 0 t23,oL s25 t24,oP s26 (.len false t25),oM s7 t26]) (.seq (.reg [oM s27 t0,oM s28 t0,oN s29 t28,oF s30 0 t29,oL s31 t30,oF s32 0 t3,oG s33 t32,oP s34 (.bld [(vi 0),vz] [(0,1,t33)]),oF s35 2 t3,oL s36 t35,oF s38 3 t3,oL s39 t38,oX s37 (.call 151 [t36]) [(.l t38),(.c t32),(.l t30)],oX s40 (.call 152 [t39]) [(.c t32),(.l t30)],oP s41 (.bld [(vi 0),vz,vz,vz,(.str [])] [(0,2,t34),(2,1,t37),(3,1,t40)]),oP s42 (.bsl 1 5 (.agg [(vi 0),vz,vz,vz,(.str [])]) [(0,t41)]),oX s43 (.app 1 2 5 (.agg [(vi 0),vz,vz,vz,(.str [])]) 96 t31 t42) [],oN s44 t27,oF s45 0 t44,oS 1 t45 t43]) (.seq (.reg [oM s8 (.c vz)]) (.seq (.seq (.reg [oF s46 4 t3,oL s47 t46,oP s48 (.len false t47),oM s49 (ci 0)]) (.blk 0 (.loop b83x0))) (.seq (.reg [oM s60 t0,oN s61 t60,oF s62 0 t61,oL s63 t62,oM s64 t7,oM s65 t8,oP s66 (.iad 5 t63 t64),oF s67 0 t66,oF s68 1 t67,oS 1 t68 t65]) (.seq (.reg [oM s69 t7,oM s4 t69]) .ret)))))))),3,[.t s4],none⟩
def f84:FI:=⟨(.seq (.reg [oM s5 t0,oP s6 (.len false t5),oM s4 t6]) (.reg [oM s7 t0,oM s8 t4,oM s9 t4,oP s10 (.cvi .u64 t9),oC s11 150 [t10],oM s12 t1,oC s13 153 [t7,(ci 0),t8,t11,t12]])),0,[],none⟩
def f86:FI:=⟨(.seq (.reg [oX s4 (.box 0 false 41 1 t1) [],oX s5 (.box 1 false 46 5 t2) [],oM s6 (ci 0)]) (.seq (.reg [oM s11 t0,oN s12 t11,oF s13 14 t12,oG s14 t13,oR s15 (.ld true 5 t5),oP s16 (.bsl 1 5 (.agg [(vi 0),(.str []),vz,vz,vz]) [(0,t15)]),oC s17 154 [t14,t16],oM s10 t17,oE s18 t10 0,oE s19 t10 1,oM s7 t18,oM s8 t19]) (.seq (.seq (.reg [oM s20 t8,oP s21 (.bin .neq .ifc t20 (.c .nili))]) (.cond t21
 (.seq (.reg [oM s22 t8,oP s23 (.tas 128 false .undef t22),oM s9 t23]) (.reg [oR s24 (.ld true 1 t4),oM s25 t9,oN s26 t25,oF s27 1 t26,oG s28 t27,oM s29 t9,oN s30 t29,oF s31 2 t30,oL s32 t31,oC s33 40 [t24,t28,t32]]))
 .skip)) (.seq (.reg [oM s34 t7,oP s35 (.iad 1 t34 (ci 0)),oG s36 t35,oM s6 t36]) .ret)))),2,[.t s6],none⟩
def b87x0:AC:=(.seq (.reg [oQ s11 .lss t10 t9]) (.seq (.cond t11
 .skip
 (.exit 0)) (.seq (.blk 1 (.seq (.reg [oP s12 (.iad 6 t8 t10),oR s13 (.ld true 6 t12),oX s5 (.new 3 false false (.cells 121 [(.str []),(vi 0),(.str []),vz,vz,vz])) [],oS 6 t5 t13]) (.reg [oF s14 4 t3,oL s15 t14,oF s16 1 t5,oR s17 (.ld true 5 t16),oP s18 (.bsl 1 5 (.agg [(vi 0),(.str []),vz,vz,vz]) [(0,t17)]),oX s19 (.app 4 0 5 (.agg [(vi 0),(.str []),vz,vz,vz]) 96 t15 t18) [],oF s20 4 t3,oS 1 t20 t19]))) (.reg [oQ s21 .add t10 (ci 1),oM s10 t21]))))
def f87:FI:=⟨(.seq (.reg [oX s1 (.box 0 false 49 10 t0) [],oX s2 (.new 1 false false (.cells 46 [(vi 0),(.str []),vz,vz,vz])) []]) (.seq (.reg [oP s6 (.bld [(vi 0),(.str []),vz,vz,vz] [(0,1,(ci 7))]),oX s3 (.new 2 false false (.cells 46 [(vi 0),(.str []),vz,vz,vz])) [],oS 5 t3 t6]) (.seq (.seq (.reg [oF s7 3 t1,oL s8 t7,oP s9 (.len false t8),oM s10 (ci 0)]) (.blk 0 (.loop b87x0))) (.seq (.reg [oF s22 4 t3,oL s23 t22,oF s24 4 t1,oR s25 (.ld true 5 t24),oP s26 (.bsl 1 5 (.agg [(vi 0),(.str []),vz,vz,vz]) [(0,t25)]),oX s27 (.app 4 0 5 (.agg [(vi 0),(.str []),vz,vz,vz]) 96 t23 t26) [],oF s28 4 t3,oS 1 t28 t27]) (.seq (.reg [oR s29 (.ld true 5 t3),oS 5 t2 t29]) .ret))))),4,[.c true 5 s2],none⟩
def f88:FI:=⟨(.seq (.reg [oX s1 (.box 0 false 51 13 t0) [],oM s2 (.c vz)]) (.seq (.reg [oP s4 (.bsl 0 10 (.agg [(vi 0),(.str []),(.str []),vz,(vi 0),(.str []),vz,vz,vz,vz]) []),oF s5 1 t1,oL s6 t5,oX s7 (.app 1 0 10 (.agg [(vi 0),(.str []),(.str []),vz,(vi 0),(.str []),vz,vz,vz,vz]) 184 t4 t6) [],oM s3 t7]) (.seq (.reg [oM s8 t3,oF s9 2 t1,oL s10 t9,oF s12 3 t1,oR s13 (.ld true 10 t12),oP s14 (.bsl 1 10 (.agg [(vi 0),(.str []),(.str []),vz,(vi 0),(.str []),vz,vz,vz,vz]) [(0,t13)]),oX s11 (.app 1 0 10 (.agg [(vi 0),(.str []),(.str []),vz,(vi 0),(.str []),vz,vz,vz,vz]) 184 t8 t10) [(.l t12)],oX s15 (.app 1 0 10 (.agg [(vi 0),(.str []),(.str []),vz,(vi 0),(.str []),vz,vz,vz,vz]) 184 t11 t14) [],oM s2 t15]) .ret))),1,[.t s2],none⟩
end Go.Abs.Run
namespace Go.Abs.Run
open Go Go.Abs Go.Proofs
def b89x0:AC:=(.seq (.reg [oQ s9 .lss t8 t7]) (.seq (.cond t9
 .skip
 (.exit 0)) (.seq (.blk 1 (.seq (.reg [oP s10 (.iad 7 t6 t8),oR s11 (.ld true 7 t10),oX s5 (.new 0 false false (.cells 167 [(vi 0),(vi 0),(.str []),vz,vz,vz,vz])) [],oS 7 t5 t11]) (.seq (.reg [oM s12 t0,oN s13 t12,oF s14 0 t13,oG s15 t14,oN s16 t15,oF s17 5 t16,oG s18 t17,oQ s19 .add t18 (ci 1),oN s20 t15,oF s21 5 t20,oS 1 t21 t19]) (.seq (.reg [oM s22 t0,oF s23 0 t5,oR s24 (.ld true 1 t23),oF s25 3 t5,oL s26 t25,oC s27 155 [t22,t24,t26]]) (.seq (.reg [oM s28 t0,oF s29 4 t5,oL s30 t29,oP s31 (.iad 7 t30 (ci 0)),oR s32 (.ld true 7 t31),oC s33 156 [t28,t32]]) (.seq (.reg [oM s34 t0,oF s35 5 t5,oL s36 t35,oC s37 89 [t34,t36]]) (.reg [oM s38 t0,oF s39 6 t5,oL s40 t39,oC s41 89 [t38,t40]]))))))) (.reg [oQ s42 .add t8 (ci 1),oM s8 t42]))))
def f89:FI:=⟨(.seq (.reg [oM s6 t1,oP s7 (.len false t6),oM s8 (ci 0)]) (.blk 0 (.loop b89x0))),1,[],none⟩
def f90:FI:=⟨(.seq (.reg [oM s2 (.c .nilp)]) (.seq (.reg [oM s3 t0,oN s4 t3,oF s5 0 t4,oL s6 t5,oM s8 t0,oN s9 t8,oF s10 1 t9,oL s11 t10,oM s13 t0,oN s14 t13,oF s15 2 t14,oL s16 t15,oX s7 (.call 157 [t6]) [(.l t15),(.l t10)],oX s12 (.call 158 [t11]) [(.l t15)],oC s17 159 [t16],oP s18 (.bld [vz,vz,vz] [(0,1,t7),(1,1,t12),(2,1,t17)]),oX s19 (.box 0 true 193 3 t18) [],oM s2 t19]) .ret)),1,[.t s2],none⟩
def b91x0:AC:=(.seq (.reg [oQ s60 .lss t59 t58]) (.seq (.cond t60
 .skip
 (.exit 6)) (.seq (.blk 7 (.seq (.reg [oP s61 (.iad 1 t57 t59),oG s62 t61,oM s13 t62]) (.reg [oM s63 t11,oP s64 (.bsl 1 1 (vu 0) [(0,(cu 32))]),oM s66 t4,oM s67 t13,oP s68 (.iad 1 t66 t67),oG s69 t68,oX s65 (.app 5 0 1 (vu 0) 1 t63 t64) [(.c t68)],oC s70 161 [t65,t69,(ci 36)],oM s11 t70]))) (.reg [oQ s71 .add t59 (ci 1),oM s59 t71]))))
def b91x1:AC:=(.seq (.reg [oQ s47 .lss t46 t45]) (.seq (.cond t47
 .skip
 (.exit 4)) (.seq (.blk 5 (.seq (.reg [oM s48 t46,oM s10 t48]) (.seq (.reg [oM s49 t4,oM s50 t10,oP s51 (.iad 1 t49 t50),oG s52 t51,oC s53 161 [(.c vz),t52,(ci 36)],oM s11 t53]) (.seq (.seq (.reg [oM s54 t5,oM s55 t10,oP s56 (.iad 1 t54 t55),oL s57 t56,oP s58 (.len false t57),oM s59 (ci 0)]) (.blk 6 (.loop b91x0))) (.reg [oM s72 t9,oM s73 t10,oM s74 t6,oM s75 t11,oR s76 (.b2s t75),oC s77 160 [t74,t76],oP s78 (.iad 1 t72 t73),oS 1 t78 t77]))))) (.reg [oQ s79 .add t46 (ci 1),oM s46 t79]))))
def b91x2:AC:=(.blk 3 (.seq (.reg [oX s42 (.new 3 false true (.map [])) [],oM s6 t42]) (.seq (.reg [oM s43 t3,oX s44 (.mks 4 false true true 1 (vi 0) 8 t43 t43) [],oM s9 t44]) (.seq (.seq (.reg [oM s45 t3,oM s46 (ci 0)]) (.blk 4 (.loop b91x1))) (.seq (.seq (.reg [oM s80 t6,oR s81 (.mlen t80),oM s82 t8,oQ s83 .eql t81 t82]) (.cond t83
 (.seq (.reg [oM s84 t4,oM s2 t84]) .ret)
 .skip)) (.reg [oM s85 t9,oM s86 t6,oR s87 (.mlen t86),oM s4 t85,oM s8 t87]))))))
def b91x3:AC:=(.seq (.reg [oQ s23 .lss t22 t21]) (.seq (.cond t23
 .skip
 (.exit 0)) (.seq (.blk 1 (.seq (.reg [oM s24 t22,oM s7 t24]) (.seq (.reg [oM s25 t5,oM s26 t7,oM s27 t0,oM s28 t7,oC s29 99 [t27,t28],oP s30 (.iad 1 t25 t26),oS 1 t30 t29]) (.reg [oM s31 t4,oM s32 t7,oM s33 t6,oM s34 t0,oM s35 t7,oC s36 97 [t34,t35],oC s37 160 [t33,t36],oP s38 (.iad 1 t31 t32),oS 1 t38 t37])))) (.reg [oQ s39 .add t22 (ci 1),oM s22 t39]))))
def f91:FI:=⟨(.seq (.reg [oM s2 (.c vz)]) (.seq (.reg [oM s14 t0,oC s15 96 [t14],oM s3 t15]) (.seq (.reg [oM s16 t3,oX s17 (.mks 0 false true true 1 (vi 0) 8 t16 t16) [],oM s4 t17]) (.seq (.reg [oM s18 t3,oX s19 (.mks 1 false true true 1 vz 24 t18 t18) [],oM s5 t19]) (.seq (.reg [oX s20 (.new 2 false true (.map [])) [],oM s6 t20]) (.seq (.seq (.reg [oM s21 t3,oM s22 (ci 0)]) (.blk 0 (.loop b91x3))) (.seq (.reg [oM s40 t6,oR s41 (.mlen t40),oM s8 t41]) (.blk 2 (.loop b91x2))))))))),5,[.t s2],none⟩
def b92x0:AC:=(.seq (.seq (.reg [oM s13 t3,oP s14 (.len false t13),oM s15 t5,oQ s16 .leq t14 t15]) (.cond t16
 .skip
 (.exit 2))) (.blk 3 (.reg [oM s17 t3,oP s18 (.bsl 1 1 (vi 0) [(0,(.c (vj 0)))]),oX s19 (.app 0 1 1 (vi 0) 8 t17 t18) [],oM s3 t19])))
def b92x1:AC:=(.seq (.reg [oQ s9 .lss t8 t7]) (.seq (.cond t9
 .skip
 (.exit 0)) (.seq (.blk 1 (.seq (.reg [oM s10 t8,oP s11 (.iad 1 t6 t8),oG s12 t11,oM s4 t10,oM s5 t12]) (.seq (.blk 2 (.loop b92x0)) (.seq (.reg [oM s20 t3,oM s21 t5,oP s22 (.iad 1 t20 t21),oG s23 t22,oQ s24 .lss t23 (ci 0)]) (.cond t24
 (.reg [oM s25 t3,oM s26 t5,oM s27 t4,oP s28 (.iad 1 t25 t26),oS 1 t28 t27])
 .skip))))) (.reg [oQ s29 .add t8 (ci 1),oM s8 t29]))))
def f92:FI:=⟨(.seq (.reg [oM s2 (.c vz)]) (.seq (.reg [oM s3 (.c vz)]) (.seq (.seq (.reg [oM s6 t0,oP s7 (.len false t6),oM s8 (ci 0)]) (.blk 0 (.loop b92x1))) (.seq (.reg [oM s30 t3,oM s2 t30]) .ret)))),1,[.t s2],none⟩
def b93x0:AC:=(.seq (.reg [oQ s18 .lss t17 t16]) (.seq (.cond t18
 .skip
 (.exit 0)) (.seq (.blk 1 (.seq (.reg [oP s19 (.iad 2 t15 t17),oR s20 (.ld true 2 t19),oX s5 (.new 0 false false (.cells 198 [(.str []),(vi 0)])) [],oS 2 t5 t20]) (.reg [oM s21 t3,oF s22 0 t5,oL s23 t22,oP s24 (.bsl 1 1 (.str []) [(0,t23)]),oX s25 (.app 1 0 1 (.str []) 16 t21 t24) [],oM s3 t25]))) (.reg [oQ s26 .add t17 (ci 1),oM s17 t26]))))
def f93:FI:=⟨(.seq (.reg [oM s2 (.c vz)]) (.seq (.reg [oM s6 t0,oN s7 t6,oF s8 1 t7,oL s9 t8,oP s10 (.len false t9),oX s11 (.mks 0 false false true 1 (.str []) 16 (ci 0) t10) [],oM s3 t11]) (.seq (.seq (.reg [oM s12 t0,oN s13 t12,oF s14 1 t13,oL s15 t14,oP s16 (.len false t15),oM s17 (ci 0)]) (.blk 0 (.loop b93x0))) (.seq (.reg [oM s27 t3,oM s2 t27]) .ret)))),1,[.t s2],none⟩
def f94:FI:=⟨(.seq (.reg [oM s4 (ci 0),oM s5 (.c (.bool false))]) (.seq (.reg [oM s9 t0,oN s10 t9,oF s11 1 t10,oL s12 t11,oM s13 t1,oC s14 162 [t12,t13,(.c (.fn 163 [] []))],oM s8 t14,oE s15 t8 0,oE s16 t8 1,oM s6 t15,oM s7 t16]) (.seq (.seq (.reg [oM s17 t7,oP s18 (.un .not t17)]) (.cond t18
 (.seq (.reg [oM s4 (ci 0),oM s5 (.c (.bool false))]) .ret)
 .skip)) (.seq (.reg [oM s19 t0,oN s20 t19,oF s21 1 t20,oL s22 t21,oM s23 t6,oP s24 (.iad 2 t22 t23),oF s25 1 t24,oG s26 t25,oM s4 t26,oM s5 (.c (.bool true))]) .ret)))),0,[.t s4,.t s5],none⟩
def b95x0:AC:=(.seq (.reg [oQ s75 .lss t74 t73]) (.seq (.cond t75
 .skip
 (.exit 2)) (.seq (.blk 3 (.seq (.reg [oP s76 (.iad 1 t72 t74),oG s77 t76,oM s13 t77]) (.reg [oM s78 t0,oM s79 t13,oM s80 t2,oC s81 95 [t78,t79,t80]]))) (.reg [oQ s82 .add t74 (ci 1),oM s74 t82]))))
def b95x1:AC:=(.seq (.reg [oQ s59 .lss t58 t57]) (.seq (.cond t59
 .skip
 (.exit 0)) (.seq (.blk 1 (.seq (.reg [oP s60 (.iad 1 t56 t58),oG s61 t60,oM s11 t61]) (.reg [oM s62 t0,oM s63 t11,oM s64 t2,oC s65 95 [t62,t63,t64]]))) (.reg [oQ s66 .add t58 (ci 1),oM s58 t66]))))
def f95:FI:=⟨(.seq (.reg [oM s14 t0,oN s15 t14,oF s16 1 t15,oL s17 t16,oM s18 t1,oP s19 (.iad 1 t17 t18),oG s20 t19,oM s6 t20]) (.seq (.seq (.reg [oM s22 t0,oN s23 t22,oF s24 2 t23,oG s25 t24,oM s26 t6,oR s27 (.lku false [.i] true (vi 0) t25 t26),oM s21 t27,oE s28 t21 0,oE s29 t21 1,oM s7 t28,oM s8 t29]) (.seq (.reg [oM s30 t8]) (.cond t30
 .ret
 .skip))) (.seq (.reg [oM s31 t0,oN s32 t31,oF s33 2 t32,oG s34 t33,oM s35 t6,oM s36 t0,oN s37 t36,oF s38 3 t37,oG s39 t38,oY (.mup false [.i] t34 t35 t39) []]) (.seq (.reg [oM s40 t0,oN s41 t40,oF s42 3 t41,oG s43 t42,oQ s44 .add t43 (ci 1),oN s45 t40,oF s46 3 t45,oS 1 t46 t44]) (.seq (.reg [oM s47 t2,oM s48 t6,oP s49 (.iad 1 t47 t48),oG s50 t49,oM s9 t50]) (.seq (.seq (.reg [oM s51 t0,oN s52 t51,oF s53 0 t52,oG s54 t53,oM s55 t9,oC s56 99 [t54,t55],oP s57 (.len false t56),oM s58 (ci 0)]) (.blk 0 (.loop b95x1))) (.seq (.reg [oM s67 t0,oN s68 t67,oF s69 0 t68,oG s70 t69,oM s71 t9,oC s72 100 [t70,t71],oP s73 (.len false t72),oM s74 (ci 0)]) (.blk 2 (.loop b95x0))))))))),0,[],none⟩
def f96:FI:=⟨(.seq (.reg [oM s2 (ci 0)]) (.seq (.reg [oM s3 t0,oN s4 t3,oF s5 0 t4,oL s6 t5,oP s7 (.len false t6),oM s2 t7]) .ret)),0,[.t s2],none⟩
def f97:FI:=⟨(.seq (.reg [oM s4 (.c (.str []))]) (.seq (.seq (.reg [oM s7 t0,oM s8 t1,oC s9 53 [t7,t8]]) (.blk 0 (.seq (.reg [oQ s11 .eql t9 (ci 1),oM s10 t11]) (.cond t10
 (.seq (.reg [oM s4 (.c (.str [105,110,116]))]) .ret)
 (.seq (.reg [oQ s13 .eql t9 (ci 2),oM s12 t13]) (.cond t12
 (.seq (.reg [oM s4 (.c (.str [98,111,111,108]))]) .ret)
 (.seq (.reg [oQ s15 .eql t9 (ci 3),oM s14 t15]) (.cond t14
 (.seq (.reg [oM s4 (.c (.str [116,101,120,116]))]) .ret)
 (.seq (.reg [oQ s17 .eql t9 (ci 5),oM s16 t17]) (.cond t16
 (.seq (.reg [oM s4 (.c (.str [42]))]) .ret)
 (.seq (.reg [oQ s19 .eql t9 (ci 7),oM s18 t19]) (.cond t18
 (.seq (.reg [oM s20 t0,oM s21 t1,oC s22 49 [t20,t21],oP s23 (.len false t22),oC s24 108 [t23],oP s25 (.bin .add eS (.c (.str [102,110,32])) t24),oM s4 t25]) .ret)
 (.seq (.reg [oQ s27 .eql t9 (ci 8),oM s26 t27]) (.cond t26
 (.seq (.reg [oM s28 t0,oM s29 t1,oC s30 165 [t28,t29],oC s31 164 [(.c (.str [105,110,116,101,114,102,97,99,101])),t30],oM s4 t31]) .ret)
 (.seq (.reg [oQ s33 .eql t9 (ci 6),oM s32 t33]) (.cond t32
 (.seq (.reg [oM s5 (.c (.str [114,101,99,111,114,100]))]) (.seq (.seq (.reg [oM s34 t0,oM s35 t1,oC s36 166 [t34,t35],oM s6 t36]) (.seq (.reg [oM s37 t6,oP s38 (.bin .neq eS t37 (.c (.str [])))]) (.cond t38
 (.reg [oM s39 t5,oM s40 t6,oP s41 (.bin .add eS (.c (.str [32,111,102,32])) t40),oP s42 (.bin .add eS t39 t41),oM s5 t42])
 .skip))) (.seq (.reg [oM s43 t5,oM s44 t0,oM s45 t1,oC s46 165 [t44,t45],oC s47 164 [t43,t46],oM s4 t47]) .ret)))
 .skip)))))))))))))))) (.seq (.reg [oM s4 (.c (.str []))]) .ret))),0,[.t s4],none⟩
def b98x0:AC:=(.seq (.reg [oQ s12 .lss t11 t10]) (.seq (.cond t12
 .skip
 (.exit 0)) (.seq (.blk 1 (.seq (.reg [oP s13 (.iad 1 t9 t11),oG s14 t13,oM s7 t14]) (.reg [oM s15 t5,oM s16 t0,oN s17 t16,oF s18 1 t17,oL s19 t18,oM s20 t7,oP s21 (.iad 1 t19 t20),oG s22 t21,oP s23 (.bsl 1 1 (vi 0) [(0,t22)]),oX s24 (.app 0 0 1 (vi 0) 8 t15 t23) [],oM s5 t24]))) (.reg [oQ s25 .add t11 (ci 1),oM s11 t25]))))
def f98:FI:=⟨(.seq (.reg [oM s4 (.c vz)]) (.seq (.reg [oP s8 (.bsl 0 1 (vi 0) []),oM s5 t8]) (.seq (.seq (.reg [oM s9 t1,oP s10 (.len false t9),oM s11 (ci 0)]) (.blk 0 (.loop b98x0))) (.seq (.reg [oM s26 t5,oM s4 t26]) .ret)))),0,[.t s4],none⟩
def b99x0:AC:=(.seq (.reg [oQ s14 .lss t13 t12]) (.seq (.cond t14
 .skip
 (.exit 0)) (.seq (.blk 1 (.seq (.reg [oP s15 (.iad 3 t11 t13),oR s16 (.ld true 3 t15),oX s7 (.new 0 false false (.cells 315 [(.str []),(.bool false),(vi 0)])) [],oS 3 t7 t16]) (.reg [oM s17 t5,oF s18 2 t7,oG s19 t18,oP s20 (.bsl 1 1 (vi 0) [(0,t19)]),oX s21 (.app 1 0 1 (vi 0) 8 t17 t20) [],oM s5 t21]))) (.reg [oQ s22 .add t13 (ci 1),oM s13 t22]))))
def f99:FI:=⟨(.seq (.reg [oM s4 (.c vz)]) (.seq (.reg [oP s8 (.bsl 0 1 (vi 0) []),oM s5 t8]) (.seq (.seq (.reg [oM s9 t0,oM s10 t1,oC s11 165 [t9,t10],oP s12 (.len false t11),oM s13 (ci 0)]) (.blk 0 (.loop b99x0))) (.seq (.reg [oM s23 t5,oM s4 t23]) .ret)))),1,[.t s4],none⟩
def b100x0:AC:=(.seq (.reg [oQ s21 .lss t20 t19]) (.seq (.cond t21
 .skip
 (.exit 0)) (.seq (.blk 1 (.seq (.reg [oP s22 (.iad 1 t18 t20),oL s23 t22,oM s8 t23]) (.seq (.reg [oM s25 t0,oM s26 t6,oM s27 t8,oC s28 47 [t25,t26,t27],oM s24 t28,oE s29 t24 0,oE s30 t24 1,oM s9 t29,oM s10 t30]) (.reg [oM s31 t5,oM s32 t9,oP s33 (.bsl 1 1 (vi 0) [(0,t32)]),oX s34 (.app 0 0 1 (vi 0) 8 t31 t33) [],oM s5 t34])))) (.reg [oQ s35 .add t20 (ci 1),oM s20 t35]))))
def f100:FI:=⟨(.seq (.reg [oM s4 (.c vz)]) (.seq (.reg [oM s5 (.c vz)]) (.seq (.seq (.reg [oM s11 t0,oM s12 t1,oC s13 166 [t11,t12],oM s6 t13]) (.seq (.reg [oM s14 t6,oP s15 (.bin .neq eS t14 (.c (.str [])))]) (.cond t15
 (.seq (.reg [oM s16 t0,oM s17 t6,oC s18 167 [t16,t17],oP s19 (.len false t18),oM s20 (ci 0)]) (.blk 0 (.loop b100x0)))
 .skip))) (.seq (.reg [oM s36 t5,oM s4 t36]) .ret)))),0,[.t s4],none⟩
def f101:FI:=⟨(.seq (.reg [oM s4 (ci 0),oM s5 (.c (.bool false))]) (.seq (.seq (.reg [oM s6 t1,oQ s7 .lss t6 (ci 0),oM s8 t7,⟨some s9,some (s8,false),(.p (.mov t1))⟩,⟨some s10,some (s8,false),(.p (.mov t0))⟩,⟨some s11,some (s8,false),(.p (.nilc t10))⟩,⟨some s12,some (s8,false),(.p (.fad 1 t11))⟩,⟨some s13,some (s8,false),(.r (.ld false 1 t12))⟩,⟨some s14,some (s8,false),(.p (.len false t13))⟩,⟨some s15,some (s8,false),(.p (.bin .geq eI t9 t14))⟩,oP s16 (.pick t8 (.c (.bool true)) t15)]) (.cond t16
 (.seq (.reg [oM s4 (ci 0),oM s5 (.c (.bool false))]) .ret)
 .skip)) (.seq (.reg [oM s17 t0,oN s18 t17,oF s19 1 t18,oL s20 t19,oM s21 t1,oP s22 (.iad 1 t20 t21),oG s23 t22,oM s4 t23,oM s5 (.c (.bool true))]) .ret))),0,[.t s4,.t s5],none⟩
def b102x0:AC:=(.seq (.reg [oQ s17 .lss t16 t15]) (.seq (.cond t17
 .skip
 (.exit 0)) (.seq (.blk 1 (.seq (.reg [oP s18 (.iad 7 t14 t16),oR s19 (.ld true 7 t18),oX s8 (.new 0 false false (.cells 167 [(vi 0),(vi 0),(.str []),vz,vz,vz,vz])) [],oS 7 t8 t19]) (.reg [oM s20 t6,oM s21 t0,oR s22 (.ld true 7 t8),oC s23 168 [t21,t22],oP s24 (.bsl 1 1 .nilp [(0,t23)]),oX s25 (.app 1 0 1 .nilp 8 t20 t24) [],oM s6 t25]))) (.reg [oQ s26 .add t16 (ci 1),oM s16 t26]))))
def f102:FI:=⟨(.seq (.reg [oM s4 (.c vz)]) (.seq (.reg [oM s9 t0,oN s10 t9,oF s11 3 t10,oL s12 t11,oP s13 (.len false t12),oM s5 t13]) (.seq (.reg [oM s6 (.c vz)]) (.seq (.seq (.reg [oM s14 t1,oP s15 (.len false t14),oM s16 (ci 0)]) (.blk 0 (.loop b102x0))) (.seq (.reg [oM s27 t0,oM s28 t0,oN s29 t28,oF s30 3 t29,oL s31 t30,oM s32 t5,oP s33 (.sls false 2 t31 none (some t32) none),oN s34 t27,oF s35 3 t34,oS 1 t35 t33]) (.seq (.reg [oM s36 t6,oM s4 t36]) .ret)))))),1,[.t s4],none⟩
def f103:FI:=⟨(.seq (.reg [oX s4 (.new 0 false false (.cells 210 [(vi 0),vz,vz,vz,(.str [])])) []]) (.seq (.seq (.reg [oM s5 t1,oQ s6 .lss t5 (ci 0),oM s7 t6,⟨some s8,some (s7,false),(.p (.mov t1))⟩,⟨some s9,some (s7,false),(.p (.mov t0))⟩,⟨some s10,some (s7,false),(.p (.nilc t9))⟩,⟨some s11,some (s7,false),(.p (.fad 0 t10))⟩,⟨some s12,some (s7,false),(.r (.ld false 1 t11))⟩,⟨some s13,some (s7,false),(.p (.len false t12))⟩,⟨some s14,some (s7,false),(.p (.bin .geq eI t8 t13))⟩,oP s15 (.pick t7 (.c (.bool true)) t14)]) (.cond t15
 (.seq (.reg [oP s16 (.bld [(vi 0),vz,vz,vz,(.str [])] []),oS 5 t4 t16]) .ret)
 .skip)) (.seq (.reg [oM s17 t0,oN s18 t17,oF s19 0 t18,oL s20 t19,oM s21 t1,oP s22 (.iad 5 t20 t21),oR s23 (.ld true 5 t22),oS 5 t4 t23]) .ret))),1,[.c true 5 s4],none⟩
def f104:FI:=⟨(.seq (.reg [oX s4 (.new 0 false false (.cells 232 [(vi 0),(.str []),vz,vz])) [],oM s5 (.c (.bool false))]) (.seq (.seq (.reg [oM s6 t1,oQ s7 .lss t6 (ci 0),oM s8 t7,⟨some s9,some (s8,false),(.p (.mov t1))⟩,⟨some s10,some (s8,false),(.p (.mov t0))⟩,⟨some s11,some (s8,false),(.p (.nilc t10))⟩,⟨some s12,some (s8,false),(.p (.fad 2 t11))⟩,⟨some s13,some (s8,false),(.r (.ld false 1 t12))⟩,⟨some s14,some (s8,false),(.p (.len false t13))⟩,⟨some s15,some (s8,false),(.p (.bin .geq eI t9 t14))⟩,oP s16 (.pick t8 (.c (.bool true)) t15)]) (.cond t16
 (.seq (.reg [oP s17 (.bld [(vi 0),(.str []),vz,vz] []),oS 4 t4 t17,oM s5 (.c (.bool false))]) .ret)
 .skip)) (.seq (.reg [oM s18 t0,oN s19 t18,oF s20 2 t19,oL s21 t20,oM s22 t1,oP s23 (.iad 4 t21 t22),oR s24 (.ld true 4 t23),oS 4 t4 t24,oM s5 (.c (.bool true))]) .ret))),1,[.c true 4 s4,.t s5],none⟩
def f105:FI:=⟨(.seq (.reg [oM s4 (.c vz)]) (.seq (.reg [oP s5 (.bsl 0 1 (.str []) []),oM s6 t0,oM s7 t1,oC s8 103 [t6,t7],oP s9 (.fld false 2 1 t8),oX s10 (.app 0 2 1 (.str []) 16 t5 t9) [],oM s4 t10]) .ret)),1,[.t s4],none⟩
def f106:FI:=⟨(.seq (.reg [oM s3 t0,oP s4 (.len false t3),oM s2 t4]) (.reg [oM s5 t0,oM s6 t2,oM s7 t2,oP s8 (.cvi .u64 t7),oC s9 150 [t8],oC s10 169 [t5,(ci 0),t6,t9]])),0,[],none⟩
def f107:FI:=⟨(.seq (.reg [oM s4 (ci 0),oM s5 (.c .nili)]) (.seq (.reg [oM s6 t0,oC s7 170 [t6]]) (.seq (.reg [oM s8 t0,oM s9 t0,oN s10 t9,oF s11 1 t10,oL s12 t11,oM s13 t1,oX s14 (.app 0 0 1 (vu 0) 1 t12 t13) [],oN s15 t8,oF s16 1 t15,oS 1 t16 t14]) (.seq (.reg [oM s17 t1,oP s18 (.len true t17),oM s4 t18,oM s5 (.c .nili)]) .ret)))),0,[.t s4,.t s5],none⟩
def f108:FI:=⟨(.seq (.reg [oM s2 (.c (.str []))]) (.seq (.reg [oM s3 t0,oC s4 171 [t3],oM s2 t4]) .ret)),0,[.t s2],none⟩
def f110:FI:=⟨(.seq (.reg [oM s4 (.c .nili)]) (.seq (.reg [oM s5 t0,oC s6 170 [t5]]) (.seq (.reg [oM s7 t0,oM s8 t0,oN s9 t8,oF s10 1 t9,oL s11 t10,oM s12 t1,oP s13 (.bsl 1 1 (vu 0) [(0,t12)]),oX s14 (.app 0 0 1 (vu 0) 1 t11 t13) [],oN s15 t7,oF s16 1 t15,oS 1 t16 t14]) (.seq (.reg [oM s4 (.c .nili)]) .ret)))),0,[.t s4],none⟩
def f111:FI:=⟨(.seq (.reg [oM s4 (.c vz)]) (.seq (.seq (.reg [oM s5 t1,oQ s6 .lss t5 (ci 0),oM s7 t6,⟨some s8,some (s7,false),(.p (.mov t1))⟩,⟨some s9,some (s7,false),(.p (.mov t0))⟩,⟨some s10,some (s7,false),(.p (.nilc t9))⟩,⟨some s11,some (s7,false),(.p (.fad 2 t10))⟩,⟨some s12,some (s7,false),(.r (.ld false 1 t11))⟩,⟨some s13,some (s7,false),(.p (.len false t12))⟩,⟨some s14,some (s7,false),(.p (.bin .geq eI t8 t13))⟩,oP s15 (.pick t7 (.c (.bool true)) t14)]) (.cond t15
 (.seq (.reg [oM s4 (.c vz)]) .ret)
 .skip)) (.seq (.reg [oM s16 t0,oN s17 t16,oF s18 2 t17,oL s19 t18,oM s20 t1,oP s21 (.iad 1 t19 t20),oL s22 t21,oM s4 t22]) .ret))),0,[.t s4],none⟩
def f112:FI:=⟨(.seq (.reg [oM s2 (ci 0)]) (.seq (.reg [oM s3 t0,oN s4 t3,oF s5 1 t4,oL s6 t5,oP s7 (.len false t6),oM s2 t7]) .ret)),0,[.t s2],none⟩
def b113x0:AC:=(.seq (.reg [oQ s66 .lss t65 t64]) (.seq (.cond t66
 .skip
 (.exit 2)) (.seq (.blk 3 (.seq (.reg [oP s67 (.iad 1 t63 t65),oL s68 t67,oM s13 t68]) (.reg [oF s69 4 t7,oL s70 t69,oM s71 t9,oM s72 t8,oM s73 t13,oR s74 (.lku false [.s] false (vi 0) t72 t73),oP s75 (.iad 5 t71 t74),oR s76 (.ld true 5 t75),oP s77 (.bsl 1 5 (.agg [(vi 0),(vi 0),(vi 0),(.str []),vz]) [(0,t76)]),oX s78 (.app 3 0 5 (.agg [(vi 0),(vi 0),(vi 0),(.str []),vz]) 64 t70 t77) [],oF s79 4 t7,oS 1 t79 t78]))) (.reg [oQ s80 .add t65 (ci 1),oM s65 t80]))))
def b113x1:AC:=(.seq (.reg [oQ s47 .lss t46 t45]) (.seq (.cond t47
 .skip
 (.exit 0)) (.seq (.blk 1 (.seq (.reg [oM s48 t46,oP s49 (.iad 1 t44 t46),oL s50 t49,oM s10 t48,oM s11 t50]) (.reg [oM s51 t8,oM s52 t11,oM s53 t10,oY (.mup false [.s] t51 t52 t53) []]))) (.reg [oQ s54 .add t46 (ci 1),oM s46 t54]))))
def f113:FI:=⟨(.seq (.reg [oX s4 (.new 0 false false (.cells 61 [(vi 0),(vi 0),(vi 0),(.str []),vz])) []]) (.seq (.reg [oM s15 t0,oN s16 t15,oF s17 0 t16,oG s18 t17,oN s19 t18,oF s20 0 t19,oG s21 t20,oM s23 t1,oN s24 t23,oF s25 0 t24,oF s26 3 t25,oL s27 t26,oX s22 (.call 27 [t21]) [(.l t26)],oC s28 173 [t22,t27],oM s14 t28,oE s29 t14 0,oE s30 t14 1,oM s5 t29,oM s6 t30]) (.seq (.reg [oM s31 t5,oP s32 (.bld [(vi 0),(vi 0),(vi 0),(.str []),vz] [(0,1,(ci 4)),(1,1,t31)]),oX s7 (.new 1 false false (.cells 61 [(vi 0),(vi 0),(vi 0),(.str []),vz])) [],oS 5 t7 t32]) (.seq (.reg [oX s33 (.new 2 false true (.map [])) [],oM s8 t33]) (.seq (.reg [oM s34 t0,oM s35 t1,oN s36 t35,oF s37 16 t36,oL s38 t37,oC s39 115 [t34,t38],oM s9 t39]) (.seq (.seq (.reg [oM s40 t1,oN s41 t40,oF s42 0 t41,oF s43 5 t42,oL s44 t43,oP s45 (.len false t44),oM s46 (ci 0)]) (.blk 0 (.loop b113x1))) (.seq (.seq (.reg [oM s55 t0,oN s56 t55,oF s57 0 t56,oG s58 t57,oN s59 t58,oF s60 1 t59,oG s61 t60,oM s62 t5,oC s63 111 [t61,t62],oP s64 (.len false t63),oM s65 (ci 0)]) (.blk 2 (.loop b113x0))) (.seq (.seq (.reg [oM s81 t1,oN s82 t81,oF s83 0 t82,oF s84 1 t83,oG s85 t84,oQ s86 .eql t85 (ci 8)]) (.cond t86
 (.seq (.reg [oM s87 t1,oN s88 t87,oF s89 7 t88,oG s90 t89,oR s91 (.ld true 5 t7),oP s92 (.bsl 1 5 (.agg [(vi 0),(vi 0),(vi 0),(.str []),vz]) [(0,t91)]),oP s93 (.bld [(vi 0),(vi 0),(vi 0),(.str []),vz] [(0,1,(ci 5)),(1,1,t90),(4,1,t92)]),oS 5 t4 t93]) .ret)
 .skip)) (.seq (.reg [oR s94 (.ld true 5 t7),oS 5 t4 t94]) .ret))))))))),3,[.c true 5 s4],none⟩
def f114:FI:=⟨(.seq (.reg [oX s4 (.box 0 false 61 5 t1) [],oX s6 (.new 1 false false (.cells 61 [(vi 0),(vi 0),(vi 0),(.str []),vz])) []]) (.seq (.reg [oM s10 t0,oN s11 t10,oF s12 1 t11,oG s13 t12,oR s14 (.ld true 5 t4),oM s15 t2,oX s7 (.new 2 false false (.cells 61 [(vi 0),(vi 0),(vi 0),(.str []),vz])) [(.l t4),(.c t12)],oX s16 (.call 174 [t13,t14,t15]) [(.l t7)],oM s9 t16,oE s17 t9 0,oE s18 t9 1,oS 5 t7 t17,oM s8 t18]) (.seq (.reg [oM s19 t8,oC s20 121 [t19]]) (.seq (.reg [oR s21 (.ld true 5 t7),oS 5 t6 t21]) .ret)))),3,[.c true 5 s6],none⟩
def zan:AC:=(.seq (.reg [oQ s14 .lss t13 t12]) (.seq (.cond t14
 .skip
 (.exit 0)) (.seq (.blk 1 (.seq (.reg [oP s15 (.iad 1 t11 t13),oG s16 t15,oM s7 t16]) (.reg [oM s17 t5,oM s18 t0,oM s19 t7,oC s20 58 [t18,t19],oP s21 (.bsl 1 5 (.agg [(vi 0),(vi 0),(vi 0),(.str []),vz]) [(0,t20)]),oX s22 (.app 0 0 5 (.agg [(vi 0),(vi 0),(vi 0),(.str []),vz]) 64 t17 t21) [],oM s5 t22]))) (.reg [oQ s23 .add t13 (ci 1),oM s13 t23]))))
def f115:FI:=⟨(.seq (.reg [oM s4 (.c vz)]) (.seq (.reg [oM s8 t1,oP s9 (.len false t8),oX s10 (.mks 0 false false true 5 (.agg [(vi 0),(vi 0),(vi 0),(.str []),vz]) 64 (ci 0) t9) [],oM s5 t10]) (.seq (.seq (.reg [oM s11 t1,oP s12 (.len false t11),oM s13 (ci 0)]) (.blk 0 (.loop zan))) (.seq (.reg [oM s24 t5,oM s4 t24]) .ret)))),0,[.t s4],none⟩
def b116x0:AC:=(.blk 1 (.seq (.reg [oM s8 t0,oN s9 t8,oF s10 0 t9,oG s11 t10,oR s12 (.ld true 5 t4),oF s13 0 t5,oL s14 t13,oC s15 114 [t11,t12,t14],oS 5 t4 t15]) (.seq (.seq (.reg [oF s16 1 t5,oG s17 t16,oQ s18 .eql t17 (ci 2)]) (.cond t18
 (.seq (.seq (.reg [oF s19 0 t4,oG s20 t19,oQ s21 .eql t20 (ci 5)]) (.cond t21
 (.seq (.seq (.reg [oF s22 4 t4,oL s23 t22,oP s24 (.len false t23),oQ s25 .eql t24 (ci 0)]) (.cond t25
 (.reg [oC s26 121 [(ci 51)]])
 .skip)) (.reg [oF s27 4 t4,oL s28 t27,oP s29 (.iad 5 t28 (ci 0)),oR s30 (.ld true 5 t29),oS 5 t4 t30]))
 .skip)) (.seq (.reg [oR s31 (.ld true 5 t4),oM s32 t0,oN s33 t32,oF s34 0 t33,oG s35 t34,oN s36 t35,oF s37 0 t36,oG s38 t37,oF s39 2 t5,oL s40 t39,oF s41 3 t5,oL s42 t41,oX s43 (.call 175 [t38,t40,t42]) [(.l t4)],oS 5 t6 t31,oM s7 t43]) .ret))
 .skip)) (.reg [oM s44 t0,oN s45 t44,oF s46 0 t45,oG s47 t46,oF s48 1 t4,oG s49 t48,oF s50 3 t5,oL s51 t50,oC s52 176 [t47,t49,t51],oS 5 t5 t52]))))
def f116:FI:=⟨(.seq (.reg [oX s4 (.box 0 false 61 5 t1) [],oX s5 (.box 1 false 260 5 t2) [],oX s6 (.new 2 false false (.cells 61 [(vi 0),(vi 0),(vi 0),(.str []),vz])) [],oM s7 (.c .nilp)]) (.blk 0 (.loop b116x0))),3,[.c true 5 s6,.t s7],none⟩
def zhd:AC:=(.seq (.reg [oQ s40 .lss t39 t38]) (.seq (.cond t40
 .skip
 (.exit 0)) (.seq (.blk 1 (.seq (.reg [oM s41 t39,oP s42 (.iad 1 t37 t39),oL s43 t42,oM s10 t41,oM s11 t43]) (.reg [oM s44 t9,oN s45 t44,oF s46 6 t45,oG s47 t46,oM s48 t11,oM s49 t3,oM s50 t10,oP s51 (.iad 5 t49 t50),oR s52 (.ld true 5 t51),oY (.mup false [.s] t47 t48 t52) []]))) (.reg [oQ s53 .add t39 (ci 1),oM s39 t53]))))
def f117:FI:=⟨(.seq (.reg [oX s6 (.box 0 false 61 5 t2) [],oX s8 (.new 1 false false (.cells 61 [(vi 0),(vi 0),(vi 0),(.str []),vz])) []]) (.seq (.reg [oM s14 t0,oC s15 57 [t14]]) (.seq (.seq (.reg [oM s16 t0,oN s17 t16,oF s18 4 t17,oG s19 t18,oQ s20 .eql t19 (ci 500)]) (.cond t20
 (.reg [oC s21 121 [(ci 54)]])
 .skip)) (.seq (.reg [oM s22 t0,oN s23 t22,oF s24 4 t23,oG s25 t24,oQ s26 .add t25 (ci 1),oN s27 t22,oF s28 4 t27,oS 1 t28 t26]) (.seq (.reg [oM s29 t0,oR s30 (.ld true 5 t6),oX s31 (.new 2 false true (.map [])) [],oP s32 (.bld [.nilp,(vi 0),(vi 0),(vi 0),(.str []),vz,.nilm] [(0,1,t29),(1,5,t30),(6,1,t31)]),oX s33 (.box 3 false 65 7 t32) [],oM s9 t33]) (.seq (.seq (.reg [oM s34 t1,oN s35 t34,oF s36 2 t35,oL s37 t36,oP s38 (.len false t37),oM s39 (ci 0)]) (.blk 0 (.loop zhd))) (.seq (.reg [oM s55 t9,oM s56 t1,oN s57 t56,oF s58 6 t57,oL s59 t58,oC s60 17 [t55,t59],oM s54 t60,oE s61 t54 0,oE s62 t54 1,oX s12 (.new 4 false false (.cells 61 [(vi 0),(vi 0),(vi 0),(.str []),vz])) [],oS 5 t12 t61,oM s13 t62]) (.seq (.reg [oM s63 t0,oN s64 t63,oF s65 4 t64,oG s66 t65,oQ s67 .sub t66 (ci 1),oN s68 t63,oF s69 4 t68,oS 1 t69 t67]) (.seq (.reg [oR s70 (.ld true 5 t12),oS 5 t8 t70]) .ret))))))))),5,[.c true 5 s8],none⟩
def b118x0:AC:=(.seq (.reg [oQ s13 .lss t12 t11]) (.seq (.cond t13
 .skip
 (.exit 0)) (.seq (.blk 1 (.seq (.reg [oP s14 (.iad 1 t10 t12),oG s15 t14,oM s6 t15]) (.seq (.reg [oM s16 t6,oN s17 t16,oF s18 1 t17,oL s19 t18,oM s20 t1,oP s21 (.bin .eql eS t19 t20)]) (.cond t21
 (.seq (.reg [oM s22 t6,oM s4 t22]) .ret)
 .skip)))) (.reg [oQ s23 .add t12 (ci 1),oM s12 t23]))))
def f118:FI:=⟨(.seq (.reg [oM s4 (.c .nilp)]) (.seq (.seq (.reg [oM s7 t0,oN s8 t7,oF s9 7 t8,oL s10 t9,oP s11 (.len false t10),oM s12 (ci 0)]) (.blk 0 (.loop b118x0))) (.seq (.reg [oM s4 (.c .nilp)]) .ret))),0,[.t s4],none⟩
def f119:FI:=⟨(.seq (.reg [oM s2 (.c .nilp)]) (.seq (.reg [oM s3 t0,oN s4 t3,oF s5 1 t4,oG s6 t5,oM s2 t6]) .ret)),0,[.t s2],none⟩
def f120:FI:=⟨(.seq (.reg [oM s6 (.c (.bool false)),oM s7 (ci 0)]) (.seq (.seq (.reg [oM s8 t0,oM s9 t1,oC s10 177 [t8,t9],oP s11 (.un .not t10),oM s12 t11,⟨some s13,some (s12,false),(.p (.mov t0))⟩,⟨some s14,some (s12,false),(.p (.mov t2))⟩,⟨some s15,some (s12,false),(.e (.call 177 [t13,t14]) [])⟩,⟨some s16,some (s12,false),(.p (.un .not t15))⟩,oP s17 (.pick t12 (.c (.bool true)) t16)]) (.cond t17
 (.seq (.reg [oM s6 (.c (.bool false)),oM s7 (ci 1)]) .ret)
 .skip)) (.seq (.reg [oM s18 t0,oM s19 t1,oM s20 t2,oP s21 (.bld [(vi 0),(vi 0)] [(0,1,t19),(1,1,t20)]),oC s22 178 [t18,t21],oQ s23 .eql t22 (ci 1),oM s6 t23,oM s7 (ci 0)]) .ret))),0,[.t s6,.t s7],none⟩
def f121:FI:=⟨(.seq (.reg [oM s2 t0,oQ s3 .neq t2 (ci 0)]) (.cond t3
 (.reg [oM s4 t0,oP s5 (.bld [(vi 0)] [(0,1,t4)]),oP s6 (.ifc 105 t5),oY (.pan t6) []])
 .skip)),0,[],none⟩
def f122:FI:=⟨(.seq (.reg [oX s6 (.new 0 false false (.cells 61 [(vi 0),(vi 0),(vi 0),(.str []),vz])) []]) (.seq (.reg [oM s8 t1,oN s9 t8,oF s10 7 t9,oG s11 t10,oP s12 (.bld [(vi 0),(vi 0),(vi 0),(.str []),vz] [(0,1,(ci 1)),(1,1,t11)]),oX s7 (.new 1 false false (.cells 61 [(vi 0),(vi 0),(vi 0),(.str []),vz])) [],oS 5 t7 t12]) (.seq (.seq (.reg [oM s13 t1,oN s14 t13,oF s15 0 t14,oF s16 1 t15,oG s17 t16]) (.blk 0 (.seq (.reg [oQ s19 .eql t17 (ci 13),oM s18 t19]) (.cond t18
 (.reg [oM s20 t2,oP s21 (.iad 5 t20 (ci 0)),oF s22 2 t21,oG s23 t22,oP s24 (.un .neg t23),oF s25 2 t7,oS 1 t25 t24])
 (.seq (.reg [oQ s27 .eql t17 (ci 14),oM s26 t27]) (.cond t26
 (.seq (.reg [oM s28 t1,oN s29 t28,oF s30 7 t29,oG s31 t30,oM s32 t2,oP s33 (.iad 5 t32 (ci 0)),oF s34 2 t33,oG s35 t34,oQ s36 .eql t35 (ci 0),oC s37 179 [t31,t36],oS 5 t6 t37]) .ret)
 (.seq (.reg [oQ s39 .eql t17 (ci 15),oM s38 t39]) (.cond t38
 (.reg [oM s40 t2,oP s41 (.iad 5 t40 (ci 0)),oF s42 2 t41,oG s43 t42,oM s44 t2,oP s45 (.iad 5 t44 (ci 1)),oF s46 2 t45,oG s47 t46,oQ s48 .mul t43 t47,oF s49 2 t7,oS 1 t49 t48])
 (.seq (.reg [oQ s51 .eql t17 (ci 17),oM s50 t51]) (.cond t50
 (.reg [oM s52 t2,oP s53 (.iad 5 t52 (ci 0)),oF s54 2 t53,oG s55 t54,oM s56 t2,oP s57 (.iad 5 t56 (ci 1)),oF s58 2 t57,oG s59 t58,oQ s60 .sub t55 t59,oF s61 2 t7,oS 1 t61 t60])
 (.seq (.reg [oQ s63 .eql t17 (ci 16),oM s62 t63]) (.cond t62
 (.seq (.seq (.reg [oM s64 t2,oP s65 (.iad 5 t64 (ci 0)),oF s66 0 t65,oG s67 t66,oQ s68 .eql t67 (ci 3)]) (.cond t68
 (.seq (.seq (.reg [oM s69 t2,oP s70 (.iad 5 t69 (ci 0)),oF s71 3 t70,oL s72 t71,oP s73 (.len true t72),oM s74 t2,oP s75 (.iad 5 t74 (ci 1)),oF s76 3 t75,oL s77 t76,oP s78 (.len true t77),oQ s79 .add t73 t78,oQ s80 .gtr t79 (ci 4096)]) (.cond t80
 (.reg [oC s81 121 [(ci 53)]])
 .skip)) (.seq (.reg [oM s82 t1,oN s83 t82,oF s84 7 t83,oG s85 t84,oM s86 t2,oP s87 (.iad 5 t86 (ci 0)),oF s88 3 t87,oL s89 t88,oM s90 t2,oP s91 (.iad 5 t90 (ci 1)),oF s92 3 t91,oL s93 t92,oP s94 (.bin .add eS t89 t93),oP s95 (.bld [(vi 0),(vi 0),(vi 0),(.str []),vz] [(0,1,(ci 3)),(1,1,t85),(3,1,t94)]),oS 5 t6 t95]) .ret))
 .skip)) (.reg [oM s96 t2,oP s97 (.iad 5 t96 (ci 0)),oF s98 2 t97,oG s99 t98,oM s100 t2,oP s101 (.iad 5 t100 (ci 1)),oF s102 2 t101,oG s103 t102,oQ s104 .add t99 t103,oF s105 2 t7,oS 1 t105 t104]))
 (.seq (.reg [oQ s107 .eql t17 (ci 18),oM s106 t107]) (.cond t106
 (.seq (.reg [oM s108 t1,oN s109 t108,oF s110 7 t109,oG s111 t110,oM s112 t2,oP s113 (.iad 5 t112 (ci 0)),oF s114 2 t113,oG s115 t114,oM s116 t2,oP s117 (.iad 5 t116 (ci 1)),oF s118 2 t117,oG s119 t118,oQ s120 .eql t115 t119,oM s121 t120,⟨some s122,some (s121,true),(.p (.mov t2))⟩,⟨some s123,some (s121,true),(.p (.iad 5 t122 (ci 0)))⟩,⟨some s124,some (s121,true),(.p (.fad 3 t123))⟩,⟨some s125,some (s121,true),(.r (.ld false 1 t124))⟩,⟨some s126,some (s121,true),(.p (.mov t2))⟩,⟨some s127,some (s121,true),(.p (.iad 5 t126 (ci 1)))⟩,⟨some s128,some (s121,true),(.p (.fad 3 t127))⟩,⟨some s129,some (s121,true),(.r (.ld false 1 t128))⟩,⟨some s130,some (s121,true),(.p (.bin .eql eS t125 t129))⟩,oP s131 (.pick t121 t130 (.c (.bool false))),oC s132 179 [t111,t131],oS 5 t6 t132]) .ret)
 (.seq (.reg [oQ s134 .eql t17 (ci 19),oM s133 t134]) (.cond t133
 (.seq (.reg [oM s135 t1,oN s136 t135,oF s137 7 t136,oG s138 t137,oM s139 t2,oP s140 (.iad 5 t139 (ci 0)),oF s141 2 t140,oG s142 t141,oM s143 t2,oP s144 (.iad 5 t143 (ci 1)),oF s145 2 t144,oG s146 t145,oQ s147 .lss t142 t146,oM s148 t147,⟨some s149,some (s148,false),(.p (.mov t2))⟩,⟨some s150,some (s148,false),(.p (.iad 5 t149 (ci 0)))⟩,⟨some s151,some (s148,false),(.p (.fad 3 t150))⟩,⟨some s152,some (s148,false),(.r (.ld false 1 t151))⟩,⟨some s153,some (s148,false),(.p (.mov t2))⟩,⟨some s154,some (s148,false),(.p (.iad 5 t153 (ci 1)))⟩,⟨some s155,some (s148,false),(.p (.fad 3 t154))⟩,⟨some s156,some (s148,false),(.r (.ld false 1 t155))⟩,⟨some s157,some (s148,false),(.p (.bin .lss eS t152 t156))⟩,oP s158 (.pick t148 (.c (.bool true)) t157),oC s159 179 [t138,t158],oS 5 t6 t159]) .ret)
 .skip)))))))))))))))) (.seq (.reg [oR s160 (.ld true 5 t7),oS 5 t6 t160]) .ret)))),2,[.c true 5 s6],none⟩
def f123:FI:=⟨(.seq (.reg [oM s2 (.c (.bool false))]) (.seq (.reg [oM s3 t0,oQ s4 .geq t3 (cu 97),oM s5 t4,⟨some s6,some (s5,true),(.p (.mov t0))⟩,⟨some s7,some (s5,true),(.p (.bin .leq eI t6 (cu 122)))⟩,oP s8 (.pick t5 t7 (.c (.bool false))),oM s2 t8]) .ret)),0,[.t s2],none⟩
def f124:FI:=⟨(.seq (.reg [oM s2 (.c (.bool false))]) (.seq (.reg [oM s3 t0,oQ s4 .geq t3 (cu 65),oM s5 t4,⟨some s6,some (s5,true),(.p (.mov t0))⟩,⟨some s7,some (s5,true),(.p (.bin .leq eI t6 (cu 90)))⟩,oP s8 (.pick t5 t7 (.c (.bool false))),oM s2 t8]) .ret)),0,[.t s2],none⟩
def f125:FI:=⟨(.seq (.reg [oM s2 (.c (.bool false))]) (.seq (.reg [oM s3 t0,oQ s4 .geq t3 (cu 48),oM s5 t4,⟨some s6,some (s5,true),(.p (.mov t0))⟩,⟨some s7,some (s5,true),(.p (.bin .leq eI t6 (cu 57)))⟩,oP s8 (.pick t5 t7 (.c (.bool false))),oM s2 t8]) .ret)),0,[.t s2],none⟩
def f126:FI:=⟨(.seq (.reg [oM s0 (.c vz)]) (.seq (.reg [oP s1 (.bsl 14 1 (.str []) [(0,(.c (.str [61,61]))),(1,(.c (.str [40]))),(2,(.c (.str [41]))),(3,(.c (.str [123]))),(4,(.c (.str [125]))),(5,(.c (.str [59]))),(6,(.c (.str [58]))),(7,(.c (.str [44]))),(8,(.c (.str [46]))),(9,(.c (.str [61]))),(10,(.c (.str [60]))),(11,(.c (.str [43]))),(12,(.c (.str [45]))),(13,(.c (.str [42])))]),oM s0 t1]) .ret)),0,[.t s0],none⟩
def b127x0:AC:=(.seq (.seq (.reg [oM s9 t5,oM s10 t0,oP s11 (.len true t10),oQ s12 .lss t9 t11,oM s13 t12,⟨some s14,some (s13,true),(.p (.mov t0))⟩,⟨some s15,some (s13,true),(.p (.mov t5))⟩,⟨some s16,some (s13,true),(.p (.ixs t14 t15))⟩,⟨some s17,some (s13,true),(.e (.call 180 [t16]) [])⟩,oP s18 (.pick t13 t17 (.c (.bool false)))]) (.cond t18
 .skip
 (.exit 0))) (.blk 1 (.seq (.seq (.reg [oM s19 t5,oM s20 t1,oQ s21 .sub t19 t20,oQ s22 .eql t21 (ci 32)]) (.cond t22
 (.seq (.reg [oM s23 t5,oC s24 130 [(ci 2),t23],oS 7 t4 t24]) .ret)
 .skip)) (.reg [oM s25 t5,oQ s26 .add t25 (ci 1),oM s5 t26]))))
def f127:FI:=⟨(.seq (.reg [oX s4 (.new 0 false false (.cells 161 [(vi 0),(vi 0),(.str []),(vi 0),(vi 0),(vi 0),(vi 0)])) []]) (.seq (.reg [oM s8 t1,oM s5 t8]) (.seq (.blk 0 (.loop b127x0)) (.seq (.reg [oM s27 t0,oM s28 t1,oM s29 t5,oP s30 (.sls true 0 t27 (some t28) (some t29) none),oM s6 t30]) (.seq (.reg [oM s31 t6,oP s32 (.bld [(vi 0),(vi 0),(.str []),(vi 0)] [(1,1,(ci 1)),(2,1,t31)]),oX s7 (.new 1 false false (.cells 114 [(vi 0),(vi 0),(.str []),(vi 0)])) [],oS 4 t7 t32]) (.seq (.reg [oM s33 t1,oF s34 0 t7,oF s35 0 t34,oS 1 t35 t33]) (.seq (.seq (.reg [oM s36 t0,oM s37 t1,oP s38 (.ixs t36 t37),oC s39 124 [t38]]) (.cond t39
 (.reg [oF s40 1 t7,oS 1 t40 (ci 2)])
 (.seq (.reg [oM s41 t6,oC s42 181 [t41]]) (.cond t42
 (.reg [oF s43 1 t7,oS 1 t43 (ci 3)])
 .skip)))) (.seq (.reg [oR s44 (.ld true 4 t7),oM s45 t5,oP s46 (.bld [(vi 0),(vi 0),(.str []),(vi 0),(vi 0),(vi 0),(vi 0)] [(0,4,t44),(4,1,t45)]),oS 7 t4 t46]) .ret)))))))),2,[.c true 7 s4],none⟩
def b128x0:AC:=(.seq (.seq (.reg [oM s10 t5,oM s11 t0,oP s12 (.len true t11),oQ s13 .lss t10 t12,oM s14 t13,⟨some s15,some (s14,true),(.p (.mov t0))⟩,⟨some s16,some (s14,true),(.p (.mov t5))⟩,⟨some s17,some (s14,true),(.p (.ixs t15 t16))⟩,⟨some s18,some (s14,true),(.e (.call 125 [t17]) [])⟩,oP s19 (.pick t14 t18 (.c (.bool false)))]) (.cond t19
 .skip
 (.exit 0))) (.blk 1 (.seq (.seq (.reg [oM s20 t5,oM s21 t1,oQ s22 .sub t20 t21,oQ s23 .gtr t22 (ci 18)]) (.cond t23
 (.seq (.reg [oM s24 t1,oC s25 130 [(ci 11),t24],oS 7 t4 t25]) .ret)
 .skip)) (.seq (.reg [oM s26 t6,oQ s27 .mul t26 (.c (.int .u64 (.ofNat 10))),oM s28 t0,oM s29 t5,oP s30 (.ixs t28 t29),oQ s31 .sub t30 (cu 48),oP s32 (.cvi .u64 t31),oQ s33 .add t27 t32,oM s6 t33]) (.reg [oM s34 t5,oQ s35 .add t34 (ci 1),oM s5 t35])))))
def f128:FI:=⟨(.seq (.reg [oX s4 (.new 0 false false (.cells 161 [(vi 0),(vi 0),(.str []),(vi 0),(vi 0),(vi 0),(vi 0)])) []]) (.seq (.reg [oM s9 t1,oM s5 t9]) (.seq (.reg [oM s6 (.c (.int .u64 (.ofNat 0)))]) (.seq (.blk 0 (.loop b128x0)) (.seq (.reg [oM s36 t0,oM s37 t1,oP s38 (.ixs t36 t37),oQ s39 .eql t38 (cu 48),oM s40 t39,⟨some s41,some (s40,true),(.p (.mov t5))⟩,⟨some s42,some (s40,true),(.p (.mov t1))⟩,⟨some s43,some (s40,true),(.p (.bin .add eI t42 (ci 1)))⟩,⟨some s44,some (s40,true),(.p (.bin .gtr eI t41 t43))⟩,oP s45 (.pick t40 t44 (.c (.bool false))),oM s7 t45]) (.seq (.seq (.reg [oM s46 t7,oM s47 t46,⟨some s48,some (s47,false),(.p (.mov t6))⟩,⟨some s49,some (s47,false),(.p (.bin .geq eI t48 (.c (.int .u64 (.ofNat 9223372036854775808)))))⟩,oP s50 (.pick t47 (.c (.bool true)) t49),oM s51 t50,⟨some s52,some (s51,false),(.p (.mov t5))⟩,⟨some s53,some (s51,false),(.p (.mov t0))⟩,⟨some s54,some (s51,false),(.p (.len true t53))⟩,⟨some s55,some (s51,false),(.p (.bin .lss eI t52 t54))⟩,⟨some s56,some (s51,false),(.p (.mov t55))⟩,⟨some s57,some (s56,true),(.p (.mov t0))⟩,⟨some s58,some (s56,true),(.p (.mov t5))⟩,⟨some s59,some (s56,true),(.p (.ixs t57 t58))⟩,⟨some s60,some (s56,true),(.e (.call 123 [t59]) [])⟩,⟨some s61,some (s56,true),(.p (.mov t60))⟩,⟨some s62,some (s61,false),(.p (.mov t0))⟩,⟨some s63,some (s61,false),(.p (.mov t5))⟩,⟨some s64,some (s61,false),(.p (.ixs t62 t63))⟩,⟨some s65,some (s61,false),(.e (.call 124 [t64]) [])⟩,⟨some s66,some (s56,true),(.p (.pick t61 (.c (.bool true)) t65))⟩,⟨some s67,some (s56,true),(.p (.mov t66))⟩,⟨some s68,some (s67,false),(.p (.mov t0))⟩,⟨some s69,some (s67,false),(.p (.mov t5))⟩,⟨some s70,some (s67,false),(.p (.ixs t68 t69))⟩,⟨some s71,some (s67,false),(.p (.bin .eql eI t70 (cu 95)))⟩,⟨some s72,some (s56,true),(.p (.pick t67 (.c (.bool true)) t71))⟩,⟨some s73,some (s51,false),(.p (.pick t56 t72 (.c (.bool false))))⟩,oP s74 (.pick t51 (.c (.bool true)) t73)]) (.cond t74
 (.seq (.reg [oM s75 t1,oC s76 130 [(ci 11),t75],oS 7 t4 t76]) .ret)
 .skip)) (.seq (.reg [oM s77 t6,oP s78 (.cvi .i64 t77),oP s79 (.bld [(vi 0),(vi 0),(.str []),(vi 0)] [(1,1,(ci 4)),(3,1,t78)]),oX s8 (.new 1 false false (.cells 114 [(vi 0),(vi 0),(.str []),(vi 0)])) [],oS 4 t8 t79]) (.seq (.reg [oM s80 t1,oF s81 0 t8,oF s82 0 t81,oS 1 t82 t80]) (.seq (.reg [oR s83 (.ld true 4 t8),oM s84 t5,oP s85 (.bld [(vi 0),(vi 0),(.str []),(vi 0),(vi 0),(vi 0),(vi 0)] [(0,4,t83),(4,1,t84)]),oS 7 t4 t85]) .ret))))))))),2,[.c true 7 s4],none⟩
def b129x0:AC:=(.seq (.seq (.reg [oM s11 t6,oM s12 t0,oP s13 (.len true t12),oQ s14 .lss t11 t13,oM s15 t14,⟨some s16,some (s15,true),(.p (.mov t0))⟩,⟨some s17,some (s15,true),(.p (.mov t6))⟩,⟨some s18,some (s15,true),(.p (.ixs t16 t17))⟩,⟨some s19,some (s15,true),(.p (.bin .neq eI t18 (cu 34)))⟩,oP s20 (.pick t15 t19 (.c (.bool false)))]) (.cond t20
 .skip
 (.exit 0))) (.blk 1 (.seq (.seq (.reg [oM s21 t0,oM s22 t6,oP s23 (.ixs t21 t22),oC s24 182 [t23]]) (.cond t24
 (.seq (.reg [oM s25 t5,oM s26 t0,oM s27 t6,oP s28 (.ixs t26 t27),oP s29 (.bsl 1 1 (vu 0) [(0,t28)]),oX s30 (.app 1 0 1 (vu 0) 1 t25 t29) [],oM s5 t30]) (.seq (.reg [oM s31 t6,oQ s32 .add t31 (ci 1),oM s6 t32]) (.exit 1)))
 .skip)) (.seq (.seq (.reg [oM s33 t0,oM s34 t6,oP s35 (.ixs t33 t34),oQ s36 .neq t35 (cu 92)]) (.cond t36
 (.seq (.reg [oM s37 t6,oC s38 130 [(ci 12),t37],oS 7 t4 t38]) .ret)
 .skip)) (.seq (.reg [oM s39 t6,oQ s40 .add t39 (ci 1),oM s6 t40]) (.seq (.seq (.reg [oM s41 t6,oM s42 t0,oP s43 (.len true t42),oQ s44 .eql t41 t43]) (.cond t44
 (.seq (.reg [oM s45 t6,oC s46 130 [(ci 12),t45],oS 7 t4 t46]) .ret)
 .skip)) (.seq (.seq (.reg [oM s47 t0,oM s48 t6,oP s49 (.ixs t47 t48)]) (.blk 2 (.seq (.reg [oQ s53 .eql t49 (cu 110),oM s52 t53]) (.cond t52
 (.reg [oM s54 t5,oP s55 (.bsl 1 1 (vu 0) [(0,(cu 10))]),oX s56 (.app 1 0 1 (vu 0) 1 t54 t55) [],oM s5 t56])
 (.seq (.seq (.reg [oQ s58 .eql t49 (cu 34),oM s57 t58]) (.cond t57
 .skip
 (.reg [oQ s59 .eql t49 (cu 92),oM s57 t59]))) (.cond t57
 (.reg [oM s60 t5,oM s61 t0,oM s62 t6,oP s63 (.ixs t61 t62),oP s64 (.bsl 1 1 (vu 0) [(0,t63)]),oX s65 (.app 1 0 1 (vu 0) 1 t60 t64) [],oM s5 t65])
 (.seq (.reg [oM s50 t6,oC s51 130 [(ci 12),t50],oS 7 t4 t51]) .ret))))))) (.reg [oM s66 t6,oQ s67 .add t66 (ci 1),oM s6 t67]))))))))
def f129:FI:=⟨(.seq (.reg [oX s4 (.new 0 false false (.cells 161 [(vi 0),(vi 0),(.str []),(vi 0),(vi 0),(vi 0),(vi 0)])) []]) (.seq (.reg [oX s8 (.mks 1 false false true 1 (vu 0) 1 (ci 0) (ci 0)) [],oM s5 t8]) (.seq (.reg [oM s9 t1,oQ s10 .add t9 (ci 1),oM s6 t10]) (.seq (.blk 0 (.loop b129x0)) (.seq (.seq (.reg [oM s68 t6,oM s69 t0,oP s70 (.len true t69),oQ s71 .eql t68 t70]) (.cond t71
 (.seq (.reg [oM s72 t6,oC s73 130 [(ci 12),t72],oS 7 t4 t73]) .ret)
 .skip)) (.seq (.reg [oM s74 t5,oR s75 (.b2s t74),oP s76 (.bld [(vi 0),(vi 0),(.str []),(vi 0)] [(1,1,(ci 5)),(2,1,t75)]),oX s7 (.new 1 false false (.cells 114 [(vi 0),(vi 0),(.str []),(vi 0)])) [],oS 4 t7 t76]) (.seq (.reg [oM s77 t1,oF s78 0 t7,oF s79 0 t78,oS 1 t79 t77]) (.seq (.reg [oR s80 (.ld true 4 t7),oM s81 t6,oQ s82 .add t81 (ci 1),oP s83 (.bld [(vi 0),(vi 0),(.str []),(vi 0),(vi 0),(vi 0),(vi 0)] [(0,4,t80),(4,1,t82)]),oS 7 t4 t83]) .ret)))))))),2,[.c true 7 s4],none⟩
def b131x0:AC:=(.seq (.seq (.reg [oM s35 t5,oM s36 t4,oP s37 (.len false t36),oQ s38 .lss t35 t37]) (.cond t38
 .skip
 (.exit 0))) (.seq (.blk 1 (.seq (.reg [oF s41 2 t3,oL s42 t41,oM s43 t4,oM s44 t5,oP s45 (.iad 1 t43 t44),oL s46 t45,oP s47 (.bin .eql eS t42 t46)]) (.cond t47
 (.seq (.reg [oM s2 (.c (.bool true))]) .ret)
 .skip))) (.reg [oM s39 t5,oQ s40 .add t39 (ci 1),oM s5 t40])))
def f131:FI:=⟨(.seq (.reg [oM s2 (.c (.bool false))]) (.seq (.seq (.reg [oM s6 t0,oN s7 t6,oF s8 2 t7,oG s9 t8,oM s10 t0,oN s11 t10,oF s12 0 t11,oL s13 t12,oP s14 (.len false t13),oQ s15 .geq t9 t14]) (.cond t15
 (.seq (.reg [oM s2 (.c (.bool false))]) .ret)
 .skip)) (.seq (.reg [oM s16 t0,oN s17 t16,oF s18 0 t17,oL s19 t18,oM s20 t0,oN s21 t20,oF s22 2 t21,oG s23 t22,oP s24 (.iad 4 t19 t23),oR s25 (.ld true 4 t24),oX s3 (.new 0 false false (.cells 114 [(vi 0),(vi 0),(.str []),(vi 0)])) [(.l t24),(.c t22),(.l t18)],oS 4 t3 t25]) (.seq (.seq (.reg [oF s26 1 t3,oG s27 t26,oQ s28 .neq t27 (ci 3),oM s29 t28,⟨some s30,some (s29,true),(.p (.fad 1 t3))⟩,⟨some s31,some (s29,true),(.r (.ldc t30))⟩,⟨some s32,some (s29,true),(.p (.bin .neq eI t31 (ci 6)))⟩,oP s33 (.pick t29 t32 (.c (.bool false)))]) (.cond t33
 (.seq (.reg [oM s2 (.c (.bool true))]) .ret)
 .skip)) (.seq (.reg [oP s34 (.bsl 13 1 (.str []) [(0,(.c (.str [108,101,116]))),(1,(.c (.str [112,114,105,110,116]))),(2,(.c (.str [105,102]))),(3,(.c (.str [119,104,105,108,101]))),(4,(.c (.str [114,101,116,117,114,110]))),(5,(.c (.str [116,114,117,101]))),(6,(.c (.str [102,97,108,115,101]))),(7,(.c (.str [115,101,108,102]))),(8,(.c (.str [110,105,108]))),(9,(.c (.str [110,101,119]))),(10,(.c (.str [40]))),(11,(.c (.str [45]))),(12,(.c (.str [110,111,116])))]),oM s4 t34]) (.seq (.seq (.reg [oM s5 (ci 0)]) (.blk 0 (.loop b131x0))) (.seq (.reg [oM s2 (.c (.bool false))]) .ret))))))),1,[.t s2],none⟩
def f132:FI:=⟨(.seq (.reg [oM s4 (.c (.bool false))]) (.seq (.reg [oM s5 t0,oN s6 t5,oF s7 3 t6,oG s8 t7,oQ s9 .eql t8 (ci 0),oM s10 t9,⟨some s11,some (s10,true),(.p (.mov t0))⟩,⟨some s12,some (s10,true),(.p (.nilc t11))⟩,⟨some s13,some (s10,true),(.p (.fad 2 t12))⟩,⟨some s14,some (s10,true),(.r (.ldc t13))⟩,⟨some s15,some (s10,true),(.p (.bin .add eI t14 (ci 1)))⟩,⟨some s16,some (s10,true),(.p (.mov t0))⟩,⟨some s17,some (s10,true),(.p (.nilc t16))⟩,⟨some s18,some (s10,true),(.p (.fad 0 t17))⟩,⟨some s19,some (s10,true),(.r (.ld false 1 t18))⟩,⟨some s20,some (s10,true),(.p (.len false t19))⟩,⟨some s21,some (s10,true),(.p (.bin .lss eI t15 t20))⟩,oP s22 (.pick t10 t21 (.c (.bool false))),oM s23 t22,⟨some s24,some (s23,true),(.p (.mov t0))⟩,⟨some s25,some (s23,true),(.p (.nilc t24))⟩,⟨some s26,some (s23,true),(.p (.fad 0 t25))⟩,⟨some s27,some (s23,true),(.r (.ld false 1 t26))⟩,⟨some s28,some (s23,true),(.p (.mov t0))⟩,⟨some s29,some (s23,true),(.p (.nilc t28))⟩,⟨some s30,some (s23,true),(.p (.fad 2 t29))⟩,⟨some s31,some (s23,true),(.r (.ldc t30))⟩,⟨some s32,some (s23,true),(.p (.bin .add eI t31 (ci 1)))⟩,⟨some s33,some (s23,true),(.p (.iad 4 t27 t32))⟩,⟨some s34,some (s23,true),(.p (.fad 1 t33))⟩,⟨some s35,some (s23,true),(.r (.ldc t34))⟩,⟨some s36,some (s23,true),(.p (.bin .eql eI t35 (ci 6)))⟩,oP s37 (.pick t23 t36 (.c (.bool false))),oM s38 t37,⟨some s39,some (s38,true),(.p (.mov t0))⟩,⟨some s40,some (s38,true),(.p (.nilc t39))⟩,⟨some s41,some (s38,true),(.p (.fad 0 t40))⟩,⟨some s42,some (s38,true),(.r (.ld false 1 t41))⟩,⟨some s43,some (s38,true),(.p (.mov t0))⟩,⟨some s44,some (s38,true),(.p (.nilc t43))⟩,⟨some s45,some (s38,true),(.p (.fad 2 t44))⟩,⟨some s46,some (s38,true),(.r (.ldc t45))⟩,⟨some s47,some (s38,true),(.p (.bin .add eI t46 (ci 1)))⟩,⟨some s48,some (s38,true),(.p (.iad 4 t42 t47))⟩,⟨some s49,some (s38,true),(.p (.fad 2 t48))⟩,⟨some s50,some (s38,true),(.r (.ld false 1 t49))⟩,⟨some s51,some (s38,true),(.p (.mov t1))⟩,⟨some s52,some (s38,true),(.p (.bin .eql eS t50 t51))⟩,oP s53 (.pick t38 t52 (.c (.bool false))),oM s4 t53]) .ret)),0,[.t s4],none⟩
def b133x0:AC:=(.seq (.seq (.reg [oM s20 t0,oN s21 t20,oF s22 3 t21,oG s23 t22,oQ s24 .eql t23 (ci 0)]) (.cond t24
 .skip
 (.exit 0))) (.blk 1 (.seq (.reg [oM s25 t0,oM s26 t1,oC s27 184 [t25,t26],oM s8 t27]) (.seq (.seq (.reg [oM s28 t8,oQ s29 .eql t28 (ci 0)]) (.cond t29
 (.seq (.reg [oR s30 (.ld true 7 t7),oS 7 t6 t30]) .ret)
 .skip)) (.seq (.reg [oM s31 t8,oP s32 (.bld [(vi 0),(vi 0),(vi 0),(.str []),vz,vz,vz] [(1,1,t31)]),oX s9 (.new 2 false false (.cells 258 [(vi 0),(vi 0),(vi 0),(.str []),vz,vz,vz])) [],oS 7 t9 t32]) (.seq (.reg [oM s33 t0,oC s34 32 [t33],oF s35 0 t9,oF s36 0 t35,oS 1 t36 t34]) (.seq (.reg [oM s37 t0,oN s38 t37,oF s39 2 t38,oG s40 t39,oQ s41 .add t40 (ci 1),oN s42 t37,oF s43 2 t42,oS 1 t43 t41]) (.seq (.reg [oR s44 (.ld true 7 t7),oM s45 t0,oM s46 t1,oQ s47 .add t46 (ci 1),oM s48 t2,oQ s49 .add t48 (ci 1),oX s50 (.call 133 [t45,t47,t49]) [(.l t7)],oP s51 (.bsl 2 7 (.agg [(vi 0),(vi 0),(vi 0),(.str []),vz,vz,vz]) [(0,t44),(1,t50)]),oF s52 6 t9,oS 1 t52 t51]) (.seq (.reg [oR s53 (.ld true 7 t9),oS 7 t7 t53]) (.seq (.reg [oM s54 t1,oQ s55 .eql t54 (ci 3)]) (.cond t55
 (.seq (.reg [oR s56 (.ld true 7 t7),oS 7 t6 t56]) .ret)
 .skip)))))))))))
def f133:FI:=⟨(.seq (.reg [oX s6 (.new 0 false false (.cells 258 [(vi 0),(vi 0),(vi 0),(.str []),vz,vz,vz])) []]) (.seq (.seq (.reg [oM s10 t1,oQ s11 .eql t10 (ci 6)]) (.cond t11
 (.seq (.reg [oM s12 t0,oM s13 t2,oC s14 183 [t12,t13],oS 7 t6 t14]) .ret)
 .skip)) (.seq (.reg [oM s15 t0,oM s16 t1,oQ s17 .add t16 (ci 1),oM s18 t2,oC s19 133 [t15,t17,t18],oX s7 (.new 1 false false (.cells 258 [(vi 0),(vi 0),(vi 0),(.str []),vz,vz,vz])) [],oS 7 t7 t19]) (.seq (.blk 0 (.loop b133x0)) (.seq (.reg [oR s57 (.ld true 7 t7),oS 7 t6 t57]) .ret))))),3,[.c true 7 s6],none⟩
def f134:FI:=⟨(.seq (.reg [oM s2 (.c (.bool false))]) (.seq (.reg [oM s3 t0,oC s4 185 [(ci 2),t3],oM s2 t4]) .ret)),0,[.t s2],none⟩
def b135x0:AC:=(.seq (.reg [oQ s116 .lss t115 t114]) (.seq (.cond t116
 .skip
 (.exit 3)) (.seq (.blk 4 (.seq (.reg [oP s117 (.iad 5 t113 t115),oR s118 (.ld true 5 t117),oX s12 (.new 2 false false (.cells 46 [(vi 0),(.str []),vz,vz,vz])) [],oS 5 t12 t118]) (.seq (.reg [oF s119 0 t12,oG s120 t119,oQ s121 .neq t120 (ci 7)]) (.cond t121
 (.seq (.reg [oM s4 (.c (.bool false))]) .ret)
 .skip)))) (.reg [oQ s122 .add t115 (ci 1),oM s115 t122]))))
def b135x1:AC:=(.seq (.reg [oQ s19 .lss t18 t17]) (.seq (.cond t19
 .skip
 (.exit 0)) (.seq (.blk 1 (.seq (.reg [oP s20 (.iad 5 t16 t18),oR s21 (.ld true 5 t20),oX s6 (.new 1 false false (.cells 46 [(vi 0),(.str []),vz,vz,vz])) [],oS 5 t6 t21]) (.seq (.reg [oR s22 (.ld true 5 t6),oM s23 t1,oQ s24 .sub t23 (ci 1),oC s25 135 [t22,t24],oP s26 (.un .not t25)]) (.cond t26
 (.seq (.reg [oM s4 (.c (.bool false))]) .ret)
 .skip)))) (.reg [oQ s27 .add t18 (ci 1),oM s18 t27]))))
def f135:FI:=⟨(.seq (.reg [oX s2 (.box 0 false 46 5 t0) [],oM s4 (.c (.bool false))]) (.seq (.seq (.reg [oM s13 t1,oQ s14 .eql t13 (ci 0)]) (.cond t14
 (.seq (.reg [oM s4 (.c (.bool false))]) .ret)
 .skip)) (.seq (.seq (.reg [oF s15 4 t2,oL s16 t15,oP s17 (.len false t16),oM s18 (ci 0)]) (.blk 0 (.loop b135x1))) (.seq (.reg [oF s28 4 t2,oL s29 t28,oP s30 (.len false t29),oF s31 2 t2,oL s32 t31,oP s33 (.len false t32),oF s34 3 t2,oL s35 t34,oP s36 (.len false t35),oM s7 t30,oM s8 t33,oM s9 t36]) (.seq (.reg [oF s37 1 t2,oL s38 t37,oP s39 (.bin .eql eS t38 (.c (.str []))),oM s40 t39,⟨some s41,some (s40,true),(.p (.mov t8))⟩,⟨some s42,some (s40,true),(.p (.bin .eql eI t41 (ci 0)))⟩,oP s43 (.pick t40 t42 (.c (.bool false))),oM s44 t43,⟨some s45,some (s44,true),(.p (.mov t9))⟩,⟨some s46,some (s44,true),(.p (.bin .eql eI t45 (ci 0)))⟩,oP s47 (.pick t44 t46 (.c (.bool false))),oM s10 t47]) (.seq (.seq (.reg [oF s48 0 t2,oG s49 t48]) (.blk 2 (.seq (.seq (.reg [oQ s51 .eql t49 (ci 1),oM s50 t51]) (.cond t50
 .skip
 (.seq (.reg [oQ s52 .eql t49 (ci 2),oM s50 t52]) (.cond t50
 .skip
 (.reg [oQ s53 .eql t49 (ci 3),oM s50 t53]))))) (.cond t50
 (.seq (.reg [oM s54 t10,oM s55 t54,⟨some s56,some (s55,true),(.p (.mov t7))⟩,⟨some s57,some (s55,true),(.p (.bin .eql eI t56 (ci 0)))⟩,oP s58 (.pick t55 t57 (.c (.bool false))),oM s4 t58]) .ret)
 (.seq (.reg [oQ s60 .eql t49 (ci 4),oM s59 t60]) (.cond t59
 (.seq (.reg [oF s61 1 t2,oL s62 t61,oC s63 134 [t62],oM s64 t63,⟨some s65,some (s64,true),(.p (.mov t8))⟩,⟨some s66,some (s64,true),(.p (.bin .eql eI t65 (ci 0)))⟩,oP s67 (.pick t64 t66 (.c (.bool false))),oM s68 t67,⟨some s69,some (s68,true),(.p (.mov t9))⟩,⟨some s70,some (s68,true),(.p (.bin .eql eI t69 (ci 0)))⟩,oP s71 (.pick t68 t70 (.c (.bool false))),oM s72 t71,⟨some s73,some (s72,true),(.p (.mov t7))⟩,⟨some s74,some (s72,true),(.p (.bin .eql eI t73 (ci 0)))⟩,oP s75 (.pick t72 t74 (.c (.bool false))),oM s4 t75]) .ret)
 (.seq (.reg [oQ s77 .eql t49 (ci 5),oM s76 t77]) (.cond t76
 (.seq (.reg [oM s78 t10,oM s79 t78,⟨some s80,some (s79,true),(.p (.mov t7))⟩,⟨some s81,some (s79,true),(.p (.bin .eql eI t80 (ci 1)))⟩,oP s82 (.pick t79 t81 (.c (.bool false))),oM s4 t82]) .ret)
 (.seq (.reg [oQ s84 .eql t49 (ci 7),oM s83 t84]) (.cond t83
 (.seq (.reg [oM s85 t10,oM s86 t85,⟨some s87,some (s86,true),(.p (.mov t7))⟩,⟨some s88,some (s86,true),(.p (.bin .geq eI t87 (ci 1)))⟩,oP s89 (.pick t86 t88 (.c (.bool false))),oM s4 t89]) .ret)
 (.seq (.reg [oQ s91 .eql t49 (ci 6),oM s90 t91]) (.cond t90
 (.seq (.reg [oF s92 1 t2,oL s93 t92,oP s94 (.bin .eql eS t93 (.c (.str []))),oM s95 t94,⟨some s96,some (s95,true),(.p (.mov t9))⟩,⟨some s97,some (s95,true),(.p (.mov t8))⟩,⟨some s98,some (s95,true),(.p (.bin .eql eI t96 t97))⟩,oP s99 (.pick t95 t98 (.c (.bool false))),oM s100 t99,⟨some s101,some (s100,true),(.p (.mov t7))⟩,⟨some s102,some (s100,true),(.p (.mov t8))⟩,⟨some s103,some (s100,true),(.p (.bin .eql eI t101 t102))⟩,oP s104 (.pick t100 t103 (.c (.bool false))),oM s105 t104,⟨some s106,some (s105,true),(.p (.fad 2 t2))⟩,⟨some s107,some (s105,true),(.r (.ld false 1 t106))⟩,⟨some s108,some (s105,true),(.e (.call 186 [t107]) [])⟩,oP s109 (.pick t105 t108 (.c (.bool false))),oM s4 t109]) .ret)
 (.seq (.reg [oQ s111 .eql t49 (ci 8),oM s110 t111]) (.cond t110
 (.seq (.seq (.reg [oF s112 4 t2,oL s113 t112,oP s114 (.len false t113),oM s115 (ci 0)]) (.blk 3 (.loop b135x0))) (.seq (.reg [oF s123 1 t2,oL s124 t123,oP s125 (.bin .eql eS t124 (.c (.str []))),oM s126 t125,⟨some s127,some (s126,true),(.p (.mov t9))⟩,⟨some s128,some (s126,true),(.p (.bin .eql eI t127 (ci 0)))⟩,oP s129 (.pick t126 t128 (.c (.bool false))),oM s130 t129,⟨some s131,some (s130,true),(.p (.mov t7))⟩,⟨some s132,some (s130,true),(.p (.mov t8))⟩,⟨some s133,some (s130,true),(.p (.bin .eql eI t131 t132))⟩,oP s134 (.pick t130 t133 (.c (.bool false))),oM s135 t134,⟨some s136,some (s135,true),(.p (.fad 2 t2))⟩,⟨some s137,some (s135,true),(.r (.ld false 1 t136))⟩,⟨some s138,some (s135,true),(.e (.call 186 [t137]) [])⟩,oP s139 (.pick t135 t138 (.c (.bool false))),oM s4 t139]) .ret))
 .skip)))))))))))))) (.seq (.reg [oM s4 (.c (.bool false))]) .ret))))))),3,[.t s4],none⟩
def b136x0:AC:=(.seq (.reg [oQ s52 .lss t51 t50]) (.seq (.cond t52
 .skip
 (.exit 0)) (.seq (.blk 1 (.seq (.reg [oP s53 (.iad 6 t49 t51),oR s54 (.ld true 6 t53),oX s5 (.new 1 false false (.cells 121 [(.str []),(vi 0),(.str []),vz,vz,vz])) [],oS 6 t5 t54]) (.seq (.reg [oM s55 t3,oF s56 0 t5,oL s57 t56,oP s58 (.bsl 1 1 (.str []) [(0,t57)]),oX s59 (.app 2 0 1 (.str []) 16 t55 t58) [],oM s3 t59]) (.seq (.reg [oF s60 1 t5,oR s61 (.ld true 5 t60),oC s62 135 [t61,(ci 64)],oP s63 (.un .not t62)]) (.cond t63
 (.seq (.reg [oM s2 (.c (.bool false))]) .ret)
 .skip))))) (.reg [oQ s64 .add t51 (ci 1),oM s51 t64]))))
def f136:FI:=⟨(.seq (.reg [oX s1 (.box 0 false 49 10 t0) [],oM s2 (.c (.bool false))]) (.seq (.seq (.reg [oF s6 1 t1,oL s7 t6,oP s8 (.bin .neq eS t7 (.c (.str []))),oM s9 t8,⟨some s10,some (s9,true),(.p (.fad 1 t1))⟩,⟨some s11,some (s9,true),(.r (.ld false 1 t10))⟩,⟨some s12,some (s9,true),(.e (.call 134 [t11]) [])⟩,⟨some s13,some (s9,true),(.p (.un .not t12))⟩,oP s14 (.pick t9 t13 (.c (.bool false))),oM s15 t14,⟨some s16,some (s15,false),(.p (.fad 2 t1))⟩,⟨some s17,some (s15,false),(.r (.ld false 1 t16))⟩,⟨some s18,some (s15,false),(.p (.bin .neq eS t17 (.c (.str []))))⟩,⟨some s19,some (s15,false),(.p (.mov t18))⟩,⟨some s20,some (s19,true),(.p (.fad 2 t1))⟩,⟨some s21,some (s19,true),(.r (.ld false 1 t20))⟩,⟨some s22,some (s19,true),(.e (.call 187 [t21]) [])⟩,⟨some s23,some (s19,true),(.p (.un .not t22))⟩,⟨some s24,some (s15,false),(.p (.pick t19 t23 (.c (.bool false))))⟩,oP s25 (.pick t15 (.c (.bool true)) t24),oM s26 t25,⟨some s27,some (s26,false),(.p (.fad 4 t1))⟩,⟨some s28,some (s26,false),(.r (.ld true 5 t27))⟩,⟨some s29,some (s26,false),(.e (.call 135 [t28,(ci 64)]) [])⟩,⟨some s30,some (s26,false),(.p (.un .not t29))⟩,oP s31 (.pick t26 (.c (.bool true)) t30),oM s32 t31,⟨some s33,some (s32,false),(.p (.fad 2 t1))⟩,⟨some s34,some (s32,false),(.r (.ld false 1 t33))⟩,⟨some s35,some (s32,false),(.p (.bin .eql eS t34 (.c (.str []))))⟩,⟨some s36,some (s32,false),(.p (.mov t35))⟩,⟨some s37,some (s36,true),(.p (.fad 1 t1))⟩,⟨some s38,some (s36,true),(.r (.ld false 1 t37))⟩,⟨some s39,some (s36,true),(.p (.bin .neq eS t38 (.c (.str []))))⟩,⟨some s40,some (s36,true),(.p (.mov t39))⟩,⟨some s41,some (s40,false),(.p (.fad 3 t1))⟩,⟨some s42,some (s40,false),(.r (.ld false 1 t41))⟩,⟨some s43,some (s40,false),(.p (.len false t42))⟩,⟨some s44,some (s40,false),(.p (.bin .gtr eI t43 (ci 0)))⟩,⟨some s45,some (s36,true),(.p (.pick t40 (.c (.bool true)) t44))⟩,⟨some s46,some (s32,false),(.p (.pick t36 t45 (.c (.bool false))))⟩,oP s47 (.pick t32 (.c (.bool true)) t46)]) (.cond t47
 (.seq (.reg [oM s2 (.c (.bool false))]) .ret)
 .skip)) (.seq (.reg [oM s3 (.c vz)]) (.seq (.seq (.reg [oF s48 3 t1,oL s49 t48,oP s50 (.len false t49),oM s51 (ci 0)]) (.blk 0 (.loop b136x0))) (.seq (.reg [oM s65 t3,oC s66 186 [t65],oM s67 t66,⟨some s68,some (s67,true),(.p (.fad 9 t1))⟩,⟨some s69,some (s67,true),(.r (.ld false 1 t68))⟩,⟨some s70,some (s67,true),(.e (.call 188 [t69,(ci 64)]) [])⟩,oP s71 (.pick t67 t70 (.c (.bool false))),oM s2 t71]) .ret))))),2,[.t s2],none⟩
def b137x0:AC:=(.seq (.reg [oQ s22 .lss t21 t20]) (.seq (.cond t22
 .skip
 (.exit 0)) (.seq (.blk 1 (.seq (.reg [oM s23 t21,oP s24 (.iad 5 t19 t21),oR s25 (.ld true 5 t24),oX s6 (.new 1 false false (.cells 46 [(vi 0),(.str []),vz,vz,vz])) [],oM s5 t23,oS 5 t6 t25]) (.seq (.reg [oM s26 t0,oM s27 t5,oC s28 139 [t26,t27]]) (.reg [oM s29 t0,oR s30 (.ld true 5 t6),oC s31 71 [t29,t30]])))) (.reg [oQ s32 .add t21 (ci 1),oM s21 t32]))))
def f137:FI:=⟨(.seq (.reg [oX s3 (.box 0 false 46 5 t1) []]) (.seq (.reg [oF s7 4 t3,oL s8 t7,oP s9 (.len false t8),oQ s10 .sub t9 (ci 1),oM s4 t10]) (.seq (.reg [oM s11 t0,oN s12 t11,oF s13 0 t12,oP s14 (.bsl 1 1 (.str []) [(0,(.c (.str [40])))]),oC s15 70 [t13,t14]]) (.seq (.seq (.reg [oF s16 4 t3,oL s17 t16,oM s18 t4,oP s19 (.sls false 5 t17 none (some t18) none),oP s20 (.len false t19),oM s21 (ci 0)]) (.blk 0 (.loop b137x0))) (.seq (.reg [oM s33 t0,oN s34 t33,oF s35 0 t34,oP s36 (.bsl 1 1 (.str []) [(0,(.c (.str [41])))]),oC s37 70 [t35,t36]]) (.reg [oM s38 t0,oF s39 4 t3,oL s40 t39,oM s41 t4,oP s42 (.iad 5 t40 t41),oR s43 (.ld true 5 t42),oC s44 71 [t38,t43]])))))),2,[],none⟩
def f138:FI:=⟨(.seq (.reg [oM s4 (.c vz)]) (.seq (.seq (.reg [oM s5 t1,oQ s6 .lss t5 (ci 0)]) (.cond t6
 (.reg [oP s7 (.ifc 9 (.c (.str [99,97,110,110,111,116,32,98,101,32,110,101,103,97,116,105,118,101]))),oY (.pan t7) []])
 .skip)) (.seq (.seq (.reg [oM s8 t1,oM s9 t0,oP s10 (.cap t9),oM s11 t0,oP s12 (.len false t11),oQ s13 .sub t10 t12,oQ s14 .sub t8 t13,oM s1 t14]) (.seq (.reg [oM s15 t1,oQ s16 .gtr t15 (ci 0)]) (.cond t16
 (.reg [oM s17 t0,oM s18 t0,oP s19 (.cap t18),oP s20 (.sls false 10 t17 none (some t19) none),oM s21 t1,oX s22 (.apz 0 true 10 (.agg [(vi 0),(.str []),(.str []),vz,(vi 0),(.str []),vz,vz,vz,vz]) 184 t20 t21) [],oM s23 t0,oP s24 (.len false t23),oP s25 (.sls false 10 t22 none (some t24) none),oM s0 t25])
 .skip))) (.seq (.reg [oM s26 t0,oM s4 t26]) .ret)))),1,[.t s4],none⟩
def f139:FI:=⟨(.seq (.reg [oM s4 t1,oQ s5 .gtr t4 (ci 0)]) (.cond t5
 (.reg [oM s6 t0,oN s7 t6,oF s8 0 t7,oP s9 (.bsl 1 1 (.str []) [(0,(.c (.str [44])))]),oC s10 70 [t8,t9]])
 .skip)),0,[],none⟩
def f140:FI:=⟨(.seq (.reg [oM s4 t0,oN s5 t4,oF s6 0 t5,oP s7 (.bsl 1 1 (.str []) [(0,(.c (.str [123])))]),oC s8 70 [t6,t7]]) (.seq (.reg [oM s9 t0,oM s10 t1,oC s11 189 [t9,t10]]) (.reg [oM s12 t0,oN s13 t12,oF s14 0 t13,oP s15 (.bsl 1 1 (.str []) [(0,(.c (.str [125])))]),oC s16 70 [t14,t15]]))),0,[],none⟩
def f142:FI:=⟨(.seq (.reg [oX s1 (.box 0 false 46 5 t0) [],oM s2 (.c (.str [])),oM s3 (ci 0)]) (.seq (.reg [oP s6 (.bld [.nilp,vz,(vi 0)] []),oX s7 (.box 1 false 173 3 t6) [],oM s4 t7]) (.seq (.reg [oR s8 (.ld true 5 t1),oC s9 135 [t8,(ci 64)],oM s5 t9]) (.seq (.seq (.reg [oM s10 t5]) (.cond t10
 (.reg [oM s11 t4,oR s12 (.ld true 5 t1),oC s13 71 [t11,t12]])
 .skip)) (.seq (.reg [oM s14 t4,oN s15 t14,oF s16 0 t15,oM s17 t5,oC s18 69 [t16,t17],oE s19 t18 0,oE s20 t18 1,oM s2 t19,oM s3 t20]) .ret))))),2,[.t s2,.t s3],none⟩
def f143:FI:=⟨(.seq (.reg [oX s1 (.box 0 false 46 5 t0) [],oM s2 (.c (.bool false))]) (.seq (.reg [oR s6 (.ld true 5 t1),oC s7 142 [t6],oM s5 t7,oE s8 t5 0,oE s9 t5 1,oM s3 t8,oM s4 t9]) (.seq (.reg [oM s10 t4,oQ s11 .neq t10 (ci 1),oM s2 t11]) .ret))),1,[.t s2],none⟩
def f144:FI:=⟨(.seq (.reg [oX s1 (.box 0 false 49 10 t0) [],oM s2 (.c (.str [])),oM s3 (ci 0)]) (.seq (.reg [oP s6 (.bld [.nilp,vz,(vi 0)] []),oX s7 (.box 1 false 173 3 t6) [],oM s4 t7]) (.seq (.reg [oR s8 (.ld true 10 t1),oC s9 136 [t8],oM s5 t9]) (.seq (.seq (.reg [oM s10 t5]) (.cond t10
 (.reg [oM s11 t4,oR s12 (.ld true 10 t1),oC s13 73 [t11,t12]])
 .skip)) (.seq (.reg [oM s14 t4,oN s15 t14,oF s16 0 t15,oM s17 t5,oC s18 69 [t16,t17],oE s19 t18 0,oE s20 t18 1,oM s2 t19,oM s3 t20]) .ret))))),2,[.t s2,.t s3],none⟩
def f145:FI:=⟨(.seq (.reg [oM s4 (.c (.bool false))]) (.seq (.reg [oM s5 t0,oM s6 t1,oC s7 190 [t5,t6],oQ s8 .geq t7 (ci 0),oM s4 t8]) .ret)),0,[.t s4],none⟩
def b146x0:AC:=(.seq (.reg [oQ s11 .lss t10 t9]) (.seq (.cond t11
 .skip
 (.exit 0)) (.seq (.blk 1 (.seq (.reg [oP s12 (.iad 6 t8 t10),oR s13 (.ld true 6 t12),oX s5 (.new 3 false false (.cells 121 [(.str []),(vi 0),(.str []),vz,vz,vz])) [],oS 6 t5 t13]) (.reg [oF s14 4 t3,oL s15 t14,oF s16 1 t5,oR s17 (.ld true 5 t16),oP s18 (.bsl 1 5 (.agg [(vi 0),(.str []),vz,vz,vz]) [(0,t17)]),oX s19 (.app 4 0 5 (.agg [(vi 0),(.str []),vz,vz,vz]) 96 t15 t18) [],oF s20 4 t3,oS 1 t20 t19]))) (.reg [oQ s21 .add t10 (ci 1),oM s10 t21]))))
def f146:FI:=⟨(.seq (.reg [oX s1 (.box 0 false 49 10 t0) [],oX s2 (.new 1 false false (.cells 46 [(vi 0),(.str []),vz,vz,vz])) []]) (.seq (.reg [oP s6 (.bld [(vi 0),(.str []),vz,vz,vz] [(0,1,(ci 7))]),oX s3 (.new 2 false false (.cells 46 [(vi 0),(.str []),vz,vz,vz])) [],oS 5 t3 t6]) (.seq (.seq (.reg [oF s7 3 t1,oL s8 t7,oP s9 (.len false t8),oM s10 (ci 0)]) (.blk 0 (.loop b146x0))) (.seq (.reg [oF s22 4 t3,oL s23 t22,oF s24 4 t1,oR s25 (.ld true 5 t24),oP s26 (.bsl 1 5 (.agg [(vi 0),(.str []),vz,vz,vz]) [(0,t25)]),oX s27 (.app 4 0 5 (.agg [(vi 0),(.str []),vz,vz,vz]) 96 t23 t26) [],oF s28 4 t3,oS 1 t28 t27]) (.seq (.reg [oR s29 (.ld true 5 t3),oS 5 t2 t29]) .ret))))),4,[.c true 5 s2],none⟩
def b147x0:AC:=(.seq (.reg [oQ s15 .lss t14 t13]) (.seq (.cond t15
 .skip
 (.exit 0)) (.seq (.blk 1 (.seq (.reg [oP s16 (.iad 1 t12 t14),oL s17 t16,oM s7 t17]) (.seq (.reg [oM s19 t0,oM s20 t7,oR s21 (.lku false [.s] true (.agg [(vi 0),(.str []),(vi 0),(.str []),vz,vz,vz]) t19 t20),oM s18 t21,oE s22 t18 0,oE s23 t18 1,oX s8 (.new 1 false false (.cells 84 [(vi 0),(.str []),(vi 0),(.str []),vz,vz,vz])) [],oS 7 t8 t22,oM s9 t23]) (.seq (.reg [oM s24 t9,oP s25 (.un .not t24)]) (.cond t25
 (.seq (.reg [oM s26 t7,oM s4 t26,oM s5 (.c (.bool true))]) .ret)
 .skip))))) (.reg [oQ s27 .add t14 (ci 1),oM s14 t27]))))
def f147:FI:=⟨(.seq (.reg [oX s3 (.box 0 false 46 5 t1) [],oM s4 (.c (.str [])),oM s5 (.c (.bool false))]) (.seq (.seq (.reg [oR s10 (.ld true 5 t3),oP s11 (.bsl 1 5 (.agg [(vi 0),(.str []),vz,vz,vz]) [(0,t10)]),oC s12 191 [t11],oP s13 (.len false t12),oM s14 (ci 0)]) (.blk 0 (.loop b147x0))) (.seq (.reg [oM s4 (.c (.str [])),oM s5 (.c (.bool false))]) .ret))),2,[.t s4,.t s5],none⟩
def b148x0:AC:=(.seq (.reg [oQ s14 .lss t13 t12]) (.seq (.cond t14
 .skip
 (.exit 0)) (.seq (.blk 1 (.seq (.reg [oM s15 t13,oP s16 (.iad 5 t11 t13),oR s17 (.ld true 5 t16),oX s7 (.new 1 false false (.cells 46 [(vi 0),(.str []),vz,vz,vz])) [],oM s6 t15,oS 5 t7 t17]) (.seq (.seq (.reg [oF s18 0 t3,oG s19 t18,oQ s20 .eql t19 (ci 6),oM s21 t20,⟨some s22,some (s21,true),(.p (.fad 3 t3))⟩,⟨some s23,some (s21,true),(.r (.ld false 1 t22))⟩,⟨some s24,some (s21,true),(.p (.mov t6))⟩,⟨some s25,some (s21,true),(.p (.iad 1 t23 t24))⟩,⟨some s26,some (s21,true),(.r (.ldc t25))⟩,oP s27 (.pick t21 t26 (.c (.bool false))),oM s28 t27,⟨some s29,some (s28,true),(.p (.mov t0))⟩,⟨some s30,some (s28,true),(.r (.ld true 5 t7))⟩,⟨some s31,some (s28,true),(.e (.call 192 [t29,t30]) [])⟩,⟨some s32,some (s28,true),(.p (.un .not t31))⟩,oP s33 (.pick t28 t32 (.c (.bool false)))]) (.cond t33
 (.seq (.reg [oF s34 2 t3,oL s35 t34,oM s36 t6,oP s37 (.iad 1 t35 t36),oL s38 t37,oM s4 t38,oM s5 (.c (.bool true))]) .ret)
 .skip)) (.seq (.reg [oM s40 t0,oR s41 (.ld true 5 t7),oC s42 148 [t40,t41],oM s39 t42,oE s43 t39 0,oE s44 t39 1,oM s8 t43,oM s9 t44]) (.seq (.reg [oM s45 t9]) (.cond t45
 (.seq (.reg [oM s46 t8,oM s4 t46,oM s5 (.c (.bool true))]) .ret)
 .skip)))))) (.reg [oQ s47 .add t13 (ci 1),oM s13 t47]))))
def f148:FI:=⟨(.seq (.reg [oX s3 (.box 0 false 46 5 t1) [],oM s4 (.c (.str [])),oM s5 (.c (.bool false))]) (.seq (.seq (.reg [oF s10 4 t3,oL s11 t10,oP s12 (.len false t11),oM s13 (ci 0)]) (.blk 0 (.loop b148x0))) (.seq (.reg [oM s4 (.c (.str [])),oM s5 (.c (.bool false))]) .ret))),2,[.t s4,.t s5],none⟩
end Go.Abs.Run
