/- On the way to: ValuePlain returns true; its listed variables read as the text lays them. -/
import Derived.Test.YtihoajjpninnoaaGreatDoorC4
import Derived.Test.YtihoajjpninnoaaGreatDoorB6
import Derived.Shelf.Strconv.Itoa3
import Derived.KernelRfl
import Derived.Test.YtihoajjpninnoaaGreatDoorS3
import Derived.Test.YtihoajjpninnoaaGreatDoorL1
namespace Go.Proofs
def Tryz.l171_ren:Go.Shelf.Ren:=⟨fun | 171=>119 | 243=>184 | 246=>226 | 283=>259 | 284=>260 | 285=>261 | 286=>262 | 129=>169 | 317=>286 | 318=>287 | 319=>288 | 320=>289 | 337=>312 | 338=>313 | n=>n,fun | 3=>3 | 9=>9 | 2=>2 | 4=>4 | 171=>335 | 0=>0 | 53=>270 | 37=>80 | 5=>5 | 173=>337 | 212=>355 | 51=>268 | 20=>20 | 213=>356 | 46=>204 | 232=>372 | 233=>373 | n=>n,fun | 17=>1 | 18=>2 | 19=>3 | n=>n⟩
theorem Tryz.l171:Go.Proofs.LaysM.n171 Tryz.prog Tryz.l171_ren:={ mixed:=by kernel_rfl,f129:=Tryz.func169.trans (congrArg some (by kernel_rfl)),f171:=Tryz.func119.trans (congrArg some (by kernel_rfl)),f243:=Tryz.func184.trans (congrArg some (by kernel_rfl)),f246:=Tryz.func226.trans (congrArg some (by kernel_rfl)),f283:=Tryz.func259.trans (congrArg some (by kernel_rfl)),f284:=Tryz.func260.trans (congrArg some (by kernel_rfl)),f285:=Tryz.func261.trans (congrArg some (by kernel_rfl)),f286:=Tryz.func262.trans (congrArg some (by kernel_rfl)),f317:=Tryz.func286.trans (congrArg some (by kernel_rfl)),f318:=Tryz.func287.trans (congrArg some (by kernel_rfl)),f319:=Tryz.func288.trans (congrArg some (by kernel_rfl)),f320:=Tryz.func289.trans (congrArg some (by kernel_rfl)),f337:=Tryz.func312.trans (congrArg some (by kernel_rfl)),f338:=Tryz.func313.trans (congrArg some (by kernel_rfl)),t0:=Tryz.underlying0,a0:=Tryz.isAgg0,z0:=Tryz.sizeOf0,v0:=Tryz.zeroValue0,t2:=Tryz.underlying2,a2:=Tryz.isAgg2,z2:=Tryz.sizeOf2,v2:=Tryz.zeroValue2,t3:=Tryz.underlying3,a3:=Tryz.isAgg3,z3:=Tryz.sizeOf3,v3:=Tryz.zeroValue3,t4:=Tryz.underlying4,a4:=Tryz.isAgg4,z4:=Tryz.sizeOf4,v4:=Tryz.zeroValue4,t5:=Tryz.underlying5,a5:=Tryz.isAgg5,z5:=Tryz.sizeOf5,v5:=Tryz.zeroValue5,t9:=Tryz.underlying9,a9:=Tryz.isAgg9,z9:=Tryz.sizeOf9,v9:=Tryz.zeroValue9,t20:=Tryz.underlying20,a20:=Tryz.isAgg20,z20:=Tryz.sizeOf20,v20:=Tryz.zeroValue20,t37:=Tryz.underlying80,a37:=Tryz.isAgg80,z37:=Tryz.sizeOf80,v37:=Tryz.zeroValue80,t46:=Tryz.underlying204,a46:=Tryz.isAgg204,z46:=Tryz.sizeOf204,v46:=Tryz.zeroValue204,t51:=Tryz.underlying268,a51:=Tryz.isAgg268,z51:=Tryz.sizeOf268,v51:=Tryz.zeroValue268,t53:=Tryz.underlying270,a53:=Tryz.isAgg270,z53:=Tryz.sizeOf270,v53:=Tryz.zeroValue270,t171:=Tryz.underlying335,a171:=Tryz.isAgg335,z171:=Tryz.sizeOf335,v171:=Tryz.zeroValue335,t173:=Tryz.underlying337,a173:=Tryz.isAgg337,z173:=Tryz.sizeOf337,v173:=Tryz.zeroValue337,t212:=Tryz.underlying355,a212:=Tryz.isAgg355,z212:=Tryz.sizeOf355,v212:=Tryz.zeroValue355,t213:=Tryz.underlying356,a213:=Tryz.isAgg356,z213:=Tryz.sizeOf356,t232:=Tryz.underlying372,a232:=Tryz.isAgg372,z232:=Tryz.sizeOf372,v232:=Tryz.zeroValue372,t233:=Tryz.underlying373,a233:=Tryz.isAgg373,z233:=Tryz.sizeOf373,v233:=Tryz.zeroValue373,g17:=by kernel_rfl,g18:=by kernel_rfl,g19:=by kernel_rfl,i0:=by kernel_rfl,i2:=by kernel_rfl,i3:=by kernel_rfl,i4:=by kernel_rfl,i5:=by kernel_rfl,i9:=by kernel_rfl,i20:=by kernel_rfl,i37:=by kernel_rfl,i46:=by kernel_rfl,i51:=by kernel_rfl,i53:=by kernel_rfl,i171:=by kernel_rfl,i173:=by kernel_rfl,i212:=by kernel_rfl,i232:=by kernel_rfl,i233:=by kernel_rfl,m17:=by kernel_rfl,m18:=by kernel_rfl,m19:=by kernel_rfl }
end Go.Proofs
namespace Go.Abs.Run
open Go Go.Abs Go.Proofs
theorem itoa_ok:IOK Tryz.prog 119 (z0p zcl) :=
 itoa_iok (g:=1) (l:=n2) (enters_of Tryz.func119 (by kernel_rfl) rfl) (by kernel_rfl) (by kernel_rfl) (by rw[← g2_eq]; rfl) fun n h0 h1 w ht=>Any.strconv_Itoa Tryz.l171 n h0 h1 w ht
end Go.Abs.Run
namespace Go.Abs.Run
open Go Go.Abs Go.Proofs
def runsG (args:List AV):Option AV:=match args with | []=>some (.bool true) | _::_=>none
theorem zkj:IOK Tryz.prog 8 (z0p runsG):=z8z z68 zki mixed fun args v h=>by
 cases args with
 | cons a l=>cases h
 | nil =>
  cases h
  obtain⟨e',he⟩:=zhy
  exact⟨.bool _,[],e',rfl,by simp,he⟩
noncomputable def zkk:Nat→Option z0b:=addI intr 119 (z0p zcl)
theorem zkl:z0z Tryz.prog zkk∧z0d zkk:=z47 z4y itoa_ok
theorem lBI:LBuilder tab zkk:=by constructor<;>rfl
theorem lTI:LTold tab zkk:={ lBI with p78:=rfl,i78:=rfl,p18:=rfl,i18:=rfl }
theorem zkm:IOK Tryz.prog 18 (z0p z69):=zht z68 zkl mixed lTI rfl
noncomputable def orP (g h:List AV→Option AV) (l:List AV):Option AV:=match g l with | some v=>some v | none=>h l
theorem orP_iok {P:Program} {f:Nat} {g h:List AV→Option AV} (hg:IOK P f (z0p g)) (hh:IOK P f (z0p h)):IOK P f (z0p (orP g h)):=by
 have key:∀ args W fid e v e',z0p (orP g h) args W fid e=some (v,e')→z0p g args W fid e=some (v,e')∨z0p h args W fid e=some (v,e'):=by
  intro args W fid e v e' hx
  simp only[z0p,orP] at hx ⊢
  cases hq:g args with
  | some y=>rw[hq] at hx; exact .inl hx
  | none=>rw[hq] at hx; exact .inr hx
 constructor
 ·intro κ e B fid w₀ w args vals W v e' hx
  rcases key _ _ _ _ _ _ hx with h1 | h1
  ·exact hg.1 κ e B fid w₀ w args vals W v e' h1
  ·exact hh.1 κ e B fid w₀ w args vals W v e' h1
 ·intro args W fid e v e' hx
  rcases key _ _ _ _ _ _ hx with h1 | h1
  ·exact hg.2 args W fid e v e' h1
  ·exact hh.2 args W fid e v e' h1
noncomputable def z1v:Nat→Option z0b:=addI (addI (addI intr 133 (z0p z7y)) 18 (z0p (orP z69 zbr))) 8 (z0p runsG)
theorem zkn:z0z Tryz.prog z1v∧z0d z1v:=z47 (z47 (z47 z4y zdt) (orP_iok zkm zhv)) zkj
set_option maxRecDepth 100000
noncomputable def zdu:CR→Option AV
 | .pan v _=>some v
 | _=>none
theorem z98 {r:CR} {v:AV} (h:zdu r=some v):∃ e,r=.pan v e:=by
 cases r<;>simp[zdu] at h
 subst h; exact⟨_,rfl⟩
noncomputable def chkE (X:E):CR→Option AV
 | .ret v e=>cond (eEq e X) (some v) none
 | _=>none
theorem zko {X:E} {r:CR} {v:AV} (h:chkE X r=some v):r=.ret v X:=by
 cases r<;>simp only[chkE] at h<;>first | (cases h; done) | skip
 obtain⟨h1,h2⟩:=z00 h
 cases h2
 rw[z43 h1]
noncomputable def chkF (X:E):CR→Option (AV × FS)
 | .ret v ⟨f::stk,glo,gl⟩=>cond (eEq ⟨stk,glo,gl⟩ X) (some (v,f)) none
 | _=>none
theorem z6p {X:E} {r:CR} {v:AV} {f:FS} (h:chkF X r=some (v,f)):r=.ret v (psh f X):=by
 unfold chkF at h
 split at h
 ·obtain⟨h1,h2⟩:=z00 h
  cases h2
  rw[← z43 h1]; rfl
 ·cases h
def cP:AV:=.ptr (.gl 8) 0
def vI (n:Int):AV:=.agg [.int .i64 1,.int .i64 0,.int .i64 n,.str [],.sl 1 0 []]
def vB (y:Nat):AV:=.agg [.int .i64 2,.int .i64 2,.int .i64 (.ofNat y),.str [],.sl 1 0 []]
def X1:E:=⟨[⟨1,[],[]⟩],[(.map []),(.cells 105 [(.hs (.gl 3) 5 3 0 3 false),vz,vz]),(.cells 63 [(.hs (.gl 4) 5 3 0 3 false),vz,vz,vz,vz]),(.vec 5 [(.agg [(vi 1),vz,vz,vz,(.str [])]),(.agg [(vi 3),vz,vz,vz,(.str [])]),(.agg [(vi 2),vz,vz,vz,(.str [])])]),(.vec 5 [(.agg [(vi 1),vz,(.sl 1 1 []),(.sl 1 1 []),(.str [])]),(.agg [(vi 3),vz,(.sl 1 1 []),(.sl 1 1 []),(.str [])]),(.agg [(vi 2),vz,(.sl 1 1 []),(.sl 1 1 []),(.str [])])]),(.vec 5 [(.agg [(vi 1),vz,vz,vz,(.str [])]),(.agg [(vi 3),vz,vz,vz,(.str [])]),(.agg [(vi 2),vz,vz,vz,(.str [])])]),(.cells 105 [(.hs (.gl 5) 5 3 0 3 false),vz,vz]),(.vec 4 [(.agg [(vi 0),(.str [105,110,116]),(.sl 1 1 []),(.sl 1 1 [])]),(.agg [(vi 1),(.str [116,101,120,116]),(.sl 1 1 []),(.sl 1 1 [])]),(.agg [(vi 2),(.str [98,111,111,108]),(.sl 1 1 []),(.sl 1 1 [])])]),(.cells 68 [(.ptr (.gl 6) 0),(.sl 1152922604128960526 1 [(vi 0),(vi 1),(vi 2)]),(.hs (.gl 7) 4 3 0 3 true)]),(.cells 63 [(.sl 1208926972548228410507266 5 [(.agg [(vi 1),vz,(.sl 1 1 []),(.sl 1 1 []),(.str [])]),(.agg [(vi 3),vz,(.sl 1 1 []),(.sl 1 1 []),(.str [])]),(.agg [(vi 2),vz,(.sl 1 1 []),(.sl 1 1 []),(.str [])])]),vz,vz,vz,vz]),(.cells 161 [(.ptr (.gl 9) 0),(.sl 0 1 [(vi 1),(vi 2),(vi 3)]),(.hs (.lo 1099512676363 1 1) 1 5 0 5 true),(.sl 1208926972548228415750146 1 [(vi 0),(vi 1),(vi 2)]),(.sl 1152922604130009112 1 [(.str [105,110,116]),(.str [116,101,120,116]),(.str [98,111,111,108])]),(.sl 1152922604130009110 1 [vz,vz,vz]),(.sl 1152922604130009114 1 [(.sl 1 1 []),(.sl 1 1 []),(.sl 1 1 [])])])],[1152922604130009114,1152922604130009112,1152922604130009110,1208926972548228415750146,1208926972548228410507266,1152922604128960526]⟩
def X2:E:=⟨[⟨1,[],[]⟩],[(.map []),(.cells 105 [(.hs (.gl 3) 5 3 0 3 false),vz,vz]),(.cells 63 [(.hs (.gl 4) 5 3 0 3 false),vz,vz,vz,vz]),(.vec 5 [(.agg [(vi 1),vz,vz,vz,(.str [])]),(.agg [(vi 3),vz,vz,vz,(.str [])]),(.agg [(vi 2),vz,vz,vz,(.str [])])]),(.vec 5 [(.agg [(vi 1),vz,(.sl 1 1 []),(.sl 1 1 []),(.str [])]),(.agg [(vi 3),vz,(.sl 1 1 []),(.sl 1 1 []),(.str [])]),(.agg [(vi 2),vz,(.sl 1 1 []),(.sl 1 1 []),(.str [])])]),(.vec 5 [(.agg [(vi 1),vz,vz,vz,(.str [])]),(.agg [(vi 3),vz,vz,vz,(.str [])]),(.agg [(vi 2),vz,vz,vz,(.str [])])]),(.cells 105 [(.hs (.gl 5) 5 3 0 3 false),vz,vz]),(.vec 4 [(.agg [(vi 0),(.str [105,110,116]),(.sl 1 1 []),(.sl 1 1 [])]),(.agg [(vi 1),(.str [116,101,120,116]),(.sl 1 1 []),(.sl 1 1 [])]),(.agg [(vi 2),(.str [98,111,111,108]),(.sl 1 1 []),(.sl 1 1 [])])]),(.cells 68 [(.ptr (.gl 6) 0),(.sl 1152922604128960526 1 [(vi 0),(vi 1),(vi 2)]),(.hs (.gl 7) 4 3 0 3 true)]),(.cells 63 [(.sl 1208926972548228410507266 5 [(.agg [(vi 1),vz,(.sl 1 1 []),(.sl 1 1 []),(.str [])]),(.agg [(vi 3),vz,(.sl 1 1 []),(.sl 1 1 []),(.str [])]),(.agg [(vi 2),vz,(.sl 1 1 []),(.sl 1 1 []),(.str [])])]),vz,vz,vz,vz]),(.cells 161 [(.ptr (.gl 9) 0),(.sl 0 1 [(vi 1),(vi 2),(vi 3)]),(.hs (.lo 1099512676363 1 1) 1 5 0 5 true),(.sl 1208926972548228415750146 1 [(vi 0),(vi 1),(vi 2)]),(.sl 1152922604130009112 1 [(.str [105,110,116]),(.str [116,101,120,116]),(.str [98,111,111,108])]),(.sl 1152922604130009110 1 [vz,vz,vz]),(.sl 1152922604130009114 1 [(.sl 1 1 []),(.sl 1 1 []),(.sl 1 1 [])])]),(.cells 168 [(.ptr (.gl 8) 0),(.sl 1208929278380242507923474 1 [(vi 1),(vi 3),(vi 2)]),(.sl 1208929278380242507923476 1 [(.sl 1 1 []),(.sl 1 1 []),(.sl 1 1 [])])]),(.vec 5 [(.agg [(vi 1),vz,vz,vz,(.str [])]),(.agg [(vi 3),vz,vz,vz,(.str [])]),(.agg [(vi 2),vz,vz,vz,(.str [])])]),(.cells 105 [(.hs (.gl 12) 5 3 0 3 false),vz,vz]),(.cells 168 [(.ptr (.gl 8) 0),(.sl 1152924803143827474 1 [(vi 1),(vi 3),(vi 2)]),(.sl 1152924803143827476 1 [(.sl 1 1 []),(.sl 1 1 []),(.sl 1 1 [])])]),(.vec 5 [(.agg [(vi 1),vz,vz,vz,(.str [])]),(.agg [(vi 3),vz,vz,vz,(.str [])]),(.agg [(vi 2),vz,vz,vz,(.str [])])]),(.cells 105 [(.hs (.gl 15) 5 3 0 3 false),vz,vz])],[1152924803143827476,1152924803143827474,1208929278380242507923476,1208929278380242507923474,1152922604130009114,1152922604130009112,1152922604130009110,1208926972548228415750146,1208926972548228410507266,1152922604128960526]⟩
def X3a:E:=⟨[⟨1,[],[]⟩],[(.map []),(.cells 105 [(.hs (.gl 3) 5 3 0 3 false),vz,vz]),(.cells 63 [(.hs (.gl 4) 5 3 0 3 false),vz,vz,vz,vz]),(.vec 5 [(.agg [(vi 1),vz,vz,vz,(.str [])]),(.agg [(vi 3),vz,vz,vz,(.str [])]),(.agg [(vi 2),vz,vz,vz,(.str [])])]),(.vec 5 [(.agg [(vi 1),vz,(.sl 1 1 []),(.sl 1 1 []),(.str [])]),(.agg [(vi 3),vz,(.sl 1 1 []),(.sl 1 1 []),(.str [])]),(.agg [(vi 2),vz,(.sl 1 1 []),(.sl 1 1 []),(.str [])])]),(.vec 5 [(.agg [(vi 1),vz,vz,vz,(.str [])]),(.agg [(vi 3),vz,vz,vz,(.str [])]),(.agg [(vi 2),vz,vz,vz,(.str [])])]),(.cells 105 [(.hs (.gl 5) 5 3 0 3 false),vz,vz]),(.vec 4 [(.agg [(vi 0),(.str [105,110,116]),(.sl 1 1 []),(.sl 1 1 [])]),(.agg [(vi 1),(.str [116,101,120,116]),(.sl 1 1 []),(.sl 1 1 [])]),(.agg [(vi 2),(.str [98,111,111,108]),(.sl 1 1 []),(.sl 1 1 [])])]),(.cells 68 [(.ptr (.gl 6) 0),(.sl 1152922604128960526 1 [(vi 0),(vi 1),(vi 2)]),(.hs (.gl 7) 4 3 0 3 true)]),(.cells 63 [(.sl 1208926972548228410507266 5 [(.agg [(vi 1),vz,(.sl 1 1 []),(.sl 1 1 []),(.str [])]),(.agg [(vi 3),vz,(.sl 1 1 []),(.sl 1 1 []),(.str [])]),(.agg [(vi 2),vz,(.sl 1 1 []),(.sl 1 1 []),(.str [])])]),vz,vz,vz,vz]),(.cells 161 [(.ptr (.gl 9) 0),(.sl 0 1 [(vi 1),(vi 2),(vi 3)]),(.hs (.lo 1099512676363 1 1) 1 5 0 5 true),(.sl 1208926972548228415750146 1 [(vi 0),(vi 1),(vi 2)]),(.sl 1152922604130009112 1 [(.str [105,110,116]),(.str [116,101,120,116]),(.str [98,111,111,108])]),(.sl 1152922604130009110 1 [vz,vz,vz]),(.sl 1152922604130009114 1 [(.sl 1 1 []),(.sl 1 1 []),(.sl 1 1 [])])]),(.cells 168 [(.ptr (.gl 8) 0),(.sl 1208929278380242507923474 1 [(vi 1),(vi 3),(vi 2)]),(.sl 1208929278380242507923476 1 [(.sl 1 1 []),(.sl 1 1 []),(.sl 1 1 [])])]),(.vec 5 [(.agg [(vi 1),vz,vz,vz,(.str [])]),(.agg [(vi 3),vz,vz,vz,(.str [])]),(.agg [(vi 2),vz,vz,vz,(.str [])])]),(.cells 105 [(.hs (.gl 12) 5 3 0 3 false),vz,vz]),(.cells 168 [(.ptr (.gl 8) 0),(.sl 1152924803143827474 1 [(vi 1),(vi 3),(vi 2)]),(.sl 1152924803143827476 1 [(.sl 1 1 []),(.sl 1 1 []),(.sl 1 1 [])])]),(.vec 5 [(.agg [(vi 1),vz,vz,vz,(.str [])]),(.agg [(vi 3),vz,vz,vz,(.str [])]),(.agg [(vi 2),vz,vz,vz,(.str [])])]),(.cells 105 [(.hs (.gl 15) 5 3 0 3 false),vz,vz]),(.cells 168 [(.ptr (.gl 8) 0),(.sl 1208930431301747114770450 1 [(vi 1),(vi 3),(vi 2)]),(.sl 1208930431301747114770452 1 [(.sl 1 1 []),(.sl 1 1 []),(.sl 1 1 [])])]),(.vec 5 [(.agg [(vi 1),vz,vz,vz,(.str [])]),(.agg [(vi 3),vz,vz,vz,(.str [])]),(.agg [(vi 2),vz,vz,vz,(.str [])])]),(.cells 105 [(.hs (.gl 18) 5 3 0 3 false),vz,vz]),(.cells 168 [(.ptr (.gl 8) 0),(.sl 1152925902655455250 1 [(vi 1),(vi 3),(vi 2)]),(.sl 1152925902655455252 1 [(.sl 1 1 []),(.sl 1 1 []),(.sl 1 1 [])])]),(.vec 5 [(.agg [(vi 1),vz,vz,vz,(.str [])]),(.agg [(vi 3),vz,vz,vz,(.str [])]),(.agg [(vi 2),vz,vz,vz,(.str [])])]),(.cells 105 [(.hs (.gl 21) 5 3 0 3 false),vz,vz])],[1152925902655455252,1152925902655455250,1208930431301747114770452,1208930431301747114770450,1152924803143827476,1152924803143827474,1208929278380242507923476,1208929278380242507923474,1152922604130009114,1152922604130009112,1152922604130009110,1208926972548228415750146,1208926972548228410507266,1152922604128960526]⟩
def X3b:E:=⟨[⟨1,[],[]⟩],[(.map []),(.cells 105 [(.hs (.gl 3) 5 3 0 3 false),vz,vz]),(.cells 63 [(.hs (.gl 4) 5 3 0 3 false),vz,vz,vz,vz]),(.vec 5 [(.agg [(vi 1),vz,vz,vz,(.str [])]),(.agg [(vi 3),vz,vz,vz,(.str [])]),(.agg [(vi 2),vz,vz,vz,(.str [])])]),(.vec 5 [(.agg [(vi 1),vz,(.sl 1 1 []),(.sl 1 1 []),(.str [])]),(.agg [(vi 3),vz,(.sl 1 1 []),(.sl 1 1 []),(.str [])]),(.agg [(vi 2),vz,(.sl 1 1 []),(.sl 1 1 []),(.str [])])]),(.vec 5 [(.agg [(vi 1),vz,vz,vz,(.str [])]),(.agg [(vi 3),vz,vz,vz,(.str [])]),(.agg [(vi 2),vz,vz,vz,(.str [])])]),(.cells 105 [(.hs (.gl 5) 5 3 0 3 false),vz,vz]),(.vec 4 [(.agg [(vi 0),(.str [105,110,116]),(.sl 1 1 []),(.sl 1 1 [])]),(.agg [(vi 1),(.str [116,101,120,116]),(.sl 1 1 []),(.sl 1 1 [])]),(.agg [(vi 2),(.str [98,111,111,108]),(.sl 1 1 []),(.sl 1 1 [])])]),(.cells 68 [(.ptr (.gl 6) 0),(.sl 1152922604128960526 1 [(vi 0),(vi 1),(vi 2)]),(.hs (.gl 7) 4 3 0 3 true)]),(.cells 63 [(.sl 1208926972548228410507266 5 [(.agg [(vi 1),vz,(.sl 1 1 []),(.sl 1 1 []),(.str [])]),(.agg [(vi 3),vz,(.sl 1 1 []),(.sl 1 1 []),(.str [])]),(.agg [(vi 2),vz,(.sl 1 1 []),(.sl 1 1 []),(.str [])])]),vz,vz,vz,vz]),(.cells 161 [(.ptr (.gl 9) 0),(.sl 0 1 [(vi 1),(vi 2),(vi 3)]),(.hs (.lo 1099512676363 1 1) 1 5 0 5 true),(.sl 1208926972548228415750146 1 [(vi 0),(vi 1),(vi 2)]),(.sl 1152922604130009112 1 [(.str [105,110,116]),(.str [116,101,120,116]),(.str [98,111,111,108])]),(.sl 1152922604130009110 1 [vz,vz,vz]),(.sl 1152922604130009114 1 [(.sl 1 1 []),(.sl 1 1 []),(.sl 1 1 [])])]),(.cells 168 [(.ptr (.gl 8) 0),(.sl 1208929278380242507923474 1 [(vi 1),(vi 3),(vi 2)]),(.sl 1208929278380242507923476 1 [(.sl 1 1 []),(.sl 1 1 []),(.sl 1 1 [])])]),(.vec 5 [(.agg [(vi 1),vz,vz,vz,(.str [])]),(.agg [(vi 3),vz,vz,vz,(.str [])]),(.agg [(vi 2),vz,vz,vz,(.str [])])]),(.cells 105 [(.hs (.gl 12) 5 3 0 3 false),vz,vz]),(.cells 168 [(.ptr (.gl 8) 0),(.sl 1152924803143827474 1 [(vi 1),(vi 3),(vi 2)]),(.sl 1152924803143827476 1 [(.sl 1 1 []),(.sl 1 1 []),(.sl 1 1 [])])]),(.vec 5 [(.agg [(vi 1),vz,vz,vz,(.str [])]),(.agg [(vi 3),vz,vz,vz,(.str [])]),(.agg [(vi 2),vz,vz,vz,(.str [])])]),(.cells 105 [(.hs (.gl 15) 5 3 0 3 false),vz,vz]),(.cells 168 [(.ptr (.gl 8) 0),(.sl 1208930431301747114770450 1 [(vi 1),(vi 3),(vi 2)]),(.sl 1208930431301747114770452 1 [(.sl 1 1 []),(.sl 1 1 []),(.sl 1 1 [])])]),(.vec 5 [(.agg [(vi 1),vz,vz,vz,(.str [])]),(.agg [(vi 3),vz,vz,vz,(.str [])]),(.agg [(vi 2),vz,vz,vz,(.str [])])]),(.cells 105 [(.hs (.gl 18) 5 3 0 3 false),vz,vz])],[1208930431301747114770452,1208930431301747114770450,1152924803143827476,1152924803143827474,1208929278380242507923476,1208929278380242507923474,1152922604130009114,1152922604130009112,1152922604130009110,1208926972548228415750146,1208926972548228410507266,1152922604128960526]⟩
end Go.Abs.Run
namespace Go.Abs.Run
open Go Go.Abs Go.Proofs
theorem k_made:z0a tab z1v 3000 4 [.agg [.sl 1 0 [],.sl 1 0 []],.sl 1 5 [.agg [.int .i64 1,.str [],.sl 1 0 [],.sl 1 0 [],.sl 1 0 []],.agg [.int .i64 3,.str [],.sl 1 0 [],.sl 1 0 [],.sl 1 0 []],.agg [.int .i64 2,.str [],.sl 1 0 [],.sl 1 0 [],.sl 1 0 []]]] [] 1048577 ⟨[⟨1,[],[]⟩],[],[]⟩=.ret (.tup [.ptr (.gl 8) 0,.ptr (.gl 10) 0]) X1:=by kernel_rfl
theorem k_len:z0a tab z1v 3000 5 [cP] [] 1048578 X1=.ret (.int .i64 (.ofNat 3)) X1:=by kernel_rfl
end Go.Abs.Run
namespace Go.Abs.Run
open Go Go.Abs Go.Proofs
theorem k_t1p (n:Int):zdu (z6d (z4a 1099514773507 noX) tab z1v 3000 6 [cP,vI n] [] 1048579 X1)=some (mark 18 [.ptr (.gl 14) 0,vI n] []):=by kernel_rfl
theorem k_t1a (n:Int) (d:List Nat):chkE X2 (z1n (ansX 1099514773507 (.tup [.str d,.int .i64 (.ofNat 0)]) noX) tab z1v 3000 6 [cP,vI n] [] 1048579 X1)=some (.tup [.str d,.int .i64 (.ofNat 0)]):=by kernel_rfl
end Go.Abs.Run
namespace Go.Abs.Run
open Go Go.Abs Go.Proofs
theorem k_rp (S:List Nat):zdu (z6d (z4a 1208930431301747115819010 noX) tab z1v 3000 16 [cP,.agg (vTC S)] [] 1099515822081 (psh (fT 1048580 S) X2))=some (mark 133 [.str S] []):=by kernel_rfl
theorem k_rt (S:List Nat):chkF X3b (z1n (ansX 1208930431301747115819010 (.bool true) noX) tab z1v 3000 16 [cP,.agg (vTC S)] [] 1099515822081 (psh (fT 1048580 S) X2))=some (.bool true,fT 1048580 S):=by kernel_rfl
theorem k_rf (S:List Nat):chkF X3b (z1n (ansX 1208930431301747115819010 (.bool false) noX) tab z1v 3000 16 [cP,.agg (vTC S)] [] 1099515822081 (psh (fT 1048580 S) X2))=some (.bool false,fT 1048580 S):=by kernel_rfl
theorem k_o (S:List Nat):chkF X3a (z0a tab z1v 3000 17 [cP] [.lo 1048580 0 1] 1099515822082 (psh (fT 1048580 S) X3b))=some (.ptr (.gl 20) 0,fT 1048580 S):=by kernel_rfl
theorem k_d0:chkF X3a (z0a tab z1v 3000 18 [.ptr (.gl 20) 0,.agg (vTC [])] [] 1099515822083 (psh (fT 1048580 []) X3a))=some (.tup [.str [],.int .i64 (.ofNat 0)],fT 1048580 []):=by kernel_rfl
end Go.Abs.Run
namespace Go.Abs.Run
open Go Go.Abs Go.Proofs
noncomputable def zf5:CR→Option AV
 | .ret v _=>some v
 | _=>none
theorem z5c {r:CR} {v:AV} (h:zf5 r=some v):∃ e,r=.ret v e:=by
 cases r<;>simp[zf5] at h
 subst h; exact⟨_,rfl⟩
theorem k_ba0:zf5 (z0a tab z1v 3000 6 [cP,vB 0] [] 1048582 X3a)=some (z4c 0):=by kernel_rfl
theorem k_ba1:zf5 (z0a tab z1v 3000 6 [cP,vB 1] [] 1048582 X3a)=some (z4c 1):=by kernel_rfl
theorem k_bb0:zf5 (z0a tab z1v 3000 6 [cP,vB 0] [] 1048582 X3b)=some (z4c 0):=by kernel_rfl
theorem k_bb1:zf5 (z0a tab z1v 3000 6 [cP,vB 1] [] 1048582 X3b)=some (z4c 1):=by kernel_rfl
end Go.Abs.Run
