/- On the way to: InterpLoops returns true; its listed variables read as the text lays them. -/
import Derived.Test.YthncagamgiogjaaGreatDoorB4
import Derived.Test.YthncagamgiogjaaGreatDoorA3
set_option autoImplicit false
set_option linter.unusedSectionVars false
set_option linter.unusedSimpArgs false
set_option linter.unusedVariables false
namespace Go.Abs
open Go
theorem Tm.get_set (t:Tm) (p q:Pth) (x:AV):(t.set p x).get q=cond (decide (p=q)) x (t.get q):=by
 by_cases h:p=q<;>simp[h,Tm.get_set_same,Tm.get_set_ne]
@[simp] theorem z3p (a b:Nat):Nat.beq a b=decide (a=b):=by
 cases h:Nat.beq a b with
 | true=>simp[Nat.eq_of_beq_eq_true h]
 | false=>simp[Nat.ne_of_beq_eq_false h]
@[simp] theorem ble_dec (a b:Nat):Nat.ble a b=decide (a≤b):=by
 cases h:Nat.ble a b with
 | true=>simp[Nat.le_of_ble_eq_true h]
 | false=>simp only[Bool.false_eq,decide_eq_false_iff_not]; intro h'; rw[Nat.ble_eq_true_of_le h'] at h; cases h
@[simp] theorem blt_dec (a b:Nat):Nat.blt a b=decide (a < b):=by
 show Nat.ble (a+1) b=_; rw[ble_dec]; rfl
attribute [simp] zjk zn2 zn3 zjl zn4 zjm zjn zn5
section
variable (call:z06) (fid:Nat) (W:List Lo)
@[simp] theorem runOps_nil' (fr:Fr) (e:E):z0j call fid W [] fr e=.go fr e:=rfl
@[simp] theorem runOps_cons' (o:AO) (l:List AO) (fr:Fr) (e:E):z0j call fid W (o::l) fr e=R.bind (z0j call fid W l) (o.ev call fid W fr e):=rfl
@[simp] theorem ev_n (d:Option Pth) (o:OP) (fr:Fr) (e:E):(AO.mk d none o).ev call fid W fr e=o.ev call fid W d fr e:=rfl
@[simp] theorem ev_g (d:Option Pth) (t:Pth) (b:Bool) (o:OP) (fr:Fr) (e:E):(AO.mk d (some (t,b)) o).ev call fid W fr e=z1n b d fr e (o.ev call fid W d fr e) (fr.s.get t):=rfl
@[simp] theorem opp_ev (o:PO) (d:Option Pth) (fr:Fr) (e:E):(OP.p o).ev call fid W d fr e=optV d fr e (o.ev fr.s):=rfl
@[simp] theorem opr_ev (o:RO) (d:Option Pth) (fr:Fr) (e:E):(OP.r o).ev call fid W d fr e=optV d fr e (o.ev fr.s e):=rfl
@[simp] theorem ope_ev (o:EO) (ws:List WX) (d:Option Pth) (fr:Fr) (e:E):(OP.e o ws).ev call fid W d fr e=chkR fr.s e ws (o.ev call fid (z0o fr.s W ws) d fr e):=rfl
end
@[congr] theorem runW_congr {call:z06} {fid:Nat} {W:List Lo} {c:AC} {fr fr':Fr} {e e':E} (h:fr=fr') (h':e=e'):runW call fid W c fr e=runW call fid W c fr' e':=by rw[h,h']
@[congr] theorem runOps_congr {call:z06} {fid:Nat} {W:List Lo} {l:List AO} {fr fr':Fr} {e e':E} (h:fr=fr') (h':e=e'):z0j call fid W l fr e=z0j call fid W l fr' e':=by rw[h,h']
@[congr] theorem lp_congr {f:Fr→E→R} {fr fr':Fr} {e e':E} (h:fr=fr') (h':e=e'):lp f fr e=lp f fr' e':=by rw[h,h']
@[congr] theorem bodyR_congr {fi:FI} {fid:Nat} {r r':R} (h:r=r'):z2m fi fid r=z2m fi fid r':=by rw[h]
@[congr] theorem bind_congr {k:Fr→E→R} {r r':R} (h:r=r'):R.bind k r=R.bind k r':=by rw[h]
@[simp] theorem bind_go' (k:Fr→E→R) (fr:Fr) (e:E):R.bind k (.go fr e)=k fr e:=rfl
@[simp] theorem bind_exit' (k:Fr→E→R) (i:Nat) (fr:Fr) (e:E):R.bind k (.exit i fr e)=.exit i fr e:=rfl
@[simp] theorem bind_ret' (k:Fr→E→R) (fr:Fr) (e:E):R.bind k (.ret fr e)=.ret fr e:=rfl
@[simp] theorem bind_pan' (k:Fr→E→R) (v:AV) (fr:Fr) (e:E):R.bind k (.pan v fr e)=.pan v fr e:=rfl
@[simp] theorem bind_bad' (k:Fr→E→R):R.bind k .bad=.bad:=rfl
@[simp] theorem leave_go (i:Nat) (fr:Fr) (e:E):R.leave i (.go fr e)=.go fr e:=rfl
@[simp] theorem leave_exit (i j:Nat) (fr:Fr) (e:E):R.leave i (.exit j fr e)=if j=i then .go fr e else .exit j fr e:=by
 show cond (Nat.beq j i) _ _=_
 rw[z3p]; by_cases h:j=i<;>simp[h]
@[simp] theorem leave_ret (i:Nat) (fr:Fr) (e:E):R.leave i (.ret fr e)=.ret fr e:=rfl
@[simp] theorem leave_pan (i:Nat) (v:AV) (fr:Fr) (e:E):R.leave i (.pan v fr e)=.pan v fr e:=rfl
@[simp] theorem leave_bad (i:Nat):R.leave i .bad=.bad:=rfl
@[congr] theorem condK_congr {a b:Fr→E→R} {fr:Fr} {e:E} {v v':AV} (h:v=v'):z3w a b fr e v=z3w a b fr e v':=by rw[h]
@[simp] theorem condK_true (a b:Fr→E→R) (fr:Fr) (e:E):z3w a b fr e (.bool true)=a fr e:=rfl
@[simp] theorem condK_false (a b:Fr→E→R) (fr:Fr) (e:E):z3w a b fr e (.bool false)=b fr e:=rfl
@[simp] theorem chkR_nil (s:Tm) (e:E) (r:R):chkR s e [] r=r:=by cases r<;>rfl
@[simp] theorem chkR_go (s:Tm) (e:E) (ws:List WX) (fr:Fr) (e':E):chkR s e ws (.go fr e')=cond (z6c s e e' ws) (.go fr e') .bad:=rfl
@[simp] theorem chkR_pan (s:Tm) (e:E) (ws:List WX) (v:AV) (fr:Fr) (e':E):chkR s e ws (.pan v fr e')=.pan v fr e':=rfl
@[simp] theorem guardB_bool (w:Bool) (d:Option Pth) (fr:Fr) (e:E) (k:R) (b:Bool):z1n w d fr e k (.bool b)=cond (b==w) k (.go (Fr.put d fr .undef) e):=rfl
@[simp] theorem guardB_undef (w:Bool) (d:Option Pth) (fr:Fr) (e:E) (k:R):z1n w d fr e k .undef=.go (Fr.put d fr .undef) e:=rfl
@[simp] theorem optV_some' (d:Option Pth) (fr:Fr) (e:E) (v:AV):optV d fr e (some v)=.go (Fr.put d fr v) e:=rfl
@[simp] theorem optV_none' (d:Option Pth) (fr:Fr) (e:E):optV d fr e none=.bad:=rfl
@[simp] theorem optE_some' (d:Option Pth) (v:AV) (fr:Fr) (e:E):optE d v fr (some e)=.go (Fr.put d fr v) e:=rfl
@[simp] theorem optE_none' (d:Option Pth) (v:AV) (fr:Fr):optE d v fr none=.bad:=rfl
@[simp] theorem after_ret (d:Option Pth) (fr:Fr) (v:AV) (e:E):after d fr (.ret v e)=.go (Fr.put d fr.tick v) e:=rfl
@[simp] theorem after_pan (d:Option Pth) (fr:Fr) (v:AV) (e:E):after d fr (.pan v e)=.pan v fr.tick e:=rfl
@[simp] theorem after_bad (d:Option Pth) (fr:Fr):after d fr .bad=.bad:=rfl
attribute [simp] Fr.put Fr.tick putK z6c z0o
@[simp] theorem bodyR_go (fi:FI) (fid:Nat) (fr:Fr) (e:E):z2m fi fid (.go fr e)=finR (z12 fid fr.s fi.res e):=rfl
@[simp] theorem bodyR_ret (fi:FI) (fid:Nat) (fr:Fr) (e:E):z2m fi fid (.ret fr e)=finR (z12 fid fr.s fi.res e):=rfl
@[simp] theorem bodyR_pan (fi:FI) (fid:Nat) (v:AV) (fr:Fr) (e:E):z2m fi fid (.pan v fr e)=.pan v (pop e):=rfl
def Wp (Q:R→Prop) (r:R):Prop:=Q r
@[congr] theorem Wp_congr {Q:R→Prop} {r r':R} (h:r=r'):Wp Q r=Wp Q r':=by rw[h]
theorem z0i (Q:R→Prop) (k:Fr→E→R) (r:R):Wp Q (R.bind k r)↔Wp (fun r=>Q (R.bind k r)) r:=Iff.rfl
theorem z0b (Q:R→Prop) (i:Nat) (r:R):Wp Q (R.leave i r)↔Wp (fun r=>Q (R.leave i r)) r:=Iff.rfl
def WpC (Q:CR→Prop) (r:CR):Prop:=Q r
theorem z0g (Q:R→Prop) (d:Option Pth) (fr:Fr) (r:CR):Wp Q (after d fr r)↔WpC (fun r=>Q (after d fr r)) r:=Iff.rfl
theorem Wp_chk (Q:R→Prop) (s:Tm) (e:E) (ws:List WX) (r:R):Wp Q (chkR s e ws r)↔Wp (fun r=>Q (chkR s e ws r)) r:=Iff.rfl
theorem WpC.use {Q Post:CR→Prop} {r:CR} (h:Post r) (k:∀ r,Post r→Q r):WpC Q r:=k r h
theorem Wp.use {Q Post:R→Prop} {r:R} (h:Post r) (k:∀ r,Post r→Q r):Wp Q r:=k r h
attribute [simp] PO.ev evMov zi7 zi8 evBin evUn zlm zln evIfc evMkf zi9 evBsl evFad evFld evIad evIaa evIxs evIxa evSls evSla zlo evTas evLen evCap evMm evUsd evUst
attribute [simp] RO.ev evLd zib zlr zfj zls zlp zlq
attribute [simp] EO.ev zlu evSt evStx evBox evMks zlv zlw zlx zly zlz zm zm0 zm1 evCall zbq evPan
attribute [simp] AX.ev evs zi6 zll fadA fldA cutA vpO iadN iaaN ixsN byteO ixaN extA tasA lenA lenL lenS capA mmA cviA cvsA aggO slO unA unNeg unNot
attribute [simp] binA binI binS bldA bslA z39 AV.cells List.set
attribute [simp] eqK eqT eqk andO zcv z57 eqS
attribute [simp] finR z12 resB resC zgs resV resL zm2 zgt upAll ups params
attribute [simp] newO boxO hsO z19 z78 z80 z6s z8y
@[simp] theorem pth0:pth 0=.e:=rfl
@[simp] theorem pth1:pth 1=.l .e:=rfl
@[simp] theorem pth2:pth 2=.r .e:=rfl
@[simp] theorem pth3:pth 3=.l (.l .e):=rfl
@[simp] theorem pth4:pth 4=.r (.l .e):=rfl
@[simp] theorem pth5:pth 5=.l (.r .e):=rfl
@[simp] theorem pth6:pth 6=.r (.r .e):=rfl
@[simp] theorem pop_mk (f:FS) (stk:List FS) (glo:List Ob) (gl:List Nat):pop ⟨f::stk,glo,gl⟩=⟨stk,glo,gl⟩:=rfl
end Go.Abs
namespace Go.Abs
open Go
def psh (f:FS) (e:E):E:=⟨f::e.stk,e.glo,e.gl⟩
@[simp] theorem psh_inj (f g:FS) (e e':E):psh f e=psh g e'↔f=g∧e=e':=by
 obtain⟨stk,glo,gl⟩:=e
 obtain⟨stk',glo',gl'⟩:=e'
 constructor
 ·intro h; simp[psh] at h; obtain⟨⟨rfl,rfl⟩,rfl,rfl⟩:=h; exact⟨rfl,rfl⟩
 ·rintro⟨rfl,h⟩; rw[h]
@[simp] theorem zjt (call:z06) (fi:FI) (args:List AV) (W:List Lo) (fid:Nat) (e:E) :
  bodyW call fi args W fid e=z2m fi fid (runW call fid W fi.code ⟨params args 0 .nil,0⟩ (psh ⟨fid,List.replicate fi.na (0,.none,.none),[]⟩ e)):=by cases e; rfl
@[simp] theorem pop_psh (f:FS) (e:E):pop (psh f e)=e:=rfl
def lof (l:Lo) (fid:Nat):Bool:=match l with | .lo g _ _=>Nat.beq fid g | .gl _=>false
@[simp] theorem lof_gl (i fid:Nat):lof (.gl i) fid=false:=rfl
@[simp] theorem zju (g a i fid:Nat):lof (.lo g a i) fid=Nat.beq fid g:=rfl
@[simp] theorem get_psh_gl (f:FS) (e:E) (i:Nat):(psh f e).get (.gl i)=e.get (.gl i):=rfl
@[simp] theorem get_psh_lo (f:FS) (e:E) (g a i:Nat):(psh f e).get (.lo g a i)=cond (Nat.beq f.fid g) (z40 f a i) (e.get (.lo g a i)):=rfl
@[simp] theorem z2u (f:FS) (e:E) (i:Nat) (o:Ob):(psh f e).set (.gl i) o=psh f (e.set (.gl i) o):=rfl
@[simp] theorem zhf (f:FS) (e:E) (g a i:Nat) (o:Ob):(psh f e).set (.lo g a i) o=cond (Nat.beq f.fid g) (psh (z2i f a i o) e) (psh f (e.set (.lo g a i) o)):=by
 obtain⟨stk,glo,gl⟩:=e
 simp only[psh,E.set,z18]
 cases Nat.beq f.fid g<;>rfl
theorem z04 {f:FS} {e:E} {l:Lo} (h:lof l f.fid=false):(psh f e).get l=e.get l:=by
 cases l with
 | gl i=>rfl
 | lo g a i=>simp at h; simp[h]
theorem z3q {f:FS} {e:E} {l:Lo} {o:Ob} (h:lof l f.fid=false):(psh f e).set l o=psh f (e.set l o):=by
 cases l with
 | gl i=>rfl
 | lo g a i=>simp at h; simp[h]
@[simp] theorem born_psh (f:FS) (e:E) (k:Nat):(psh f e).born k=psh ⟨f.fid,f.objs,k::f.live⟩ e:=rfl
@[simp] theorem z4v (f:FS) (e:E) (k:Nat):(psh f e).live k=(z0f f.live k || e.live k):=by
 obtain⟨stk,glo,gl⟩:=e
 simp only[psh,E.live,z0u]
 cases z0f f.live k<;>rfl
theorem zjv {l:List Nat} {k:Nat} (h:z0f l k=false):z3b l k=l:=by
 induction l with
 | nil=>rfl
 | cons j l ih =>
  simp only[z0f,z3b] at h ⊢
  cases hb:Nat.beq j k with
  | true=>rw[hb] at h; cases h
  | false=>rw[hb] at h; simp only[cond_false] at h ⊢; rw[ih h]
@[simp] theorem zn7 (f:FS) (e:E) (k:Nat):(psh f e).kill k=psh ⟨f.fid,f.objs,z3b f.live k⟩ (e.kill k):=by
 obtain⟨stk,glo,gl⟩:=e
 simp only[psh,E.kill,z10]
 cases h:z0f f.live k with
 | true=>rfl
 | false=>rw[zjv h]; rfl
@[simp] theorem bear_psh_gl (f:FS) (e:E) (k i:Nat):(psh f e).bear k (.gl i)=psh f (e.bear k (.gl i)):=rfl
@[simp] theorem bear_psh_lo (f:FS) (e:E) (k g a i:Nat):(psh f e).bear k (.lo g a i)=cond (Nat.beq f.fid g) (psh ⟨f.fid,f.objs,k::f.live⟩ e) (psh f (e.bear k (.lo g a i))):=by
 obtain⟨stk,glo,gl⟩:=e
 simp only[psh,E.bear,z4l]
 cases Nat.beq f.fid g<;>rfl
theorem zcd {f:FS} {e:E} {k:Nat} {l:Lo} (h:lof l f.fid=false):(psh f e).bear k l=psh f (e.bear k l):=by
 cases l with
 | gl i=>rfl
 | lo g a i=>simp at h; simp[h]
def E.addG (e:E) (o:Ob):E:=⟨e.stk,e.glo++[o],e.gl⟩
@[simp] theorem newAt_psh_g (f:FS) (e:E) (W:List Lo) (a:Nat) (o:Ob):newAt (psh f e) W a true o=some (.gl e.glo.length,psh f (e.addG o)):=rfl
@[simp] theorem newAt_psh (fid:Nat) (objs:List (Nat × Ob × Ob)) (live:List Nat) (e:E) (W:List Lo) (a:Nat) (o:Ob) :
  newAt (psh ⟨fid,objs,live⟩ e) W a false o=match objs[a]? with | some (i,cur,_)=>cond (free W (.lo fid a (i - 1))) (some (.lo fid a (i+1),psh ⟨fid,objs.set a (i+1,o,cur),live⟩ e)) none | none=>none:=by
 cases h:objs[a]? with
 | none=>show naO _ _ _ _ _ _ _ _ _ objs[a]?=_; rw[h]; rfl
 | some x=>obtain⟨i,c,p⟩:=x; show naO _ _ _ _ _ _ _ _ _ objs[a]?=_; rw[h]; rfl
@[simp] theorem upK_psh2 (f g:FS) (e:E) (k:Nat):upK k (psh f (psh g e))=cond (z0f f.live k) (psh f (psh ⟨g.fid,g.objs,k::g.live⟩ e)) (psh f (psh g e)):=rfl
theorem upK_psh (f:FS) (e:E) (k:Nat):pop (upK k (psh f e))=cond (z0f f.live k) (match e with | ⟨[],glo,gl⟩=>⟨[],glo,gl⟩ | ⟨g::rest,glo,gl⟩=>⟨⟨g.fid,g.objs,k::g.live⟩::rest,glo,gl⟩) e:=by
 obtain⟨stk,glo,gl⟩:=e
 cases stk with
 | nil=>simp only[psh,upK,pop]; cases z0f f.live k<;>rfl
 | cons g rest=>simp only[psh,upK]; cases z0f f.live k<;>rfl
@[simp] theorem ne_child (fid cnt:Nat):(fid=child fid cnt)=False:=by
 simp only[eq_iff_iff,iff_false]; intro h; have:=z29 fid cnt; omega
@[simp] theorem ne_child' (fid cnt:Nat):(child fid cnt=fid)=False:=by
 simp only[eq_iff_iff,iff_false]; intro h; have:=z29 fid cnt; omega
@[simp] theorem ne_fresh (fid c:Nat):(z0k fid c=1)=False:=by
 simp only[eq_iff_iff,iff_false]; have:=z2a fid c; omega
@[simp] theorem ble2_fresh (fid c:Nat):(2≤z0k fid c)=True:=by simp[z2a]
@[simp] theorem zce (l:Lo):free [] l=true:=by cases l<;>rfl
@[simp] theorem free_cons (m:Lo) (W:List Lo) (l:Lo):free (m::W) l=(!decide (m=l) && free W l):=by
 show cond (decide (m=l)) false (free W l)=_
 cases decide (m=l)<;>rfl
attribute [simp] E.moves E.move z40 z2i z0f z3b
def Out (l:Lo) (fid:Nat):Prop:=∀ x,Sub fid x→lof l x=false
theorem Out.lof {l:Lo} {fid:Nat} (h:Out l fid):lof l fid=false:=h fid .refl
theorem Out.child {l:Lo} {fid:Nat} (h:Out l fid) (c:Nat) (hc:c < cap):Out l (child fid c):=fun x hx=>h x ((Sub.step .refl hc).trans hx)
theorem Out.gl (i fid:Nat):Out (.gl i) fid:=fun _ _=>rfl
theorem Out.own (g a i c:Nat):Out (.lo g a i) (Abs.child g c):=fun x hx=>by
 simp only[zju,z3p,decide_eq_false_iff_not]
 intro h; subst h
 exact Sub.child_not hx
noncomputable def grow (e:E) (k k':Nat) (l:Lo):E:=((cond (Nat.beq k 1) e (e.kill k)).kill k').bear k' l
theorem zjw (fid:Nat):z0k fid 1 % 2=1:=by simp only[z0k,base]; omega
theorem zhg (fid c:Nat) (h:c % 2=1):z0k fid c % 2=1:=by simp only[z0k,base]; omega
theorem z0h {n:Int} (h:-9223372036854775808≤n) (h':n < 9223372036854775808):IntKind.i64.wrap n=n:=by
 simp only[IntKind.wrap,IntKind.bits,IntKind.signed]
 have:(2:Int) ^ 64=18446744073709551616:=rfl
 have:(2:Int) ^ (64 - 1)=9223372036854775808:=rfl
 simp only[*]
 by_cases hn:0≤n
 ·have:n % 18446744073709551616=n:=by omega
  simp[this]; omega
 ·have:n % 18446744073709551616=n+18446744073709551616:=by omega
  simp[this]; omega
theorem zf0 {n:Int} (h:0≤n) (h':n < 256):IntKind.u8.wrap n=n:=by
 simp only[IntKind.wrap,IntKind.bits,IntKind.signed]
 have:(2:Int) ^ 8=256:=rfl
 simp[*]; omega
theorem zcf {n:Int} (h:0≤n) (h':n < 18446744073709551616):IntKind.u64.wrap n=n:=by
 simp only[IntKind.wrap,IntKind.bits,IntKind.signed]
 have:(2:Int) ^ 64=18446744073709551616:=rfl
 simp[*]; omega
theorem z4w {k:IntKind} {x:Int} (h:0≤x):ixsA (.int k x)=ixsN x.toNat:=by
 obtain⟨n,rfl⟩:=Int.eq_ofNat_of_zero_le h; rfl
theorem zhh (s:Tm) (d:Nat):z1m s d none=some d:=rfl
theorem z0y {P:FuncId→Option FI} {I:FuncId→Option z07} {f:FuncId} {fi:FI} {args:List AV} {W:List Lo} {fid:Nat} {e:E} {Q:CR→Prop} (hI:I f=none) (hP:P f=some fi) (hdf:fi.df=none) (hQ:¬ Q .bad)
  (h:Wp (fun r=>Q (z2m fi fid r)) (runW (cal P I) fid W fi.code ⟨params args 0 .nil,0⟩ (psh ⟨fid,List.replicate fi.na (0,.none,.none),[]⟩ e))):Q (cal P I f args W fid e):=by
 have h1:bodyW (cal P I) fi args W fid e=z2m fi fid (runW (cal P I) fid W fi.code ⟨params args 0 .nil,0⟩ (psh ⟨fid,List.replicate fi.na (0,.none,.none),[]⟩ e)):=zjt ..
 unfold Wp at h
 simp only at h
 rw[← h1] at h
 rw[z2c hI hP hdf (fun hb=>hQ (by rw[hb] at h; exact h)) rfl]
 exact h
noncomputable def killL:List Nat→E→E
 | [],e=>e
 | k::ks,e=>killL ks (e.kill k)
theorem z5j (a b:List Nat) (e:E):killL b (killL a e)=killL (a++b) e:=by induction a generalizing e with | nil=>rfl | cons k a ih=>exact ih _
@[simp] theorem zjx (e:E) (k:Nat) (l:Lo):(e.kill k).get l=e.get l:=E.get_kill e k l
@[simp] theorem z34 (ks:List Nat) (e:E) (l:Lo):(killL ks e).get l=e.get l:=by induction ks generalizing e with | nil=>rfl | cons k a ih=>rw[killL,ih,zjx]
theorem zhi (f:FS) (a i k:Nat) (o:Ob):z2i ⟨f.fid,f.objs,z3b f.live k⟩ a i o=⟨(z2i f a i o).fid,(z2i f a i o).objs,z3b (z2i f a i o).live k⟩:=by
 unfold z2i
 simp only
 cases h:f.objs[a]? with
 | none=>rfl
 | some x =>
  obtain⟨n,c,p⟩:=x
  simp only
  cases h1:Nat.beq n i with
  | true=>rfl
  | false=>cases h2:Nat.beq n (i+1)<;>rfl
theorem zjy (f:FS) (a i:Nat) (o o':Ob):z2i (z2i f a i o) a i o'=z2i f a i o':=by
 unfold z2i
 cases h:f.objs[a]? with
 | none=>simp[h]
 | some x =>
  obtain⟨n,c,p⟩:=x
  have ha:a < f.objs.length:=(List.getElem?_eq_some_iff.1 h).1
  by_cases h1:n=i
  ·simp[ha,h1]
  ·by_cases h2:n=i+1
   ·have h3:¬ i+1=i:=by omega
    simp[ha,h2,h3]
   ·simp[h,h1,h2]
@[simp] theorem zn8 (e:E) (l:Lo) (k:Nat) (o:Ob):(e.set l o).kill k=(e.kill k).set l o:=by
 obtain⟨stk,glo,gl⟩:=e
 cases l with
 | gl j=>rfl
 | lo g a i =>
  have:z10 (z18 stk g a i o) k=z18 (z10 stk k) g a i o:=by
   induction stk with
   | nil=>rfl
   | cons f rest ih =>
    simp only[z18,z10]
    cases hf:Nat.beq f.fid g with
    | true =>
     simp only[cond_true,z10,z7b]
     cases z0f f.live k with
     | true=>simp only[cond_true,z18,hf]; rw[zhi]; simp only[z92,z7b]
     | false=>simp only[cond_false,z18,hf,cond_true]
    | false =>
     simp only[cond_false,z10,ih]
     cases z0f f.live k with
     | true=>simp only[cond_true,z18,hf,cond_false]
     | false=>simp only[cond_false,z18,hf]
  simp only[E.set,E.kill,this]
@[simp] theorem z5k (e:E) (l:Lo) (o o':Ob):(e.set l o).set l o'=e.set l o':=by
 obtain⟨stk,glo,gl⟩:=e
 cases l with
 | gl j=>simp[E.set]
 | lo g a i =>
  have:z18 (z18 stk g a i o) g a i o'=z18 stk g a i o':=by
   induction stk with
   | nil=>rfl
   | cons f rest ih =>
    simp only[z18]
    cases hf:Nat.beq f.fid g with
    | true=>simp only[cond_true,z18,z92,hf,zjy]
    | false=>simp only[cond_false,z18,hf,ih]
  simp only[E.set,this]
theorem zhj {f:FS} {a i:Nat} {o:Ob} (h:z40 f a i=o):z2i f a i o=f:=by
 obtain⟨fid,objs,live⟩:=f
 unfold z40 at h
 unfold z2i
 simp only at h ⊢
 cases hx:objs[a]? with
 | none=>rfl
 | some x =>
  obtain⟨n,c,p⟩:=x
  have ha:=List.getElem?_eq_some_iff.1 hx
  rw[hx] at h
  simp only at h ⊢
  cases h1:Nat.beq n i with
  | true=>rw[h1] at h; simp only[cond_true] at h; subst h; simp only[cond_true]; rw[← ha.2,List.set_getElem_self]
  | false =>
   rw[h1] at h
   cases h2:Nat.beq n (i+1) with
   | true=>rw[h2] at h; simp only[cond_true,cond_false] at h; subst h; simp only[cond_true,cond_false]; rw[← ha.2,List.set_getElem_self]
   | false=>rfl
theorem zcg {e:E} {l:Lo} {o:Ob} (h:e.get l=o):e.set l o=e:=by
 obtain⟨stk,glo,gl⟩:=e
 cases l with
 | gl j =>
  simp only[E.get,E.set] at h ⊢
  cases hi:glo[j]? with
  | none=>rw[List.set_eq_of_length_le (by simpa using hi)]
  | some x=>rw[hi] at h; subst h; have:=List.getElem?_eq_some_iff.1 hi; rw[← this.2,List.set_getElem_self]
 | lo g a i =>
  simp only[E.get,E.set] at h ⊢
  have:z18 stk g a i o=stk:=by
   induction stk with
   | nil=>rfl
   | cons f rest ih =>
    simp only[z0z,z18] at h ⊢
    cases hf:Nat.beq f.fid g with
    | true=>rw[hf] at h; simp only[cond_true] at h ⊢; rw[zhj h]
    | false=>rw[hf] at h; simp only[cond_false] at h ⊢; rw[ih h]
  rw[this]
theorem z5l (ks:List Nat) (e:E) (l:Lo) (o:Ob):killL ks (e.set l o)=(killL ks e).set l o:=by
 induction ks generalizing e with
 | nil=>rfl
 | cons k a ih=>rw[killL,killL,zn8,ih]
noncomputable def z1s:List Nat→List Nat→List Nat
 | [],l=>l
 | k::ks,l=>z1s ks (z3b l k)
theorem z6z (ks:List Nat) (f:FS) (e:E):killL ks (psh f e)=psh ⟨f.fid,f.objs,z1s ks f.live⟩ (killL ks e):=by
 induction ks generalizing f e with
 | nil=>rfl
 | cons k a ih=>rw[killL,killL,zn7,ih]; rfl
@[simp] theorem addG_psh (f:FS) (e:E) (o:Ob):(psh f e).addG o=psh f (e.addG o):=rfl
@[simp] theorem len_psh (f:FS) (e:E):(psh f e).glo=e.glo:=rfl
@[simp] theorem get_addG_lo (e:E) (o:Ob) (f a i:Nat):(e.addG o).get (.lo f a i)=e.get (.lo f a i):=rfl
@[simp] theorem live_addG (e:E) (o:Ob) (k:Nat):(e.addG o).live k=e.live k:=rfl
@[simp] theorem live_set_gl (e:E) (o:Ob) (j k:Nat):(e.set (.gl j) o).live k=e.live k:=rfl
@[simp] theorem kill_addG (e:E) (o:Ob) (k:Nat):(e.addG o).kill k=(e.kill k).addG o:=rfl
@[simp] theorem zf1 (b:Bool) (cnt:Nat):tick b cnt≤cnt+1:=by
 unfold tick; cases Nat.beq (cnt % 2) (cond b 1 0)<;>simp
theorem zn9 (cnt:Nat):tick true cnt % 2=1:=by
 unfold tick
 cases h:Nat.beq (cnt % 2) (cond true 1 0) with
 | true=>have:=Nat.eq_of_beq_eq_true h; simpa using this
 | false=>have:=Nat.ne_of_beq_eq_false h; simp at this; show (cnt+1) % 2=1; omega
@[simp] theorem fresh_tick (fid cnt:Nat):z0k fid (tick true cnt) % 2=1:=zhg _ _ (zn9 cnt)
def Own (k z:Nat) (b:List AV) (live:List Nat):Prop:=(k=1∧z=0∧b=[])∨(z=1∧k % 2=1∧2≤k∧z0f live k=true)
def goes (k:Nat):List Nat:=if k=1 then [] else [k]
end Go.Abs
namespace Go.Abs
open Go
section
variable {P:FuncId→Option FI} {I:FuncId→Option z07}
noncomputable def dfrW (call:z06) (fi:FI) (d:DF) (W:List Lo) (fid:Nat) (s:Tm) (caps:List AV) (v:AV) (cnt:Nat) (e:E):CR :=
 cond (room cnt) (z1j fi fid s (runW call (child fid cnt) W d.code ⟨z26 d.rc v (params caps 0 .nil),0⟩ (psh ⟨child fid cnt,List.replicate d.na (0,.none,.none),[]⟩ e))) .bad
noncomputable def zbc (call:z06) (fi:FI) (d:DF) (W:List Lo) (fid:Nat) (s:Tm) (caps:List AV):R→CR
 | .go fr e=>dfrW call fi d W fid s caps .nili fr.cnt e
 | .ret fr e=>dfrW call fi d W fid s caps .nili fr.cnt e
 | .pan v fr e=>dfrW call fi d W fid s caps v fr.cnt e
 | _=>.bad
noncomputable def bodySW (call:z06) (fi:FI) (d:DF) (W:List Lo) (fid:Nat) (caps:List AV) (e:E):Fr→CR
 | ⟨s,cnt⟩=>zbc call fi d W fid s caps (runW call fid W d.post ⟨s.set d.t (.fn d.g [] caps),cnt⟩ e)
noncomputable def zdu (call:z06) (fi:FI) (d:DF) (W:List Lo) (fid:Nat):R→CR
 | .go fr e=>bodySW call fi d W fid (evs fr.s d.caps) e fr
 | .ret fr e=>finR (z12 fid fr.s fi.res e)
 | .pan v _ e=>.pan v (pop e)
 | _=>.bad
theorem zf2 {fi:FI} {d:DF} {W:List Lo} {fid:Nat} {s:Tm} {caps:List AV} {v:AV} {cnt:Nat} {e:E} {r:CR} (h:dfrW (cal P I) fi d W fid s caps v cnt e=r) (hr:r≠.bad) :
  ∃ n,∀ m,n≤m→z1t (z09 P I m) m fi d W fid s caps v cnt e=r:=by
 obtain⟨stk,glo,gl⟩:=e
 change cond (room cnt) (z1j fi fid s (runW (cal P I) (child fid cnt) W d.code _ ⟨_::stk,glo,gl⟩)) .bad=r at h
 show ∃ n,∀ m,n≤m→cond (room cnt) (z1j fi fid s (run (z09 P I m) m (child fid cnt) W d.code _ ⟨_::stk,glo,gl⟩)) .bad=r
 cases hc:room cnt with
 | false=>rw[hc] at h; exact absurd h.symm hr
 | true =>
  rw[hc] at h
  have hx:runW (cal P I) (child fid cnt) W d.code ⟨z26 d.rc v (params caps 0 .nil),0⟩ ⟨⟨child fid cnt,List.replicate d.na (0,.none,.none),[]⟩::stk,glo,gl⟩≠.bad:=by
   intro h'; rw[h'] at h; exact hr h.symm
  obtain⟨n,hn⟩:=z9v (P:=P) (I:=I) d.code rfl hx
  exact⟨n,fun m hm=>by rw[hn m hm]; exact h⟩
theorem zjz {fi:FI} {d:DF} {W:List Lo} {fid:Nat} {s:Tm} {caps:List AV} {x:R} {r:CR} (h:zbc (cal P I) fi d W fid s caps x=r) (hr:r≠.bad) :
  ∃ n,∀ m,n≤m→z3x (z09 P I m) m fi d W fid s caps x=r:=by
 cases x with
 | go fr e=>exact zf2 h hr
 | ret fr e=>exact zf2 h hr
 | pan v fr e=>exact zf2 h hr
 | bad=>exact absurd h.symm hr
 | exit id fr e=>exact absurd h.symm hr
theorem zk0 {fi:FI} {d:DF} {W:List Lo} {fid:Nat} {x:R} {r:CR} (h:zdu (cal P I) fi d W fid x=r) (hr:r≠.bad) :
  ∃ n,∀ m,n≤m→z45 (z09 P I m) m fi d W fid x=r:=by
 cases x with
 | go fr e =>
  obtain⟨s,cnt⟩:=fr
  change zbc (cal P I) fi d W fid s (evs s d.caps) (runW (cal P I) fid W d.post ⟨s.set d.t (.fn d.g [] (evs s d.caps)),cnt⟩ e)=r at h
  have hx:runW (cal P I) fid W d.post ⟨s.set d.t (.fn d.g [] (evs s d.caps)),cnt⟩ e≠.bad:=by
   intro h'; rw[h'] at h; exact hr h.symm
  obtain⟨n,hn⟩:=z9v (P:=P) (I:=I) d.post rfl hx
  obtain⟨n',hn'⟩:=zjz h hr
  refine⟨max n n',fun m hm=>?_⟩
  show z3x (z09 P I m) m fi d W fid s (evs s d.caps) (run (z09 P I m) m fid W d.post ⟨s.set d.t (.fn d.g [] (evs s d.caps)),cnt⟩ e)=r
  rw[hn m (by omega)]
  exact hn' m (by omega)
 | ret fr e=>exact⟨0,fun _ _=>h⟩
 | pan v fr e=>exact⟨0,fun _ _=>h⟩
 | bad=>exact absurd h.symm hr
 | exit id fr e=>exact absurd h.symm hr
theorem cal_ofD {f:FuncId} {fi:FI} {d:DF} {args:List AV} {W:List Lo} {fid:Nat} {e:E} {r:CR} (hI:I f=none) (hP:P f=some fi) (hdf:fi.df=some d) (hr:r≠.bad)
  (h:zdu (cal P I) fi d W fid (runW (cal P I) fid W fi.code ⟨params args 0 .nil,0⟩ (psh ⟨fid,List.replicate fi.na (0,.none,.none),[]⟩ e))=r):cal P I f args W fid e=r:=by
 have hx:runW (cal P I) fid W fi.code ⟨params args 0 .nil,0⟩ (psh ⟨fid,List.replicate fi.na (0,.none,.none),[]⟩ e)≠.bad:=by
  intro h'; rw[h'] at h; exact hr h.symm
 obtain⟨n,hn⟩:=z9v (P:=P) (I:=I) fi.code rfl hx
 obtain⟨n',hn'⟩:=zk0 h hr
 obtain⟨stk,glo,gl⟩:=e
 refine zb6 ⟨hr,max n n'+1,fun m hm=>?_⟩
 obtain⟨m,rfl⟩:∃ k,m=k+1:=⟨m - 1,by omega⟩
 show z1u (z09 P I m) m P f args W fid _ (I f)=r
 rw[hI]
 show z2j (z09 P I m) m args W fid _ (P f)=r
 rw[hP]
 show z31 (z09 P I m) m fi W fid fi.df (run (z09 P I m) m fid W fi.code ⟨params args 0 .nil,0⟩ (psh ⟨fid,List.replicate fi.na (0,.none,.none),[]⟩ ⟨stk,glo,gl⟩))=r
 rw[hdf,hn m (by omega)]
 exact hn' m (by omega)
theorem zk1 {f:FuncId} {fi:FI} {d:DF} {args:List AV} {W:List Lo} {fid:Nat} {e:E} {Q:CR→Prop} (hI:I f=none) (hP:P f=some fi) (hdf:fi.df=some d) (hQ:¬ Q .bad)
  (h:Wp (fun x=>Q (zdu (cal P I) fi d W fid x)) (runW (cal P I) fid W fi.code ⟨params args 0 .nil,0⟩ (psh ⟨fid,List.replicate fi.na (0,.none,.none),[]⟩ e))):Q (cal P I f args W fid e):=by
 have h':Q (zdu (cal P I) fi d W fid (runW (cal P I) fid W fi.code ⟨params args 0 .nil,0⟩ (psh ⟨fid,List.replicate fi.na (0,.none,.none),[]⟩ e))):=h
 rw[cal_ofD hI hP hdf (fun hb=>hQ (by rw[hb] at h'; exact h')) rfl]
 exact h'
theorem zdv {call:z06} {fi:FI} {d:DF} {W:List Lo} {fid cnt:Nat} {s:Tm} {e:E} {Q:CR→Prop}
  (h:Wp (fun x=>Q (zbc call fi d W fid s (evs s d.caps) x)) (runW call fid W d.post ⟨s.set d.t (.fn d.g [] (evs s d.caps)),cnt⟩ e)):Q (zdu call fi d W fid (.go ⟨s,cnt⟩ e)):=h
theorem zhk {call:z06} {fi:FI} {d:DF} {W:List Lo} {fid cnt:Nat} {s s':Tm} {v:AV} {caps:List AV} {e:E} {Q:CR→Prop} (hr:room cnt=true)
  (h:Wp (fun x=>Q (z1j fi fid s x)) (runW call (child fid cnt) W d.code ⟨z26 d.rc v (params caps 0 .nil),0⟩ (psh ⟨child fid cnt,List.replicate d.na (0,.none,.none),[]⟩ e))):Q (zbc call fi d W fid s caps (.pan v ⟨s',cnt⟩ e)):=by
 show Q (cond (room cnt) _ _)
 rw[hr]
 exact h
end
end Go.Abs
