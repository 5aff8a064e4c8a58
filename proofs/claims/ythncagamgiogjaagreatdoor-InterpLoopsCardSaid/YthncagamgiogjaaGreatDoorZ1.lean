/- On the way to: InterpLoops returns true; its listed variables read as the text lays them. -/
import Derived.Test.YthncagamgiogjaaGreatDoorE7
import Derived.Test.YthncagamgiogjaaGreatDoorB6
import Derived.Test.YthncagamgiogjaaGreatDoorC4
import Derived.KernelRfl
import Derived.Test.YthncagamgiogjaaGreatDoorF7
import Derived.Test.YthncagamgiogjaaGreatDoorF2
import Derived.Test.YthncagamgiogjaaGreatDoorF4
import Derived.Test.YthncagamgiogjaaGreatDoorF5
import Derived.Test.YthncagamgiogjaaGreatDoorF6
import Derived.Test.YthncagamgiogjaaGreatDoorL1
import Derived.Test.YthncagamgiogjaaGreatDoorJ
import Derived.Test.YthncagamgiogjaaGreatDoorP1
import Derived.Test.YthncagamgiogjaaGreatDoorP2
import Derived.Test.YthncagamgiogjaaGreatDoorP0
import Derived.Test.YthncagamgiogjaaGreatDoorP4
import Derived.Test.YthncagamgiogjaaGreatDoorP5
import Derived.Test.YthncagamgiogjaaGreatDoorRows
import Derived.ProofKit
import Derived.LaidMore
import Derived.OpenShut
import Derived.Stop.Joined
import Derived.SevenTiedAt
import Derived.Test.YthncagamgiogjaaGreatDoorK2
import Derived.Test.YthncagamgiogjaaGreatDoorCards
set_option autoImplicit false
set_option linter.unusedSectionVars false
set_option linter.unusedSimpArgs false
set_option linter.unusedVariables false
namespace Go.Abs.Run
open Go Go.Abs Go.Proofs
def IntV (a:AV):Prop:=∃ n,a=.int .i64 n
section
variable [Glob] {H:Type} {enc:TypeId × Value→H} {w:World}
theorem rda_imp {base:Nat} {P:Program} {t:TypeId} {Q Q':AV→Prop} (h:RdA enc P w base t Q) (hQ:∀ a,Q a→Q' a):RdA enc P w base t Q':=fun v d ps h1 h2 h3=>by
 obtain⟨a,h4,h5⟩:=h v d ps h1 h2 h3
 exact⟨a,hQ a h4,h5⟩
theorem rd_int {base:Nat}:RdA enc Tryz.prog w base 3 IntV:=rda_imp (RdA.int Tryz.underlying3) (fun a h=>h.imp fun _ h=>h.1)
end
end Go.Abs.Run
namespace Go.Abs.Run
open Go Go.Abs Go.Proofs
theorem z77 (v:AV) (f:FS) (X:E):subE v (psh f X)=psh f (subE v X):=by cases X; rfl
noncomputable def svV (t:List Nat):AV:=.tup [.str t,.int .i64 0]
structure KK (k:Nat):Prop where
 cp:∀ (S t:List Nat) (tv:AV) (m:Nat),z2d (z1g (z1d 1099512676353 (z2l 1208926972538332805857281 (mark 42 [astQ k m] []) (svV t) noX)) tab (z1e S tv (astV k m) (astQ k m) (svV t)) 3000 9 [.str S] [] 1048577 (psh fRs ⟨[],[],[]⟩))=some (mark 13 [.str S] [])
 cq:∀ (S t:List Nat) (tv:AV) (m:Nat),z2d (z1g (z1d 1208926972538332805857281 (ansX 1099512676353 (astV k m) noX)) tab (z1e S tv (astV k m) (astQ k m) (svV t)) 3000 9 [.str S] [] 1048577 (psh fRs ⟨[],[],[]⟩))=some (mark 42 [astQ k m] [])
 cr:∀ (S t:List Nat) (tv:AV) (m:Nat),matE (E1p k) (z0w (ansX 1208926972538332805857281 (svV t) (ansX 1099512676353 (astV k m) noX)) tab (z1e S tv (astV k m) (astQ k m) (svV t)) 3000 9 [.str S] [] 1048577 (psh fRs ⟨[],[],[]⟩))=some (.tup [.ptr (.gl 0) 0,.nili],[nV m,nV m])
 d_b:∀ (S:List Nat) (tv av qa qv:AV) (m:Nat),matE (E2p k) (z09 tab (z1e S tv av qa qv) 3000 16 [.ptr (.gl 0) 0,.int .i64 (.ofNat 100000)] [] 1099513724930 (psh (fR1 1048578 (.gl 0)) (subE (nV m) (E1p k))))=some (.ptr (.gl 35) 0,[nV m,nV m])
 d_o:∀ (m:Nat),outW 1099513724931 (psh (fR2 1048578 (.gl 0) (.gl 35)) (subE (nV m) (X2p k))) 35 31 (.lo 1048578 2 1) (.lo 1048578 0 1) ((psh (fR2 1048578 (.gl 0) (.gl 35)) (subE (nV m) (X2p k))).get (.gl 35))=some (.ofNat m)
 fa:∀ m,Fg (subA (nV m) (za7 k)) (astV k m)
 fq:∀ m,∀ a∈[astQ k m],Fg a a
 fr:∀ m,FrU (psh fRs (subE (nV m) (X1p k))) (psh fRs (subE (nV m) (X2q k)))
theorem kk1:KK 1:=⟨cp1,cq1,cr1,d_b1,d_o1,ast_fg1,zni,fun _=>rfl⟩
theorem kk2:KK 2:=⟨cp2,cq2,cr2,d_b2,d_o2,ast_fg2,znj,fun _=>rfl⟩
theorem kk3:KK 3:=⟨cp3,cq3,cr3,d_b3,d_o3,ast_fg3,znk,fun _=>rfl⟩
theorem run_all {k:Nat} (HK:KK k) (S t:List Nat) (tv:AV) {m:Nat} (hm:m < 1000):∃ kk e',cal tab (z1e S tv (astV k m) (astQ k m) (svV t)) 6 [.str S,.int .i64 100000] [] 1 ⟨[],[],[]⟩=.ret (z3y 0 (digs m) (outs m) (3 * m+3) kk) e'∧(kk=1∧outs m=[]∨2≤kk):=by
 have hP:cal tab (z1e S tv (astV k m) (astQ k m) (svV t)) 9 [.str S] [] (child 1 0) (psh fRs ⟨[],[],[]⟩)=.ret (.tup [.ptr (.gl 0) 0,.nili]) (psh fRs (subE (nV m) (X1p k))):=by
  obtain⟨e1,h1⟩:=z1a (HK.cp S t tv m)
  obtain⟨e2,h2⟩:=z1a (HK.cq S t tv m)
  have h3:=zge (HK.cr S t tv m) (v:=nV m) (by simp)
  unfold E1p at h3
  rw[z77] at h3
  exact znc (x:=1048577) (F1:=1099512676353) (F2:=1208926972538332805857281) (by decide) (.step .refl (show 0 < cap by decide)) (.step (.step (.step .refl (show 1 < cap by decide)) (show 0 < cap by decide)) (show 0 < cap by decide)) (fun e=>z2y rfl (z4j _ _) [] _ e) (fun e=>z2y rfl (z4j _ _) [] _ e) h1 h2 h3 (by simp)
 have hB:cal tab (z1e S tv (astV k m) (astQ k m) (svV t)) 16 [.ptr (.gl 0) 0,.int .i64 100000] [] (child (child 1 1) 1) (psh (fR1 (child 1 1) (.gl 0)) (psh fRs (subE (nV m) (X1p k))))=.ret (.ptr (.gl 35) 0) (psh (fR1 (child 1 1) (.gl 0)) (psh fRs (subE (nV m) (X2q k)))):=by
  have h3:=zge (HK.d_b S tv (astV k m) (astQ k m) (svV t) m) (v:=nV m) (by simp)
  have h4:=(z6y 3000 16 [.ptr (.gl 0) 0,.int .i64 (.ofNat 100000)] [] 1099513724930 _ (by rw[h3]; simp)).trans h3
  unfold E1p E2p X2p at h4
  rw[z77,z77,z77] at h4
  exact h4
 have hto:∀ (c:Int) (m':Nat) W fid e,m' < 1000→cal tab (z1e S tv (astV k m) (astQ k m) (svV t)) 32 [.ptr (.gl 31) 0,VV 1 c m' []] W fid e=.ret (.tup [.str (digs m'),.int .i64 0]) e:=fun c m' W fid e h'=>z2y (g:=zea) rfl (by show (if m' < 1000 then _ else none)=_; rw[if_pos h']) W fid e
 have ho:=zo5 (lP4 S tv (astV k m) (astQ k m) (svV t)) (HK.d_o m) rfl hm hto
 unfold X2p at ho
 rw[z77] at ho
 have hr:=zo6 (lR4 S tv (astV k m) (astQ k m) (svV t)) hB ho
 obtain⟨kk,X,hX,h⟩:=zle (lR4 S tv (astV k m) (astQ k m) (svV t)) hP (hr.mono (HK.fr m))
 rcases h with⟨rfl,hp,h⟩ | ⟨hk,h⟩
 ·exact⟨1,_,h,.inl ⟨rfl,hp⟩⟩
 ·exact⟨kk,_,h,.inr hk⟩
theorem strs_fg (l:List (List Nat)) (i:Nat) (x:AV) (h:(l.map AV.str)[i]?=some x):∃ s,x=.str s:=by
 rw[List.getElem?_map,Option.map_eq_some_iff] at h
 obtain⟨t,_,rfl⟩:=h
 exact⟨t,rfl⟩
theorem sl_fg (k z:Nat) (l:List (List Nat)):Fg (.sl k z (l.map .str)) (.sl (cond (Nat.beq k 1) 1 0) z (l.map .str)):=.sl rfl (fun i x y hx hy=>by rw[hx] at hy; cases hy; rfl) fun i x y j c d hx hy hc hd=>by
 rw[hx] at hy; cases hy
 obtain⟨s,rfl⟩:=strs_fg l i x hx
 rw[hc] at hd; cases hd
 cases j with
 | zero=>cases hc; exact .str _
 | succ j=>cases hc
theorem zo9 {k m:Nat} (h:k=1∧outs m=[]∨2≤k):∃ z,(z=1∨z=0∧m=0)∧Fg (z3y 0 (digs m) (outs m) (3 * m+3) k) (zfi z m):=by
 have hm0:outs m=[]→m=0:=fun h=>by have:=z6p m; rw[h] at this; exact this.symm
 have key:∀ z,Fg (outV k (outs m)) (.sl (1 - z) z ((outs m).map .str))→Fg (z3y 0 (digs m) (outs m) (3 * m+3) k) (zfi z m):=fun z hz=>.agg rfl fun i c d h1 h2=>by
  match i,h1,h2 with
  | 0,h1,h2=>cases h1; cases h2; exact hz
  | 1,h1,h2=>cases h1; cases h2; exact .int _ _
  | 2,h1,h2=>cases h1; cases h2; exact .str _
  | 3,h1,h2=>cases h1; cases h2; exact .int _ _
  | i+4,h1,h2=>simp at h1
 rcases h with⟨rfl,h⟩ | h
 ·exact⟨0,.inr ⟨rfl,hm0 h⟩,key 0 (sl_fg 1 0 (outs m))⟩
 ·have hb:Nat.beq k 1=false:=by rw[z3p]; simp; omega
  have:=sl_fg k 1 (outs m)
  rw[hb] at this
  refine⟨1,.inl rfl,key 1 ?_⟩
  unfold outV
  rw[hb]
  exact this
theorem svV_fg (t:List Nat):Fg (svV t) (svV t):=.tup rfl fun i c d h1 h2=>by
 rw[h1] at h2; cases h2
 match i,h1 with
 | 0,h1=>cases h1; exact .str _
 | 1,h1=>cases h1; exact .int _ _
 | i+2,h1=>simp at h1
def RnO (S:List Nat) (m:Nat):Prop:=∃ z,(z=1∨z=0∧m=0)∧IOK Tryz.prog 6 (z0q (oneC [.str S,.int .i64 100000] (zfi z m)))
theorem rn_ok {k:Nat} (HK:KK k) {S t:List Nat} {l:List TokK} {m:Nat} (hm:m < 1000) (h1:∃ kk z,z4i tab z3a 34 [.str S] (.tup [.sl kk z (l.map TokK.tok),.int .i64 0,.int .i64 0])∧z=4∧¬ kk=1) (h2:z4i tab (z4k S (tokV l)) 13 [.str S] (subA (nV m) (za7 k))) (h3:z4i tab z0l 42 [astQ k m] (svV t)):RnO S m:=by
 obtain⟨kk,e',hr,hk⟩:=run_all HK S t (tokV l) hm
 obtain⟨z,hz,hfg⟩:=zo9 hk
 exact⟨z,hz,z8v z2e (z3o (z3o (z3o (ze4 h1) (z8v z2e (ze4 h1) mixed h2 (HK.fa m) fg_s1)) (z8v z2e z3r mixed h3 (svV_fg t) (HK.fq m))) znh:z0v Tryz.prog (z1e S (tokV l) (astV k m) (astQ k m) (svV t))∧z0d (z1e S (tokV l) (astV k m) (astQ k m) (svV t))) mixed ⟨e',hr⟩ hfg fg_si⟩
theorem dg1 {a:Nat} (ha:a≤9):digs (a)=[48+a]:=z5q (by omega)
theorem sd1 {a:Nat} (ha:a≤9):z75 (a)=src1 a:=by unfold z75; rw[dg1 ha]; rfl
theorem rn1 {a:Nat} (ha:a≤9):RnO (z75 (a)) (a):=by
 rw[sd1 ha]
 exact rn_ok kk1 (by omega) (toks1 a ha) (ast1 _ _) (syn1 ha fun W fid e=>z3z (g:=z0q z7n) rfl (by unfold z0q; rw[show z7n [nV (a)]=some (.str (digs (a))) from z8w (by omega),dg1 ha]))
theorem dg2 {a b:Nat} (ha:a≤9) (ha0:a≠0) (hb:b≤9):digs (a * 10+b)=[48+a,48+b]:=by rw[z5r (by omega),show (a * 10+b) / 10=a by omega,show (a * 10+b) % 10=b by omega,z5q (by omega)]; rfl
theorem sd2 {a b:Nat} (ha:a≤9) (ha0:a≠0) (hb:b≤9):z75 (a * 10+b)=src2 a b:=by unfold z75; rw[dg2 ha ha0 hb]; rfl
theorem rn2 {a b:Nat} (ha:a≤9) (ha0:a≠0) (hb:b≤9):RnO (z75 (a * 10+b)) (a * 10+b):=by
 rw[sd2 ha ha0 hb]
 exact rn_ok kk2 (by omega) (toks2 a b ha ha0 hb) (ast2 _ _) (syn2 ha hb fun W fid e=>z3z (g:=z0q z7n) rfl (by unfold z0q; rw[show z7n [nV (a * 10+b)]=some (.str (digs (a * 10+b))) from z8w (by omega),dg2 ha ha0 hb]))
theorem dg3 {a b c:Nat} (ha:a≤9) (ha0:a≠0) (hb:b≤9) (hc:c≤9):digs ((a * 10+b) * 10+c)=[48+a,48+b,48+c]:=by rw[z5r (by omega),show ((a * 10+b) * 10+c) / 10=a * 10+b by omega,show ((a * 10+b) * 10+c) % 10=c by omega,z5r (by omega),show (a * 10+b) / 10=a by omega,show (a * 10+b) % 10=b by omega,z5q (by omega)]; rfl
theorem sd3 {a b c:Nat} (ha:a≤9) (ha0:a≠0) (hb:b≤9) (hc:c≤9):z75 ((a * 10+b) * 10+c)=src3 a b c:=by unfold z75; rw[dg3 ha ha0 hb hc]; rfl
theorem rn3 {a b c:Nat} (ha:a≤9) (ha0:a≠0) (hb:b≤9) (hc:c≤9):RnO (z75 ((a * 10+b) * 10+c)) ((a * 10+b) * 10+c):=by
 rw[sd3 ha ha0 hb hc]
 exact rn_ok kk3 (by omega) (toks3 a b c ha ha0 hb hc) (ast3 _ _) (syn3 ha hb hc fun W fid e=>z3z (g:=z0q z7n) rfl (by unfold z0q; rw[show z7n [nV ((a * 10+b) * 10+c)]=some (.str (digs ((a * 10+b) * 10+c))) from z8w (by omega),dg3 ha ha0 hb hc]))
theorem rn_any {m:Nat} (hm:m < 301):RnO (z75 m) m:=by
 by_cases h1:m < 10
 ·exact rn1 (by omega)
 ·by_cases h2:m < 100
  ·have:=rn2 (a:=m / 10) (b:=m % 10) (by omega) (by omega) (by omega)
   rwa [show m / 10 * 10+m % 10=m by omega] at this
  ·have:=rn3 (a:=m / 100) (b:=m / 10 % 10) (c:=m % 10) (by omega) (by omega) (by omega) (by omega)
   rwa [show (m / 100 * 10+m / 10 % 10) * 10+m % 10=m by omega] at this
noncomputable def zoa (z m:Nat):Nat→Option z07:=addI (addI (addI z0l 6 (z0q (oneC [.str (z75 m),.int .i64 100000] (zfi z m)))) 8 (z0q zkq)) 7 (z0q (anyR tab z0l 7))
theorem zob {z m:Nat} (h:IOK Tryz.prog 6 (z0q (oneC [.str (z75 m),.int .i64 100000] (zfi z m)))):z0v Tryz.prog (zoa z m)∧z0d (zoa z m):=z3o (z3o (z3o z3r h) zng) (zcn z2e z3r mixed)
theorem lDecG:LDec tab z0l:=by constructor<;>rfl
theorem lLoops (z m:Nat):LLoops tab (zoa z m) z m where
 p5:=rfl
 i5:=rfl
 p3:=rfl
 i3:=rfl
 dec:=fun i W fid e h=>z2y (g:=anyR tab z0l 7) rfl (zf7 ⟨_,zfa lDecG (by omega)⟩ (.str _) (by intro a ha; simp only[List.mem_singleton] at ha; subst ha; exact .int _ _)) W fid e
 rn:=fun W fid e=>z2y rfl (z4j _ _) W fid e
 ru:=fun W fid e=>z3z (g:=z0q zkq) rfl rfl
theorem zoc {a:AV} (ha:IntV a):∃ I n,(z0v Tryz.prog I∧z0d I)∧z6j (z09 tab I n 3 [a] [] 1 ⟨[],[],[]⟩)=true:=by
 obtain⟨n,rfl⟩:=ha
 have h0:0≤n % 301:=Int.emod_nonneg _ (by decide)
 have h1:n % 301 < 301:=Int.emod_lt_of_pos _ (by decide)
 obtain⟨m,hm⟩:=Int.eq_ofNat_of_zero_le h0
 have hm':m < 301:=by omega
 obtain⟨z,hz,hi⟩:=rn_any hm'
 obtain⟨e',he⟩:=zlj (fid:=1) (e:=⟨[],[],[]⟩) (lLoops z m) hz hm' hm
 obtain⟨k,hk⟩:=z6k he (by simp)
 exact⟨zoa z m,k,zob hi,by rw[hk k (Nat.le_refl k)]; rfl⟩
end Go.Abs.Run
namespace Go.Proofs.YthncagamgiogjaaGreatDoor
open Go Go.Abs Go.ChangeShapes Go.WideShapes Go.ChangeAt Go.RowKit
theorem own:ownKnob Tryz.prog.godebug=none:=by kernel_rfl
theorem gSpace:Tryz.prog.globalNamed "strings.asciiSpace" = some 4:=by kernel_rfl
theorem z5x {P:Program} {w:World}:∀ {l:List (String × DataW Unit)} {ps:List MemPlace},DataW.LaidVars P w l ps→∀ n d,(n,d)∈l →
  ∃ g t cs fuel p,P.globalNamed n=some g∧(P.globals[g]?).map (·.type)=some t∧w.var? P n=some cs∧DataW.trod (fun _=>()) P w 0 (fun _=>true) false fuel t cs.toList=some (d,p)
 | [],_,_,_,_,hm=>by cases hm
 | (n',d')::r,ps,h,n,d,hm=>by
  obtain⟨g,t,cs,fuel,p,q,h1,h2,h3,h4,h5,_⟩:=h
  rcases List.mem_cons.1 hm with hx | hx
  ·cases hx; exact⟨g,t,cs,fuel,p,h1,h2,h3,h4⟩
  ·exact z5x h5 n d hx
abbrev laid:List (String × DataW Unit):=Rows.interpLoopsRow.laid
theorem zlk:(laid.filter fun x=>x.2.handleName?.isSome)=[]:=by kernel_rfl
theorem plain {w:World} (h:laidMetH Tryz.prog laid w):laidMet Tryz.prog laid w:=by
 unfold laidMetH at h
 rw[zlk] at h
 exact h
theorem zod (os:Os) (args:Array Value):laidMetH Tryz.prog laid ((World.doorLaid Tryz.prog 100 os).forCall (fun _ _=>0) ⟨#[],args,[]⟩).memory :=
 laidMetH_of_parts3 (fuel:=8) (laidMet_of_run' 8 (door1 os args) (door2 os args)) (door3 os args) (door4 os args)
theorem tSpace:(Tryz.prog.globals[4]?).map (·.type)=some 487:=by kernel_rfl
set_option maxRecDepth 100000 in
theorem space {w:World} (h:laidMetH Tryz.prog laid w):∃ arr t f,w.heap[4]?=some (.cells arr t f)∧arr.toList=Run.n3.map fun m=>.int .u8 (.ofNat m):=by
 obtain⟨ps,hl,_,_⟩:=plain h
 obtain⟨g,t,cs,fuel,p,h1,h2,h3,h4⟩:=z5x hl "strings.asciiSpace" Rows.laid_strings_asciiSpace (List.mem_of_getElem? (i:=3) rfl)
 obtain rfl:=Option.some.inj (gSpace.symm.trans h1)
 obtain rfl:=Option.some.inj (tSpace.symm.trans h2)
 have h5:=z87 (k:=.u8) Run.n3 Tryz.underlying487 Tryz.underlying5 (by kernel_rfl) (by kernel_rfl) (by kernel_rfl) (show DataW.trod _ Tryz.prog w 0 _ false fuel 487 cs.toList=some (.agg (Run.n3.map fun m=>.lit (.int .u8 (.ofNat m))),p) from h4)
 unfold World.var? at h3
 rw[h1] at h3
 simp only[Option.bind_some] at h3
 split at h3
 ·next arr t' f' he=>cases h3; exact⟨_,t',f',he,h5⟩
 ·cases h3
theorem gV2:Tryz.prog.globalNamed "internal/strconv.uint64pow10" = some 1:=by kernel_rfl
theorem tV2:(Tryz.prog.globals[1]?).map (·.type)=some 434:=by kernel_rfl
set_option maxRecDepth 100000 in
theorem space2 {w:World} (h:laidMetH Tryz.prog laid w):∃ arr t f,w.heap[1]?=some (.cells arr t f)∧arr.toList=Run.n2.map fun m=>.int .u64 (.ofNat m):=by
 obtain⟨ps,hl,_,_⟩:=plain h
 obtain⟨g,t,cs,fuel,p,h1,h2,h3,h4⟩:=z5x hl "internal/strconv.uint64pow10" Rows.laid_internal_strconv_uint64pow10 (List.mem_of_getElem? (i:=0) rfl)
 obtain rfl:=Option.some.inj (gV2.symm.trans h1)
 obtain rfl:=Option.some.inj (tV2.symm.trans h2)
 have h5:=z87 (k:=.u64) Run.n2 Tryz.underlying434 Tryz.underlying326 (by kernel_rfl) (by kernel_rfl) (by kernel_rfl) (show DataW.trod _ Tryz.prog w 0 _ false fuel 434 cs.toList=some (.agg (Run.n2.map fun m=>.lit (.int .u64 (.ofNat m))),p) from h4)
 unfold World.var? at h3
 rw[h1] at h3
 simp only[Option.bind_some] at h3
 split at h3
 ·next arr t' f' he=>cases h3; exact⟨_,t',f',he,h5⟩
 ·cases h3
theorem walk {w:World} (h:laidMetH Tryz.prog laid w) {args:Array Value} {xs:List AV} (hl:args.size=xs.length) (hv:∀ (i:Nat) (c:AV) (u:Value),xs[i]?=some c→args[i]?=some u→VR (KW w) c u)
  (hr:∃ I n,(z0v Tryz.prog I∧z0d I)∧z6j (z09 Run.tab I n 3 xs [] 1 ⟨[],[],[]⟩)=true):Calls Tryz.prog 3 args w fun e w'=>e=.returned (.bool true)∧Below w.heap.size w w':=by
 obtain⟨I,n,hI,hr⟩:=hr
 refine zho Run.z2e hI Run.mixed (fi:=Run.f3) (by kernel_rfl) hl hv hr (fun g cs hg=>?_)
 have hg':Run.gvs g=some cs:=hg
 unfold Run.gvs at hg'
 cases hb3:Nat.beq g 4 with
 | true =>
  rw[hb3] at hg'; cases hg'
  have:=Nat.eq_of_beq_eq_true hb3
  subst this
  rw[Run.g3_eq]
  obtain⟨arr,t,f,h1,h2⟩:=space h
  exact vpNat (gs:=gsW w) (by rw[zk2 h1,h2])
 | false =>
  rw[hb3] at hg'; rw[cond_false] at hg'
  cases hb2:Nat.beq g 1 with
  | true =>
   rw[hb2] at hg'; cases hg'
   have:=Nat.eq_of_beq_eq_true hb2
   subst this
   rw[Run.g2_eq]
   obtain⟨arr,t,f,h1,h2⟩:=space2 h
   exact vpNat (gs:=gsW w) (by rw[zk2 h1,h2])
  | false =>
   rw[hb2] at hg'; rw[cond_false] at hg'
   cases hg'
theorem zi5:(Tryz.f3.params.toList.all fun t=>Tryz.prog.readableRec t && decide (t < Tryz.prog.types.size))=true:=by kernel_rfl
set_option maxRecDepth 100000 in
theorem lifted (os:Os) (started:os.Started) (H:Type) (enc:TypeId × Value→H) :
  ReturnsInHanded {} Tryz.checked os 3 .any (fun w args=>(Rows.interpLoopsSpec.pre enc Tryz.prog Tryz.f3 [] false w args∧laidMetH Tryz.prog laid w)∧sizedMet enc Tryz.prog Tryz.f3 (OpenSpec.ofChange Rows.interpLoopsSpec) false w args)
   (Rows.interpLoopsSpec.post enc Tryz.prog Tryz.f3 false true false false):=by
 refine returnsInHanded_of_change_and (C:=Tryz.checked) (X:=fun w _=>laidMetH Tryz.prog laid w) (fun _ _ _ hh h=>h.of_heap hh) own started (by kernel_rfl) Tryz.func3
  (ChangeSpec.witness_shaped (enc:=enc) (C:=Tryz.checked) (os:=os) (X:=fun w _=>laidMetH Tryz.prog laid w) false (World.doorLaid Tryz.prog 100 os) #[.int .i64 0] 8 rfl (World.shaped_of_RefB (door5 os) (door6 os)) (door7 os) (door8 os) (door9 os) (zod os _)) ?_
 intro W base args ds gs' before hval0 hW _ hwt hL _
 have hW':=hW
 obtain⟨p,q,hA0,hV,rfl,hfz,hnd⟩:=hW
 obtain⟨rfl,rfl⟩:=trodVars_none hV
 have hA1:DataW.TrodAll enc Tryz.prog W 0 (fun _=>true) true Tryz.f3.params.toList args.toList ds p:=hA0
 have hlt:=hA1.lt
 have hw:∀ m∈DataW.weightsEach Tryz.prog Tryz.f3.params.toList ds,m≤reachBytes:=by
  have h1:(DataW.weightsEach Tryz.prog (Tryz.f3.params.toList++Rows.interpLoopsSpec.plain.varTypes Tryz.prog) (ds++[])).all (·≤reachBytes)=true:=hwt
  have h2:Rows.interpLoopsSpec.plain.varTypes Tryz.prog=[]:=rfl
  rw[h2,List.append_nil,List.append_nil] at h1
  intro m hm
  simpa using List.all_eq_true.1 h1 m hm
 have hok:∀ (j:Nat) t v,Tryz.f3.params.toList[j]?=some t→args.toList[j]?=some v→Value.okWide Tryz.prog W .any base t v:=fun j t v h1 h2=>hval0 j t v (by simpa using h1) (by simpa using h2)
 have hA:=hA1
 rw[Tryz.params3] at hA hw hok
 have hRL:zk4 enc Tryz.prog W base [3] [Run.IntV]:=⟨Run.rd_int,trivial⟩
 obtain⟨xs,has,hl,hv⟩:=zdy hRL hA hok hw
 have hr:∃ I n,(z0v Tryz.prog I∧z0d I)∧z6j (z09 Run.tab I n 3 xs [] 1 ⟨[],[],[]⟩)=true:=by
  match xs,has with
  | [a0],⟨q0,_⟩=>exact Run.zoc q0
 obtain⟨v0,d0,rfl,rfl,h0⟩:=trodAll_one hA
 clear hA0 hval0
 simp only[List.append_nil] at hW'
 refine(walk hL (by simpa using hl) (fun i c u h1 h2=>hv i c u h1 (by simpa using h2)) hr).mono fun e W' ⟨he,hw'⟩=>?_
 subst he
 refine⟨_,rfl,[d0],[],_,[],_,[],hW',trodAll_mk1 (shut_bool Tryz.underlying4 true),z7 fact1 hw' zi5 hA1 hlt,rfl,hw'.frame _,fun h=>by cases h⟩
theorem interpLoops_said:Rows.InterpLoopsSaid :=
 OpenClaim.holds_of_wide 3 Tryz.f3 rfl rfl rfl rfl rfl rfl rfl ⟨rfl,rfl,rfl,rfl,rfl⟩ rfl rfl rfl rfl rfl (by kernel_rfl) Tryz.func3 facts
  (of_decide_eq_true (by kernel_rfl)) (by unfold Func.isWrapper; first | (rw[if_pos (by decide +kernel)]; kernel_rfl) | (rw[if_neg (by decide +kernel)]; exact⟨rfl,rfl⟩))
  (fun os started H enc _=>lifted os started H enc)
#print axioms interpLoops_said
end Go.Proofs.YthncagamgiogjaaGreatDoor
