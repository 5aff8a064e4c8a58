/- On the way to: InterpDepth returns true; its listed variables read as the text lays them. -/
import Derived.Test.YthncagamgiogjaaGreatDoorE7
import Derived.Test.YthncagamgiogjaaGreatDoorB6
import Derived.Test.YthncagamgiogjaaGreatDoorC4
import Derived.KernelRfl
import Derived.Test.YthncagamgiogjaaGreatDoorF7
import Derived.Test.YthncagamgiogjaaGreatDoorF3
import Derived.Test.YthncagamgiogjaaGreatDoorF4
import Derived.Test.YthncagamgiogjaaGreatDoorF5
import Derived.Test.YthncagamgiogjaaGreatDoorF6
import Derived.Test.YthncagamgiogjaaGreatDoorL1
import Derived.Test.YthncagamgiogjaaGreatDoorJ
import Derived.Test.YthncagamgiogjaaGreatDoorP1
import Derived.Test.YthncagamgiogjaaGreatDoorP2
import Derived.Test.YthncagamgiogjaaGreatDoorP0
import Derived.Test.YthncagamgiogjaaGreatDoorP4
import Derived.Test.YthncagamgiogjaaGreatDoorP5
import Derived.Test.YthncagamgiogjaaGreatDoorRows
import Derived.ProofKit
import Derived.LaidMore
import Derived.OpenShut
import Derived.Stop.Joined
import Derived.SevenTiedAt
import Derived.Test.YthncagamgiogjaaGreatDoorK2
import Derived.Test.YthncagamgiogjaaGreatDoorCards
set_option autoImplicit false
set_option linter.unusedSectionVars false
set_option linter.unusedSimpArgs false
set_option linter.unusedVariables false
namespace Go.Abs.Run
open Go Go.Abs Go.Proofs
def IntV (a:AV):Prop:=∃ n,a=.int .i64 n
section
variable [Glob] {H:Type} {enc:TypeId × Value→H} {w:World}
theorem rda_imp {base:Nat} {P:Program} {t:TypeId} {Q Q':AV→Prop} (h:RdA enc P w base t Q) (hQ:∀ a,Q a→Q' a):RdA enc P w base t Q':=fun v d ps h1 h2 h3=>by
 obtain⟨a,h4,h5⟩:=h v d ps h1 h2 h3
 exact⟨a,hQ a h4,h5⟩
theorem rd_int {base:Nat}:RdA enc Tryz.prog w base 3 IntV:=rda_imp (RdA.int Tryz.underlying3) (fun a h=>h.imp fun _ h=>h.1)
end
end Go.Abs.Run
namespace Go.Abs.Run
open Go Go.Abs Go.Proofs
theorem z6m (v:AV) (f:FS) (X:E):subE v (psh f X)=psh f (subE v X):=by cases X; rfl
noncomputable def svV (t:List Nat):AV:=.tup [.str t,.int .i64 0]
theorem run_all (S t:List Nat) (tv:AV) {m:Nat} (hm:m < 1000):∃ e',cal tab (z3k S tv (astV m) (astQ m) (svV t)) 6 [.str S,.int .i64 100000] [] 1 ⟨[],[],[]⟩=.ret (depO m) e':=by
 have hP:cal tab (z3k S tv (astV m) (astQ m) (svV t)) 9 [.str S] [] (child 1 0) (psh fRs ⟨[],[],[]⟩)=.ret (.tup [.ptr (.gl 0) 0,.nili]) (psh fRs (subE (nV m) X1p)):=by
  obtain⟨e1,h1⟩:=z13 (cp S t tv m)
  obtain⟨e2,h2⟩:=z13 (cq S t tv m)
  have h3:=zfv (cr S t tv m) (v:=nV m) (by simp)
  unfold E1p at h3
  rw[z6m] at h3
  exact zmc (x:=1048577) (F1:=1099512676353) (F2:=1208926972538332805857281) (by decide) (.step .refl (show 0 < cap by decide)) (.step (.step (.step .refl (show 1 < cap by decide)) (show 0 < cap by decide)) (show 0 < cap by decide)) (fun e=>z2m rfl (z41 _ _) [] _ e) (fun e=>z2m rfl (z41 _ _) [] _ e) h1 h2 h3 (by simp)
 have hB:cal tab (z3k S tv (astV m) (astQ m) (svV t)) 16 [.ptr (.gl 0) 0,.int .i64 100000] [] (child (child 1 1) 1) (psh (fR1 (child 1 1) (.gl 0)) (psh fRs (subE (nV m) X1p)))=.ret (.ptr (.gl 40) 0) (psh (fR1 (child 1 1) (.gl 0)) (psh fRs (subE (nV m) X2q))):=by
  have h3:=zfv (d_b S tv (astV m) (astQ m) (svV t) m) (v:=nV m) (by simp)
  have h4:=(z6b 3000 16 [.ptr (.gl 0) 0,.int .i64 (.ofNat 100000)] [] 1099513724930 _ (by rw[h3]; simp)).trans h3
  unfold E1p E2p X2p at h4
  rw[z6m,z6m,z6m] at h4
  exact h4
 have ho:=zmy (lT4 S tv (astV m) (astQ m) (svV t)) (d_o m) rfl
 have key:∀ (w st:Int) (S':List Nat),(∃ (K:RunK) (ks:List Nat) (a b:Nat),cal tab (z3k S tv (astV m) (astQ m) (svV t)) 17 [.ptr (.gl 40) 0,.fn 18 [] [.ptr (.lo (child 1 1) 2 1) 0,.ptr (.lo (child 1 1) 0 1) 0]] [] (child (child 1 1) 2) (psh (fR2 (child 1 1) (.gl 0) (.gl 40)) (psh fRs (subE (nV m) X2q)))=.ret (.agg [.sl 1 0 [],.int .i64 w,.str S',.int .i64 st]) (nxE K ks a b (psh (fR2 (child 1 1) (.gl 0) (.gl 40)) (psh fRs (subE (nV m) X2q))))) →
   ∃ e',cal tab (z3k S tv (astV m) (astQ m) (svV t)) 6 [.str S,.int .i64 100000] [] 1 ⟨[],[],[]⟩=.ret (.agg [.sl 1 0 [],.int .i64 w,.str S',.int .i64 st]) e':=fun w st S' hO=>by
  obtain⟨K,ks,a,b,h⟩:=zmz (lR4 S tv (astV m) (astQ m) (svV t)) hB hO
  rw[z0n] at h
  exact zn0 (lR4 S tv (astV m) (astQ m) (svV t)) hP ⟨nxE K ks a b (subE (nV m) X2q),h.trans (by rw[show fRs.live=[] from rfl,z26]; rfl)⟩
 unfold X2p at ho
 rw[z6m] at ho
 unfold depO
 by_cases h5:500≤m
 ·rw[if_pos h5,if_pos h5,if_pos h5]
  exact key _ _ _ (ho.1 h5 (by omega))
 ·rw[if_neg h5,if_neg h5,if_neg h5]
  exact key _ _ _ (ho.2 (by omega) (digs m) fun c W fid e=>z2m (g:=zdp) rfl (by show (if m < 1000 then _ else none)=_; rw[if_pos hm]) W fid e)
theorem depO_fg (m:Nat):Fg (depO m) (depO m):=.agg rfl fun i c d h1 h2=>by
 rw[h1] at h2; cases h2
 match i,h1 with
 | 0,h1=>cases h1; exact .sl (k:=1) rfl (by simp) (by simp)
 | 1,h1=>cases h1; exact .int _ _
 | 2,h1=>cases h1; exact .str _
 | 3,h1=>cases h1; exact .int _ _
 | i+4,h1=>simp at h1
theorem svV_fg (t:List Nat):Fg (svV t) (svV t):=.tup rfl fun i c d h1 h2=>by
 rw[h1] at h2; cases h2
 match i,h1 with
 | 0,h1=>cases h1; exact .str _
 | 1,h1=>cases h1; exact .int _ _
 | i+2,h1=>simp at h1
theorem rn_ok {S t:List Nat} {l:List TokK} {m:Nat} (hm:m < 1000) (h1:∃ kk z,z40 tab z2w 34 [.str S] (.tup [.sl kk z (l.map TokK.tok),.int .i64 0,.int .i64 0])∧z=4∧¬ kk=1) (h2:z40 tab (z43 S (tokV l)) 13 [.str S] (subA (nV m) zdf)) (h3:z40 tab z0f 42 [astQ m] (svV t)) :
  IOK Tryz.prog 6 (z0j (oneC [.str S,.int .i64 100000] (depO m))) :=
 oneC_iok z24 (z3a (z3a (z3a (zdg h1) (oneC_iok z24 (zdg h1) mixed h2 (ast_fg m) fg_s1)) (oneC_iok z24 z3c mixed h3 (svV_fg t) (astQ_fg m))) zmh:z0r Tryz.prog (z3k S (tokV l) (astV m) (astQ m) (svV t))∧z0c (z3k S (tokV l) (astV m) (astQ m) (svV t))) mixed (run_all S t (tokV l) hm) (depO_fg m) fg_si
theorem dg1 {a:Nat} (ha:a≤9):digs (a)=[48+a]:=z5d (by omega)
theorem sd1 {a:Nat} (ha:a≤9):depS (a)=src1 a:=by unfold depS; rw[dg1 ha]; rfl
theorem rn1 {a:Nat} (ha:a≤9):IOK Tryz.prog 6 (z0j (oneC [.str (depS (a)),.int .i64 100000] (depO (a)))):=by
 rw[sd1 ha]
 exact rn_ok (by omega) (toks1 a ha) (ast1 _ _) (syn1 ha fun W fid e=>z3j (g:=z0j z70) rfl (by unfold z0j; rw[show z70 [nV (a)]=some (.str (digs (a))) from z84 (by omega),dg1 ha]))
theorem dg2 {a b:Nat} (ha:a≤9) (ha0:a≠0) (hb:b≤9):digs (a * 10+b)=[48+a,48+b]:=by rw[z5e (by omega),show (a * 10+b) / 10=a by omega,show (a * 10+b) % 10=b by omega,z5d (by omega)]; rfl
theorem sd2 {a b:Nat} (ha:a≤9) (ha0:a≠0) (hb:b≤9):depS (a * 10+b)=src2 a b:=by unfold depS; rw[dg2 ha ha0 hb]; rfl
theorem rn2 {a b:Nat} (ha:a≤9) (ha0:a≠0) (hb:b≤9):IOK Tryz.prog 6 (z0j (oneC [.str (depS (a * 10+b)),.int .i64 100000] (depO (a * 10+b)))):=by
 rw[sd2 ha ha0 hb]
 exact rn_ok (by omega) (toks2 a b ha ha0 hb) (ast2 _ _) (syn2 ha hb fun W fid e=>z3j (g:=z0j z70) rfl (by unfold z0j; rw[show z70 [nV (a * 10+b)]=some (.str (digs (a * 10+b))) from z84 (by omega),dg2 ha ha0 hb]))
theorem dg3 {a b c:Nat} (ha:a≤9) (ha0:a≠0) (hb:b≤9) (hc:c≤9):digs ((a * 10+b) * 10+c)=[48+a,48+b,48+c]:=by rw[z5e (by omega),show ((a * 10+b) * 10+c) / 10=a * 10+b by omega,show ((a * 10+b) * 10+c) % 10=c by omega,z5e (by omega),show (a * 10+b) / 10=a by omega,show (a * 10+b) % 10=b by omega,z5d (by omega)]; rfl
theorem sd3 {a b c:Nat} (ha:a≤9) (ha0:a≠0) (hb:b≤9) (hc:c≤9):depS ((a * 10+b) * 10+c)=src3 a b c:=by unfold depS; rw[dg3 ha ha0 hb hc]; rfl
theorem rn3 {a b c:Nat} (ha:a≤9) (ha0:a≠0) (hb:b≤9) (hc:c≤9):IOK Tryz.prog 6 (z0j (oneC [.str (depS ((a * 10+b) * 10+c)),.int .i64 100000] (depO ((a * 10+b) * 10+c)))):=by
 rw[sd3 ha ha0 hb hc]
 exact rn_ok (by omega) (toks3 a b c ha ha0 hb hc) (ast3 _ _) (syn3 ha hb hc fun W fid e=>z3j (g:=z0j z70) rfl (by unfold z0j; rw[show z70 [nV ((a * 10+b) * 10+c)]=some (.str (digs ((a * 10+b) * 10+c))) from z84 (by omega),dg3 ha ha0 hb hc]))
theorem rn_any {m:Nat} (hm:m < 621):IOK Tryz.prog 6 (z0j (oneC [.str (depS m),.int .i64 100000] (depO m))):=by
 by_cases h1:m < 10
 ·exact rn1 (by omega)
 ·by_cases h2:m < 100
  ·have:=rn2 (a:=m / 10) (b:=m % 10) (by omega) (by omega) (by omega)
   rwa [show m / 10 * 10+m % 10=m by omega] at this
  ·have:=rn3 (a:=m / 100) (b:=m / 10 % 10) (c:=m % 10) (by omega) (by omega) (by omega) (by omega)
   rwa [show (m / 100 * 10+m / 10 % 10) * 10+m % 10=m by omega] at this
noncomputable def zn4 (m:Nat):Nat→Option z08:=addI (addI (addI z0f 6 (z0j (oneC [.str (depS m),.int .i64 100000] (depO m)))) 8 (z0j zk1)) 7 (z0j (anyR tab z0f 7))
theorem zn5 {m:Nat} (hm:m < 621):z0r Tryz.prog (zn4 m)∧z0c (zn4 m):=z3a (z3a (z3a z3c (rn_any hm)) zmg) (zbw z24 z3c mixed)
theorem lDecG:LDec tab z0f:=by constructor<;>rfl
theorem lDepth {m:Nat} (hm:m < 621):LDepth tab (zn4 m) m where
 p5:=rfl
 i5:=rfl
 p4:=rfl
 i4:=rfl
 dec:=fun W fid e=>z2m (g:=anyR tab z0f 7) rfl (zem ⟨_,zew lDecG (by omega)⟩ (.str _) (by intro a ha; simp only[List.mem_singleton] at ha; subst ha; exact .int _ _)) W fid e
 rn:=fun W fid e=>z2m rfl (z41 _ _) W fid e
 ru:=fun W fid e=>z3j (g:=z0j zk1) rfl rfl
theorem zn6 {a:AV} (ha:IntV a):∃ I n,(z0r Tryz.prog I∧z0c I)∧z5y (z09 tab I n 4 [a] [] 1 ⟨[],[],[]⟩)=true:=by
 obtain⟨n,rfl⟩:=ha
 have h0:0≤n % 621:=Int.emod_nonneg _ (by decide)
 have h1:n % 621 < 621:=Int.emod_lt_of_pos _ (by decide)
 obtain⟨m,hm⟩:=Int.eq_ofNat_of_zero_le h0
 have hm':m < 621:=by omega
 obtain⟨e',he⟩:=zki (fid:=1) (e:=⟨[],[],[]⟩) (lDepth hm') hm' hm
 obtain⟨k,hk⟩:=z6 he (by simp)
 exact⟨zn4 m,k,zn5 hm',by rw[hk k (Nat.le_refl k)]; rfl⟩
end Go.Abs.Run
namespace Go.Proofs.YthncagamgiogjaaGreatDoor
open Go Go.Abs Go.ChangeShapes Go.WideShapes Go.ChangeAt Go.RowKit
theorem own:ownKnob Tryz.prog.godebug=none:=by kernel_rfl
theorem gSpace:Tryz.prog.globalNamed "strings.asciiSpace" = some 4:=by kernel_rfl
theorem z5f {P:Program} {w:World}:∀ {l:List (String × DataW Unit)} {ps:List MemPlace},DataW.LaidVars P w l ps→∀ n d,(n,d)∈l →
  ∃ g t cs fuel p,P.globalNamed n=some g∧(P.globals[g]?).map (·.type)=some t∧w.var? P n=some cs∧DataW.trod (fun _=>()) P w 0 (fun _=>true) false fuel t cs.toList=some (d,p)
 | [],_,_,_,_,hm=>by cases hm
 | (n',d')::r,ps,h,n,d,hm=>by
  obtain⟨g,t,cs,fuel,p,q,h1,h2,h3,h4,h5,_⟩:=h
  rcases List.mem_cons.1 hm with hx | hx
  ·cases hx; exact⟨g,t,cs,fuel,p,h1,h2,h3,h4⟩
  ·exact z5f h5 n d hx
abbrev laid:List (String × DataW Unit):=Rows.interpDepthRow.laid
theorem zkj:(laid.filter fun x=>x.2.handleName?.isSome)=[]:=by kernel_rfl
theorem plain {w:World} (h:laidMetH Tryz.prog laid w):laidMet Tryz.prog laid w:=by
 unfold laidMetH at h
 rw[zkj] at h
 exact h
theorem zn7 (os:Os) (args:Array Value):laidMetH Tryz.prog laid ((World.doorLaid Tryz.prog 100 os).forCall (fun _ _=>0) ⟨#[],args,[]⟩).memory :=
 laidMetH_of_parts3 (fuel:=8) (laidMet_of_run' 8 (door1 os args) (door2 os args)) (door3 os args) (door4 os args)
theorem tSpace:(Tryz.prog.globals[4]?).map (·.type)=some 487:=by kernel_rfl
set_option maxRecDepth 100000 in
theorem space {w:World} (h:laidMetH Tryz.prog laid w):∃ arr t f,w.heap[4]?=some (.cells arr t f)∧arr.toList=Run.n3.map fun m=>.int .u8 (.ofNat m):=by
 obtain⟨ps,hl,_,_⟩:=plain h
 obtain⟨g,t,cs,fuel,p,h1,h2,h3,h4⟩:=z5f hl "strings.asciiSpace" Rows.laid_strings_asciiSpace (List.mem_of_getElem? (i:=3) rfl)
 obtain rfl:=Option.some.inj (gSpace.symm.trans h1)
 obtain rfl:=Option.some.inj (tSpace.symm.trans h2)
 have h5:=z7i (k:=.u8) Run.n3 Tryz.underlying487 Tryz.underlying5 (by kernel_rfl) (by kernel_rfl) (by kernel_rfl) (show DataW.trod _ Tryz.prog w 0 _ false fuel 487 cs.toList=some (.agg (Run.n3.map fun m=>.lit (.int .u8 (.ofNat m))),p) from h4)
 unfold World.var? at h3
 rw[h1] at h3
 simp only[Option.bind_some] at h3
 split at h3
 ·next arr t' f' he=>cases h3; exact⟨_,t',f',he,h5⟩
 ·cases h3
theorem gV2:Tryz.prog.globalNamed "internal/strconv.uint64pow10" = some 1:=by kernel_rfl
theorem tV2:(Tryz.prog.globals[1]?).map (·.type)=some 434:=by kernel_rfl
set_option maxRecDepth 100000 in
theorem space2 {w:World} (h:laidMetH Tryz.prog laid w):∃ arr t f,w.heap[1]?=some (.cells arr t f)∧arr.toList=Run.n2.map fun m=>.int .u64 (.ofNat m):=by
 obtain⟨ps,hl,_,_⟩:=plain h
 obtain⟨g,t,cs,fuel,p,h1,h2,h3,h4⟩:=z5f hl "internal/strconv.uint64pow10" Rows.laid_internal_strconv_uint64pow10 (List.mem_of_getElem? (i:=0) rfl)
 obtain rfl:=Option.some.inj (gV2.symm.trans h1)
 obtain rfl:=Option.some.inj (tV2.symm.trans h2)
 have h5:=z7i (k:=.u64) Run.n2 Tryz.underlying434 Tryz.underlying326 (by kernel_rfl) (by kernel_rfl) (by kernel_rfl) (show DataW.trod _ Tryz.prog w 0 _ false fuel 434 cs.toList=some (.agg (Run.n2.map fun m=>.lit (.int .u64 (.ofNat m))),p) from h4)
 unfold World.var? at h3
 rw[h1] at h3
 simp only[Option.bind_some] at h3
 split at h3
 ·next arr t' f' he=>cases h3; exact⟨_,t',f',he,h5⟩
 ·cases h3
theorem walk {w:World} (h:laidMetH Tryz.prog laid w) {args:Array Value} {xs:List AV} (hl:args.size=xs.length) (hv:∀ (i:Nat) (c:AV) (u:Value),xs[i]?=some c→args[i]?=some u→VR (KW w) c u)
  (hr:∃ I n,(z0r Tryz.prog I∧z0c I)∧z5y (z09 Run.tab I n 4 xs [] 1 ⟨[],[],[]⟩)=true):Calls Tryz.prog 4 args w fun e w'=>e=.returned (.bool true)∧Below w.heap.size w w':=by
 obtain⟨I,n,hI,hr⟩:=hr
 refine zh4 Run.z24 hI Run.mixed (fi:=Run.f4) (by kernel_rfl) hl hv hr (fun g cs hg=>?_)
 have hg':Run.gvs g=some cs:=hg
 unfold Run.gvs at hg'
 cases hb3:Nat.beq g 4 with
 | true =>
  rw[hb3] at hg'; cases hg'
  have:=Nat.eq_of_beq_eq_true hb3
  subst this
  rw[Run.g3_eq]
  obtain⟨arr,t,f,h1,h2⟩:=space h
  exact vpNat (gs:=gsW w) (by rw[zjd h1,h2])
 | false =>
  rw[hb3] at hg'; rw[cond_false] at hg'
  cases hb2:Nat.beq g 1 with
  | true =>
   rw[hb2] at hg'; cases hg'
   have:=Nat.eq_of_beq_eq_true hb2
   subst this
   rw[Run.g2_eq]
   obtain⟨arr,t,f,h1,h2⟩:=space2 h
   exact vpNat (gs:=gsW w) (by rw[zjd h1,h2])
  | false =>
   rw[hb2] at hg'; rw[cond_false] at hg'
   cases hg'
theorem zhg:(Tryz.f4.params.toList.all fun t=>Tryz.prog.readableRec t && decide (t < Tryz.prog.types.size))=true:=by kernel_rfl
set_option maxRecDepth 100000 in
theorem lifted (os:Os) (started:os.Started) (H:Type) (enc:TypeId × Value→H) :
  ReturnsInHanded {} Tryz.checked os 4 .any (fun w args=>(Rows.interpDepthSpec.pre enc Tryz.prog Tryz.f4 [] false w args∧laidMetH Tryz.prog laid w)∧sizedMet enc Tryz.prog Tryz.f4 (OpenSpec.ofChange Rows.interpDepthSpec) false w args)
   (Rows.interpDepthSpec.post enc Tryz.prog Tryz.f4 false true false false):=by
 refine returnsInHanded_of_change_and (C:=Tryz.checked) (X:=fun w _=>laidMetH Tryz.prog laid w) (fun _ _ _ hh h=>h.of_heap hh) own started (by kernel_rfl) Tryz.func4
  (ChangeSpec.witness_shaped (enc:=enc) (C:=Tryz.checked) (os:=os) (X:=fun w _=>laidMetH Tryz.prog laid w) false (World.doorLaid Tryz.prog 100 os) #[.int .i64 0] 8 rfl (World.shaped_of_RefB (door5 os) (door6 os)) (door7 os) (door8 os) (door9 os) (zn7 os _)) ?_
 intro W base args ds gs' before hval0 hW _ hwt hL _
 have hW':=hW
 obtain⟨p,q,hA0,hV,rfl,hfz,hnd⟩:=hW
 obtain⟨rfl,rfl⟩:=trodVars_none hV
 have hA1:DataW.TrodAll enc Tryz.prog W 0 (fun _=>true) true Tryz.f4.params.toList args.toList ds p:=hA0
 have hlt:=hA1.lt
 have hw:∀ m∈DataW.weightsEach Tryz.prog Tryz.f4.params.toList ds,m≤reachBytes:=by
  have h1:(DataW.weightsEach Tryz.prog (Tryz.f4.params.toList++Rows.interpDepthSpec.plain.varTypes Tryz.prog) (ds++[])).all (·≤reachBytes)=true:=hwt
  have h2:Rows.interpDepthSpec.plain.varTypes Tryz.prog=[]:=rfl
  rw[h2,List.append_nil,List.append_nil] at h1
  intro m hm
  simpa using List.all_eq_true.1 h1 m hm
 have hok:∀ (j:Nat) t v,Tryz.f4.params.toList[j]?=some t→args.toList[j]?=some v→Value.okWide Tryz.prog W .any base t v:=fun j t v h1 h2=>hval0 j t v (by simpa using h1) (by simpa using h2)
 have hA:=hA1
 rw[Tryz.params4] at hA hw hok
 have hRL:zjf enc Tryz.prog W base [3] [Run.IntV]:=⟨Run.rd_int,trivial⟩
 obtain⟨xs,has,hl,hv⟩:=zd9 hRL hA hok hw
 have hr:∃ I n,(z0r Tryz.prog I∧z0c I)∧z5y (z09 Run.tab I n 4 xs [] 1 ⟨[],[],[]⟩)=true:=by
  match xs,has with
  | [a0],⟨q0,_⟩=>exact Run.zn6 q0
 obtain⟨v0,d0,rfl,rfl,h0⟩:=trodAll_one hA
 clear hA0 hval0
 simp only[List.append_nil] at hW'
 refine(walk hL (by simpa using hl) (fun i c u h1 h2=>hv i c u h1 (by simpa using h2)) hr).mono fun e W' ⟨he,hw'⟩=>?_
 subst he
 refine⟨_,rfl,[d0],[],_,[],_,[],hW',trodAll_mk1 (shut_bool Tryz.underlying4 true),z6d fact1 hw' zhg hA1 hlt,rfl,hw'.frame _,fun h=>by cases h⟩
theorem interpDepth_said:Rows.InterpDepthSaid :=
 OpenClaim.holds_of_wide 4 Tryz.f4 rfl rfl rfl rfl rfl rfl rfl ⟨rfl,rfl,rfl,rfl,rfl⟩ rfl rfl rfl rfl rfl (by kernel_rfl) Tryz.func4 facts
  (of_decide_eq_true (by kernel_rfl)) (by unfold Func.isWrapper; first | (rw[if_pos (by decide +kernel)]; kernel_rfl) | (rw[if_neg (by decide +kernel)]; exact⟨rfl,rfl⟩))
  (fun os started H enc _=>lifted os started H enc)
#print axioms interpDepth_said
end Go.Proofs.YthncagamgiogjaaGreatDoor
