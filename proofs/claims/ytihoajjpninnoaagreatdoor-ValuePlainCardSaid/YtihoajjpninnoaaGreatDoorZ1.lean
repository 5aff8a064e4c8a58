/- On the way to: ValuePlain returns true; its listed variables read as the text lays them. -/
import Derived.Test.YtihoajjpninnoaaGreatDoorB6
import Derived.Test.YtihoajjpninnoaaGreatDoorC4
import Derived.Test.YtihoajjpninnoaaGreatDoorL1
import Derived.KernelRfl
import Derived.Test.YtihoajjpninnoaaGreatDoorV1
import Derived.Test.YtihoajjpninnoaaGreatDoorJ
import Derived.Test.YtihoajjpninnoaaGreatDoorP1
import Derived.Test.YtihoajjpninnoaaGreatDoorP2
import Derived.Test.YtihoajjpninnoaaGreatDoorP0
import Derived.Test.YtihoajjpninnoaaGreatDoorP4
import Derived.Test.YtihoajjpninnoaaGreatDoorP5
import Derived.Test.YtihoajjpninnoaaGreatDoorRows
import Derived.ProofKit
import Derived.LaidMore
import Derived.OpenShut
import Derived.Stop.Joined
import Derived.SevenTiedAt
import Derived.Test.YtihoajjpninnoaaGreatDoorTie
import Derived.Test.YtihoajjpninnoaaGreatDoorCards
set_option autoImplicit false
set_option linter.unusedSectionVars false
set_option linter.unusedSimpArgs false
set_option linter.unusedVariables false
namespace Go.Abs.Run
open Go Go.Abs Go.Proofs
def IntR (a:AV):Prop:=∃ n,a=.int .i64 n∧z6c n=true
def StrV (a:AV):Prop:=∃ s,a=.str s∧B8 s
section
variable [Glob] {H:Type} {enc:TypeId × Value→H} {w:World}
theorem zhz {base:Nat} {P:Program} {t:TypeId} {Q Q':AV→Prop} (h:RdA enc P w base t Q) (hQ:∀ a,Q a→Q' a):RdA enc P w base t Q':=fun v d ps h1 h2 h3=>by
 obtain⟨a,h4,h5⟩:=h v d ps h1 h2 h3
 exact⟨a,hQ a h4,h5⟩
theorem zkp {n:Int} (h:(Lit.int .i64 n).wf=true):z6c n=true:=by
 simp only[Lit.wf,Bool.and_eq_true,decide_eq_true_eq] at h
 have h1:(-9223372036854775808:Int)≤n:=h.1
 have h2:n≤9223372036854775807:=h.2
 cases n with
 | ofNat m=>exact Nat.ble_eq_true_of_le (show m+1≤9223372036854775808 by have:((m:Nat):Int)≤9223372036854775807:=h2; omega)
 | negSucc m=>exact Nat.ble_eq_true_of_le (show m+1≤9223372036854775808 by omega)
theorem rd_intR {base:Nat}:RdA enc Tryz.prog w base 3 IntR:=zhz (RdA.int Tryz.underlying3) fun a ⟨n,h,h2⟩=>⟨n,h,zkp h2⟩
theorem rd_strV {base:Nat}:RdA enc Tryz.prog w base 9 StrV:=zhz (RdA.str Tryz.underlying9) fun a ⟨s,h,_,h2⟩=>⟨s,h,h2⟩
end
end Go.Abs.Run
namespace Go.Abs.Run
open Go Go.Abs Go.Proofs
theorem calN {f:Nat} {args:List AV} {W:List Lo} {fid:Nat} {e:E} {r:CR} (h:z0a tab z1v 3000 f args W fid e=r) (hr:r≠.bad):cal tab z1v f args W fid e=r:=by
 rw[← h]; exact zbf 3000 f args W fid e (by rw[h]; exact hr)
theorem lWi:LWithin tab z1v:=by constructor<;>rfl
theorem lP0:LPlain0 tab z1v:={ lWi with p3:=rfl,i3:=rfl }
theorem lTT:LTextT tab z1v:=by constructor<;>rfl
def H3 (X:E):Prop:=X=X3a∨X=X3b
theorem told_i (n:Int) (h:z6c n=true) (e:E):cal tab z1v 18 [.ptr (.gl 14) 0,vI n] [] 1099514773507 e=.ret (.tup [.str (z2y n),.int .i64 (.ofNat 0)]) e:=by
 refine z2g (g:=z0p (orP z69 zbr)) rfl ?_
 have h1:(z6c n && (isB8 (z2y n) && (z29 (z2y n) 4096 && !(z2y n).isEmpty)))=true:=by
  obtain⟨c0,r0,hd0,_⟩:=z8 n.natAbs
  have hdig:=z4o n.natAbs
  have hm:n.natAbs < 10 ^ 20:=by
   cases n with
   | ofNat m=>have:m < 9223372036854775808:=Nat.le_of_ble_eq_true h; show m < _; omega
   | negSucc m=>have:m < 9223372036854775808:=Nat.le_of_ble_eq_true h; show m+1 < _; omega
  have hlen:=zab 19 n.natAbs hm
  have hL:z2y n=digs n.natAbs∨z2y n=45::digs n.natAbs:=by
   rcases(show n < 0∨0≤n by omega) with hn | hn
   ·exact .inr (zhq h hn).1
   ·left; rw[(zhp h hn).1]; congr 1; omega
  simp only[Bool.and_eq_true,z27,z0q]
  refine⟨h,?_,?_,?_⟩
  ·intro c hc
   rcases hL with hL | hL<;>rw[hL] at hc
   ·have:=hdig c hc; omega
   ·rcases List.mem_cons.1 hc with rfl | hc
    ·decide
    ·have:=hdig c hc; omega
  ·rcases hL with hL | hL<;>rw[hL]
   ·omega
   ·rw[List.length_cons]; omega
  ·rcases hL with hL | hL<;>rw[hL]
   ·rw[hd0]; rfl
   ·rfl
 have h2:z69 [.ptr (.gl 14) 0,vI n]=some (.tup [.str (z2y n),.int .i64 (.ofNat 0)]):=by
  show cond (z6c n && (isB8 (z2y n) && (z29 (z2y n) 4096 && !(z2y n).isEmpty))) _ _=_
  rw[h1]; rfl
 unfold z0p orP
 rw[h2]
theorem zi (S:List Nat) (hS:B8 S) (hl:S.length≤5000) (W:List Lo) (fid:Nat) (e:E):cal tab z1v 133 [.str S] W fid e=.ret (.bool (z3t S && z29 S 4096)) e:=by
 refine z2g (g:=z0p z7y) rfl ?_
 have h1:(isB8 S && z29 S 199999)=true:=by rw[Bool.and_eq_true,z27,z0q]; exact⟨hS,by omega⟩
 have h2:z7y [.str S]=some (.bool (z3t S && z29 S 4096)):=by
  show cond (isB8 S && z29 S 199999) _ _=_
  rw[h1]; rfl
 unfold z0p
 rw[h2]
theorem zi0 (S:List Nat):z3t S=z88 S:=by
 rw[z4m]
 induction S with
 | nil=>rfl
 | cons c S ih =>
  have:z88 (c::S)=((decide (c=10) || (decide (32≤c) && decide (c≤126))) && z88 S):=rfl
  rw[this,← ih,Bool.eq_iff_iff]
  simp[fine]
  intro _
  exact decide_eq_true_iff.symm
theorem told_t (S:List Nat) (hS:B8 S) (hne:S≠[]) (hl:S.length≤4096) (e:E):cal tab z1v 18 [.ptr (.gl 20) 0,.agg (vTC S)] [] 1099515822083 e=.ret (.tup [.str S,.int .i64 (.ofNat 0)]) e:=by
 refine z2g (g:=z0p (orP z69 zbr)) rfl ?_
 have h1:(isB8 S && (z29 S 4096 && !S.isEmpty))=true:=by
  simp only[Bool.and_eq_true,z27,z0q]
  exact⟨hS,hl,by cases S with | nil=>exact absurd rfl hne | cons=>rfl⟩
 have h2:z69 [.ptr (.gl 20) 0,.agg (vTC S)]=none:=rfl
 have h3:zbr [.ptr (.gl 20) 0,.agg (vTC S)]=some (.tup [.str S,.int .i64 (.ofNat 0)]):=by
  show cond (isB8 S && (z29 S 4096 && !S.isEmpty)) _ _=_
  rw[h1]; rfl
 unfold z0p orP
 rw[h2,h3]
theorem lPl:LPlain tab z1v (.gl 8) (.gl 10) X1 X2 H3:={ lP0 with
 made:=calN k_made (by simp)
 len:=calN k_len (by simp)
 t1:=fun n h=>by
  obtain⟨e',hp⟩:=z98 (k_t1p n)
  exact zcn (x:=1048579) (F:=1099514773507) (.step .refl (by decide:2 < cap)) (told_i n h) hp (zko (k_t1a n (z2y n))) (by simp)
 t2:=fun S hS hl=>by
  obtain⟨e',hp⟩:=z98 (k_rp S)
  have hsub:Sub 1099515822081 1208930431301747115819010:=(.step (.step .refl (show 1 < cap by decide)) (show 1 < cap by decide))
  cases hb:(z3t S && z29 S 4096) with
  | false =>
   have hR:cal tab z1v 16 [cP,.agg (vTC S)] [] 1099515822081 (psh (fT 1048580 S) X2)=.ret (.bool false) (psh (fT 1048580 S) X3b):=zcn hsub (fun e=>by rw[zi S hS hl,hb]) hp (z6p (k_rf S)) (by simp)
   refine⟨X3b,.inr rfl,?_⟩
   have ho:z80 S=.tup [.str [],.int .i64 1]:=by
    unfold z80
    rw[← zi0,show decide (S.length≤4096)=z29 S 4096 by cases h:z29 S 4096<;>simp[← z0q,h],Bool.and_comm,hb]; rfl
   rw[ho]
   exact zhu lTT (XR:=X3b) hR
  | true =>
   have hR:cal tab z1v 16 [cP,.agg (vTC S)] [] 1099515822081 (psh (fT 1048580 S) X2)=.ret (.bool true) (psh (fT 1048580 S) X3b):=zcn hsub (fun e=>by rw[zi S hS hl,hb]) hp (z6p (k_rt S)) (by simp)
   have ho:z80 S=.tup [.str S,.int .i64 0]:=by
    unfold z80
    rw[← zi0,show decide (S.length≤4096)=z29 S 4096 by cases h:z29 S 4096<;>simp[← z0q,h],Bool.and_comm,hb]; rfl
   rw[ho]
   have hO:=calN (z6p (k_o S)) (by simp)
   by_cases hne:S=[]
   ·subst hne
    exact⟨X3a,.inl rfl,zds lTT (XR:=X3b) (XO:=X3a) (XD:=X3a) hR hO (calN (z6p k_d0) (by simp))⟩
   ·rw[Bool.and_eq_true,z0q] at hb
    exact⟨X3a,.inl rfl,zds lTT (XR:=X3b) (XO:=X3a) (XD:=X3a) hR hO (told_t S hS hne hb.2 _)⟩
 t3:=fun X y h hy=>by
  obtain rfl | rfl:y=0∨y=1:=by omega
  ·rcases h with rfl | rfl
   ·exact(z5c k_ba0).imp fun _ h=>calN h (by simp[z4c])
   ·exact(z5c k_bb0).imp fun _ h=>calN h (by simp[z4c])
  ·rcases h with rfl | rfl
   ·exact(z5c k_ba1).imp fun _ h=>calN h (by simp[z4c])
   ·exact(z5c k_bb1).imp fun _ h=>calN h (by simp[z4c])
 ru:=fun W fid e=>z2g (g:=z0p runsG) rfl rfl }
theorem zkq {a b:AV} (ha:IntR a) (hb:StrV b):∃ I n,(z0z Tryz.prog I∧z0d I)∧z7o (z0a tab I n 3 [a,b] [] 1 ⟨[],[],[]⟩)=true:=by
 obtain⟨n,rfl,hn⟩:=ha
 obtain⟨S,rfl,hS⟩:=hb
 have key:∃ e',cal tab z1v 3 [.int .i64 n,.str S] [] 1 ⟨[],[],[]⟩=.ret (.bool true) e':=by
  by_cases h:S.length≤5000
  ·exact z97 lPl hn hS (.inl ⟨h,rfl⟩)
  ·exact z97 (S':=S.take 5000) lPl hn (fun c hc=>hS c (List.mem_of_mem_take hc)) (.inr ⟨by omega,rfl⟩)
 obtain⟨e',he⟩:=key
 obtain⟨n,hn⟩:=z9x he (by simp)
 exact⟨z1v,n,zkn,by rw[hn n (Nat.le_refl n)]; rfl⟩
end Go.Abs.Run
namespace Go.Proofs.YtihoajjpninnoaaGreatDoor
open Go Go.Abs Go.ChangeShapes Go.WideShapes Go.ChangeAt Go.RowKit
theorem own:ownKnob Tryz.prog.godebug=none:=by kernel_rfl
theorem gSpace:Tryz.prog.globalNamed "strings.asciiSpace" = some 4:=by kernel_rfl
theorem z4d {P:Program} {w:World}:∀ {l:List (String × DataW Unit)} {ps:List MemPlace},DataW.LaidVars P w l ps→∀ n d,(n,d)∈l →
  ∃ g t cs fuel p,P.globalNamed n=some g∧(P.globals[g]?).map (·.type)=some t∧w.var? P n=some cs∧DataW.trod (fun _=>()) P w 0 (fun _=>true) false fuel t cs.toList=some (d,p)
 | [],_,_,_,_,hm=>by cases hm
 | (n',d')::r,ps,h,n,d,hm=>by
  obtain⟨g,t,cs,fuel,p,q,h1,h2,h3,h4,h5,_⟩:=h
  rcases List.mem_cons.1 hm with hx | hx
  ·cases hx; exact⟨g,t,cs,fuel,p,h1,h2,h3,h4⟩
  ·exact z4d h5 n d hx
abbrev laid:List (String × DataW Unit):=Rows.valuePlainRow.laid
theorem zi1:(laid.filter fun x=>x.2.handleName?.isSome)=[]:=by kernel_rfl
theorem plain {w:World} (h:laidMetH Tryz.prog laid w):laidMet Tryz.prog laid w:=by
 unfold laidMetH at h
 rw[zi1] at h
 exact h
theorem zkr (os:Os) (args:Array Value):laidMetH Tryz.prog laid ((World.doorLaid Tryz.prog 86 os).forCall (fun _ _=>0) ⟨#[],args,[]⟩).memory :=
 laidMetH_of_parts3 (fuel:=8) (laidMet_of_run' 8 (door1 os args) (door2 os args)) (door3 os args) (door4 os args)
theorem tSpace:(Tryz.prog.globals[4]?).map (·.type)=some 379:=by kernel_rfl
set_option maxRecDepth 100000 in
theorem space {w:World} (h:laidMetH Tryz.prog laid w):∃ arr t f,w.heap[4]?=some (.cells arr t f)∧arr.toList=Run.n3.map fun m=>.int .u8 (.ofNat m):=by
 obtain⟨ps,hl,_,_⟩:=plain h
 obtain⟨g,t,cs,fuel,p,h1,h2,h3,h4⟩:=z4d hl "strings.asciiSpace" Rows.laid_strings_asciiSpace (List.mem_of_getElem? (i:=6) rfl)
 obtain rfl:=Option.some.inj (gSpace.symm.trans h1)
 obtain rfl:=Option.some.inj (tSpace.symm.trans h2)
 have h5:=z65 (k:=.u8) Run.n3 Tryz.underlying379 Tryz.underlying5 (by kernel_rfl) (by kernel_rfl) (by kernel_rfl) (show DataW.trod _ Tryz.prog w 0 _ false fuel 379 cs.toList=some (.agg (Run.n3.map fun m=>.lit (.int .u8 (.ofNat m))),p) from h4)
 unfold World.var? at h3
 rw[h1] at h3
 simp only[Option.bind_some] at h3
 split at h3
 ·next arr t' f' he=>cases h3; exact⟨_,t',f',he,h5⟩
 ·cases h3
theorem gV2:Tryz.prog.globalNamed "internal/strconv.uint64pow10" = some 1:=by kernel_rfl
theorem tV2:(Tryz.prog.globals[1]?).map (·.type)=some 355:=by kernel_rfl
set_option maxRecDepth 100000 in
theorem space2 {w:World} (h:laidMetH Tryz.prog laid w):∃ arr t f,w.heap[1]?=some (.cells arr t f)∧arr.toList=Run.n2.map fun m=>.int .u64 (.ofNat m):=by
 obtain⟨ps,hl,_,_⟩:=plain h
 obtain⟨g,t,cs,fuel,p,h1,h2,h3,h4⟩:=z4d hl "internal/strconv.uint64pow10" Rows.laid_internal_strconv_uint64pow10 (List.mem_of_getElem? (i:=2) rfl)
 obtain rfl:=Option.some.inj (gV2.symm.trans h1)
 obtain rfl:=Option.some.inj (tV2.symm.trans h2)
 have h5:=z65 (k:=.u64) Run.n2 Tryz.underlying355 Tryz.underlying270 (by kernel_rfl) (by kernel_rfl) (by kernel_rfl) (show DataW.trod _ Tryz.prog w 0 _ false fuel 355 cs.toList=some (.agg (Run.n2.map fun m=>.lit (.int .u64 (.ofNat m))),p) from h4)
 unfold World.var? at h3
 rw[h1] at h3
 simp only[Option.bind_some] at h3
 split at h3
 ·next arr t' f' he=>cases h3; exact⟨_,t',f',he,h5⟩
 ·cases h3
theorem walk {w:World} (h:laidMetH Tryz.prog laid w) {args:Array Value} {xs:List AV} (hl:args.size=xs.length) (hv:∀ (i:Nat) (c:AV) (u:Value),xs[i]?=some c→args[i]?=some u→VR (KW w) c u)
  (hr:∃ I n,(z0z Tryz.prog I∧z0d I)∧z7o (z0a Run.tab I n 3 xs [] 1 ⟨[],[],[]⟩)=true):Calls Tryz.prog 3 args w fun e w'=>e=.returned (.bool true)∧Below w.heap.size w w':=by
 obtain⟨I,n,hI,hr⟩:=hr
 refine zeu Run.z68 hI Run.mixed (fi:=Run.f3) (by kernel_rfl) hl hv hr (fun g cs hg=>?_)
 have hg':Run.gvs g=some cs:=hg
 unfold Run.gvs at hg'
 cases hb3:Nat.beq g 4 with
 | true =>
  rw[hb3] at hg'; cases hg'
  have:=Nat.eq_of_beq_eq_true hb3
  subst this
  rw[Run.g3_eq]
  obtain⟨arr,t,f,h1,h2⟩:=space h
  exact vpNat (gs:=gsW w) (by rw[zh2 h1,h2])
 | false =>
  rw[hb3] at hg'; rw[cond_false] at hg'
  cases hb2:Nat.beq g 1 with
  | true =>
   rw[hb2] at hg'; cases hg'
   have:=Nat.eq_of_beq_eq_true hb2
   subst this
   rw[Run.g2_eq]
   obtain⟨arr,t,f,h1,h2⟩:=space2 h
   exact vpNat (gs:=gsW w) (by rw[zh2 h1,h2])
  | false =>
   rw[hb2] at hg'; rw[cond_false] at hg'
   cases hg'
theorem zf6:(Tryz.f3.params.toList.all fun t=>Tryz.prog.readableRec t && decide (t < Tryz.prog.types.size))=true:=by kernel_rfl
set_option maxRecDepth 100000 in
theorem lifted (os:Os) (started:os.Started) (H:Type) (enc:TypeId × Value→H) :
  ReturnsInHanded {} Tryz.checked os 3 .any (fun w args=>(Rows.valuePlainSpec.pre enc Tryz.prog Tryz.f3 [] false w args∧laidMetH Tryz.prog laid w)∧sizedMet enc Tryz.prog Tryz.f3 (OpenSpec.ofChange Rows.valuePlainSpec) false w args)
   (Rows.valuePlainSpec.post enc Tryz.prog Tryz.f3 false true false false):=by
 refine returnsInHanded_of_change_and (C:=Tryz.checked) (X:=fun w _=>laidMetH Tryz.prog laid w) (fun _ _ _ hh h=>h.of_heap hh) own started (by kernel_rfl) Tryz.func3
  (ChangeSpec.witness_shaped (enc:=enc) (C:=Tryz.checked) (os:=os) (X:=fun w _=>laidMetH Tryz.prog laid w) false (World.doorLaid Tryz.prog 86 os) #[.int .i64 0,.string .empty] 8 rfl (World.shaped_of_RefB (door5 os) (door6 os)) (door7 os) (door8 os) (door9 os) (zkr os _)) ?_
 intro W base args ds gs' before hval0 hW _ hwt hL _
 have hW':=hW
 obtain⟨p,q,hA0,hV,rfl,hfz,hnd⟩:=hW
 obtain⟨rfl,rfl⟩:=trodVars_none hV
 have hA1:DataW.TrodAll enc Tryz.prog W 0 (fun _=>true) true Tryz.f3.params.toList args.toList ds p:=hA0
 have hlt:=hA1.lt
 have hw:∀ m∈DataW.weightsEach Tryz.prog Tryz.f3.params.toList ds,m≤reachBytes:=by
  have h1:(DataW.weightsEach Tryz.prog (Tryz.f3.params.toList++Rows.valuePlainSpec.plain.varTypes Tryz.prog) (ds++[])).all (·≤reachBytes)=true:=hwt
  have h2:Rows.valuePlainSpec.plain.varTypes Tryz.prog=[]:=rfl
  rw[h2,List.append_nil,List.append_nil] at h1
  intro m hm
  simpa using List.all_eq_true.1 h1 m hm
 have hok:∀ (j:Nat) t v,Tryz.f3.params.toList[j]?=some t→args.toList[j]?=some v→Value.okWide Tryz.prog W .any base t v:=fun j t v h1 h2=>hval0 j t v (by simpa using h1) (by simpa using h2)
 have hA:=hA1
 rw[Tryz.params3] at hA hw hok
 have hRL:zh4 enc Tryz.prog W base [3,9] [Run.IntR,Run.StrV]:=⟨Run.rd_intR,⟨Run.rd_strV,trivial⟩⟩
 obtain⟨xs,has,hl,hv⟩:=zbk hRL hA hok hw
 have hr:∃ I n,(z0z Tryz.prog I∧z0d I)∧z7o (z0a Run.tab I n 3 xs [] 1 ⟨[],[],[]⟩)=true:=by
  match xs,has with
  | [a0,a1],⟨q0,q1,_⟩=>exact Run.zkq q0 q1
 obtain⟨v0,v1,d0,d1,p0,p1,rfl,rfl,rfl,h0,h1⟩:=trodAll_two hA
 clear hA0 hval0
 simp only[List.append_nil] at hW'
 refine(walk hL (by simpa using hl) (fun i c u h1 h2=>hv i c u h1 (by simpa using h2)) hr).mono fun e W' ⟨he,hw'⟩=>?_
 subst he
 refine⟨_,rfl,[d0,d1],[],_,[],_,[],hW',trodAll_mk1 (shut_bool Tryz.underlying4 true),z59 fact1 hw' zf6 hA1 hlt,rfl,hw'.frame _,fun h=>by cases h⟩
theorem valuePlain_said:Rows.ValuePlainSaid :=
 OpenClaim.holds_of_wide 3 Tryz.f3 rfl rfl rfl rfl rfl rfl rfl ⟨rfl,rfl,rfl,rfl,rfl⟩ rfl rfl rfl rfl rfl (by kernel_rfl) Tryz.func3 facts
  (of_decide_eq_true (by kernel_rfl)) (by unfold Func.isWrapper; first | (rw[if_pos (by decide +kernel)]; kernel_rfl) | (rw[if_neg (by decide +kernel)]; exact⟨rfl,rfl⟩))
  (fun os started H enc _=>lifted os started H enc)
#print axioms valuePlain_said
end Go.Proofs.YtihoajjpninnoaaGreatDoor
