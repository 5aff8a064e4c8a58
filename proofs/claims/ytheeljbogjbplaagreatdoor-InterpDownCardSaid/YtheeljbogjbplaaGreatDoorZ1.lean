/- On the way to: InterpDown returns true; its listed variables read as the text lays them. -/
import Derived.Test.YtheeljbogjbplaaGreatDoorE7
import Derived.Test.YtheeljbogjbplaaGreatDoorB6
import Derived.Test.YtheeljbogjbplaaGreatDoorC4
import Derived.KernelRfl
import Derived.Test.YtheeljbogjbplaaGreatDoorDn
import Derived.Test.YtheeljbogjbplaaGreatDoorJ
import Derived.Test.YtheeljbogjbplaaGreatDoorP1
import Derived.Test.YtheeljbogjbplaaGreatDoorP2
import Derived.Test.YtheeljbogjbplaaGreatDoorP0
import Derived.Test.YtheeljbogjbplaaGreatDoorP4
import Derived.Test.YtheeljbogjbplaaGreatDoorP5
import Derived.Test.YtheeljbogjbplaaGreatDoorRows
import Derived.ProofKit
import Derived.LaidMore
import Derived.OpenShut
import Derived.Stop.Joined
import Derived.SevenTiedAt
import Derived.Test.YtheeljbogjbplaaGreatDoorK2
import Derived.Test.YtheeljbogjbplaaGreatDoorCards
set_option autoImplicit false
set_option linter.unusedSectionVars false
set_option linter.unusedSimpArgs false
set_option linter.unusedVariables false
namespace Go.Abs.Run
open Go Go.Abs Go.Proofs
def IntV (a:AV):Prop:=∃ n,a=.int .i64 n
section
variable [Glob] {H:Type} {enc:TypeId × Value→H} {w:World}
theorem rda_imp {base:Nat} {P:Program} {t:TypeId} {Q Q':AV→Prop} (h:RdA enc P w base t Q) (hQ:∀ a,Q a→Q' a):RdA enc P w base t Q':=fun v d ps h1 h2 h3=>by
 obtain⟨a,h4,h5⟩:=h v d ps h1 h2 h3
 exact⟨a,hQ a h4,h5⟩
theorem rd_int {base:Nat}:RdA enc Tryz.prog w base 3 IntV:=rda_imp (RdA.int Tryz.underlying3) (fun a h=>h.imp fun _ h=>h.1)
end
end Go.Abs.Run
namespace Go.Abs.Run
open Go Go.Abs Go.Proofs
theorem down_of {a b:AV} (ha:IntV a) (hb:IntV b):∃ I n,(z0f Tryz.prog I∧z06 I)∧z4m (z04 tab I n 3 [a,b] [] 1 ⟨[],[],[]⟩)=true:=by
 obtain⟨m,rfl⟩:=ha
 obtain⟨m',rfl⟩:=hb
 obtain⟨e',he⟩:=zk9 (fid:=1) (e:=⟨[],[],[]⟩) lDown m m'
 obtain⟨n,hn⟩:=z4n he (by simp)
 exact⟨zjn,n,zjo,by rw[hn n (Nat.le_refl n)]; rfl⟩
end Go.Abs.Run
namespace Go.Proofs.YtheeljbogjbplaaGreatDoor
open Go Go.Abs Go.ChangeShapes Go.WideShapes Go.ChangeAt Go.RowKit
theorem own:ownKnob Tryz.prog.godebug=none:=by kernel_rfl
theorem gSpace:Tryz.prog.globalNamed "strings.asciiSpace" = some 4:=by kernel_rfl
theorem z42 {P:Program} {w:World}:∀ {l:List (String × DataW Unit)} {ps:List MemPlace},DataW.LaidVars P w l ps→∀ n d,(n,d)∈l →
  ∃ g t cs fuel p,P.globalNamed n=some g∧(P.globals[g]?).map (·.type)=some t∧w.var? P n=some cs∧DataW.trod (fun _=>()) P w 0 (fun _=>true) false fuel t cs.toList=some (d,p)
 | [],_,_,_,_,hm=>by cases hm
 | (n',d')::r,ps,h,n,d,hm=>by
  obtain⟨g,t,cs,fuel,p,q,h1,h2,h3,h4,h5,_⟩:=h
  rcases List.mem_cons.1 hm with hx | hx
  ·cases hx; exact⟨g,t,cs,fuel,p,h1,h2,h3,h4⟩
  ·exact z42 h5 n d hx
abbrev laid:List (String × DataW Unit):=Rows.interpDownRow.laid
theorem zi3:(laid.filter fun x=>x.2.handleName?.isSome)=[]:=by kernel_rfl
theorem plain {w:World} (h:laidMetH Tryz.prog laid w):laidMet Tryz.prog laid w:=by
 unfold laidMetH at h
 rw[zi3] at h
 exact h
theorem zka (os:Os) (args:Array Value):laidMetH Tryz.prog laid ((World.doorLaid Tryz.prog 100 os).forCall (fun _ _=>0) ⟨#[],args,[]⟩).memory :=
 laidMetH_of_parts3 (fuel:=8) (laidMet_of_run' 8 (door1 os args) (door2 os args)) (door3 os args) (door4 os args)
theorem tSpace:(Tryz.prog.globals[4]?).map (·.type)=some 487:=by kernel_rfl
set_option maxRecDepth 100000 in
theorem space {w:World} (h:laidMetH Tryz.prog laid w):∃ arr t f,w.heap[4]?=some (.cells arr t f)∧arr.toList=Run.n3.map fun m=>.int .u8 (.ofNat m):=by
 obtain⟨ps,hl,_,_⟩:=plain h
 obtain⟨g,t,cs,fuel,p,h1,h2,h3,h4⟩:=z42 hl "strings.asciiSpace" Rows.laid_strings_asciiSpace (List.mem_of_getElem? (i:=3) rfl)
 obtain rfl:=Option.some.inj (gSpace.symm.trans h1)
 obtain rfl:=Option.some.inj (tSpace.symm.trans h2)
 have h5:=z5r (k:=.u8) Run.n3 Tryz.underlying487 Tryz.underlying5 (by kernel_rfl) (by kernel_rfl) (by kernel_rfl) (show DataW.trod _ Tryz.prog w 0 _ false fuel 487 cs.toList=some (.agg (Run.n3.map fun m=>.lit (.int .u8 (.ofNat m))),p) from h4)
 unfold World.var? at h3
 rw[h1] at h3
 simp only[Option.bind_some] at h3
 split at h3
 ·next arr t' f' he=>cases h3; exact⟨_,t',f',he,h5⟩
 ·cases h3
theorem gV2:Tryz.prog.globalNamed "internal/strconv.uint64pow10" = some 1:=by kernel_rfl
theorem tV2:(Tryz.prog.globals[1]?).map (·.type)=some 434:=by kernel_rfl
set_option maxRecDepth 100000 in
theorem space2 {w:World} (h:laidMetH Tryz.prog laid w):∃ arr t f,w.heap[1]?=some (.cells arr t f)∧arr.toList=Run.n2.map fun m=>.int .u64 (.ofNat m):=by
 obtain⟨ps,hl,_,_⟩:=plain h
 obtain⟨g,t,cs,fuel,p,h1,h2,h3,h4⟩:=z42 hl "internal/strconv.uint64pow10" Rows.laid_internal_strconv_uint64pow10 (List.mem_of_getElem? (i:=0) rfl)
 obtain rfl:=Option.some.inj (gV2.symm.trans h1)
 obtain rfl:=Option.some.inj (tV2.symm.trans h2)
 have h5:=z5r (k:=.u64) Run.n2 Tryz.underlying434 Tryz.underlying327 (by kernel_rfl) (by kernel_rfl) (by kernel_rfl) (show DataW.trod _ Tryz.prog w 0 _ false fuel 434 cs.toList=some (.agg (Run.n2.map fun m=>.lit (.int .u64 (.ofNat m))),p) from h4)
 unfold World.var? at h3
 rw[h1] at h3
 simp only[Option.bind_some] at h3
 split at h3
 ·next arr t' f' he=>cases h3; exact⟨_,t',f',he,h5⟩
 ·cases h3
theorem walk {w:World} (h:laidMetH Tryz.prog laid w) {args:Array Value} {xs:List AV} (hl:args.size=xs.length) (hv:∀ (i:Nat) (c:AV) (u:Value),xs[i]?=some c→args[i]?=some u→VR (KW w) c u)
  (hr:∃ I n,(z0f Tryz.prog I∧z06 I)∧z4m (z04 Run.tab I n 3 xs [] 1 ⟨[],[],[]⟩)=true):Calls Tryz.prog 3 args w fun e w'=>e=.returned (.bool true)∧Below w.heap.size w w':=by
 obtain⟨I,n,hI,hr⟩:=hr
 refine zen Run.z3n hI Run.z5v (fi:=Run.f3) (by kernel_rfl) hl hv hr (fun g cs hg=>?_)
 have hg':Run.gvs g=some cs:=hg
 unfold Run.gvs at hg'
 cases hb3:Nat.beq g 4 with
 | true =>
  rw[hb3] at hg'; cases hg'
  have:=Nat.eq_of_beq_eq_true hb3
  subst this
  rw[Run.g3_eq]
  obtain⟨arr,t,f,h1,h2⟩:=space h
  exact vpNat (gs:=gsW w) (by rw[zha h1,h2])
 | false =>
  rw[hb3] at hg'; rw[cond_false] at hg'
  cases hb2:Nat.beq g 1 with
  | true =>
   rw[hb2] at hg'; cases hg'
   have:=Nat.eq_of_beq_eq_true hb2
   subst this
   rw[Run.g2_eq]
   obtain⟨arr,t,f,h1,h2⟩:=space2 h
   exact vpNat (gs:=gsW w) (by rw[zha h1,h2])
  | false =>
   rw[hb2] at hg'; rw[cond_false] at hg'
   cases hg'
theorem zfg:(Tryz.f3.params.toList.all fun t=>Tryz.prog.readableRec t && decide (t < Tryz.prog.types.size))=true:=by kernel_rfl
set_option maxRecDepth 100000 in
theorem lifted (os:Os) (started:os.Started) (H:Type) (enc:TypeId × Value→H) :
  ReturnsInHanded {} Tryz.checked os 3 .any (fun w args=>(Rows.interpDownSpec.pre enc Tryz.prog Tryz.f3 [] false w args∧laidMetH Tryz.prog laid w)∧sizedMet enc Tryz.prog Tryz.f3 (OpenSpec.ofChange Rows.interpDownSpec) false w args)
   (Rows.interpDownSpec.post enc Tryz.prog Tryz.f3 false true false false):=by
 refine returnsInHanded_of_change_and (C:=Tryz.checked) (X:=fun w _=>laidMetH Tryz.prog laid w) (fun _ _ _ hh h=>h.of_heap hh) own started (by kernel_rfl) Tryz.func3
  (ChangeSpec.witness_shaped (enc:=enc) (C:=Tryz.checked) (os:=os) (X:=fun w _=>laidMetH Tryz.prog laid w) false (World.doorLaid Tryz.prog 100 os) #[.int .i64 0,.int .i64 0] 8 rfl (World.shaped_of_RefB (door5 os) (door6 os)) (door7 os) (door8 os) (door9 os) (zka os _)) ?_
 intro W base args ds gs' before hval0 hW _ hwt hL _
 have hW':=hW
 obtain⟨p,q,hA0,hV,rfl,hfz,hnd⟩:=hW
 obtain⟨rfl,rfl⟩:=trodVars_none hV
 have hA1:DataW.TrodAll enc Tryz.prog W 0 (fun _=>true) true Tryz.f3.params.toList args.toList ds p:=hA0
 have hlt:=hA1.lt
 have hw:∀ m∈DataW.weightsEach Tryz.prog Tryz.f3.params.toList ds,m≤reachBytes:=by
  have h1:(DataW.weightsEach Tryz.prog (Tryz.f3.params.toList++Rows.interpDownSpec.plain.varTypes Tryz.prog) (ds++[])).all (·≤reachBytes)=true:=hwt
  have h2:Rows.interpDownSpec.plain.varTypes Tryz.prog=[]:=rfl
  rw[h2,List.append_nil,List.append_nil] at h1
  intro m hm
  simpa using List.all_eq_true.1 h1 m hm
 have hok:∀ (j:Nat) t v,Tryz.f3.params.toList[j]?=some t→args.toList[j]?=some v→Value.okWide Tryz.prog W .any base t v:=fun j t v h1 h2=>hval0 j t v (by simpa using h1) (by simpa using h2)
 have hA:=hA1
 rw[Tryz.params3] at hA hw hok
 have hRL:zhc enc Tryz.prog W base [3,3] [Run.IntV,Run.IntV]:=⟨Run.rd_int,⟨Run.rd_int,trivial⟩⟩
 obtain⟨xs,has,hl,hv⟩:=zam hRL hA hok hw
 have hr:∃ I n,(z0f Tryz.prog I∧z06 I)∧z4m (z04 Run.tab I n 3 xs [] 1 ⟨[],[],[]⟩)=true:=by
  match xs,has with
  | [a0,a1],⟨q0,q1,_⟩=>exact Run.down_of q0 q1
 obtain⟨v0,v1,d0,d1,p0,p1,rfl,rfl,rfl,h0,h1⟩:=trodAll_two hA
 clear hA0 hval0
 simp only[List.append_nil] at hW'
 refine(walk hL (by simpa using hl) (fun i c u h1 h2=>hv i c u h1 (by simpa using h2)) hr).mono fun e W' ⟨he,hw'⟩=>?_
 subst he
 refine⟨_,rfl,[d0,d1],[],_,[],_,[],hW',trodAll_mk1 (shut_bool Tryz.underlying4 true),z5 fact1 hw' zfg hA1 hlt,rfl,hw'.frame _,fun h=>by cases h⟩
theorem interpDown_said:Rows.InterpDownSaid :=
 OpenClaim.holds_of_wide 3 Tryz.f3 rfl rfl rfl rfl rfl rfl rfl ⟨rfl,rfl,rfl,rfl,rfl⟩ rfl rfl rfl rfl rfl (by kernel_rfl) Tryz.func3 facts
  (of_decide_eq_true (by kernel_rfl)) (by unfold Func.isWrapper; first | (rw[if_pos (by decide +kernel)]; kernel_rfl) | (rw[if_neg (by decide +kernel)]; exact⟨rfl,rfl⟩))
  (fun os started H enc _=>lifted os started H enc)
#print axioms interpDown_said
end Go.Proofs.YtheeljbogjbplaaGreatDoor
