/- Proved on the way to: coillaw10.ValueSame returns true whatever the memory, its listed package variables reading as the program's text lays them. -/
import Derived.Test.YtgoimidglekdoaaGreatDoorW0
import Derived.Test.YtgoimidglekdoaaGreatDoorW1
import Derived.Test.YtgoimidglekdoaaGreatDoorS4
import Derived.Test.YtgoimidglekdoaaGreatDoorL1
import Derived.Test.YtgoimidglekdoaaGreatDoorB6
import Derived.Test.YtgoimidglekdoaaGreatDoorRows
import Derived.KernelRfl
import Derived.Test.YtgoimidglekdoaaGreatDoorJ
import Derived.Test.YtgoimidglekdoaaGreatDoorP1
import Derived.Test.YtgoimidglekdoaaGreatDoorP2
import Derived.Test.YtgoimidglekdoaaGreatDoorP3
import Derived.Test.YtgoimidglekdoaaGreatDoorP4
import Derived.Test.YtgoimidglekdoaaGreatDoorP5
import Derived.Test.YtgoimidglekdoaaGreatDoorP6
import Derived.Test.YtgoimidglekdoaaGreatDoorP7
import Derived.ProofKit
import Derived.LaidMore
import Derived.OpenShut
import Derived.Stop.Joined
import Derived.SevenTiedAt
import Derived.Test.YtgoimidglekdoaaGreatDoorTie
import Derived.Test.YtgoimidglekdoaaGreatDoorCards
set_option autoImplicit false
set_option linter.unusedSectionVars false
set_option linter.unusedSimpArgs false
set_option linter.unusedVariables false
namespace Go.Abs.Run
open Go Go.Abs Go.Proofs
theorem intrV_ok : IntrOK Tryz.prog intrV ∧ IntrPure intrV := withR_ok tab_ok mixed intrP_ok (recsCons (oneCons rfl w0 oneNil) (recsCons (oneCons rfl w1 oneNil) recsNil))
end Go.Abs.Run

/- ValueRuns stands for itself; the law is true of all values. -/
set_option linter.unusedVariables false
namespace Go.Abs.Run
open Go Go.Abs Go.Proofs
def runsG (args : List AV) : Option AV := match args with | [] => some (.bool true) | _ :: _ => none
theorem runs_iok : IOK Tryz.prog 3 (pureI runsG) := iso_ok tab_ok intrV_ok mixed fun args v h => by
  cases args with
  | cons a l => cases h
  | nil =>
    cases h
    obtain ⟨e', he⟩ := main_true
    exact ⟨.bool _, [], e', rfl, by simp, he⟩
noncomputable def intrS : Nat → Option IntrT := addI intrV 3 (pureI runsG)
theorem intrS_ok : IntrOK Tryz.prog intrS ∧ IntrPure intrS := addI_ok intrV_ok runs_iok
theorem lSameS : LSame tab intrS := by constructor <;> rfl
theorem lEqS : LEq tab intrS := by constructor <;> rfl
theorem lSizeS : LSize tab intrS := by constructor <;> rfl
theorem lOwnS : LOwn tab intrS := by constructor <;> rfl
theorem runsS (W : List Lo) (fid : Nat) (e : E) : cal tab intrS 3 [] W fid e = .ret (.bool true) e := cal_intr rfl rfl
theorem lVSameS : LVSame tab intrS := { p4 := rfl, i4 := rfl, runs := runsS }
theorem same_run {va vb : Val} {x y : AV} (hx : Enc0 va x) (hy : Enc0 vb y) : ∃ n, isTrueR (callN tab intrS n 4 [x, y] [] 1 ⟨[], [], []⟩) = true := by
  obtain ⟨e', h⟩ := valueSame_true lVSameS lSameS lEqS lSizeS lOwnS hx hy 1 ⟨[], [], []⟩
  obtain ⟨n, hn⟩ := cal_fin h (by simp)
  exact ⟨n, by rw [hn n (Nat.le_refl n)]; rfl⟩
end Go.Abs.Run

/- What the arguments hold: values. -/
namespace Go.Abs.Run
open Go Go.Abs Go.Proofs Go.Proofs.YtgoimidglekdoaaGreatDoor
theorem cells3 : Tryz.prog.cellsOf 3 = 1 := by kernel_rfl
theorem cells9 : Tryz.prog.cellsOf 9 = 1 := by kernel_rfl
theorem cells45 : Tryz.prog.cellsOf 45 = 1 := by kernel_rfl
theorem cells47 : Tryz.prog.cellsOf 47 = 5 := by kernel_rfl
theorem bytes47 : Tryz.prog.bytesOf 47 = 64 := by kernel_rfl
def ValueV (a : AV) : Prop := ∃ v, Enc0 v a
theorem valueV_of {a : AV} (h : StructV [fun a => ∃ m, a = .int .i64 m ∧ (Lit.int .i64 m).wf = true, fun a => ∃ m, a = .int .i64 m ∧ (Lit.int .i64 m).wf = true, fun a => ∃ m, a = .int .i64 m ∧ (Lit.int .i64 m).wf = true, TextV, SliceV 5 ValueV] a) : ValueV a := by
  obtain ⟨cs, rfl, a1, r1, rfl, ⟨k, rfl, _⟩, a2, r2, rfl, ⟨c, rfl, _⟩, a3, r3, rfl, ⟨n, rfl, _⟩, a4, r4, rfl, ⟨s, rfl, hs, _⟩, a5, r5, rfl, ⟨z, xs, rfl, hz, _, hx⟩, rfl⟩ := h
  obtain ⟨ps, h1, h2⟩ := exists_all (R := Enc0) hx
  exact ⟨.mk k c n s ps, .mk h1 h2 (hz.imp id (fun h => h.2)) (Nat.le_trans hs (by decide)) (by decide)⟩
def valueQs : List (AV → Prop) := [fun a => ∃ m, a = .int .i64 m ∧ (Lit.int .i64 m).wf = true, fun a => ∃ m, a = .int .i64 m ∧ (Lit.int .i64 m).wf = true, fun a => ∃ m, a = .int .i64 m ∧ (Lit.int .i64 m).wf = true, TextV, SliceV 5 ValueV]
section
variable [Glob] {H : Type} {enc : TypeId × Value → H} {P : Program} {w : World}
theorem rdV_struct {tI tS tP tV : TypeId} {fs : Array Field} (hV : P.underlying tV = some (.struct fs)) (hfs : fs.toList.map fieldAt = [(tI, 0), (tI, 1), (tI, 2), (tS, 3), (tP, 4)]) (hI : P.underlying tI = some (.int .i64)) (hS : P.underlying tS = some .string) (hP : P.underlying tP = some (.slice tV))
    (cI : P.cellsOf tI = 1) (cS : P.cellsOf tS = 1) (cP : P.cellsOf tP = 1) (cV : P.cellsOf tV = 5) (bV : 1 ≤ P.bytesOf tV) : ∀ n, Rd enc P w tV (StructV valueQs) n := by
  intro n
  induction n with
  | zero => exact Rd.struct hV (fun m h => by omega)
  | succ n ih =>
    refine Rd.struct hV (fun m h => ?_)
    obtain rfl : m = n := by omega
    rw [cV]
    refine FsOK.consM cI (Rd.int hI) (fun fs1 => FsOK.consM cI (Rd.int hI) fun fs2 => FsOK.consM cI (Rd.int hI) fun fs3 => FsOK.consM cS (Rd.str hS) fun fs4 => FsOK.consM cP (Rd.slice hP cV (by decide) bV fun k hk => ?_) fun fs5 => FsOK.nilM) hfs
    exact ih.mono (by omega) (fun a ha => valueV_of ha)
end
section
theorem fs47 : (Tryz.prog.underlying 47).map (fun | .struct fs => fs.toList.map fieldAt | _ => []) = some [(3, 0), (3, 1), (3, 2), (9, 3), (45, 4)] := by kernel_rfl
variable [Glob] {H : Type} {enc : TypeId × Value → H} {w : World}
theorem rd_value {base : Nat} : RdA enc Tryz.prog w base 47 ValueV := by
  have h := fs47
  rw [Tryz.underlying47] at h
  simp only [Option.map_some, Option.some.injEq] at h
  exact RdA.struct Tryz.underlying47 (rdV_struct Tryz.underlying47 h Tryz.underlying3 Tryz.underlying9 Tryz.underlying45 cells3 cells9 cells45 cells47 (by rw [bytes47]; decide)) (fun _ ha => valueV_of ha)
end
end Go.Abs.Run

namespace Go.Proofs.YtgoimidglekdoaaGreatDoor
open Go Go.Abs Go.ChangeShapes Go.WideShapes Go.ChangeAt Go.RowKit

theorem own : ownKnob Tryz.prog.godebug = none := by kernel_rfl
theorem gSpace : Tryz.prog.globalNamed "strings.asciiSpace" = some 4 := by kernel_rfl

theorem laidVars_mem {P : Program} {w : World} : ∀ {l : List (String × DataW Unit)} {ps : List MemPlace}, DataW.LaidVars P w l ps → ∀ n d, (n, d) ∈ l →
    ∃ g t cs fuel p, P.globalNamed n = some g ∧ (P.globals[g]?).map (·.type) = some t ∧ w.var? P n = some cs ∧ DataW.trod (fun _ => ()) P w 0 (fun _ => true) false fuel t cs.toList = some (d, p)
  | [], _, _, _, _, hm => by cases hm
  | (n', d') :: r, ps, h, n, d, hm => by
    obtain ⟨g, t, cs, fuel, p, q, h1, h2, h3, h4, h5, _⟩ := h
    rcases List.mem_cons.1 hm with hx | hx
    · cases hx; exact ⟨g, t, cs, fuel, p, h1, h2, h3, h4⟩
    · exact laidVars_mem h5 n d hx

abbrev laid : List (String × DataW Unit) := Rows.valueSameRow.laid
theorem noHandles : (laid.filter fun x => x.2.handleName?.isSome) = [] := by kernel_rfl
theorem plain {w : World} (h : laidMetH Tryz.prog laid w) : laidMet Tryz.prog laid w := by
  unfold laidMetH at h
  rw [noHandles] at h
  exact h

theorem door_met (os : Os) (args : Array Value) : laidMetH Tryz.prog laid ((World.doorLaid Tryz.prog 78 os).forCall (fun _ _ => 0) ⟨#[], args, []⟩).memory :=
  laidMetH_of_parts3 (fuel := 8) (laidMet_of_run' 8 (door1 os args) (door2 os args)) (door3 os args) (door4 os args)

theorem tSpace : (Tryz.prog.globals[4]?).map (·.type) = some 379 := by kernel_rfl
set_option maxRecDepth 100000 in
theorem space {w : World} (h : laidMetH Tryz.prog laid w) : ∃ arr t f, w.heap[4]? = some (.cells arr t f) ∧ arr.toList = Run.n3.map fun m => .int .u8 (.ofNat m) := by
  obtain ⟨ps, hl, _, _⟩ := plain h
  obtain ⟨g, t, cs, fuel, p, h1, h2, h3, h4⟩ := laidVars_mem hl "strings.asciiSpace" Rows.laid_strings_asciiSpace (List.mem_of_getElem? (i := 6) rfl)
  obtain rfl := Option.some.inj (gSpace.symm.trans h1)
  obtain rfl := Option.some.inj (tSpace.symm.trans h2)
  have h5 := ints_of_trod (k := .u8) Run.n3 Tryz.underlying379 Tryz.underlying5 (by kernel_rfl) (by kernel_rfl) (by kernel_rfl) (show DataW.trod _ Tryz.prog w 0 _ false fuel 379 cs.toList = some (.agg (Run.n3.map fun m => .lit (.int .u8 (.ofNat m))), p) from h4)
  unfold World.var? at h3
  rw [h1] at h3
  simp only [Option.bind_some] at h3
  split at h3
  · next arr t' f' he => cases h3; exact ⟨_, t', f', he, h5⟩
  · cases h3

theorem walk {w : World} (h : laidMetH Tryz.prog laid w) {args : Array Value} {xs : List AV} (hl : args.size = xs.length) (hv : ∀ (i : Nat) (c : AV) (u : Value), xs[i]? = some c → args[i]? = some u → VR (KW w) c u)
    (hr : ∃ n, isTrueR (callN Run.tab Run.intrS n 4 xs [] 1 ⟨[], [], []⟩) = true) : Calls Tryz.prog 4 args w fun e w' => e = .returned (.bool true) ∧ Below w.heap.size w w' := by
  obtain ⟨n, hr⟩ := hr
  refine runs_trueA Run.tab_ok Run.intrS_ok Run.mixed (fi := Run.f4) (by kernel_rfl) hl hv hr (fun g cs hg => ?_)
  have hg' : Run.gvs g = some cs := hg
  unfold Run.gvs at hg'
  cases hb : Nat.beq g 4 with
  | false => rw [hb] at hg'; cases hg'
  | true =>
    rw [hb] at hg'; cases hg'
    have := Nat.eq_of_beq_eq_true hb
    subst this
    rw [Run.g3_eq]
    obtain ⟨arr, t, f, h1, h2⟩ := space h
    exact vpNat (gs := gsW w) (by rw [gsW_of h1, h2])

theorem paramsRead : (Tryz.f4.params.toList.all fun t => Tryz.prog.readableRec t && decide (t < Tryz.prog.types.size)) = true := by kernel_rfl
set_option maxRecDepth 100000 in
theorem lifted (os : Os) (started : os.Started) (H : Type) (enc : TypeId × Value → H) :
    ReturnsInHanded {} Tryz.checked os 4 .any (fun w args => (Rows.valueSameSpec.pre enc Tryz.prog Tryz.f4 [] false w args ∧ laidMetH Tryz.prog laid w) ∧ sizedMet enc Tryz.prog Tryz.f4 (OpenSpec.ofChange Rows.valueSameSpec) false w args)
      (Rows.valueSameSpec.post enc Tryz.prog Tryz.f4 false true false false) := by
  refine returnsInHanded_of_change_and (C := Tryz.checked) (X := fun w _ => laidMetH Tryz.prog laid w) (fun _ _ _ hh h => h.of_heap hh) own started (by kernel_rfl) Tryz.func4
    (ChangeSpec.witness_shaped (enc := enc) (C := Tryz.checked) (os := os) (X := fun w _ => laidMetH Tryz.prog laid w) false (World.doorLaid Tryz.prog 78 os) #[.agg #[.int .i64 0, .int .i64 0, .int .i64 0, .string .empty, .slice none 0 0], .agg #[.int .i64 0, .int .i64 0, .int .i64 0, .string .empty, .slice none 0 0]] 8 rfl (World.shaped_of_RefB (door5 os) (door6 os)) (door7 os) (door8 os) (door9 os) (door_met os _)) ?_
  intro W base args ds gs' before hval0 hW _ hwt hL _
  have hW' := hW
  obtain ⟨p, q, hA0, hV, rfl, hfz, hnd⟩ := hW
  obtain ⟨rfl, rfl⟩ := trodVars_none hV
  have hA1 : DataW.TrodAll enc Tryz.prog W 0 (fun _ => true) true Tryz.f4.params.toList args.toList ds p := hA0
  have hlt := hA1.lt
  have hw : ∀ m ∈ DataW.weightsEach Tryz.prog Tryz.f4.params.toList ds, m ≤ reachBytes := by
    have h1 : (DataW.weightsEach Tryz.prog (Tryz.f4.params.toList ++ Rows.valueSameSpec.plain.varTypes Tryz.prog) (ds ++ [])).all (· ≤ reachBytes) = true := hwt
    have h2 : Rows.valueSameSpec.plain.varTypes Tryz.prog = [] := rfl
    rw [h2, List.append_nil, List.append_nil] at h1
    intro m hm
    simpa using List.all_eq_true.1 h1 m hm
  have hok : ∀ (j : Nat) t v, Tryz.f4.params.toList[j]? = some t → args.toList[j]? = some v → Value.okWide Tryz.prog W .any base t v := fun j t v h1 h2 => hval0 j t v (by simpa using h1) (by simpa using h2)
  have hA := hA1
  rw [Tryz.params4] at hA hw hok
  have hRL : ReadsL enc Tryz.prog W base [47, 47] [Run.ValueV, Run.ValueV] := ⟨Run.rd_value, ⟨Run.rd_value, trivial⟩⟩
  obtain ⟨xs, has, hl, hv⟩ := args_read hRL hA hok hw
  have hr : ∃ n, isTrueR (callN Run.tab Run.intrS n 4 xs [] 1 ⟨[], [], []⟩) = true := by
    match xs, has with
    | [a0, a1], ⟨q0, q1, _⟩ => exact Run.same_run q0.choose_spec q1.choose_spec
  obtain ⟨v0, v1, d0, d1, p0, p1, rfl, rfl, rfl, h0, h1⟩ := trodAll_two hA
  clear hA0 hval0
  simp only [List.append_nil] at hW'
  refine (walk hL (by simpa using hl) (fun i c u h1 h2 => hv i c u h1 (by simpa using h2)) hr).mono fun e W' ⟨he, hw'⟩ => ?_
  subst he
  refine ⟨_, rfl, [d0, d1], [], _, [], _, [], hW', trodAll_mk1 (shut_bool Tryz.underlying4 true), trodAll_stays fact1 hw' paramsRead hA1 hlt, rfl, hw'.frame _, fun h => by cases h⟩

theorem valueSame_said : Rows.ValueSameSaid :=
  OpenClaim.holds_of_wide 4 Tryz.f4 rfl rfl rfl rfl rfl rfl rfl ⟨rfl, rfl, rfl, rfl, rfl⟩ rfl rfl rfl rfl rfl (by kernel_rfl) Tryz.func4 facts
    (of_decide_eq_true (by kernel_rfl)) (by unfold Func.isWrapper; first | (rw [if_pos (by decide +kernel)]; kernel_rfl) | (rw [if_neg (by decide +kernel)]; exact ⟨rfl, rfl⟩))
    (fun os started H enc _ => lifted os started H enc)
#print axioms valueSame_said
end Go.Proofs.YtgoimidglekdoaaGreatDoor

