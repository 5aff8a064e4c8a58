/- On the way to: InterpRuns returns true; its listed variables read as the text lays them. -/
import Derived.Test.YthcfbbndlkbbkaaGreatDoorE7
import Derived.Test.YthcfbbndlkbbkaaGreatDoorJ
import Derived.Test.YthcfbbndlkbbkaaGreatDoorP1
import Derived.Test.YthcfbbndlkbbkaaGreatDoorP2
import Derived.Test.YthcfbbndlkbbkaaGreatDoorP0
import Derived.Test.YthcfbbndlkbbkaaGreatDoorP4
import Derived.Test.YthcfbbndlkbbkaaGreatDoorP5
import Derived.Test.YthcfbbndlkbbkaaGreatDoorRows
import Derived.ProofKit
import Derived.LaidMore
import Derived.OpenShut
import Derived.Stop.Joined
import Derived.SevenTiedAt
namespace Go.Proofs.YthcfbbndlkbbkaaGreatDoor
open Go Go.Abs Go.ChangeShapes Go.WideShapes Go.ChangeAt Go.RowKit
theorem own : ownKnob Tryz.prog.godebug = none := by kernel_rfl
theorem gSpace : Tryz.prog.globalNamed "strings.asciiSpace" = some 4 := by kernel_rfl
theorem laidVars_mem {P : Program} {w : World} : ∀ {l : List (String × DataW Unit)} {ps : List MemPlace}, DataW.LaidVars P w l ps → ∀ n d, (n, d) ∈ l →
    ∃ g t cs fuel p, P.globalNamed n = some g ∧ (P.globals[g]?).map (·.type) = some t ∧ w.var? P n = some cs ∧ DataW.trod (fun _ => ()) P w 0 (fun _ => true) false fuel t cs.toList = some (d, p)
  | [], _, _, _, _, hm => by cases hm
  | (n', d') :: r, ps, h, n, d, hm => by
    obtain ⟨g, t, cs, fuel, p, q, h1, h2, h3, h4, h5, _⟩ := h
    rcases List.mem_cons.1 hm with hx | hx
    · cases hx; exact ⟨g, t, cs, fuel, p, h1, h2, h3, h4⟩
    · exact laidVars_mem h5 n d hx
abbrev laid : List (String × DataW Unit) := Rows.interpRunsRow.laid
theorem noHandles : (laid.filter fun x => x.2.handleName?.isSome) = [] := by kernel_rfl
theorem plain {w : World} (h : laidMetH Tryz.prog laid w) : laidMet Tryz.prog laid w := by
  unfold laidMetH at h
  rw [noHandles] at h
  exact h
theorem door_met (os : Os) (args : Array Value) : laidMetH Tryz.prog laid ((World.doorLaid Tryz.prog 100 os).forCall (fun _ _ => 0) ⟨#[], args, []⟩).memory :=
  laidMetH_of_parts3 (fuel := 8) (laidMet_of_run' 8 (door1 os args) (door2 os args)) (door3 os args) (door4 os args)
noncomputable def gs (b : Nat) : Option (List Value) := cond (Nat.beq b 4) (some (Run.n3.map fun m => .int .u8 (.ofNat m))) (cond (Nat.beq b 0) (some (Run.n2.map fun m => .int .u64 (.ofNat m))) (none))
theorem tSpace : (Tryz.prog.globals[4]?).map (·.type) = some 492 := by kernel_rfl
set_option maxRecDepth 100000 in
theorem space {w : World} (h : laidMetH Tryz.prog laid w) : ∃ arr t f, w.heap[4]? = some (.cells arr t f) ∧ arr.toList = Run.n3.map fun m => .int .u8 (.ofNat m) := by
  obtain ⟨ps, hl, _, _⟩ := plain h
  obtain ⟨g, t, cs, fuel, p, h1, h2, h3, h4⟩ := laidVars_mem hl "strings.asciiSpace" Rows.laid_strings_asciiSpace (List.mem_of_getElem? (i := 3) rfl)
  obtain rfl := Option.some.inj (gSpace.symm.trans h1)
  obtain rfl := Option.some.inj (tSpace.symm.trans h2)
  have h5 := ints_of_trod (k := .u8) Run.n3 Tryz.underlying492 Tryz.underlying5 (by kernel_rfl) (by kernel_rfl) (by kernel_rfl) (show DataW.trod _ Tryz.prog w 0 _ false fuel 492 cs.toList = some (.agg (Run.n3.map fun m => .lit (.int .u8 (.ofNat m))), p) from h4)
  unfold World.var? at h3
  rw [h1] at h3
  simp only [Option.bind_some] at h3
  split at h3
  · next arr t' f' he => cases h3; exact ⟨_, t', f', he, h5⟩
  · cases h3
theorem gV2 : Tryz.prog.globalNamed "internal/strconv.uint64pow10" = some 0 := by kernel_rfl
theorem tV2 : (Tryz.prog.globals[0]?).map (·.type) = some 419 := by kernel_rfl
set_option maxRecDepth 100000 in
theorem space2 {w : World} (h : laidMetH Tryz.prog laid w) : ∃ arr t f, w.heap[0]? = some (.cells arr t f) ∧ arr.toList = Run.n2.map fun m => .int .u64 (.ofNat m) := by
  obtain ⟨ps, hl, _, _⟩ := plain h
  obtain ⟨g, t, cs, fuel, p, h1, h2, h3, h4⟩ := laidVars_mem hl "internal/strconv.uint64pow10" Rows.laid_internal_strconv_uint64pow10 (List.mem_of_getElem? (i := 0) rfl)
  obtain rfl := Option.some.inj (gV2.symm.trans h1)
  obtain rfl := Option.some.inj (tV2.symm.trans h2)
  have h5 := ints_of_trod (k := .u64) Run.n2 Tryz.underlying419 Tryz.underlying337 (by kernel_rfl) (by kernel_rfl) (by kernel_rfl) (show DataW.trod _ Tryz.prog w 0 _ false fuel 419 cs.toList = some (.agg (Run.n2.map fun m => .lit (.int .u64 (.ofNat m))), p) from h4)
  unfold World.var? at h3
  rw [h1] at h3
  simp only [Option.bind_some] at h3
  split at h3
  · next arr t' f' he => cases h3; exact ⟨_, t', f', he, h5⟩
  · cases h3
theorem walk {w : World} (h : laidMetH Tryz.prog laid w) : Calls Tryz.prog 3 #[] w fun e w' => e = .returned (.bool true) ∧ Below w.heap.size w w' := by
  refine runs_true (gs := gs) Run.tab_ok Run.intrR_ok Run.mixed (fi := Run.f3) (by kernel_rfl) Run.run_true (fun g us hg => ?_) (fun g cs hg => ?_)
  · unfold gs at hg
    cases hb3 : Nat.beq g 4 with
    | true => rw [hb3] at hg; cases hg; rw [Nat.eq_of_beq_eq_true hb3]; exact space h
    | false =>
      rw [hb3] at hg; rw [cond_false] at hg
      cases hb2 : Nat.beq g 0 with
      | true => rw [hb2] at hg; cases hg; rw [Nat.eq_of_beq_eq_true hb2]; exact space2 h
      | false =>
        rw [hb2] at hg; rw [cond_false] at hg
        cases hg
  · have hg' : Run.gvs g = some cs := hg
    unfold Run.gvs at hg'
    cases hb3 : Nat.beq g 4 with
    | true =>
      rw [hb3] at hg'; cases hg'
      have := Nat.eq_of_beq_eq_true hb3
      subst this
      rw [Run.g3_eq]
      exact vpNat rfl
    | false =>
      rw [hb3] at hg'; rw [cond_false] at hg'
      cases hb2 : Nat.beq g 0 with
      | true =>
        rw [hb2] at hg'; cases hg'
        have := Nat.eq_of_beq_eq_true hb2
        subst this
        rw [Run.g2_eq]
        exact vpNat rfl
      | false =>
        rw [hb2] at hg'; rw [cond_false] at hg'
        cases hg'
set_option maxRecDepth 100000 in
theorem lifted (os : Os) (started : os.Started) (H : Type) (enc : TypeId × Value → H) :
    ReturnsInHanded {} Tryz.checked os 3 .any (fun w args => (Rows.interpRunsSpec.pre enc Tryz.prog Tryz.f3 [] false w args ∧ laidMetH Tryz.prog laid w) ∧ sizedMet enc Tryz.prog Tryz.f3 (OpenSpec.ofChange Rows.interpRunsSpec) false w args)
      (Rows.interpRunsSpec.post enc Tryz.prog Tryz.f3 false true false false) := by
  refine returnsInHanded_of_change_and (C := Tryz.checked) (X := fun w _ => laidMetH Tryz.prog laid w) (fun _ _ _ hh h => h.of_heap hh) own started (by kernel_rfl) Tryz.func3
    (ChangeSpec.witness_shaped (enc := enc) (C := Tryz.checked) (os := os) (X := fun w _ => laidMetH Tryz.prog laid w) false (World.doorLaid Tryz.prog 100 os) #[] 8 rfl (World.shaped_of_RefB (door5 os) (door6 os)) (door7 os) (door8 os) (door9 os) (door_met os _)) ?_
  intro W base args ds gs' before hval0 hW _ _ hL _
  have hW' := hW
  obtain ⟨p, q, hA0, hV, rfl, hfz, hnd⟩ := hW
  have hA : DataW.TrodAll enc Tryz.prog W 0 (fun _ => true) true Tryz.f3.params.toList args.toList ds p := hA0
  rw [Tryz.params3] at hA
  obtain ⟨ha, rfl, rfl⟩ := trodAll_nil hA
  obtain ⟨rfl, rfl⟩ := trodVars_none hV
  obtain rfl : args = #[] := by simpa using ha
  clear hA0 hval0
  simp only [List.append_nil] at hW'
  refine (walk hL).mono fun e W' ⟨he, hw⟩ => ?_
  subst he
  refine ⟨_, rfl, [], [], [], [], [], [], hW', trodAll_mk1 (shut_bool Tryz.underlying4 true), rfl, rfl, hw.frame _, fun h => by cases h⟩
theorem interpRuns_said : Rows.InterpRunsSaid :=
  OpenClaim.holds_of_wide 3 Tryz.f3 rfl rfl rfl rfl rfl rfl rfl ⟨rfl, rfl, rfl, rfl, rfl⟩ rfl rfl rfl rfl rfl (by kernel_rfl) Tryz.func3 facts
    (of_decide_eq_true (by kernel_rfl)) (by unfold Func.isWrapper; first | (rw [if_pos (by decide +kernel)]; kernel_rfl) | (rw [if_neg (by decide +kernel)]; exact ⟨rfl, rfl⟩))
    (fun os started H enc _ => lifted os started H enc)
#print axioms interpRuns_said
end Go.Proofs.YthcfbbndlkbbkaaGreatDoor
