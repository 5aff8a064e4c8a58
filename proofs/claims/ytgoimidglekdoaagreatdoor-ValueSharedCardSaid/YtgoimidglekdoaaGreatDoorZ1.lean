/- Proved on the way to: ValueShared returns true whatever the memory, its listed package variables reading as the program's text lays them. -/
import Derived.Test.YtgoimidglekdoaaGreatDoorW0
import Derived.Test.YtgoimidglekdoaaGreatDoorW1
import Derived.Test.YtgoimidglekdoaaGreatDoorS4
import Derived.Test.YtgoimidglekdoaaGreatDoorY1
import Derived.Test.YtgoimidglekdoaaGreatDoorB6
import Derived.Test.YtgoimidglekdoaaGreatDoorRows
import Derived.KernelRfl
import Derived.Test.YtgoimidglekdoaaGreatDoorJ
import Derived.Test.YtgoimidglekdoaaGreatDoorP1
import Derived.Test.YtgoimidglekdoaaGreatDoorP2
import Derived.Test.YtgoimidglekdoaaGreatDoorP3
import Derived.Test.YtgoimidglekdoaaGreatDoorP4
import Derived.Test.YtgoimidglekdoaaGreatDoorP5
import Derived.Test.YtgoimidglekdoaaGreatDoorP6
import Derived.Test.YtgoimidglekdoaaGreatDoorP7
import Derived.ProofKit
import Derived.LaidMore
import Derived.OpenShut
import Derived.Stop.Joined
import Derived.SevenTiedAt
import Derived.Test.YtgoimidglekdoaaGreatDoorTie
import Derived.Test.YtgoimidglekdoaaGreatDoorCards
set_option autoImplicit false
set_option linter.unusedSectionVars false
set_option linter.unusedSimpArgs false
set_option linter.unusedVariables false
namespace Go.Abs.Run
open Go Go.Abs Go.Proofs
theorem intrV_ok : IntrOK Tryz.prog intrV ∧ IntrPure intrV := withR_ok tab_ok mixed intrP_ok (recsCons (oneCons rfl w0 oneNil) (recsCons (oneCons rfl w1 oneNil) recsNil))
end Go.Abs.Run
namespace Go.Abs.Run
open Go Go.Abs Go.Proofs
attribute [local simp] oM oN oF oE oQ oP oG oL oR oC oX oS oY vi vj vu vz ci cu eI eS eB
attribute [local simp] s0 t0 s1 t1 s2 t2 s3 t3 s4 t4 s5 t5 s6 t6 s7 t7 s8 t8 s9 t9 s10 t10 s11 t11 s12 t12 s13 t13 s14 t14 s15 t15 s16 t16 s17 t17 s18 t18 s19 t19 s20 t20 s21 t21 s22 t22 s23 t23 s24 t24 s25 t25 s26 t26 s27 t27 s28 t28 s29 t29 s42 t42 s43 t43
theorem runs_iok : IOK Tryz.prog 3 (pureI runsG) := iso_ok tab_ok intrV_ok mixed fun args v h => by
  cases args with
  | cons a l => cases h
  | nil =>
    cases h
    obtain ⟨e', he⟩ := main_true
    exact ⟨.bool _, [], e', rfl, by simp, he⟩
theorem intrS_ok : IntrOK Tryz.prog intrS ∧ IntrPure intrS := addL_ok tab_ok mixed (addL_ok tab_ok mixed (addI_ok intrSr_ok runs_iok) right_ok) told_ok2
theorem tmod10 (n : Int) : -10 < n.tmod 10 ∧ n.tmod 10 < 10 := by
  have h1 := Int.tmod_lt_of_pos n (show (0 : Int) < 10 by decide)
  have h2 := Int.lt_tmod_of_pos n (show (0 : Int) < 10 by decide)
  omega
theorem within_law (n : Int) : ∃ m : Nat, m ≤ 9 ∧ ∀ W fid e, cal tab intrS 20 [.int .i64 n, .int .i64 0, .int .i64 9] W fid e = .ret (.int .i64 (m : Int)) e := by
  obtain ⟨h1, h2⟩ := tmod10 n
  have w1 : IntKind.i64.wrap 9 = 9 := wrap_i64 (by decide) (by decide)
  have w2 : IntKind.i64.wrap 10 = 10 := wrap_i64 (by decide) (by decide)
  by_cases hn : n.tmod 10 < 0
  · refine ⟨(n.tmod 10 + 10).toNat, by omega, fun W fid e => ?_⟩
    have h3 : (((n.tmod 10 + 10).toNat : Nat) : Int) = n.tmod 10 + 10 := by omega
    have w3 : IntKind.i64.wrap (n.tmod 10 + 9) = n.tmod 10 + 9 := wrap_i64 (by omega) (by omega)
    have w4 : IntKind.i64.wrap (n.tmod 10 + 9 + 1) = n.tmod 10 + 10 := (wrap_i64 (by omega) (by omega)).trans (by omega)
    have w5 : IntKind.i64.wrap (n.tmod 10 + 10) = n.tmod 10 + 10 := wrap_i64 (by omega) (by omega)
    rw [h3]
    refine cal_wp (Q := fun r => r = .ret (.int .i64 (n.tmod 10 + 10)) e) rfl (show tab 20 = some f20 from rfl) rfl (by simp) ?_
    simp [f20, hn, w1, w2, w3, w4, w5]; simp [Wp]
  · refine ⟨(n.tmod 10).toNat, by omega, fun W fid e => ?_⟩
    have h3 : (((n.tmod 10).toNat : Nat) : Int) = n.tmod 10 := by omega
    have w5 : IntKind.i64.wrap (n.tmod 10) = n.tmod 10 := wrap_i64 (by omega) (by omega)
    rw [h3]
    refine cal_wp (Q := fun r => r = .ret (.int .i64 (n.tmod 10)) e) rfl (show tab 20 = some f20 from rfl) rfl (by simp) ?_
    simp [f20, hn, w1, w2, w5]; simp [Wp]
theorem codeS : f5.code = catA (preS ++ wS0 :: lBS) (.seq (.seq r0S (.blk 0 (.loop b5x0))) postS) := by kernel_rfl
theorem catS : catA (preS ++ wS0 :: lBS) r0S = catA preS (.seq wS0 (catA lBS r0S)) := by kernel_rfl
theorem bindG (r : R) : R.bind (fun fr e => .go fr e) r = r := by cases r <;> rfl
theorem splitS (call : CallT) (fr : Fr) (e : E) : runW call 1 [] f5.code fr e = R.bind (fun fr e => R.bind (runW call 1 [] postS) (R.leave 0 (lp (runW call 1 [] b5x0) fr e))) (R.bind (runW call 1 [] (catA lBS r0S)) (R.bind (runW call 1 [] wS0) (runW call 1 [] (catA preS .skip) fr e))) := by
  rw [codeS, split_loop, catS, catA_run, catA_run]
  generalize runL call 1 [] preS fr e = X
  rw [show R.bind (runW call 1 [] .skip) X = X from bindG X]
  congr 1
  cases X <;> rfl
theorem goArg_sound {r : R} {v : AV} (h : goArg r = some v) : ∃ s cnt e, r = .go ⟨s, cnt⟩ e ∧ room cnt = true ∧ s.get s0 = v := by
  unfold goArg at h
  split at h
  · next s cnt e => obtain ⟨h1, h2⟩ := cond_some h; cases h2; exact ⟨s, cnt, e, rfl, h1, rfl⟩
  · cases h
theorem shared_run (n : Int) : ∃ N, isTrueR (callN tab intrS N 5 [.int .i64 n] [] 1 ⟨[], [], []⟩) = true := by
  obtain ⟨m, hm, hw⟩ := within_law n
  obtain ⟨s, cnt, e, hp, hroom, hs⟩ := goArg_sound (pre_go n)
  have hp' := goW hp (by simp)
  have hwr : runW (cal tab intrS) 1 [] wS0 ⟨s, cnt⟩ e = .go (sized n m ⟨s, cnt⟩) e := by
    have hs' : s.get .e = .int .i64 n := hs
    simp [wS0, Tm.get_set, hs', hw, hroom, sized, after]
  have hB : run (callN tab intrS 2000) 2000 1 [] (catA lBS r0S) (sized n m ⟨s, cnt⟩) e = .go ⟨frS n m, 5⟩ (EVS 0) := by
    have h := preB_go n m
    unfold preBR at h
    rw [hp] at h
    exact h
  have hB' := goW hB (by simp)
  have hL := loopS (call := cal tab intrS) (c := 5) n hm
  obtain ⟨fr, e2, h2, h3⟩ : ∃ fr e2, runW (cal tab intrS) 1 [] postS ⟨frE n m, 5⟩ (EVS m) = .ret fr e2 ∧ fr.s.get s2 = .bool true := by
    have key : retTrue s2 (run (callN tab intrS 2000) 2000 1 [] postS ⟨frE n m, 5⟩ (EVS m)) = true := by
      match m, hm with
      | 0, _ => exact size0 n
      | 1, _ => exact size1 n
      | 2, _ => exact size2 n
      | 3, _ => exact size3 n
      | 4, _ => exact size4 n
      | 5, _ => exact size5 n
      | 6, _ => exact size6 n
      | 7, _ => exact size7 n
      | 8, _ => exact size8 n
      | 9, _ => exact size9 n
    obtain ⟨fr, e2, h2, h3⟩ := retTrue_sound key
    exact ⟨fr, e2, goW h2 (by simp), h3⟩
  have h4 : runW (cal tab intrS) 1 [] f5.code ⟨params [.int .i64 n] 0 .nil, 0⟩ ⟨[⟨1, List.replicate 1 (0, .none, .none), []⟩], [], []⟩ = .ret fr e2 := by
    rw [splitS, hp', show R.bind (runW (cal tab intrS) 1 [] wS0) (.go ⟨s, cnt⟩ e) = runW (cal tab intrS) 1 [] wS0 ⟨s, cnt⟩ e from rfl, hwr]
    show R.bind _ (runW (cal tab intrS) 1 [] (catA lBS r0S) (sized n m ⟨s, cnt⟩) e) = _
    rw [hB']
    show R.bind _ (R.leave 0 (lp _ _ _)) = _
    rw [hL]
    exact h2
  have h5 : cal tab intrS 5 [.int .i64 n] [] 1 ⟨[], [], []⟩ = .ret (.bool true) (pop (upAll [.bool true] e2)) := by
    refine cal_of rfl (show tab 5 = some f5 from rfl) rfl (by simp) ?_
    show bodyR f5 1 (runW (cal tab intrS) 1 [] f5.code ⟨params [.int .i64 n] 0 .nil, 0⟩ ⟨[⟨1, List.replicate 1 (0, .none, .none), []⟩], [], []⟩) = _
    rw [h4]
    show Abs.finR (resAll 1 fr.s [.t s2] e2) = _
    simp only [resAll, resOf, h3]
    rfl
  obtain ⟨N, hN⟩ := cal_fin h5 (by simp)
  exact ⟨N, by rw [hN N (Nat.le_refl N)]; rfl⟩
end Go.Abs.Run
namespace Go.Abs.Run
open Go Go.Abs Go.Proofs Go.Proofs.YtgoimidglekdoaaGreatDoor
def IntV (a : AV) : Prop := ∃ n, a = .int .i64 n
section
variable [Glob] {H : Type} {enc : TypeId × Value → H} {w : World}
theorem rda_imp {base : Nat} {P : Program} {t : TypeId} {Q Q' : AV → Prop} (h : RdA enc P w base t Q) (hQ : ∀ a, Q a → Q' a) : RdA enc P w base t Q' := fun v d ps h1 h2 h3 => by
  obtain ⟨a, h4, h5⟩ := h v d ps h1 h2 h3
  exact ⟨a, hQ a h4, h5⟩
theorem rd_int {base : Nat} : RdA enc Tryz.prog w base 3 IntV := rda_imp (RdA.int Tryz.underlying3) (fun a h => h.imp fun _ h => h.1)
end
theorem shared_of {a : AV} (h : IntV a) : ∃ N, isTrueR (callN tab intrS N 5 [a] [] 1 ⟨[], [], []⟩) = true := by
  obtain ⟨n, rfl⟩ := h
  exact shared_run n
end Go.Abs.Run
namespace Go.Proofs.YtgoimidglekdoaaGreatDoor
open Go Go.Abs Go.ChangeShapes Go.WideShapes Go.ChangeAt Go.RowKit
theorem own : ownKnob Tryz.prog.godebug = none := by kernel_rfl
theorem gSpace : Tryz.prog.globalNamed "strings.asciiSpace" = some 4 := by kernel_rfl
theorem laidVars_mem {P : Program} {w : World} : ∀ {l : List (String × DataW Unit)} {ps : List MemPlace}, DataW.LaidVars P w l ps → ∀ n d, (n, d) ∈ l →
    ∃ g t cs fuel p, P.globalNamed n = some g ∧ (P.globals[g]?).map (·.type) = some t ∧ w.var? P n = some cs ∧ DataW.trod (fun _ => ()) P w 0 (fun _ => true) false fuel t cs.toList = some (d, p)
  | [], _, _, _, _, hm => by cases hm
  | (n', d') :: r, ps, h, n, d, hm => by
    obtain ⟨g, t, cs, fuel, p, q, h1, h2, h3, h4, h5, _⟩ := h
    rcases List.mem_cons.1 hm with hx | hx
    · cases hx; exact ⟨g, t, cs, fuel, p, h1, h2, h3, h4⟩
    · exact laidVars_mem h5 n d hx
abbrev laid : List (String × DataW Unit) := Rows.valueSharedRow.laid
theorem noHandles : (laid.filter fun x => x.2.handleName?.isSome) = [] := by kernel_rfl
theorem plain {w : World} (h : laidMetH Tryz.prog laid w) : laidMet Tryz.prog laid w := by
  unfold laidMetH at h
  rw [noHandles] at h
  exact h
theorem door_met (os : Os) (args : Array Value) : laidMetH Tryz.prog laid ((World.doorLaid Tryz.prog 78 os).forCall (fun _ _ => 0) ⟨#[], args, []⟩).memory :=
  laidMetH_of_parts3 (fuel := 8) (laidMet_of_run' 8 (door1 os args) (door2 os args)) (door3 os args) (door4 os args)
theorem tSpace : (Tryz.prog.globals[4]?).map (·.type) = some 379 := by kernel_rfl
set_option maxRecDepth 100000 in
theorem space {w : World} (h : laidMetH Tryz.prog laid w) : ∃ arr t f, w.heap[4]? = some (.cells arr t f) ∧ arr.toList = Run.n3.map fun m => .int .u8 (.ofNat m) := by
  obtain ⟨ps, hl, _, _⟩ := plain h
  obtain ⟨g, t, cs, fuel, p, h1, h2, h3, h4⟩ := laidVars_mem hl "strings.asciiSpace" Rows.laid_strings_asciiSpace (List.mem_of_getElem? (i := 6) rfl)
  obtain rfl := Option.some.inj (gSpace.symm.trans h1)
  obtain rfl := Option.some.inj (tSpace.symm.trans h2)
  have h5 := ints_of_trod (k := .u8) Run.n3 Tryz.underlying379 Tryz.underlying5 (by kernel_rfl) (by kernel_rfl) (by kernel_rfl) (show DataW.trod _ Tryz.prog w 0 _ false fuel 379 cs.toList = some (.agg (Run.n3.map fun m => .lit (.int .u8 (.ofNat m))), p) from h4)
  unfold World.var? at h3
  rw [h1] at h3
  simp only [Option.bind_some] at h3
  split at h3
  · next arr t' f' he => cases h3; exact ⟨_, t', f', he, h5⟩
  · cases h3
theorem walk {w : World} (h : laidMetH Tryz.prog laid w) {args : Array Value} {xs : List AV} (hl : args.size = xs.length) (hv : ∀ (i : Nat) (c : AV) (u : Value), xs[i]? = some c → args[i]? = some u → VR (KW w) c u)
    (hr : ∃ n, isTrueR (callN Run.tab Run.intrS n 5 xs [] 1 ⟨[], [], []⟩) = true) : Calls Tryz.prog 5 args w fun e w' => e = .returned (.bool true) ∧ Below w.heap.size w w' := by
  obtain ⟨n, hr⟩ := hr
  refine runs_trueA Run.tab_ok Run.intrS_ok Run.mixed (fi := Run.f5) (by kernel_rfl) hl hv hr (fun g cs hg => ?_)
  have hg' : Run.gvs g = some cs := hg
  unfold Run.gvs at hg'
  cases hb : Nat.beq g 4 with
  | false => rw [hb] at hg'; cases hg'
  | true =>
    rw [hb] at hg'; cases hg'
    have := Nat.eq_of_beq_eq_true hb
    subst this
    rw [Run.g3_eq]
    obtain ⟨arr, t, f, h1, h2⟩ := space h
    exact vpNat (gs := gsW w) (by rw [gsW_of h1, h2])
theorem paramsRead : (Tryz.f5.params.toList.all fun t => Tryz.prog.readableRec t && decide (t < Tryz.prog.types.size)) = true := by kernel_rfl
set_option maxRecDepth 100000 in
theorem lifted (os : Os) (started : os.Started) (H : Type) (enc : TypeId × Value → H) :
    ReturnsInHanded {} Tryz.checked os 5 .any (fun w args => (Rows.valueSharedSpec.pre enc Tryz.prog Tryz.f5 [] false w args ∧ laidMetH Tryz.prog laid w) ∧ sizedMet enc Tryz.prog Tryz.f5 (OpenSpec.ofChange Rows.valueSharedSpec) false w args)
      (Rows.valueSharedSpec.post enc Tryz.prog Tryz.f5 false true false false) := by
  refine returnsInHanded_of_change_and (C := Tryz.checked) (X := fun w _ => laidMetH Tryz.prog laid w) (fun _ _ _ hh h => h.of_heap hh) own started (by kernel_rfl) Tryz.func5
    (ChangeSpec.witness_shaped (enc := enc) (C := Tryz.checked) (os := os) (X := fun w _ => laidMetH Tryz.prog laid w) false (World.doorLaid Tryz.prog 78 os) #[.int .i64 0] 8 rfl (World.shaped_of_RefB (door5 os) (door6 os)) (door7 os) (door8 os) (door9 os) (door_met os _)) ?_
  intro W base args ds gs' before hval0 hW _ hwt hL _
  have hW' := hW
  obtain ⟨p, q, hA0, hV, rfl, hfz, hnd⟩ := hW
  obtain ⟨rfl, rfl⟩ := trodVars_none hV
  have hA1 : DataW.TrodAll enc Tryz.prog W 0 (fun _ => true) true Tryz.f5.params.toList args.toList ds p := hA0
  have hlt := hA1.lt
  have hw : ∀ m ∈ DataW.weightsEach Tryz.prog Tryz.f5.params.toList ds, m ≤ reachBytes := by
    have h1 : (DataW.weightsEach Tryz.prog (Tryz.f5.params.toList ++ Rows.valueSharedSpec.plain.varTypes Tryz.prog) (ds ++ [])).all (· ≤ reachBytes) = true := hwt
    have h2 : Rows.valueSharedSpec.plain.varTypes Tryz.prog = [] := rfl
    rw [h2, List.append_nil, List.append_nil] at h1
    intro m hm
    simpa using List.all_eq_true.1 h1 m hm
  have hok : ∀ (j : Nat) t v, Tryz.f5.params.toList[j]? = some t → args.toList[j]? = some v → Value.okWide Tryz.prog W .any base t v := fun j t v h1 h2 => hval0 j t v (by simpa using h1) (by simpa using h2)
  have hA := hA1
  rw [Tryz.params5] at hA hw hok
  have hRL : ReadsL enc Tryz.prog W base [3] [Run.IntV] := ⟨Run.rd_int, trivial⟩
  obtain ⟨xs, has, hl, hv⟩ := args_read hRL hA hok hw
  have hr : ∃ n, isTrueR (callN Run.tab Run.intrS n 5 xs [] 1 ⟨[], [], []⟩) = true := by
    match xs, has with
    | [a0], ⟨q0, _⟩ => exact Run.shared_of q0
  obtain ⟨v0, d0, rfl, rfl, h0⟩ := trodAll_one hA
  clear hA0 hval0
  simp only [List.append_nil] at hW'
  refine (walk hL (by simpa using hl) (fun i c u h1 h2 => hv i c u h1 (by simpa using h2)) hr).mono fun e W' ⟨he, hw'⟩ => ?_
  subst he
  refine ⟨_, rfl, [d0], [], _, [], _, [], hW', trodAll_mk1 (shut_bool Tryz.underlying4 true), trodAll_stays fact1 hw' paramsRead hA1 hlt, rfl, hw'.frame _, fun h => by cases h⟩
theorem valueShared_said : Rows.ValueSharedSaid :=
  OpenClaim.holds_of_wide 5 Tryz.f5 rfl rfl rfl rfl rfl rfl rfl ⟨rfl, rfl, rfl, rfl, rfl⟩ rfl rfl rfl rfl rfl (by kernel_rfl) Tryz.func5 facts
    (of_decide_eq_true (by kernel_rfl)) (by unfold Func.isWrapper; first | (rw [if_pos (by decide +kernel)]; kernel_rfl) | (rw [if_neg (by decide +kernel)]; exact ⟨rfl, rfl⟩))
    (fun os started H enc _ => lifted os started H enc)
#print axioms valueShared_said
end Go.Proofs.YtgoimidglekdoaaGreatDoor
