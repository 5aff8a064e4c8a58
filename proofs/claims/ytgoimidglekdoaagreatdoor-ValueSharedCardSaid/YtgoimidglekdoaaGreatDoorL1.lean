/- Proved on the way to: ValueShared returns true whatever the memory, its listed package variables reading as the program's text lays them. -/
import Derived.Test.YtgoimidglekdoaaGreatDoorC1
import Derived.Test.YtgoimidglekdoaaGreatDoorC2
import Derived.Test.YtgoimidglekdoaaGreatDoorB5
import Derived.Test.YtgoimidglekdoaaGreatDoorB4
set_option autoImplicit false
set_option linter.unusedSectionVars false
set_option linter.unusedSimpArgs false
set_option linter.unusedVariables false
namespace Go.Abs.Run
open Go Go.Abs
attribute [local simp] oM oN oF oE oQ oP oG oL oR oC oX oS oY vi vj vu vz ci cu eI eS eB
attribute [local simp] s0 t0 s1 t1 s2 t2 s3 t3 s4 t4 s5 t5 s6 t6 s7 t7 s8 t8 s9 t9 s10 t10 s11 t11 s12 t12 s13 t13 s14 t14 s15 t15 s16 t16 s17 t17 s18 t18 s19 t19 s20 t20 s21 t21 s22 t22 s23 t23 s24 t24 s25 t25 s26 t26 s27 t27 s28 t28 s29 t29 s30 t30 s31 t31 s32 t32 s33 t33 s34 t34 s35 t35 s36 t36 s37 t37 s38 t38 s39 t39 s40 t40 s41 t41 s42 t42 s43 t43 s44 t44 s45 t45 s46 t46 s47 t47 s48 t48 s49 t49 s50 t50 s51 t51 s52 t52 s53 t53 s54 t54 s55 t55 s56 t56 s57 t57 s58 t58 s59 t59
variable {P : Nat → Option FI} {I : Nat → Option IntrT}
structure LBuilder (P : Nat → Option FI) (I : Nat → Option IntrT) : Prop where
  iNE : I 260 = some iNo
  p103 : P 103 = some f103
  i103 : I 103 = none
  p160 : P 160 = some f160
  i160 : I 160 = none
  p162 : P 162 = some f162
  i162 : I 162 = none
  p163 : P 163 = some f163
  i163 : I 163 = none
  p216 : P 216 = some f216
  i216 : I 216 = none
theorem len_law (L : LBuilder P I) {W : List Lo} {fid : Nat} {e : E} {l : Lo} {t : Nat} {a : AV} {k z : Nat} {b : List AV}
   (hl : e.get l = .cells t [a, .sl k z b]) (hf : lof l fid = false) :
   cal P I 163 [.ptr l 0] W fid e = .ret (.int .i64 b.length) e := by
  refine cal_of L.i163 L.p163 rfl (by simp) ?_
  simp [f163, get_psh, hf, hl]
theorem check_nil (L : LBuilder P I) {W : List Lo} {fid : Nat} {e : E} {l : Lo} {x : AV}
   (hl : e.get l = .cells 203 [.nilp, x]) (hf : lof l fid = false) (hW : free W l = true) :
   cal P I 216 [.ptr l 0] W fid e = .ret (.tup []) (e.set l (.cells 203 [.ptr l 0, x])) := by
  refine cal_of L.i216 L.p216 rfl (by simp) ?_
  have hNE : ∀ fid e, cal P I 260 [.ptr l 0] W fid e = .ret (.ptr l 0) e := fun fid e => cal_intr L.iNE rfl
  simp [f216, get_psh, set_psh, hf, hl, hNE, hW, cvuA, cvuO, cvpA, cvpO, okIn, room]
theorem check_ptr (L : LBuilder P I) {W : List Lo} {fid : Nat} {e : E} {l : Lo} {x : AV}
   (hl : e.get l = .cells 203 [.ptr l 0, x]) (hf : lof l fid = false) :
   cal P I 216 [.ptr l 0] W fid e = .ret (.tup []) e := by
  refine cal_of L.i216 L.p216 rfl (by simp) ?_
  simp [f216, get_psh, hf, hl]
def Tkt (e : E) (k z : Nat) (b : List AV) : Prop := (k = 1 ∧ z = 0 ∧ b = []) ∨ (z = 1 ∧ k % 2 = 1 ∧ 2 ≤ k ∧ e.live k = true)
theorem writeByte_ptr (L : LBuilder P I) {W : List Lo} {fid : Nat} {e : E} {l : Lo} {b : List AV} {c k z : Nat}
   (h1 : e.get l = .cells 203 [.ptr l 0, .sl k z b]) (h3 : Tkt e k z b) (hb : b.length + 1 < big) (hf : Out l fid) (hW : free W l = true) :
   cal P I 162 [.ptr l 0, .int .u8 c] W fid e = .ret .nili ((grow e k (fresh fid 1) l).set l (.cells 203 [.ptr l 0, .sl (fresh fid 1) 1 (b ++ [.int .u8 c])])) := by
  have hcc : ∀ W f x y, lof l f = false → cal P I 216 [.ptr l 0] W f (psh ⟨fid, x, y⟩ e) = .ret (.tup []) (psh ⟨fid, x, y⟩ e) := fun W f x y hf' => check_ptr L (x := .sl k z b) (by rw [get_psh (by simpa using hf.lof)]; exact h1) hf'
  refine cal_of L.i162 L.p162 rfl (by simp) ?_
  rcases h3 with ⟨rfl, rfl, rfl⟩ | ⟨rfl, h4, h5, h6⟩
  · simp [f162, get_psh, set_psh, bear_psh, hf.lof, (hf.child 0 (by decide)).lof, h1, hW, hcc, elems, elemsL, appE, appV, appSl, is8, ticket, ticketC, tick, room, grow, (by decide : 1 < big)]
  · have h7 : k ≠ 1 := by omega
    simp [f162, get_psh, set_psh, bear_psh, hf.lof, (hf.child 0 (by decide)).lof, h1, hW, hcc, elems, elemsL, appE, appV, appSl, is8, ticket, ticketC, tick, room, grow, hb, h4, h5, h6, h7]
theorem writeByte_nil (L : LBuilder P I) {W : List Lo} {fid : Nat} {e : E} {l : Lo} {c : Nat}
   (h1 : e.get l = .cells 203 [.nilp, .sl 1 0 []]) (hf : Out l fid) (hW : free W l = true) :
   cal P I 162 [.ptr l 0, .int .u8 c] W fid e = .ret .nili ((grow (e.set l (.cells 203 [.ptr l 0, .sl 1 0 []])) 1 (fresh fid 1) l).set l (.cells 203 [.ptr l 0, .sl (fresh fid 1) 1 [.int .u8 c]])) := by
  have hcc : ∀ W f x y, lof l f = false → free W l = true → cal P I 216 [.ptr l 0] W f (psh ⟨fid, x, y⟩ e) = .ret (.tup []) (psh ⟨fid, x, y⟩ (e.set l (.cells 203 [.ptr l 0, .sl 1 0 []]))) := fun W f x y hf' hW' => by
    rw [check_nil L (x := .sl 1 0 []) (by rw [get_psh (by simpa using hf.lof)]; exact h1) hf' hW', set_psh (by simpa using hf.lof)]
  have h2 : (e.set l (.cells 203 [.ptr l 0, .sl 1 0 []])).get l = .cells 203 [.ptr l 0, .sl 1 0 []] := E.get_set_same _ _ _ (by rw [h1]; simp)
  refine cal_of L.i162 L.p162 rfl (by simp) ?_
  simp [f162, get_psh, set_psh, bear_psh, hf.lof, (hf.child 0 (by decide)).lof, h2, hW, hcc, elems, elemsL, appE, appV, appSl, is8, ticket, ticketC, tick, room, grow, (by decide : 1 < big)]
theorem writeString_ptr (L : LBuilder P I) {W : List Lo} {fid : Nat} {e : E} {l : Lo} {b : List AV} {c : List Nat} {k z : Nat}
   (h1 : e.get l = .cells 203 [.ptr l 0, .sl k z b]) (h3 : Tkt e k z b) (hc : c ≠ []) (hb : b.length + c.length < big) (hf : Out l fid) (hW : free W l = true) :
   cal P I 160 [.ptr l 0, .str c] W fid e = .ret (.tup [.int .i64 c.length, .nili]) ((grow e k (fresh fid 1) l).set l (.cells 203 [.ptr l 0, .sl (fresh fid 1) 1 (b ++ byteVs c)])) := by
  have hcc : ∀ W f x y, lof l f = false → cal P I 216 [.ptr l 0] W f (psh ⟨fid, x, y⟩ e) = .ret (.tup []) (psh ⟨fid, x, y⟩ e) := fun W f x y hf' => check_ptr L (x := .sl k z b) (by rw [get_psh (by simpa using hf.lof)]; exact h1) hf'
  have hlen : ∀ c, (byteVs c).length = c.length := fun c => by induction c with | nil => rfl | cons a c ih => simp [byteVs, ih]
  have hne : (byteVs c).isEmpty = false := by cases c with | nil => exact absurd rfl hc | cons a c => rfl
  refine cal_of L.i160 L.p160 rfl (by simp) ?_
  rcases h3 with ⟨rfl, rfl, rfl⟩ | ⟨rfl, h4, h5, h6⟩
  · have hb' : c.length < big := by simpa using hb
    simp [f160, get_psh, set_psh, bear_psh, hf.lof, (hf.child 0 (by decide)).lof, h1, hW, hcc, elems, elemsL, appE, appV, appSl, is8, ticket, ticketC, tick, room, grow, hb', hlen, hne]
  · have h7 : k ≠ 1 := by omega
    simp [f160, get_psh, set_psh, bear_psh, hf.lof, (hf.child 0 (by decide)).lof, h1, hW, hcc, elems, elemsL, appE, appV, appSl, is8, ticket, ticketC, tick, room, grow, hb, h4, h5, h6, h7, hlen, hne]
theorem writeString_nil (L : LBuilder P I) {W : List Lo} {fid : Nat} {e : E} {l : Lo} {c : List Nat}
   (h1 : e.get l = .cells 203 [.nilp, .sl 1 0 []]) (hc : c ≠ []) (hb : c.length < big) (hf : Out l fid) (hW : free W l = true) :
   cal P I 160 [.ptr l 0, .str c] W fid e = .ret (.tup [.int .i64 c.length, .nili]) ((grow (e.set l (.cells 203 [.ptr l 0, .sl 1 0 []])) 1 (fresh fid 1) l).set l (.cells 203 [.ptr l 0, .sl (fresh fid 1) 1 (byteVs c)])) := by
  have hcc : ∀ W f x y, lof l f = false → free W l = true → cal P I 216 [.ptr l 0] W f (psh ⟨fid, x, y⟩ e) = .ret (.tup []) (psh ⟨fid, x, y⟩ (e.set l (.cells 203 [.ptr l 0, .sl 1 0 []]))) := fun W f x y hf' hW' => by
    rw [check_nil L (x := .sl 1 0 []) (by rw [get_psh (by simpa using hf.lof)]; exact h1) hf' hW', set_psh (by simpa using hf.lof)]
  have h2 : (e.set l (.cells 203 [.ptr l 0, .sl 1 0 []])).get l = .cells 203 [.ptr l 0, .sl 1 0 []] := E.get_set_same _ _ _ (by rw [h1]; simp)
  have hlen : ∀ c, (byteVs c).length = c.length := fun c => by induction c with | nil => rfl | cons a c ih => simp [byteVs, ih]
  have hne : (byteVs c).isEmpty = false := by cases c with | nil => exact absurd rfl hc | cons a c => rfl
  refine cal_of L.i160 L.p160 rfl (by simp) ?_
  simp [f160, get_psh, set_psh, bear_psh, hf.lof, (hf.child 0 (by decide)).lof, h2, hW, hcc, elems, elemsL, appE, appV, appSl, is8, ticket, ticketC, tick, room, grow, hb, hlen, hne]
theorem bytesOf_byteVs : ∀ {c : List Nat}, (∀ x ∈ c, x < 256) → bytesOf (byteVs c) = some c
  | [], _ => rfl
  | a :: c, h => by
    have := bytesOf_byteVs (c := c) (fun x hx => h x (List.mem_cons_of_mem _ hx))
    have ha := h a (List.mem_cons_self ..)
    simp [byteVs, bytesOf, this, byteV, consV, consB, ha]
theorem string_law (L : LBuilder P I) {W : List Lo} {fid t : Nat} {e : E} {l : Lo} {a : AV} {k z : Nat} {c : List Nat}
   (h1 : e.get l = .cells t [a, .sl k z (byteVs c)]) (h3 : (k = 1 ∧ z = 0 ∧ c = []) ∨ (z = 1 ∧ k % 2 = 1 ∧ 2 ≤ k ∧ c ≠ [])) (hc : ∀ x ∈ c, x < 256) (hb : c.length < 4294967296) (hf : lof l fid = false) :
   cal P I 103 [.ptr l 0] W fid e = .ret (.str c) e := by
  have hlen : ∀ c, (byteVs c).length = c.length := fun c => by induction c with | nil => rfl | cons a c ih => simp [byteVs, ih]
  refine cal_of L.i103 L.p103 rfl (by simp) ?_
  rcases h3 with ⟨rfl, rfl, rfl⟩ | ⟨rfl, h4, h5, h6⟩
  · simp [f103, get_psh, hf, h1, usdA, ustA, ustD, byteVs, bytesOf, strO]
  · have h7 : 0 < c.length := by cases c with | nil => exact absurd rfl h6 | cons a c => simp
    have hne : (byteVs c).isEmpty = false := by cases c with | nil => exact absurd rfl h6 | cons a c => rfl
    simp [f103, get_psh, hf, h1, usdA, ustA, ustD, strO, hlen, h7, h4, h5, hb, bytesOf_byteVs hc]
def unB : List AV → List Nat
  | .int _ (.ofNat n) :: r => n :: unB r
  | _ => []
@[simp] theorem unB_byteVs (c : List Nat) : unB (byteVs c) = c := by induction c with | nil => rfl | cons a c ih => show a :: unB (byteVs c) = _; rw [ih]
@[simp] theorem byteVs_app (a b : List Nat) : byteVs a ++ byteVs b = byteVs (a ++ b) := by induction a with | nil => rfl | cons x a ih => simp [byteVs, ih]
@[simp] theorem byteVs_length (c : List Nat) : (byteVs c).length = c.length := by induction c with | nil => rfl | cons a c ih => simp [byteVs, ih]
@[simp] theorem byteVs_eq_nil (c : List Nat) : byteVs c = [] ↔ c = [] := by cases c <;> simp [byteVs]
@[simp] theorem byteVs_snoc (b : List Nat) (c : Nat) : byteVs b ++ [AV.int .u8 (c : Int)] = byteVs (b ++ [c]) := by rw [← byteVs_app]; rfl
@[simp] theorem byteVs_snoc' (b : List Nat) (c : Nat) : byteVs b ++ [AV.int .u8 (no_index (OfNat.ofNat c))] = byteVs (b ++ [no_index (OfNat.ofNat c)]) := byteVs_snoc b c
def okB (e : E) (l : Lo) (n : Nat) : Prop :=
  match e.get l with
  | .cells t [a, .sl k z b] => t = 203 ∧ ((a = .nilp ∧ k = 1 ∧ z = 0 ∧ b = []) ∨ (a = .ptr l 0 ∧ Tkt e k z b)) ∧ b.length + n < big
  | _ => False
theorem okB_iff (e : E) (l : Lo) (n : Nat) : okB e l n ↔ match e.get l with
    | .cells t [a, .sl k z b] => t = 203 ∧ ((a = .nilp ∧ k = 1 ∧ z = 0 ∧ b = []) ∨ (a = .ptr l 0 ∧ Tkt e k z b)) ∧ b.length + n < big
    | _ => False := ⟨fun h => by unfold okB at h; exact h, fun h => by unfold okB; exact h⟩
noncomputable def wrB (e : E) (l : Lo) (k' : Nat) (c : List Nat) : E :=
  match e.get l with
  | .cells t [.nilp, _] => (grow (e.set l (.cells t [.ptr l 0, .sl 1 0 []])) 1 k' l).set l (.cells t [.ptr l 0, .sl k' 1 (byteVs c)])
  | .cells t [_, .sl k _ b] => (grow e k k' l).set l (.cells t [.ptr l 0, .sl k' 1 (b ++ byteVs c)])
  | _ => e
theorem wB (L : LBuilder P I) {W : List Lo} {fid : Nat} {e : E} {l : Lo} {c : Int} (hf : Out l fid) (hW : free W l = true) (hc : 0 ≤ c) (h : okB e l 1) :
    cal P I 162 [.ptr l 0, .int .u8 c] W fid e = .ret .nili (wrB e l (fresh fid 1) [c.toNat]) := by
  obtain ⟨c, rfl⟩ := Int.eq_ofNat_of_zero_le hc
  rw [Int.toNat_natCast]
  unfold okB at h
  split at h
  · next t a k z b hl =>
    obtain ⟨rfl, ⟨rfl, rfl, rfl, rfl⟩ | ⟨rfl, h1⟩, h2⟩ := h
    · rw [writeByte_nil L hl hf hW]; simp [wrB, hl, byteVs]
    · rw [writeByte_ptr L hl h1 h2 hf hW]; simp [wrB, hl, byteVs]
  · exact h.elim
theorem wS (L : LBuilder P I) {W : List Lo} {fid : Nat} {e : E} {l : Lo} {c : List Nat} (hf : Out l fid) (hW : free W l = true) (hc : c ≠ []) (h : okB e l c.length) :
    cal P I 160 [.ptr l 0, .str c] W fid e = .ret (.tup [.int .i64 c.length, .nili]) (wrB e l (fresh fid 1) c) := by
  unfold okB at h
  split at h
  · next t a k z b hl =>
    obtain ⟨rfl, ⟨rfl, rfl, rfl, rfl⟩ | ⟨rfl, h1⟩, h2⟩ := h
    · rw [writeString_nil L hl hc (by simpa using h2) hf hW]; simp [wrB, hl]
    · rw [writeString_ptr L hl h1 hc h2 hf hW]; simp [wrB, hl]
  · exact h.elim
noncomputable def lnB (e : E) (l : Lo) : Option Nat := match e.get l with | .cells _ [_, .sl _ _ b] => some b.length | _ => none
theorem lB (L : LBuilder P I) {W : List Lo} {fid : Nat} {e : E} {l : Lo} (hf : Out l fid) (h : (lnB e l).isSome = true) :
    cal P I 163 [.ptr l 0] W fid e = .ret (.int .i64 ((lnB e l).getD 0 : Nat)) e := by
  unfold lnB at h ⊢
  split at h
  · next hl => rw [len_law L hl hf.lof]; rfl
  · cases h
def B8 (l : List Nat) : Prop := ∀ x ∈ l, x < 256
@[simp] theorem B8_nil : B8 [] := fun x hx => by cases hx
@[simp] theorem B8_cons (a : Nat) (l : List Nat) : B8 (a :: l) ↔ a < 256 ∧ B8 l := by simp [B8]
@[simp] theorem B8_app (a b : List Nat) : B8 (a ++ b) ↔ B8 a ∧ B8 b := by simp [B8, or_imp, forall_and]
def okS (e : E) (l : Lo) : Prop :=
  match e.get l with
  | .cells _ [_, .sl k z b] => ((k = 1 ∧ z = 0 ∧ b = []) ∨ (z = 1 ∧ k % 2 = 1 ∧ 2 ≤ k ∧ unB b ≠ [] ∧ byteVs (unB b) = b ∧ B8 (unB b) ∧ b.length < 4294967296))
  | _ => False
theorem okS_iff (e : E) (l : Lo) : okS e l ↔ match e.get l with
    | .cells _ [_, .sl k z b] => ((k = 1 ∧ z = 0 ∧ b = []) ∨ (z = 1 ∧ k % 2 = 1 ∧ 2 ≤ k ∧ unB b ≠ [] ∧ byteVs (unB b) = b ∧ B8 (unB b) ∧ b.length < 4294967296))
    | _ => False := ⟨fun h => by unfold okS at h; exact h, fun h => by unfold okS; exact h⟩
noncomputable def txB (e : E) (l : Lo) : List Nat := match e.get l with | .cells _ [_, .sl _ _ b] => unB b | _ => []
theorem sB (L : LBuilder P I) {W : List Lo} {fid : Nat} {e : E} {l : Lo} (hf : Out l fid) (h : okS e l) :
    cal P I 103 [.ptr l 0] W fid e = .ret (.str (txB e l)) e := by
  unfold okS at h
  unfold txB
  split at h
  · next t a k z b hl =>
    rcases h with ⟨rfl, rfl, rfl⟩ | ⟨rfl, h1, h2, h3, h4, h5, h6⟩
    · exact string_law L (c := []) hl (.inl ⟨rfl, rfl, rfl⟩) (by simp) (by simp) hf.lof
    · exact string_law L (c := unB b) (by rw [h4]; exact hl) (.inr ⟨rfl, h1, h2, h3⟩) h5 (by rw [← h4] at h6; simpa using h6) hf.lof
  · exact h.elim
end Go.Abs.Run
namespace Go.Abs.Run
open Go Go.Abs
attribute [local simp] oM oN oF oE oQ oP oG oL oR oC oX oS oY vi vj vu vz ci cu eI eS eB
attribute [local simp] s0 t0 s1 t1 s2 t2 s3 t3 s4 t4 s5 t5 s6 t6 s7 t7 s8 t8 s9 t9 s10 t10 s11 t11 s12 t12 s13 t13 s14 t14 s15 t15 s16 t16 s17 t17 s18 t18 s19 t19 s20 t20 s21 t21 s22 t22 s23 t23 s24 t24 s25 t25 s26 t26 s27 t27 s28 t28 s29 t29 s30 t30 s31 t31 s32 t32 s33 t33 s34 t34 s35 t35 s36 t36 s37 t37 s38 t38 s39 t39 s40 t40 s41 t41 s42 t42 s43 t43 s44 t44 s45 t45 s46 t46 s47 t47 s48 t48 s49 t49 s50 t50 s51 t51 s52 t52 s53 t53 s54 t54 s55 t55 s56 t56 s57 t57 s58 t58 s59 t59
variable {P : Nat → Option FI} {I : Nat → Option IntrT}
structure LQuote (P : Nat → Option FI) (I : Nat → Option IntrT) : Prop extends LBuilder P I where
  pQ : P 262 = some f262
  iQ : I 262 = none
def quo (c : Nat) : List Nat := if c = 10 then [92, 110] else if c = 34 ∨ c = 92 then [92, c] else [c]
theorem quote_step (L : LBuilder P I) {W : List Lo} {fid : Nat} {e : E} {S : List Nat} {i c : Nat} {N : Int} {s : Tm} {cnt k : Nat} {p : Ob} {live : List Nat} {b : List Nat}
    (h0 : s.get .e = .str S) (h7 : s.get (.l (.l (.l .e))) = .int .i64 N) (h8 : s.get (.r (.l (.l .e))) = .int .i64 i) (h3 : s.get (.l (.l .e)) = .ptr (.lo fid 0 1) 0) (hx : S[i]? = some c) (hi : (i : Int) < N) (hN : N < 1000000)
    (hk : k % 2 = 1) (hk2 : 2 ≤ k) (hl : liveIn live k = true) (hcnt : cnt + 2 < 1048000) (hb : b.length + 2 < big) (hW : free W (.lo fid 0 1) = true) :
    ∃ s' cnt' k' live' e', runW (cal P I) fid W b262x0 ⟨s, cnt⟩ (psh ⟨fid, [(1, .cells 203 [.ptr (.lo fid 0 1) 0, .sl k 1 (byteVs b)], p)], live⟩ e) =
      .go ⟨s', cnt'⟩ (psh ⟨fid, [(1, .cells 203 [.ptr (.lo fid 0 1) 0, .sl k' 1 (byteVs (b ++ quo c))], p)], live'⟩ e') ∧
      s'.get .e = .str S ∧ s'.get (.l (.l (.l .e))) = .int .i64 N ∧ s'.get (.r (.l (.l .e))) = .int .i64 (i + 1 : Nat) ∧ s'.get (.l (.l .e)) = .ptr (.lo fid 0 1) 0 ∧ k' % 2 = 1 ∧ 2 ≤ k' ∧ liveIn live' k' = true ∧ cnt' ≤ cnt + 2 := by
  have hout : ∀ c, Out (.lo fid 0 1) (child fid c) := fun c => Out.own fid 0 1 c
  have hi' : IntKind.i64.wrap ((i : Int) + 1) = (i : Int) + 1 := wrap_i64 (by omega) (by omega)
  have hb1 : b.length + 1 < big := by omega
  have hr1 : cnt < 1048000 := by omega
  have hr2 : cnt + 1 < 1048000 := by omega
  have hk3 : k ≠ 1 := by omega
  have hb2 : b.length + 1 + 1 < big := hb
  by_cases h10 : c = 10
  · subst h10
    simp [b262x0, Tm.get_set, h0, h7, h8, h3, hx, hi, hi', ixsA_of, wS L, wB L, hout, hW, okB_iff, wrB, Tkt, hk, hk2, hl, hb, hb1, hb2, room, hr1, hr2, grow, hk3, quo, fresh_odd, and_assoc]
  · have h10' : ¬ (c : Int) = 10 := by omega
    by_cases h34 : c = 34
    · subst h34
      simp [b262x0, Tm.get_set, h0, h7, h8, h3, hx, hi, hi', ixsA_of, wS L, wB L, hout, hW, okB_iff, wrB, Tkt, hk, hk2, hl, hb, hb1, hb2, room, hr1, hr2, grow, hk3, quo, fresh_odd, and_assoc]
    · have h34' : ¬ (c : Int) = 34 := by omega
      by_cases h92 : c = 92
      · subst h92
        simp [b262x0, Tm.get_set, h0, h7, h8, h3, hx, hi, hi', ixsA_of, wS L, wB L, hout, hW, okB_iff, wrB, Tkt, hk, hk2, hl, hb, hb1, hb2, room, hr1, hr2, grow, hk3, quo, fresh_odd, and_assoc]
      · have h92' : ¬ (c : Int) = 92 := by omega
        simp [b262x0, Tm.get_set, h0, h7, h8, h3, hx, hi, hi', ixsA_of, wS L, wB L, hout, hW, okB_iff, wrB, Tkt, hk, hk2, hl, hb, hb1, hb2, room, hr1, hr2, grow, hk3, quo, fresh_odd, and_assoc, h10, h34, h92, h10', h34', h92']
theorem quo_le (c : Nat) : (quo c).length ≤ 2 := by unfold quo; split <;> (try split) <;> simp
def QEnd (fid : Nat) (p : Ob) (b : List Nat) (q : List Nat) (most : Nat) (x : R) : Prop :=
  ∃ s' cnt' k' live' e', x = .exit 0 ⟨s', cnt'⟩ (psh ⟨fid, [(1, .cells 203 [.ptr (.lo fid 0 1) 0, .sl k' 1 (byteVs (b ++ q))], p)], live'⟩ e') ∧
      s'.get (.l (.l .e)) = .ptr (.lo fid 0 1) 0 ∧ k' % 2 = 1 ∧ 2 ≤ k' ∧ liveIn live' k' = true ∧ cnt' ≤ most
theorem quote_loop (L : LBuilder P I) {W : List Lo} {fid : Nat} {S : List Nat} {N : Int} {p : Ob} (hN : N = S.length) (hN' : N < 1000000) (hW : free W (.lo fid 0 1) = true) :
    ∀ (r : List Nat) (i : Nat) (s : Tm) (cnt k : Nat) (live : List Nat) (b : List Nat) (e : E), S.drop i = r → i ≤ S.length → s.get .e = .str S → s.get (.l (.l (.l .e))) = .int .i64 N → s.get (.r (.l (.l .e))) = .int .i64 i → s.get (.l (.l .e)) = .ptr (.lo fid 0 1) 0 →
    k % 2 = 1 → 2 ≤ k → liveIn live k = true → cnt + 2 * r.length < 1048000 → b.length + 2 * r.length < big →
    QEnd fid p b (r.flatMap quo) (cnt + 2 * r.length) (lp (runW (cal P I) fid W b262x0) ⟨s, cnt⟩ (psh ⟨fid, [(1, .cells 203 [.ptr (.lo fid 0 1) 0, .sl k 1 (byteVs b)], p)], live⟩ e)) := by
  intro r
  induction r with
  | nil =>
    intro i s cnt k live b e hd hi h0 h7 h8 h3 hk hk2 hl hcnt hb
    have hi' : i = S.length := by have := congrArg List.length hd; simp at this; omega
    have hlt : ¬ (i : Int) < N := by omega
    rw [lp_eq]
    simp [QEnd, b262x0, Tm.get_set, h0, h7, h8, h3, hlt, hk, hk2, hl, and_assoc]
  | cons c r ih =>
    intro i s cnt k live b e hd hi h0 h7 h8 h3 hk hk2 hl hcnt hb
    have hlen := congrArg List.length hd
    simp only [List.length_drop, List.length_cons] at hlen
    have hx : S[i]? = some c := by rw [← List.head?_drop, hd]; rfl
    have hd' : S.drop (i + 1) = r := by rw [← List.drop_drop, hd]; rfl
    simp only [List.length_cons] at hcnt hb
    obtain ⟨s1, cnt1, k1, live1, e1, g0, g1, g2, g3, g4, g5, g6, g7, g8⟩ := quote_step (p := p) (e := e) (b := b) (cnt := cnt) L h0 h7 h8 h3 hx (by omega) hN' hk hk2 hl (by omega) (by omega) hW
    have hq := quo_le c
    obtain ⟨s2, cnt2, k2, live2, e2, f0, f1, f2, f3, f4, f5⟩ := ih (i + 1) s1 cnt1 k1 live1 (b ++ quo c) e1 hd' (by omega) g1 g2 g3 g4 g5 g6 g7 (by omega) (by simp; omega)
    refine ⟨s2, cnt2, k2, live2, e2, ?_, f1, f2, f3, f4, by simp only [List.length_cons]; omega⟩
    rw [lp_eq, g0]
    simp only [R.bind]
    rw [f0]
    simp
def quoted (S : List Nat) : List Nat := 34 :: (S.flatMap quo ++ [34])
theorem quote_law (L : LQuote P I) {W : List Lo} {fid : Nat} {e : E} {S : List Nat} (hS : B8 S) (hN : S.length < 500000) (hW : free W (.lo fid 0 0) = true) (hW' : free W (.lo fid 0 1) = true) :
    ∃ e', cal P I 262 [.str S] W fid e = .ret (.str (quoted S)) e' := by
  have hout : ∀ c, Out (.lo fid 0 1) (child fid c) := fun c => Out.own fid 0 1 c
  have hbig : big = 4294967296 := rfl
  refine cal_wp (Q := fun r => ∃ e', r = .ret (.str (quoted S)) e') L.iQ L.pQ rfl (by simp) ?_
  simp [f262, room, wB L.toLBuilder, hout, hW, hW', okB_iff, wrB, Tkt, grow, (by decide : 1 < big)]
  simp only [Wp_bind, Wp_leave]
  refine Wp.use (quote_loop L.toLBuilder (S := S) (N := S.length) rfl (by omega) hW' S 0 _ _ _ _ _ _ rfl (by omega) ?_ ?_ ?_ ?_ (fresh_odd _) (fresh_ge _ _) ?_ ?_ ?_) ?_
  any_goals (simp; done)
  · omega
  · simp; omega
  rintro r ⟨s', cnt', k', live', e', rfl, h3, hk, hk2, hl, hc⟩
  have hk1 : k' ≠ 1 := by omega
  have hc1 : cnt' < 1048000 := by omega
  have hc2 : cnt' + 1 < 1048000 := by omega
  have hfl : ∀ S : List Nat, (S.flatMap quo).length ≤ 2 * S.length := fun S => by
    induction S with
    | nil => simp
    | cons a S ih => have := quo_le a; simp only [List.flatMap_cons, List.length_append, List.length_cons]; omega
  have hfl := hfl S
  have h256 : B8 (S.flatMap quo) := fun x hx => by
    obtain ⟨a, ha, hx⟩ := List.mem_flatMap.1 hx
    have := hS a ha
    unfold quo at hx
    split at hx
    · simp at hx; omega
    · split at hx
      · simp at hx; omega
      · simp at hx; omega
  unfold quoted
  generalize S.flatMap quo = Q at *
  have hlen : Q.length + 1 + 1 < big := by omega
  have hlen' : Q.length + 1 + 1 < 4294967296 := by omega
  simp (maxDischargeDepth := 5) [Tm.get_set, h3, room, hc1, hc2, wB L.toLBuilder, sB L.toLBuilder, hout, hW', okB_iff, okS_iff, wrB, txB, Tkt, grow, hk, hk2, hl, hk1, hlen, hlen', fresh_odd, h256]
end Go.Abs.Run
namespace Go.Abs.Run
open Go Go.Abs
attribute [local simp] oM oN oF oE oQ oP oG oL oR oC oX oS oY vi vj vu vz ci cu eI eS eB
attribute [local simp] s0 t0 s1 t1 s2 t2 s3 t3 s4 t4 s5 t5 s6 t6 s7 t7 s8 t8 s9 t9 s10 t10 s11 t11 s12 t12 s13 t13 s14 t14 s15 t15 s16 t16 s17 t17 s18 t18 s19 t19 s20 t20 s21 t21 s22 t22 s23 t23 s24 t24 s25 t25 s26 t26 s27 t27 s28 t28 s29 t29 s30 t30 s31 t31 s32 t32 s33 t33 s34 t34 s35 t35 s36 t36 s37 t37 s38 t38 s39 t39 s40 t40 s41 t41 s42 t42 s43 t43 s44 t44 s45 t45 s46 t46 s47 t47 s48 t48 s49 t49 s50 t50 s51 t51 s52 t52 s53 t53 s54 t54 s55 t55 s56 t56 s57 t57 s58 t58 s59 t59 s60 t60 s61 t61 s62 t62 s63 t63 s64 t64 s65 t65 s66 t66 s67 t67 s68 t68 s69 t69 s70 t70 s71 t71 s72 t72 s73 t73 s74 t74 s75 t75 s76 t76 s77 t77 s78 t78 s79 t79 s80 t80 s81 t81 s82 t82 s83 t83 s84 t84 s85 t85 s86 t86 s87 t87 s88 t88 s89 t89 s90 t90 s91 t91 s92 t92 s93 t93 s94 t94 s95 t95 s96 t96 s97 t97 s98 t98 s99 t99 s100 t100 s101 t101 s102 t102 s103 t103 s104 t104 s105 t105 s106 t106 s107 t107 s108 t108 s109 t109 s110 t110 s111 t111 s112 t112 s113 t113 s114 t114 s115 t115 s116 t116 s117 t117 s118 t118 s119 t119 s120 t120 s121 t121 s122 t122 s123 t123 s124 t124 s125 t125 s126 t126 s127 t127 s128 t128 s129 t129 s130 t130 s131 t131 s132 t132 s133 t133 s134 t134 s135 t135 s136 t136 s137 t137 s138 t138 s139 t139
variable {P : Nat → Option FI} {I : Nat → Option IntrT}
def txt : List Nat → Option (List Nat × Nat)
  | [] => none
  | [92] => none
  | 34 :: _ => some ([], 1)
  | 92 :: x :: r => if x = 110 then (txt r).map fun q => (10 :: q.1, q.2 + 2) else if x = 34 ∨ x = 92 then (txt r).map fun q => (x :: q.1, q.2 + 2) else none
  | x :: r => if x < 32 ∨ 126 < x then none else (txt r).map fun q => (x :: q.1, q.2 + 1)
def fine (c : Nat) : Prop := c = 10 ∨ (32 ≤ c ∧ c ≤ 126)
instance (c : Nat) : Decidable (fine c) := inferInstanceAs (Decidable (_ ∨ _))
theorem txt_else {c : Nat} {r : List Nat} (h34 : c ≠ 34) (h92 : c ≠ 92) : txt (c :: r) = if c < 32 ∨ 126 < c then none else (txt r).map fun q => (c :: q.1, q.2 + 1) := by
  rw [txt.eq_def]
  split
  · next h => cases h
  · next h => simp at h; exact absurd h.1 h92
  · next h => simp at h; exact absurd h.1 h34
  · next h => simp at h; exact absurd h.1 h92
  · next x r' _ _ _ h => simp at h; obtain ⟨rfl, rfl⟩ := h; rfl
theorem txt_quo (c : Nat) (r : List Nat) : txt (quo c ++ r) = if fine c then (txt r).map fun q => (c :: q.1, q.2 + (quo c).length) else none := by
  unfold quo fine
  by_cases h10 : c = 10
  · subst h10; simp [txt]
  · by_cases h34 : c = 34
    · subst h34; simp [txt]
    · by_cases h92 : c = 92
      · subst h92; simp [txt]
      · simp only [h10, h34, h92, or_self, if_false, false_or, List.singleton_append]
        rw [txt_else h34 h92]
        by_cases hc : 32 ≤ c ∧ c ≤ 126
        · have : ¬ (c < 32 ∨ 126 < c) := by omega
          simp [hc, this]
        · have : c < 32 ∨ 126 < c := by omega
          simp [hc, this]
theorem txt_quoted (S : List Nat) : txt (S.flatMap quo ++ [34]) = if (∀ c ∈ S, fine c) then some (S, (S.flatMap quo).length + 1) else none := by
  induction S with
  | nil => simp [txt]
  | cons c S ih =>
    rw [List.flatMap_cons, List.append_assoc, txt_quo, ih]
    by_cases hc : fine c
    · by_cases hS : ∀ c ∈ S, fine c
      · have : ∀ d ∈ c :: S, fine d := fun d hd => (List.mem_cons.1 hd).elim (fun h => h ▸ hc) (hS d)
        rw [if_pos hc, if_pos hS, if_pos this]; simp; omega
      · have : ¬ ∀ d ∈ c :: S, fine d := fun h => hS fun d hd => h d (List.mem_cons_of_mem _ hd)
        rw [if_pos hc, if_neg hS, if_neg this]; rfl
    · have : ¬ ∀ d ∈ c :: S, fine d := fun h => hc (h c (List.mem_cons_self ..))
      rw [if_neg hc, if_neg this]
structure LText (P : Nat → Option FI) (I : Nat → Option IntrT) : Prop extends LBuilder P I where
  p298 : P 298 = some f298
  i298 : I 298 = none
  p315 : P 315 = some f315
  i315 : I 315 = none
theorem wrong_law (L : LText P I) {W : List Lo} {fid : Nat} {e : E} {at' why : Int} :
    cal P I 315 [.int .i64 at', .int .i64 why] W fid e = .ret (.ptr (.gl e.glo.length) 0) (e.addG (.cells 375 [.int .i64 at', .int .i64 why])) := by
  refine cal_of L.i315 L.p315 rfl (by simp) ?_
  simp [f315]
def Later (j : Lo) (o : Ob) (e e' : E) : Prop := ∃ ks, e' = (killL ks e).set j o
theorem later1 (j : Lo) (o : Ob) (ks : List Nat) (e : E) : Later j o e ((killL ks e).set j o) := ⟨ks, rfl⟩
theorem later2 (j : Lo) (o o' : Ob) (ks : List Nat) (e : E) : Later j o e ((killL ks (e.set j o')).set j o) := ⟨ks, by rw [killL_set, set_set]⟩
theorem later0 (j : Lo) (o : Ob) (e : E) : Later j o e (e.set j o) := ⟨[], rfl⟩
theorem later_self {e : E} {j : Lo} {o : Ob} (h : e.get j = o) : Later j o e e := ⟨[], by rw [killL, set_self h]⟩
theorem Later.trans {j : Lo} {o o' : Ob} {a b c : E} (h : Later j o a b) (h' : Later j o' b c) : Later j o' a c := by
  obtain ⟨k1, rfl⟩ := h
  obtain ⟨k2, rfl⟩ := h'
  exact ⟨k1 ++ k2, by rw [killL_set, set_set, killL_app]⟩
theorem Later.psh {j : Lo} {o : Ob} {f : FS} {e e' : E} (h : Later j o (Abs.psh f e) e') (hj : lof j f.fid = false) : ∃ live e1, e' = Abs.psh ⟨f.fid, f.objs, live⟩ e1 ∧ Later j o e e1 := by
  obtain ⟨ks, rfl⟩ := h
  rw [killL_psh, set_psh (f := ⟨f.fid, f.objs, dropL ks f.live⟩) hj]
  exact ⟨_, _, rfl, ks, rfl⟩
theorem Later.own {fid a i : Nat} {o : Ob} {objs : List (Nat × Ob × Ob)} {live : List Nat} {e e' : E} (h : Later (.lo fid a i) o (Abs.psh ⟨fid, objs, live⟩ e) e') : ∃ live' e1, e' = Abs.psh ⟨fid, (fsSet ⟨fid, objs, []⟩ a i o).objs, live'⟩ e1 := by
  obtain ⟨ks, rfl⟩ := h
  rw [killL_psh, set_psh_lo]
  simp only [beq_dec, decide_true, cond_true]
  refine ⟨(fsSet ⟨fid, objs, dropL ks live⟩ a i o).live, killL ks e, ?_⟩
  congr 1
  unfold fsSet
  cases objs[a]? with
  | none => rfl
  | some x => obtain ⟨n, c, p⟩ := x; simp only; cases Nat.beq n i <;> cases Nat.beq n (i + 1) <;> rfl
variable {S : List Nat} {p c : Nat} {j : Lo} {s : Tm} {cnt k z fid : Nat} {W : List Lo} {e : E} {tc rc p0 p1 : Ob} {live : List Nat} {b : List Nat}
theorem text_plain (L : LText P I) (h0 : s.get .e = .ptr j 0) (h3 : s.get (.l (.l .e)) = .ptr (.lo fid 0 1) 0) (h4 : s.get (.r (.l .e)) = .ptr (.lo fid 1 1) 0) (h6 : s.get (.r (.r .e)) = .sl k z (byteVs b))
    (hj : e.get j = .cells 332 [.str S, .int .i64 p]) (hx : S[p]? = some c) (hp : S.length < 1000000) (hk : Own k z (byteVs b) live) (hcnt : cnt + 2 < 1048000) (hb : b.length + 1 < big) (hW : free W j = true) (hjo : Out j fid)
    (h34 : c ≠ 34) (h92 : c ≠ 92) (h32 : 32 ≤ c) (h126 : c ≤ 126) :
    ∃ s' cnt' k' live' e', runW (cal P I) fid W b298x0 ⟨s, cnt⟩ (psh ⟨fid, [(1, tc, p0), (1, rc, p1)], live⟩ e) =
      .go ⟨s', cnt'⟩ (psh ⟨fid, [(1, tc, p0), (1, rc, p1)], live'⟩ e') ∧ Later j (.cells 332 [.str S, .int .i64 (p + 1 : Nat)]) e e' ∧
      s'.get .e = .ptr j 0 ∧ s'.get (.l (.l .e)) = .ptr (.lo fid 0 1) 0 ∧ s'.get (.r (.l .e)) = .ptr (.lo fid 1 1) 0 ∧ s'.get (.r (.r .e)) = .sl k' 1 (byteVs (b ++ [c])) ∧ k' % 2 = 1 ∧ 2 ≤ k' ∧ liveIn live' k' = true ∧ cnt' ≤ cnt + 2 := by
  have hlt : p < S.length := (List.getElem?_eq_some_iff.1 hx).1
  have hlt' : (p : Int) < (S.length : Int) := by omega
  have hw : IntKind.i64.wrap ((p : Int) + 1) = (p : Int) + 1 := wrap_i64 (by omega) (by omega)
  have c34 : ¬ (c : Int) = 34 := by omega
  have c92 : ¬ (c : Int) = 92 := by omega
  have c32 : ¬ (c : Int) < 32 := by omega
  have c126 : ¬ (126 : Int) < c := by omega
  have hr : cnt + 1 < 1048000 := by omega
  simp [b298x0, Tm.get_set, get_psh, set_psh, hjo.lof, h0, h3, h4, h6, hj, hx, hlt', hw, c34, c92, c32, c126, ixsA_of, hW, elems, elemsL, is8, app_u8, hk, hb, hr, and_assoc, later1]
def esc (c : Nat) : Nat := if c = 110 then 10 else c
theorem text_esc (L : LText P I) (h0 : s.get .e = .ptr j 0) (h3 : s.get (.l (.l .e)) = .ptr (.lo fid 0 1) 0) (h4 : s.get (.r (.l .e)) = .ptr (.lo fid 1 1) 0) (h6 : s.get (.r (.r .e)) = .sl k z (byteVs b))
    (hj : e.get j = .cells 332 [.str S, .int .i64 p]) (hx : S[p]? = some 92) (hx' : S[p + 1]? = some c) (hp : S.length < 1000000) (hk : Own k z (byteVs b) live) (hcnt : cnt + 2 < 1048000) (hb : b.length + 1 < big) (hW : free W j = true) (hjo : Out j fid)
    (hc : c = 110 ∨ c = 34 ∨ c = 92) :
    ∃ s' cnt' k' live' e', runW (cal P I) fid W b298x0 ⟨s, cnt⟩ (psh ⟨fid, [(1, tc, p0), (1, rc, p1)], live⟩ e) =
      .go ⟨s', cnt'⟩ (psh ⟨fid, [(1, tc, p0), (1, rc, p1)], live'⟩ e') ∧ Later j (.cells 332 [.str S, .int .i64 (p + 2 : Nat)]) e e' ∧
      s'.get .e = .ptr j 0 ∧ s'.get (.l (.l .e)) = .ptr (.lo fid 0 1) 0 ∧ s'.get (.r (.l .e)) = .ptr (.lo fid 1 1) 0 ∧ s'.get (.r (.r .e)) = .sl k' 1 (byteVs (b ++ [esc c])) ∧ k' % 2 = 1 ∧ 2 ≤ k' ∧ liveIn live' k' = true ∧ cnt' ≤ cnt + 2 := by
  have hlt : p < S.length := (List.getElem?_eq_some_iff.1 hx).1
  have hlt1 : p + 1 < S.length := (List.getElem?_eq_some_iff.1 hx').1
  have hlt' : (p : Int) < (S.length : Int) := by omega
  have hne : ¬ (p : Int) + 1 = (S.length : Int) := by omega
  have hw : IntKind.i64.wrap ((p : Int) + 1) = (p : Int) + 1 := wrap_i64 (by omega) (by omega)
  have hw2 : IntKind.i64.wrap ((p : Int) + 2) = (p : Int) + 2 := wrap_i64 (by omega) (by omega)
  have hr : cnt + 1 < 1048000 := by omega
  have htn : ((p : Int) + 1).toNat = p + 1 := by omega
  have h0' : 0 ≤ (p : Int) + 1 := by omega
  have h11 : (p : Int) + 1 + 1 = p + 2 := by omega
  have hgs : ∀ o, (e.set j o).get j = o := fun o => E.get_set_same _ _ _ (by rw [hj]; simp)
  rcases hc with rfl | rfl | rfl
  all_goals
    simp [b298x0, Tm.get_set, get_psh, set_psh, hjo.lof, h0, h3, h4, h6, hj, hgs, hx, hx', hlt', hne, hw, hw2, htn, h0', h11, ixsA_of, hW, elems, elemsL, is8, app_u8, hk, hb, hr, and_assoc, later2, esc]
def TOk (fid : Nat) (j : Lo) (e : E) (x0 x3 : Int) (p0 p1 : Ob) (S q : List Nat) (n : Nat) (x : R) : Prop :=
  ∃ s' cnt' live' e', x = .ret ⟨s', cnt'⟩ (psh ⟨fid, [(1, .cells 117 [.int .i64 x0, .int .i64 5, .str q, .int .i64 x3], p0), (1, .cells 117 [.int .i64 x0, .int .i64 5, .str q, .int .i64 x3], p1)], live'⟩ e') ∧
    Later j (.cells 332 [.str S, .int .i64 n]) e e' ∧ s'.get (.r (.l .e)) = .ptr (.lo fid 1 1) 0 ∧ s'.get (.l (.r .e)) = .nilp
def TBad (fid : Nat) (j : Lo) (e : E) (tc p0 p1 : Ob) (x : R) : Prop :=
  ∃ s' cnt' live' e' o o' l, x = .ret ⟨s', cnt'⟩ (psh ⟨fid, [(1, tc, p0), (1, tc, p1)], live'⟩ (e'.addG o')) ∧
    Later j o e e' ∧ s'.get (.r (.l .e)) = .ptr (.lo fid 1 1) 0 ∧ s'.get (.l (.r .e)) = .ptr l 0
variable {x0 x1 x3 : Int} {y2 : List Nat} {r0 r1 r2 r3 : AV}
theorem text_end (L : LText P I) (ht : tc = .cells 117 [.int .i64 x0, .int .i64 x1, .str y2, .int .i64 x3]) (hrc : rc = .cells 117 [r0, r1, r2, r3]) (h0 : s.get .e = .ptr j 0) (h3 : s.get (.l (.l .e)) = .ptr (.lo fid 0 1) 0) (h4 : s.get (.r (.l .e)) = .ptr (.lo fid 1 1) 0) (h6 : s.get (.r (.r .e)) = .sl k z (byteVs b))
    (hj : e.get j = .cells 332 [.str S, .int .i64 p]) (hx : S[p]? = some 34) (hp : S.length < 1000000) (hb : B8 b) (hW : free W j = true) (hjo : Out j fid) (hW0 : free W (.lo fid 0 1) = true) (hW1 : free W (.lo fid 1 1) = true) :
    TOk fid j e x0 x3 p0 p1 S b (p + 1) (runW (cal P I) fid W b298x0 ⟨s, cnt⟩ (psh ⟨fid, [(1, tc, p0), (1, rc, p1)], live⟩ e)) := by
  have hlt : p < S.length := (List.getElem?_eq_some_iff.1 hx).1
  have hlt' : (p : Int) < (S.length : Int) := by omega
  have hw : IntKind.i64.wrap ((p : Int) + 1) = (p : Int) + 1 := wrap_i64 (by omega) (by omega)
  subst ht hrc
  have hbb := bytesOf_byteVs hb
  simp [TOk, b298x0, Tm.get_set, get_psh, set_psh, hjo.lof, h0, h3, h4, h6, hj, hx, hlt', hw, ixsA_of, hW, hW0, hW1, elemsL, b2sE, hbb, strO, locOf, and_assoc, later0]
theorem text_bad (L : LText P I) (ht : tc = .cells 117 [.int .i64 x0, .int .i64 x1, .str y2, .int .i64 x3]) (hrc : rc = .cells 117 [r0, r1, r2, r3]) (h0 : s.get .e = .ptr j 0) (h3 : s.get (.l (.l .e)) = .ptr (.lo fid 0 1) 0) (h4 : s.get (.r (.l .e)) = .ptr (.lo fid 1 1) 0) (h6 : s.get (.r (.r .e)) = .sl k z (byteVs b))
    (hj : e.get j = .cells 332 [.str S, .int .i64 p]) (hx : S[p]? = some c) (hp : S.length < 1000000) (hcnt : cnt + 2 < 1048000) (hW : free W j = true) (hjo : Out j fid) (hW0 : free W (.lo fid 0 1) = true) (hW1 : free W (.lo fid 1 1) = true)
    (hc : c ≠ 34) (hc' : c ≠ 92) (h32 : c < 32 ∨ 126 < c) :
    TBad fid j e tc p0 p1 (runW (cal P I) fid W b298x0 ⟨s, cnt⟩ (psh ⟨fid, [(1, tc, p0), (1, rc, p1)], live⟩ e)) := by
  have hlt : p < S.length := (List.getElem?_eq_some_iff.1 hx).1
  have hlt' : (p : Int) < (S.length : Int) := by omega
  have c34 : ¬ (c : Int) = 34 := by omega
  have c92 : ¬ (c : Int) = 92 := by omega
  have hr : cnt < 1048000 := by omega
  subst ht hrc
  by_cases h : c < 32
  · have c32 : (c : Int) < 32 := by omega
    simp [TBad, b298x0, Tm.get_set, get_psh, set_psh, hjo.lof, h0, h3, h4, h6, hj, hx, hlt', c34, c92, c32, ixsA_of, hW, hW0, hW1, locOf, and_assoc, wrong_law L, room, hr]
    exact ⟨e, ⟨_, rfl⟩, _, later_self hj⟩
  · have c32 : ¬ (c : Int) < 32 := by omega
    have c126 : (126 : Int) < c := by omega
    simp [TBad, b298x0, Tm.get_set, get_psh, set_psh, hjo.lof, h0, h3, h4, h6, hj, hx, hlt', c34, c92, c32, c126, ixsA_of, hW, hW0, hW1, locOf, and_assoc, wrong_law L, room, hr]
    exact ⟨e, ⟨_, rfl⟩, _, later_self hj⟩
theorem text_escbad (L : LText P I) (ht : tc = .cells 117 [.int .i64 x0, .int .i64 x1, .str y2, .int .i64 x3]) (hrc : rc = .cells 117 [r0, r1, r2, r3]) (h0 : s.get .e = .ptr j 0) (h3 : s.get (.l (.l .e)) = .ptr (.lo fid 0 1) 0) (h4 : s.get (.r (.l .e)) = .ptr (.lo fid 1 1) 0) (h6 : s.get (.r (.r .e)) = .sl k z (byteVs b))
    (hj : e.get j = .cells 332 [.str S, .int .i64 p]) (hx : S[p]? = some 92) (hp : S.length < 1000000) (hcnt : cnt + 2 < 1048000) (hW : free W j = true) (hjo : Out j fid) (hW0 : free W (.lo fid 0 1) = true) (hW1 : free W (.lo fid 1 1) = true)
    (hc : ∀ c, S[p + 1]? = some c → c ≠ 110 ∧ c ≠ 34 ∧ c ≠ 92) :
    TBad fid j e tc p0 p1 (runW (cal P I) fid W b298x0 ⟨s, cnt⟩ (psh ⟨fid, [(1, tc, p0), (1, rc, p1)], live⟩ e)) := by
  have hlt : p < S.length := (List.getElem?_eq_some_iff.1 hx).1
  have hlt' : (p : Int) < (S.length : Int) := by omega
  have hr : cnt < 1048000 := by omega
  have hw : IntKind.i64.wrap ((p : Int) + 1) = (p : Int) + 1 := wrap_i64 (by omega) (by omega)
  have htn : ((p : Int) + 1).toNat = p + 1 := by omega
  have h0' : 0 ≤ (p : Int) + 1 := by omega
  have hgs : ∀ o, (e.set j o).get j = o := fun o => E.get_set_same _ _ _ (by rw [hj]; simp)
  subst ht hrc
  cases hx' : S[p + 1]? with
  | none =>
    have hne : (p : Int) + 1 = (S.length : Int) := by have := List.getElem?_eq_none_iff.1 hx'; omega
    have hwS : IntKind.i64.wrap (S.length : Int) = (S.length : Int) := wrap_i64 (by omega) (by omega)
    simp [TBad, hwS, b298x0, Tm.get_set, get_psh, set_psh, hjo.lof, h0, h3, h4, h6, hj, hx, hgs, hlt', hw, hne, ixsA_of, hW, hW0, hW1, locOf, and_assoc, wrong_law L, room, hr]
    exact ⟨_, ⟨_, rfl⟩, _, later0 ..⟩
  | some c =>
    have hne : ¬ (p : Int) + 1 = (S.length : Int) := by have := (List.getElem?_eq_some_iff.1 hx').1; omega
    obtain ⟨c1, c2, c3⟩ := hc c hx'
    have c1' : ¬ (c : Int) = 110 := by omega
    have c2' : ¬ (c : Int) = 34 := by omega
    have c3' : ¬ (c : Int) = 92 := by omega
    simp [TBad, b298x0, Tm.get_set, get_psh, set_psh, hjo.lof, h0, h3, h4, h6, hj, hx, hx', hgs, hlt', hw, hne, htn, h0', c1', c2', c3', ixsA_of, hW, hW0, hW1, locOf, and_assoc, wrong_law L, room, hr]
    exact ⟨_, ⟨_, rfl⟩, _, later0 ..⟩
theorem text_none (L : LText P I) (h0 : s.get .e = .ptr j 0)
    (hj : e.get j = .cells 332 [.str S, .int .i64 p]) (hx : S[p]? = none) (hjo : Out j fid) :
    ∃ s', runW (cal P I) fid W b298x0 ⟨s, cnt⟩ (psh ⟨fid, [(1, tc, p0), (1, rc, p1)], live⟩ e) = .exit 0 ⟨s', cnt⟩ (psh ⟨fid, [(1, tc, p0), (1, rc, p1)], live⟩ e) ∧
      s'.get .e = .ptr j 0 ∧ s'.get (.l (.l .e)) = s.get (.l (.l .e)) ∧ s'.get (.r (.l .e)) = s.get (.r (.l .e)) := by
  have hlt' : ¬ (p : Int) < (S.length : Int) := by have := List.getElem?_eq_none_iff.1 hx; omega
  simp [b298x0, Tm.get_set, get_psh, set_psh, hjo.lof, h0, hj, hlt', and_assoc]
theorem Later.get {j : Lo} {o : Ob} {e e' : E} (h : Later j o e e') (hn : e.get j ≠ .none) : e'.get j = o := by
  obtain ⟨ks, rfl⟩ := h
  exact E.get_set_same _ _ _ (by rw [get_killL]; exact hn)
def TNo (fid : Nat) (j : Lo) (e : E) (tc rc p0 p1 : Ob) (S : List Nat) (most : Nat) (x : R) : Prop :=
  TBad fid j e tc p0 p1 x ∨ ∃ s' cnt' live' e' p, x = .exit 0 ⟨s', cnt'⟩ (psh ⟨fid, [(1, tc, p0), (1, rc, p1)], live'⟩ e') ∧ Later j (.cells 332 [.str S, .int .i64 p]) e e' ∧
    s'.get .e = .ptr j 0 ∧ s'.get (.l (.l .e)) = .ptr (.lo fid 0 1) 0 ∧ s'.get (.r (.l .e)) = .ptr (.lo fid 1 1) 0 ∧ cnt' ≤ most
theorem TBad.later {o : Ob} {e e' : E} {x : R} (h : Later j o e e') (hb : TBad fid j e' tc p0 p1 x) : TBad fid j e tc p0 p1 x := by
  obtain ⟨s', cnt', live', e1, o1, o2, l, h1, h2, h3⟩ := hb
  exact ⟨s', cnt', live', e1, o1, o2, l, h1, h.trans h2, h3⟩
theorem TNo.later {o : Ob} {e e' : E} {x : R} {m m' : Nat} (hm : m ≤ m') (h : Later j o e e') (hb : TNo fid j e' tc rc p0 p1 S m x) : TNo fid j e tc rc p0 p1 S m' x := by
  rcases hb with hb | ⟨s', cnt', live', e1, p, h1, h2, h3, h4, h5, h6⟩
  · exact .inl (hb.later h)
  · exact .inr ⟨s', cnt', live', e1, p, h1, h.trans h2, h3, h4, h5, by omega⟩
theorem TOk.later {o : Ob} {e e' : E} {x : R} {q : List Nat} {n : Nat} (h : Later j o e e') (hb : TOk fid j e' x0 x3 p0 p1 S q n x) : TOk fid j e x0 x3 p0 p1 S q n x := by
  obtain ⟨s', cnt', live', e1, h1, h2, h3⟩ := hb
  exact ⟨s', cnt', live', e1, h1, h.trans h2, h3⟩
def TRes (fid : Nat) (j : Lo) (e : E) (x0 x1 x3 : Int) (y2 : List Nat) (rc p0 p1 : Ob) (S b : List Nat) (p most : Nat) (x : R) : Option (List Nat × Nat) → Prop
  | some (q, m) => TOk fid j e x0 x3 p0 p1 S (b ++ q) (p + m) x
  | none => TNo fid j e (.cells 117 [.int .i64 x0, .int .i64 x1, .str y2, .int .i64 x3]) rc p0 p1 S most x
theorem TRes.use {Q : R → Prop} {e : E} {x1 : Int} {y2 : List Nat} {rc : Ob} {m : Nat} {x : R} {r : Option (List Nat × Nat)} (h : TRes fid j e x0 x1 x3 y2 rc p0 p1 S b p m x r) (k : ∀ x, TRes fid j e x0 x1 x3 y2 rc p0 p1 S b p m x r → Q x) : Wp Q x := k x h
theorem TRes.map {e e' : E} {o : Ob} {x1 : Int} {y2 : List Nat} {rc : Ob} {p' m m' : Nat} {x : R} {r : Option (List Nat × Nat)} {d : Nat} (hm : m ≤ m') (h : Later j o e e') (hp : p' = p + d) (hr : TRes fid j e' x0 x1 x3 y2 rc p0 p1 S (b ++ [c]) p' m x r) :
    TRes fid j e x0 x1 x3 y2 rc p0 p1 S b p m' x (r.map fun q => (c :: q.1, q.2 + d)) := by
  cases r with
  | none => exact TNo.later hm h hr
  | some q =>
    have hr := TOk.later h hr
    simp only [Option.map_some, TRes]
    have h1 : b ++ c :: q.1 = (b ++ [c]) ++ q.1 := by simp
    have h2 : p + (q.2 + d) = p' + q.2 := by omega
    rw [h1, h2]; exact hr
theorem text_loop (L : LText P I) (hS : B8 S) (hp : S.length < 500000) (hrc : rc = .cells 117 [r0, r1, r2, r3]) (hW : free W j = true) (hjo : Out j fid) (hW0 : free W (.lo fid 0 1) = true) (hW1 : free W (.lo fid 1 1) = true) :
    ∀ (n p : Nat) (s : Tm) (cnt k z : Nat) (live b : List Nat) (e : E), S.length - p = n → p ≤ S.length → s.get .e = .ptr j 0 → s.get (.l (.l .e)) = .ptr (.lo fid 0 1) 0 → s.get (.r (.l .e)) = .ptr (.lo fid 1 1) 0 → s.get (.r (.r .e)) = .sl k z (byteVs b) →
      e.get j = .cells 332 [.str S, .int .i64 p] → Own k z (byteVs b) live → B8 b → cnt + 2 * n + 2 < 1048000 → b.length + n + 1 < big →
      TRes fid j e x0 x1 x3 y2 rc p0 p1 S b p (cnt + 2 * n) (lp (runW (cal P I) fid W b298x0) ⟨s, cnt⟩ (psh ⟨fid, [(1, .cells 117 [.int .i64 x0, .int .i64 x1, .str y2, .int .i64 x3], p0), (1, rc, p1)], live⟩ e)) (txt (S.drop p)) := by
  intro n
  induction n using Nat.strongRecOn with
  | _ n ih =>
    intro p s cnt k z live b e hn hpl h0 h3 h4 h6 hj hk hb hcnt hbig
    have hne : e.get j ≠ .none := by rw [hj]; simp
    cases hx : S[p]? with
    | none =>
      have : S.drop p = [] := List.drop_eq_nil_of_le (List.getElem?_eq_none_iff.1 hx)
      rw [this, lp_eq]
      obtain ⟨s', h1, h2, h3', h4'⟩ := text_none (P := P) (I := I) (fid := fid) (W := W) (cnt := cnt) (tc := .cells 117 [.int .i64 x0, .int .i64 x1, .str y2, .int .i64 x3]) (rc := rc) (p0 := p0) (p1 := p1) (live := live) L h0 hj hx hjo
      rw [h1]
      exact .inr ⟨s', cnt, live, e, p, rfl, later_self hj, h2, by rw [h3', h3], by rw [h4', h4], by omega⟩
    | some c =>
      have hlt := (List.getElem?_eq_some_iff.1 hx).1
      have hd : S.drop p = c :: S.drop (p + 1) := by rw [List.drop_eq_getElem_cons hlt, (List.getElem?_eq_some_iff.1 hx).2]
      have hc8 : c < 256 := hS c (List.mem_of_getElem? hx)
      rw [hd]
      by_cases h34 : c = 34
      · subst h34
        rw [txt]
        have := text_end (P := P) (I := I) (cnt := cnt) (x0 := x0) (x1 := x1) (x3 := x3) (y2 := y2) (p0 := p0) (p1 := p1) (live := live) L rfl hrc h0 h3 h4 h6 hj hx (by omega) hb hW hjo hW0 hW1
        rw [lp_eq]
        obtain ⟨s', cnt', live', e', g1, g2⟩ := this
        rw [g1]
        exact ⟨s', cnt', live', e', by simp [R.bind], g2⟩
      · by_cases h92 : c = 92
        · subst h92
          have bad : ∀ (_ : ∀ c, S[p + 1]? = some c → c ≠ 110 ∧ c ≠ 34 ∧ c ≠ 92), TNo fid j e (.cells 117 [.int .i64 x0, .int .i64 x1, .str y2, .int .i64 x3]) rc p0 p1 S (cnt + 2 * n) (lp (runW (cal P I) fid W b298x0) ⟨s, cnt⟩ (psh ⟨fid, [(1, .cells 117 [.int .i64 x0, .int .i64 x1, .str y2, .int .i64 x3], p0), (1, rc, p1)], live⟩ e)) := fun hcc => by
            have := text_escbad (P := P) (I := I) (cnt := cnt) (x0 := x0) (x1 := x1) (x3 := x3) (y2 := y2) (p0 := p0) (p1 := p1) (live := live) L rfl hrc h0 h3 h4 h6 hj hx (by omega) (by omega) hW hjo hW0 hW1 hcc
            rw [lp_eq]
            obtain ⟨s', cnt', live', e', o, o', l, g1, g2⟩ := this
            rw [g1]
            exact .inl ⟨s', cnt', live', e', o, o', l, rfl, g2⟩
          cases hx' : S[p + 1]? with
          | none =>
            have : S.drop (p + 1) = [] := List.drop_eq_nil_of_le (List.getElem?_eq_none_iff.1 hx')
            rw [this, txt]
            exact bad fun c h => by rw [hx'] at h; cases h
          | some d =>
            have hlt' := (List.getElem?_eq_some_iff.1 hx').1
            have hd' : S.drop (p + 1) = d :: S.drop (p + 2) := by rw [List.drop_eq_getElem_cons hlt', (List.getElem?_eq_some_iff.1 hx').2]
            have hd8 : d < 256 := hS d (List.mem_of_getElem? hx')
            rw [hd']
            by_cases hdd : d = 110 ∨ d = 34 ∨ d = 92
            · have ht : txt (92 :: d :: S.drop (p + 2)) = (txt (S.drop (p + 2))).map fun q => (esc d :: q.1, q.2 + 2) := by
                rcases hdd with rfl | rfl | rfl <;> simp [txt, esc]
              rw [ht]
              obtain ⟨s', cnt', k', live', e', g1, g2, g3, g4, g5, g6, g7, g8, g9, g10⟩ := text_esc (P := P) (I := I) (fid := fid) (W := W) (cnt := cnt) (k := k) (z := z) (b := b) (live := live) (tc := .cells 117 [.int .i64 x0, .int .i64 x1, .str y2, .int .i64 x3]) (rc := rc) (p0 := p0) (p1 := p1) L h0 h3 h4 h6 hj hx hx' (by omega) hk (by omega) (by omega) hW hjo hdd
              rw [lp_eq, g1]
              have he : esc d < 256 := by unfold esc; split <;> omega
              exact TRes.map (p' := p + 2) (by omega) g2 rfl (ih (S.length - (p + 2)) (by omega) (p + 2) s' cnt' k' 1 live' (b ++ [esc d]) e' rfl (by omega) g3 g4 g5 g6 (g2.get hne) (.inr ⟨rfl, g7, g8, g9⟩) (by simp [hb, he]) (by omega) (by simp; omega))
            · have ht : txt (92 :: d :: S.drop (p + 2)) = none := by
                have h1 : d ≠ 110 := fun h => hdd (.inl h)
                have h2 : d ≠ 34 := fun h => hdd (.inr (.inl h))
                have h3 : d ≠ 92 := fun h => hdd (.inr (.inr h))
                simp [txt, h1, h2, h3]
              rw [ht]
              refine bad fun c h => ?_
              rw [hx'] at h; cases h
              exact ⟨fun h => hdd (.inl h), fun h => hdd (.inr (.inl h)), fun h => hdd (.inr (.inr h))⟩
        · by_cases hcc : c < 32 ∨ 126 < c
          · have ht : txt (c :: S.drop (p + 1)) = none := by rw [txt_else h34 h92, if_pos hcc]
            rw [ht]
            have := text_bad (P := P) (I := I) (cnt := cnt) (x0 := x0) (x1 := x1) (x3 := x3) (y2 := y2) (p0 := p0) (p1 := p1) (live := live) L rfl hrc h0 h3 h4 h6 hj hx (by omega) (by omega) hW hjo hW0 hW1 h34 h92 hcc
            rw [lp_eq]
            obtain ⟨s', cnt', live', e', o, o', l, g1, g2⟩ := this
            rw [g1]
            exact .inl ⟨s', cnt', live', e', o, o', l, rfl, g2⟩
          · have ht : txt (c :: S.drop (p + 1)) = (txt (S.drop (p + 1))).map fun q => (c :: q.1, q.2 + 1) := by rw [txt_else h34 h92, if_neg hcc]
            rw [ht]
            obtain ⟨s', cnt', k', live', e', g1, g2, g3, g4, g5, g6, g7, g8, g9, g10⟩ := text_plain (P := P) (I := I) (fid := fid) (W := W) (cnt := cnt) (k := k) (z := z) (b := b) (live := live) (tc := .cells 117 [.int .i64 x0, .int .i64 x1, .str y2, .int .i64 x3]) (rc := rc) (p0 := p0) (p1 := p1) L h0 h3 h4 h6 hj hx (by omega) hk (by omega) (by omega) hW hjo h34 h92 (by omega) (by omega)
            rw [lp_eq, g1]
            exact TRes.map (p' := p + 1) (by omega) g2 rfl (ih (S.length - (p + 1)) (by omega) (p + 1) s' cnt' k' 1 live' (b ++ [c]) e' rfl (by omega) g3 g4 g5 g6 (g2.get hne) (.inr ⟨rfl, g7, g8, g9⟩) (by simp [hb, hc8]) (by omega) (by simp; omega))
def TextRet (j : Lo) (e : E) (x0 x3 : Int) (S : List Nat) (p : Nat) (x : CR) : Option (List Nat × Nat) → Prop
  | some (q, m) => ∃ e', x = .ret (.tup [.agg [.int .i64 x0, .int .i64 5, .str q, .int .i64 x3], .nilp]) e' ∧ Later j (.cells 332 [.str S, .int .i64 (p + m : Nat)]) e e'
  | none => ∃ (a b d : Int) (y : List Nat) (l : Lo) (e' : E) (o o' : Ob), x = .ret (.tup [.agg [.int .i64 a, .int .i64 b, .str y, .int .i64 d], .ptr l 0]) (e'.addG o') ∧ Later j o e e'
theorem TextRet.use {Q : CR → Prop} {x : CR} {r : Option (List Nat × Nat)} (h : TextRet j e x0 x3 S p x r) (k : ∀ x, TextRet j e x0 x3 S p x r → Q x) : WpC Q x := k x h
theorem text_law (L : LText P I) {x1 : Int} {y2 : List Nat} (hS : B8 S) (hp : S.length < 500000) (hpl : p < S.length) (hjo : Out j fid) (hj : e.get j = .cells 332 [.str S, .int .i64 p]) :
    TextRet j e x0 x3 S (p + 1) (cal P I 298 [.ptr j 0, .agg [.int .i64 x0, .int .i64 x1, .str y2, .int .i64 x3]] [] fid e) (txt (S.drop (p + 1))) := by
  have hbig : big = 4294967296 := rfl
  have hw : IntKind.i64.wrap ((p : Int) + 1) = (p : Int) + 1 := wrap_i64 (by omega) (by omega)
  have hgs : ∀ o, (e.set j o).get j = o := fun o => E.get_set_same _ _ _ (by rw [hj]; simp)
  refine cal_wp (Q := fun r => TextRet j e x0 x3 S (p + 1) r (txt (S.drop (p + 1)))) L.i298 L.p298 rfl ?_ ?_
  · cases txt (S.drop (p + 1)) <;> simp [TextRet]
  simp [f298, get_psh, set_psh, hjo.lof, hj, hw]
  simp only [Wp_bind, Wp_leave]
  refine TRes.use (text_loop (j := j) L hS hp rfl rfl hjo rfl rfl (S.length - (p + 1)) (p + 1) _ 0 1 0 [] [] _ rfl (by omega) ?_ ?_ ?_ ?_ ?_ (.inl ⟨rfl, rfl, rfl⟩) ?_ ?_ ?_) ?_
  any_goals (simp [hgs, byteVs]; done)
  · omega
  · simp; omega
  intro r hr
  have hl : Later j (.cells 332 [.str S, .int .i64 (p + 1 : Nat)]) e (e.set j (.cells 332 [.str S, .int .i64 ((p : Int) + 1)])) := later0 ..
  have hne : e.get j ≠ .none := by rw [hj]; simp
  cases ht : txt (S.drop (p + 1)) with
  | some q =>
    rw [ht] at hr
    obtain ⟨s', cnt', live', e', rfl, h1, h2, h3⟩ := hr
    have h1 := hl.trans h1
    simp at h1
    simp [TextRet, h2, h3]
    exact h1
  | none =>
    rw [ht] at hr
    rcases hr with ⟨s', cnt', live', e', o, o', l, rfl, h1, h2, h3⟩ | ⟨s', cnt', live', e', p', rfl, h1, h2, h3, h4, h5⟩
    · have h1 := hl.trans h1
      simp [TextRet, h2, h3]
      exact ⟨_, _, _, _, _, _, ⟨⟨⟨rfl, rfl, rfl, rfl⟩, rfl⟩, _, rfl⟩, _, h1⟩
    · have h1 := hl.trans h1
      have hj' := h1.get hne
      have hr : cnt' < 1048000 := by omega
      simp [TextRet, get_psh, set_psh, hjo.lof, Tm.get_set, h2, h3, h4, hj', locOf, wrong_law L, room, hr]
      exact ⟨_, _, _, _, _, _, ⟨⟨⟨rfl, rfl, rfl, rfl⟩, rfl⟩, _, rfl⟩, _, h1⟩
end Go.Abs.Run
namespace Go.Abs.Run
open Go Go.Abs
attribute [local simp] oM oN oF oE oQ oP oG oL oR oC oX oS oY vi vj vu vz ci cu eI eS eB
attribute [local simp] s0 t0 s1 t1 s2 t2 s3 t3 s4 t4 s5 t5 s6 t6 s7 t7 s8 t8 s9 t9 s10 t10 s11 t11 s12 t12 s13 t13 s14 t14 s15 t15 s16 t16 s17 t17 s18 t18 s19 t19 s20 t20 s21 t21 s22 t22 s23 t23 s24 t24 s25 t25 s26 t26 s27 t27 s28 t28 s29 t29 s30 t30 s31 t31 s32 t32 s33 t33 s34 t34 s35 t35 s36 t36 s37 t37 s38 t38 s39 t39 s40 t40 s41 t41 s42 t42 s43 t43 s44 t44 s45 t45 s46 t46 s47 t47 s48 t48 s49 t49 s50 t50 s51 t51 s52 t52 s53 t53 s54 t54 s55 t55 s56 t56 s57 t57 s58 t58 s59 t59 s60 t60 s61 t61 s62 t62 s63 t63 s64 t64 s65 t65 s66 t66 s67 t67 s68 t68 s69 t69 s70 t70 s71 t71 s72 t72 s73 t73 s74 t74 s75 t75 s76 t76 s77 t77 s78 t78 s79 t79 s80 t80 s81 t81 s82 t82 s83 t83 s84 t84 s85 t85 s86 t86 s87 t87 s88 t88 s89 t89 s90 t90 s91 t91 s92 t92 s93 t93 s94 t94 s95 t95 s96 t96 s97 t97 s98 t98 s99 t99
variable {P : Nat → Option FI} {I : Nat → Option IntrT}
structure LToken (P : Nat → Option FI) (I : Nat → Option IntrT) : Prop extends LText P I where
  p311 : P 311 = some f311
  i311 : I 311 = none
  p312 : P 312 = some f312
  i312 : I 312 = none
  p293 : P 293 = some f293
  i293 : I 293 = none
  p294 : P 294 = some f294
  i294 : I 294 = none
  p263 : P 263 = some f263
  i263 : I 263 = none
  p264 : P 264 = some f264
  i264 : I 264 = none
variable {W : List Lo} {fid : Nat} {e : E} {c : Int}
theorem small_law (L : LToken P I) : cal P I 311 [.int .u8 c] W fid e = .ret (.bool (decide (97 ≤ c) && decide (c ≤ 122))) e := by
  refine cal_of L.i311 L.p311 rfl (by simp) ?_
  by_cases h : 97 ≤ c <;> simp [f311, h]
theorem great_law (L : LToken P I) : cal P I 312 [.int .u8 c] W fid e = .ret (.bool (decide (65 ≤ c) && decide (c ≤ 90))) e := by
  refine cal_of L.i312 L.p312 rfl (by simp) ?_
  by_cases h : 65 ≤ c <;> simp [f312, h]
theorem digit_law (L : LToken P I) : cal P I 294 [.int .u8 c] W fid e = .ret (.bool (decide (48 ≤ c) && decide (c ≤ 57))) e := by
  refine cal_of L.i294 L.p294 rfl (by simp) ?_
  by_cases h : 48 ≤ c <;> simp [f294, h]
theorem letter_law (L : LToken P I) : cal P I 293 [.int .u8 c] W fid e = .ret (.bool ((decide (97 ≤ c) && decide (c ≤ 122)) || (decide (65 ≤ c) && decide (c ≤ 90)))) e := by
  refine cal_of L.i293 L.p293 rfl (by simp) ?_
  cases hb : (decide (97 ≤ c) && decide (c ≤ 122)) <;> simp [f293, small_law L, great_law L, room, hb]
def TokRet (j : Lo) (e : E) (S : List Nat) (p : Nat) (x : CR) : Option (List Nat × Nat) → Prop
  | some (q, m) => ∃ e', x = .ret (.tup [.agg [.int .i64 p, .int .i64 5, .str q, .int .i64 0], .nilp]) e' ∧ Later j (.cells 332 [.str S, .int .i64 (p + 1 + m : Nat)]) e e'
  | none => ∃ (a b d : Int) (y : List Nat) (l : Lo) (e' : E) (o o' : Ob), x = .ret (.tup [.agg [.int .i64 a, .int .i64 b, .str y, .int .i64 d], .ptr l 0]) (e'.addG o') ∧ Later j o e e'
theorem token_law (L : LToken P I) {j : Lo} {p : Nat} {S : List Nat} (hS : B8 S) (hp : S.length < 500000) (hx : S[p]? = some 34) (hjo : Out j fid) (hj : e.get j = .cells 332 [.str S, .int .i64 p]) :
    TokRet j e S p (cal P I 264 [.ptr j 0] [] fid e) (txt (S.drop (p + 1))) := by
  have hpl : p < S.length := (List.getElem?_eq_some_iff.1 hx).1
  refine cal_wp (Q := fun r => TokRet j e S p r (txt (S.drop (p + 1)))) L.i264 L.p264 rfl ?_ ?_
  · cases txt (S.drop (p + 1)) <;> simp [TokRet]
  simp [f264, get_psh, set_psh, hjo.lof, hj, hx, ixsA_of, letter_law L, digit_law L, room]
  simp only [Wp_bind, Wp_leave, Wp_after]
  refine TextRet.use (text_law (j := j) L.toLText hS hp hpl (hjo.child 2 (by decide)) ?_) ?_
  · simp [get_psh, hjo.lof, hj]
  intro x hx
  cases ht : txt (S.drop (p + 1)) with
  | some q =>
    rw [ht] at hx
    obtain ⟨e', rfl, h1⟩ := hx
    obtain ⟨live, e1, rfl, h2⟩ := h1.psh hjo.lof
    simp [TokRet]
    exact h2
  | none =>
    rw [ht] at hx
    obtain ⟨a, b, d, y, l, e', o, o', rfl, h1⟩ := hx
    obtain ⟨live, e1, rfl, h2⟩ := h1.psh hjo.lof
    simp [TokRet]
    exact ⟨_, _, _, _, _, _, ⟨⟨⟨rfl, rfl, rfl, rfl⟩, rfl⟩, _, rfl⟩, _, h2⟩
theorem begins34 (L : LToken P I) : cal P I 263 [.int .u8 34] W fid e = .ret (.bool true) e := by
  refine cal_of L.i263 L.p263 rfl (by simp) ?_
  simp [f263, letter_law L, digit_law L, room]
@[simp] theorem strEq_self (s : List Nat) : strEq s s = true := by induction s with | nil => rfl | cons a s ih => simp [strEq, ih]
theorem TokRet.use {Q : CR → Prop} {x : CR} {j : Lo} {S : List Nat} {p : Nat} {r : Option (List Nat × Nat)} (h : TokRet j e S p x r) (k : ∀ x, TokRet j e S p x r → Q x) : WpC Q x := k x h
def isB8 : List Nat → Bool
  | [] => true
  | a :: l => cond (Nat.blt a 256) (isB8 l) false
theorem isB8_iff {l : List Nat} : isB8 l = true ↔ B8 l := by
  induction l with
  | nil => simp [isB8]
  | cons a l ih =>
    simp only [isB8, B8_cons, blt_dec]
    by_cases h : a < 256 <;> simp [h, ih]
def lenLe : List Nat → Nat → Bool
  | [], _ => true
  | _ :: _, 0 => false
  | _ :: l, n + 1 => lenLe l n
theorem lenLe_iff {l : List Nat} {n : Nat} : lenLe l n = true ↔ l.length ≤ n := by
  induction l generalizing n with
  | nil => simp [lenLe]
  | cons a l ih => cases n <;> simp [lenLe, ih]
def quoteG : List AV → Option AV
  | [.str S] => cond (isB8 S && lenLe S 200000) (some (.str (quoted S))) none
  | _ => none
theorem quoted_length (S : List Nat) : (quoted S).length ≤ 2 * S.length + 2 := by
  have : (S.flatMap quo).length ≤ 2 * S.length := by
    induction S with
    | nil => simp
    | cons a S ih => have := quo_le a; simp only [List.flatMap_cons, List.length_append, List.length_cons]; omega
  simp only [quoted, List.length_cons, List.length_append, List.length_nil]; omega
theorem quoted_B8 {S : List Nat} (hS : B8 S) : B8 (quoted S) := by
  have : B8 (S.flatMap quo) := fun x hx => by
    obtain ⟨a, ha, hx⟩ := List.mem_flatMap.1 hx
    have := hS a ha
    unfold quo at hx
    split at hx
    · simp at hx; omega
    · split at hx <;> (simp at hx; omega)
  simp [quoted, this]
structure LWritten (P : Nat → Option FI) (I : Nat → Option IntrT) : Prop extends LToken P I where
  iQ : I 262 = some (pureI quoteG)
  p220 : P 220 = some f220
  i220 : I 220 = none
theorem written_law (L : LWritten P I) {S : List Nat} (hS : B8 S) (hN : S.length < 200000) :
    ∃ e', cal P I 220 [.agg [.int .i64 0, .int .i64 5, .str S, .int .i64 0]] [] fid e = .ret (.tup [.str (quoted S), .bool (decide (∀ c ∈ S, fine c))]) e' := by
  have hq : ∀ W fid e, cal P I 262 [.str S] W fid e = .ret (.str (quoted S)) e := fun W fid e => cal_intr L.iQ (by
    have h1 := isB8_iff.2 hS
    have h2 := lenLe_iff.2 (show S.length ≤ 200000 by omega)
    simp [pureI, quoteG, h1, h2])
  have hqs : quoted S = 34 :: (S.flatMap quo ++ [34]) := rfl
  have hne : strEq (quoted S) [] = false := rfl
  have h0 : (quoted S)[0]? = some 34 := rfl
  refine cal_wp (Q := fun r => ∃ e', r = .ret (.tup [.str (quoted S), .bool (decide (∀ c ∈ S, fine c))]) e') L.i220 L.p220 rfl (by simp) ?_
  have hql := quoted_length S
  have hqb := quoted_B8 hS
  generalize hgq : quoted S = Q at *
  simp [f220, hq, room, hne, h0, ixsA_of, begins34 L.toLToken]
  simp only [Wp_bind, Wp_leave, Wp_after]
  refine TokRet.use (token_law (j := .lo fid 1 1) (p := 0) L.toLToken hqb (by omega) h0 (Out.own fid 1 1 2) ?_) ?_
  · simp
  intro x hx
  have hd : txt (Q.drop (0 + 1)) = if (∀ c ∈ S, fine c) then some (S, (S.flatMap quo).length + 1) else none := by rw [hqs]; exact txt_quoted S
  rw [hd] at hx
  clear hd
  have hQl : Q.length = (S.flatMap quo).length + 2 := by rw [hqs]; simp only [List.length_cons, List.length_append, List.length_nil]
  clear hqs
  generalize (S.flatMap quo).length = m at *
  have hql : (1 : Int) + ((m : Int) + 1) = (Q.length : Int) := by omega
  by_cases hf : ∀ c ∈ S, fine c
  · rw [if_pos hf] at hx
    obtain ⟨e', rfl, h1⟩ := hx
    obtain ⟨live, e1, rfl⟩ := h1.own
    simp [hf, hql]
    exact hf
  · rw [if_neg hf] at hx
    obtain ⟨a, b, d, y, l, e', o, o', rfl, h1⟩ := hx
    obtain ⟨live, e1, rfl⟩ := h1.own
    simp [hf]
def isFine : List Nat → Bool
  | [] => true
  | a :: l => cond (Nat.beq a 10) (isFine l) (cond (Nat.ble 32 a) (cond (Nat.ble a 126) (isFine l) false) false)
theorem isFine_iff {l : List Nat} : isFine l = decide (∀ c ∈ l, fine c) := by
  induction l with
  | nil => simp [isFine]
  | cons a l ih =>
    simp only [isFine, beq_dec, ble_dec, ih]
    by_cases h : a = 10
    · subst h; simp [fine]
      rfl
    · by_cases h1 : 32 ≤ a
      · by_cases h2 : a ≤ 126
        · simp [h, h1, h2, fine]
          rfl
        · simp [h, h1, h2, fine]
      · simp [h, h1, fine]
def writtenG : List AV → Option AV
  | [.agg [.int .i64 (.ofNat 0), .int .i64 (.ofNat 5), .str S, .int .i64 (.ofNat 0)]] => cond (isB8 S && lenLe S 199999) (some (.tup [.str (quoted S), .bool (isFine S)])) none
  | _ => none
structure LJoin (P : Nat → Option FI) (I : Nat → Option IntrT) : Prop extends LBuilder P I where
  iWr : I 220 = some (pureI writtenG)
  p165 : P 165 = some f165
  i165 : I 165 = none
  p106 : P 106 = some f106
  i106 : I 106 = none
def joined (S : List Nat) : AV :=
  if ∀ c ∈ S, fine c then (if 65536 < (quoted S).length then .tup [.str [], .int .i64 2] else .tup [.str (quoted S), .int .i64 0]) else .tup [.str [], .int .i64 1]
theorem join_law (L : LJoin P I) {S : List Nat} {k : Nat} (hS : B8 S) (hN : S.length < 200000) :
    ∃ e', cal P I 165 [.sl k 4 [.agg [.int .i64 0, .int .i64 5, .str S, .int .i64 0]]] [] fid e = .ret (joined S) e' := by
  have hw : ∀ W fid e, cal P I 220 [.agg [.int .i64 0, .int .i64 5, .str S, .int .i64 0]] W fid e = .ret (.tup [.str (quoted S), .bool (decide (∀ c ∈ S, fine c))]) e := fun W fid e => cal_intr L.iWr (by
    have h1 := isB8_iff.2 hS
    have h2 := lenLe_iff.2 (show S.length ≤ 199999 by omega)
    rw [← isFine_iff]
    show (match writtenG [.agg [.int .i64 (.ofNat 0), .int .i64 (.ofNat 5), .str S, .int .i64 (.ofNat 0)]] with | some v => some (v, e) | none => none) = _
    show (match cond (isB8 S && lenLe S 199999) (some (AV.tup [.str (quoted S), .bool (isFine S)])) none with | some v => some (v, e) | none => none) = _
    rw [h1, h2]; rfl)
  have hql := quoted_length S
  have hqb := quoted_B8 hS
  have hqn : quoted S ≠ [] := by simp [quoted]
  have hout : ∀ c, Out (.lo fid 0 1) (child fid c) := fun c => Out.own fid 0 1 c
  have hbig : big = 4294967296 := rfl
  refine cal_wp (Q := fun r => ∃ e', r = .ret (joined S) e') L.i165 L.p165 rfl (by simp) ?_
  unfold joined
  generalize quoted S = Q at *
  have hqb' : Q.length < big := by omega
  have hqb2 : Q.length < 4294967296 := by omega
  have hw1 : IntKind.i64.wrap 1 = 1 := by decide
  by_cases hf : ∀ c ∈ S, fine c
  · have hfd : decide (∀ c ∈ S, fine c) = true := by simpa using hf
    simp only [if_pos hf]
    by_cases hlen : 65536 < Q.length
    · have hlen' : (65536 : Int) < (Q.length : Int) := by omega
      simp only [if_pos hlen]
      simp [f165]
      rw [lp_eq]
      simp [b165x0, Tm.get_set, hw, hfd, room, iadA_of, lB L.toLBuilder, wS L.toLBuilder, hout, okB_iff, wrB, lnB, Tkt, grow, hqn, hqb', hw1]
      rw [lp_eq]
      simp [b165x0, Tm.get_set, room, iadA_of, lB L.toLBuilder, lnB, hout, hlen', Wp]
    · have hlen' : ¬ (65536 : Int) < (Q.length : Int) := by omega
      simp only [if_neg hlen]
      simp [f165]
      rw [lp_eq]
      simp [b165x0, Tm.get_set, hw, hfd, room, iadA_of, lB L.toLBuilder, wS L.toLBuilder, hout, okB_iff, wrB, lnB, Tkt, grow, hqn, hqb', hw1]
      rw [lp_eq]
      simp [b165x0, Tm.get_set, room, iadA_of, lB L.toLBuilder, sB L.toLBuilder, okS_iff, txB, lnB, hout, hlen', hqn, hqb, hqb2, fresh_odd, Wp]
  · have hfd : decide (∀ c ∈ S, fine c) = false := by simpa using hf
    simp only [if_neg hf]
    simp [f165]
    rw [lp_eq]
    simp [b165x0, Tm.get_set, hw, hfd, room, iadA_of, Wp]
theorem plain_law (L : LJoin P I) {S : List Nat} (hS : B8 S) (hN : S.length < 200000) :
    ∃ e', cal P I 106 [.str S] [] fid e = .ret (.bool (decide (∀ c ∈ S, fine c) && decide (S.length ≤ 4096))) e' := by
  refine cal_wp (Q := fun r => ∃ e', r = .ret (.bool (decide (∀ c ∈ S, fine c) && decide (S.length ≤ 4096))) e') L.i106 L.p106 rfl (by simp) ?_
  simp [f106, room]
  simp only [Wp_bind, Wp_leave, Wp_after]
  refine WpC.use (Post := fun x => ∃ e', x = .ret (joined S) e') (join_law L hS hN) ?_
  rintro x ⟨e', rfl⟩
  have hql : S.length ≤ (quoted S).length := by
    have h1 : ∀ c, 1 ≤ (quo c).length := fun c => by unfold quo; split <;> (try split) <;> simp
    have : S.length ≤ (S.flatMap quo).length := by
      induction S with
      | nil => simp
      | cons a S ih =>
        have := ih (fun x hx => hS x (List.mem_cons_of_mem _ hx)) (by simp only [List.length_cons] at hN; omega)
        have := h1 a
        simp only [List.flatMap_cons, List.length_append, List.length_cons]; omega
    simp only [quoted, List.length_cons, List.length_append, List.length_nil]; omega
  have hql2 := quoted_length S
  unfold joined
  by_cases hf : ∀ c ∈ S, fine c
  · have hfd : decide (∀ c ∈ S, fine c) = true := by simpa using hf
    by_cases hlen : 65536 < (quoted S).length
    · have h4 : ¬ S.length ≤ 4096 := by omega
      have h4' : ¬ (S.length : Int) ≤ 4096 := by omega
      simp only [if_pos hf, if_pos hlen]
      simp [h4, h4']
    · simp only [if_pos hf, if_neg hlen]
      by_cases h4 : S.length ≤ 4096
      · have h4' : (S.length : Int) ≤ 4096 := by omega
        simp [h4, h4', hfd]
      · have h4' : ¬ (S.length : Int) ≤ 4096 := by omega
        simp [h4, h4', hfd]
  · have hfd : decide (∀ c ∈ S, fine c) = false := by simpa using hf
    simp only [if_neg hf]
    simp [hfd]
end Go.Abs.Run
namespace Go.Abs.Run
open Go Go.Abs
attribute [local simp] oM oN oF oE oQ oP oG oL oR oC oX oS oY vi vj vu vz ci cu eI eS eB
attribute [local simp] s0 t0 s1 t1 s2 t2 s3 t3 s4 t4 s5 t5 s6 t6 s7 t7 s8 t8 s9 t9 s10 t10 s11 t11 s12 t12 s13 t13 s14 t14 s15 t15 s16 t16 s17 t17 s18 t18 s19 t19 s20 t20 s21 t21 s22 t22 s23 t23 s24 t24 s25 t25 s26 t26 s27 t27 s28 t28 s29 t29 s30 t30 s31 t31 s32 t32 s33 t33 s34 t34 s35 t35 s36 t36 s37 t37 s38 t38 s39 t39 s40 t40 s41 t41 s42 t42 s43 t43 s44 t44 s45 t45 s46 t46 s47 t47 s48 t48 s49 t49 s50 t50 s51 t51 s52 t52 s53 t53 s54 t54 s55 t55 s56 t56 s57 t57 s58 t58 s59 t59 s60 t60 s61 t61 s62 t62 s63 t63 s64 t64 s65 t65 s66 t66 s67 t67 s68 t68 s69 t69 s70 t70 s71 t71 s72 t72 s73 t73 s74 t74 s75 t75 s76 t76 s77 t77 s78 t78 s79 t79 s80 t80 s81 t81 s82 t82 s83 t83 s84 t84 s85 t85 s86 t86 s87 t87 s88 t88 s89 t89 s90 t90 s91 t91 s92 t92 s93 t93 s94 t94 s95 t95 s96 t96 s97 t97 s98 t98 s99 t99
variable {P : Nat → Option FI} {I : Nat → Option IntrT}
structure LTold (P : Nat → Option FI) (I : Nat → Option IntrT) : Prop extends LBuilder P I where
  p102 : P 102 = some f102
  i102 : I 102 = none
  p38 : P 38 = some f38
  i38 : I 38 = none
variable {W : List Lo} {fid : Nat} {e : E}
theorem out2 (g cnt c a i : Nat) : Out (.lo g a i) (child (child g cnt) c) := fun x hx => by
  simp only [lof_lo, beq_dec, decide_eq_false_iff_not]
  intro h
  have h1 := hx.le
  have h2 := lt_child g cnt
  have h3 := lt_child (child g cnt) c
  omega
def TT (g : Nat) (x0 : Nat × Ob × Ob) (p : Ob) (S : List Nat) (x : CR) : Prop :=
  ∃ k' e1, x = .ret (.bool (decide (S.length ≤ 4096))) (psh ⟨g, [x0, (1, .cells 203 [.ptr (.lo g 1 1) 0, .sl k' 1 (byteVs S)], p)], [k']⟩ e1) ∧ k' % 2 = 1 ∧ 2 ≤ k'
theorem textT_law (L : LTold P I) {g : Nat} {x0 : Nat × Ob × Ob} {p : Ob} {dp : AV} {c n : Int} {S : List Nat} {z : Nat} (hS : S ≠ []) (hN : S.length < big) (hg : ¬ fid = g) (hout : ∀ c, Out (.lo g 1 1) (child fid c)) :
    TT g x0 p S (cal P I 102 [dp, .agg [.int .i64 3, .int .i64 c, .int .i64 n, .str S, .sl 1 z []], .ptr (.lo g 1 1) 0] [] fid (psh ⟨g, [x0, (1, .cells 203 [.nilp, .sl 1 0 []], p)], []⟩ e)) := by
  have hle : ((S.length : Int) ≤ 4096) ↔ S.length ≤ 4096 := by omega
  refine cal_wp (Q := TT g x0 p S) L.i102 L.p102 rfl (by simp [TT]) ?_
  simp [f102, room, wS L.toLBuilder, lB L.toLBuilder, hout, hS, okB_iff, wrB, lnB, Tkt, grow, hN, hle, hg]
  simp [Wp, TT, fresh_odd, and_assoc]
theorem TT.use {Q : CR → Prop} {g : Nat} {x0 : Nat × Ob × Ob} {p : Ob} {S : List Nat} {x : CR} (h : TT g x0 p S x) (k : ∀ x, TT g x0 p S x → Q x) : WpC Q x := k x h
theorem told_law (L : LTold P I) {dp : AV} {c n : Int} {S : List Nat} {z : Nat} (hS : S ≠ []) (hN : S.length ≤ 4096) (h8 : B8 S) :
    ∃ e', cal P I 38 [dp, .agg [.int .i64 3, .int .i64 c, .int .i64 n, .str S, .sl 1 z []]] [] fid e = .ret (.tup [.str S, .int .i64 0]) e' := by
  have hbig : big = 4294967296 := rfl
  refine cal_wp (Q := fun r => ∃ e', r = .ret (.tup [.str S, .int .i64 0]) e') L.i38 L.p38 rfl (by simp) ?_
  simp [f38, room]
  simp only [Wp_bind, Wp_leave, Wp_after]
  refine TT.use (textT_law L hS (by omega) (fun h => by have := lt_child fid 0; omega) fun c => out2 fid 0 c 1 1) ?_
  rintro x ⟨k', e1, rfl, h1, h2⟩
  have hout : ∀ c, Out (.lo fid 1 1) (child fid c) := fun c => Out.own fid 1 1 c
  have hlt : S.length < 4294967296 := by omega
  simp [hN, room, sB L.toLBuilder, hout, okS_iff, txB, h1, h2, hS, h8, hlt]
end Go.Abs.Run
namespace Go.Abs.Run
open Go Go.Abs
variable {prog : Program} [GOK prog] [GPlain]
def plainG : List AV → Option AV
  | [.str S] => cond (isB8 S && lenLe S 199999) (some (.bool (isFine S && lenLe S 4096))) none
  | _ => none
def toldG : List AV → Option AV
  | [.ptr _ _, .agg [.int .i64 (.ofNat 3), .int .i64 _, .int .i64 _, .str S, .sl 1 _ []]] => cond (isB8 S && (lenLe S 4096 && !S.isEmpty)) (some (.tup [.str S, .int .i64 (.ofNat 0)])) none
  | _ => none
theorem fg_same {l : List AV} (h : ∀ a ∈ l, Fg a a) : ∀ (i : Nat) (a a' : AV), l[i]? = some a → l[i]? = some a' → Fg a a' := fun i a a' h1 h2 => by
  rw [h1] at h2; cases h2; exact h a (List.mem_of_getElem? h1)
theorem quote_iok {T : FuncId → Option FI} {I : FuncId → Option IntrT} (hT : TabOK prog T) (hI : IntrOK prog I ∧ IntrPure I) (hm : prog.follows .mixedOrders = true) (L : LQuote T I) : IOK prog 262 (pureI quoteG) :=
  iso_ok hT hI hm fun args v h => by
    unfold quoteG at h
    split at h
    · next S =>
      obtain ⟨h1, h2⟩ := cond_some h
      cases h2
      simp only [Bool.and_eq_true, isB8_iff, lenLe_iff] at h1
      obtain ⟨e', h3⟩ := quote_law (W := []) (fid := 1) (e := ⟨[], [], []⟩) L h1.1 (by omega) (by simp) (by simp)
      exact ⟨.str _, [.str S], e', rfl, fg_same (by simp; exact .str S), h3⟩
    · cases h
theorem written_iok {T : FuncId → Option FI} {I : FuncId → Option IntrT} (hT : TabOK prog T) (hI : IntrOK prog I ∧ IntrPure I) (hm : prog.follows .mixedOrders = true) (L : LWritten T I) : IOK prog 220 (pureI writtenG) :=
  iso_ok hT hI hm fun args v h => by
    unfold writtenG at h
    split at h
    · next S =>
      obtain ⟨h1, h2⟩ := cond_some h
      cases h2
      simp only [Bool.and_eq_true, isB8_iff, lenLe_iff] at h1
      obtain ⟨e', h3⟩ := written_law (fid := 1) (e := ⟨[], [], []⟩) L h1.1 (by omega)
      rw [← isFine_iff] at h3
      refine ⟨.tup (by simp; exact ⟨.str _, .bool _⟩), [.agg [.int .i64 0, .int .i64 5, .str S, .int .i64 0]], e', rfl, fg_same ?_, h3⟩
      simp
      exact .agg rfl (fg_same (by simp; exact ⟨.int _ _, .int _ _, .str _, .int _ _⟩))
    · cases h
theorem plain_iok {T : FuncId → Option FI} {I : FuncId → Option IntrT} (hT : TabOK prog T) (hI : IntrOK prog I ∧ IntrPure I) (hm : prog.follows .mixedOrders = true) (L : LJoin T I) : IOK prog 106 (pureI plainG) :=
  iso_ok hT hI hm fun args v h => by
    unfold plainG at h
    split at h
    · next S =>
      obtain ⟨h1, h2⟩ := cond_some h
      cases h2
      simp only [Bool.and_eq_true, isB8_iff, lenLe_iff] at h1
      obtain ⟨e', h3⟩ := plain_law (fid := 1) (e := ⟨[], [], []⟩) L h1.1 (by omega)
      have h4 : decide (S.length ≤ 4096) = lenLe S 4096 := by
        cases h : lenLe S 4096 with
        | true => simpa using lenLe_iff.1 h
        | false => simp only [decide_eq_false_iff_not]; intro h'; rw [lenLe_iff.2 h'] at h; cases h
      rw [← isFine_iff, h4] at h3
      exact ⟨.bool _, [.str S], e', rfl, fg_same (by simp; exact .str S), h3⟩
    · cases h
theorem told_iok {T : FuncId → Option FI} {I : FuncId → Option IntrT} (hT : TabOK prog T) (hI : IntrOK prog I ∧ IntrPure I) (hm : prog.follows .mixedOrders = true) (L : LTold T I) : IOK prog 38 (pureI toldG) :=
  iso_ok hT hI hm fun args v h => by
    unfold toldG at h
    split at h
    · next l o c n S z =>
      obtain ⟨h1, h2⟩ := cond_some h
      cases h2
      simp only [Bool.and_eq_true, isB8_iff, lenLe_iff] at h1
      have hS : S ≠ [] := by intro h; subst h; simp at h1
      obtain ⟨e', h3⟩ := told_law (dp := .dp 0 []) (c := c) (n := n) (z := z) (fid := 1) (e := ⟨[], [], []⟩) L hS h1.2.1 h1.1
      refine ⟨.tup (by simp; exact ⟨.str _, .int _ _⟩), [.dp 0 [], .agg [.int .i64 3, .int .i64 c, .int .i64 n, .str S, .sl 1 z []]], e', rfl, fun i a a' g1 g2 => ?_, h3⟩
      match i, g1, g2 with
      | 0, g1, g2 => cases g1; cases g2; exact .ptr _ _
      | 1, g1, g2 =>
        cases g1; cases g2
        exact .agg rfl (fg_same (by simp; exact ⟨.int _ _, .int _ _, .int _ _, .str _, .sl (k := 1) rfl (by simp) (by simp)⟩))
    · cases h
end Go.Abs.Run
namespace Go.Abs.Run
open Go Go.Abs
def WOut (W : List Lo) (fid : Nat) : Prop := ∀ x, Sub fid x → ∀ a i, free W (.lo x a i) = true
theorem WOut.child {W : List Lo} {fid : Nat} (h : WOut W fid) (c : Nat) (hc : c < cap) : WOut W (child fid c) := fun x hx a i => h x ((Sub.step .refl hc).trans hx) a i
theorem WOut.own {W : List Lo} {fid : Nat} (h : WOut W fid) (a i : Nat) : free W (.lo fid a i) = true := h fid .refl a i
theorem WOut.nil (fid : Nat) : WOut [] fid := fun _ _ _ _ => free_nil _
theorem strEq_iff {a b : List Nat} : strEq a b = decide (a = b) := by
  induction a generalizing b with
  | nil => cases b <;> simp [strEq]
  | cons x a ih =>
    cases b with
    | nil => simp [strEq]
    | cons y b =>
      simp only [strEq, beq_dec, ih]
      by_cases h : x = y <;> simp [h]
theorem iadA_nat (z : Nat) (k : IntKind) (n : Nat) : iadA z (.int k (n : Int)) = iadN z n := rfl
theorem tick_even (cnt : Nat) : tick false cnt % 2 = 0 := by
  unfold tick
  cases h : Nat.beq (cnt % 2) (cond false 1 0) with
  | true => have := Nat.eq_of_beq_eq_true h; simpa using this
  | false => have := Nat.ne_of_beq_eq_false h; simp at this; show (cnt + 1) % 2 = 0; omega
theorem fresh_even (fid c : Nat) (h : c % 2 = 0) : fresh fid c % 2 = 0 := by simp only [fresh, base]; omega
@[simp] theorem fresh_tickE (fid cnt : Nat) : fresh fid (tick false cnt) % 2 = 0 := fresh_even _ _ (tick_even cnt)
noncomputable def upE (k : Nat) (e : E) : E := match e with | ⟨[], glo, gl⟩ => ⟨[], glo, gl⟩ | ⟨g :: rest, glo, gl⟩ => ⟨⟨g.fid, g.objs, k :: g.live⟩ :: rest, glo, gl⟩
@[simp] theorem upE_psh (k : Nat) (g : FS) (e : E) : upE k (psh g e) = psh ⟨g.fid, g.objs, k :: g.live⟩ e := rfl
theorem pop_upK (k : Nat) (f : FS) (e : E) : pop (upK k (psh f e)) = cond (liveIn f.live k) (upE k e) e := upK_psh f e k
def Kin (fid k : Nat) : Prop := ∃ y d, Sub fid y ∧ d < cap ∧ k = fresh y d
theorem Kin.up {fid c k : Nat} (hc : c < cap) (h : Kin (child fid c) k) : Kin fid k := by
  obtain ⟨y, d, h1, h2, h3⟩ := h; exact ⟨y, d, (Sub.step .refl hc).trans h1, h2, h3⟩
end Go.Abs.Run
namespace Go.Abs.Run
open Go Go.Abs
attribute [local simp] oM oN oF oE oQ oP oG oL oR oC oX oS oY vi vj vu vz ci cu eI eS eB
attribute [local simp] s0 t0 s1 t1 s2 t2 s3 t3 s4 t4 s5 t5 s6 t6 s7 t7 s8 t8 s9 t9 s10 t10 s11 t11 s12 t12 s13 t13 s14 t14 s15 t15 s16 t16 s17 t17 s18 t18 s19 t19 s20 t20 s21 t21 s22 t22 s23 t23 s24 t24 s25 t25 s26 t26 s27 t27 s28 t28 s29 t29 s30 t30 s31 t31 s32 t32 s33 t33 s34 t34 s35 t35 s36 t36 s37 t37 s38 t38 s39 t39 s40 t40 s41 t41 s42 t42 s43 t43 s44 t44 s45 t45 s46 t46 s47 t47 s48 t48 s49 t49 s50 t50 s51 t51 s52 t52 s53 t53 s54 t54 s55 t55 s56 t56 s57 t57 s58 t58 s59 t59
variable {P : Nat → Option FI} {I : Nat → Option IntrT}
theorem dropK_not {l : List Nat} {k : Nat} (h : liveIn l k = false) : dropK l k = l := by
  induction l with
  | nil => rfl
  | cons a l ih =>
    simp only [liveIn, beq_dec] at h
    by_cases h1 : a = k
    · simp [h1] at h
    · simp [h1] at h; simp [dropK, h1, ih h]
theorem stkKill_map (k : Nat) : ∀ stk : List FS, stkKill stk k = stk.map fun f => ⟨f.fid, f.objs, dropK f.live k⟩
  | [] => rfl
  | f :: r => by
    simp only [stkKill, List.map_cons, stkKill_map k r]
    cases h : liveIn f.live k with
    | true => rfl
    | false => simp [dropK_not h]
theorem kill_bear (e : E) (k j : Nat) (l : Lo) : (e.bear k l).kill j = cond (decide (k = j)) (e.kill j) ((e.kill j).bear k l) := by
  obtain ⟨stk, glo, gl⟩ := e
  cases l with
  | gl i => by_cases h : k = j <;> simp [E.bear, E.kill, dropK, h]
  | lo g a i =>
    have key : stkKill (stkBorn stk g k) j = cond (decide (k = j)) (stkKill stk j) (stkBorn (stkKill stk j) g k) := by
      simp only [stkKill_map]
      induction stk with
      | nil => cases decide (k = j) <;> rfl
      | cons f r ih =>
        simp only [stkBorn, List.map_cons]
        cases hf : Nat.beq f.fid g with
        | true => by_cases h : k = j <;> simp [dropK, h]
        | false =>
          simp only [cond_false, List.map_cons, ih]
          cases decide (k = j) <;> rfl
    simp only [E.bear, E.kill, key]
    cases decide (k = j) <;> rfl
noncomputable def bearL : List Nat → Lo → E → E
  | [], _, e => e
  | k :: ks, l, e => (bearL ks l e).bear k l
theorem kill_bearL (bs : List Nat) (l : Lo) (j : Nat) (e : E) : (bearL bs l e).kill j = bearL (dropK bs j) l (e.kill j) := by
  induction bs with
  | nil => rfl
  | cons k bs ih =>
    simp only [bearL, kill_bear, ih, dropK, beq_dec]
    by_cases h : k = j <;> simp [h, bearL]
theorem killL_bearL (ks bs : List Nat) (l : Lo) (e : E) : killL ks (bearL bs l e) = bearL (dropL ks bs) l (killL ks e) := by
  induction ks generalizing bs e with
  | nil => rfl
  | cons k ks ih => rw [killL, killL, kill_bearL, ih]; rfl
theorem bear_set (e : E) (k : Nat) (l : Lo) (o : Ob) : (e.set l o).bear k l = (e.bear k l).set l o := by
  obtain ⟨stk, glo, gl⟩ := e
  cases l with
  | gl i => rfl
  | lo g a i =>
    have : stkBorn (stkSet stk g a i o) g k = stkSet (stkBorn stk g k) g a i o := by
      induction stk with
      | nil => rfl
      | cons f r ih =>
        simp only [stkSet, stkBorn]
        cases hf : Nat.beq f.fid g with
        | true =>
          simp only [cond_true, stkBorn, fsSet_fid, hf, stkSet]
          congr 1
          unfold fsSet
          simp only
          cases f.objs[a]? with
          | none => rfl
          | some x =>
            obtain ⟨n, c, p⟩ := x
            simp only
            cases Nat.beq n i with
            | true => rfl
            | false => cases Nat.beq n (i + 1) <;> rfl
        | false => simp only [cond_false, stkBorn, hf, stkSet, ih]
    simp only [E.set, E.bear, this]
theorem bearL_set (bs : List Nat) (e : E) (l : Lo) (o : Ob) : bearL bs l (e.set l o) = (bearL bs l e).set l o := by
  induction bs with
  | nil => rfl
  | cons k bs ih => rw [bearL, ih, bear_set, bearL]
theorem bearL_app (a b : List Nat) (l : Lo) (e : E) : bearL a l (bearL b l e) = bearL (a ++ b) l e := by
  induction a with
  | nil => rfl
  | cons k a ih => rw [bearL, ih]; rfl
theorem get_bearL (bs : List Nat) (e : E) (l l' : Lo) : (bearL bs l e).get l' = e.get l' := by
  induction bs with
  | nil => rfl
  | cons k bs ih => rw [bearL, E.get_bear, ih]
def Chg (g : Nat) (l : Lo) (e e' : E) : Prop := ∃ ks bs o, e' = (bearL bs l (killL ks e)).set l o ∧ ∀ k ∈ ks, Kin g k
theorem Chg.refl {g : Nat} {l : Lo} {e : E} : Chg g l e e := ⟨[], [], e.get l, by rw [killL, bearL, set_self rfl], by simp⟩
theorem Chg.trans {g : Nat} {l : Lo} {a b c : E} (h : Chg g l a b) (h' : Chg g l b c) : Chg g l a c := by
  obtain ⟨ks, bs, o, rfl, hk⟩ := h
  obtain ⟨ks', bs', o', rfl, hk'⟩ := h'
  refine ⟨ks ++ ks', bs' ++ dropL ks' bs, o', ?_, fun k hk2 => (List.mem_append.1 hk2).elim (hk k) (hk' k)⟩
  rw [killL_set, bearL_set, set_set, killL_bearL, bearL_app, killL_app]
theorem Chg.get {g : Nat} {l l' : Lo} {e e' : E} (h : Chg g l e e') (hl : l' ≠ l) : e'.get l' = e.get l' := by
  obtain ⟨ks, bs, o, rfl, _⟩ := h
  rw [E.get_set_ne _ _ _ _ (Ne.symm hl), get_bearL, get_killL]
theorem bearL_psh {bs : List Nat} {f : FS} {e : E} {l : Lo} (h : lof l f.fid = false) : bearL bs l (psh f e) = psh f (bearL bs l e) := by
  induction bs with
  | nil => rfl
  | cons k bs ih => rw [bearL, ih, bear_psh h, bearL]
theorem dropL_nil (ks : List Nat) : dropL ks [] = [] := by induction ks with | nil => rfl | cons k ks ih => exact ih
theorem Chg.psh {g : Nat} {l : Lo} {fid : Nat} {objs : List (Nat × Ob × Ob)} {e e' : E} (h : Chg g l (Abs.psh ⟨fid, objs, []⟩ e) e') (hl : lof l fid = false) : ∃ e1, e' = Abs.psh ⟨fid, objs, []⟩ e1 ∧ Chg g l e e1 := by
  obtain ⟨ks, bs, o, rfl, hk⟩ := h
  refine ⟨_, ?_, ks, bs, o, rfl, hk⟩
  rw [killL_psh, dropL_nil, bearL_psh hl, set_psh hl]
def Bd (g : Nat) (l : Lo) (b : List Nat) (e : E) : Prop :=
  ∃ a k z, e.get l = .cells 203 [a, .sl k z (byteVs b)] ∧ (((a = .nilp ∨ a = .ptr l 0) ∧ k = 1 ∧ z = 0 ∧ b = []) ∨ (a = .ptr l 0 ∧ z = 1 ∧ k % 2 = 1 ∧ 2 ≤ k ∧ b ≠ [] ∧ e.live k = true ∧ Kin g k))
theorem Bd.psh_iff {g : Nat} {l : Lo} {b : List Nat} {fid : Nat} {objs : List (Nat × Ob × Ob)} {e : E} (hl : lof l fid = false) : Bd g l b (Abs.psh ⟨fid, objs, []⟩ e) ↔ Bd g l b e := by
  unfold Bd
  rw [get_psh hl]
  simp only [live_psh, liveIn, Bool.false_or]
theorem live_bear (e : E) (k : Nat) {l : Lo} (h : e.get l ≠ .none) : (e.bear k l).live k = true := by
  obtain ⟨stk, glo, gl⟩ := e
  cases l with
  | gl i => simp [E.bear, E.live, liveIn]
  | lo g a i =>
    have : stkLive (stkBorn stk g k) k = true := by
      simp only [E.get] at h
      induction stk with
      | nil => exact absurd rfl h
      | cons f r ih =>
        simp only [stkBorn]
        cases hf : Nat.beq f.fid g with
        | true => simp [stkLive, liveIn]
        | false =>
          rw [stkGet, hf] at h
          simp only [cond_false] at h ⊢
          simp only [stkLive, ih h]
          cases liveIn f.live k <;> rfl
    simp [E.bear, E.live, this]
theorem live_set (e : E) (l : Lo) (o : Ob) (k : Nat) : (e.set l o).live k = e.live k := by
  obtain ⟨stk, glo, gl⟩ := e
  cases l with
  | gl i => rfl
  | lo g a i =>
    have : stkLive (stkSet stk g a i o) k = stkLive stk k := by
      induction stk with
      | nil => rfl
      | cons f r ih =>
        simp only [stkSet]
        cases hf : Nat.beq f.fid g with
        | true => simp only [cond_true, stkLive, fsSet_live]
        | false => simp only [cond_false, stkLive, ih]
    simp [E.set, E.live, this]
variable {W : List Lo} {fid : Nat} {e : E}
def Wr (g : Nat) (l : Lo) (b : List Nat) (e : E) (v : AV) (x : CR) : Prop := ∃ e', x = .ret v e' ∧ Bd g l b e' ∧ Chg g l e e'
theorem grow_chg {g : Nat} {l : Lo} {k k' : Nat} {o : Ob} (hk : k = 1 ∨ Kin g k) (hk' : Kin g k') : Chg g l e ((grow e k k' l).set l o) := by
  unfold grow
  by_cases h : k = 1
  · subst h
    exact ⟨[k'], [k'], o, rfl, by simpa using hk'⟩
  · refine ⟨[k, k'], [k'], o, by simp [h, killL, bearL], ?_⟩
    intro j hj
    simp at hj
    rcases hj with rfl | rfl
    · exact hk.resolve_left h
    · exact hk'
theorem grow_bd {g : Nat} {l : Lo} {k k' : Nat} {b : List Nat} (hb : b ≠ []) (h1 : k' % 2 = 1) (h2 : 2 ≤ k') (hk' : Kin g k') (hn : e.get l ≠ .none) :
    Bd g l b ((grow e k k' l).set l (.cells 203 [.ptr l 0, .sl k' 1 (byteVs b)])) := by
  have hx : ∀ e : E, e.get l ≠ .none → ((e.kill k').bear k' l).get l ≠ .none := fun e h => by rw [E.get_bear, E.get_kill]; exact h
  have hg : (grow e k k' l).get l ≠ .none := by
    unfold grow
    cases Nat.beq k 1
    · exact hx _ (by simpa using hn)
    · exact hx _ (by simpa using hn)
  refine ⟨.ptr l 0, k', 1, E.get_set_same _ _ _ hg, .inr ⟨rfl, rfl, h1, h2, hb, ?_, hk'⟩⟩
  rw [live_set]
  unfold grow
  exact live_bear _ _ (by rw [E.get_kill]; cases Nat.beq k 1 <;> simpa using hn)
theorem writeString_none (L : LBuilder P I) {l : Lo} {a : AV} {k z : Nat} {b : List AV} (h1 : e.get l = .cells 203 [a, .sl k z b]) (ha : a = .nilp ∧ k = 1 ∨ a = .ptr l 0) (hf : Out l fid) (hW : free W l = true) (hk : 2 ≤ k → e.live k = true) :
    cal P I 160 [.ptr l 0, .str []] W fid e = .ret (.tup [.int .i64 0, .nili]) ((cond (Nat.ble 2 k) ((e.kill k).bear k l) e).set l (.cells 203 [.ptr l 0, .sl k z b])) := by
  refine cal_wp (Q := fun r => r = .ret (.tup [.int .i64 0, .nili]) ((cond (Nat.ble 2 k) ((e.kill k).bear k l) e).set l (.cells 203 [.ptr l 0, .sl k z b]))) L.i160 L.p160 rfl (by simp) ?_
  have hn : e.get l ≠ .none := by rw [h1]; simp
  rcases ha with ⟨rfl, rfl⟩ | rfl
  · have hcc : ∀ W f x y, lof l f = false → free W l = true → cal P I 216 [.ptr l 0] W f (psh ⟨fid, x, y⟩ e) = .ret (.tup []) (psh ⟨fid, x, y⟩ (e.set l (.cells 203 [.ptr l 0, .sl 1 z b]))) := fun W f x y hf' hW' => by
      rw [check_nil L (x := .sl 1 z b) (by rw [get_psh (by simpa using hf.lof)]; exact h1) hf' hW', set_psh (by simpa using hf.lof)]
    have h2 := E.get_set_same e l (.cells 203 [.ptr l 0, .sl 1 z b]) hn
    simp [f160, get_psh, set_psh, hf.lof, (hf.child 0 (by decide)).lof, h1, h2, hW, hcc, elems, elemsL, appE, appN, byteVs, room]
    simp [Wp]
  · have hcc : ∀ W f x y, lof l f = false → cal P I 216 [.ptr l 0] W f (psh ⟨fid, x, y⟩ e) = .ret (.tup []) (psh ⟨fid, x, y⟩ e) := fun W f x y hf' => check_ptr L (x := .sl k z b) (by rw [get_psh (by simpa using hf.lof)]; exact h1) hf'
    by_cases h2 : 2 ≤ k
    · have h3 := hk h2
      simp [f160, get_psh, set_psh, bear_psh, hf.lof, (hf.child 0 (by decide)).lof, h1, hW, hcc, elems, elemsL, appE, appN, byteVs, room, h2, h3]
      simp [Wp]
    · simp [f160, get_psh, set_psh, hf.lof, (hf.child 0 (by decide)).lof, h1, hW, hcc, elems, elemsL, appE, appN, byteVs, room, h2]
      simp [Wp]
theorem wr_string (L : LBuilder P I) {g : Nat} {l : Lo} {b c : List Nat} (hB : Bd g l b e) (hf : Out l fid) (hW : free W l = true) (hg : Sub g fid) (hb : b.length + c.length < big) :
    Wr g l (b ++ c) e (.tup [.int .i64 c.length, .nili]) (cal P I 160 [.ptr l 0, .str c] W fid e) := by
  have hkn : Kin g (fresh fid 1) := ⟨fid, 1, hg, by decide, rfl⟩
  obtain ⟨a, k, z, h1, h2⟩ := hB
  have hn : e.get l ≠ .none := by rw [h1]; simp
  by_cases hc : c = []
  · subst hc
    have hk : a = .nilp ∧ k = 1 ∨ a = .ptr l 0 := by
      rcases h2 with ⟨h | h, h3, _⟩ | ⟨h, _⟩
      · exact .inl ⟨h, h3⟩
      · exact .inr h
      · exact .inr h
    have hl : 2 ≤ k → e.live k = true := fun h => by
      rcases h2 with ⟨_, h3, _⟩ | ⟨_, _, _, _, _, h3, _⟩
      · omega
      · exact h3
    rw [writeString_none L h1 hk hf hW hl]
    have hg' : (cond (Nat.ble 2 k) ((e.kill k).bear k l) e).get l ≠ .none := by
      cases Nat.ble 2 k
      · exact hn
      · simp only [cond_true, E.get_bear, E.get_kill]; exact hn
    refine ⟨_, rfl, ?_, ?_⟩
    · rw [List.append_nil]
      refine ⟨.ptr l 0, k, z, E.get_set_same _ _ _ hg', ?_⟩
      rcases h2 with ⟨_, rfl, rfl, rfl⟩ | ⟨rfl, rfl, h3, h4, h5, h6, h7⟩
      · exact .inl ⟨.inr rfl, rfl, rfl, rfl⟩
      · refine .inr ⟨rfl, rfl, h3, h4, h5, ?_, h7⟩
        rw [live_set]
        have : Nat.ble 2 k = true := by simpa using h4
        rw [this]
        exact live_bear _ _ (by rw [E.get_kill]; exact hn)
    · rcases h2 with ⟨_, rfl, rfl, rfl⟩ | ⟨rfl, rfl, h3, h4, h5, h6, h7⟩
      · exact ⟨[], [], _, rfl, by simp⟩
      · have : Nat.ble 2 k = true := by simpa using h4
        rw [this]
        exact ⟨[k], [k], _, rfl, by simpa using h7⟩
  rcases h2 with ⟨ha, rfl, rfl, rfl⟩ | ⟨rfl, rfl, h3, h4, h5, h6, h7⟩
  · rcases ha with rfl | rfl
    · rw [writeString_nil L (by simpa [byteVs] using h1) hc (by simpa using hb) hf hW]
      have hn2 : (e.set l (.cells 203 [.ptr l 0, .sl 1 0 []])).get l ≠ .none := by rw [E.get_set_same _ _ _ hn]; simp
      refine ⟨_, rfl, by simpa using grow_bd (e := e.set l (.cells 203 [.ptr l 0, .sl 1 0 []])) (k := 1) hc (fresh_odd fid) (fresh_ge fid 1) hkn hn2, ?_⟩
      exact Chg.trans ⟨[], [], .cells 203 [.ptr l 0, .sl 1 0 []], rfl, by simp⟩ (grow_chg (.inl rfl) hkn)
    · rw [writeString_ptr L h1 (.inl ⟨rfl, rfl, rfl⟩) hc (by simpa using hb) hf hW]
      exact ⟨_, rfl, by simpa [byteVs] using grow_bd (e := e) (k := 1) hc (fresh_odd fid) (fresh_ge fid 1) hkn hn, grow_chg (.inl rfl) hkn⟩
  · rw [writeString_ptr L h1 (.inr ⟨rfl, h3, h4, h6⟩) hc (by simpa using hb) hf hW]
    exact ⟨_, rfl, by simpa using grow_bd (e := e) (k := k) (b := b ++ c) (by simp [h5]) (fresh_odd fid) (fresh_ge fid 1) hkn hn, grow_chg (.inr h7) hkn⟩
theorem wr_byte (L : LBuilder P I) {g : Nat} {l : Lo} {b : List Nat} {c : Nat} (hB : Bd g l b e) (hf : Out l fid) (hW : free W l = true) (hg : Sub g fid) (hb : b.length + 1 < big) :
    Wr g l (b ++ [c]) e .nili (cal P I 162 [.ptr l 0, .int .u8 c] W fid e) := by
  have hkn : Kin g (fresh fid 1) := ⟨fid, 1, hg, by decide, rfl⟩
  obtain ⟨a, k, z, h1, h2⟩ := hB
  have hn : e.get l ≠ .none := by rw [h1]; simp
  have hc : [c] ≠ [] := by simp
  rcases h2 with ⟨ha, rfl, rfl, rfl⟩ | ⟨rfl, rfl, h3, h4, h5, h6, h7⟩
  · rcases ha with rfl | rfl
    · rw [writeByte_nil L (by simpa [byteVs] using h1) hf hW]
      have hn2 : (e.set l (.cells 203 [.ptr l 0, .sl 1 0 []])).get l ≠ .none := by rw [E.get_set_same _ _ _ hn]; simp
      refine ⟨_, rfl, by simpa [byteVs] using grow_bd (e := e.set l (.cells 203 [.ptr l 0, .sl 1 0 []])) (k := 1) hc (fresh_odd fid) (fresh_ge fid 1) hkn hn2, ?_⟩
      exact Chg.trans ⟨[], [], .cells 203 [.ptr l 0, .sl 1 0 []], rfl, by simp⟩ (grow_chg (.inl rfl) hkn)
    · rw [writeByte_ptr L h1 (.inl ⟨rfl, rfl, rfl⟩) (by simpa using hb) hf hW]
      exact ⟨_, rfl, by simpa [byteVs] using grow_bd (e := e) (k := 1) hc (fresh_odd fid) (fresh_ge fid 1) hkn hn, grow_chg (.inl rfl) hkn⟩
  · rw [writeByte_ptr L h1 (.inr ⟨rfl, h3, h4, h6⟩) (by simpa using hb) hf hW, byteVs_snoc]
    exact ⟨_, rfl, by simpa using grow_bd (e := e) (k := k) (b := b ++ [c]) (by simp [h5]) (fresh_odd fid) (fresh_ge fid 1) hkn hn, grow_chg (.inr h7) hkn⟩
theorem bd_len (L : LBuilder P I) {g : Nat} {l : Lo} {b : List Nat} (hB : Bd g l b e) (hf : lof l fid = false) :
    cal P I 163 [.ptr l 0] W fid e = .ret (.int .i64 b.length) e := by
  obtain ⟨a, k, z, h1, _⟩ := hB
  rw [len_law L h1 hf, byteVs_length]
theorem bd_string (L : LBuilder P I) {g : Nat} {l : Lo} {b : List Nat} (hB : Bd g l b e) (hf : lof l fid = false) (h8 : B8 b) (hb : b.length < 4294967296) :
    cal P I 103 [.ptr l 0] W fid e = .ret (.str b) e := by
  obtain ⟨a, k, z, h1, h2⟩ := hB
  refine string_law L h1 ?_ h8 hb hf
  rcases h2 with ⟨_, h3, h4, h5⟩ | ⟨_, h3, h4, h5, h6, _⟩
  · exact .inl ⟨h3, h4, h5⟩
  · exact .inr ⟨h3, h4, h5, h6⟩
def WrP (g : Nat) (l : Lo) (b : List Nat) (fid : Nat) (objs : List (Nat × Ob × Ob)) (e : E) (v : AV) (x : CR) : Prop := ∃ e', x = .ret v (psh ⟨fid, objs, []⟩ e') ∧ Bd g l b e' ∧ Chg g l e e'
theorem WrP.use {Q : CR → Prop} {g : Nat} {l : Lo} {b : List Nat} {fid : Nat} {objs : List (Nat × Ob × Ob)} {e : E} {v : AV} {x : CR} (h : WrP g l b fid objs e v x) (k : ∀ e', Bd g l b e' → Chg g l e e' → Q (.ret v (psh ⟨fid, objs, []⟩ e'))) : WpC Q x := by
  obtain ⟨e', rfl, h1, h2⟩ := h; exact k e' h1 h2
theorem Wr.psh {g : Nat} {l : Lo} {b : List Nat} {objs : List (Nat × Ob × Ob)} {v : AV} {x : CR} (h : Wr g l b (Abs.psh ⟨fid, objs, []⟩ e) v x) (hl : lof l fid = false) : WrP g l b fid objs e v x := by
  obtain ⟨e', rfl, h1, h2⟩ := h
  obtain ⟨e1, rfl, h3⟩ := h2.psh hl
  exact ⟨e1, rfl, (Bd.psh_iff hl).1 h1, h3⟩
theorem wp_string (L : LBuilder P I) {g cnt : Nat} {l : Lo} {b c : List Nat} {objs : List (Nat × Ob × Ob)} (hB : Bd g l b e) (hf : Out l fid) (hW : free W l = true) (hg : Sub g fid) (hcnt : cnt < cap) (hb : b.length + c.length < big) :
    WrP g l (b ++ c) fid objs e (.tup [.int .i64 c.length, .nili]) (cal P I 160 [.ptr l 0, .str c] W (child fid cnt) (Abs.psh ⟨fid, objs, []⟩ e)) :=
  (wr_string L ((Bd.psh_iff hf.lof).2 hB) (hf.child cnt hcnt) hW (hg.trans (.step .refl hcnt)) hb).psh hf.lof
theorem wp_byte (L : LBuilder P I) {g cnt : Nat} {l : Lo} {b : List Nat} {c : Nat} {objs : List (Nat × Ob × Ob)} (hB : Bd g l b e) (hf : Out l fid) (hW : free W l = true) (hg : Sub g fid) (hcnt : cnt < cap) (hb : b.length + 1 < big) :
    WrP g l (b ++ [c]) fid objs e .nili (cal P I 162 [.ptr l 0, .int .u8 c] W (child fid cnt) (Abs.psh ⟨fid, objs, []⟩ e)) :=
  (wr_byte L ((Bd.psh_iff hf.lof).2 hB) (hf.child cnt hcnt) hW (hg.trans (.step .refl hcnt)) hb).psh hf.lof
end Go.Abs.Run
namespace Go.Abs.Run
open Go Go.Abs
attribute [local simp] oM oN oF oE oQ oP oG oL oR oC oX oS oY vi vj vu vz ci cu eI eS eB
attribute [local simp] s0 t0 s1 t1 s2 t2 s3 t3 s4 t4 s5 t5 s6 t6 s7 t7 s8 t8 s9 t9 s10 t10 s11 t11 s12 t12 s13 t13 s14 t14 s15 t15 s16 t16 s17 t17 s18 t18 s19 t19 s20 t20 s21 t21 s22 t22 s23 t23 s24 t24 s25 t25 s26 t26 s27 t27 s28 t28 s29 t29 s30 t30 s31 t31 s32 t32 s33 t33 s34 t34 s35 t35 s36 t36 s37 t37 s38 t38 s39 t39 s40 t40 s41 t41 s42 t42 s43 t43 s44 t44 s45 t45 s46 t46 s47 t47 s48 t48 s49 t49 s50 t50 s51 t51 s52 t52 s53 t53 s54 t54 s55 t55 s56 t56 s57 t57 s58 t58 s59 t59 s60 t60 s61 t61 s62 t62 s63 t63 s64 t64 s65 t65 s66 t66 s67 t67 s68 t68 s69 t69 s70 t70 s71 t71 s72 t72 s73 t73 s74 t74 s75 t75 s76 t76 s77 t77 s78 t78 s79 t79 s80 t80 s81 t81 s82 t82 s83 t83 s84 t84 s85 t85 s86 t86 s87 t87 s88 t88 s89 t89 s90 t90 s91 t91 s92 t92 s93 t93 s94 t94 s95 t95 s96 t96 s97 t97 s98 t98 s99 t99 s100 t100 s101 t101 s102 t102 s103 t103 s104 t104 s105 t105 s106 t106 s107 t107 s108 t108 s109 t109 s110 t110 s111 t111 s112 t112 s113 t113 s114 t114 s115 t115 s116 t116 s117 t117 s118 t118 s119 t119 s120 t120 s121 t121 s122 t122 s123 t123 s124 t124 s125 t125 s126 t126 s127 t127 s128 t128 s129 t129 s130 t130 s131 t131 s132 t132 s133 t133 s134 t134 s135 t135 s136 t136 s137 t137 s138 t138 s139 t139 s140 t140 s141 t141 s142 t142 s143 t143 s144 t144 s145 t145 s146 t146 s147 t147 s148 t148 s149 t149 s150 t150 s151 t151 s152 t152 s153 t153 s154 t154 s155 t155 s156 t156 s157 t157 s158 t158 s159 t159 s160 t160 s161 t161 s162 t162 s163 t163 s164 t164 s165 t165 s166 t166 s167 t167 s168 t168 s169 t169 s170 t170 s171 t171 s172 t172 s173 t173 s174 t174 s175 t175 s176 t176 s177 t177 s178 t178 s179 t179 s180 t180 s181 t181 s182 t182 s183 t183 s184 t184 s185 t185 s186 t186 s187 t187 s188 t188 s189 t189 s190 t190 s191 t191 s192 t192 s193 t193 s194 t194 s195 t195 s196 t196 s197 t197 s198 t198 s199 t199
variable {P : Nat → Option FI} {I : Nat → Option IntrT}
attribute [-simp] lenL
theorem lenL_sl (k z : Nat) (l : List AV) : lenL (.sl k z l) = some (.int .i64 (l.length : Int)) := by simp [lenL]
attribute [local simp] lenL_sl
def kindM (ks : List AV) (c : Int) : Option Int :=
  match c with
  | .ofNat n => match ks[n]? with | some (.int .i64 k) => some k | some _ => none | none => some 0
  | .negSucc _ => some 0
def namesM (ns : List AV) (c : Int) : Option AV :=
  match c with
  | .ofNat n => match ns[n]? with
    | some (.sl k z l) => some (.sl k z l)
    | some (.hs (.gl i) z sz off m ex) => some (.hs (.gl i) z sz off m ex)
    | some _ => none
    | none => some (.sl 1 0 [])
  | .negSucc _ => some (.sl 1 0 [])
def lenN : AV → Option Nat
  | .sl _ _ l => some l.length
  | .hs _ _ _ _ m _ => some m
  | _ => none
theorem lenN_len {v : AV} {m : Nat} (h : lenN v = some m) : lenL v = some (.int .i64 (m : Nat)) := by
  unfold lenN at h
  split at h
  · cases h; simp [lenL]
  · cases h; rfl
  · cases h
theorem kindM_lt {ks : List AV} {c k : Int} (h : kindM ks c = some k) : (c < 0 ∨ (ks.length : Int) ≤ c) ∧ k = 0 ∨ (0 ≤ c ∧ c < ks.length ∧ ks[c.toNat]? = some (.int .i64 k)) := by
  unfold kindM at h
  split at h
  · next n =>
    split at h
    · next k' hk =>
      cases h
      have := (List.getElem?_eq_some_iff.1 hk).1
      exact .inr ⟨by simp, by simpa using this, by simpa using hk⟩
    · cases h
    · next hn => cases h; exact .inl ⟨.inr (by simpa using hn), rfl⟩
  · cases h; exact .inl ⟨.inl (by simp [Int.negSucc_lt_zero]), rfl⟩
theorem namesM_lt {ns : List AV} {c : Int} {nv : AV} (h : namesM ns c = some nv) : (c < 0 ∨ (ns.length : Int) ≤ c) ∧ nv = .sl 1 0 [] ∨ (0 ≤ c ∧ c < ns.length ∧ ns[c.toNat]? = some nv ∧ ((∃ k z l, nv = .sl k z l) ∨ ∃ i z sz off m ex, nv = .hs (.gl i) z sz off m ex)) := by
  unfold namesM at h
  split at h
  · next n =>
    split at h
    · next k z l hk =>
      cases h
      have := (List.getElem?_eq_some_iff.1 hk).1
      exact .inr ⟨by simp, by simpa using this, by simpa using hk, .inl ⟨_, _, _, rfl⟩⟩
    · next i z sz off m ex hk =>
      cases h
      have := (List.getElem?_eq_some_iff.1 hk).1
      exact .inr ⟨by simp, by simpa using this, by simpa using hk, .inr ⟨_, _, _, _, _, _, rfl⟩⟩
    · cases h
    · next hn => cases h; exact .inl ⟨.inr (by simpa using hn), rfl⟩
  · cases h; exact .inl ⟨.inl (by simp [Int.negSucc_lt_zero]), rfl⟩
structure LRight (P : Nat → Option FI) (I : Nat → Option IntrT) : Prop where
  p42 : P 42 = some f42
  i42 : I 42 = none
  p105 : P 105 = some f105
  i105 : I 105 = none
  p108 : P 108 = some f108
  i108 : I 108 = none
variable {W : List Lo} {fid : Nat} {e : E}
theorem kind_law (L : LRight P I) {lk : Lo} {T : Nat} {dp nm : AV} {k1 z1 : Nat} {ks : List AV} {c k : Int} (hl : e.get lk = .cells T [dp, .sl k1 z1 ks, nm]) (ho : lof lk fid = false) (hz : z1 = 1 ∨ ks = []) (h : kindM ks c = some k) :
    cal P I 105 [.ptr lk 0, .int .i64 c] W fid e = .ret (.int .i64 k) e := by
  refine cal_wp (Q := fun r => r = .ret (.int .i64 k) e) L.i105 L.p105 rfl (by simp) ?_
  rcases kindM_lt h with ⟨h1, rfl⟩ | ⟨h1, h2, h3⟩
  · by_cases hc : c < 0
    · simp [f105, Tm.get_set, hc]; simp [Wp]
    · have h2 : (ks.length : Int) ≤ c := by omega
      simp [f105, Tm.get_set, hc, get_psh, ho, hl, h2]; simp [Wp]
  · have hc : ¬ c < 0 := by omega
    have hc2 : ¬ (ks.length : Int) ≤ c := by omega
    have hz1 : z1 = 1 := hz.resolve_right (fun h => by rw [h] at h2; simp at h2; omega)
    obtain ⟨n, rfl⟩ := Int.eq_ofNat_of_zero_le h1
    simp at h3
    simp [f105, Tm.get_set, hc, get_psh, ho, hl, hc2, iadA_nat, hz1, h3]; simp [Wp]
theorem names_law (L : LRight P I) {lk : Lo} {T : Nat} {dp kd : AV} {k1 z1 : Nat} {ns : List AV} {c : Int} {nv : AV} (hl : e.get lk = .cells T [dp, kd, .sl k1 z1 ns]) (ho : lof lk fid = false) (hz : z1 = 1 ∨ ns = []) (h : namesM ns c = some nv) :
    cal P I 108 [.ptr lk 0, .int .i64 c] W fid e = .ret nv e := by
  refine cal_wp (Q := fun r => r = .ret nv e) L.i108 L.p108 rfl (by simp) ?_
  rcases namesM_lt h with ⟨h1, rfl⟩ | ⟨h1, h2, h3, h4⟩
  · by_cases hc : c < 0
    · simp [f108, Tm.get_set, hc]; simp [Wp]
    · have h2 : (ns.length : Int) ≤ c := by omega
      simp [f108, Tm.get_set, hc, get_psh, ho, hl, h2]; simp [Wp]
  · have hc : ¬ c < 0 := by omega
    have hc2 : ¬ (ns.length : Int) ≤ c := by omega
    have hz1 : z1 = 1 := hz.resolve_right (fun h => by rw [h] at h2; simp at h2; omega)
    obtain ⟨n, rfl⟩ := Int.eq_ofNat_of_zero_le h1
    simp at h3
    rcases h4 with ⟨k, z, l, rfl⟩ | ⟨i, z, sz, off, m, ex, rfl⟩
    · by_cases hk2 : 2 ≤ k
      · simp [f108, Tm.get_set, hc, get_psh, ho, hl, hc2, iadA_nat, hz1, h3, hk2]; simp [Wp, hk2, pop_upK]
      · simp [f108, Tm.get_set, hc, get_psh, ho, hl, hc2, iadA_nat, hz1, h3, hk2]; simp [Wp, hk2]
    · simp [f108, Tm.get_set, hc, get_psh, ho, hl, hc2, iadA_nat, hz1, h3]; simp [Wp]
def allM (g : AV → Option Bool) : List AV → Option Bool
  | [] => some true
  | p :: r => match g p with | some true => allM g r | some false => some false | none => none
def rightM (pl : List Nat → Option Bool) (ks ns : List AV) : Nat → AV → Option Bool
  | f + 1, .agg [.int .i64 k, .int .i64 c, .int .i64 n, .str s, .sl kk z ps] =>
    if kk < 2 ∧ (z = 5 ∨ ps = []) ∧ ps.length < 100000 then
      match kindM ks c with
      | none => none
      | some kd =>
        if k = 1 then some (decide (kd = 1 ∧ s = [] ∧ ps = []))
        else if k = 2 then some (decide (kd = 2 ∧ (n = 0 ∨ n = 1) ∧ s = [] ∧ ps = []))
        else if k = 3 then (if kd = 3 ∧ n = 0 then (match pl s with | some b => some (b && decide (ps = [])) | none => none) else some false)
        else if k = 4 then (match namesM ns c with
          | some nv => (match lenN nv with | some m => if kd = 6 ∧ n = 0 ∧ s = [] ∧ ps.length = m then allM (rightM pl ks ns f) ps else some false | none => none)
          | none => none)
        else none
    else none
  | _, _ => none
theorem rightM_form {pl : List Nat → Option Bool} {ks ns : List AV} {f : Nat} {v : AV} {b : Bool} (h : rightM pl ks ns f v = some b) : ∃ g k c n s kk z ps, f = g + 1 ∧ v = .agg [.int .i64 k, .int .i64 c, .int .i64 n, .str s, .sl kk z ps] := by
  unfold rightM at h
  split at h
  · exact ⟨_, _, _, _, _, _, _, _, rfl, rfl⟩
  · cases h
def RtEnd (fid : Nat) (b : Bool) (e : E) (x : R) : Prop :=
  if b then ∃ s' cnt' o0 o1, x = .exit 1 ⟨s', cnt'⟩ (psh ⟨fid, [o0, o1], []⟩ e)
  else ∃ s' cnt' o0 o1, x = .ret ⟨s', cnt'⟩ (psh ⟨fid, [o0, o1], []⟩ e) ∧ s'.get (.r (.l .e)) = .bool false
theorem RtEnd.use {Q : R → Prop} {fid : Nat} {e : E} {b : Bool} {x : R} (h : RtEnd fid b e x) (k : ∀ x, RtEnd fid b e x → Q x) : Wp Q x := k x h
def RtStep (fid : Nat) (o0 : Nat × Ob × Ob) (b : Bool) (e : E) (lk : Lo) (kk : Nat) (ps : List AV) (i cnt inst : Nat) (x : R) : Prop :=
  if b then ∃ s' cnt' o p, x = .go ⟨s', cnt'⟩ (psh ⟨fid, [o0, (inst + 1, o, p)], []⟩ e) ∧ cnt' ≤ cnt + 1 ∧ s'.get .e = .ptr lk 0 ∧ s'.get (.r (.l (.r (.r (.r (.r .e)))))) = .sl kk 5 ps ∧ s'.get (.l (.r (.r (.r (.r (.r .e)))))) = .int .i64 ps.length ∧ s'.get (.r (.r (.r (.r (.r (.r .e)))))) = .int .i64 (i + 1 : Nat)
  else ∃ s' cnt' o0 o1, x = .ret ⟨s', cnt'⟩ (psh ⟨fid, [o0, o1], []⟩ e) ∧ s'.get (.r (.l .e)) = .bool false
theorem right_step (L : LRight P I) {s : Tm} {cnt i inst : Nat} {o0 : Nat × Ob × Ob} {o p : Ob} {lk : Lo} {kk : Nat} {ps : List AV} {v : AV} {b : Bool} (hW : WOut W fid)
    (h0 : s.get .e = .ptr lk 0) (h4 : s.get (.r (.l (.r (.r (.r (.r .e)))))) = .sl kk 5 ps) (h5 : s.get (.l (.r (.r (.r (.r (.r .e)))))) = .int .i64 ps.length) (h6 : s.get (.r (.r (.r (.r (.r (.r .e)))))) = .int .i64 i) (hi : i < ps.length) (hn : ps.length < 100000) (hv : ps[i]? = some v)
    (hva : ∃ k c n s kk z l, v = .agg [.int .i64 k, .int .i64 c, .int .i64 n, .str s, .sl kk z l] ∧ kk < 2) (hr : cnt < 1048000)
    (hs : ∀ e', e'.get lk = (psh ⟨fid, [], []⟩ e).get lk → WOut W (child fid cnt) → cal P I 42 [.ptr lk 0, v] W (child fid cnt) e' = .ret (.bool b) e') (ho : lof lk fid = false) :
    RtStep fid o0 b e lk kk ps i cnt inst (runW (cal P I) fid W b42x0 ⟨s, cnt⟩ (psh ⟨fid, [o0, (inst, o, p)], []⟩ e)) := by
  have hlt : (i : Int) < (ps.length : Int) := by omega
  have hw : IntKind.i64.wrap ((i : Int) + 1) = (i : Int) + 1 := wrap_i64 (by omega) (by omega)
  obtain ⟨k1, c1, n1, s1, kk1, z1, l1, rfl, hk1⟩ := hva
  have hk1' : ¬ 2 ≤ kk1 := by omega
  have w1 := fun i => hW.own 1 i
  have hcap : cnt < cap := by unfold cap; omega
  have hs' := fun e' h => hs e' h (hW.child cnt hcap)
  show Wp (RtStep _ _ _ _ _ _ _ _ _ _) _
  simp [b42x0, Tm.get_set, h0, h4, h5, h6, hlt, hv, iadA_nat, room, hr, w1, hk1', hs', get_psh, ho]
  cases b with
  | true => simp [Wp, RtStep, Tm.get_set, h0, h4, h5, h6, hw, and_assoc]
  | false => simp [Wp, RtStep, Tm.get_set, and_assoc]
def Lk (e : E) (lk : Lo) (ks ns : List AV) : Prop := ∃ T dp k1 z1 k2 z2, e.get lk = .cells T [dp, .sl k1 z1 ks, .sl k2 z2 ns] ∧ (z1 = 1 ∨ ks = []) ∧ (z2 = 1 ∨ ns = [])
theorem allM_split {g : AV → Option Bool} {ps : List AV} {b : Bool} (h : allM g ps = some b) (i : Nat) (hi : ∀ j < i, ∀ p, ps[j]? = some p → g p = some true) :
    (∀ p, ps[i]? = some p → (g p = some true) ∨ (g p = some false ∧ b = false)) ∧ (ps.length ≤ i → b = true) := by
  induction ps generalizing i with
  | nil => simp only [allM, Option.some.injEq] at h; exact ⟨fun p hp => by simp at hp, fun _ => h.symm⟩
  | cons a r ih =>
    cases i with
    | zero =>
      refine ⟨fun p hp => ?_, fun h => by simp at h⟩
      simp at hp; subst hp
      unfold allM at h
      cases hg : g a with
      | none => rw [hg] at h; cases h
      | some c => cases c with
        | true => exact .inl rfl
        | false => rw [hg] at h; simp at h; exact .inr ⟨rfl, h⟩
    | succ i =>
      have h0 := hi 0 (by omega) a rfl
      unfold allM at h
      rw [h0] at h
      simp only at h
      obtain ⟨h1, h2⟩ := ih h i (fun j hj p hp => hi (j + 1) (by omega) p (by simpa using hp))
      exact ⟨fun p hp => h1 p (by simpa using hp), fun hl => h2 (by simp at hl; omega)⟩
theorem right_loop (L : LRight P I) {o0 : Nat × Ob × Ob} {lk : Lo} {kk : Nat} {ps : List AV} {b : Bool} {g : AV → Option Bool} (hW : WOut W fid) (hn : ps.length < 100000) (ho : lof lk fid = false) (hall : allM g ps = some b)
    (hva : ∀ v b, v ∈ ps → g v = some b → ∃ k c n s kk z l, v = .agg [.int .i64 k, .int .i64 c, .int .i64 n, .str s, .sl kk z l] ∧ kk < 2)
    (hs : ∀ v b c e', v ∈ ps → g v = some b → c < cap → e'.get lk = (psh ⟨fid, [], []⟩ e).get lk → WOut W (child fid c) → cal P I 42 [.ptr lk 0, v] W (child fid c) e' = .ret (.bool b) e') :
    ∀ (m i cnt inst : Nat) (s : Tm) (o p : Ob), i + m = ps.length → cnt ≤ i + 10 → (∀ j < i, ∀ p, ps[j]? = some p → g p = some true) → s.get .e = .ptr lk 0 → s.get (.r (.l (.r (.r (.r (.r .e)))))) = .sl kk 5 ps → s.get (.l (.r (.r (.r (.r (.r .e)))))) = .int .i64 ps.length → s.get (.r (.r (.r (.r (.r (.r .e)))))) = .int .i64 i →
      RtEnd fid b e (lp (runW (cal P I) fid W b42x0) ⟨s, cnt⟩ (psh ⟨fid, [o0, (inst, o, p)], []⟩ e)) := by
  intro m
  induction m with
  | zero =>
    intro i cnt inst s o p hi hc hj h0 h4 h5 h6
    have hb := (allM_split hall i hj).2 (by omega)
    subst hb
    have hlt : ¬ (i : Int) < (ps.length : Int) := by omega
    rw [lp_eq]
    show Wp (RtEnd _ _ _) _
    simp [b42x0, Tm.get_set, h0, h4, h5, h6, hlt]
    simp [Wp, RtEnd, and_assoc]
  | succ m ih =>
    intro i cnt inst s o p hi hc hj h0 h4 h5 h6
    obtain ⟨v, hv⟩ : ∃ v, ps[i]? = some v := ⟨_, List.getElem?_eq_getElem (by omega)⟩
    have hm := List.mem_of_getElem? hv
    have hcap : cnt < cap := by unfold cap; omega
    rcases (allM_split hall i hj).1 v hv with hg | ⟨hg, rfl⟩
    · have hst := right_step (P := P) (I := I) (e := e) (b := true) (o0 := o0) (inst := inst) (o := o) (p := p) L hW h0 h4 h5 h6 (by omega) hn hv (hva v _ hm hg) (by omega) (fun e' h1 h2 => hs v true cnt e' hm hg hcap h1 h2) ho
      simp only [RtStep, if_true] at hst
      obtain ⟨s', cnt', o', p', g1, g2, g3, g4, g5, g6⟩ := hst
      rw [lp_eq, g1]
      exact ih (i + 1) cnt' (inst + 1) s' o' p' (by omega) (by omega) (fun j hj' p hp => by
        rcases Nat.lt_or_ge j i with h | h
        · exact hj j h p hp
        · obtain rfl : j = i := by omega
          rw [hv] at hp; cases hp; exact hg) g3 g4 g5 g6
    · have hst := right_step (P := P) (I := I) (e := e) (b := false) (o0 := o0) (inst := inst) (o := o) (p := p) L hW h0 h4 h5 h6 (by omega) hn hv (hva v _ hm hg) (by omega) (fun e' h1 h2 => hs v false cnt e' hm hg hcap h1 h2) ho
      simp only [RtStep, Bool.false_eq_true, if_false] at hst
      obtain ⟨s', cnt', o0', o1', g1, g2⟩ := hst
      rw [lp_eq, g1]
      exact ⟨s', cnt', o0', o1', rfl, g2⟩
theorem right_law (L : LRight P I) {pl : List Nat → Option Bool} (hpl : ∀ s b, pl s = some b → ∀ W fid e, cal P I 106 [.str s] W fid e = .ret (.bool b) e) {ks ns : List AV} {lk : Lo} :
    ∀ (f : Nat) (v : AV) (b : Bool) (W : List Lo) (fid : Nat) (e : E), rightM pl ks ns f v = some b → Lk e lk ks ns → Out lk fid → WOut W fid → cal P I 42 [.ptr lk 0, v] W fid e = .ret (.bool b) e := by
  intro f
  induction f with
  | zero => intro v b W fid e h; simp [rightM] at h
  | succ f ih =>
    intro v b W fid e h hL hO hW
    obtain ⟨g, k, c, n, s, kk, z, ps, hg, rfl⟩ := rightM_form h
    cases hg
    unfold rightM at h
    split at h
    case isFalse => cases h
    case isTrue hc0 =>
    obtain ⟨hkk, hz, hlen⟩ := hc0
    have hkk' : ¬ 2 ≤ kk := by omega
    split at h
    · cases h
    next kd hkd =>
    have hL' := hL
    obtain ⟨T, dp, k1, z1, k2, z2, hl, hz1, hz2⟩ := hL
    have ho := hO.lof
    have hcap : ∀ c, c < 1000 → c < cap := fun c h => by unfold cap; omega
    have kl : ∀ W cnt objs live, cnt < 1000 → cal P I 105 [.ptr lk 0, .int .i64 c] W (child fid cnt) (psh ⟨fid, objs, live⟩ e) = .ret (.int .i64 kd) (psh ⟨fid, objs, live⟩ e) := fun W cnt objs live h =>
      kind_law L ((get_psh ho).trans hl) (hO.child cnt (hcap _ h)).lof hz1 hkd
    have hpse : ps.isEmpty = decide (ps = []) := by cases ps <;> simp
    have hl0 : ((ps.length : Int) = 0) = (ps = []) := by simp
    refine cal_wp (Q := fun r => r = .ret (.bool b) e) L.i42 L.p42 rfl (by simp) ?_
    have wo := hW.own
    by_cases k1 : k = 1
    · subst k1
      simp only [if_true, Option.some.injEq] at h
      subst h
      by_cases e1 : kd = 1
      · by_cases e2 : s = []
        · simp [f42, Tm.get_set, room, kl, hkk', e1, e2, wo]; simp [Wp]
        · simp [f42, Tm.get_set, room, kl, hkk', e1, e2, strEq_iff, wo]; simp [Wp]
      · simp [f42, Tm.get_set, room, kl, hkk', e1, wo]; simp [Wp]
    by_cases k2 : k = 2
    · subst k2
      simp only [show ¬ (2 : Int) = 1 by decide, if_false, if_true, Option.some.injEq] at h
      subst h
      by_cases e1 : kd = 2
      · by_cases n0 : n = 0
        · by_cases e2 : s = []
          · simp [f42, Tm.get_set, room, kl, hkk', e1, e2, n0, wo]; simp [Wp]
          · simp [f42, Tm.get_set, room, kl, hkk', e1, e2, n0, strEq_iff, wo]; simp [Wp]
        · by_cases n1 : n = 1
          · by_cases e2 : s = []
            · simp [f42, Tm.get_set, room, kl, hkk', e1, e2, n1, wo]; simp [Wp]
            · simp [f42, Tm.get_set, room, kl, hkk', e1, e2, n1, strEq_iff, wo]; simp [Wp]
          · simp [f42, Tm.get_set, room, kl, hkk', e1, n0, n1, wo]; simp [Wp]
      · simp [f42, Tm.get_set, room, kl, hkk', e1, wo]; simp [Wp]
    by_cases k3 : k = 3
    · subst k3
      simp only [show ¬ (3 : Int) = 1 by decide, show ¬ (3 : Int) = 2 by decide, if_false, if_true] at h
      by_cases e1 : kd = 3
      · by_cases n0 : n = 0
        · rw [if_pos ⟨e1, n0⟩] at h
          split at h
          · next q hq =>
            simp only [Option.some.injEq] at h
            subst h
            have hp := hpl s q hq
            cases q
            · simp [f42, Tm.get_set, room, kl, hkk', e1, n0, hp, wo]; simp [Wp]
            · simp [f42, Tm.get_set, room, kl, hkk', e1, n0, hp, wo]; simp [Wp]
          · cases h
        · rw [if_neg (by simp [n0])] at h
          cases h
          simp [f42, Tm.get_set, room, kl, hkk', e1, n0, wo]; simp [Wp]
      · rw [if_neg (by simp [e1])] at h
        cases h
        simp [f42, Tm.get_set, room, kl, hkk', e1, wo]; simp [Wp]
    by_cases k4 : k = 4
    · subst k4
      simp only [show ¬ (4 : Int) = 1 by decide, show ¬ (4 : Int) = 2 by decide, show ¬ (4 : Int) = 3 by decide, if_false, if_true] at h
      split at h
      case h_2 => cases h
      next nv hnm =>
      split at h
      case h_2 => cases h
      next m hm =>
      have hlenN := lenN_len hm
      have nl : ∀ W cnt objs live, cnt < 1000 → cal P I 108 [.ptr lk 0, .int .i64 c] W (child fid cnt) (psh ⟨fid, objs, live⟩ e) = .ret nv (psh ⟨fid, objs, live⟩ e) := fun W cnt objs live h =>
        names_law L ((get_psh ho).trans hl) (hO.child cnt (hcap _ h)).lof hz2 hnm
      by_cases e1 : kd = 6
      · by_cases n0 : n = 0
        · by_cases e2 : s = []
          · by_cases e3 : ps.length = m
            · rw [if_pos ⟨e1, n0, e2, e3⟩] at h
              simp [f42, Tm.get_set, room, kl, nl, hlenN, hkk', e1, n0, e2, e3, wo]
              simp only [Wp_bind, Wp_leave]
              have hz' : z = 5 ∨ ps = [] := hz
              have hmem : ∀ v b, v ∈ ps → rightM pl ks ns f v = some b → ∃ k c n s kk z l, v = .agg [.int .i64 k, .int .i64 c, .int .i64 n, .str s, .sl kk z l] ∧ kk < 2 := fun v b _ hv => by
                obtain ⟨g, k, c, n, s, kk, z, l, rfl, rfl⟩ := rightM_form hv
                unfold rightM at hv
                split at hv
                · next hh => exact ⟨_, _, _, _, _, _, _, rfl, hh.1⟩
                · cases hv
              rcases hz' with rfl | rfl
              · refine RtEnd.use (right_loop (P := P) (I := I) (g := rightM pl ks ns f) (ps := ps) (kk := kk) (lk := lk) L hW hlen ho h hmem (fun v b c e' _ hv hc he hw => ?_) ps.length 0 _ _ _ _ _ (by omega) (by omega) (fun j hj => by omega) ?_ ?_ ?_ ?_) ?_
                · obtain ⟨T', dp', k1', z1', k2', z2', hl', h1', h2'⟩ := hL'
                  exact ih v b W _ e' hv ⟨T', dp', k1', z1', k2', z2', by rw [he, get_psh ho]; exact hl', h1', h2'⟩ (hO.child c hc) hw
                any_goals (simp [e3]; done)
                intro x hx
                cases b
                · simp only [RtEnd, Bool.false_eq_true, if_false] at hx
                  obtain ⟨s', cnt', o0, o1, rfl, h1⟩ := hx
                  simp [h1]
                · simp only [RtEnd, if_true] at hx
                  obtain ⟨s', cnt', o0, o1, rfl⟩ := hx
                  simp [Tm.get_set]
              · simp only [allM, Option.some.injEq] at h
                subst h
                have h0 : m = 0 := by simpa using e3.symm
                rw [lp_eq]
                simp [b42x0, Tm.get_set, h0]
                simp [Wp]
            · rw [if_neg (by simp [e3])] at h
              cases h
              have e3' : ¬ (ps.length : Int) = m := by omega
              simp [f42, Tm.get_set, room, kl, nl, hlenN, hkk', e1, n0, e2, e3', wo]; simp [Wp]
          · rw [if_neg (by simp [e2])] at h
            cases h
            simp [f42, Tm.get_set, room, kl, nl, hlenN, hkk', e1, n0, e2, strEq_iff, wo]; simp [Wp]
        · rw [if_neg (by simp [n0])] at h
          cases h
          simp [f42, Tm.get_set, room, kl, nl, hlenN, hkk', e1, n0, wo]; simp [Wp]
      · rw [if_neg (by simp [e1])] at h
        cases h
        simp [f42, Tm.get_set, room, kl, nl, hlenN, hkk', e1, wo]; simp [Wp]
    · simp [k1, k2, k3, k4] at h
end Go.Abs.Run
namespace Go.Abs.Run
open Go Go.Abs
attribute [local simp] oM oN oF oE oQ oP oG oL oR oC oX oS oY vi vj vu vz ci cu eI eS eB
attribute [local simp] s0 t0 s1 t1 s2 t2 s3 t3 s4 t4 s5 t5 s6 t6 s7 t7 s8 t8 s9 t9 s10 t10 s11 t11 s12 t12 s13 t13 s14 t14 s15 t15 s16 t16 s17 t17 s18 t18 s19 t19 s20 t20 s21 t21 s22 t22 s23 t23 s24 t24 s25 t25 s26 t26 s27 t27 s28 t28 s29 t29 s30 t30 s31 t31 s32 t32 s33 t33 s34 t34 s35 t35 s36 t36 s37 t37 s38 t38 s39 t39 s40 t40 s41 t41 s42 t42 s43 t43 s44 t44 s45 t45 s46 t46 s47 t47 s48 t48 s49 t49 s50 t50 s51 t51 s52 t52 s53 t53 s54 t54 s55 t55 s56 t56 s57 t57 s58 t58 s59 t59 s60 t60 s61 t61 s62 t62 s63 t63 s64 t64 s65 t65 s66 t66 s67 t67 s68 t68 s69 t69 s70 t70 s71 t71 s72 t72 s73 t73 s74 t74 s75 t75 s76 t76 s77 t77 s78 t78 s79 t79 s80 t80 s81 t81 s82 t82 s83 t83 s84 t84 s85 t85 s86 t86 s87 t87 s88 t88 s89 t89 s90 t90 s91 t91 s92 t92 s93 t93 s94 t94 s95 t95 s96 t96 s97 t97 s98 t98 s99 t99
variable {P : Nat → Option FI} {I : Nat → Option IntrT}
attribute [-simp] lenL loadA iadN
theorem iadN_sl (z n k z' : Nat) (xs : List AV) : iadN z n (.sl k z' xs) = cond (Nat.beq z z') (vpO xs[n]?) none := rfl
theorem iadN_hs (z n : Nat) (l : Lo) (z' sz off m : Nat) (ex : Bool) : iadN z n (.hs l z' sz off m ex) = cond (Nat.beq z z' && Nat.blt n m) (some (.ep l sz (off + n) 0)) none := rfl
theorem loadA_vp (e : E) (ag : Bool) (n : Nat) (cs : List AV) (o : Nat) : loadA e ag n (.vp cs o) = cutA ag cs o n := rfl
theorem loadA_ptr (e : E) (ag : Bool) (n : Nat) (l : Lo) (o : Nat) : loadA e ag n (.ptr l o) = ldCells ag n o (e.get l) := rfl
theorem loadA_ep (e : E) (ag : Bool) (n : Nat) (l : Lo) (a b o : Nat) : loadA e ag n (.ep l a b o) = ldVec ag n a b o (e.get l) := rfl
attribute [local simp] lenL_sl loadA_vp loadA_ptr loadA_ep iadN_sl iadN_hs
def digF : Nat → Nat → List Nat → List Nat
  | 0, _, acc => acc
  | f + 1, n, acc => if n < 10 then (48 + n) :: acc else digF f (n / 10) ((48 + n % 10) :: acc)
def two64 : Nat := 18446744073709551616
def itoaM : Int → List Nat
  | .ofNat n => digF 20 (n % two64) []
  | .negSucc n => 45 :: digF 20 ((n + 1) % two64) []
def itoaG : List AV → Option AV
  | [.int .i64 n] => some (.str (itoaM n))
  | _ => none
def wrS (b c : List Nat) : Option (List Nat) := if b.length + c.length < 1000000 then some (b ++ c) else none
theorem wrS_some {b c d : List Nat} (h : wrS b c = some d) : d = b ++ c ∧ b.length + c.length < big := by
  unfold wrS at h
  split at h
  · cases h; exact ⟨rfl, by unfold big; omega⟩
  · cases h
def finS (b : List Nat) : Option (Bool × List Nat) := some (decide (b.length ≤ 4096), b)
def namesS (g : AV → List Nat → Option (Bool × List Nat)) : List AV → List AV → Nat → List Nat → Option (Bool × List Nat)
  | [], _, _, b => some (true, b)
  | .str nm :: l, p :: ps, i, b =>
    match (if i = 0 then some b else wrS b [44, 32]) with
    | none => none
    | some b1 =>
      match wrS b1 (nm ++ [58, 32]) with
      | none => none
      | some b2 =>
        if 4096 < b2.length then some (false, b2)
        else match g p b2 with
          | some (true, b3) => namesS g l ps (i + 1) b3
          | some (false, b3) => some (false, b3)
          | none => none
  | _, _, _, _ => none
def boolS (b : Bool) : List Nat := cond b [116, 114, 117, 101] [102, 97, 108, 115, 101]
def textS (it : Int → Option (List Nat)) (ns : Int → Option (List AV)) : Nat → AV → List Nat → Option (Bool × List Nat)
  | f + 1, .agg [.int .i64 k, .int .i64 c, .int .i64 n, .str s, .sl kk z ps], b =>
    if kk < 2 ∧ (z = 5 ∨ ps = []) ∧ ps.length < 100000 then
      if k = 1 then ((it n).bind (wrS b)).bind finS
      else if k = 2 then (wrS b (boolS (decide (n = 1)))).bind finS
      else if k = 3 then (wrS b s).bind finS
      else if k = 4 then
        match ns c with
        | some l =>
          if l.length < 100000 then
            match (wrS b [123]).bind (namesS (textS it ns f) l ps 0) with
            | some (true, b1) => (wrS b1 [125]).bind finS
            | some (false, b1) => some (false, b1)
            | none => none
          else none
        | none => none
      else none
    else none
  | _, _, _ => none
theorem textS_form {it : Int → Option (List Nat)} {ns : Int → Option (List AV)} {f : Nat} {v : AV} {b : List Nat} {r : Bool × List Nat} (h : textS it ns f v b = some r) : ∃ g k c n s kk z ps, f = g + 1 ∧ v = .agg [.int .i64 k, .int .i64 c, .int .i64 n, .str s, .sl kk z ps] ∧ kk < 2 := by
  unfold textS at h
  split at h
  · split at h
    · next hh => exact ⟨_, _, _, _, _, _, _, _, rfl, rfl, hh.1⟩
    · cases h
  · cases h
structure LTextV (it : Int → Option (List Nat)) (P : Nat → Option FI) (I : Nat → Option IntrT) : Prop extends LRight P I, LBuilder P I where
  p102 : P 102 = some f102
  i102 : I 102 = none
  p161 : P 161 = some f161
  i161 : I 161 = none
  p217 : P 217 = some f217
  i217 : I 217 = none
  itoa : ∀ n s, it n = some s → ∀ W fid e, cal P I 144 [.int .i64 n] W fid e = .ret (.str s) e
variable {it : Int → Option (List Nat)} {W : List Lo} {fid : Nat} {e : E}
theorem formatBool_law (L : LTextV it P I) (b : Bool) : cal P I 161 [.bool b] W fid e = .ret (.str (boolS b)) e := by
  have h : ∀ W fid e, cal P I 217 [.bool b] W fid e = .ret (.str (boolS b)) e := fun W fid e => by
    refine cal_wp (Q := fun r => r = .ret (.str (boolS b)) e) L.i217 L.p217 rfl (by simp) ?_
    cases b <;> simp [f217] <;> simp [Wp, boolS]
  refine cal_wp (Q := fun r => r = .ret (.str (boolS b)) e) L.i161 L.p161 rfl (by simp) ?_
  simp [f161, room, h]; simp [Wp]
def NvR (e : E) (nv : AV) (l : List AV) : Prop := (∃ k z, nv = .sl k z l ∧ (z = 1 ∨ l = [])) ∨ ∃ i sz off ex es, nv = .hs (.gl i) 1 sz off l.length ex ∧ e.get (.gl i) = .vec 1 es ∧ es.length = sz ∧ l = (es.drop off).take l.length
theorem NvR.len {nv : AV} {l : List AV} (h : NvR e nv l) : lenL nv = some (.int .i64 (l.length : Int)) := by
  rcases h with ⟨k, z, rfl, _⟩ | ⟨i, sz, off, ex, es, rfl, _⟩
  · exact lenL_sl _ _ _
  · rfl
theorem NvR.at {nv : AV} {l : List AV} {i : Nat} {nm : List Nat} (h : NvR e nv l) (hi : l[i]? = some (.str nm)) : ∃ pv, iadN 1 i nv = some pv ∧ ∀ f, loadA (psh f e) false 1 pv = some (.str nm) := by
  have hil := (List.getElem?_eq_some_iff.1 hi).1
  rcases h with ⟨k, z, rfl, hz⟩ | ⟨j, sz, off, ex, es, rfl, h1, h2, h3⟩
  · obtain rfl : z = 1 := hz.resolve_right (fun h => by rw [h] at hil; simp at hil)
    exact ⟨.vp [.str nm] 0, by simp [hi], fun f => by simp⟩
  · refine ⟨.ep (.gl j) sz (off + i) 0, by simp [hil], fun f => ?_⟩
    have h4 : es[off + i]? = some (.str nm) := by
      rw [h3, List.getElem?_take_of_lt hil, List.getElem?_drop] at hi
      exact hi
    simp [h1, ldVec, h2, h4, ldElem]
theorem NvR.mono {nv : AV} {l : List AV} {e e' : E} (h : NvR e nv l) (hg : ∀ i, e'.get (.gl i) = e.get (.gl i)) : NvR e' nv l := by
  rcases h with h | ⟨j, sz, off, ex, es, h1, h2, h3⟩
  · exact .inl h
  · exact .inr ⟨j, sz, off, ex, es, h1, by rw [hg]; exact h2, h3⟩
def LkN (e : E) (lk : Lo) (nf : Int → Option (List AV)) : Prop := ∃ T dp kd k z ns, e.get lk = .cells T [dp, kd, .sl k z ns] ∧ (z = 1 ∨ ns = []) ∧ ∀ c l, nf c = some l → ∃ nv, namesM ns c = some nv ∧ NvR e nv l
def TxS (g : Nat) (l : Lo) (r : Bool × List Nat) (e : E) (x : CR) : Prop := ∃ e', x = .ret (.bool r.1) e' ∧ Bd g l r.2 e' ∧ Chg g l e e'
def TxP (g : Nat) (l : Lo) (r : Bool × List Nat) (fid : Nat) (objs : List (Nat × Ob × Ob)) (e : E) (x : CR) : Prop := ∃ e', x = .ret (.bool r.1) (psh ⟨fid, objs, []⟩ e') ∧ Bd g l r.2 e' ∧ Chg g l e e'
theorem TxP.use {Q : CR → Prop} {g : Nat} {l : Lo} {r : Bool × List Nat} {objs : List (Nat × Ob × Ob)} {x : CR} (h : TxP g l r fid objs e x) (k : ∀ e', Bd g l r.2 e' → Chg g l e e' → Q (.ret (.bool r.1) (psh ⟨fid, objs, []⟩ e'))) : WpC Q x := by
  obtain ⟨e', rfl, h1, h2⟩ := h; exact k e' h1 h2
theorem TxS.psh {g : Nat} {l : Lo} {r : Bool × List Nat} {objs : List (Nat × Ob × Ob)} {x : CR} (h : TxS g l r (Abs.psh ⟨fid, objs, []⟩ e) x) (hl : lof l fid = false) : TxP g l r fid objs e x := by
  obtain ⟨e', rfl, h1, h2⟩ := h
  obtain ⟨e1, rfl, h3⟩ := h2.psh hl
  exact ⟨e1, rfl, (Bd.psh_iff hl).1 h1, h3⟩
theorem text_leaf (L : LTextV it P I) {g : Nat} {lk l : Lo} {k c n : Int} {s b cc : List Nat} {kk z : Nat} {ps : List AV} {r : Bool × List Nat} (hk : k = 1 ∧ it n = some cc ∨ k = 2 ∧ cc = boolS (decide (n = 1)) ∨ k = 3 ∧ cc = s) (hB : Bd g l b e) (hl : Out l fid) (hW : free W l = true) (hWo : WOut W fid) (hg : Sub g fid) (hkk : kk < 2)
    (h : (wrS b cc).bind finS = some r) : TxS g l r e (cal P I 102 [.ptr lk 0, .agg [.int .i64 k, .int .i64 c, .int .i64 n, .str s, .sl kk z ps], .ptr l 0] W fid e) := by
  simp only [Option.bind_eq_some_iff] at h
  obtain ⟨d, hd, h⟩ := h
  obtain ⟨rfl, hlen⟩ := wrS_some hd
  cases h
  have hkk' : ¬ 2 ≤ kk := by omega
  have wo := hWo.own
  have bl : ∀ {W} {cnt} {objs} {b : List Nat} {e : E}, cnt < 1000 → Bd g l b e → cal P I 163 [.ptr l 0] W (child fid cnt) (psh ⟨fid, objs, []⟩ e) = .ret (.int .i64 b.length) (psh ⟨fid, objs, []⟩ e) := fun h hB => bd_len L.toLBuilder ((Bd.psh_iff hl.lof).2 hB) (hl.child _ (by unfold cap; omega)).lof
  refine cal_wp (Q := TxS g l _ e) L.i102 L.p102 rfl (by rintro ⟨_, h, _⟩; cases h) ?_
  have fb := fun (W : List Lo) (fid : Nat) (e : E) (b : Bool) => formatBool_law (W := W) (fid := fid) (e := e) L b
  rcases hk with ⟨rfl, hit⟩ | ⟨rfl, rfl⟩ | ⟨rfl, rfl⟩
  · simp [f102, Tm.get_set, room, wo, hkk', L.itoa _ _ hit]
    simp only [Wp_bind, Wp_leave, Wp_after]
    refine WrP.use (wp_string L.toLBuilder hB hl hW hg (by decide) hlen) fun e' h1 h2 => ?_
    simp [Tm.get_set, room, bl _ h1]
    exact ⟨e', by simp only [CR.ret.injEq, AV.bool.injEq, and_true, decide_eq_decide, List.length_append]; omega, h1, h2⟩
  · simp [f102, Tm.get_set, room, wo, hkk', fb]
    simp only [Wp_bind, Wp_leave, Wp_after]
    refine WrP.use (wp_string L.toLBuilder hB hl hW hg (by decide) hlen) fun e' h1 h2 => ?_
    simp [Tm.get_set, room, bl _ h1]
    exact ⟨e', by simp only [CR.ret.injEq, AV.bool.injEq, and_true, decide_eq_decide, List.length_append]; omega, h1, h2⟩
  · simp [f102, Tm.get_set, room, wo, hkk']
    simp only [Wp_bind, Wp_leave, Wp_after]
    refine WrP.use (wp_string L.toLBuilder hB hl hW hg (by decide) hlen) fun e' h1 h2 => ?_
    simp [Tm.get_set, room, bl _ h1]
    exact ⟨e', by simp only [CR.ret.injEq, AV.bool.injEq, and_true, decide_eq_decide, List.length_append]; omega, h1, h2⟩
def NxS (g : Nat) (l lk : Lo) (r : Bool × List Nat) (fid : Nat) (o0 : Nat × Ob × Ob) (e : E) (nv : AV) (N : Nat) (i cnt : Nat) (x : R) : Prop :=
  if r.1 then ∃ s' cnt' e', x = .go ⟨s', cnt'⟩ (psh ⟨fid, [o0], []⟩ e') ∧ cnt' ≤ cnt + 5 ∧ s'.get .e = .ptr lk 0 ∧ s'.get (.r .e) = .ptr l 0 ∧ s'.get (.r (.l .e)) = .ptr (.lo fid 0 1) 0 ∧ s'.get (.l (.l (.l (.l (.l (.l .e)))))) = nv ∧ s'.get (.r (.l (.l (.l (.l (.l .e)))))) = .int .i64 N ∧ s'.get (.l (.r (.l (.l (.l (.l .e)))))) = .int .i64 (i + 1 : Nat) ∧ Bd g l r.2 e' ∧ Chg g l e e'
  else ∃ s' cnt' e', x = .ret ⟨s', cnt'⟩ (psh ⟨fid, [o0], []⟩ e') ∧ s'.get (.r (.r .e)) = .bool false ∧ Bd g l r.2 e' ∧ Chg g l e e'
theorem names_step (L : LTextV it P I) {g : Nat} {lk l : Lo} {k c n : Int} {S b b1 nm : List Nat} {kk : Nat} {ps : List AV} {nv pv : AV} {N : Nat} {p : AV} {r : Bool × List Nat} {s : Tm} {cnt i : Nat} {p0 : Ob} (hB : Bd g l b e) (hl : Out l fid) (hW : free W l = true) (hWo : WOut W fid) (hg : Sub g fid)
    (h0 : s.get .e = .ptr lk 0) (h2 : s.get (.r .e) = .ptr l 0) (h4 : s.get (.r (.l .e)) = .ptr (.lo fid 0 1) 0) (h63 : s.get (.l (.l (.l (.l (.l (.l .e)))))) = nv) (h64 : s.get (.r (.l (.l (.l (.l (.l .e)))))) = .int .i64 N) (h65 : s.get (.l (.r (.l (.l (.l (.l .e)))))) = .int .i64 i)
    (hi : i < N) (hn : N < 100000) (hpv : iadN 1 i nv = some pv) (hnm : ∀ f, loadA (psh f e) false 1 pv = some (.str nm)) (hp : ps[i]? = some p) (hpf : ¬ 4096 < (b1 ++ (nm ++ [58, 32])).length → ∃ k c n s kk z l, p = .agg [.int .i64 k, .int .i64 c, .int .i64 n, .str s, .sl kk z l] ∧ kk < 2) (hr : cnt + 5 < 1048000)
    (hb1 : (if i = 0 then some b else wrS b [44, 32]) = some b1) (hb2 : b1.length + (nm ++ [58, 32]).length < big)
    (hT : 4096 < (b1 ++ (nm ++ [58, 32])).length ∧ r = (false, b1 ++ (nm ++ [58, 32])) ∨ ¬ 4096 < (b1 ++ (nm ++ [58, 32])).length ∧ ∀ (W : List Lo) q e', q < cap → free W l = true → WOut W (child fid q) → Bd g l (b1 ++ (nm ++ [58, 32])) e' → Chg g l e e' →
      TxP g l r fid [(1, .cells 47 [.int .i64 k, .int .i64 c, .int .i64 n, .str S, .sl kk 5 ps], p0)] e' (cal P I 102 [.ptr lk 0, p, .ptr l 0] W (child fid q) (psh ⟨fid, [(1, .cells 47 [.int .i64 k, .int .i64 c, .int .i64 n, .str S, .sl kk 5 ps], p0)], []⟩ e'))) :
    NxS g l lk r fid (1, .cells 47 [.int .i64 k, .int .i64 c, .int .i64 n, .str S, .sl kk 5 ps], p0) e nv N i cnt
      (runW (cal P I) fid W b102x0 ⟨s, cnt⟩ (psh ⟨fid, [(1, .cells 47 [.int .i64 k, .int .i64 c, .int .i64 n, .str S, .sl kk 5 ps], p0)], []⟩ e)) := by
  have hlt : (i : Int) < (N : Int) := by omega
  have hw : IntKind.i64.wrap ((i : Int) + 1) = (i : Int) + 1 := wrap_i64 (by omega) (by omega)
  have hc : ∀ j, j ≤ 5 → cnt + j < 1048000 := fun j h => by omega
  have hcap : ∀ j, j ≤ 5 → cnt + j < cap := fun j h => by have := hc j h; unfold cap; omega
  have hcap' : ∀ j, j ≤ cnt + 5 → j < cap := fun j h => by unfold cap; omega
  have hc' : cnt < 1048000 := by omega
  have hc1 : cnt + 1 + 1 < 1048000 := by omega
  have hc2 : cnt + 1 + 1 + 1 < 1048000 := by omega
  have wo := hWo.own
  have bl : ∀ {W} {j} {objs} {b : List Nat} {e : E}, j ≤ 5 → Bd g l b e → cal P I 163 [.ptr l 0] W (child fid (cnt + j)) (psh ⟨fid, objs, []⟩ e) = .ret (.int .i64 b.length) (psh ⟨fid, objs, []⟩ e) := fun h hB => bd_len L.toLBuilder ((Bd.psh_iff hl.lof).2 hB) (hl.child _ (hcap _ h)).lof
  have hnlen : nm.length + 2 < big := by simp at hb2; omega
  show Wp (NxS _ _ _ _ _ _ _ _ _ _ _) _
  by_cases hi0 : i = 0
  · have hi0' : ¬ 0 < i := by omega
    simp only [hi0, if_true, Option.some.injEq] at hb1
    subst hb1
    simp [b102x0, Tm.get_set, h0, h2, h4, h63, h64, h65, hlt, hnm, hpv, iadA_nat, room, hc, hc', hc1, hc2, hnlen, hi0']
    simp only [Wp_bind, Wp_leave, Wp_after]
    refine WrP.use (wp_string L.toLBuilder hB hl hW hg (hcap' cnt (by omega)) hb2) fun e' hB1 hC1 => ?_
    rcases hT with ⟨hlong, rfl⟩ | ⟨hlong, hT⟩
    · have hlong' : (4096 : Int) < (b.length : Int) + ((nm.length : Int) + 2) := by simp at hlong; omega
      simp [Tm.get_set, h0, h2, h4, h63, h64, h65, room, hc, hc', hc1, hc2, bl (by omega : 1 ≤ 5) hB1, hlong']
      simp [NxS, Tm.get_set, and_assoc]
      first | exact ⟨e', rfl, by simpa using hB1, hC1⟩ | exact ⟨by simpa using hB1, hC1⟩
    · obtain ⟨k1, c1, n1, s1, kk1, z1, l1, rfl, hk1⟩ := hpf hlong
      have hk1' : ¬ 2 ≤ kk1 := by omega
      have hlong' : ¬ (4096 : Int) < (b.length : Int) + ((nm.length : Int) + 2) := by simp at hlong; omega
      simp [Tm.get_set, h0, h2, h4, h63, h64, h65, room, hc, hc', hc1, hc2, bl (by omega : 1 ≤ 5) hB1, hlong', hp, iadA_nat, hk1']
      change Wp (NxS _ _ _ _ _ _ _ _ _ _ _) _
      simp only [Wp_bind, Wp_leave, Wp_after]
      refine TxP.use (hT W (cnt + 1 + 1) e' (hcap 2 (by omega)) hW (hWo.child _ (hcap 2 (by omega))) hB1 hC1) fun e'' hB2 hC2 => ?_
      obtain ⟨r, b3⟩ := r
      cases r
      · simp [Tm.get_set, h0, h2, h4, h63, h64, h65, room, hc, hc', hc1, hc2]
        simp [NxS, Tm.get_set, and_assoc]
        first | exact ⟨e'', rfl, hB2, hC1.trans hC2⟩ | exact ⟨hB2, hC1.trans hC2⟩
      · simp [Tm.get_set, h0, h2, h4, h63, h64, h65, room, hc, hc', hc1, hc2, hw]
        simp [NxS, Tm.get_set, and_assoc, h0, h2, h4, h63, h64, h65]
        first | exact ⟨e'', rfl, hB2, hC1.trans hC2⟩ | exact ⟨hB2, hC1.trans hC2⟩
  · have hi0' : 0 < i := by omega
    simp only [hi0, if_false] at hb1
    obtain ⟨rfl, hb1l⟩ := wrS_some hb1
    simp [b102x0, Tm.get_set, h0, h2, h4, h63, h64, h65, hlt, hnm, hpv, iadA_nat, room, hc, hc', hc1, hc2, hnlen, hi0']
    simp only [Wp_bind, Wp_leave, Wp_after]
    refine WrP.use (wp_string L.toLBuilder hB hl hW hg (hcap' cnt (by omega)) hb1l) fun e0 hB0 hC0 => ?_
    simp [Tm.get_set, h0, h2, h4, h63, h64, h65, room, hc, hc', hc1, hc2, hnlen]
    change Wp (NxS _ _ _ _ _ _ _ _ _ _ _) _
    simp only [Wp_bind, Wp_leave, Wp_after]
    refine WrP.use (wp_string L.toLBuilder hB0 hl hW hg (hcap 1 (by omega)) hb2) fun e' hB1 hC1 => ?_
    replace hC1 := hC0.trans hC1
    have bl2 : ∀ (W : List Lo) (objs : List (Nat × Ob × Ob)), cal P I 163 [.ptr l 0] W (child fid (cnt + 1 + 1)) (psh ⟨fid, objs, []⟩ e') = .ret (.int .i64 (((b ++ [44, 32]) ++ (nm ++ [58, 32])).length : Nat)) (psh ⟨fid, objs, []⟩ e') := fun W objs => bl (by omega : 2 ≤ 5) hB1
    rcases hT with ⟨hlong, rfl⟩ | ⟨hlong, hT⟩
    · have hlong' : (4096 : Int) < (b.length : Int) + ((nm.length : Int) + 2 + 1 + 1) := by simp at hlong; omega
      simp [Tm.get_set, h0, h2, h4, h63, h64, h65, room, hc, hc', hc1, hc2, bl2, hlong']
      simp [NxS, Tm.get_set, and_assoc]
      first | exact ⟨e', rfl, by simpa using hB1, hC1⟩ | exact ⟨by simpa using hB1, hC1⟩
    · obtain ⟨k1, c1, n1, s1, kk1, z1, l1, rfl, hk1⟩ := hpf hlong
      have hk1' : ¬ 2 ≤ kk1 := by omega
      have hlong' : ¬ (4096 : Int) < (b.length : Int) + ((nm.length : Int) + 2 + 1 + 1) := by simp at hlong; omega
      simp [Tm.get_set, h0, h2, h4, h63, h64, h65, room, hc, hc', hc1, hc2, bl2, hlong', hp, iadA_nat, hk1']
      change Wp (NxS _ _ _ _ _ _ _ _ _ _ _) _
      simp only [Wp_bind, Wp_leave, Wp_after]
      refine TxP.use (hT W (cnt + 1 + 1 + 1) e' (hcap 3 (by omega)) hW (hWo.child _ (hcap 3 (by omega))) hB1 hC1) fun e'' hB2 hC2 => ?_
      obtain ⟨r, b3⟩ := r
      cases r
      · simp [Tm.get_set, h0, h2, h4, h63, h64, h65, room, hc, hc', hc1, hc2]
        simp [NxS, Tm.get_set, and_assoc]
        first | exact ⟨e'', rfl, hB2, hC1.trans hC2⟩ | exact ⟨hB2, hC1.trans hC2⟩
      · simp [Tm.get_set, h0, h2, h4, h63, h64, h65, room, hc, hc', hc1, hc2, hw]
        simp [NxS, Tm.get_set, and_assoc, h0, h2, h4, h63, h64, h65]
        first | exact ⟨e'', rfl, hB2, hC1.trans hC2⟩ | exact ⟨hB2, hC1.trans hC2⟩
def NEnd (g : Nat) (l : Lo) (r : Bool × List Nat) (fid : Nat) (e : E) (x : R) : Prop :=
  if r.1 then ∃ s' cnt' o0 e', x = .exit 1 ⟨s', cnt'⟩ (psh ⟨fid, [o0], []⟩ e') ∧ s'.get (.r .e) = .ptr l 0 ∧ cnt' ≤ 600000 ∧ Bd g l r.2 e' ∧ Chg g l e e'
  else ∃ s' cnt' o0 e', x = .ret ⟨s', cnt'⟩ (psh ⟨fid, [o0], []⟩ e') ∧ s'.get (.r (.r .e)) = .bool false ∧ Bd g l r.2 e' ∧ Chg g l e e'
theorem NEnd.use {Q : R → Prop} {g : Nat} {l : Lo} {r : Bool × List Nat} {x : R} (h : NEnd g l r fid e x) (k : ∀ x, NEnd g l r fid e x → Q x) : Wp Q x := k x h
theorem NEnd.more {g : Nat} {l : Lo} {r : Bool × List Nat} {e e1 : E} {x : R} (hC : Chg g l e e1) (h : NEnd g l r fid e1 x) : NEnd g l r fid e x := by
  obtain ⟨b, c⟩ := r
  cases b
  · simp only [NEnd, Bool.false_eq_true, if_false] at h ⊢
    obtain ⟨s', cnt', o0, e', h1, h2, h3, h4⟩ := h
    exact ⟨s', cnt', o0, e', h1, h2, h3, hC.trans h4⟩
  · simp only [NEnd, if_true] at h ⊢
    obtain ⟨s', cnt', o0, e', h1, h2, h3, h4, h5⟩ := h
    exact ⟨s', cnt', o0, e', h1, h2, h3, h4, hC.trans h5⟩
theorem names_loop (L : LTextV it P I) {g : Nat} {lk l : Lo} {k c n : Int} {S : List Nat} {kk : Nat} {ps : List AV} {nv : AV} {nl : List AV} {r : Bool × List Nat} {G : AV → List Nat → Option (Bool × List Nat)} {e0 : E} (hlo : ∀ i, l ≠ .gl i) (hnv : NvR e0 nv nl) (hl : Out l fid) (hW : free W l = true) (hWo : WOut W fid) (hg : Sub g fid)
    (hn : nl.length < 100000) (hG : ∀ p b r, p ∈ ps → G p b = some r → ∃ k c n s kk z l, p = .agg [.int .i64 k, .int .i64 c, .int .i64 n, .str s, .sl kk z l] ∧ kk < 2)
    (hT : ∀ (W : List Lo) p b r q objs e', p ∈ ps → G p b = some r → q < cap → free W l = true → WOut W (child fid q) → Bd g l b e' → Chg g l e0 e' →
      TxP g l r fid objs e' (cal P I 102 [.ptr lk 0, p, .ptr l 0] W (child fid q) (psh ⟨fid, objs, []⟩ e'))) :
    ∀ (m i cnt : Nat) (s : Tm) (b : List Nat) (e : E) (p0 : Ob), i + m = nl.length → cnt ≤ 5 * i + 10 → namesS G (nl.drop i) (ps.drop i) i b = some r → Bd g l b e → Chg g l e0 e →
      s.get .e = .ptr lk 0 → s.get (.r .e) = .ptr l 0 → s.get (.r (.l .e)) = .ptr (.lo fid 0 1) 0 → s.get (.l (.l (.l (.l (.l (.l .e)))))) = nv → s.get (.r (.l (.l (.l (.l (.l .e)))))) = .int .i64 nl.length → s.get (.l (.r (.l (.l (.l (.l .e)))))) = .int .i64 i →
      NEnd g l r fid e (lp (runW (cal P I) fid W b102x0) ⟨s, cnt⟩ (psh ⟨fid, [(1, .cells 47 [.int .i64 k, .int .i64 c, .int .i64 n, .str S, .sl kk 5 ps], p0)], []⟩ e)) := by
  intro m
  induction m with
  | zero =>
    intro i cnt s b e p0 hi hc hS hB hC h0 h2 h4 h63 h64 h65
    have hd : nl.drop i = [] := List.drop_eq_nil_of_le (by omega)
    rw [hd] at hS
    simp only [namesS, Option.some.injEq] at hS
    subst hS
    have hlt : ¬ (i : Int) < (nl.length : Int) := by omega
    rw [lp_eq]
    show Wp (NEnd _ _ _ _ _) _
    simp [b102x0, Tm.get_set, h63, h64, h65, hlt]
    simp [Wp, NEnd, Tm.get_set, h2, and_assoc]
    first | exact ⟨e, rfl, by omega, hB, .refl⟩ | exact ⟨by omega, hB, .refl⟩
  | succ m ih =>
    intro i cnt s b e p0 hi hc hS hB hC h0 h2 h4 h63 h64 h65
    have hil : i < nl.length := by omega
    rw [List.drop_eq_getElem_cons hil] at hS
    have hnm0 : nl[i]? = some nl[i] := List.getElem?_eq_getElem hil
    generalize nl[i] = nmv at hS hnm0
    by_cases hip : i < ps.length
    case neg =>
      rw [List.drop_eq_nil_of_le (by omega : ps.length ≤ i)] at hS
      unfold namesS at hS
      split at hS <;> simp_all
    rw [List.drop_eq_getElem_cons hip] at hS
    have hp : ps[i]? = some ps[i] := List.getElem?_eq_getElem hip
    generalize ps[i] = p at hS hp
    have hpm := List.mem_of_getElem? hp
    have hnm1 : ∃ nm, nmv = .str nm := by
      cases nmv <;> first | exact ⟨_, rfl⟩ | (simp [namesS] at hS; done)
    obtain ⟨nm, rfl⟩ := hnm1
    obtain ⟨pv, hpv, hld⟩ := (hnv.mono (e' := e) (fun i => hC.get (fun h => hlo i h.symm))).at hnm0
    simp only [namesS] at hS
    split at hS
    · cases hS
    next b1 hb1 =>
    split at hS
    · cases hS
    next b2 hb2 =>
    obtain ⟨rfl, hb2l⟩ := wrS_some hb2
    have hcr : cnt + 5 < 1048000 := by omega
    have hpf : ∀ {b r}, G p b = some r → ∃ k c n s kk z l, p = .agg [.int .i64 k, .int .i64 c, .int .i64 n, .str s, .sl kk z l] ∧ kk < 2 := fun h => hG p _ _ hpm h
    split at hS
    · next hlong =>
      simp only [Option.some.injEq] at hS
      subst hS
      have hst := names_step (P := P) (I := I) (e := e) (r := (false, b1 ++ (nm ++ [58, 32]))) (p0 := p0) (k := k) (c := c) (n := n) (S := S) (kk := kk) L hB hl hW hWo hg h0 h2 h4 h63 h64 h65 hil hn hpv hld hp (fun h => absurd hlong h) hcr hb1 hb2l (.inl ⟨hlong, rfl⟩)
      simp only [NxS, Bool.false_eq_true, if_false] at hst
      obtain ⟨s', cnt', e', g1, g2, g3, g4⟩ := hst
      rw [lp_eq, g1]
      exact ⟨s', cnt', _, e', rfl, g2, g3, g4⟩
    · next hlong =>
      split at hS
      · next b3 hg3 =>
        have hst := names_step (P := P) (I := I) (e := e) (r := (true, b3)) (p0 := p0) (k := k) (c := c) (n := n) (S := S) (kk := kk) L hB hl hW hWo hg h0 h2 h4 h63 h64 h65 hil hn hpv hld hp (fun _ => hpf hg3) hcr hb1 hb2l (.inr ⟨hlong, fun W q e' hq h1 h2 h3 h4 => hT W p _ _ q _ e' hpm hg3 hq h1 h2 h3 (hC.trans h4)⟩)
        simp only [NxS, if_true] at hst
        obtain ⟨s', cnt', e', g1, g2, g3, g4, g5, g6, g7, g8, g9, g10⟩ := hst
        rw [lp_eq, g1]
        exact NEnd.more g10 (ih (i + 1) cnt' s' b3 e' p0 (by omega) (by omega) hS g9 (hC.trans g10) g3 g4 g5 g6 g7 g8)
      · next b3 hg3 =>
        simp only [Option.some.injEq] at hS
        subst hS
        have hst := names_step (P := P) (I := I) (e := e) (r := (false, b3)) (p0 := p0) (k := k) (c := c) (n := n) (S := S) (kk := kk) L hB hl hW hWo hg h0 h2 h4 h63 h64 h65 hil hn hpv hld hp (fun _ => hpf hg3) hcr hb1 hb2l (.inr ⟨hlong, fun W q e' hq h1 h2 h3 h4 => hT W p _ _ q _ e' hpm hg3 hq h1 h2 h3 (hC.trans h4)⟩)
        simp only [NxS, Bool.false_eq_true, if_false] at hst
        obtain ⟨s', cnt', e', g1, g2, g3, g4⟩ := hst
        rw [lp_eq, g1]
        exact ⟨s', cnt', _, e', rfl, g2, g3, g4⟩
      · cases hS
theorem LkN.chg {g : Nat} {l lk : Lo} {ns : Int → Option (List AV)} {e e' : E} (h : LkN e lk ns) (hC : Chg g l e e') (hne : lk ≠ l) (hlo : ∀ i, l ≠ .gl i) : LkN e' lk ns := by
  obtain ⟨T, dp, kd, k, z, nl, h1, h2, h3⟩ := h
  refine ⟨T, dp, kd, k, z, nl, by rw [hC.get hne]; exact h1, h2, fun c l hl => ?_⟩
  obtain ⟨nv, h4, h5⟩ := h3 c l hl
  exact ⟨nv, h4, h5.mono fun i => hC.get (fun h => hlo i h.symm)⟩
theorem LkN.psh {lk : Lo} {ns : Int → Option (List AV)} {e : E} {f : FS} (h : LkN e lk ns) (ho : lof lk f.fid = false) : LkN (Abs.psh f e) lk ns := by
  obtain ⟨T, dp, kd, k, z, nl, h1, h2, h3⟩ := h
  refine ⟨T, dp, kd, k, z, nl, by rw [get_psh ho]; exact h1, h2, fun c l hl => ?_⟩
  obtain ⟨nv, h4, h5⟩ := h3 c l hl
  exact ⟨nv, h4, h5.mono fun i => rfl⟩
theorem textV_law (L : LTextV it P I) {ns : Int → Option (List AV)} {lk l : Lo} {g : Nat} (hne : lk ≠ l) (hlo : ∀ i, l ≠ .gl i) :
    ∀ (f : Nat) (v : AV) (b : List Nat) (r : Bool × List Nat) (W : List Lo) (fid : Nat) (e : E), textS it ns f v b = some r → LkN e lk ns → Bd g l b e → Out l fid → Out lk fid → free W l = true → WOut W fid → Sub g fid →
      TxS g l r e (cal P I 102 [.ptr lk 0, v, .ptr l 0] W fid e) := by
  intro f
  induction f with
  | zero => intro v b r W fid e h; simp [textS] at h
  | succ f ih =>
    intro v b r W fid e h hL hB hl hlk hW hWo hg
    obtain ⟨q, k, c, n, s, kk, z, ps, hq, rfl, hkk⟩ := textS_form h
    cases hq
    unfold textS at h
    split at h
    case isFalse => cases h
    case isTrue hc0 =>
    by_cases k1 : k = 1
    · rw [if_pos k1] at h
      cases hit : it n with
      | none => rw [hit] at h; cases h
      | some cc => rw [hit] at h; exact text_leaf L (.inl ⟨k1, hit⟩) hB hl hW hWo hg hkk h
    rw [if_neg k1] at h
    by_cases k2 : k = 2
    · rw [if_pos k2] at h
      exact text_leaf L (.inr (.inl ⟨k2, rfl⟩)) hB hl hW hWo hg hkk h
    rw [if_neg k2] at h
    by_cases k3 : k = 3
    · rw [if_pos k3] at h
      exact text_leaf L (.inr (.inr ⟨k3, rfl⟩)) hB hl hW hWo hg hkk h
    rw [if_neg k3] at h
    by_cases k4 : k = 4
    case neg => rw [if_neg k4] at h; cases h
    rw [if_pos k4] at h
    subst k4
    split at h
    case h_2 => cases h
    next nl hnm =>
    split at h
    case isFalse => cases h
    case isTrue hnl =>
    obtain ⟨_, hz, hpl⟩ := hc0
    have hkk' : ¬ 2 ≤ kk := by omega
    have wo := hWo.own
    have nmv : ∀ {e' : E}, LkN e' lk ns → (∃ nv, NvR e' nv nl ∧ ∀ W cnt objs, cnt < 1000 → cal P I 108 [.ptr lk 0, .int .i64 c] W (child fid cnt) (psh ⟨fid, objs, []⟩ e') = .ret nv (psh ⟨fid, objs, []⟩ e')) := fun hL => by
      obtain ⟨T, dp, kd, k, z, nsl, h1, h2, h3⟩ := hL
      obtain ⟨nv, h4, h5⟩ := h3 c nl hnm
      exact ⟨nv, h5, fun W cnt objs h => names_law L.toLRight ((get_psh hlk.lof).trans h1) (hlk.child _ (by unfold cap; omega)).lof h2 h4⟩
    have hb0 : ∃ b0, wrS b [123] = some b0 ∧ b0 = b ++ [123] ∧ b.length + 1 < big := by
      cases hw : wrS b [123] with
      | none => rw [hw] at h; cases h
      | some b0 => obtain ⟨h1, h2⟩ := wrS_some hw; exact ⟨b0, rfl, h1, h2⟩
    obtain ⟨b0, hb0, rfl, hbl⟩ := hb0
    rw [hb0] at h
    simp only [Option.bind_some] at h
    refine cal_wp (Q := TxS g l _ e) L.i102 L.p102 rfl (by rintro ⟨_, h, _⟩; cases h) ?_
    simp [f102, Tm.get_set, room, wo, hkk']
    simp only [Wp_bind, Wp_leave, Wp_after]
    refine WrP.use (wp_byte L.toLBuilder (c := 123) hB hl hW hg (by decide) hbl) fun e1 hB1 hC1 => ?_
    obtain ⟨nv, hnv, nmv1⟩ := nmv (hL.chg hC1 hne hlo)
    simp [Tm.get_set, room, nmv1, hnv.len]
    change Wp (fun r => TxS _ _ _ _ (bodyR _ fid r)) _
    simp only [Wp_bind, Wp_leave, Wp_after]
    have bl : ∀ {W} {objs} {q} {b : List Nat} {e : E}, q ≤ 700000 → Bd g l b e → cal P I 163 [.ptr l 0] W (child fid q) (psh ⟨fid, objs, []⟩ e) = .ret (.int .i64 b.length) (psh ⟨fid, objs, []⟩ e) := fun h hB => bd_len L.toLBuilder ((Bd.psh_iff hl.lof).2 hB) (hl.child _ (by unfold cap; omega)).lof
    have hloop : ∃ r1, namesS (textS it ns f) nl ps 0 (b ++ [123]) = some r1 ∧ (r1.1 = true ∧ (wrS r1.2 [125]).bind finS = some r ∨ r1.1 = false ∧ r = (false, r1.2)) := by
      split at h
      · next b1 hb1 => exact ⟨_, hb1, .inl ⟨rfl, h⟩⟩
      · next b1 hb1 => simp only [Option.some.injEq] at h; exact ⟨_, hb1, .inr ⟨rfl, h.symm⟩⟩
      · cases h
    clear h
    obtain ⟨r1, hS, hr⟩ := hloop
    refine NEnd.use (fid := fid) (g := g) (l := l) (r := r1) (e := e1) ?_ ?_
    · by_cases hnl0 : nl = []
      · subst hnl0
        simp only [namesS, Option.some.injEq] at hS
        subst hS
        rw [lp_eq]
        show Wp (NEnd _ _ _ _ _) _
        simp [b102x0, Tm.get_set]
        simp [Wp, NEnd, Tm.get_set, and_assoc]
        first | exact ⟨e1, rfl, hB1, .refl⟩ | exact ⟨hB1, .refl⟩
      · have hps0 : ps ≠ [] := by
          rintro rfl
          cases nl with
          | nil => exact hnl0 rfl
          | cons a nl => cases a <;> simp [namesS] at hS
        obtain rfl : z = 5 := hz.resolve_right hps0
        refine names_loop (P := P) (I := I) (e0 := e1) (G := textS it ns f) (lk := lk) (ps := ps) (nv := nv) (nl := nl) L hlo hnv hl hW hWo hg hnl (fun p b r _ hp => ?_) (fun W p b r q objs e' hpm hp hq h1 h2 h3 h4 => ?_) nl.length 0 _ _ (b ++ [123]) _ _ (by omega) (by omega) (by simpa using hS) hB1 .refl ?_ ?_ ?_ ?_ ?_ ?_
        · obtain ⟨_, k, c, n, s, kk, z, l, _, rfl, hk⟩ := textS_form hp
          exact ⟨k, c, n, s, kk, z, l, rfl, hk⟩
        · exact (ih p b r W _ _ hp ((hL.chg (hC1.trans h4) hne hlo).psh hlk.lof) ((Bd.psh_iff hl.lof).2 h3) (hl.child _ hq) (hlk.child _ hq) h1 h2 (hg.trans (.step .refl hq))).psh hl.lof
        all_goals simp
    · intro x hx
      obtain ⟨rb, rc⟩ := r1
      rcases hr with ⟨h1, h2⟩ | ⟨h1, rfl⟩
      · simp only at h1
        subst h1
        simp only [Option.bind_eq_some_iff] at h2
        obtain ⟨d, hd, h2⟩ := h2
        obtain ⟨rfl, hdl⟩ := wrS_some hd
        cases h2
        simp only [NEnd, if_true] at hx
        obtain ⟨s', cnt', o0, e2, rfl, g2, g3, g4, g5⟩ := hx
        have hcr : cnt' < 1048000 := by omega
        have hcr1 : cnt' + 1 < 1048000 := by omega
        simp [Tm.get_set, g2, room, hcr]
        change Wp (fun r => TxS _ _ _ _ (bodyR _ fid r)) _
        simp only [Wp_bind, Wp_leave, Wp_after]
        refine WrP.use (wp_byte L.toLBuilder (c := 125) g4 hl hW hg (by unfold cap; omega) (by simpa using hdl)) fun e3 hB3 hC3 => ?_
        simp [Tm.get_set, g2, room, hcr1, bl (by omega : cnt' + 1 ≤ 700000) hB3]
        exact ⟨e3, by simp only [CR.ret.injEq, AV.bool.injEq, and_true, decide_eq_decide, List.length_append, List.length_singleton]; omega, hB3, (hC1.trans g5).trans hC3⟩
      · simp only at h1
        subst h1
        simp only [NEnd, Bool.false_eq_true, if_false] at hx
        obtain ⟨s', cnt', o0, e2, rfl, g2, g3, g4⟩ := hx
        simp [g2]
        exact ⟨e2, rfl, g3, hC1.trans g4⟩
end Go.Abs.Run
namespace Go.Abs.Run
open Go Go.Abs
attribute [local simp] oM oN oF oE oQ oP oG oL oR oC oX oS oY vi vj vu vz ci cu eI eS eB
attribute [local simp] s0 t0 s1 t1 s2 t2 s3 t3 s4 t4 s5 t5 s6 t6 s7 t7 s8 t8 s9 t9 s10 t10 s11 t11 s12 t12 s13 t13 s14 t14 s15 t15 s16 t16 s17 t17 s18 t18 s19 t19 s20 t20 s21 t21 s22 t22 s23 t23 s24 t24 s25 t25 s26 t26 s27 t27 s28 t28 s29 t29 s30 t30 s31 t31 s32 t32 s33 t33 s34 t34 s35 t35 s36 t36 s37 t37 s38 t38 s39 t39 s40 t40 s41 t41 s42 t42 s43 t43 s44 t44 s45 t45 s46 t46 s47 t47 s48 t48 s49 t49 s50 t50 s51 t51 s52 t52 s53 t53 s54 t54 s55 t55 s56 t56 s57 t57 s58 t58 s59 t59 s60 t60 s61 t61 s62 t62 s63 t63 s64 t64 s65 t65 s66 t66 s67 t67 s68 t68 s69 t69 s70 t70 s71 t71 s72 t72 s73 t73 s74 t74 s75 t75 s76 t76 s77 t77 s78 t78 s79 t79 s80 t80 s81 t81 s82 t82 s83 t83 s84 t84 s85 t85 s86 t86 s87 t87 s88 t88 s89 t89 s90 t90 s91 t91 s92 t92 s93 t93 s94 t94 s95 t95 s96 t96 s97 t97 s98 t98 s99 t99
variable {it : Int → Option (List Nat)} {P : Nat → Option FI} {I : Nat → Option IntrT}
def toldM (it : Int → Option (List Nat)) (ns : Int → Option (List AV)) (f : Nat) (v : AV) : Option AV :=
  match textS it ns f v [] with
  | some (true, b) => cond (isB8 b) (some (.tup [.str b, .int .i64 0])) none
  | some (false, _) => some (.tup [.str [], .int .i64 53])
  | none => none
structure LToldV (it : Int → Option (List Nat)) (P : Nat → Option FI) (I : Nat → Option IntrT) : Prop extends LTextV it P I where
  p38 : P 38 = some f38
  i38 : I 38 = none
variable {W : List Lo} {fid : Nat} {e : E}
theorem finS_le {x : Option (List Nat)} {b : List Nat} (h : x.bind finS = some (true, b)) : b.length ≤ 4096 := by
  simp only [Option.bind_eq_some_iff, finS, Option.some.injEq, Prod.mk.injEq, decide_eq_true_eq] at h
  obtain ⟨a, _, h1, rfl⟩ := h
  exact h1
theorem textS_le {ns : Int → Option (List AV)} {f : Nat} {v : AV} {b c : List Nat} (h : textS it ns f v c = some (true, b)) : b.length ≤ 4096 := by
  unfold textS at h
  split at h
  · split at h
    · split at h
      · exact finS_le h
      split at h
      · exact finS_le h
      split at h
      · exact finS_le h
      split at h
      · split at h
        · split at h
          · split at h
            · exact finS_le h
            · cases h
            · cases h
          · cases h
        · cases h
      · cases h
    · cases h
  · cases h
def Gives (fid : Nat) (v : AV) (e : E) (x : CR) : Prop := ∃ ks, x = .ret v (killL ks e) ∧ ∀ k ∈ ks, Kin fid k
theorem Gives.exact {v : AV} {x : CR} (h : Gives fid v e x) (hn : noFamE fid e = true) : x = .ret v e := by
  obtain ⟨ks, rfl, hk⟩ := h
  congr 1
  induction ks with
  | nil => rfl
  | cons k ks ih =>
    obtain ⟨y, d, h1, h2, rfl⟩ := hk k (List.mem_cons_self ..)
    rw [killL, kill_fam (famK_of h1 h2) hn]
    exact ih fun k h => hk k (List.mem_cons_of_mem _ h)
theorem Chg.own {g a i : Nat} {objs : List (Nat × Ob × Ob)} {live : List Nat} {e e' : E} (h : Chg g (.lo g a i) (Abs.psh ⟨g, objs, live⟩ e) e') :
    ∃ live' objs' ks, e' = Abs.psh ⟨g, objs', live'⟩ (killL ks e) ∧ ∀ k ∈ ks, Kin g k := by
  obtain ⟨ks, bs, o, rfl, hk⟩ := h
  have : ∀ bs live, ∃ live', bearL bs (.lo g a i) (Abs.psh ⟨g, objs, live⟩ (killL ks e)) = Abs.psh ⟨g, objs, live'⟩ (killL ks e) := by
    intro bs
    induction bs with
    | nil => exact fun live => ⟨live, rfl⟩
    | cons k bs ih => intro live; obtain ⟨l', hl⟩ := ih live; exact ⟨k :: l', by rw [bearL, hl, bear_psh_lo]; simp⟩
  rw [killL_psh]
  obtain ⟨l', hl⟩ := this bs (dropL ks live)
  rw [hl, set_psh_lo]
  simp only [beq_dec, decide_true, cond_true]
  refine ⟨l', (fsSet ⟨g, objs, l'⟩ a i o).objs, ks, ?_, hk⟩
  have h1 := fsSet_fid ⟨g, objs, l'⟩ a i o
  have h2 := fsSet_live ⟨g, objs, l'⟩ a i o
  generalize fsSet ⟨g, objs, l'⟩ a i o = F at h1 h2 ⊢
  obtain ⟨x, y, z⟩ := F
  simp only at h1 h2
  subst h1 h2
  rfl
theorem toldV_law (L : LToldV it P I) {ns : Int → Option (List AV)} {lk : Lo} {f : Nat} {v r : AV} (h : toldM it ns f v = some r) (hL : LkN e lk ns) (hlk : Out lk fid) (hWo : WOut W fid) :
    Gives fid r e (cal P I 38 [.ptr lk 0, v] W fid e) := by
  unfold toldM at h
  have hf : ∃ k c n s kk z ps, v = .agg [.int .i64 k, .int .i64 c, .int .i64 n, .str s, .sl kk z ps] ∧ kk < 2 := by
    cases ht : textS it ns f v [] with
    | none => rw [ht] at h; cases h
    | some r => obtain ⟨_, k, c, n, s, kk, z, ps, _, h1, h2⟩ := textS_form ht; exact ⟨k, c, n, s, kk, z, ps, h1, h2⟩
  obtain ⟨k, c, n, s, kk, z, ps, rfl, hkk⟩ := hf
  have hkk' : ¬ 2 ≤ kk := by omega
  have wo := hWo.own
  have hne : lk ≠ .lo fid 1 1 := by rintro rfl; have := hlk.lof; simp at this
  refine cal_wp (Q := Gives fid r e) L.i38 L.p38 rfl (by rintro ⟨_, h, _⟩; cases h) ?_
  simp [f38, Tm.get_set, room, wo, hkk']
  simp only [Wp_bind, Wp_leave, Wp_after]
  have hB0 : ∀ objs live, Bd fid (.lo fid 1 1) [] (psh ⟨fid, [objs, (1, .cells 203 [.nilp, .sl 1 0 []], .none)], live⟩ e) := fun objs live => by
    refine ⟨.nilp, 1, 0, by simp [byteVs], .inl ⟨.inl rfl, rfl, rfl, rfl⟩⟩
  have hO : ∀ q, q < cap → Out (.lo fid 1 1) (child fid q) := fun q _ => Out.own fid 1 1 q
  have hWf : ∀ x ∈ W, x ≠ .lo fid 1 1 := fun x hx h => by
    have := wo 1 1
    rw [← h] at this
    rw [free_mem] at this
    exact this hx
  cases ht : textS it ns f (.agg [.int .i64 k, .int .i64 c, .int .i64 n, .str s, .sl kk z ps]) [] with
  | none => rw [ht] at h; cases h
  | some tr =>
  rw [ht] at h
  obtain ⟨tb, b⟩ := tr
  obtain ⟨e', hr, hB, hC⟩ := textV_law L.toLTextV (l := .lo fid 1 1) (g := fid) hne (by intro i h; cases h) f _ [] (tb, b) W (child fid 0) _ ht (hL.psh (f := ⟨fid, [(1, .cells 47 [.int .i64 k, .int .i64 c, .int .i64 n, .str s, .sl kk z ps], .none), (1, .cells 203 [.nilp, .sl 1 0 []], .none)], []⟩) hlk.lof) (hB0 _ _) (hO 0 (by decide)) (hlk.child 0 (by decide)) (wo 1 1) (hWo.child 0 (by decide)) (.step .refl (by decide))
  rw [hr]
  obtain ⟨live', objs', ks, rfl, hk⟩ := hC.own
  cases tb with
  | false =>
    cases h
    simp [WpC, Tm.get_set]
    exact ⟨ks, rfl, hk⟩
  | true =>
    have hb8 : isB8 b = true := by cases hb : isB8 b with | true => rfl | false => simp [hb] at h
    simp only [hb8, cond_true, Option.some.injEq] at h
    subst h
    have hlen : b.length < 4294967296 := by have := textS_le ht; omega
    have hst : ∀ W, cal P I 103 [.ptr (.lo fid 1 1) 0] W (child fid 1) (psh ⟨fid, objs', live'⟩ (killL ks e)) = .ret (.str b) (psh ⟨fid, objs', live'⟩ (killL ks e)) := fun W => bd_string L.toLBuilder hB (hO 1 (by decide)).lof (isB8_iff.1 hb8) hlen
    simp [WpC, Tm.get_set, room, hst]
    exact ⟨ks, rfl, hk⟩
end Go.Abs.Run
namespace Go.Abs.Run
open Go Go.Abs
variable {it : Int → Option (List Nat)}
noncomputable def woutB (fid : Nat) : List Lo → Bool
  | [] => true
  | .gl _ :: l => woutB fid l
  | .lo y _ _ :: l => cond (anc (y + 1) fid y) false (woutB fid l)
theorem woutB_of {fid : Nat} : ∀ {W : List Lo}, woutB fid W = true → WOut W fid
  | [], _ => .nil fid
  | .gl i :: l, h => fun x hx a j => by simp [woutB_of (W := l) h x hx a j]
  | .lo y b c :: l, h => fun x hx a j => by
    simp only [woutB] at h
    cases hb : anc (y + 1) fid y with
    | true => rw [hb] at h; cases h
    | false =>
      rw [hb] at h
      have hne : y ≠ x := by rintro rfl; rw [anc_of hx _ (by omega)] at hb; cases hb
      simp [woutB_of (W := l) h x hx a j, hne]
noncomputable def zOK (z : Nat) (l : List AV) : Bool := Nat.beq z 1 || l.isEmpty
theorem zOK_of {z : Nat} {l : List AV} (h : zOK z l = true) : z = 1 ∨ l = [] := by
  simp only [zOK, Bool.or_eq_true, List.isEmpty_iff] at h
  exact h.imp Nat.eq_of_beq_eq_true id
noncomputable def rightO (pl : List Nat → Option Bool) (v : AV) (e : E) : Ob → Option (AV × E)
  | .cells _ [_, .sl _ z1 ks, .sl _ z2 ns] => cond (zOK z1 ks && zOK z2 ns) (match rightM pl ks ns 20 v with | some b => some (.bool b, e) | none => none) none
  | _ => none
noncomputable def rightI (pl : List Nat → Option Bool) : IntrT := fun args W fid e =>
  match args with
  | [.ptr (.gl i) 0, v] => cond (woutB fid W) (rightO pl v e (e.get (.gl i))) none
  | _ => none
noncomputable def wrR (a : List Nat) (n : Nat) (c : List Nat) : Option (List Nat × Nat) :=
  cond (Nat.blt (n + lenK c 0) 1000000) (some (c.reverseAux a, n + lenK c 0)) none
theorem lenK_eq {α : Type} : ∀ (c : List α) (k : Nat), lenK c k = k + c.length
  | [], k => by cases k <;> rfl
  | a :: c, 0 => by show lenK c 1 = _; rw [lenK_eq c 1, List.length_cons]; omega
  | a :: c, k + 1 => by show lenK c (k + 2) = _; rw [lenK_eq c (k + 2), List.length_cons]; omega
theorem revAux_eq (c a : List Nat) : (c.reverseAux a).reverse = a.reverse ++ c := by rw [List.reverseAux_eq, List.reverse_append, List.reverse_reverse]
theorem wrR_of {a : List Nat} {n : Nat} {c : List Nat} {r : List Nat × Nat} (h : wrR a n c = some r) (hn : n = a.length) : wrS a.reverse c = some r.1.reverse ∧ r.2 = r.1.length := by
  subst hn
  simp only [wrR, lenK_eq, Nat.zero_add] at h
  obtain ⟨h1, h2⟩ := cond_some h
  cases h2
  have h1 : a.length + c.length < 1000000 := Nat.le_of_ble_eq_true h1
  refine ⟨?_, ?_⟩
  · simp only [revAux_eq, wrS, List.length_reverse]
    rw [if_pos h1]
  · rw [List.reverseAux_eq]; simp; omega
noncomputable def finRv (r : List Nat × Nat) : Option (Bool × List Nat × Nat) := some (Nat.ble r.2 4096, r)
noncomputable def namesR (g : AV → List Nat → Nat → Option (Bool × List Nat × Nat)) : List AV → List AV → Nat → List Nat → Nat → Option (Bool × List Nat × Nat)
  | [], _, _, a, n => some (true, a, n)
  | .str nm :: l, p :: ps, i, a, n =>
    match (match i with | 0 => some (a, n) | _ + 1 => wrR a n [44, 32]) with
    | none => none
    | some (a1, n1) =>
      match wrR a1 n1 (nm ++ [58, 32]) with
      | none => none
      | some (a2, n2) =>
        cond (Nat.blt 4096 n2) (some (false, a2, n2))
          (match g p a2 n2 with
          | some (true, a3, n3) => namesR g l ps (i + 1) a3 n3
          | some (false, a3, n3) => some (false, a3, n3)
          | none => none)
  | _, _, _, _, _ => none
noncomputable def textR (it : Int → Option (List Nat)) (ns : Int → Option (List AV)) : Nat → AV → List Nat → Nat → Option (Bool × List Nat × Nat)
  | f + 1, .agg [.int .i64 k, .int .i64 c, .int .i64 n, .str s, .sl kk z ps], a, m =>
    cond (Nat.blt kk 2 && ((Nat.beq z 5 || ps.isEmpty) && Nat.blt (lenK ps 0) 100000))
      (match k with
      | .ofNat 1 => match it n with | some c => (wrR a m c).bind finRv | none => none
      | .ofNat 2 => (wrR a m (boolS (decide (n = 1)))).bind finRv
      | .ofNat 3 => (wrR a m s).bind finRv
      | .ofNat 4 =>
        match ns c with
        | some l =>
          cond (Nat.blt (lenK l 0) 100000)
            (match wrR a m [123] with
            | none => none
            | some (a1, m1) =>
              match namesR (textR it ns f) l ps 0 a1 m1 with
              | some (true, a2, m2) => (wrR a2 m2 [125]).bind finRv
              | some (false, a2, m2) => some (false, a2, m2)
              | none => none) none
        | none => none
      | _ => none) none
  | _, _, _, _ => none
theorem finR_of {x : Option (List Nat × Nat)} {y : Option (List Nat)} {r : Bool × List Nat × Nat} (h : x.bind finRv = some r) (hx : ∀ q, x = some q → y = some q.1.reverse ∧ q.2 = q.1.length) : y.bind finS = some (r.1, r.2.1.reverse) ∧ r.2.2 = r.2.1.length := by
  cases x with
  | none => cases h
  | some q =>
    obtain ⟨h1, h2⟩ := hx q rfl
    cases h
    subst h1
    obtain ⟨a, n⟩ := q
    simp only at h2
    subst h2
    refine ⟨?_, rfl⟩
    show some (decide (a.reverse.length ≤ 4096), a.reverse) = some (Nat.ble a.length 4096, a.reverse)
    rw [List.length_reverse, ble_dec]
theorem namesR_of {g : AV → List Nat → Nat → Option (Bool × List Nat × Nat)} {g' : AV → List Nat → Option (Bool × List Nat)} (hg : ∀ p a n r, g p a n = some r → n = a.length → g' p a.reverse = some (r.1, r.2.1.reverse) ∧ r.2.2 = r.2.1.length) :
    ∀ (l ps : List AV) (i : Nat) (a : List Nat) (n : Nat) (r : Bool × List Nat × Nat), namesR g l ps i a n = some r → n = a.length → namesS g' l ps i a.reverse = some (r.1, r.2.1.reverse) ∧ r.2.2 = r.2.1.length := by
  intro l
  induction l with
  | nil => intro ps i a n r h hn; cases h; exact ⟨rfl, hn⟩
  | cons x l ih =>
    intro ps i a n r h hn
    have hx : ∃ nm, x = .str nm := by cases x <;> first | exact ⟨_, rfl⟩ | (cases ps <;> cases h)
    obtain ⟨nm, rfl⟩ := hx
    cases ps with
    | nil => cases h
    | cons p ps =>
      simp only [namesR] at h
      simp only [namesS]
      have h1 : ∀ q, (match i with | 0 => some (a, n) | _ + 1 => wrR a n [44, 32]) = some q → (if i = 0 then some a.reverse else wrS a.reverse [44, 32]) = some q.1.reverse ∧ q.2 = q.1.length := by
        intro q hq
        cases i with
        | zero => cases hq; exact ⟨rfl, hn⟩
        | succ i => rw [if_neg (by omega)]; exact wrR_of hq hn
      generalize (match i with | 0 => some (a, n) | _ + 1 => wrR a n [44, 32]) = X at h h1
      cases X with
      | none => cases h
      | some q =>
        obtain ⟨h2, h3⟩ := h1 q rfl
        rw [h2]
        simp only at h ⊢
        cases hw : wrR q.1 q.2 (nm ++ [58, 32]) with
        | none => rw [hw] at h; cases h
        | some q2 =>
          rw [hw] at h
          obtain ⟨h4, h5⟩ := wrR_of hw h3
          rw [h4]
          simp only at h ⊢
          rw [List.length_reverse, ← h5]
          by_cases hl : 4096 < q2.2
          · have : Nat.blt 4096 q2.2 = true := by rw [blt_dec]; simpa using hl
            rw [this] at h
            rw [if_pos hl]
            cases h
            exact ⟨rfl, h5⟩
          · have : Nat.blt 4096 q2.2 = false := by rw [blt_dec]; simpa using hl
            rw [this] at h
            rw [if_neg hl]
            simp only [cond_false] at h
            cases hp : g p q2.1 q2.2 with
            | none => rw [hp] at h; cases h
            | some q3 =>
              rw [hp] at h
              obtain ⟨h6, h7⟩ := hg p q2.1 q2.2 q3 hp h5
              rw [h6]
              obtain ⟨b, a3, n3⟩ := q3
              cases b with
              | true => exact ih ps (i + 1) a3 n3 r h h7
              | false => cases h; exact ⟨rfl, h7⟩
theorem textR_form {ns : Int → Option (List AV)} {f : Nat} {v : AV} {a : List Nat} {m : Nat} {r : Bool × List Nat × Nat} (h : textR it ns f v a m = some r) : ∃ g k c n s kk z ps, f = g + 1 ∧ v = .agg [.int .i64 k, .int .i64 c, .int .i64 n, .str s, .sl kk z ps] := by
  unfold textR at h
  split at h
  · exact ⟨_, _, _, _, _, _, _, _, rfl, rfl⟩
  · cases h
theorem textR_of {ns : Int → Option (List AV)} : ∀ (f : Nat) (v : AV) (a : List Nat) (m : Nat) (r : Bool × List Nat × Nat), textR it ns f v a m = some r → m = a.length → textS it ns f v a.reverse = some (r.1, r.2.1.reverse) ∧ r.2.2 = r.2.1.length := by
  intro f
  induction f with
  | zero => intro v a m r h; simp [textR] at h
  | succ f ih =>
    intro v a m r h hm
    obtain ⟨f', k, c, n, s, kk, z, ps, hf, rfl⟩ := textR_form h
    cases hf
    rw [textR.eq_def] at h
    dsimp only at h
    obtain ⟨h0, h⟩ := cond_some h
    simp only [Bool.and_eq_true, Bool.or_eq_true, blt_dec, beq_dec, decide_eq_true_eq, List.isEmpty_iff, lenK_eq, Nat.zero_add] at h0
    unfold textS
    rw [if_pos h0]
    split at h
    · rw [if_pos (show Int.ofNat 1 = 1 from rfl)]
      split at h
      · next cc hit => (try rw [hit]); exact finR_of h fun q hq => wrR_of hq hm
      · cases h
    · rw [if_neg (by decide), if_pos (show Int.ofNat 2 = 2 from rfl)]
      exact finR_of h fun q hq => wrR_of hq hm
    · rw [if_neg (by decide), if_neg (by decide), if_pos (show Int.ofNat 3 = 3 from rfl)]
      exact finR_of h fun q hq => wrR_of hq hm
    · rw [if_neg (by decide), if_neg (by decide), if_neg (by decide), if_pos (show Int.ofNat 4 = 4 from rfl)]
      split at h
      · next l hnm =>
        try rw [hnm]
        obtain ⟨h1, h⟩ := cond_some h
        simp only [blt_dec, decide_eq_true_eq, lenK_eq, Nat.zero_add] at h1
        try simp only
        rw [if_pos h1]
        cases hw : wrR a m [123] with
        | none => rw [hw] at h; cases h
        | some q =>
          rw [hw] at h
          obtain ⟨h2, h3⟩ := wrR_of hw hm
          rw [h2]
          simp only [Option.bind_some] at h ⊢
          cases hn : namesR (textR it ns f) l ps 0 q.1 q.2 with
          | none => rw [hn] at h; cases h
          | some q2 =>
            rw [hn] at h
            obtain ⟨h4, h5⟩ := namesR_of (g' := textS it ns f) (fun p a n r hp hn => ih p a n r hp hn) l ps 0 q.1 q.2 q2 hn h3
            rw [h4]
            obtain ⟨b, a2, m2⟩ := q2
            cases b with
            | true => exact finR_of h fun q hq => wrR_of hq h5
            | false => cases h; exact ⟨rfl, h5⟩
      · cases h
    · cases h
noncomputable def toldR (it : Int → Option (List Nat)) (ns : Int → Option (List AV)) (v : AV) : Option AV :=
  match textR it ns 20 v [] 0 with
  | some (true, a, _) => cond (isB8 a.reverse) (some (.tup [.str a.reverse, .int .i64 (.ofNat 0)])) none
  | some (false, _, _) => some (.tup [.str [], .int .i64 (.ofNat 53)])
  | none => none
theorem toldR_of {ns : Int → Option (List AV)} {v r : AV} (h : toldR it ns v = some r) : toldM it ns 20 v = some r := by
  unfold toldR at h
  unfold toldM
  split at h
  · next a n ht => rw [show textS it ns 20 v [] = _ from (textR_of 20 v [] 0 _ ht rfl).1]; exact h
  · next a n ht => rw [show textS it ns 20 v [] = _ from (textR_of 20 v [] 0 _ ht rfl).1]; exact h
  · cases h
noncomputable def nmV (e : E) (off m : Nat) (sz : Nat) : Ob → Option (List AV)
  | .vec w es => cond (Nat.beq w 1 && (Nat.beq (lenK es 0) sz && Nat.beq (lenK ((es.drop off).take m) 0) m)) (some ((es.drop off).take m)) none
  | _ => none
noncomputable def nmA (e : E) : AV → Option (List AV)
  | .sl _ z l => cond (zOK z l) (some l) none
  | .hs (.gl i) z sz off m _ => cond (Nat.beq z 1) (nmV e off m sz (e.get (.gl i))) none
  | _ => none
noncomputable def nmE (e : E) (ns : List AV) (c : Int) : Option (List AV) := match namesM ns c with | some nv => nmA e nv | none => none
theorem nmE_of {e : E} {ns : List AV} {c : Int} {l : List AV} (h : nmE e ns c = some l) : ∃ nv, namesM ns c = some nv ∧ NvR e nv l := by
  unfold nmE at h
  split at h
  · next nv hn =>
    refine ⟨nv, hn, ?_⟩
    unfold nmA at h
    split at h
    · obtain ⟨h1, h2⟩ := cond_some h
      cases h2
      exact .inl ⟨_, _, rfl, zOK_of h1⟩
    · next i z sz off m ex =>
      obtain ⟨h1, h2⟩ := cond_some h
      obtain rfl := Nat.eq_of_beq_eq_true h1
      unfold nmV at h2
      split at h2
      · next w es he =>
        obtain ⟨h3, h4⟩ := cond_some h2
        simp only [Bool.and_eq_true, beq_dec, decide_eq_true_eq, lenK_eq, Nat.zero_add] at h3
        obtain ⟨rfl, h5, h6⟩ := h3
        cases h4
        refine .inr ⟨i, sz, off, ex, es, ?_, he, h5, ?_⟩
        · rw [h6]
        · rw [h6]
      · cases h2
    · cases h
  · cases h
noncomputable def toldO (it : Int → Option (List Nat)) (v : AV) (e : E) : Ob → Option (AV × E)
  | .cells _ [_, _, .sl _ z2 ns] => cond (zOK z2 ns) (match toldR it (nmE e ns) v with | some b => some (b, e) | none => none) none
  | _ => none
noncomputable def toldI (it : Int → Option (List Nat)) : IntrT := fun args W fid e =>
  match args with
  | [.ptr (.gl i) 0, v] => cond (woutB fid W && noFamE fid e) (toldO it v e (e.get (.gl i))) none
  | _ => none
variable [Glob] {prog : Program} {T : FuncId → Option FI} {I : FuncId → Option IntrT}
theorem right_lawOK (hI : IntrOK prog I ∧ IntrPure I) (L : LRight T I) {pl : List Nat → Option Bool} (hpl : ∀ s b, pl s = some b → ∀ W fid e, cal T I 106 [.str s] W fid e = .ret (.bool b) e) : LawOK prog T 42 (rightI pl) := by
  intro args W fid e v e' h
  unfold rightI at h
  split at h
  · next i v0 =>
    obtain ⟨hW, h⟩ := cond_some h
    unfold rightO at h
    split at h
    · next T' dp k1 z1 ks k2 z2 ns hl =>
      obtain ⟨hz, h⟩ := cond_some h
      simp only [Bool.and_eq_true] at hz
      split at h
      · next b hb =>
        cases h
        exact ⟨I, hI.1, hI.2, right_law L hpl 20 v0 b W fid e hb ⟨_, _, _, _, _, _, hl, zOK_of hz.1, zOK_of hz.2⟩ (.gl i fid) (woutB_of hW)⟩
      · cases h
    · cases h
  · cases h
theorem told_lawOK (hI : IntrOK prog I ∧ IntrPure I) (L : LToldV it T I) : LawOK prog T 38 (toldI it) := by
  intro args W fid e v e' h
  unfold toldI at h
  split at h
  · next i v0 =>
    obtain ⟨hW, h⟩ := cond_some h
    simp only [Bool.and_eq_true] at hW
    unfold toldO at h
    split at h
    · next T' dp kd k2 z2 ns hl =>
      obtain ⟨hz, h⟩ := cond_some h
      split at h
      · next b hb =>
        cases h
        exact ⟨I, hI.1, hI.2, (toldV_law L (toldR_of hb) ⟨_, _, _, _, _, _, hl, zOK_of hz, fun c l h => nmE_of h⟩ (.gl i fid) (woutB_of hW.1)).exact hW.2⟩
      · cases h
    · cases h
  · cases h
end Go.Abs.Run
