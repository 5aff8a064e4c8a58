/- Proved on the way to: coillaw10.ValueSame returns true whatever the memory, its listed package variables reading as the program's text lays them. -/
import Derived.Test.YtgoimidglekdoaaGreatDoorC1
import Derived.Test.YtgoimidglekdoaaGreatDoorC2
import Derived.Test.YtgoimidglekdoaaGreatDoorB5
import Derived.Test.YtgoimidglekdoaaGreatDoorB4
set_option autoImplicit false
set_option linter.unusedSectionVars false
set_option linter.unusedSimpArgs false
set_option linter.unusedVariables false
/- strings.Builder: what its functions come to. -/
set_option linter.unusedSimpArgs false
set_option linter.unusedSectionVars false
set_option linter.unusedVariables false
namespace Go.Abs.Run
open Go Go.Abs
attribute [local simp] oM oN oF oE oQ oP oG oL oR oC oX oS oY vi vj vu vz ci cu eI eS eB
attribute [local simp] s0 t0 s1 t1 s2 t2 s3 t3 s4 t4 s5 t5 s6 t6 s7 t7 s8 t8 s9 t9 s10 t10 s11 t11 s12 t12 s13 t13 s14 t14 s15 t15 s16 t16 s17 t17 s18 t18 s19 t19 s20 t20 s21 t21 s22 t22 s23 t23 s24 t24 s25 t25 s26 t26 s27 t27 s28 t28 s29 t29 s30 t30 s31 t31 s32 t32 s33 t33 s34 t34 s35 t35 s36 t36 s37 t37 s38 t38 s39 t39 s40 t40 s41 t41 s42 t42 s43 t43 s44 t44 s45 t45 s46 t46 s47 t47 s48 t48 s49 t49 s50 t50 s51 t51 s52 t52 s53 t53 s54 t54 s55 t55 s56 t56 s57 t57 s58 t58 s59 t59
variable {P : Nat → Option FI} {I : Nat → Option IntrT}

/-- The functions that laws speak of. -/
structure LBuilder (P : Nat → Option FI) (I : Nat → Option IntrT) : Prop where
  iNE : I 260 = some iNo
  p103 : P 103 = some f103
  i103 : I 103 = none
  p160 : P 160 = some f160
  i160 : I 160 = none
  p162 : P 162 = some f162
  i162 : I 162 = none
  p163 : P 163 = some f163
  i163 : I 163 = none
  p216 : P 216 = some f216
  i216 : I 216 = none


theorem len_law (L : LBuilder P I) {W : List Lo} {fid : Nat} {e : E} {l : Lo} {t : Nat} {a : AV} {k z : Nat} {b : List AV}
   (hl : e.get l = .cells t [a, .sl k z b]) (hf : lof l fid = false) :
   cal P I 163 [.ptr l 0] W fid e = .ret (.int .i64 b.length) e := by
  refine cal_of L.i163 L.p163 rfl (by simp) ?_
  simp [f163, get_psh, hf, hl]

theorem check_nil (L : LBuilder P I) {W : List Lo} {fid : Nat} {e : E} {l : Lo} {x : AV}
   (hl : e.get l = .cells 203 [.nilp, x]) (hf : lof l fid = false) (hW : free W l = true) :
   cal P I 216 [.ptr l 0] W fid e = .ret (.tup []) (e.set l (.cells 203 [.ptr l 0, x])) := by
  refine cal_of L.i216 L.p216 rfl (by simp) ?_
  have hNE : ∀ fid e, cal P I 260 [.ptr l 0] W fid e = .ret (.ptr l 0) e := fun fid e => cal_intr L.iNE rfl
  simp [f216, get_psh, set_psh, hf, hl, hNE, hW, cvuA, cvuO, cvpA, cvpO, okIn, room]

theorem check_ptr (L : LBuilder P I) {W : List Lo} {fid : Nat} {e : E} {l : Lo} {x : AV}
   (hl : e.get l = .cells 203 [.ptr l 0, x]) (hf : lof l fid = false) :
   cal P I 216 [.ptr l 0] W fid e = .ret (.tup []) e := by
  refine cal_of L.i216 L.p216 rfl (by simp) ?_
  simp [f216, get_psh, hf, hl]

/-- A buffer that may grow in place. -/
def Tkt (e : E) (k z : Nat) (b : List AV) : Prop := (k = 1 ∧ z = 0 ∧ b = []) ∨ (z = 1 ∧ k % 2 = 1 ∧ 2 ≤ k ∧ e.live k = true)

theorem writeByte_ptr (L : LBuilder P I) {W : List Lo} {fid : Nat} {e : E} {l : Lo} {b : List AV} {c k z : Nat}
   (h1 : e.get l = .cells 203 [.ptr l 0, .sl k z b]) (h3 : Tkt e k z b) (hb : b.length + 1 < big) (hf : Out l fid) (hW : free W l = true) :
   cal P I 162 [.ptr l 0, .int .u8 c] W fid e = .ret .nili ((grow e k (fresh fid 1) l).set l (.cells 203 [.ptr l 0, .sl (fresh fid 1) 1 (b ++ [.int .u8 c])])) := by
  have hcc : ∀ W f x y, lof l f = false → cal P I 216 [.ptr l 0] W f (psh ⟨fid, x, y⟩ e) = .ret (.tup []) (psh ⟨fid, x, y⟩ e) := fun W f x y hf' => check_ptr L (x := .sl k z b) (by rw [get_psh (by simpa using hf.lof)]; exact h1) hf'
  refine cal_of L.i162 L.p162 rfl (by simp) ?_
  rcases h3 with ⟨rfl, rfl, rfl⟩ | ⟨rfl, h4, h5, h6⟩
  · simp [f162, get_psh, set_psh, bear_psh, hf.lof, (hf.child 0 (by decide)).lof, h1, hW, hcc, elems, elemsL, appE, appV, appSl, is8, ticket, ticketC, tick, room, grow, (by decide : 1 < big)]
  · have h7 : k ≠ 1 := by omega
    simp [f162, get_psh, set_psh, bear_psh, hf.lof, (hf.child 0 (by decide)).lof, h1, hW, hcc, elems, elemsL, appE, appV, appSl, is8, ticket, ticketC, tick, room, grow, hb, h4, h5, h6, h7]

theorem writeByte_nil (L : LBuilder P I) {W : List Lo} {fid : Nat} {e : E} {l : Lo} {c : Nat}
   (h1 : e.get l = .cells 203 [.nilp, .sl 1 0 []]) (hf : Out l fid) (hW : free W l = true) :
   cal P I 162 [.ptr l 0, .int .u8 c] W fid e = .ret .nili ((grow (e.set l (.cells 203 [.ptr l 0, .sl 1 0 []])) 1 (fresh fid 1) l).set l (.cells 203 [.ptr l 0, .sl (fresh fid 1) 1 [.int .u8 c]])) := by
  have hcc : ∀ W f x y, lof l f = false → free W l = true → cal P I 216 [.ptr l 0] W f (psh ⟨fid, x, y⟩ e) = .ret (.tup []) (psh ⟨fid, x, y⟩ (e.set l (.cells 203 [.ptr l 0, .sl 1 0 []]))) := fun W f x y hf' hW' => by
    rw [check_nil L (x := .sl 1 0 []) (by rw [get_psh (by simpa using hf.lof)]; exact h1) hf' hW', set_psh (by simpa using hf.lof)]
  have h2 : (e.set l (.cells 203 [.ptr l 0, .sl 1 0 []])).get l = .cells 203 [.ptr l 0, .sl 1 0 []] := E.get_set_same _ _ _ (by rw [h1]; simp)
  refine cal_of L.i162 L.p162 rfl (by simp) ?_
  simp [f162, get_psh, set_psh, bear_psh, hf.lof, (hf.child 0 (by decide)).lof, h2, hW, hcc, elems, elemsL, appE, appV, appSl, is8, ticket, ticketC, tick, room, grow, (by decide : 1 < big)]

theorem writeString_ptr (L : LBuilder P I) {W : List Lo} {fid : Nat} {e : E} {l : Lo} {b : List AV} {c : List Nat} {k z : Nat}
   (h1 : e.get l = .cells 203 [.ptr l 0, .sl k z b]) (h3 : Tkt e k z b) (hc : c ≠ []) (hb : b.length + c.length < big) (hf : Out l fid) (hW : free W l = true) :
   cal P I 160 [.ptr l 0, .str c] W fid e = .ret (.tup [.int .i64 c.length, .nili]) ((grow e k (fresh fid 1) l).set l (.cells 203 [.ptr l 0, .sl (fresh fid 1) 1 (b ++ byteVs c)])) := by
  have hcc : ∀ W f x y, lof l f = false → cal P I 216 [.ptr l 0] W f (psh ⟨fid, x, y⟩ e) = .ret (.tup []) (psh ⟨fid, x, y⟩ e) := fun W f x y hf' => check_ptr L (x := .sl k z b) (by rw [get_psh (by simpa using hf.lof)]; exact h1) hf'
  have hlen : ∀ c, (byteVs c).length = c.length := fun c => by induction c with | nil => rfl | cons a c ih => simp [byteVs, ih]
  have hne : (byteVs c).isEmpty = false := by cases c with | nil => exact absurd rfl hc | cons a c => rfl
  refine cal_of L.i160 L.p160 rfl (by simp) ?_
  rcases h3 with ⟨rfl, rfl, rfl⟩ | ⟨rfl, h4, h5, h6⟩
  · have hb' : c.length < big := by simpa using hb
    simp [f160, get_psh, set_psh, bear_psh, hf.lof, (hf.child 0 (by decide)).lof, h1, hW, hcc, elems, elemsL, appE, appV, appSl, is8, ticket, ticketC, tick, room, grow, hb', hlen, hne]
  · have h7 : k ≠ 1 := by omega
    simp [f160, get_psh, set_psh, bear_psh, hf.lof, (hf.child 0 (by decide)).lof, h1, hW, hcc, elems, elemsL, appE, appV, appSl, is8, ticket, ticketC, tick, room, grow, hb, h4, h5, h6, h7, hlen, hne]

theorem writeString_nil (L : LBuilder P I) {W : List Lo} {fid : Nat} {e : E} {l : Lo} {c : List Nat}
   (h1 : e.get l = .cells 203 [.nilp, .sl 1 0 []]) (hc : c ≠ []) (hb : c.length < big) (hf : Out l fid) (hW : free W l = true) :
   cal P I 160 [.ptr l 0, .str c] W fid e = .ret (.tup [.int .i64 c.length, .nili]) ((grow (e.set l (.cells 203 [.ptr l 0, .sl 1 0 []])) 1 (fresh fid 1) l).set l (.cells 203 [.ptr l 0, .sl (fresh fid 1) 1 (byteVs c)])) := by
  have hcc : ∀ W f x y, lof l f = false → free W l = true → cal P I 216 [.ptr l 0] W f (psh ⟨fid, x, y⟩ e) = .ret (.tup []) (psh ⟨fid, x, y⟩ (e.set l (.cells 203 [.ptr l 0, .sl 1 0 []]))) := fun W f x y hf' hW' => by
    rw [check_nil L (x := .sl 1 0 []) (by rw [get_psh (by simpa using hf.lof)]; exact h1) hf' hW', set_psh (by simpa using hf.lof)]
  have h2 : (e.set l (.cells 203 [.ptr l 0, .sl 1 0 []])).get l = .cells 203 [.ptr l 0, .sl 1 0 []] := E.get_set_same _ _ _ (by rw [h1]; simp)
  have hlen : ∀ c, (byteVs c).length = c.length := fun c => by induction c with | nil => rfl | cons a c ih => simp [byteVs, ih]
  have hne : (byteVs c).isEmpty = false := by cases c with | nil => exact absurd rfl hc | cons a c => rfl
  refine cal_of L.i160 L.p160 rfl (by simp) ?_
  simp [f160, get_psh, set_psh, bear_psh, hf.lof, (hf.child 0 (by decide)).lof, h2, hW, hcc, elems, elemsL, appE, appV, appSl, is8, ticket, ticketC, tick, room, grow, hb, hlen, hne]

/-- Bytes as a text. -/
theorem bytesOf_byteVs : ∀ {c : List Nat}, (∀ x ∈ c, x < 256) → bytesOf (byteVs c) = some c
  | [], _ => rfl
  | a :: c, h => by
    have := bytesOf_byteVs (c := c) (fun x hx => h x (List.mem_cons_of_mem _ hx))
    have ha := h a (List.mem_cons_self ..)
    simp [byteVs, bytesOf, this, byteV, consV, consB, ha]

theorem string_law (L : LBuilder P I) {W : List Lo} {fid t : Nat} {e : E} {l : Lo} {a : AV} {k z : Nat} {c : List Nat}
   (h1 : e.get l = .cells t [a, .sl k z (byteVs c)]) (h3 : (k = 1 ∧ z = 0 ∧ c = []) ∨ (z = 1 ∧ k % 2 = 1 ∧ 2 ≤ k ∧ c ≠ [])) (hc : ∀ x ∈ c, x < 256) (hb : c.length < 4294967296) (hf : lof l fid = false) :
   cal P I 103 [.ptr l 0] W fid e = .ret (.str c) e := by
  have hlen : ∀ c, (byteVs c).length = c.length := fun c => by induction c with | nil => rfl | cons a c ih => simp [byteVs, ih]
  refine cal_of L.i103 L.p103 rfl (by simp) ?_
  rcases h3 with ⟨rfl, rfl, rfl⟩ | ⟨rfl, h4, h5, h6⟩
  · simp [f103, get_psh, hf, h1, usdA, ustA, ustD, byteVs, bytesOf, strO]
  · have h7 : 0 < c.length := by cases c with | nil => exact absurd rfl h6 | cons a c => simp
    have hne : (byteVs c).isEmpty = false := by cases c with | nil => exact absurd rfl h6 | cons a c => rfl
    simp [f103, get_psh, hf, h1, usdA, ustA, ustD, strO, hlen, h7, h4, h5, hb, bytesOf_byteVs hc]

/-! the same, to rewrite with: what is there is read from the state -/
def unB : List AV → List Nat
  | .int _ (.ofNat n) :: r => n :: unB r
  | _ => []
@[simp] theorem unB_byteVs (c : List Nat) : unB (byteVs c) = c := by induction c with | nil => rfl | cons a c ih => show a :: unB (byteVs c) = _; rw [ih]
@[simp] theorem byteVs_app (a b : List Nat) : byteVs a ++ byteVs b = byteVs (a ++ b) := by induction a with | nil => rfl | cons x a ih => simp [byteVs, ih]
@[simp] theorem byteVs_length (c : List Nat) : (byteVs c).length = c.length := by induction c with | nil => rfl | cons a c ih => simp [byteVs, ih]
@[simp] theorem byteVs_eq_nil (c : List Nat) : byteVs c = [] ↔ c = [] := by cases c <;> simp [byteVs]
@[simp] theorem byteVs_snoc (b : List Nat) (c : Nat) : byteVs b ++ [AV.int .u8 (c : Int)] = byteVs (b ++ [c]) := by rw [← byteVs_app]; rfl
@[simp] theorem byteVs_snoc' (b : List Nat) (c : Nat) : byteVs b ++ [AV.int .u8 (no_index (OfNat.ofNat c))] = byteVs (b ++ [no_index (OfNat.ofNat c)]) := byteVs_snoc b c
theorem byteVs_nil : byteVs [] = [] := rfl
theorem byteVs_one (c : Nat) : [AV.int .u8 (c : Int)] = byteVs [c] := rfl

/-- Is there a builder that may grow by n bytes? -/
def okB (e : E) (l : Lo) (n : Nat) : Prop :=
  match e.get l with
  | .cells t [a, .sl k z b] => t = 203 ∧ ((a = .nilp ∧ k = 1 ∧ z = 0 ∧ b = []) ∨ (a = .ptr l 0 ∧ Tkt e k z b)) ∧ b.length + n < big
  | _ => False
theorem okB_iff (e : E) (l : Lo) (n : Nat) : okB e l n ↔ match e.get l with
    | .cells t [a, .sl k z b] => t = 203 ∧ ((a = .nilp ∧ k = 1 ∧ z = 0 ∧ b = []) ∨ (a = .ptr l 0 ∧ Tkt e k z b)) ∧ b.length + n < big
    | _ => False := ⟨fun h => by unfold okB at h; exact h, fun h => by unfold okB; exact h⟩
/-- Bytes are written. -/
noncomputable def wrB (e : E) (l : Lo) (k' : Nat) (c : List Nat) : E :=
  match e.get l with
  | .cells t [.nilp, _] => (grow (e.set l (.cells t [.ptr l 0, .sl 1 0 []])) 1 k' l).set l (.cells t [.ptr l 0, .sl k' 1 (byteVs c)])
  | .cells t [_, .sl k _ b] => (grow e k k' l).set l (.cells t [.ptr l 0, .sl k' 1 (b ++ byteVs c)])
  | _ => e
theorem wB (L : LBuilder P I) {W : List Lo} {fid : Nat} {e : E} {l : Lo} {c : Int} (hf : Out l fid) (hW : free W l = true) (hc : 0 ≤ c) (h : okB e l 1) :
    cal P I 162 [.ptr l 0, .int .u8 c] W fid e = .ret .nili (wrB e l (fresh fid 1) [c.toNat]) := by
  obtain ⟨c, rfl⟩ := Int.eq_ofNat_of_zero_le hc
  rw [Int.toNat_natCast]
  unfold okB at h
  split at h
  · next t a k z b hl =>
    obtain ⟨rfl, ⟨rfl, rfl, rfl, rfl⟩ | ⟨rfl, h1⟩, h2⟩ := h
    · rw [writeByte_nil L hl hf hW]; simp [wrB, hl, byteVs]
    · rw [writeByte_ptr L hl h1 h2 hf hW]; simp [wrB, hl, byteVs]
  · exact h.elim
theorem wS (L : LBuilder P I) {W : List Lo} {fid : Nat} {e : E} {l : Lo} {c : List Nat} (hf : Out l fid) (hW : free W l = true) (hc : c ≠ []) (h : okB e l c.length) :
    cal P I 160 [.ptr l 0, .str c] W fid e = .ret (.tup [.int .i64 c.length, .nili]) (wrB e l (fresh fid 1) c) := by
  unfold okB at h
  split at h
  · next t a k z b hl =>
    obtain ⟨rfl, ⟨rfl, rfl, rfl, rfl⟩ | ⟨rfl, h1⟩, h2⟩ := h
    · rw [writeString_nil L hl hc (by simpa using h2) hf hW]; simp [wrB, hl]
    · rw [writeString_ptr L hl h1 hc h2 hf hW]; simp [wrB, hl]
  · exact h.elim
noncomputable def lnB (e : E) (l : Lo) : Option Nat := match e.get l with | .cells _ [_, .sl _ _ b] => some b.length | _ => none
theorem lB (L : LBuilder P I) {W : List Lo} {fid : Nat} {e : E} {l : Lo} (hf : Out l fid) (h : (lnB e l).isSome = true) :
    cal P I 163 [.ptr l 0] W fid e = .ret (.int .i64 ((lnB e l).getD 0 : Nat)) e := by
  unfold lnB at h ⊢
  split at h
  · next hl => rw [len_law L hl hf.lof]; rfl
  · cases h
/-- Bytes. -/
def B8 (l : List Nat) : Prop := ∀ x ∈ l, x < 256
@[simp] theorem B8_nil : B8 [] := fun x hx => by cases hx
@[simp] theorem B8_cons (a : Nat) (l : List Nat) : B8 (a :: l) ↔ a < 256 ∧ B8 l := by simp [B8]
@[simp] theorem B8_app (a b : List Nat) : B8 (a ++ b) ↔ B8 a ∧ B8 b := by simp [B8, or_imp, forall_and]
/-- What is there is bytes. -/
def okS (e : E) (l : Lo) : Prop :=
  match e.get l with
  | .cells _ [_, .sl k z b] => ((k = 1 ∧ z = 0 ∧ b = []) ∨ (z = 1 ∧ k % 2 = 1 ∧ 2 ≤ k ∧ unB b ≠ [] ∧ byteVs (unB b) = b ∧ B8 (unB b) ∧ b.length < 4294967296))
  | _ => False
theorem okS_iff (e : E) (l : Lo) : okS e l ↔ match e.get l with
    | .cells _ [_, .sl k z b] => ((k = 1 ∧ z = 0 ∧ b = []) ∨ (z = 1 ∧ k % 2 = 1 ∧ 2 ≤ k ∧ unB b ≠ [] ∧ byteVs (unB b) = b ∧ B8 (unB b) ∧ b.length < 4294967296))
    | _ => False := ⟨fun h => by unfold okS at h; exact h, fun h => by unfold okS; exact h⟩
noncomputable def txB (e : E) (l : Lo) : List Nat := match e.get l with | .cells _ [_, .sl _ _ b] => unB b | _ => []
theorem sB (L : LBuilder P I) {W : List Lo} {fid : Nat} {e : E} {l : Lo} (hf : Out l fid) (h : okS e l) :
    cal P I 103 [.ptr l 0] W fid e = .ret (.str (txB e l)) e := by
  unfold okS at h
  unfold txB
  split at h
  · next t a k z b hl =>
    rcases h with ⟨rfl, rfl, rfl⟩ | ⟨rfl, h1, h2, h3, h4, h5, h6⟩
    · exact string_law L (c := []) hl (.inl ⟨rfl, rfl, rfl⟩) (by simp) (by simp) hf.lof
    · exact string_law L (c := unB b) (by rw [h4]; exact hl) (.inr ⟨rfl, h1, h2, h3⟩) h5 (by rw [← h4] at h6; simpa using h6) hf.lof
  · exact h.elim
end Go.Abs.Run

/- lex.Quote. -/
set_option linter.unusedSimpArgs false
set_option linter.unusedSectionVars false
set_option linter.unusedVariables false
namespace Go.Abs.Run
open Go Go.Abs
attribute [local simp] oM oN oF oE oQ oP oG oL oR oC oX oS oY vi vj vu vz ci cu eI eS eB
attribute [local simp] s0 t0 s1 t1 s2 t2 s3 t3 s4 t4 s5 t5 s6 t6 s7 t7 s8 t8 s9 t9 s10 t10 s11 t11 s12 t12 s13 t13 s14 t14 s15 t15 s16 t16 s17 t17 s18 t18 s19 t19 s20 t20 s21 t21 s22 t22 s23 t23 s24 t24 s25 t25 s26 t26 s27 t27 s28 t28 s29 t29 s30 t30 s31 t31 s32 t32 s33 t33 s34 t34 s35 t35 s36 t36 s37 t37 s38 t38 s39 t39 s40 t40 s41 t41 s42 t42 s43 t43 s44 t44 s45 t45 s46 t46 s47 t47 s48 t48 s49 t49 s50 t50 s51 t51 s52 t52 s53 t53 s54 t54 s55 t55 s56 t56 s57 t57 s58 t58 s59 t59
variable {P : Nat → Option FI} {I : Nat → Option IntrT}

structure LQuote (P : Nat → Option FI) (I : Nat → Option IntrT) : Prop extends LBuilder P I where
  pQ : P 262 = some f262
  iQ : I 262 = none

/-- A byte as Quote writes it. -/
def quo (c : Nat) : List Nat := if c = 10 then [92, 110] else if c = 34 ∨ c = 92 then [92, c] else [c]

theorem quote_step (L : LBuilder P I) {W : List Lo} {fid : Nat} {e : E} {S : List Nat} {i c : Nat} {N : Int} {s : Tm} {cnt k : Nat} {p : Ob} {live : List Nat} {b : List Nat}
    (h0 : s.get .e = .str S) (h7 : s.get (.l (.l (.l .e))) = .int .i64 N) (h8 : s.get (.r (.l (.l .e))) = .int .i64 i) (h3 : s.get (.l (.l .e)) = .ptr (.lo fid 0 1) 0) (hx : S[i]? = some c) (hi : (i : Int) < N) (hN : N < 1000000)
    (hk : k % 2 = 1) (hk2 : 2 ≤ k) (hl : liveIn live k = true) (hcnt : cnt + 2 < 1048000) (hb : b.length + 2 < big) (hW : free W (.lo fid 0 1) = true) :
    ∃ s' cnt' k' live' e', runW (cal P I) fid W b262x0 ⟨s, cnt⟩ (psh ⟨fid, [(1, .cells 203 [.ptr (.lo fid 0 1) 0, .sl k 1 (byteVs b)], p)], live⟩ e) =
      .go ⟨s', cnt'⟩ (psh ⟨fid, [(1, .cells 203 [.ptr (.lo fid 0 1) 0, .sl k' 1 (byteVs (b ++ quo c))], p)], live'⟩ e') ∧
      s'.get .e = .str S ∧ s'.get (.l (.l (.l .e))) = .int .i64 N ∧ s'.get (.r (.l (.l .e))) = .int .i64 (i + 1 : Nat) ∧ s'.get (.l (.l .e)) = .ptr (.lo fid 0 1) 0 ∧ k' % 2 = 1 ∧ 2 ≤ k' ∧ liveIn live' k' = true ∧ cnt' ≤ cnt + 2 := by
  have hout : ∀ c, Out (.lo fid 0 1) (child fid c) := fun c => Out.own fid 0 1 c
  have hi' : IntKind.i64.wrap ((i : Int) + 1) = (i : Int) + 1 := wrap_i64 (by omega) (by omega)
  have hb1 : b.length + 1 < big := by omega
  have hr1 : cnt < 1048000 := by omega
  have hr2 : cnt + 1 < 1048000 := by omega
  have hk3 : k ≠ 1 := by omega
  have hb2 : b.length + 1 + 1 < big := hb
  by_cases h10 : c = 10
  · subst h10
    simp [b262x0, Tm.get_set, h0, h7, h8, h3, hx, hi, hi', ixsA_of, wS L, wB L, hout, hW, okB_iff, wrB, Tkt, hk, hk2, hl, hb, hb1, hb2, room, hr1, hr2, grow, hk3, quo, fresh_odd, and_assoc]
  · have h10' : ¬ (c : Int) = 10 := by omega
    by_cases h34 : c = 34
    · subst h34
      simp [b262x0, Tm.get_set, h0, h7, h8, h3, hx, hi, hi', ixsA_of, wS L, wB L, hout, hW, okB_iff, wrB, Tkt, hk, hk2, hl, hb, hb1, hb2, room, hr1, hr2, grow, hk3, quo, fresh_odd, and_assoc]
    · have h34' : ¬ (c : Int) = 34 := by omega
      by_cases h92 : c = 92
      · subst h92
        simp [b262x0, Tm.get_set, h0, h7, h8, h3, hx, hi, hi', ixsA_of, wS L, wB L, hout, hW, okB_iff, wrB, Tkt, hk, hk2, hl, hb, hb1, hb2, room, hr1, hr2, grow, hk3, quo, fresh_odd, and_assoc]
      · have h92' : ¬ (c : Int) = 92 := by omega
        simp [b262x0, Tm.get_set, h0, h7, h8, h3, hx, hi, hi', ixsA_of, wS L, wB L, hout, hW, okB_iff, wrB, Tkt, hk, hk2, hl, hb, hb1, hb2, room, hr1, hr2, grow, hk3, quo, fresh_odd, and_assoc, h10, h34, h92, h10', h34', h92']

theorem quo_le (c : Nat) : (quo c).length ≤ 2 := by unfold quo; split <;> (try split) <;> simp

/-- Where the loop ends. -/
def QEnd (fid : Nat) (p : Ob) (b : List Nat) (q : List Nat) (most : Nat) (x : R) : Prop :=
  ∃ s' cnt' k' live' e', x = .exit 0 ⟨s', cnt'⟩ (psh ⟨fid, [(1, .cells 203 [.ptr (.lo fid 0 1) 0, .sl k' 1 (byteVs (b ++ q))], p)], live'⟩ e') ∧
      s'.get (.l (.l .e)) = .ptr (.lo fid 0 1) 0 ∧ k' % 2 = 1 ∧ 2 ≤ k' ∧ liveIn live' k' = true ∧ cnt' ≤ most

theorem quote_loop (L : LBuilder P I) {W : List Lo} {fid : Nat} {S : List Nat} {N : Int} {p : Ob} (hN : N = S.length) (hN' : N < 1000000) (hW : free W (.lo fid 0 1) = true) :
    ∀ (r : List Nat) (i : Nat) (s : Tm) (cnt k : Nat) (live : List Nat) (b : List Nat) (e : E), S.drop i = r → i ≤ S.length → s.get .e = .str S → s.get (.l (.l (.l .e))) = .int .i64 N → s.get (.r (.l (.l .e))) = .int .i64 i → s.get (.l (.l .e)) = .ptr (.lo fid 0 1) 0 →
    k % 2 = 1 → 2 ≤ k → liveIn live k = true → cnt + 2 * r.length < 1048000 → b.length + 2 * r.length < big →
    QEnd fid p b (r.flatMap quo) (cnt + 2 * r.length) (lp (runW (cal P I) fid W b262x0) ⟨s, cnt⟩ (psh ⟨fid, [(1, .cells 203 [.ptr (.lo fid 0 1) 0, .sl k 1 (byteVs b)], p)], live⟩ e)) := by
  intro r
  induction r with
  | nil =>
    intro i s cnt k live b e hd hi h0 h7 h8 h3 hk hk2 hl hcnt hb
    have hi' : i = S.length := by have := congrArg List.length hd; simp at this; omega
    have hlt : ¬ (i : Int) < N := by omega
    rw [lp_eq]
    simp [QEnd, b262x0, Tm.get_set, h0, h7, h8, h3, hlt, hk, hk2, hl, and_assoc]
  | cons c r ih =>
    intro i s cnt k live b e hd hi h0 h7 h8 h3 hk hk2 hl hcnt hb
    have hlen := congrArg List.length hd
    simp only [List.length_drop, List.length_cons] at hlen
    have hx : S[i]? = some c := by rw [← List.head?_drop, hd]; rfl
    have hd' : S.drop (i + 1) = r := by rw [← List.drop_drop, hd]; rfl
    simp only [List.length_cons] at hcnt hb
    obtain ⟨s1, cnt1, k1, live1, e1, g0, g1, g2, g3, g4, g5, g6, g7, g8⟩ := quote_step (p := p) (e := e) (b := b) (cnt := cnt) L h0 h7 h8 h3 hx (by omega) hN' hk hk2 hl (by omega) (by omega) hW
    have hq := quo_le c
    obtain ⟨s2, cnt2, k2, live2, e2, f0, f1, f2, f3, f4, f5⟩ := ih (i + 1) s1 cnt1 k1 live1 (b ++ quo c) e1 hd' (by omega) g1 g2 g3 g4 g5 g6 g7 (by omega) (by simp; omega)
    refine ⟨s2, cnt2, k2, live2, e2, ?_, f1, f2, f3, f4, by simp only [List.length_cons]; omega⟩
    rw [lp_eq, g0]
    simp only [R.bind]
    rw [f0]
    simp

/-- What Quote gives. -/
def quoted (S : List Nat) : List Nat := 34 :: (S.flatMap quo ++ [34])

theorem quote_law (L : LQuote P I) {W : List Lo} {fid : Nat} {e : E} {S : List Nat} (hS : B8 S) (hN : S.length < 500000) (hW : free W (.lo fid 0 0) = true) (hW' : free W (.lo fid 0 1) = true) :
    ∃ e', cal P I 262 [.str S] W fid e = .ret (.str (quoted S)) e' := by
  have hout : ∀ c, Out (.lo fid 0 1) (child fid c) := fun c => Out.own fid 0 1 c
  have hbig : big = 4294967296 := rfl
  refine cal_wp (Q := fun r => ∃ e', r = .ret (.str (quoted S)) e') L.iQ L.pQ rfl (by simp) ?_
  simp [f262, room, wB L.toLBuilder, hout, hW, hW', okB_iff, wrB, Tkt, grow, (by decide : 1 < big)]
  simp only [Wp_bind, Wp_leave]
  refine Wp.use (quote_loop L.toLBuilder (S := S) (N := S.length) rfl (by omega) hW' S 0 _ _ _ _ _ _ rfl (by omega) ?_ ?_ ?_ ?_ (fresh_odd _) (fresh_ge _ _) ?_ ?_ ?_) ?_
  any_goals (simp; done)
  · omega
  · simp; omega
  rintro r ⟨s', cnt', k', live', e', rfl, h3, hk, hk2, hl, hc⟩
  have hk1 : k' ≠ 1 := by omega
  have hc1 : cnt' < 1048000 := by omega
  have hc2 : cnt' + 1 < 1048000 := by omega
  have hfl : ∀ S : List Nat, (S.flatMap quo).length ≤ 2 * S.length := fun S => by
    induction S with
    | nil => simp
    | cons a S ih => have := quo_le a; simp only [List.flatMap_cons, List.length_append, List.length_cons]; omega
  have hfl := hfl S
  have h256 : B8 (S.flatMap quo) := fun x hx => by
    obtain ⟨a, ha, hx⟩ := List.mem_flatMap.1 hx
    have := hS a ha
    unfold quo at hx
    split at hx
    · simp at hx; omega
    · split at hx
      · simp at hx; omega
      · simp at hx; omega
  unfold quoted
  generalize S.flatMap quo = Q at *
  have hlen : Q.length + 1 + 1 < big := by omega
  have hlen' : Q.length + 1 + 1 < 4294967296 := by omega
  simp (maxDischargeDepth := 5) [Tm.get_set, h3, room, hc1, hc2, wB L.toLBuilder, sB L.toLBuilder, hout, hW', okB_iff, okS_iff, wrB, txB, Tkt, grow, hk, hk2, hl, hk1, hlen, hlen', fresh_odd, h256]
end Go.Abs.Run

/- lex: a text's token is cut. -/
set_option linter.unusedSimpArgs false
set_option linter.unusedSectionVars false
set_option linter.unusedVariables false
namespace Go.Abs.Run
open Go Go.Abs
attribute [local simp] oM oN oF oE oQ oP oG oL oR oC oX oS oY vi vj vu vz ci cu eI eS eB
attribute [local simp] s0 t0 s1 t1 s2 t2 s3 t3 s4 t4 s5 t5 s6 t6 s7 t7 s8 t8 s9 t9 s10 t10 s11 t11 s12 t12 s13 t13 s14 t14 s15 t15 s16 t16 s17 t17 s18 t18 s19 t19 s20 t20 s21 t21 s22 t22 s23 t23 s24 t24 s25 t25 s26 t26 s27 t27 s28 t28 s29 t29 s30 t30 s31 t31 s32 t32 s33 t33 s34 t34 s35 t35 s36 t36 s37 t37 s38 t38 s39 t39 s40 t40 s41 t41 s42 t42 s43 t43 s44 t44 s45 t45 s46 t46 s47 t47 s48 t48 s49 t49 s50 t50 s51 t51 s52 t52 s53 t53 s54 t54 s55 t55 s56 t56 s57 t57 s58 t58 s59 t59 s60 t60 s61 t61 s62 t62 s63 t63 s64 t64 s65 t65 s66 t66 s67 t67 s68 t68 s69 t69 s70 t70 s71 t71 s72 t72 s73 t73 s74 t74 s75 t75 s76 t76 s77 t77 s78 t78 s79 t79 s80 t80 s81 t81 s82 t82 s83 t83 s84 t84 s85 t85 s86 t86 s87 t87 s88 t88 s89 t89 s90 t90 s91 t91 s92 t92 s93 t93 s94 t94 s95 t95 s96 t96 s97 t97 s98 t98 s99 t99 s100 t100 s101 t101 s102 t102 s103 t103 s104 t104 s105 t105 s106 t106 s107 t107 s108 t108 s109 t109 s110 t110 s111 t111 s112 t112 s113 t113 s114 t114 s115 t115 s116 t116 s117 t117 s118 t118 s119 t119 s120 t120 s121 t121 s122 t122 s123 t123 s124 t124 s125 t125 s126 t126 s127 t127 s128 t128 s129 t129 s130 t130 s131 t131 s132 t132 s133 t133 s134 t134 s135 t135 s136 t136 s137 t137 s138 t138 s139 t139
variable {P : Nat → Option FI} {I : Nat → Option IntrT}

/-- A text behind its first quote: what it says, and how many bytes it takes, the last quote too. -/
def txt : List Nat → Option (List Nat × Nat)
  | [] => none
  | [92] => none
  | 34 :: _ => some ([], 1)
  | 92 :: x :: r => if x = 110 then (txt r).map fun q => (10 :: q.1, q.2 + 2) else if x = 34 ∨ x = 92 then (txt r).map fun q => (x :: q.1, q.2 + 2) else none
  | x :: r => if x < 32 ∨ 126 < x then none else (txt r).map fun q => (x :: q.1, q.2 + 1)

/-- May a text have this byte. -/
def fine (c : Nat) : Prop := c = 10 ∨ (32 ≤ c ∧ c ≤ 126)
instance (c : Nat) : Decidable (fine c) := inferInstanceAs (Decidable (_ ∨ _))

theorem txt_else {c : Nat} {r : List Nat} (h34 : c ≠ 34) (h92 : c ≠ 92) : txt (c :: r) = if c < 32 ∨ 126 < c then none else (txt r).map fun q => (c :: q.1, q.2 + 1) := by
  rw [txt.eq_def]
  split
  · next h => cases h
  · next h => simp at h; exact absurd h.1 h92
  · next h => simp at h; exact absurd h.1 h34
  · next h => simp at h; exact absurd h.1 h92
  · next x r' _ _ _ h => simp at h; obtain ⟨rfl, rfl⟩ := h; rfl
theorem txt_quo (c : Nat) (r : List Nat) : txt (quo c ++ r) = if fine c then (txt r).map fun q => (c :: q.1, q.2 + (quo c).length) else none := by
  unfold quo fine
  by_cases h10 : c = 10
  · subst h10; simp [txt]
  · by_cases h34 : c = 34
    · subst h34; simp [txt]
    · by_cases h92 : c = 92
      · subst h92; simp [txt]
      · simp only [h10, h34, h92, or_self, if_false, false_or, List.singleton_append]
        rw [txt_else h34 h92]
        by_cases hc : 32 ≤ c ∧ c ≤ 126
        · have : ¬ (c < 32 ∨ 126 < c) := by omega
          simp [hc, this]
        · have : c < 32 ∨ 126 < c := by omega
          simp [hc, this]

theorem txt_quoted (S : List Nat) : txt (S.flatMap quo ++ [34]) = if (∀ c ∈ S, fine c) then some (S, (S.flatMap quo).length + 1) else none := by
  induction S with
  | nil => simp [txt]
  | cons c S ih =>
    rw [List.flatMap_cons, List.append_assoc, txt_quo, ih]
    by_cases hc : fine c
    · by_cases hS : ∀ c ∈ S, fine c
      · have : ∀ d ∈ c :: S, fine d := fun d hd => (List.mem_cons.1 hd).elim (fun h => h ▸ hc) (hS d)
        rw [if_pos hc, if_pos hS, if_pos this]; simp; omega
      · have : ¬ ∀ d ∈ c :: S, fine d := fun h => hS fun d hd => h d (List.mem_cons_of_mem _ hd)
        rw [if_pos hc, if_neg hS, if_neg this]; rfl
    · have : ¬ ∀ d ∈ c :: S, fine d := fun h => hc (h c (List.mem_cons_self ..))
      rw [if_neg hc, if_neg this]

structure LText (P : Nat → Option FI) (I : Nat → Option IntrT) : Prop extends LBuilder P I where
  p298 : P 298 = some f298
  i298 : I 298 = none
  p315 : P 315 = some f315
  i315 : I 315 = none


/-- lex.wrong lays a refusal. -/
theorem wrong_law (L : LText P I) {W : List Lo} {fid : Nat} {e : E} {at' why : Int} :
    cal P I 315 [.int .i64 at', .int .i64 why] W fid e = .ret (.ptr (.gl e.glo.length) 0) (e.addG (.cells 375 [.int .i64 at', .int .i64 why])) := by
  refine cal_of L.i315 L.p315 rfl (by simp) ?_
  simp [f315]

/-- Tickets went, and one object for all is another. -/
def Later (j : Lo) (o : Ob) (e e' : E) : Prop := ∃ ks, e' = (killL ks e).set j o
theorem later1 (j : Lo) (o : Ob) (ks : List Nat) (e : E) : Later j o e ((killL ks e).set j o) := ⟨ks, rfl⟩
theorem later2 (j : Lo) (o o' : Ob) (ks : List Nat) (e : E) : Later j o e ((killL ks (e.set j o')).set j o) := ⟨ks, by rw [killL_set, set_set]⟩
theorem later0 (j : Lo) (o : Ob) (e : E) : Later j o e (e.set j o) := ⟨[], rfl⟩
theorem later_self {e : E} {j : Lo} {o : Ob} (h : e.get j = o) : Later j o e e := ⟨[], by rw [killL, set_self h]⟩
theorem Later.trans {j : Lo} {o o' : Ob} {a b c : E} (h : Later j o a b) (h' : Later j o' b c) : Later j o' a c := by
  obtain ⟨k1, rfl⟩ := h
  obtain ⟨k2, rfl⟩ := h'
  exact ⟨k1 ++ k2, by rw [killL_set, set_set, killL_app]⟩

theorem Later.psh {j : Lo} {o : Ob} {f : FS} {e e' : E} (h : Later j o (Abs.psh f e) e') (hj : lof j f.fid = false) : ∃ live e1, e' = Abs.psh ⟨f.fid, f.objs, live⟩ e1 ∧ Later j o e e1 := by
  obtain ⟨ks, rfl⟩ := h
  rw [killL_psh, set_psh (f := ⟨f.fid, f.objs, dropL ks f.live⟩) hj]
  exact ⟨_, _, rfl, ks, rfl⟩
/-- The object is the frame's own. -/
theorem Later.own {fid a i : Nat} {o : Ob} {objs : List (Nat × Ob × Ob)} {live : List Nat} {e e' : E} (h : Later (.lo fid a i) o (Abs.psh ⟨fid, objs, live⟩ e) e') : ∃ live' e1, e' = Abs.psh ⟨fid, (fsSet ⟨fid, objs, []⟩ a i o).objs, live'⟩ e1 := by
  obtain ⟨ks, rfl⟩ := h
  rw [killL_psh, set_psh_lo]
  simp only [beq_dec, decide_true, cond_true]
  refine ⟨(fsSet ⟨fid, objs, dropL ks live⟩ a i o).live, killL ks e, ?_⟩
  congr 1
  unfold fsSet
  cases objs[a]? with
  | none => rfl
  | some x => obtain ⟨n, c, p⟩ := x; simp only; cases Nat.beq n i <;> cases Nat.beq n (i + 1) <;> rfl

variable {S : List Nat} {p c : Nat} {j : Lo} {s : Tm} {cnt k z fid : Nat} {W : List Lo} {e : E} {tc rc p0 p1 : Ob} {live : List Nat} {b : List Nat}

theorem text_plain (L : LText P I) (h0 : s.get .e = .ptr j 0) (h3 : s.get (.l (.l .e)) = .ptr (.lo fid 0 1) 0) (h4 : s.get (.r (.l .e)) = .ptr (.lo fid 1 1) 0) (h6 : s.get (.r (.r .e)) = .sl k z (byteVs b))
    (hj : e.get j = .cells 332 [.str S, .int .i64 p]) (hx : S[p]? = some c) (hp : S.length < 1000000) (hk : Own k z (byteVs b) live) (hcnt : cnt + 2 < 1048000) (hb : b.length + 1 < big) (hW : free W j = true) (hjo : Out j fid)
    (h34 : c ≠ 34) (h92 : c ≠ 92) (h32 : 32 ≤ c) (h126 : c ≤ 126) :
    ∃ s' cnt' k' live' e', runW (cal P I) fid W b298x0 ⟨s, cnt⟩ (psh ⟨fid, [(1, tc, p0), (1, rc, p1)], live⟩ e) =
      .go ⟨s', cnt'⟩ (psh ⟨fid, [(1, tc, p0), (1, rc, p1)], live'⟩ e') ∧ Later j (.cells 332 [.str S, .int .i64 (p + 1 : Nat)]) e e' ∧
      s'.get .e = .ptr j 0 ∧ s'.get (.l (.l .e)) = .ptr (.lo fid 0 1) 0 ∧ s'.get (.r (.l .e)) = .ptr (.lo fid 1 1) 0 ∧ s'.get (.r (.r .e)) = .sl k' 1 (byteVs (b ++ [c])) ∧ k' % 2 = 1 ∧ 2 ≤ k' ∧ liveIn live' k' = true ∧ cnt' ≤ cnt + 2 := by
  have hlt : p < S.length := (List.getElem?_eq_some_iff.1 hx).1
  have hlt' : (p : Int) < (S.length : Int) := by omega
  have hw : IntKind.i64.wrap ((p : Int) + 1) = (p : Int) + 1 := wrap_i64 (by omega) (by omega)
  have c34 : ¬ (c : Int) = 34 := by omega
  have c92 : ¬ (c : Int) = 92 := by omega
  have c32 : ¬ (c : Int) < 32 := by omega
  have c126 : ¬ (126 : Int) < c := by omega
  have hr : cnt + 1 < 1048000 := by omega
  simp [b298x0, Tm.get_set, get_psh, set_psh, hjo.lof, h0, h3, h4, h6, hj, hx, hlt', hw, c34, c92, c32, c126, ixsA_of, hW, elems, elemsL, is8, app_u8, hk, hb, hr, and_assoc, later1]

/-- A byte that stands behind a backslash. -/
def esc (c : Nat) : Nat := if c = 110 then 10 else c
theorem text_esc (L : LText P I) (h0 : s.get .e = .ptr j 0) (h3 : s.get (.l (.l .e)) = .ptr (.lo fid 0 1) 0) (h4 : s.get (.r (.l .e)) = .ptr (.lo fid 1 1) 0) (h6 : s.get (.r (.r .e)) = .sl k z (byteVs b))
    (hj : e.get j = .cells 332 [.str S, .int .i64 p]) (hx : S[p]? = some 92) (hx' : S[p + 1]? = some c) (hp : S.length < 1000000) (hk : Own k z (byteVs b) live) (hcnt : cnt + 2 < 1048000) (hb : b.length + 1 < big) (hW : free W j = true) (hjo : Out j fid)
    (hc : c = 110 ∨ c = 34 ∨ c = 92) :
    ∃ s' cnt' k' live' e', runW (cal P I) fid W b298x0 ⟨s, cnt⟩ (psh ⟨fid, [(1, tc, p0), (1, rc, p1)], live⟩ e) =
      .go ⟨s', cnt'⟩ (psh ⟨fid, [(1, tc, p0), (1, rc, p1)], live'⟩ e') ∧ Later j (.cells 332 [.str S, .int .i64 (p + 2 : Nat)]) e e' ∧
      s'.get .e = .ptr j 0 ∧ s'.get (.l (.l .e)) = .ptr (.lo fid 0 1) 0 ∧ s'.get (.r (.l .e)) = .ptr (.lo fid 1 1) 0 ∧ s'.get (.r (.r .e)) = .sl k' 1 (byteVs (b ++ [esc c])) ∧ k' % 2 = 1 ∧ 2 ≤ k' ∧ liveIn live' k' = true ∧ cnt' ≤ cnt + 2 := by
  have hlt : p < S.length := (List.getElem?_eq_some_iff.1 hx).1
  have hlt1 : p + 1 < S.length := (List.getElem?_eq_some_iff.1 hx').1
  have hlt' : (p : Int) < (S.length : Int) := by omega
  have hne : ¬ (p : Int) + 1 = (S.length : Int) := by omega
  have hw : IntKind.i64.wrap ((p : Int) + 1) = (p : Int) + 1 := wrap_i64 (by omega) (by omega)
  have hw2 : IntKind.i64.wrap ((p : Int) + 2) = (p : Int) + 2 := wrap_i64 (by omega) (by omega)
  have hr : cnt + 1 < 1048000 := by omega
  have htn : ((p : Int) + 1).toNat = p + 1 := by omega
  have h0' : 0 ≤ (p : Int) + 1 := by omega
  have h11 : (p : Int) + 1 + 1 = p + 2 := by omega
  have hgs : ∀ o, (e.set j o).get j = o := fun o => E.get_set_same _ _ _ (by rw [hj]; simp)
  rcases hc with rfl | rfl | rfl
  all_goals
    simp [b298x0, Tm.get_set, get_psh, set_psh, hjo.lof, h0, h3, h4, h6, hj, hgs, hx, hx', hlt', hne, hw, hw2, htn, h0', h11, ixsA_of, hW, elems, elemsL, is8, app_u8, hk, hb, hr, and_assoc, later2, esc]

/-- The end of a text. -/
def TOk (fid : Nat) (j : Lo) (e : E) (x0 x3 : Int) (p0 p1 : Ob) (S q : List Nat) (n : Nat) (x : R) : Prop :=
  ∃ s' cnt' live' e', x = .ret ⟨s', cnt'⟩ (psh ⟨fid, [(1, .cells 117 [.int .i64 x0, .int .i64 5, .str q, .int .i64 x3], p0), (1, .cells 117 [.int .i64 x0, .int .i64 5, .str q, .int .i64 x3], p1)], live'⟩ e') ∧
    Later j (.cells 332 [.str S, .int .i64 n]) e e' ∧ s'.get (.r (.l .e)) = .ptr (.lo fid 1 1) 0 ∧ s'.get (.l (.r .e)) = .nilp
/-- A text that is none. -/
def TBad (fid : Nat) (j : Lo) (e : E) (tc p0 p1 : Ob) (x : R) : Prop :=
  ∃ s' cnt' live' e' o o' l, x = .ret ⟨s', cnt'⟩ (psh ⟨fid, [(1, tc, p0), (1, tc, p1)], live'⟩ (e'.addG o')) ∧
    Later j o e e' ∧ s'.get (.r (.l .e)) = .ptr (.lo fid 1 1) 0 ∧ s'.get (.l (.r .e)) = .ptr l 0
variable {x0 x1 x3 : Int} {y2 : List Nat} {r0 r1 r2 r3 : AV}

theorem text_end (L : LText P I) (ht : tc = .cells 117 [.int .i64 x0, .int .i64 x1, .str y2, .int .i64 x3]) (hrc : rc = .cells 117 [r0, r1, r2, r3]) (h0 : s.get .e = .ptr j 0) (h3 : s.get (.l (.l .e)) = .ptr (.lo fid 0 1) 0) (h4 : s.get (.r (.l .e)) = .ptr (.lo fid 1 1) 0) (h6 : s.get (.r (.r .e)) = .sl k z (byteVs b))
    (hj : e.get j = .cells 332 [.str S, .int .i64 p]) (hx : S[p]? = some 34) (hp : S.length < 1000000) (hb : B8 b) (hW : free W j = true) (hjo : Out j fid) (hW0 : free W (.lo fid 0 1) = true) (hW1 : free W (.lo fid 1 1) = true) :
    TOk fid j e x0 x3 p0 p1 S b (p + 1) (runW (cal P I) fid W b298x0 ⟨s, cnt⟩ (psh ⟨fid, [(1, tc, p0), (1, rc, p1)], live⟩ e)) := by
  have hlt : p < S.length := (List.getElem?_eq_some_iff.1 hx).1
  have hlt' : (p : Int) < (S.length : Int) := by omega
  have hw : IntKind.i64.wrap ((p : Int) + 1) = (p : Int) + 1 := wrap_i64 (by omega) (by omega)
  subst ht hrc
  have hbb := bytesOf_byteVs hb
  simp [TOk, b298x0, Tm.get_set, get_psh, set_psh, hjo.lof, h0, h3, h4, h6, hj, hx, hlt', hw, ixsA_of, hW, hW0, hW1, elemsL, b2sE, hbb, strO, locOf, and_assoc, later0]

theorem text_bad (L : LText P I) (ht : tc = .cells 117 [.int .i64 x0, .int .i64 x1, .str y2, .int .i64 x3]) (hrc : rc = .cells 117 [r0, r1, r2, r3]) (h0 : s.get .e = .ptr j 0) (h3 : s.get (.l (.l .e)) = .ptr (.lo fid 0 1) 0) (h4 : s.get (.r (.l .e)) = .ptr (.lo fid 1 1) 0) (h6 : s.get (.r (.r .e)) = .sl k z (byteVs b))
    (hj : e.get j = .cells 332 [.str S, .int .i64 p]) (hx : S[p]? = some c) (hp : S.length < 1000000) (hcnt : cnt + 2 < 1048000) (hW : free W j = true) (hjo : Out j fid) (hW0 : free W (.lo fid 0 1) = true) (hW1 : free W (.lo fid 1 1) = true)
    (hc : c ≠ 34) (hc' : c ≠ 92) (h32 : c < 32 ∨ 126 < c) :
    TBad fid j e tc p0 p1 (runW (cal P I) fid W b298x0 ⟨s, cnt⟩ (psh ⟨fid, [(1, tc, p0), (1, rc, p1)], live⟩ e)) := by
  have hlt : p < S.length := (List.getElem?_eq_some_iff.1 hx).1
  have hlt' : (p : Int) < (S.length : Int) := by omega
  have c34 : ¬ (c : Int) = 34 := by omega
  have c92 : ¬ (c : Int) = 92 := by omega
  have hr : cnt < 1048000 := by omega
  subst ht hrc
  by_cases h : c < 32
  · have c32 : (c : Int) < 32 := by omega
    simp [TBad, b298x0, Tm.get_set, get_psh, set_psh, hjo.lof, h0, h3, h4, h6, hj, hx, hlt', c34, c92, c32, ixsA_of, hW, hW0, hW1, locOf, and_assoc, wrong_law L, room, hr]
    exact ⟨e, ⟨_, rfl⟩, _, later_self hj⟩
  · have c32 : ¬ (c : Int) < 32 := by omega
    have c126 : (126 : Int) < c := by omega
    simp [TBad, b298x0, Tm.get_set, get_psh, set_psh, hjo.lof, h0, h3, h4, h6, hj, hx, hlt', c34, c92, c32, c126, ixsA_of, hW, hW0, hW1, locOf, and_assoc, wrong_law L, room, hr]
    exact ⟨e, ⟨_, rfl⟩, _, later_self hj⟩

theorem text_escbad (L : LText P I) (ht : tc = .cells 117 [.int .i64 x0, .int .i64 x1, .str y2, .int .i64 x3]) (hrc : rc = .cells 117 [r0, r1, r2, r3]) (h0 : s.get .e = .ptr j 0) (h3 : s.get (.l (.l .e)) = .ptr (.lo fid 0 1) 0) (h4 : s.get (.r (.l .e)) = .ptr (.lo fid 1 1) 0) (h6 : s.get (.r (.r .e)) = .sl k z (byteVs b))
    (hj : e.get j = .cells 332 [.str S, .int .i64 p]) (hx : S[p]? = some 92) (hp : S.length < 1000000) (hcnt : cnt + 2 < 1048000) (hW : free W j = true) (hjo : Out j fid) (hW0 : free W (.lo fid 0 1) = true) (hW1 : free W (.lo fid 1 1) = true)
    (hc : ∀ c, S[p + 1]? = some c → c ≠ 110 ∧ c ≠ 34 ∧ c ≠ 92) :
    TBad fid j e tc p0 p1 (runW (cal P I) fid W b298x0 ⟨s, cnt⟩ (psh ⟨fid, [(1, tc, p0), (1, rc, p1)], live⟩ e)) := by
  have hlt : p < S.length := (List.getElem?_eq_some_iff.1 hx).1
  have hlt' : (p : Int) < (S.length : Int) := by omega
  have hr : cnt < 1048000 := by omega
  have hw : IntKind.i64.wrap ((p : Int) + 1) = (p : Int) + 1 := wrap_i64 (by omega) (by omega)
  have htn : ((p : Int) + 1).toNat = p + 1 := by omega
  have h0' : 0 ≤ (p : Int) + 1 := by omega
  have hgs : ∀ o, (e.set j o).get j = o := fun o => E.get_set_same _ _ _ (by rw [hj]; simp)
  subst ht hrc
  cases hx' : S[p + 1]? with
  | none =>
    have hne : (p : Int) + 1 = (S.length : Int) := by have := List.getElem?_eq_none_iff.1 hx'; omega
    have hwS : IntKind.i64.wrap (S.length : Int) = (S.length : Int) := wrap_i64 (by omega) (by omega)
    simp [TBad, hwS, b298x0, Tm.get_set, get_psh, set_psh, hjo.lof, h0, h3, h4, h6, hj, hx, hgs, hlt', hw, hne, ixsA_of, hW, hW0, hW1, locOf, and_assoc, wrong_law L, room, hr]
    exact ⟨_, ⟨_, rfl⟩, _, later0 ..⟩
  | some c =>
    have hne : ¬ (p : Int) + 1 = (S.length : Int) := by have := (List.getElem?_eq_some_iff.1 hx').1; omega
    obtain ⟨c1, c2, c3⟩ := hc c hx'
    have c1' : ¬ (c : Int) = 110 := by omega
    have c2' : ¬ (c : Int) = 34 := by omega
    have c3' : ¬ (c : Int) = 92 := by omega
    simp [TBad, b298x0, Tm.get_set, get_psh, set_psh, hjo.lof, h0, h3, h4, h6, hj, hx, hx', hgs, hlt', hw, hne, htn, h0', c1', c2', c3', ixsA_of, hW, hW0, hW1, locOf, and_assoc, wrong_law L, room, hr]
    exact ⟨_, ⟨_, rfl⟩, _, later0 ..⟩

/-- Behind the last byte. -/
theorem text_none (L : LText P I) (h0 : s.get .e = .ptr j 0) 
    (hj : e.get j = .cells 332 [.str S, .int .i64 p]) (hx : S[p]? = none) (hjo : Out j fid) :
    ∃ s', runW (cal P I) fid W b298x0 ⟨s, cnt⟩ (psh ⟨fid, [(1, tc, p0), (1, rc, p1)], live⟩ e) = .exit 0 ⟨s', cnt⟩ (psh ⟨fid, [(1, tc, p0), (1, rc, p1)], live⟩ e) ∧
      s'.get .e = .ptr j 0 ∧ s'.get (.l (.l .e)) = s.get (.l (.l .e)) ∧ s'.get (.r (.l .e)) = s.get (.r (.l .e)) := by
  have hlt' : ¬ (p : Int) < (S.length : Int) := by have := List.getElem?_eq_none_iff.1 hx; omega
  simp [b298x0, Tm.get_set, get_psh, set_psh, hjo.lof, h0, hj, hlt', and_assoc]

theorem Later.get {j : Lo} {o : Ob} {e e' : E} (h : Later j o e e') (hn : e.get j ≠ .none) : e'.get j = o := by
  obtain ⟨ks, rfl⟩ := h
  exact E.get_set_same _ _ _ (by rw [get_killL]; exact hn)

/-- The loop's end, if the text is none. -/
def TNo (fid : Nat) (j : Lo) (e : E) (tc rc p0 p1 : Ob) (S : List Nat) (most : Nat) (x : R) : Prop :=
  TBad fid j e tc p0 p1 x ∨ ∃ s' cnt' live' e' p, x = .exit 0 ⟨s', cnt'⟩ (psh ⟨fid, [(1, tc, p0), (1, rc, p1)], live'⟩ e') ∧ Later j (.cells 332 [.str S, .int .i64 p]) e e' ∧
    s'.get .e = .ptr j 0 ∧ s'.get (.l (.l .e)) = .ptr (.lo fid 0 1) 0 ∧ s'.get (.r (.l .e)) = .ptr (.lo fid 1 1) 0 ∧ cnt' ≤ most

theorem TBad.later {o : Ob} {e e' : E} {x : R} (h : Later j o e e') (hb : TBad fid j e' tc p0 p1 x) : TBad fid j e tc p0 p1 x := by
  obtain ⟨s', cnt', live', e1, o1, o2, l, h1, h2, h3⟩ := hb
  exact ⟨s', cnt', live', e1, o1, o2, l, h1, h.trans h2, h3⟩
theorem TNo.later {o : Ob} {e e' : E} {x : R} {m m' : Nat} (hm : m ≤ m') (h : Later j o e e') (hb : TNo fid j e' tc rc p0 p1 S m x) : TNo fid j e tc rc p0 p1 S m' x := by
  rcases hb with hb | ⟨s', cnt', live', e1, p, h1, h2, h3, h4, h5, h6⟩
  · exact .inl (hb.later h)
  · exact .inr ⟨s', cnt', live', e1, p, h1, h.trans h2, h3, h4, h5, by omega⟩
theorem TOk.later {o : Ob} {e e' : E} {x : R} {q : List Nat} {n : Nat} (h : Later j o e e') (hb : TOk fid j e' x0 x3 p0 p1 S q n x) : TOk fid j e x0 x3 p0 p1 S q n x := by
  obtain ⟨s', cnt', live', e1, h1, h2, h3⟩ := hb
  exact ⟨s', cnt', live', e1, h1, h.trans h2, h3⟩

/-- What the loop comes to. -/
def TRes (fid : Nat) (j : Lo) (e : E) (x0 x1 x3 : Int) (y2 : List Nat) (rc p0 p1 : Ob) (S b : List Nat) (p most : Nat) (x : R) : Option (List Nat × Nat) → Prop
  | some (q, m) => TOk fid j e x0 x3 p0 p1 S (b ++ q) (p + m) x
  | none => TNo fid j e (.cells 117 [.int .i64 x0, .int .i64 x1, .str y2, .int .i64 x3]) rc p0 p1 S most x
theorem TRes.use {Q : R → Prop} {e : E} {x1 : Int} {y2 : List Nat} {rc : Ob} {m : Nat} {x : R} {r : Option (List Nat × Nat)} (h : TRes fid j e x0 x1 x3 y2 rc p0 p1 S b p m x r) (k : ∀ x, TRes fid j e x0 x1 x3 y2 rc p0 p1 S b p m x r → Q x) : Wp Q x := k x h
theorem TRes.map {e e' : E} {o : Ob} {x1 : Int} {y2 : List Nat} {rc : Ob} {p' m m' : Nat} {x : R} {r : Option (List Nat × Nat)} {d : Nat} (hm : m ≤ m') (h : Later j o e e') (hp : p' = p + d) (hr : TRes fid j e' x0 x1 x3 y2 rc p0 p1 S (b ++ [c]) p' m x r) :
    TRes fid j e x0 x1 x3 y2 rc p0 p1 S b p m' x (r.map fun q => (c :: q.1, q.2 + d)) := by
  cases r with
  | none => exact TNo.later hm h hr
  | some q =>
    have hr := TOk.later h hr
    simp only [Option.map_some, TRes]
    have h1 : b ++ c :: q.1 = (b ++ [c]) ++ q.1 := by simp
    have h2 : p + (q.2 + d) = p' + q.2 := by omega
    rw [h1, h2]; exact hr

theorem text_loop (L : LText P I) (hS : B8 S) (hp : S.length < 500000) (hrc : rc = .cells 117 [r0, r1, r2, r3]) (hW : free W j = true) (hjo : Out j fid) (hW0 : free W (.lo fid 0 1) = true) (hW1 : free W (.lo fid 1 1) = true) :
    ∀ (n p : Nat) (s : Tm) (cnt k z : Nat) (live b : List Nat) (e : E), S.length - p = n → p ≤ S.length → s.get .e = .ptr j 0 → s.get (.l (.l .e)) = .ptr (.lo fid 0 1) 0 → s.get (.r (.l .e)) = .ptr (.lo fid 1 1) 0 → s.get (.r (.r .e)) = .sl k z (byteVs b) →
      e.get j = .cells 332 [.str S, .int .i64 p] → Own k z (byteVs b) live → B8 b → cnt + 2 * n + 2 < 1048000 → b.length + n + 1 < big →
      TRes fid j e x0 x1 x3 y2 rc p0 p1 S b p (cnt + 2 * n) (lp (runW (cal P I) fid W b298x0) ⟨s, cnt⟩ (psh ⟨fid, [(1, .cells 117 [.int .i64 x0, .int .i64 x1, .str y2, .int .i64 x3], p0), (1, rc, p1)], live⟩ e)) (txt (S.drop p)) := by
  intro n
  induction n using Nat.strongRecOn with
  | _ n ih =>
    intro p s cnt k z live b e hn hpl h0 h3 h4 h6 hj hk hb hcnt hbig
    have hne : e.get j ≠ .none := by rw [hj]; simp
    cases hx : S[p]? with
    | none =>
      have : S.drop p = [] := List.drop_eq_nil_of_le (List.getElem?_eq_none_iff.1 hx)
      rw [this, lp_eq]
      obtain ⟨s', h1, h2, h3', h4'⟩ := text_none (P := P) (I := I) (fid := fid) (W := W) (cnt := cnt) (tc := .cells 117 [.int .i64 x0, .int .i64 x1, .str y2, .int .i64 x3]) (rc := rc) (p0 := p0) (p1 := p1) (live := live) L h0 hj hx hjo
      rw [h1]
      exact .inr ⟨s', cnt, live, e, p, rfl, later_self hj, h2, by rw [h3', h3], by rw [h4', h4], by omega⟩
    | some c =>
      have hlt := (List.getElem?_eq_some_iff.1 hx).1
      have hd : S.drop p = c :: S.drop (p + 1) := by rw [List.drop_eq_getElem_cons hlt, (List.getElem?_eq_some_iff.1 hx).2]
      have hc8 : c < 256 := hS c (List.mem_of_getElem? hx)
      rw [hd]
      by_cases h34 : c = 34
      · subst h34
        rw [txt]
        have := text_end (P := P) (I := I) (cnt := cnt) (x0 := x0) (x1 := x1) (x3 := x3) (y2 := y2) (p0 := p0) (p1 := p1) (live := live) L rfl hrc h0 h3 h4 h6 hj hx (by omega) hb hW hjo hW0 hW1
        rw [lp_eq]
        obtain ⟨s', cnt', live', e', g1, g2⟩ := this
        rw [g1]
        exact ⟨s', cnt', live', e', by simp [R.bind], g2⟩
      · by_cases h92 : c = 92
        · subst h92
          have bad : ∀ (_ : ∀ c, S[p + 1]? = some c → c ≠ 110 ∧ c ≠ 34 ∧ c ≠ 92), TNo fid j e (.cells 117 [.int .i64 x0, .int .i64 x1, .str y2, .int .i64 x3]) rc p0 p1 S (cnt + 2 * n) (lp (runW (cal P I) fid W b298x0) ⟨s, cnt⟩ (psh ⟨fid, [(1, .cells 117 [.int .i64 x0, .int .i64 x1, .str y2, .int .i64 x3], p0), (1, rc, p1)], live⟩ e)) := fun hcc => by
            have := text_escbad (P := P) (I := I) (cnt := cnt) (x0 := x0) (x1 := x1) (x3 := x3) (y2 := y2) (p0 := p0) (p1 := p1) (live := live) L rfl hrc h0 h3 h4 h6 hj hx (by omega) (by omega) hW hjo hW0 hW1 hcc
            rw [lp_eq]
            obtain ⟨s', cnt', live', e', o, o', l, g1, g2⟩ := this
            rw [g1]
            exact .inl ⟨s', cnt', live', e', o, o', l, rfl, g2⟩
          cases hx' : S[p + 1]? with
          | none =>
            have : S.drop (p + 1) = [] := List.drop_eq_nil_of_le (List.getElem?_eq_none_iff.1 hx')
            rw [this, txt]
            exact bad fun c h => by rw [hx'] at h; cases h
          | some d =>
            have hlt' := (List.getElem?_eq_some_iff.1 hx').1
            have hd' : S.drop (p + 1) = d :: S.drop (p + 2) := by rw [List.drop_eq_getElem_cons hlt', (List.getElem?_eq_some_iff.1 hx').2]
            have hd8 : d < 256 := hS d (List.mem_of_getElem? hx')
            rw [hd']
            by_cases hdd : d = 110 ∨ d = 34 ∨ d = 92
            · have ht : txt (92 :: d :: S.drop (p + 2)) = (txt (S.drop (p + 2))).map fun q => (esc d :: q.1, q.2 + 2) := by
                rcases hdd with rfl | rfl | rfl <;> simp [txt, esc]
              rw [ht]
              obtain ⟨s', cnt', k', live', e', g1, g2, g3, g4, g5, g6, g7, g8, g9, g10⟩ := text_esc (P := P) (I := I) (fid := fid) (W := W) (cnt := cnt) (k := k) (z := z) (b := b) (live := live) (tc := .cells 117 [.int .i64 x0, .int .i64 x1, .str y2, .int .i64 x3]) (rc := rc) (p0 := p0) (p1 := p1) L h0 h3 h4 h6 hj hx hx' (by omega) hk (by omega) (by omega) hW hjo hdd
              rw [lp_eq, g1]
              have he : esc d < 256 := by unfold esc; split <;> omega
              exact TRes.map (p' := p + 2) (by omega) g2 rfl (ih (S.length - (p + 2)) (by omega) (p + 2) s' cnt' k' 1 live' (b ++ [esc d]) e' rfl (by omega) g3 g4 g5 g6 (g2.get hne) (.inr ⟨rfl, g7, g8, g9⟩) (by simp [hb, he]) (by omega) (by simp; omega))
            · have ht : txt (92 :: d :: S.drop (p + 2)) = none := by
                have h1 : d ≠ 110 := fun h => hdd (.inl h)
                have h2 : d ≠ 34 := fun h => hdd (.inr (.inl h))
                have h3 : d ≠ 92 := fun h => hdd (.inr (.inr h))
                simp [txt, h1, h2, h3]
              rw [ht]
              refine bad fun c h => ?_
              rw [hx'] at h; cases h
              exact ⟨fun h => hdd (.inl h), fun h => hdd (.inr (.inl h)), fun h => hdd (.inr (.inr h))⟩
        · by_cases hcc : c < 32 ∨ 126 < c
          · have ht : txt (c :: S.drop (p + 1)) = none := by rw [txt_else h34 h92, if_pos hcc]
            rw [ht]
            have := text_bad (P := P) (I := I) (cnt := cnt) (x0 := x0) (x1 := x1) (x3 := x3) (y2 := y2) (p0 := p0) (p1 := p1) (live := live) L rfl hrc h0 h3 h4 h6 hj hx (by omega) (by omega) hW hjo hW0 hW1 h34 h92 hcc
            rw [lp_eq]
            obtain ⟨s', cnt', live', e', o, o', l, g1, g2⟩ := this
            rw [g1]
            exact .inl ⟨s', cnt', live', e', o, o', l, rfl, g2⟩
          · have ht : txt (c :: S.drop (p + 1)) = (txt (S.drop (p + 1))).map fun q => (c :: q.1, q.2 + 1) := by rw [txt_else h34 h92, if_neg hcc]
            rw [ht]
            obtain ⟨s', cnt', k', live', e', g1, g2, g3, g4, g5, g6, g7, g8, g9, g10⟩ := text_plain (P := P) (I := I) (fid := fid) (W := W) (cnt := cnt) (k := k) (z := z) (b := b) (live := live) (tc := .cells 117 [.int .i64 x0, .int .i64 x1, .str y2, .int .i64 x3]) (rc := rc) (p0 := p0) (p1 := p1) L h0 h3 h4 h6 hj hx (by omega) hk (by omega) (by omega) hW hjo h34 h92 (by omega) (by omega)
            rw [lp_eq, g1]
            exact TRes.map (p' := p + 1) (by omega) g2 rfl (ih (S.length - (p + 1)) (by omega) (p + 1) s' cnt' k' 1 live' (b ++ [c]) e' rfl (by omega) g3 g4 g5 g6 (g2.get hne) (.inr ⟨rfl, g7, g8, g9⟩) (by simp [hb, hc8]) (by omega) (by simp; omega))

/-- What cutter.text comes to. -/
def TextRet (j : Lo) (e : E) (x0 x3 : Int) (S : List Nat) (p : Nat) (x : CR) : Option (List Nat × Nat) → Prop
  | some (q, m) => ∃ e', x = .ret (.tup [.agg [.int .i64 x0, .int .i64 5, .str q, .int .i64 x3], .nilp]) e' ∧ Later j (.cells 332 [.str S, .int .i64 (p + m : Nat)]) e e'
  | none => ∃ (a b d : Int) (y : List Nat) (l : Lo) (e' : E) (o o' : Ob), x = .ret (.tup [.agg [.int .i64 a, .int .i64 b, .str y, .int .i64 d], .ptr l 0]) (e'.addG o') ∧ Later j o e e'

theorem TextRet.use {Q : CR → Prop} {x : CR} {r : Option (List Nat × Nat)} (h : TextRet j e x0 x3 S p x r) (k : ∀ x, TextRet j e x0 x3 S p x r → Q x) : WpC Q x := k x h
theorem text_law (L : LText P I) {x1 : Int} {y2 : List Nat} (hS : B8 S) (hp : S.length < 500000) (hpl : p < S.length) (hjo : Out j fid) (hj : e.get j = .cells 332 [.str S, .int .i64 p]) :
    TextRet j e x0 x3 S (p + 1) (cal P I 298 [.ptr j 0, .agg [.int .i64 x0, .int .i64 x1, .str y2, .int .i64 x3]] [] fid e) (txt (S.drop (p + 1))) := by
  have hbig : big = 4294967296 := rfl
  have hw : IntKind.i64.wrap ((p : Int) + 1) = (p : Int) + 1 := wrap_i64 (by omega) (by omega)
  have hgs : ∀ o, (e.set j o).get j = o := fun o => E.get_set_same _ _ _ (by rw [hj]; simp)
  refine cal_wp (Q := fun r => TextRet j e x0 x3 S (p + 1) r (txt (S.drop (p + 1)))) L.i298 L.p298 rfl ?_ ?_
  · cases txt (S.drop (p + 1)) <;> simp [TextRet]
  simp [f298, get_psh, set_psh, hjo.lof, hj, hw]
  simp only [Wp_bind, Wp_leave]
  refine TRes.use (text_loop (j := j) L hS hp rfl rfl hjo rfl rfl (S.length - (p + 1)) (p + 1) _ 0 1 0 [] [] _ rfl (by omega) ?_ ?_ ?_ ?_ ?_ (.inl ⟨rfl, rfl, rfl⟩) ?_ ?_ ?_) ?_
  any_goals (simp [hgs, byteVs]; done)
  · omega
  · simp; omega
  intro r hr
  have hl : Later j (.cells 332 [.str S, .int .i64 (p + 1 : Nat)]) e (e.set j (.cells 332 [.str S, .int .i64 ((p : Int) + 1)])) := later0 ..
  have hne : e.get j ≠ .none := by rw [hj]; simp
  cases ht : txt (S.drop (p + 1)) with
  | some q =>
    rw [ht] at hr
    obtain ⟨s', cnt', live', e', rfl, h1, h2, h3⟩ := hr
    have h1 := hl.trans h1
    simp at h1
    simp [TextRet, h2, h3]
    exact h1
  | none =>
    rw [ht] at hr
    rcases hr with ⟨s', cnt', live', e', o, o', l, rfl, h1, h2, h3⟩ | ⟨s', cnt', live', e', p', rfl, h1, h2, h3, h4, h5⟩
    · have h1 := hl.trans h1
      simp [TextRet, h2, h3]
      exact ⟨_, _, _, _, _, _, ⟨⟨⟨rfl, rfl, rfl, rfl⟩, rfl⟩, _, rfl⟩, _, h1⟩
    · have h1 := hl.trans h1
      have hj' := h1.get hne
      have hr : cnt' < 1048000 := by omega
      simp [TextRet, get_psh, set_psh, hjo.lof, Tm.get_set, h2, h3, h4, hj', locOf, wrong_law L, room, hr]
      exact ⟨_, _, _, _, _, _, ⟨⟨⟨rfl, rfl, rfl, rfl⟩, rfl⟩, _, rfl⟩, _, h1⟩
end Go.Abs.Run

/- lex: a token that is a text; written; Join; what a text at run time may be. -/
set_option linter.unusedSimpArgs false
set_option linter.unusedSectionVars false
set_option linter.unusedVariables false
namespace Go.Abs.Run
open Go Go.Abs
attribute [local simp] oM oN oF oE oQ oP oG oL oR oC oX oS oY vi vj vu vz ci cu eI eS eB
attribute [local simp] s0 t0 s1 t1 s2 t2 s3 t3 s4 t4 s5 t5 s6 t6 s7 t7 s8 t8 s9 t9 s10 t10 s11 t11 s12 t12 s13 t13 s14 t14 s15 t15 s16 t16 s17 t17 s18 t18 s19 t19 s20 t20 s21 t21 s22 t22 s23 t23 s24 t24 s25 t25 s26 t26 s27 t27 s28 t28 s29 t29 s30 t30 s31 t31 s32 t32 s33 t33 s34 t34 s35 t35 s36 t36 s37 t37 s38 t38 s39 t39 s40 t40 s41 t41 s42 t42 s43 t43 s44 t44 s45 t45 s46 t46 s47 t47 s48 t48 s49 t49 s50 t50 s51 t51 s52 t52 s53 t53 s54 t54 s55 t55 s56 t56 s57 t57 s58 t58 s59 t59 s60 t60 s61 t61 s62 t62 s63 t63 s64 t64 s65 t65 s66 t66 s67 t67 s68 t68 s69 t69 s70 t70 s71 t71 s72 t72 s73 t73 s74 t74 s75 t75 s76 t76 s77 t77 s78 t78 s79 t79 s80 t80 s81 t81 s82 t82 s83 t83 s84 t84 s85 t85 s86 t86 s87 t87 s88 t88 s89 t89 s90 t90 s91 t91 s92 t92 s93 t93 s94 t94 s95 t95 s96 t96 s97 t97 s98 t98 s99 t99
variable {P : Nat → Option FI} {I : Nat → Option IntrT}

structure LToken (P : Nat → Option FI) (I : Nat → Option IntrT) : Prop extends LText P I where
  p311 : P 311 = some f311
  i311 : I 311 = none
  p312 : P 312 = some f312
  i312 : I 312 = none
  p293 : P 293 = some f293
  i293 : I 293 = none
  p294 : P 294 = some f294
  i294 : I 294 = none
  p263 : P 263 = some f263
  i263 : I 263 = none
  p264 : P 264 = some f264
  i264 : I 264 = none


variable {W : List Lo} {fid : Nat} {e : E} {c : Int}
theorem small_law (L : LToken P I) : cal P I 311 [.int .u8 c] W fid e = .ret (.bool (decide (97 ≤ c) && decide (c ≤ 122))) e := by
  refine cal_of L.i311 L.p311 rfl (by simp) ?_
  by_cases h : 97 ≤ c <;> simp [f311, h]
theorem great_law (L : LToken P I) : cal P I 312 [.int .u8 c] W fid e = .ret (.bool (decide (65 ≤ c) && decide (c ≤ 90))) e := by
  refine cal_of L.i312 L.p312 rfl (by simp) ?_
  by_cases h : 65 ≤ c <;> simp [f312, h]
theorem digit_law (L : LToken P I) : cal P I 294 [.int .u8 c] W fid e = .ret (.bool (decide (48 ≤ c) && decide (c ≤ 57))) e := by
  refine cal_of L.i294 L.p294 rfl (by simp) ?_
  by_cases h : 48 ≤ c <;> simp [f294, h]
theorem letter_law (L : LToken P I) : cal P I 293 [.int .u8 c] W fid e = .ret (.bool ((decide (97 ≤ c) && decide (c ≤ 122)) || (decide (65 ≤ c) && decide (c ≤ 90)))) e := by
  refine cal_of L.i293 L.p293 rfl (by simp) ?_
  cases hb : (decide (97 ≤ c) && decide (c ≤ 122)) <;> simp [f293, small_law L, great_law L, room, hb]

/-- A token that is a text. -/
def TokRet (j : Lo) (e : E) (S : List Nat) (p : Nat) (x : CR) : Option (List Nat × Nat) → Prop
  | some (q, m) => ∃ e', x = .ret (.tup [.agg [.int .i64 p, .int .i64 5, .str q, .int .i64 0], .nilp]) e' ∧ Later j (.cells 332 [.str S, .int .i64 (p + 1 + m : Nat)]) e e'
  | none => ∃ (a b d : Int) (y : List Nat) (l : Lo) (e' : E) (o o' : Ob), x = .ret (.tup [.agg [.int .i64 a, .int .i64 b, .str y, .int .i64 d], .ptr l 0]) (e'.addG o') ∧ Later j o e e'

theorem token_law (L : LToken P I) {j : Lo} {p : Nat} {S : List Nat} (hS : B8 S) (hp : S.length < 500000) (hx : S[p]? = some 34) (hjo : Out j fid) (hj : e.get j = .cells 332 [.str S, .int .i64 p]) :
    TokRet j e S p (cal P I 264 [.ptr j 0] [] fid e) (txt (S.drop (p + 1))) := by
  have hpl : p < S.length := (List.getElem?_eq_some_iff.1 hx).1
  refine cal_wp (Q := fun r => TokRet j e S p r (txt (S.drop (p + 1)))) L.i264 L.p264 rfl ?_ ?_
  · cases txt (S.drop (p + 1)) <;> simp [TokRet]
  simp [f264, get_psh, set_psh, hjo.lof, hj, hx, ixsA_of, letter_law L, digit_law L, room]
  simp only [Wp_bind, Wp_leave, Wp_after]
  refine TextRet.use (text_law (j := j) L.toLText hS hp hpl (hjo.child 2 (by decide)) ?_) ?_
  · simp [get_psh, hjo.lof, hj]
  intro x hx
  cases ht : txt (S.drop (p + 1)) with
  | some q =>
    rw [ht] at hx
    obtain ⟨e', rfl, h1⟩ := hx
    obtain ⟨live, e1, rfl, h2⟩ := h1.psh hjo.lof
    simp [TokRet]
    exact h2
  | none =>
    rw [ht] at hx
    obtain ⟨a, b, d, y, l, e', o, o', rfl, h1⟩ := hx
    obtain ⟨live, e1, rfl, h2⟩ := h1.psh hjo.lof
    simp [TokRet]
    exact ⟨_, _, _, _, _, _, ⟨⟨⟨rfl, rfl, rfl, rfl⟩, rfl⟩, _, rfl⟩, _, h2⟩

theorem begins34 (L : LToken P I) : cal P I 263 [.int .u8 34] W fid e = .ret (.bool true) e := by
  refine cal_of L.i263 L.p263 rfl (by simp) ?_
  simp [f263, letter_law L, digit_law L, room]

@[simp] theorem strEq_self (s : List Nat) : strEq s s = true := by induction s with | nil => rfl | cons a s ih => simp [strEq, ih]

theorem TokRet.use {Q : CR → Prop} {x : CR} {j : Lo} {S : List Nat} {p : Nat} {r : Option (List Nat × Nat)} (h : TokRet j e S p x r) (k : ∀ x, TokRet j e S p x r → Q x) : WpC Q x := k x h

def isB8 : List Nat → Bool
  | [] => true
  | a :: l => cond (Nat.blt a 256) (isB8 l) false
theorem isB8_iff {l : List Nat} : isB8 l = true ↔ B8 l := by
  induction l with
  | nil => simp [isB8]
  | cons a l ih =>
    simp only [isB8, B8_cons, blt_dec]
    by_cases h : a < 256 <;> simp [h, ih]
def lenLe : List Nat → Nat → Bool
  | [], _ => true
  | _ :: _, 0 => false
  | _ :: l, n + 1 => lenLe l n
theorem lenLe_iff {l : List Nat} {n : Nat} : lenLe l n = true ↔ l.length ≤ n := by
  induction l generalizing n with
  | nil => simp [lenLe]
  | cons a l ih => cases n <;> simp [lenLe, ih]
/-- Quote, where it is known. -/
def quoteG : List AV → Option AV
  | [.str S] => cond (isB8 S && lenLe S 200000) (some (.str (quoted S))) none
  | _ => none
theorem quoted_length (S : List Nat) : (quoted S).length ≤ 2 * S.length + 2 := by
  have : (S.flatMap quo).length ≤ 2 * S.length := by
    induction S with
    | nil => simp
    | cons a S ih => have := quo_le a; simp only [List.flatMap_cons, List.length_append, List.length_cons]; omega
  simp only [quoted, List.length_cons, List.length_append, List.length_nil]; omega
theorem quoted_B8 {S : List Nat} (hS : B8 S) : B8 (quoted S) := by
  have : B8 (S.flatMap quo) := fun x hx => by
    obtain ⟨a, ha, hx⟩ := List.mem_flatMap.1 hx
    have := hS a ha
    unfold quo at hx
    split at hx
    · simp at hx; omega
    · split at hx <;> (simp at hx; omega)
  simp [quoted, this]

structure LWritten (P : Nat → Option FI) (I : Nat → Option IntrT) : Prop extends LToken P I where
  iQ : I 262 = some (pureI quoteG)
  p220 : P 220 = some f220
  i220 : I 220 = none


theorem written_law (L : LWritten P I) {S : List Nat} (hS : B8 S) (hN : S.length < 200000) :
    ∃ e', cal P I 220 [.agg [.int .i64 0, .int .i64 5, .str S, .int .i64 0]] [] fid e = .ret (.tup [.str (quoted S), .bool (decide (∀ c ∈ S, fine c))]) e' := by
  have hq : ∀ W fid e, cal P I 262 [.str S] W fid e = .ret (.str (quoted S)) e := fun W fid e => cal_intr L.iQ (by
    have h1 := isB8_iff.2 hS
    have h2 := lenLe_iff.2 (show S.length ≤ 200000 by omega)
    simp [pureI, quoteG, h1, h2])
  have hqs : quoted S = 34 :: (S.flatMap quo ++ [34]) := rfl
  have hne : strEq (quoted S) [] = false := rfl
  have h0 : (quoted S)[0]? = some 34 := rfl
  refine cal_wp (Q := fun r => ∃ e', r = .ret (.tup [.str (quoted S), .bool (decide (∀ c ∈ S, fine c))]) e') L.i220 L.p220 rfl (by simp) ?_
  have hql := quoted_length S
  have hqb := quoted_B8 hS
  generalize hgq : quoted S = Q at *
  simp [f220, hq, room, hne, h0, ixsA_of, begins34 L.toLToken]
  simp only [Wp_bind, Wp_leave, Wp_after]
  refine TokRet.use (token_law (j := .lo fid 1 1) (p := 0) L.toLToken hqb (by omega) h0 (Out.own fid 1 1 2) ?_) ?_
  · simp
  intro x hx
  have hd : txt (Q.drop (0 + 1)) = if (∀ c ∈ S, fine c) then some (S, (S.flatMap quo).length + 1) else none := by rw [hqs]; exact txt_quoted S
  rw [hd] at hx
  clear hd
  have hQl : Q.length = (S.flatMap quo).length + 2 := by rw [hqs]; simp only [List.length_cons, List.length_append, List.length_nil]
  clear hqs
  generalize (S.flatMap quo).length = m at *
  have hql : (1 : Int) + ((m : Int) + 1) = (Q.length : Int) := by omega
  by_cases hf : ∀ c ∈ S, fine c
  · rw [if_pos hf] at hx
    obtain ⟨e', rfl, h1⟩ := hx
    obtain ⟨live, e1, rfl⟩ := h1.own
    simp [hf, hql]
    exact hf
  · rw [if_neg hf] at hx
    obtain ⟨a, b, d, y, l, e', o, o', rfl, h1⟩ := hx
    obtain ⟨live, e1, rfl⟩ := h1.own
    simp [hf]

/-- Are all bytes fine? -/
def isFine : List Nat → Bool
  | [] => true
  | a :: l => cond (Nat.beq a 10) (isFine l) (cond (Nat.ble 32 a) (cond (Nat.ble a 126) (isFine l) false) false)
theorem isFine_iff {l : List Nat} : isFine l = decide (∀ c ∈ l, fine c) := by
  induction l with
  | nil => simp [isFine]
  | cons a l ih =>
    simp only [isFine, beq_dec, ble_dec, ih]
    by_cases h : a = 10
    · subst h; simp [fine]
      rfl
    · by_cases h1 : 32 ≤ a
      · by_cases h2 : a ≤ 126
        · simp [h, h1, h2, fine]
          rfl
        · simp [h, h1, h2, fine]
      · simp [h, h1, fine]
/-- written, where it is known. -/
def writtenG : List AV → Option AV
  | [.agg [.int .i64 (.ofNat 0), .int .i64 (.ofNat 5), .str S, .int .i64 (.ofNat 0)]] => cond (isB8 S && lenLe S 199999) (some (.tup [.str (quoted S), .bool (isFine S)])) none
  | _ => none

structure LJoin (P : Nat → Option FI) (I : Nat → Option IntrT) : Prop extends LBuilder P I where
  iWr : I 220 = some (pureI writtenG)
  p165 : P 165 = some f165
  i165 : I 165 = none
  p106 : P 106 = some f106
  i106 : I 106 = none


/-- What Join gives of one text. -/
def joined (S : List Nat) : AV :=
  if ∀ c ∈ S, fine c then (if 65536 < (quoted S).length then .tup [.str [], .int .i64 2] else .tup [.str (quoted S), .int .i64 0]) else .tup [.str [], .int .i64 1]

theorem join_law (L : LJoin P I) {S : List Nat} {k : Nat} (hS : B8 S) (hN : S.length < 200000) :
    ∃ e', cal P I 165 [.sl k 4 [.agg [.int .i64 0, .int .i64 5, .str S, .int .i64 0]]] [] fid e = .ret (joined S) e' := by
  have hw : ∀ W fid e, cal P I 220 [.agg [.int .i64 0, .int .i64 5, .str S, .int .i64 0]] W fid e = .ret (.tup [.str (quoted S), .bool (decide (∀ c ∈ S, fine c))]) e := fun W fid e => cal_intr L.iWr (by
    have h1 := isB8_iff.2 hS
    have h2 := lenLe_iff.2 (show S.length ≤ 199999 by omega)
    rw [← isFine_iff]
    show (match writtenG [.agg [.int .i64 (.ofNat 0), .int .i64 (.ofNat 5), .str S, .int .i64 (.ofNat 0)]] with | some v => some (v, e) | none => none) = _
    show (match cond (isB8 S && lenLe S 199999) (some (AV.tup [.str (quoted S), .bool (isFine S)])) none with | some v => some (v, e) | none => none) = _
    rw [h1, h2]; rfl)
  have hql := quoted_length S
  have hqb := quoted_B8 hS
  have hqn : quoted S ≠ [] := by simp [quoted]
  have hout : ∀ c, Out (.lo fid 0 1) (child fid c) := fun c => Out.own fid 0 1 c
  have hbig : big = 4294967296 := rfl
  refine cal_wp (Q := fun r => ∃ e', r = .ret (joined S) e') L.i165 L.p165 rfl (by simp) ?_
  unfold joined
  generalize quoted S = Q at *
  have hqb' : Q.length < big := by omega
  have hqb2 : Q.length < 4294967296 := by omega
  have hw1 : IntKind.i64.wrap 1 = 1 := by decide
  by_cases hf : ∀ c ∈ S, fine c
  · have hfd : decide (∀ c ∈ S, fine c) = true := by simpa using hf
    simp only [if_pos hf]
    by_cases hlen : 65536 < Q.length
    · have hlen' : (65536 : Int) < (Q.length : Int) := by omega
      simp only [if_pos hlen]
      simp [f165]
      rw [lp_eq]
      simp [b165x0, Tm.get_set, hw, hfd, room, iadA_of, lB L.toLBuilder, wS L.toLBuilder, hout, okB_iff, wrB, lnB, Tkt, grow, hqn, hqb', hw1]
      rw [lp_eq]
      simp [b165x0, Tm.get_set, room, iadA_of, lB L.toLBuilder, lnB, hout, hlen', Wp]
    · have hlen' : ¬ (65536 : Int) < (Q.length : Int) := by omega
      simp only [if_neg hlen]
      simp [f165]
      rw [lp_eq]
      simp [b165x0, Tm.get_set, hw, hfd, room, iadA_of, lB L.toLBuilder, wS L.toLBuilder, hout, okB_iff, wrB, lnB, Tkt, grow, hqn, hqb', hw1]
      rw [lp_eq]
      simp [b165x0, Tm.get_set, room, iadA_of, lB L.toLBuilder, sB L.toLBuilder, okS_iff, txB, lnB, hout, hlen', hqn, hqb, hqb2, fresh_odd, Wp]
  · have hfd : decide (∀ c ∈ S, fine c) = false := by simpa using hf
    simp only [if_neg hf]
    simp [f165]
    rw [lp_eq]
    simp [b165x0, Tm.get_set, hw, hfd, room, iadA_of, Wp]

theorem plain_law (L : LJoin P I) {S : List Nat} (hS : B8 S) (hN : S.length < 200000) :
    ∃ e', cal P I 106 [.str S] [] fid e = .ret (.bool (decide (∀ c ∈ S, fine c) && decide (S.length ≤ 4096))) e' := by
  refine cal_wp (Q := fun r => ∃ e', r = .ret (.bool (decide (∀ c ∈ S, fine c) && decide (S.length ≤ 4096))) e') L.i106 L.p106 rfl (by simp) ?_
  simp [f106, room]
  simp only [Wp_bind, Wp_leave, Wp_after]
  refine WpC.use (Post := fun x => ∃ e', x = .ret (joined S) e') (join_law L hS hN) ?_
  rintro x ⟨e', rfl⟩
  have hql : S.length ≤ (quoted S).length := by
    have h1 : ∀ c, 1 ≤ (quo c).length := fun c => by unfold quo; split <;> (try split) <;> simp
    have : S.length ≤ (S.flatMap quo).length := by
      induction S with
      | nil => simp
      | cons a S ih =>
        have := ih (fun x hx => hS x (List.mem_cons_of_mem _ hx)) (by simp only [List.length_cons] at hN; omega)
        have := h1 a
        simp only [List.flatMap_cons, List.length_append, List.length_cons]; omega
    simp only [quoted, List.length_cons, List.length_append, List.length_nil]; omega
  have hql2 := quoted_length S
  unfold joined
  by_cases hf : ∀ c ∈ S, fine c
  · have hfd : decide (∀ c ∈ S, fine c) = true := by simpa using hf
    by_cases hlen : 65536 < (quoted S).length
    · have h4 : ¬ S.length ≤ 4096 := by omega
      have h4' : ¬ (S.length : Int) ≤ 4096 := by omega
      simp only [if_pos hf, if_pos hlen]
      simp [h4, h4']
    · simp only [if_pos hf, if_neg hlen]
      by_cases h4 : S.length ≤ 4096
      · have h4' : (S.length : Int) ≤ 4096 := by omega
        simp [h4, h4', hfd]
      · have h4' : ¬ (S.length : Int) ≤ 4096 := by omega
        simp [h4, h4', hfd]
  · have hfd : decide (∀ c ∈ S, fine c) = false := by simpa using hf
    simp only [if_neg hf]
    simp [hfd]
end Go.Abs.Run

/- value.Look.Told of a text. -/
set_option linter.unusedSimpArgs false
set_option linter.unusedSectionVars false
set_option linter.unusedVariables false
namespace Go.Abs.Run
open Go Go.Abs
attribute [local simp] oM oN oF oE oQ oP oG oL oR oC oX oS oY vi vj vu vz ci cu eI eS eB
attribute [local simp] s0 t0 s1 t1 s2 t2 s3 t3 s4 t4 s5 t5 s6 t6 s7 t7 s8 t8 s9 t9 s10 t10 s11 t11 s12 t12 s13 t13 s14 t14 s15 t15 s16 t16 s17 t17 s18 t18 s19 t19 s20 t20 s21 t21 s22 t22 s23 t23 s24 t24 s25 t25 s26 t26 s27 t27 s28 t28 s29 t29 s30 t30 s31 t31 s32 t32 s33 t33 s34 t34 s35 t35 s36 t36 s37 t37 s38 t38 s39 t39 s40 t40 s41 t41 s42 t42 s43 t43 s44 t44 s45 t45 s46 t46 s47 t47 s48 t48 s49 t49 s50 t50 s51 t51 s52 t52 s53 t53 s54 t54 s55 t55 s56 t56 s57 t57 s58 t58 s59 t59 s60 t60 s61 t61 s62 t62 s63 t63 s64 t64 s65 t65 s66 t66 s67 t67 s68 t68 s69 t69 s70 t70 s71 t71 s72 t72 s73 t73 s74 t74 s75 t75 s76 t76 s77 t77 s78 t78 s79 t79 s80 t80 s81 t81 s82 t82 s83 t83 s84 t84 s85 t85 s86 t86 s87 t87 s88 t88 s89 t89 s90 t90 s91 t91 s92 t92 s93 t93 s94 t94 s95 t95 s96 t96 s97 t97 s98 t98 s99 t99
variable {P : Nat → Option FI} {I : Nat → Option IntrT}

structure LTold (P : Nat → Option FI) (I : Nat → Option IntrT) : Prop extends LBuilder P I where
  p102 : P 102 = some f102
  i102 : I 102 = none
  p38 : P 38 = some f38
  i38 : I 38 = none

variable {W : List Lo} {fid : Nat} {e : E}

theorem out2 (g cnt c a i : Nat) : Out (.lo g a i) (child (child g cnt) c) := fun x hx => by
  simp only [lof_lo, beq_dec, decide_eq_false_iff_not]
  intro h
  have h1 := hx.le
  have h2 := lt_child g cnt
  have h3 := lt_child (child g cnt) c
  omega
/-- The builder behind Told's text. -/
def TT (g : Nat) (x0 : Nat × Ob × Ob) (p : Ob) (S : List Nat) (x : CR) : Prop :=
  ∃ k' e1, x = .ret (.bool (decide (S.length ≤ 4096))) (psh ⟨g, [x0, (1, .cells 203 [.ptr (.lo g 1 1) 0, .sl k' 1 (byteVs S)], p)], [k']⟩ e1) ∧ k' % 2 = 1 ∧ 2 ≤ k'

theorem textT_law (L : LTold P I) {g : Nat} {x0 : Nat × Ob × Ob} {p : Ob} {dp : AV} {c n : Int} {S : List Nat} {z : Nat} (hS : S ≠ []) (hN : S.length < big) (hg : ¬ fid = g) (hout : ∀ c, Out (.lo g 1 1) (child fid c)) :
    TT g x0 p S (cal P I 102 [dp, .agg [.int .i64 3, .int .i64 c, .int .i64 n, .str S, .sl 1 z []], .ptr (.lo g 1 1) 0] [] fid (psh ⟨g, [x0, (1, .cells 203 [.nilp, .sl 1 0 []], p)], []⟩ e)) := by
  have hle : ((S.length : Int) ≤ 4096) ↔ S.length ≤ 4096 := by omega
  refine cal_wp (Q := TT g x0 p S) L.i102 L.p102 rfl (by simp [TT]) ?_
  simp [f102, room, wS L.toLBuilder, lB L.toLBuilder, hout, hS, okB_iff, wrB, lnB, Tkt, grow, hN, hle, hg]
  simp [Wp, TT, fresh_odd, and_assoc]
theorem TT.use {Q : CR → Prop} {g : Nat} {x0 : Nat × Ob × Ob} {p : Ob} {S : List Nat} {x : CR} (h : TT g x0 p S x) (k : ∀ x, TT g x0 p S x → Q x) : WpC Q x := k x h

theorem told_law (L : LTold P I) {dp : AV} {c n : Int} {S : List Nat} {z : Nat} (hS : S ≠ []) (hN : S.length ≤ 4096) (h8 : B8 S) :
    ∃ e', cal P I 38 [dp, .agg [.int .i64 3, .int .i64 c, .int .i64 n, .str S, .sl 1 z []]] [] fid e = .ret (.tup [.str S, .int .i64 0]) e' := by
  have hbig : big = 4294967296 := rfl
  refine cal_wp (Q := fun r => ∃ e', r = .ret (.tup [.str S, .int .i64 0]) e') L.i38 L.p38 rfl (by simp) ?_
  simp [f38, room]
  simp only [Wp_bind, Wp_leave, Wp_after]
  refine TT.use (textT_law L hS (by omega) (fun h => by have := lt_child fid 0; omega) fun c => out2 fid 0 c 1 1) ?_
  rintro x ⟨k', e1, rfl, h1, h2⟩
  have hout : ∀ c, Out (.lo fid 1 1) (child fid c) := fun c => Out.own fid 1 1 c
  have hlt : S.length < 4294967296 := by omega
  simp [hN, room, sB L.toLBuilder, hout, okS_iff, txB, h1, h2, hS, h8, hlt]
end Go.Abs.Run

/- value.plain and value.Look.Told of a text stand for themselves. -/
set_option linter.unusedSimpArgs false
set_option linter.unusedSectionVars false
set_option linter.unusedVariables false
namespace Go.Abs.Run
open Go Go.Abs
variable {prog : Program} [GOK prog] [GPlain]

/-- value.plain, where it is known. -/
def plainG : List AV → Option AV
  | [.str S] => cond (isB8 S && lenLe S 199999) (some (.bool (isFine S && lenLe S 4096))) none
  | _ => none
/-- Told, of a text. -/
def toldG : List AV → Option AV
  | [.ptr _ _, .agg [.int .i64 (.ofNat 3), .int .i64 _, .int .i64 _, .str S, .sl 1 _ []]] => cond (isB8 S && (lenLe S 4096 && !S.isEmpty)) (some (.tup [.str S, .int .i64 (.ofNat 0)])) none
  | _ => none

theorem fg_same {l : List AV} (h : ∀ a ∈ l, Fg a a) : ∀ (i : Nat) (a a' : AV), l[i]? = some a → l[i]? = some a' → Fg a a' := fun i a a' h1 h2 => by
  rw [h1] at h2; cases h2; exact h a (List.mem_of_getElem? h1)

theorem quote_iok {T : FuncId → Option FI} {I : FuncId → Option IntrT} (hT : TabOK prog T) (hI : IntrOK prog I ∧ IntrPure I) (hm : prog.follows .mixedOrders = true) (L : LQuote T I) : IOK prog 262 (pureI quoteG) :=
  iso_ok hT hI hm fun args v h => by
    unfold quoteG at h
    split at h
    · next S =>
      obtain ⟨h1, h2⟩ := cond_some h
      cases h2
      simp only [Bool.and_eq_true, isB8_iff, lenLe_iff] at h1
      obtain ⟨e', h3⟩ := quote_law (W := []) (fid := 1) (e := ⟨[], [], []⟩) L h1.1 (by omega) (by simp) (by simp)
      exact ⟨.str _, [.str S], e', rfl, fg_same (by simp; exact .str S), h3⟩
    · cases h

theorem written_iok {T : FuncId → Option FI} {I : FuncId → Option IntrT} (hT : TabOK prog T) (hI : IntrOK prog I ∧ IntrPure I) (hm : prog.follows .mixedOrders = true) (L : LWritten T I) : IOK prog 220 (pureI writtenG) :=
  iso_ok hT hI hm fun args v h => by
    unfold writtenG at h
    split at h
    · next S =>
      obtain ⟨h1, h2⟩ := cond_some h
      cases h2
      simp only [Bool.and_eq_true, isB8_iff, lenLe_iff] at h1
      obtain ⟨e', h3⟩ := written_law (fid := 1) (e := ⟨[], [], []⟩) L h1.1 (by omega)
      rw [← isFine_iff] at h3
      refine ⟨.tup (by simp; exact ⟨.str _, .bool _⟩), [.agg [.int .i64 0, .int .i64 5, .str S, .int .i64 0]], e', rfl, fg_same ?_, h3⟩
      simp
      exact .agg rfl (fg_same (by simp; exact ⟨.int _ _, .int _ _, .str _, .int _ _⟩))
    · cases h

theorem plain_iok {T : FuncId → Option FI} {I : FuncId → Option IntrT} (hT : TabOK prog T) (hI : IntrOK prog I ∧ IntrPure I) (hm : prog.follows .mixedOrders = true) (L : LJoin T I) : IOK prog 106 (pureI plainG) :=
  iso_ok hT hI hm fun args v h => by
    unfold plainG at h
    split at h
    · next S =>
      obtain ⟨h1, h2⟩ := cond_some h
      cases h2
      simp only [Bool.and_eq_true, isB8_iff, lenLe_iff] at h1
      obtain ⟨e', h3⟩ := plain_law (fid := 1) (e := ⟨[], [], []⟩) L h1.1 (by omega)
      have h4 : decide (S.length ≤ 4096) = lenLe S 4096 := by
        cases h : lenLe S 4096 with
        | true => simpa using lenLe_iff.1 h
        | false => simp only [decide_eq_false_iff_not]; intro h'; rw [lenLe_iff.2 h'] at h; cases h
      rw [← isFine_iff, h4] at h3
      exact ⟨.bool _, [.str S], e', rfl, fg_same (by simp; exact .str S), h3⟩
    · cases h

theorem told_iok {T : FuncId → Option FI} {I : FuncId → Option IntrT} (hT : TabOK prog T) (hI : IntrOK prog I ∧ IntrPure I) (hm : prog.follows .mixedOrders = true) (L : LTold T I) : IOK prog 38 (pureI toldG) :=
  iso_ok hT hI hm fun args v h => by
    unfold toldG at h
    split at h
    · next l o c n S z =>
      obtain ⟨h1, h2⟩ := cond_some h
      cases h2
      simp only [Bool.and_eq_true, isB8_iff, lenLe_iff] at h1
      have hS : S ≠ [] := by intro h; subst h; simp at h1
      obtain ⟨e', h3⟩ := told_law (dp := .dp 0 []) (c := c) (n := n) (z := z) (fid := 1) (e := ⟨[], [], []⟩) L hS h1.2.1 h1.1
      refine ⟨.tup (by simp; exact ⟨.str _, .int _ _⟩), [.dp 0 [], .agg [.int .i64 3, .int .i64 c, .int .i64 n, .str S, .sl 1 z []]], e', rfl, fun i a a' g1 g2 => ?_, h3⟩
      match i, g1, g2 with
      | 0, g1, g2 => cases g1; cases g2; exact .ptr _ _
      | 1, g1, g2 =>
        cases g1; cases g2
        exact .agg rfl (fg_same (by simp; exact ⟨.int _ _, .int _ _, .int _ _, .str _, .sl (k := 1) rfl (by simp) (by simp)⟩))
    · cases h
end Go.Abs.Run

/- value.Same and the document's Same. -/
set_option linter.unusedSimpArgs false
set_option linter.unusedSectionVars false
set_option linter.unusedVariables false
namespace Go.Abs.Run
open Go Go.Abs
attribute [local simp] oM oN oF oE oQ oP oG oL oR oC oX oS oY vi vj vu vz ci cu eI eS eB
attribute [local simp] s0 t0 s1 t1 s2 t2 s3 t3 s4 t4 s5 t5 s6 t6 s7 t7 s8 t8 s9 t9 s10 t10 s11 t11 s12 t12 s13 t13 s14 t14 s15 t15 s16 t16 s17 t17 s18 t18 s19 t19 s20 t20 s21 t21 s22 t22 s23 t23 s24 t24 s25 t25 s26 t26 s27 t27 s28 t28 s29 t29 s30 t30 s31 t31 s32 t32 s33 t33 s34 t34 s35 t35 s36 t36 s37 t37 s38 t38 s39 t39 s40 t40 s41 t41 s42 t42 s43 t43 s44 t44 s45 t45 s46 t46 s47 t47 s48 t48 s49 t49 s50 t50 s51 t51 s52 t52 s53 t53 s54 t54 s55 t55 s56 t56 s57 t57 s58 t58 s59 t59
variable {P : Nat → Option FI} {I : Nat → Option IntrT}

/-- A value, as data. -/
inductive Val where
  | mk (k c n : Int) (s : List Nat) (ps : List Val)

/-- What a value looks like; tickets may hang at its slices. -/
inductive Enc : Val → AV → Prop
  | mk {k c n : Int} {s : List Nat} {ps : List Val} {kk z : Nat} {xs : List AV} (hl : xs.length = ps.length) (h : ∀ (i : Nat) (v : Val) (x : AV), ps[i]? = some v → xs[i]? = some x → Enc v x) (hz : z = 5 ∨ xs = []) (hS : s.length ≤ 140737488355328) :
      Enc (.mk k c n s ps) (.agg [.int .i64 k, .int .i64 c, .int .i64 n, .str s, .sl kk z xs])

mutual
def Val.same : Val → Val → Bool
  | .mk k c n s ps, .mk k' c' n' s' ps' => decide (k = k') && (decide (c = c') && (decide (n = n') && (decide (s = s') && Val.sameL ps ps')))
def Val.sameL : List Val → List Val → Bool
  | [], [] => true
  | a :: x, b :: y => Val.same a b && Val.sameL x y
  | _, _ => false
end
mutual
def Val.size : Val → Nat
  | .mk _ _ _ s ps => 1 + s.length + Val.sizeL ps
def Val.sizeL : List Val → Nat
  | [] => 0
  | a :: x => Val.size a + Val.sizeL x
end

theorem sameL_get : ∀ {x y : List Val}, Val.sameL x y = true ↔ x.length = y.length ∧ ∀ (i : Nat) (a b : Val), x[i]? = some a → y[i]? = some b → Val.same a b = true
  | [], [] => by simp [Val.sameL]
  | [], _ :: _ => by simp [Val.sameL]
  | _ :: _, [] => by simp [Val.sameL]
  | a :: x, b :: y => by
    simp only [Val.sameL, Bool.and_eq_true, sameL_get (x := x), List.length_cons, Nat.add_right_cancel_iff]
    constructor
    · rintro ⟨h1, h2, h3⟩
      refine ⟨h2, fun i c d hc hd => ?_⟩
      cases i with
      | zero => simp at hc hd; subst hc; subst hd; exact h1
      | succ i => exact h3 i c d (by simpa using hc) (by simpa using hd)
    · rintro ⟨h2, h3⟩
      exact ⟨h3 0 a b rfl rfl, h2, fun i c d hc hd => h3 (i + 1) c d (by simpa using hc) (by simpa using hd)⟩

theorem sizeL_mem : ∀ {x : List Val} {i : Nat} {a : Val}, x[i]? = some a → a.size ≤ Val.sizeL x
  | b :: x, 0, a, h => by simp at h; subst h; simp only [Val.sizeL]; omega
  | b :: x, i + 1, a, h => by have := sizeL_mem (x := x) (i := i) (by simpa using h); simp only [Val.sizeL]; omega
theorem size_pos (a : Val) : 1 ≤ a.size := by cases a; simp only [Val.size]; omega
theorem sizeL_len : ∀ (x : List Val), x.length ≤ Val.sizeL x
  | [] => by simp [Val.sizeL]
  | b :: x => by have := sizeL_len x; have := size_pos b; simp only [Val.sizeL, List.length_cons]; omega

/-- Nothing of a frame's family is watched. -/
def WOut (W : List Lo) (fid : Nat) : Prop := ∀ x, Sub fid x → ∀ a i, free W (.lo x a i) = true
theorem WOut.child {W : List Lo} {fid : Nat} (h : WOut W fid) (c : Nat) (hc : c < cap) : WOut W (child fid c) := fun x hx a i => h x ((Sub.step .refl hc).trans hx) a i
theorem WOut.own {W : List Lo} {fid : Nat} (h : WOut W fid) (a i : Nat) : free W (.lo fid a i) = true := h fid .refl a i
theorem WOut.nil (fid : Nat) : WOut [] fid := fun _ _ _ _ => free_nil _

theorem strEq_iff {a b : List Nat} : strEq a b = decide (a = b) := by
  induction a generalizing b with
  | nil => cases b <;> simp [strEq]
  | cons x a ih =>
    cases b with
    | nil => simp [strEq]
    | cons y b =>
      simp only [strEq, beq_dec, ih]
      by_cases h : x = y <;> simp [h]

structure LSame (P : Nat → Option FI) (I : Nat → Option IntrT) : Prop where
  p15 : P 15 = some f15
  i15 : I 15 = none
  p18 : P 18 = some f18
  i18 : I 18 = none
  p41 : P 41 = some f41
  i41 : I 41 = none


/-- A call says a bool; tickets go. -/
def Says (b : Bool) (e : E) (x : CR) : Prop := ∃ ks, x = .ret (.bool b) (killL ks e)

theorem Says.use {Q : CR → Prop} {b : Bool} {e : E} {x : CR} (h : Says b e x) (k : ∀ x, Says b e x → Q x) : WpC Q x := k x h
/-- Where tickets are when a value is laid into a cell of the frame. -/
noncomputable def mvK (kk : Nat) (live : List Nat) (e : E) : List Nat := cond (Nat.ble 2 kk && (liveIn live kk || e.live kk)) [kk] []
noncomputable def mvL (kk : Nat) (live : List Nat) (e : E) : List Nat := cond (Nat.ble 2 kk && (liveIn live kk || e.live kk)) (kk :: dropK live kk) live
theorem moves5 {fid a i : Nat} {objs : List (Nat × Ob × Ob)} {live : List Nat} {e : E} {k c n : Int} {s : List Nat} {kk z : Nat} {xs : List AV} :
    (psh ⟨fid, objs, live⟩ e).moves [.int .i64 k, .int .i64 c, .int .i64 n, .str s, .sl kk z xs] (.lo fid a i) = psh ⟨fid, objs, mvL kk live e⟩ (killL (mvK kk live e) e) := by
  show (cond (Nat.ble 2 kk) (E.move _ kk _) _ : E) = _
  unfold mvK mvL E.move
  rw [live_psh]
  cases Nat.ble 2 kk with
  | false => rfl
  | true =>
    simp only [cond_true, Bool.true_and]
    cases h : (liveIn live kk || e.live kk) with
    | false => rfl
    | true => simp [killL]

theorem iadA_nat (z : Nat) (k : IntKind) (n : Nat) : iadA z (.int k (n : Int)) = iadN z n := rfl

/-- A round of the document's Same. -/
def RStep (fid : Nat) (o0 o1 : Nat × Ob × Ob) (e : E) (i cnt : Nat) (b : Bool) (x : R) : Prop :=
  if b then ∃ s' live' ks, x = .go ⟨s', cnt + 1⟩ (psh ⟨fid, [o0, o1], live'⟩ (killL ks e)) ∧ s'.get (.r .e) = .ptr (.lo fid 0 1) 0 ∧ s'.get (.l (.l .e)) = .ptr (.lo fid 1 1) 0 ∧ s'.get (.l (.r .e)) = .int .i64 (i + 1 : Nat)
  else ∃ s' cnt' live' ks, x = .ret ⟨s', cnt'⟩ (psh ⟨fid, [o0, o1], live'⟩ (killL ks e)) ∧ s'.get (.r (.l .e)) = .bool false

theorem ref_step (L : LSame P I) {W : List Lo} {fid : Nat} {e : E} {s : Tm} {cnt i : Nat} {p0 p1 : Ob} {live : List Nat} {k c n k' c' n' : Int} {S S' : List Nat} {kk kk' z z' : Nat} {xs ys : List AV} {x y : AV} {b : Bool}
    (h2 : s.get (.r .e) = .ptr (.lo fid 0 1) 0) (h3 : s.get (.l (.l .e)) = .ptr (.lo fid 1 1) 0) (h5 : s.get (.l (.r .e)) = .int .i64 i) (hi : i < xs.length) (hn : xs.length < 100000) (hx : xs[i]? = some x) (hy : ys[i]? = some y) (hz : z = 5) (hz' : z' = 5)
    (hxa : ∃ l, x = .agg l ∧ l.length = 5) (hya : ∃ l, y = .agg l ∧ l.length = 5) (hr : cnt < 1048000)
    (hs : ∀ e, Says b e (cal P I 18 [x, y] W (child fid cnt) e)) :
    RStep fid (1, .cells 47 [.int .i64 k, .int .i64 c, .int .i64 n, .str S, .sl kk z xs], p0) (1, .cells 47 [.int .i64 k', .int .i64 c', .int .i64 n', .str S', .sl kk' z' ys], p1) e i cnt b
      (runW (cal P I) fid W b18x0 ⟨s, cnt⟩ (psh ⟨fid, [(1, .cells 47 [.int .i64 k, .int .i64 c, .int .i64 n, .str S, .sl kk z xs], p0), (1, .cells 47 [.int .i64 k', .int .i64 c', .int .i64 n', .str S', .sl kk' z' ys], p1)], live⟩ e)) := by
  have hlt : (i : Int) < (xs.length : Int) := by omega
  have hw : IntKind.i64.wrap ((i : Int) + 1) = (i : Int) + 1 := wrap_i64 (by omega) (by omega)
  obtain ⟨l, rfl, hl⟩ := hxa
  obtain ⟨m, rfl, hm⟩ := hya
  subst hz hz'
  show Wp (RStep _ _ _ _ _ _ _) _
  have hl' : l.take 5 = l := List.take_of_length_le (by omega)
  have hm' : m.take 5 = m := List.take_of_length_le (by omega)
  simp [b18x0, Tm.get_set, h2, h3, h5, hlt, hx, hy, iadA_nat, room, hr, hl, hm, hl', hm']
  simp only [Wp_bind, Wp_leave, Wp_after]
  refine Says.use (hs _) ?_
  rintro r ⟨ks, rfl⟩
  rw [killL_psh]
  cases b with
  | true =>
    simp [RStep, Tm.get_set, h2, h3, h5, hw, and_assoc]
    exact ⟨ks, rfl⟩
  | false =>
    simp [RStep, Tm.get_set, and_assoc]
    exact ⟨ks, rfl⟩

/-- Where the loop ends. -/
def REnd (fid : Nat) (o0 o1 : Nat × Ob × Ob) (e : E) (b : Bool) (x : R) : Prop :=
  if b then ∃ s' cnt' live' ks, x = .exit 0 ⟨s', cnt'⟩ (psh ⟨fid, [o0, o1], live'⟩ (killL ks e))
  else ∃ s' cnt' live' ks, x = .ret ⟨s', cnt'⟩ (psh ⟨fid, [o0, o1], live'⟩ (killL ks e)) ∧ s'.get (.r (.l .e)) = .bool false
theorem REnd.use {Q : R → Prop} {fid : Nat} {o0 o1 : Nat × Ob × Ob} {e : E} {b : Bool} {x : R} (h : REnd fid o0 o1 e b x) (k : ∀ x, REnd fid o0 o1 e b x → Q x) : Wp Q x := k x h
theorem REnd.more {fid : Nat} {o0 o1 : Nat × Ob × Ob} {e : E} {ks : List Nat} {b : Bool} {x : R} (h : REnd fid o0 o1 (killL ks e) b x) : REnd fid o0 o1 e b x := by
  unfold REnd at h ⊢
  cases b with
  | true => obtain ⟨s', cnt', live', ks', h1⟩ := h; exact ⟨s', cnt', live', ks ++ ks', by rw [h1, killL_app]⟩
  | false => obtain ⟨s', cnt', live', ks', h1, h2⟩ := h; exact ⟨s', cnt', live', ks ++ ks', by rw [h1, killL_app], h2⟩

theorem Enc.agg5 {v : Val} {x : AV} (h : Enc v x) : ∃ l, x = .agg l ∧ l.length = 5 := by
  cases h; exact ⟨_, rfl, rfl⟩

theorem ref_loop (L : LSame P I) {W : List Lo} {fid : Nat} {p0 p1 : Ob} {k c n k' c' n' : Int} {S S' : List Nat} {kk kk' z z' : Nat} {xs ys : List AV} {ps qs : List Val}
    (hn : xs.length < 100000) (hz : z = 5 ∨ xs = []) (hz' : z' = 5 ∨ ys = []) (hxl : xs.length = ps.length) (hyl : ys.length = qs.length) (hpq : ps.length = qs.length)
    (hx : ∀ (i : Nat) (v : Val) (x : AV), ps[i]? = some v → xs[i]? = some x → Enc v x) (hy : ∀ (i : Nat) (v : Val) (x : AV), qs[i]? = some v → ys[i]? = some x → Enc v x)
    (ih : ∀ (a b : Val) (x y : AV) (cnt : Nat) (e : E), a ∈ ps → b ∈ qs → Enc a x → Enc b y → cnt < 1048000 → Says (Val.same a b) e (cal P I 18 [x, y] W (child fid cnt) e)) :
    ∀ (m i : Nat) (s : Tm) (cnt : Nat) (live : List Nat) (e : E), xs.length - i = m → i ≤ xs.length → s.get (.r .e) = .ptr (.lo fid 0 1) 0 → s.get (.l (.l .e)) = .ptr (.lo fid 1 1) 0 → s.get (.l (.r .e)) = .int .i64 i → cnt + m < 1048000 →
    REnd fid (1, .cells 47 [.int .i64 k, .int .i64 c, .int .i64 n, .str S, .sl kk z xs], p0) (1, .cells 47 [.int .i64 k', .int .i64 c', .int .i64 n', .str S', .sl kk' z' ys], p1) e (Val.sameL (ps.drop i) (qs.drop i))
      (lp (runW (cal P I) fid W b18x0) ⟨s, cnt⟩ (psh ⟨fid, [(1, .cells 47 [.int .i64 k, .int .i64 c, .int .i64 n, .str S, .sl kk z xs], p0), (1, .cells 47 [.int .i64 k', .int .i64 c', .int .i64 n', .str S', .sl kk' z' ys], p1)], live⟩ e)) := by
  intro m
  induction m with
  | zero =>
    intro i s cnt live e hm hi h2 h3 h5 hc
    have hlt : ¬ (i : Int) < (xs.length : Int) := by omega
    have e1 : ps.drop i = [] := List.drop_eq_nil_of_le (by omega)
    have e2 : qs.drop i = [] := List.drop_eq_nil_of_le (by omega)
    rw [e1, e2, lp_eq]
    simp [REnd, Val.sameL, b18x0, Tm.get_set, h2, h3, h5, hlt]
    exact ⟨[], rfl⟩
  | succ m ihm =>
    intro i s cnt live e hm hi h2 h3 h5 hc
    have hlt : i < xs.length := by omega
    obtain ⟨x, hxi⟩ : ∃ x, xs[i]? = some x := ⟨_, List.getElem?_eq_getElem hlt⟩
    obtain ⟨y, hyi⟩ : ∃ y, ys[i]? = some y := ⟨_, List.getElem?_eq_getElem (by omega)⟩
    obtain ⟨a, ha⟩ : ∃ a, ps[i]? = some a := ⟨_, List.getElem?_eq_getElem (by omega)⟩
    obtain ⟨b, hb⟩ : ∃ b, qs[i]? = some b := ⟨_, List.getElem?_eq_getElem (by omega)⟩
    have hz1 : z = 5 := hz.resolve_right (fun h => by rw [h] at hlt; simp at hlt)
    have hz2 : z' = 5 := hz'.resolve_right (fun h => by rw [h] at hyi; simp at hyi)
    have hst := ref_step (p0 := p0) (p1 := p1) (live := live) (k := k) (c := c) (n := n) (k' := k') (c' := c') (n' := n') (S := S) (S' := S') (kk := kk) (kk' := kk') (e := e) (b := Val.same a b) L h2 h3 h5 hlt hn hxi hyi hz1 hz2 (hx i a x ha hxi).agg5 (hy i b y hb hyi).agg5 (by omega)
      (fun e => ih a b x y cnt e (List.mem_of_getElem? ha) (List.mem_of_getElem? hb) (hx i a x ha hxi) (hy i b y hb hyi) (by omega))
    have d1 : ps.drop i = a :: ps.drop (i + 1) := by rw [List.drop_eq_getElem_cons (by omega), (List.getElem?_eq_some_iff.1 ha).2]
    have d2 : qs.drop i = b :: qs.drop (i + 1) := by rw [List.drop_eq_getElem_cons (by omega), (List.getElem?_eq_some_iff.1 hb).2]
    rw [d1, d2, lp_eq]
    simp only [Val.sameL]
    cases hab : Val.same a b with
    | false =>
      rw [hab] at hst
      obtain ⟨s', cnt', live', ks, g1, g2⟩ := hst
      rw [g1]
      exact ⟨s', cnt', live', ks, rfl, g2⟩
    | true =>
      rw [hab] at hst
      obtain ⟨s', live', ks, g1, g2, g3, g4⟩ := hst
      rw [g1]
      simp only [Bool.true_and]
      exact (ihm (i + 1) s' (cnt + 1) live' (killL ks e) (by omega) (by omega) g2 g3 g4 (by omega)).more

theorem lenL_bound : ∀ {ps : List Val} {a : Val}, a ∈ ps → a.size ≤ Val.sizeL ps := fun h => by
  obtain ⟨i, hi⟩ := List.mem_iff_getElem?.1 h
  exact sizeL_mem hi

theorem ref_same (L : LSame P I) : ∀ (m : Nat) (a b : Val) (x y : AV) (W : List Lo) (fid : Nat) (e : E), a.size ≤ m → a.size < 100000 → b.size < 100000 → Enc a x → Enc b y → WOut W fid → Says (Val.same a b) e (cal P I 18 [x, y] W fid e) := by
  intro m
  induction m with
  | zero => intro a b x y W fid e h; have := size_pos a; omega
  | succ m ihm =>
    intro a b x y W fid e ham ha hb hx hy hW
    cases hx with
    | @mk k c n S ps kk z xs hxl hxe hxz hxS =>
    cases hy with
    | @mk k' c' n' S' qs kk' z' ys hyl hye hyz hyS =>
    simp only [Val.size] at ham ha hb
    have l1 := sizeL_len ps
    have l2 := sizeL_len qs
    refine cal_wp (Q := Says (Val.same (.mk k c n S ps) (.mk k' c' n' S' qs)) e) L.i18 L.p18 rfl (by rintro ⟨ks, h⟩; cases h) ?_
    have w0 := hW.own 0 0
    have w1 := hW.own 1 0
    by_cases hk : k = k'
    · subst hk
      by_cases hc : c = c'
      · subst hc
        by_cases hn : n = n'
        · subst hn
          by_cases hS : S = S'
          · subst hS
            by_cases hl : ps.length = qs.length
            · have hl' : xs.length = ys.length := by omega
              simp [-E.moves, f18, moves5, w0, w1, strEq_iff, hl']
              simp only [Wp_bind, Wp_leave]
              refine REnd.use (ref_loop (xs := xs) (ys := ys) L (ps := ps) (qs := qs) (by omega) hxz hyz hxl hyl hl hxe hye (fun a b x y cnt e ha hb hx hy hcnt => ?_) xs.length 0 _ _ _ _ (by omega) (by omega) ?_ ?_ ?_ ?_) ?_
              · have := lenL_bound ha
                have := lenL_bound hb
                exact ihm a b x y W (child fid cnt) e (by omega) (by omega) (by omega) hx hy (hW.child cnt hcnt)
              any_goals (simp; done)
              · omega
              intro x hx
              simp only [List.drop_zero] at hx
              cases hb : Val.sameL ps qs with
              | true =>
                rw [hb] at hx
                obtain ⟨s', cnt', live', ks, rfl⟩ := hx
                simp [Says, Val.same, hb, Tm.get_set]
                exact ⟨_, by rw [killL_app, killL_app]⟩
              | false =>
                rw [hb] at hx
                obtain ⟨s', cnt', live', ks, rfl, h4⟩ := hx
                simp [Says, Val.same, hb, h4]
                exact ⟨_, by rw [killL_app, killL_app]⟩
            · have hl' : ¬ xs.length = ys.length := by omega
              have hb : Val.sameL ps qs = false := by
                cases h : Val.sameL ps qs with
                | false => rfl
                | true => exact absurd (sameL_get.1 h).1 hl
              have hl2 : ¬ (xs.length : Int) = (ys.length : Int) := by omega
              simp [-E.moves, f18, moves5, w0, w1, strEq_iff, Says, Val.same, Wp, hl2, hb]
              exact ⟨_, by rw [killL_app]⟩
          · simp [-E.moves, f18, moves5, w0, w1, strEq_iff, Says, Val.same, Wp, hS]
            exact ⟨_, by rw [killL_app]⟩
        · simp [-E.moves, f18, moves5, w0, w1, strEq_iff, Says, Val.same, Wp, hn]
          exact ⟨_, by rw [killL_app]⟩
      · simp [-E.moves, f18, moves5, w0, w1, strEq_iff, Says, Val.same, Wp, hc]
        exact ⟨_, by rw [killL_app]⟩
    · simp [-E.moves, f18, moves5, w0, w1, strEq_iff, Says, Val.same, Wp, hk]
      exact ⟨_, by rw [killL_app]⟩
end Go.Abs.Run

/- value.Same. -/
set_option linter.unusedSimpArgs false
set_option linter.unusedSectionVars false
set_option linter.unusedVariables false
namespace Go.Abs.Run
open Go Go.Abs
attribute [local simp] oM oN oF oE oQ oP oG oL oR oC oX oS oY vi vj vu vz ci cu eI eS eB
attribute [local simp] s0 t0 s1 t1 s2 t2 s3 t3 s4 t4 s5 t5 s6 t6 s7 t7 s8 t8 s9 t9 s10 t10 s11 t11 s12 t12 s13 t13 s14 t14 s15 t15 s16 t16 s17 t17 s18 t18 s19 t19 s20 t20 s21 t21 s22 t22 s23 t23 s24 t24 s25 t25 s26 t26 s27 t27 s28 t28 s29 t29 s30 t30 s31 t31 s32 t32 s33 t33 s34 t34 s35 t35 s36 t36 s37 t37 s38 t38 s39 t39 s40 t40 s41 t41 s42 t42 s43 t43 s44 t44 s45 t45 s46 t46 s47 t47 s48 t48 s49 t49 s50 t50 s51 t51 s52 t52 s53 t53 s54 t54 s55 t55 s56 t56 s57 t57 s58 t58 s59 t59
variable {P : Nat → Option FI} {I : Nat → Option IntrT}

/-- Two objects of a frame. -/
def Two (objs : List (Nat × Ob × Ob)) : Prop := ∃ n o p m o' p', objs = [(n, o, p), (m, o', p')]
/-- A round of EqualFunc. -/
def EStep (fid : Nat) (kk z kk' z' : Nat) (xs ys : List AV) (e : E) (i cnt : Nat) (b : Bool) (x : R) : Prop :=
  if b then ∃ s' objs' live' ks, x = .go ⟨s', cnt + 1⟩ (psh ⟨fid, objs', live'⟩ (killL ks e)) ∧ Two objs' ∧ s'.get (.l (.l (.l (.l .e)))) = .sl kk z xs ∧ s'.get (.l .e) = .sl kk' z' ys ∧ s'.get (.r .e) = .fn 15 [] [] ∧ s'.get (.r (.l (.l (.l .e)))) = .int .i64 xs.length ∧ s'.get (.l (.r (.l (.l .e)))) = .int .i64 (i + 1 : Nat)
  else ∃ s' cnt' objs' live' ks, x = .ret ⟨s', cnt'⟩ (psh ⟨fid, objs', live'⟩ (killL ks e)) ∧ s'.get (.r (.r .e)) = .bool false

theorem eq_step {W : List Lo} {fid : Nat} {e : E} {s : Tm} {cnt i : Nat} {objs : List (Nat × Ob × Ob)} {live : List Nat} {kk kk' z z' : Nat} {xs ys : List AV} {k c n k' c' n' : Int} {S S' : List Nat} {j w j' w' : Nat} {us vs : List AV} {b : Bool}
    (h0 : s.get (.l (.l (.l (.l .e)))) = .sl kk z xs) (h1 : s.get (.l .e) = .sl kk' z' ys) (h2 : s.get (.r .e) = .fn 15 [] []) (h3 : s.get (.r (.l (.l (.l .e)))) = .int .i64 xs.length) (h4 : s.get (.l (.r (.l (.l .e)))) = .int .i64 i) (ho : Two objs) (hi : i < xs.length) (hn : xs.length < 100000)
    (hx : xs[i]? = some (.agg [.int .i64 k, .int .i64 c, .int .i64 n, .str S, .sl j w us])) (hy : ys[i]? = some (.agg [.int .i64 k', .int .i64 c', .int .i64 n', .str S', .sl j' w' vs])) (hz : z = 5) (hz' : z' = 5) (hr : cnt < 1048000) (hW : WOut W fid)
    (hs : ∀ e, Says b e (cal P I 15 [.agg [.int .i64 k, .int .i64 c, .int .i64 n, .str S, .sl j w us], .agg [.int .i64 k', .int .i64 c', .int .i64 n', .str S', .sl j' w' vs]] W (child fid cnt) e)) :
    EStep fid kk z kk' z' xs ys e i cnt b (runW (cal P I) fid W b41x0 ⟨s, cnt⟩ (psh ⟨fid, objs, live⟩ e)) := by
  obtain ⟨n0, o0, p0, n1, o1, p1, rfl⟩ := ho
  have hlt : (i : Int) < (xs.length : Int) := by omega
  have hw : IntKind.i64.wrap ((i : Int) + 1) = (i : Int) + 1 := wrap_i64 (by omega) (by omega)
  have w0 := hW.own 0
  have w1 := hW.own 1
  subst hz hz'
  show Wp (EStep _ _ _ _ _ _ _ _ _ _ _) _
  simp [-E.moves, b41x0, callvV, Tm.get_set, h0, h1, h2, h3, h4, hlt, hx, hy, iadA_nat, room, hr, w0, w1, moves5]
  simp only [Wp_bind, Wp_leave, Wp_after]
  refine Says.use (hs _) ?_
  rintro r ⟨ks, rfl⟩
  rw [killL_psh]
  cases b with
  | true =>
    simp [EStep, Tm.get_set, h0, h1, h2, h3, h4, hw, and_assoc, Two]
    exact ⟨_, by rw [killL_app, killL_app]⟩
  | false =>
    simp [EStep, Tm.get_set, and_assoc]
    exact ⟨_, by rw [killL_app, killL_app]⟩

/-- Where the loop ends. -/
def EEnd (fid : Nat) (e : E) (b : Bool) (x : R) : Prop :=
  if b then ∃ s' cnt' objs' live' ks, x = .exit 0 ⟨s', cnt'⟩ (psh ⟨fid, objs', live'⟩ (killL ks e))
  else ∃ s' cnt' objs' live' ks, x = .ret ⟨s', cnt'⟩ (psh ⟨fid, objs', live'⟩ (killL ks e)) ∧ s'.get (.r (.r .e)) = .bool false
theorem EEnd.use {Q : R → Prop} {fid : Nat} {e : E} {b : Bool} {x : R} (h : EEnd fid e b x) (k : ∀ x, EEnd fid e b x → Q x) : Wp Q x := k x h
theorem EEnd.more {fid : Nat} {e : E} {ks : List Nat} {b : Bool} {x : R} (h : EEnd fid (killL ks e) b x) : EEnd fid e b x := by
  unfold EEnd at h ⊢
  cases b with
  | true => obtain ⟨s', cnt', objs', live', ks', h1⟩ := h; exact ⟨s', cnt', objs', live', ks ++ ks', by rw [h1, killL_app]⟩
  | false => obtain ⟨s', cnt', objs', live', ks', h1, h2⟩ := h; exact ⟨s', cnt', objs', live', ks ++ ks', by rw [h1, killL_app], h2⟩

theorem Enc.form {v : Val} {x : AV} (h : Enc v x) : ∃ k c n s kk z xs, x = .agg [.int .i64 k, .int .i64 c, .int .i64 n, .str s, .sl kk z xs] := by
  cases h; exact ⟨_, _, _, _, _, _, _, rfl⟩

theorem eq_loop {W : List Lo} {fid : Nat} {kk kk' z z' : Nat} {xs ys : List AV} {ps qs : List Val} (hW : WOut W fid)
    (hn : xs.length < 100000) (hz : z = 5 ∨ xs = []) (hz' : z' = 5 ∨ ys = []) (hxl : xs.length = ps.length) (hyl : ys.length = qs.length) (hpq : ps.length = qs.length)
    (hx : ∀ (i : Nat) (v : Val) (x : AV), ps[i]? = some v → xs[i]? = some x → Enc v x) (hy : ∀ (i : Nat) (v : Val) (x : AV), qs[i]? = some v → ys[i]? = some x → Enc v x)
    (ih : ∀ (a b : Val) (x y : AV) (cnt : Nat) (e : E), a ∈ ps → b ∈ qs → Enc a x → Enc b y → cnt < 1048000 → Says (Val.same a b) e (cal P I 15 [x, y] W (child fid cnt) e)) :
    ∀ (m i : Nat) (s : Tm) (cnt : Nat) (objs : List (Nat × Ob × Ob)) (live : List Nat) (e : E), xs.length - i = m → i ≤ xs.length → Two objs → s.get (.l (.l (.l (.l .e)))) = .sl kk z xs → s.get (.l .e) = .sl kk' z' ys → s.get (.r .e) = .fn 15 [] [] → s.get (.r (.l (.l (.l .e)))) = .int .i64 xs.length → s.get (.l (.r (.l (.l .e)))) = .int .i64 i → cnt + m < 1048000 →
    EEnd fid e (Val.sameL (ps.drop i) (qs.drop i)) (lp (runW (cal P I) fid W b41x0) ⟨s, cnt⟩ (psh ⟨fid, objs, live⟩ e)) := by
  intro m
  induction m with
  | zero =>
    intro i s cnt objs live e hm hi ho h0 h1 h2 h3 h4 hc
    have hlt : ¬ (i : Int) < (xs.length : Int) := by omega
    have e1 : ps.drop i = [] := List.drop_eq_nil_of_le (by omega)
    have e2 : qs.drop i = [] := List.drop_eq_nil_of_le (by omega)
    rw [e1, e2, lp_eq]
    simp [EEnd, Val.sameL, b41x0, Tm.get_set, h0, h3, h4, hlt]
    exact ⟨[], rfl⟩
  | succ m ihm =>
    intro i s cnt objs live e hm hi ho h0 h1 h2 h3 h4 hc
    have hlt : i < xs.length := by omega
    obtain ⟨x, hxi⟩ : ∃ x, xs[i]? = some x := ⟨_, List.getElem?_eq_getElem hlt⟩
    obtain ⟨y, hyi⟩ : ∃ y, ys[i]? = some y := ⟨_, List.getElem?_eq_getElem (by omega)⟩
    obtain ⟨a, ha⟩ : ∃ a, ps[i]? = some a := ⟨_, List.getElem?_eq_getElem (by omega)⟩
    obtain ⟨b, hb⟩ : ∃ b, qs[i]? = some b := ⟨_, List.getElem?_eq_getElem (by omega)⟩
    have hz1 : z = 5 := hz.resolve_right (fun h => by rw [h] at hlt; simp at hlt)
    have hz2 : z' = 5 := hz'.resolve_right (fun h => by rw [h] at hyi; simp at hyi)
    have hex := hx i a x ha hxi
    have hey := hy i b y hb hyi
    obtain ⟨k, c, n, S, j, w, us, rfl⟩ := hex.form
    obtain ⟨k', c', n', S', j', w', vs, rfl⟩ := hey.form
    have hst := eq_step (P := P) (I := I) (live := live) (e := e) (b := Val.same a b) h0 h1 h2 h3 h4 ho hlt hn hxi hyi hz1 hz2 (by omega) hW
      (fun e => ih a b _ _ cnt e (List.mem_of_getElem? ha) (List.mem_of_getElem? hb) hex hey (by omega))
    have d1 : ps.drop i = a :: ps.drop (i + 1) := by rw [List.drop_eq_getElem_cons (by omega), (List.getElem?_eq_some_iff.1 ha).2]
    have d2 : qs.drop i = b :: qs.drop (i + 1) := by rw [List.drop_eq_getElem_cons (by omega), (List.getElem?_eq_some_iff.1 hb).2]
    rw [d1, d2, lp_eq]
    simp only [Val.sameL]
    cases hab : Val.same a b with
    | false =>
      rw [hab] at hst
      obtain ⟨s', cnt', objs', live', ks, g1, g2⟩ := hst
      rw [g1]
      exact ⟨s', cnt', objs', live', ks, rfl, g2⟩
    | true =>
      rw [hab] at hst
      obtain ⟨s', objs', live', ks, g1, g2, g3, g4, g5, g6, g7⟩ := hst
      rw [g1]
      simp only [Bool.true_and]
      exact (ihm (i + 1) s' (cnt + 1) objs' live' (killL ks e) (by omega) (by omega) g2 g3 g4 g5 g6 g7 (by omega)).more

structure LEq (P : Nat → Option FI) (I : Nat → Option IntrT) : Prop where
  p15 : P 15 = some f15
  i15 : I 15 = none
  p41 : P 41 = some f41
  i41 : I 41 = none


theorem eq_func (L : LEq P I) {W : List Lo} {fid : Nat} {kk kk' z z' : Nat} {xs ys : List AV} {ps qs : List Val} {e : E} (hW : WOut W fid)
    (hn : xs.length < 100000) (hn' : ys.length < 100000) (hz : z = 5 ∨ xs = []) (hz' : z' = 5 ∨ ys = []) (hxl : xs.length = ps.length) (hyl : ys.length = qs.length)
    (hx : ∀ (i : Nat) (v : Val) (x : AV), ps[i]? = some v → xs[i]? = some x → Enc v x) (hy : ∀ (i : Nat) (v : Val) (x : AV), qs[i]? = some v → ys[i]? = some x → Enc v x)
    (ih : ∀ (a b : Val) (x y : AV) (cnt : Nat) (e : E), a ∈ ps → b ∈ qs → Enc a x → Enc b y → cnt < 1048000 → Says (Val.same a b) e (cal P I 15 [x, y] W (child fid cnt) e)) :
    Says (Val.sameL ps qs) e (cal P I 41 [.sl kk z xs, .sl kk' z' ys, .fn 15 [] []] W fid e) := by
  refine cal_wp (Q := Says (Val.sameL ps qs) e) L.i41 L.p41 rfl (by rintro ⟨ks, h⟩; cases h) ?_
  by_cases hl : ps.length = qs.length
  · have hl' : xs.length = ys.length := by omega
    simp [f41, hl']
    simp only [Wp_bind, Wp_leave]
    refine EEnd.use (eq_loop (P := P) (I := I) (kk := kk) (z := z) (xs := xs) (kk' := kk') (z' := z') (ys := ys) (ps := ps) (qs := qs) hW hn hz hz' hxl hyl hl hx hy ih xs.length 0 _ _ _ _ _ (by omega) (by omega) ⟨_, _, _, _, _, _, rfl⟩ ?_ ?_ ?_ ?_ ?_ ?_) ?_
    any_goals (simp [hl']; done)
    · omega
    intro x hx
    simp only [List.drop_zero] at hx
    cases hb : Val.sameL ps qs with
    | true =>
      rw [hb] at hx
      obtain ⟨s', cnt', objs', live', ks, rfl⟩ := hx
      simp [Says, Tm.get_set]
      exact ⟨_, rfl⟩
    | false =>
      rw [hb] at hx
      obtain ⟨s', cnt', objs', live', ks, rfl, h4⟩ := hx
      simp [Says, h4]
      exact ⟨_, rfl⟩
  · have hl2 : ¬ (xs.length : Int) = (ys.length : Int) := by omega
    have hb : Val.sameL ps qs = false := by
      cases h : Val.sameL ps qs with
      | false => rfl
      | true => exact absurd (sameL_get.1 h).1 hl
    simp [f41, hl2, Says, Wp, hb]
    exact ⟨[], rfl⟩

theorem val_same (L : LEq P I) : ∀ (m : Nat) (a b : Val) (x y : AV) (W : List Lo) (fid : Nat) (e : E), a.size ≤ m → a.size < 100000 → b.size < 100000 → Enc a x → Enc b y → WOut W fid → Says (Val.same a b) e (cal P I 15 [x, y] W fid e) := by
  intro m
  induction m with
  | zero => intro a b x y W fid e h; have := size_pos a; omega
  | succ m ihm =>
    intro a b x y W fid e ham ha hb hx hy hW
    cases hx with
    | @mk k c n S ps kk z xs hxl hxe hxz hxS =>
    cases hy with
    | @mk k' c' n' S' qs kk' z' ys hyl hye hyz hyS =>
    simp only [Val.size] at ham ha hb
    have l1 := sizeL_len ps
    have l2 := sizeL_len qs
    refine cal_wp (Q := Says (Val.same (.mk k c n S ps) (.mk k' c' n' S' qs)) e) L.i15 L.p15 rfl (by rintro ⟨ks, h⟩; cases h) ?_
    have w0 := hW.own 0 0
    have w1 := hW.own 1 0
    by_cases hk : k = k'
    · subst hk
      by_cases hc : c = c'
      · subst hc
        by_cases hn : n = n'
        · subst hn
          by_cases hS : S = S'
          · subst hS
            simp [-E.moves, f15, moves5, w0, w1, strEq_iff, room]
            simp only [Wp_bind, Wp_leave, Wp_after]
            have hch : WOut W (child fid 0) := hW.child 0 (by decide)
            refine Says.use (eq_func L (ps := ps) (qs := qs) hch (by omega) (by omega) hxz hyz hxl hyl hxe hye (fun a b x y cnt e ha hb hx hy hcnt => ?_)) ?_
            · have := lenL_bound ha
              have := lenL_bound hb
              exact ihm a b x y W _ e (by omega) (by omega) (by omega) hx hy (hch.child cnt hcnt)
            rintro r ⟨ks, rfl⟩
            rw [killL_psh]
            simp [Says, Val.same]
            exact ⟨_, by rw [killL_app, killL_app]⟩
          · simp [-E.moves, f15, moves5, w0, w1, strEq_iff, Says, Val.same, Wp, hS]
            exact ⟨_, by rw [killL_app]⟩
        · simp [-E.moves, f15, moves5, w0, w1, strEq_iff, Says, Val.same, Wp, hn]
          exact ⟨_, by rw [killL_app]⟩
      · simp [-E.moves, f15, moves5, w0, w1, strEq_iff, Says, Val.same, Wp, hc]
        exact ⟨_, by rw [killL_app]⟩
    · simp [-E.moves, f15, moves5, w0, w1, strEq_iff, Says, Val.same, Wp, hk]
      exact ⟨_, by rw [killL_app]⟩
end Go.Abs.Run

/- The size of a value. -/
set_option linter.unusedSimpArgs false
set_option linter.unusedSectionVars false
set_option linter.unusedVariables false
namespace Go.Abs.Run
open Go Go.Abs
attribute [local simp] oM oN oF oE oQ oP oG oL oR oC oX oS oY vi vj vu vz ci cu eI eS eB
attribute [local simp] s0 t0 s1 t1 s2 t2 s3 t3 s4 t4 s5 t5 s6 t6 s7 t7 s8 t8 s9 t9 s10 t10 s11 t11 s12 t12 s13 t13 s14 t14 s15 t15 s16 t16 s17 t17 s18 t18 s19 t19 s20 t20 s21 t21 s22 t22 s23 t23 s24 t24 s25 t25 s26 t26 s27 t27 s28 t28 s29 t29 s30 t30 s31 t31 s32 t32 s33 t33 s34 t34 s35 t35 s36 t36 s37 t37 s38 t38 s39 t39 s40 t40 s41 t41 s42 t42 s43 t43 s44 t44 s45 t45 s46 t46 s47 t47 s48 t48 s49 t49 s50 t50 s51 t51 s52 t52 s53 t53 s54 t54 s55 t55 s56 t56 s57 t57 s58 t58 s59 t59
variable {P : Nat → Option FI} {I : Nat → Option IntrT}

mutual
/-- How the law counts: up to a limit. -/
def Val.sizeM : Val → Int → Int
  | .mk _ _ _ s ps, m => Val.sizeLM ps (1 + s.length) m
def Val.sizeLM : List Val → Int → Int → Int
  | [], n, _ => n
  | a :: x, n, m => if n < m then Val.sizeLM x (n + Val.sizeM a (m - n)) m else n
end

theorem sizeLM_stop {ps : List Val} {n m : Int} (h : ¬ n < m) : Val.sizeLM ps n m = n := by
  cases ps with
  | nil => rfl
  | cons a x => rw [Val.sizeLM, if_neg h]

mutual
theorem sizeM_eq : ∀ (v : Val) (m : Int), (1 ≤ Val.sizeM v m) ∧ (Val.sizeM v m < m → Val.sizeM v m = (v.size : Int)) ∧ (1 ≤ m → Val.sizeM v m ≥ m → (v.size : Int) ≥ m)
  | .mk k c n s ps, m => by
    have h := sizeLM_eq ps (1 + s.length) m (by omega)
    simp only [Val.sizeM, Val.size]
    refine ⟨by omega, fun h1 => ?_, fun _ h1 => ?_⟩
    · have := h.2.1 h1; omega
    · have := h.2.2 h1; omega
theorem sizeLM_eq : ∀ (ps : List Val) (n m : Int), 1 ≤ n → (n ≤ Val.sizeLM ps n m) ∧ (Val.sizeLM ps n m < m → Val.sizeLM ps n m = n + (Val.sizeL ps : Int)) ∧ (Val.sizeLM ps n m ≥ m → n + (Val.sizeL ps : Int) ≥ m)
  | [], n, m, hn => by simp [Val.sizeLM, Val.sizeL]
  | a :: x, n, m, hn => by
    have ha := sizeM_eq a (m - n)
    have hx := sizeLM_eq x (n + Val.sizeM a (m - n)) m (by omega)
    simp only [Val.sizeLM, Val.sizeL]
    by_cases h : n < m
    · rw [if_pos h]
      refine ⟨by omega, fun h1 => ?_, fun h1 => ?_⟩
      · have h2 := hx.2.1 h1
        have h3 : Val.sizeM a (m - n) < m - n := by omega
        have h4 := ha.2.1 h3
        omega
      · have h2 := hx.2.2 h1
        by_cases h3 : Val.sizeM a (m - n) < m - n
        · have h4 := ha.2.1 h3; omega
        · have h4 := ha.2.2 (by omega) (by omega); omega
    · rw [if_neg h]
      exact ⟨by omega, fun h1 => absurd h1 h, fun _ => by omega⟩
end

/-- All texts are short enough. -/
def Bnd : Int := 140737488355328
theorem sizeM_le : ∀ (N : Nat) (v : Val) (x : AV) (m : Int), v.size ≤ N → Enc v x → 1 ≤ m → Val.sizeM v m ≤ m + Bnd := by
  intro N
  induction N with
  | zero => intro v x m h; have := size_pos v; omega
  | succ N ih =>
    intro v x m hN hx hm
    cases hx with
    | @mk k c n s ps kk z xs hl h hz hS =>
    simp only [Val.size] at hN
    have key : ∀ (qs : List Val) (i : Nat) (n : Int), qs = ps.drop i → n ≤ m + Bnd → Val.sizeLM qs n m ≤ m + Bnd := by
      intro qs
      induction qs with
      | nil => intro i n _ hn; exact hn
      | cons a qs ihq =>
        intro i n hq hn
        simp only [Val.sizeLM]
        split
        · rename_i hlt
          have ha : ps[i]? = some a := by
            have : (ps.drop i)[0]? = some a := by rw [← hq]; rfl
            simpa using this
          have hi := (List.getElem?_eq_some_iff.1 ha).1
          have hxi : xs[i]? = some (xs[i]'(by omega)) := List.getElem?_eq_getElem _
          have := ih a _ (m - n) (by have := sizeL_mem ha; omega) (h i a _ ha hxi) (by omega)
          refine ihq (i + 1) _ ?_ (by omega)
          have : (ps.drop i).tail = qs := by rw [← hq]; rfl
          rw [← this, List.tail_drop]
        · exact hn
    simp only [Val.sizeM]
    refine key ps 0 _ (by simp) ?_
    unfold Bnd; omega

structure LSize (P : Nat → Option FI) (I : Nat → Option IntrT) : Prop where
  p17 : P 17 = some f17
  i17 : I 17 = none


/-- A call says a number; tickets go. -/
def SaysI (n : Int) (e : E) (x : CR) : Prop := ∃ ks, x = .ret (.int .i64 n) (killL ks e)
theorem SaysI.use {Q : CR → Prop} {n : Int} {e : E} {x : CR} (h : SaysI n e x) (k : ∀ x, SaysI n e x → Q x) : WpC Q x := k x h

/-- A round. -/
def ZStep (fid : Nat) (o0 : Nat × Ob × Ob) (e : E) (i cnt : Nat) (n m : Int) (x : R) : Prop :=
  ∃ s' live' ks, x = .go ⟨s', cnt + 1⟩ (psh ⟨fid, [o0], live'⟩ (killL ks e)) ∧ s'.get (.r .e) = .ptr (.lo fid 0 1) 0 ∧ s'.get (.l .e) = .int .i64 m ∧ s'.get (.l (.r .e)) = .int .i64 n ∧ s'.get (.r (.r .e)) = .int .i64 (i + 1 : Nat)

theorem size_step {W : List Lo} {fid : Nat} {e : E} {s : Tm} {cnt i : Nat} {p0 : Ob} {live : List Nat} {k c n0 n m r : Int} {S : List Nat} {kk z : Nat} {xs : List AV} {x : AV}
    (h2 : s.get (.r .e) = .ptr (.lo fid 0 1) 0) (h1 : s.get (.l .e) = .int .i64 m) (h5 : s.get (.l (.r .e)) = .int .i64 n) (h6 : s.get (.r (.r .e)) = .int .i64 i) (hi : i < xs.length) (hi2 : i < 100000) (hn : 1 ≤ n) (hnm : n < m) (hm : m ≤ 9000) (hx : xs[i]? = some x) (hz : z = 5)
    (hxa : ∃ l, x = .agg l ∧ l.length = 5) (hr : cnt < 1048000) (hr1 : 1 ≤ r) (hr2 : r ≤ m - n + Bnd)
    (hs : ∀ e, SaysI r e (cal P I 17 [x, .int .i64 (m - n)] W (child fid cnt) e)) :
    ZStep fid (1, .cells 47 [.int .i64 k, .int .i64 c, .int .i64 n0, .str S, .sl kk z xs], p0) e i cnt (n + r) m
      (runW (cal P I) fid W b17x0 ⟨s, cnt⟩ (psh ⟨fid, [(1, .cells 47 [.int .i64 k, .int .i64 c, .int .i64 n0, .str S, .sl kk z xs], p0)], live⟩ e)) := by
  have hlt : (i : Int) < (xs.length : Int) := by omega
  have hw : IntKind.i64.wrap ((i : Int) + 1) = (i : Int) + 1 := wrap_i64 (by omega) (by omega)
  have hw2 : IntKind.i64.wrap (m - n) = m - n := wrap_i64 (by omega) (by omega)
  have hw3 : IntKind.i64.wrap (n + r) = n + r := wrap_i64 (by omega) (by unfold Bnd at hr2; omega)
  obtain ⟨l, rfl, hl⟩ := hxa
  subst hz
  show Wp (ZStep _ _ _ _ _ _ _) _
  have hl' : l.take 5 = l := List.take_of_length_le (by omega)
  simp [b17x0, Tm.get_set, h2, h1, h5, h6, hlt, hnm, hx, iadA_nat, room, hr, hl, hl', hw2]
  simp only [Wp_bind, Wp_leave, Wp_after]
  refine SaysI.use (hs _) ?_
  rintro r ⟨ks, rfl⟩
  rw [killL_psh]
  simp [ZStep, Tm.get_set, h2, h1, h5, h6, hw, hw3, and_assoc]
  exact ⟨ks, rfl⟩

/-- Where the loop ends. -/
def ZEnd (fid : Nat) (e : E) (n : Int) (x : R) : Prop := ∃ s' cnt' objs' live' ks, x = .exit 0 ⟨s', cnt'⟩ (psh ⟨fid, objs', live'⟩ (killL ks e)) ∧ s'.get (.l (.r .e)) = .int .i64 n
theorem ZEnd.use {Q : R → Prop} {fid : Nat} {e : E} {n : Int} {x : R} (h : ZEnd fid e n x) (k : ∀ x, ZEnd fid e n x → Q x) : Wp Q x := k x h
theorem ZEnd.more {fid : Nat} {e : E} {ks : List Nat} {n : Int} {x : R} (h : ZEnd fid (killL ks e) n x) : ZEnd fid e n x := by
  obtain ⟨s', cnt', objs', live', ks', h1, h2⟩ := h; exact ⟨s', cnt', objs', live', ks ++ ks', by rw [h1, killL_app], h2⟩

theorem size_loop {W : List Lo} {fid : Nat} {p0 : Ob} {k c n0 m : Int} {S : List Nat} {kk z : Nat} {xs : List AV} {ps : List Val} (hm1 : 1 ≤ m) (hm : m ≤ 9000)
    (hz : z = 5 ∨ xs = []) (hxl : xs.length = ps.length)
    (hx : ∀ (i : Nat) (v : Val) (x : AV), ps[i]? = some v → xs[i]? = some x → Enc v x)
    (ih : ∀ (a : Val) (x : AV) (cnt : Nat) (j : Int) (e : E), a ∈ ps → Enc a x → cnt < 1048000 → 1 ≤ j → j ≤ 9000 → SaysI (Val.sizeM a j) e (cal P I 17 [x, .int .i64 j] W (child fid cnt) e)) :
    ∀ (q i : Nat) (s : Tm) (cnt : Nat) (n : Int) (live : List Nat) (e : E), xs.length - i = q → i ≤ xs.length → s.get (.r .e) = .ptr (.lo fid 0 1) 0 → s.get (.l .e) = .int .i64 m → s.get (.l (.r .e)) = .int .i64 n → s.get (.r (.r .e)) = .int .i64 i → cnt ≤ i → (i : Int) + 1 ≤ n →
    ZEnd fid e (Val.sizeLM (ps.drop i) n m)
      (lp (runW (cal P I) fid W b17x0) ⟨s, cnt⟩ (psh ⟨fid, [(1, .cells 47 [.int .i64 k, .int .i64 c, .int .i64 n0, .str S, .sl kk z xs], p0)], live⟩ e)) := by
  intro q
  induction q with
  | zero =>
    intro i s cnt n live e hm hi h2 h1 h5 h6 hc hn
    have hlt : ¬ (i : Int) < (xs.length : Int) := by omega
    have e1 : ps.drop i = [] := List.drop_eq_nil_of_le (by omega)
    rw [e1, lp_eq]
    simp [ZEnd, Val.sizeLM, b17x0, Tm.get_set, h2, h1, h5, h6, hlt, and_assoc]
    exact ⟨[], rfl⟩
  | succ q ihq =>
    intro i s cnt n live e hq hi h2 h1 h5 h6 hc hn
    have hlt : i < xs.length := by omega
    have hlt' : (i : Int) < (xs.length : Int) := by omega
    by_cases hnm : n < m
    · obtain ⟨x, hxi⟩ : ∃ x, xs[i]? = some x := ⟨_, List.getElem?_eq_getElem hlt⟩
      obtain ⟨a, ha⟩ : ∃ a, ps[i]? = some a := ⟨_, List.getElem?_eq_getElem (by omega)⟩
      have hz1 : z = 5 := hz.resolve_right (fun h => by rw [h] at hlt; simp at hlt)
      have hea := hx i a x ha hxi
      have d1 : ps.drop i = a :: ps.drop (i + 1) := by rw [List.drop_eq_getElem_cons (by omega), (List.getElem?_eq_some_iff.1 ha).2]
      have hst := size_step (P := P) (I := I) (p0 := p0) (live := live) (k := k) (c := c) (n0 := n0) (S := S) (kk := kk) (e := e) h2 h1 h5 h6 hlt (by omega) (by omega) hnm hm hxi hz1 hea.agg5 (by omega) (sizeM_eq a (m - n)).1 (sizeM_le _ a x (m - n) (Nat.le_refl _) hea (by omega))
        (fun e => ih a x cnt (m - n) e (List.mem_of_getElem? ha) hea (by omega) (by omega) (by omega))
      obtain ⟨s', live', ks, g1, g2, g3, g4, g5⟩ := hst
      rw [d1, lp_eq, g1]
      simp only [Val.sizeLM, hnm, if_true]
      have hp := (sizeM_eq a (m - n)).1
      exact (ihq (i + 1) s' (cnt + 1) _ live' (killL ks e) (by omega) (by omega) g2 g3 g4 g5 (by omega) (by omega)).more
    · rw [sizeLM_stop hnm, lp_eq]
      simp [ZEnd, b17x0, Tm.get_set, h2, h1, h5, h6, hlt', hnm, and_assoc]
      exact ⟨[], rfl⟩

theorem val_size (L : LSize P I) : ∀ (N : Nat) (a : Val) (x : AV) (m : Int) (W : List Lo) (fid : Nat) (e : E), a.size ≤ N → Enc a x → WOut W fid → 1 ≤ m → m ≤ 9000 → SaysI (Val.sizeM a m) e (cal P I 17 [x, .int .i64 m] W fid e) := by
  intro N
  induction N with
  | zero => intro a x m W fid e h; have := size_pos a; omega
  | succ N ihN =>
    intro a x m W fid e haN hx hW hm1 hm
    cases hx with
    | @mk k c n S ps kk z xs hxl hxe hxz hxS =>
    simp only [Val.size] at haN
    refine cal_wp (Q := SaysI (Val.sizeM (.mk k c n S ps) m) e) L.i17 L.p17 rfl (by rintro ⟨ks, h⟩; cases h) ?_
    have w0 := hW.own 0 0
    have hw : IntKind.i64.wrap (1 + (S.length : Int)) = 1 + (S.length : Int) := wrap_i64 (by omega) (by omega)
    simp [-E.moves, f17, moves5, w0, room, hw]
    simp only [Wp_bind, Wp_leave, Wp_after]
    refine ZEnd.use (size_loop (P := P) (I := I) (ps := ps) (xs := xs) (m := m) hm1 hm hxz hxl hxe (fun a x cnt j e ha hx hcnt hj1 hj => ?_) xs.length 0 _ _ (1 + (S.length : Int)) _ _ (by omega) (by omega) ?_ ?_ ?_ ?_ ?_ ?_) ?_
    · have := lenL_bound ha
      exact ihN a x j W _ e (by omega) hx (hW.child cnt hcnt) hj1 hj
    any_goals (simp; done)
    · omega
    intro x hx
    simp only [List.drop_zero] at hx
    obtain ⟨s', cnt', objs', live', ks, rfl, h5⟩ := hx
    simp [SaysI, Val.sizeM, Tm.get_set, h5]
    exact ⟨_, by rw [killL_app]⟩
end Go.Abs.Run

/- A value in new memory. -/
set_option linter.unusedSimpArgs false
set_option linter.unusedSectionVars false
set_option linter.unusedVariables false
namespace Go.Abs.Run
open Go Go.Abs
attribute [local simp] oM oN oF oE oQ oP oG oL oR oC oX oS oY vi vj vu vz ci cu eI eS eB
attribute [local simp] s0 t0 s1 t1 s2 t2 s3 t3 s4 t4 s5 t5 s6 t6 s7 t7 s8 t8 s9 t9 s10 t10 s11 t11 s12 t12 s13 t13 s14 t14 s15 t15 s16 t16 s17 t17 s18 t18 s19 t19 s20 t20 s21 t21 s22 t22 s23 t23 s24 t24 s25 t25 s26 t26 s27 t27 s28 t28 s29 t29 s30 t30 s31 t31 s32 t32 s33 t33 s34 t34 s35 t35 s36 t36 s37 t37 s38 t38 s39 t39 s40 t40 s41 t41 s42 t42 s43 t43 s44 t44 s45 t45 s46 t46 s47 t47 s48 t48 s49 t49 s50 t50 s51 t51 s52 t52 s53 t53 s54 t54 s55 t55 s56 t56 s57 t57 s58 t58 s59 t59
variable {P : Nat → Option FI} {I : Nat → Option IntrT}

/-- A slice of the frame's own, or none yet. -/
def OwnT (fid k z w : Nat) (b : List AV) (live : List Nat) : Prop := (k = 1 ∧ z = 0 ∧ b = []) ∨ (z = w ∧ k % 2 = 0 ∧ (∃ d, d < cap ∧ k = fresh fid d) ∧ liveIn live k = true)
theorem tick_even (cnt : Nat) : tick false cnt % 2 = 0 := by
  unfold tick
  cases h : Nat.beq (cnt % 2) (cond false 1 0) with
  | true => have := Nat.eq_of_beq_eq_true h; simpa using this
  | false => have := Nat.ne_of_beq_eq_false h; simp at this; show (cnt + 1) % 2 = 0; omega
theorem fresh_even (fid c : Nat) (h : c % 2 = 0) : fresh fid c % 2 = 0 := by simp only [fresh, base]; omega
@[simp] theorem fresh_tickE (fid cnt : Nat) : fresh fid (tick false cnt) % 2 = 0 := fresh_even _ _ (tick_even cnt)
theorem app_any {fid : Nat} {W : List Lo} {a k z w bytes : Nat} {b new : List AV} {d : Option Pth} {s : Tm} {cnt : Nat} {objs : List (Nat × Ob × Ob)} {live : List Nat} {e : E}
    (hk : OwnT fid k z w b live) (hn : new ≠ []) (hb : (b.length + new.length) * bytes < big) (hb' : b.length + new.length < big) (hr : cnt + 1 < 1048000) :
    appE false fid W a 0 w bytes (.sl k z b) d ⟨s, cnt⟩ (psh ⟨fid, objs, live⟩ e) (some (w, new)) =
      .go (Fr.put d ⟨s, tick false cnt + 1⟩ (.sl (fresh fid (tick false cnt)) w (b ++ new))) (psh ⟨fid, objs, fresh fid (tick false cnt) :: dropL (goes k) live⟩ (killL (goes k) e)) := by
  have hne : new.isEmpty = false := by cases new with | nil => exact absurd rfl hn | cons => rfl
  have hr' : tick false cnt < 1048000 := by have := tick_le false cnt; omega
  rcases hk with ⟨rfl, rfl, rfl⟩ | ⟨rfl, h1, ⟨d, _, rfl⟩, h3⟩
  · have hb0 : new.length * bytes < big := by simpa using hb
    have hb1 : new.length < big := by simpa using hb'
    simp [appE, hne, appV, appSl, ticket, ticketC, room, hr', hb0, hb1, goes, dropL, killL]
  · simp [appE, hne, appV, appSl, ticket, ticketC, room, hr', hb, hb', h1, h3, goes, dropL, killL, fresh_ge]

/-- A ticket goes on with the result. -/
noncomputable def upE (k : Nat) (e : E) : E := match e with | ⟨[], glo, gl⟩ => ⟨[], glo, gl⟩ | ⟨g :: rest, glo, gl⟩ => ⟨⟨g.fid, g.objs, k :: g.live⟩ :: rest, glo, gl⟩
@[simp] theorem upE_psh (k : Nat) (g : FS) (e : E) : upE k (psh g e) = psh ⟨g.fid, g.objs, k :: g.live⟩ e := rfl
theorem pop_upK (k : Nat) (f : FS) (e : E) : pop (upK k (psh f e)) = cond (liveIn f.live k) (upE k e) e := upK_psh f e k

/-- A ticket of a frame's family. -/
def Kin (fid k : Nat) : Prop := ∃ y d, Sub fid y ∧ d < cap ∧ k = fresh y d
theorem Kin.up {fid c k : Nat} (hc : c < cap) (h : Kin (child fid c) k) : Kin fid k := by
  obtain ⟨y, d, h1, h2, h3⟩ := h; exact ⟨y, d, (Sub.step .refl hc).trans h1, h2, h3⟩
theorem liveIn_dropK {l : List Nat} {k j : Nat} (h : k ≠ j) : liveIn (dropK l j) k = liveIn l k := by
  induction l with
  | nil => rfl
  | cons a l ih =>
    simp only [dropK, liveIn, beq_dec]
    by_cases h1 : a = j
    · have : ¬ a = k := by omega
      simp [h1, ih, show ¬ j = k by omega]
    · simp only [h1, decide_false, cond_false, liveIn, beq_dec, ih]
theorem liveIn_dropL {ks : List Nat} {k : Nat} (h : k ∉ ks) : ∀ {l : List Nat}, liveIn (dropL ks l) k = liveIn l k := by
  induction ks with
  | nil => intro l; rfl
  | cons a ks ih => intro l; simp only [List.mem_cons, not_or] at h; rw [dropL, ih h.2, liveIn_dropK h.1]

/-- A value without tickets. -/
inductive Enc0 : Val → AV → Prop
  | mk {k c n : Int} {s : List Nat} {ps : List Val} {kk z : Nat} {xs : List AV} (hl : xs.length = ps.length) (h : ∀ (i : Nat) (v : Val) (x : AV), ps[i]? = some v → xs[i]? = some x → Enc0 v x) (hz : z = 5 ∨ xs = []) (hS : s.length ≤ 140737488355328) (hk : kk < 2) :
      Enc0 (.mk k c n s ps) (.agg [.int .i64 k, .int .i64 c, .int .i64 n, .str s, .sl kk z xs])
theorem Enc0.enc {v : Val} {x : AV} (h : Enc0 v x) : Enc v x := by
  induction h with
  | mk hl h hz hS hk ih => exact .mk hl ih hz hS

structure LOwn (P : Nat → Option FI) (I : Nat → Option IntrT) : Prop where
  p19 : P 19 = some f19
  i19 : I 19 = none


/-- What Own gives. -/
def Owned (fid : Nat) (v : Val) (e : E) (x : CR) : Prop := ∃ x' b k' ks, x = .ret x' (cond b (upE k' (killL ks e)) (killL ks e)) ∧ Enc v x' ∧ ∀ k ∈ ks, Kin fid k
theorem Owned.use {Q : CR → Prop} {fid : Nat} {v : Val} {e : E} {x : CR} (h : Owned fid v e x) (k : ∀ x, Owned fid v e x → Q x) : WpC Q x := k x h

theorem Enc.form5 {v : Val} {x : AV} (h : Enc v x) : ∃ k c n s kk z xs, x = .agg [.int .i64 k, .int .i64 c, .int .i64 n, .str s, .sl kk z xs] := by
  cases h; exact ⟨_, _, _, _, _, _, _, rfl⟩

/-- A round. -/
def OStep (fid : Nat) (o0 o1 : Nat × Ob × Ob) (k c n : Int) (S : List Nat) (ps : List Val) (e : E) (i cnt : Nat) (x : R) : Prop :=
  ∃ s' cnt' live' kk' z' xs' p2 ks, x = .go ⟨s', cnt'⟩ (psh ⟨fid, [o0, o1, (1, .cells 47 [.int .i64 k, .int .i64 c, .int .i64 n, .str S, .sl kk' z' xs'], p2)], live'⟩ (killL ks e)) ∧ cnt' ≤ cnt + 4 ∧
    s'.get (.l .e) = .ptr (.lo fid 0 1) 0 ∧ s'.get (.r .e) = .ptr (.lo fid 1 1) 0 ∧ s'.get (.l (.l .e)) = .ptr (.lo fid 2 1) 0 ∧ s'.get (.r (.l .e)) = .int .i64 (i + 1 : Nat) ∧ OwnT fid kk' z' 5 xs' live' ∧ xs'.length = i + 1 ∧
    (∀ (j : Nat) (v : Val) (x : AV), ps[j]? = some v → xs'[j]? = some x → Enc v x) ∧ ∀ k ∈ ks, Kin fid k

theorem own_step {W : List Lo} {fid : Nat} {e : E} {s : Tm} {cnt i : Nat} {o1 : Nat × Ob × Ob} {p0 p2 : Ob} {live : List Nat} {k c n k0 c0 n0 : Int} {S S0 : List Nat} {kk z k1 z1 : Nat} {xs zs : List AV} {x : AV} {v : Val} {ps : List Val} (hW : WOut W fid)
    (h1 : s.get (.l .e) = .ptr (.lo fid 0 1) 0) (h2 : s.get (.r .e) = .ptr (.lo fid 1 1) 0) (h3 : s.get (.l (.l .e)) = .ptr (.lo fid 2 1) 0) (h4 : s.get (.r (.l .e)) = .int .i64 i) (ho : OwnT fid kk z 5 xs live) (hl : xs.length = i)
    (hx : ∀ (j : Nat) (v : Val) (x : AV), ps[j]? = some v → xs[j]? = some x → Enc v x) (hi : i < zs.length) (hi2 : i < 100000) (hv : ps[i]? = some v) (hzi : zs[i]? = some x) (hz1 : z1 = 5) (hxa : ∃ l, x = .agg l ∧ l.length = 5) (hr : cnt + 4 < 1048000)
    (hs : ∀ (W : List Lo) e, WOut W (child fid cnt) → Owned (child fid cnt) v e (cal P I 19 [x] W (child fid cnt) e)) :
    OStep fid (1, .cells 47 [.int .i64 k0, .int .i64 c0, .int .i64 n0, .str S0, .sl k1 z1 zs], p0) o1 k c n S ps e i cnt
      (runW (cal P I) fid W b19x0 ⟨s, cnt⟩ (psh ⟨fid, [(1, .cells 47 [.int .i64 k0, .int .i64 c0, .int .i64 n0, .str S0, .sl k1 z1 zs], p0), o1, (1, .cells 47 [.int .i64 k, .int .i64 c, .int .i64 n, .str S, .sl kk z xs], p2)], live⟩ e)) := by
  have hlt : (i : Int) < (zs.length : Int) := by omega
  have hw : IntKind.i64.wrap ((i : Int) + 1) = (i : Int) + 1 := wrap_i64 (by omega) (by omega)
  have hc : cnt < 1048000 := by omega
  have hcap : cnt < cap := by unfold cap; omega
  have w2 := hW.own 2 1
  obtain ⟨l, rfl, hl5⟩ := hxa
  have hl' : l.take 5 = l := List.take_of_length_le (by omega)
  subst hz1
  show Wp (OStep _ _ _ _ _ _ _ _ _ _ _) _
  simp [b19x0, Tm.get_set, h1, h2, h3, h4, hlt, hzi, iadA_nat, room, hc, hl5, hl', locOf]
  simp only [Wp_bind, Wp_leave, Wp_after, Wp_chk]
  refine Owned.use (hs _ _ ?_) ?_
  · intro y hy a j
    have : ¬ y = fid := by rintro rfl; exact Sub.child_not hy
    have hw' := hW y ((Sub.step .refl hcap).trans hy) a j
    have h9 : ¬ fid = y := fun h => this h.symm
    simp [free_cons, hw', h9]
  rintro r ⟨x', b, k', ks, rfl, hxe, hks⟩
  obtain ⟨k2, c2, n2, s2', kk2, z2, xs2, rfl⟩ := hxe.form5
  rw [killL_psh]
  have hL : ∃ L, cond b (upE k' (psh ⟨fid, [(1, .cells 47 [.int .i64 k0, .int .i64 c0, .int .i64 n0, .str S0, .sl k1 5 zs], p0), o1, (1, .cells 47 [.int .i64 k, .int .i64 c, .int .i64 n, .str S, .sl kk z xs], p2)], dropL ks live⟩ (killL ks e)))
      (psh ⟨fid, [(1, .cells 47 [.int .i64 k0, .int .i64 c0, .int .i64 n0, .str S0, .sl k1 5 zs], p0), o1, (1, .cells 47 [.int .i64 k, .int .i64 c, .int .i64 n, .str S, .sl kk z xs], p2)], dropL ks live⟩ (killL ks e)) =
      psh ⟨fid, [(1, .cells 47 [.int .i64 k0, .int .i64 c0, .int .i64 n0, .str S0, .sl k1 5 zs], p0), o1, (1, .cells 47 [.int .i64 k, .int .i64 c, .int .i64 n, .str S, .sl kk z xs], p2)], L⟩ (killL ks e) ∧ OwnT fid kk z 5 xs L := by
    have hno : ∀ d, d < cap → fresh fid d ∉ ks := fun d hd hm => by
      obtain ⟨y, d', h5, h6, h7⟩ := hks _ hm
      have := (fresh_inj hd h6 h7).1
      subst this
      exact Sub.child_not h5
    have ho' : OwnT fid kk z 5 xs (dropL ks live) := by
      rcases ho with h | ⟨h5, h6, ⟨d, hd, rfl⟩, h8⟩
      · exact .inl h
      · exact .inr ⟨h5, h6, ⟨d, hd, rfl⟩, by rw [liveIn_dropL (hno d hd)]; exact h8⟩
    cases b with
    | false => exact ⟨_, rfl, ho'⟩
    | true =>
      refine ⟨k' :: dropL ks live, rfl, ?_⟩
      rcases ho' with h | ⟨h5, h6, ⟨d, hd, rfl⟩, h8⟩
      · exact .inl h
      · exact .inr ⟨h5, h6, ⟨d, hd, rfl⟩, by simp only [liveIn, h8]; cases Nat.beq k' (fresh fid d) <;> rfl⟩
  obtain ⟨L, hL1, hL2⟩ := hL
  rw [hL1]
  have hlen : (xs.length + 1) * 64 < big := by unfold big; omega
  have hlen2 : xs.length + 1 < big := by unfold big; omega
  have htk : tick false (cnt + 1) ≤ cnt + 2 := by have := tick_le false (cnt + 1); omega
  have happ := fun d s => app_any (W := W) (a := 3) (d := d) (s := s) (cnt := cnt + 1) (objs := [(1, .cells 47 [.int .i64 k0, .int .i64 c0, .int .i64 n0, .str S0, .sl k1 5 zs], p0), o1, (1, .cells 47 [.int .i64 k, .int .i64 c, .int .i64 n, .str S, .sl kk z xs], p2)]) (e := killL ks e) (bytes := 64) (new := [.agg [.int .i64 k2, .int .i64 c2, .int .i64 n2, .str s2', .sl kk2 z2 xs2]]) hL2 (by simp) (by simpa using hlen) (by simpa using hlen2) (by omega)
  simp [Tm.get_set, h1, h2, h3, h4, elems, elemsL, is8, happ, fresh_ge, w2, hw, OStep, and_assoc, hl]
  have hkf : Kin fid (fresh fid (tick false (cnt + 1))) := ⟨fid, _, .refl, by unfold cap; omega, rfl⟩
  refine ⟨ks ++ (goes kk ++ [fresh fid (tick false (cnt + 1))]), by rw [kill_killL, killL_app], by omega, .inr ⟨rfl, fresh_tickE _ _, ⟨_, by unfold cap; omega, rfl⟩, by simp [liveIn]⟩, fun j v' x' hv' hx' => ?_, fun k hk => ?_⟩
  · by_cases hj : j < xs.length
    · rw [List.getElem?_append_left hj] at hx'
      exact hx j v' x' hv' hx'
    · rw [List.getElem?_append_right (by omega)] at hx'
      have : j = i := by
        have := (List.getElem?_eq_some_iff.1 hx').1
        simp at this; omega
      subst this
      rw [hl, Nat.sub_self] at hx'
      cases hx'
      rw [hv] at hv'
      cases hv'
      exact hxe
  · simp only [List.mem_append, List.mem_singleton] at hk
    rcases hk with hk | hk | hk
    · exact (hks k hk).up hcap
    · unfold goes at hk
      split at hk
      · cases hk
      · simp only [List.mem_singleton] at hk
        subst hk
        rcases hL2 with h | ⟨_, _, ⟨d, hd, rfl⟩, _⟩
        · exact absurd h.1 (by assumption)
        · exact ⟨fid, d, .refl, hd, rfl⟩
    · subst hk; exact hkf

/-- Where the loop ends. -/
def OEnd (fid : Nat) (k c n : Int) (S : List Nat) (ps : List Val) (e : E) (x : R) : Prop :=
  ∃ s' cnt' o0 o1 live' kk' z' xs' p2 ks, x = .exit 0 ⟨s', cnt'⟩ (psh ⟨fid, [o0, (1, o1), (1, .cells 47 [.int .i64 k, .int .i64 c, .int .i64 n, .str S, .sl kk' z' xs'], p2)], live'⟩ (killL ks e)) ∧
    s'.get (.r .e) = .ptr (.lo fid 1 1) 0 ∧ s'.get (.l (.l .e)) = .ptr (.lo fid 2 1) 0 ∧ (∃ t q z, o1 = (.cells t [.int .i64 0, .int .i64 0, .int .i64 0, .str [], .sl 1 z q], .none)) ∧ OwnT fid kk' z' 5 xs' live' ∧ xs'.length = ps.length ∧
    (∀ (j : Nat) (v : Val) (x : AV), ps[j]? = some v → xs'[j]? = some x → Enc v x) ∧ ∀ k ∈ ks, Kin fid k
theorem OEnd.use {Q : R → Prop} {fid : Nat} {k c n : Int} {S : List Nat} {ps : List Val} {e : E} {x : R} (h : OEnd fid k c n S ps e x) (q : ∀ x, OEnd fid k c n S ps e x → Q x) : Wp Q x := q x h
theorem OEnd.more {fid : Nat} {k c n : Int} {S : List Nat} {ps : List Val} {e : E} {ks : List Nat} {x : R} (hk : ∀ k ∈ ks, Kin fid k) (h : OEnd fid k c n S ps (killL ks e) x) : OEnd fid k c n S ps e x := by
  obtain ⟨s', cnt', o0, o1, live', kk', z', xs', p2, ks', h1, h2, h3, h4, h5, h6, h7, h8⟩ := h
  refine ⟨s', cnt', o0, o1, live', kk', z', xs', p2, ks ++ ks', by rw [h1, killL_app], h2, h3, h4, h5, h6, h7, fun k hm => ?_⟩
  rcases List.mem_append.1 hm with hm | hm
  · exact hk k hm
  · exact h8 k hm

theorem Enc0.agg5 {v : Val} {x : AV} (h : Enc0 v x) : ∃ l, x = .agg l ∧ l.length = 5 := by
  cases h; exact ⟨_, rfl, rfl⟩

theorem own_loop {W : List Lo} {fid : Nat} {p0 : Ob} {k c n k0 c0 n0 : Int} {S S0 : List Nat} {k1 z1 : Nat} {zs : List AV} {ps : List Val} (hW : WOut W fid) (hn : zs.length < 100000)
    (hz : z1 = 5 ∨ zs = []) (hxl : zs.length = ps.length)
    (hzx : ∀ (i : Nat) (v : Val) (x : AV), ps[i]? = some v → zs[i]? = some x → Enc0 v x)
    (ih : ∀ (a : Val) (x : AV) (cnt : Nat) (W : List Lo) (e : E), a ∈ ps → Enc0 a x → cnt < 1048000 → WOut W (child fid cnt) → Owned (child fid cnt) a e (cal P I 19 [x] W (child fid cnt) e)) :
    ∀ (q i : Nat) (s : Tm) (cnt : Nat) (p2 : Ob) (kk z : Nat) (xs : List AV) (live : List Nat) (e : E), zs.length - i = q → i ≤ zs.length → s.get (.l .e) = .ptr (.lo fid 0 1) 0 → s.get (.r .e) = .ptr (.lo fid 1 1) 0 → s.get (.l (.l .e)) = .ptr (.lo fid 2 1) 0 → s.get (.r (.l .e)) = .int .i64 i → cnt ≤ 4 * i → OwnT fid kk z 5 xs live → xs.length = i →
    (∀ (j : Nat) (v : Val) (x : AV), ps[j]? = some v → xs[j]? = some x → Enc v x) →
    OEnd fid k c n S ps e
      (lp (runW (cal P I) fid W b19x0) ⟨s, cnt⟩ (psh ⟨fid, [(1, .cells 47 [.int .i64 k0, .int .i64 c0, .int .i64 n0, .str S0, .sl k1 z1 zs], p0), (1, .cells 47 [.int .i64 0, .int .i64 0, .int .i64 0, .str [], .sl 1 0 []], .none), (1, .cells 47 [.int .i64 k, .int .i64 c, .int .i64 n, .str S, .sl kk z xs], p2)], live⟩ e)) := by
  intro q
  induction q with
  | zero =>
    intro i s cnt p2 kk z xs live e hm hi h1 h2 h3 h4 hc ho hl hx
    have hlt : ¬ (i : Int) < (zs.length : Int) := by omega
    rw [lp_eq]
    simp [OEnd, b19x0, Tm.get_set, h1, h2, h3, h4, hlt, and_assoc]
    exact ⟨[], rfl, ho, by omega, hx, by simp⟩
  | succ q ihq =>
    intro i s cnt p2 kk z xs live e hq hi h1 h2 h3 h4 hc ho hl hx
    have hlt : i < zs.length := by omega
    obtain ⟨x, hxi⟩ : ∃ x, zs[i]? = some x := ⟨_, List.getElem?_eq_getElem hlt⟩
    obtain ⟨a, ha⟩ : ∃ a, ps[i]? = some a := ⟨_, List.getElem?_eq_getElem (by omega)⟩
    have hz1 : z1 = 5 := hz.resolve_right (fun h => by rw [h] at hlt; simp at hlt)
    have hea := hzx i a x ha hxi
    have hst := own_step (P := P) (I := I) (p0 := p0) (o1 := (1, .cells 47 [.int .i64 0, .int .i64 0, .int .i64 0, .str [], .sl 1 0 []], .none)) (p2 := p2) (k := k) (c := c) (n := n) (S := S) (k0 := k0) (c0 := c0) (n0 := n0) (S0 := S0) (k1 := k1) (e := e) hW h1 h2 h3 h4 ho hl hx hlt (by omega) ha hxi hz1 hea.agg5 (by omega)
      (fun W e hW' => ih a x cnt W e (List.mem_of_getElem? ha) hea (by omega) hW')
    obtain ⟨s', cnt', live', kk', z', xs', p2', ks, g1, g2, g3, g4, g5, g6, g7, g8, g9, g10⟩ := hst
    rw [lp_eq, g1]
    exact (ihq (i + 1) s' cnt' p2' kk' z' xs' live' (killL ks e) (by omega) (by omega) g3 g4 g5 g6 (by omega) g7 g8 g9).more g10

theorem val_own (L : LOwn P I) : ∀ (N : Nat) (a : Val) (x : AV) (W : List Lo) (fid : Nat) (e : E), a.size ≤ N → a.size < 100000 → Enc0 a x → WOut W fid → Owned fid a e (cal P I 19 [x] W fid e) := by
  intro N
  induction N with
  | zero => intro a x W fid e h; have := size_pos a; omega
  | succ N ihN =>
    intro a x W fid e haN ha hx hW
    cases hx with
    | @mk k c n S ps kk z xs hxl hxe hxz hxS hkk =>
    simp only [Val.size] at haN ha
    have l1 := sizeL_len ps
    refine cal_wp (Q := Owned fid (.mk k c n S ps) e) L.i19 L.p19 rfl (by rintro ⟨_, _, _, _, h, _⟩; cases h) ?_
    have w0 := hW.own 0 0
    have w1 := hW.own 1 0
    have w2 := hW.own 2 0
    have w2' := hW.own 2 1
    have w1' := hW.own 1 1
    have hk2 : ¬ 2 ≤ kk := by omega
    simp [f19, w0, w1, w2, w2', w1', room, hk2]
    simp only [Wp_bind, Wp_leave, Wp_after]
    refine OEnd.use (own_loop (P := P) (I := I) (ps := ps) (zs := xs) (k := k) (c := c) (n := n) (S := S) hW (by omega) hxz hxl hxe (fun a x cnt W e ha hx hcnt hW' => ?_) xs.length 0 _ _ _ _ _ _ _ _ (by omega) (by omega) ?_ ?_ ?_ ?_ ?_ (.inl ⟨rfl, rfl, rfl⟩) rfl (by simp)) ?_
    · have := lenL_bound ha
      exact ihN a x W _ e (by omega) (by omega) hx hW'
    any_goals (simp; done)
    intro x hx
    obtain ⟨s', cnt', o0, o1, live', kk', z', xs', p2, ks, rfl, h2, h3, ⟨t, q, z, rfl⟩, h5, h6, h7, h8⟩ := hx
    have he : Enc (.mk k c n S ps) (.agg [.int .i64 k, .int .i64 c, .int .i64 n, .str S, .sl kk' z' xs']) := by
      refine .mk h6 h7 ?_ hxS
      rcases h5 with h | h
      · exact .inr h.2.2
      · exact .inl h.1
    rcases h5 with ⟨rfl, rfl, rfl⟩ | ⟨rfl, h51, ⟨d, hd, rfl⟩, h53⟩
    · simp [Owned, Tm.get_set, h2, h3, w1']
      exact ⟨_, .inl ⟨ks, ⟨rfl, rfl⟩, he, h8⟩⟩
    · simp [Owned, Tm.get_set, h2, h3, w1', fresh_ge, h53, pop_upK]
      refine ⟨_, .inr ⟨fresh fid d, ks ++ [fresh fid d], ⟨rfl, by rw [kill_killL]⟩, he, fun k hk => ?_⟩⟩
      rcases List.mem_append.1 hk with hk | hk
      · exact h8 k hk
      · simp only [List.mem_singleton] at hk; subst hk; exact ⟨fid, d, .refl, hd, rfl⟩
end Go.Abs.Run

/- The law ValueSame. -/
set_option linter.unusedSimpArgs false
set_option linter.unusedSectionVars false
set_option linter.unusedVariables false
namespace Go.Abs.Run
open Go Go.Abs
attribute [local simp] oM oN oF oE oQ oP oG oL oR oC oX oS oY vi vj vu vz ci cu eI eS eB
attribute [local simp] s0 t0 s1 t1 s2 t2 s3 t3 s4 t4 s5 t5 s6 t6 s7 t7 s8 t8 s9 t9 s10 t10 s11 t11 s12 t12 s13 t13 s14 t14 s15 t15 s16 t16 s17 t17 s18 t18 s19 t19 s20 t20 s21 t21 s22 t22 s23 t23 s24 t24 s25 t25 s26 t26 s27 t27 s28 t28 s29 t29 s30 t30 s31 t31 s32 t32 s33 t33 s34 t34 s35 t35 s36 t36 s37 t37 s38 t38 s39 t39 s40 t40 s41 t41 s42 t42 s43 t43 s44 t44 s45 t45 s46 t46 s47 t47 s48 t48 s49 t49 s50 t50 s51 t51 s52 t52 s53 t53 s54 t54 s55 t55 s56 t56 s57 t57 s58 t58 s59 t59
variable {P : Nat → Option FI} {I : Nat → Option IntrT}

mutual
theorem same_symm : ∀ (a b : Val), Val.same a b = Val.same b a
  | .mk k c n s ps, .mk k' c' n' s' qs => by
    have h := sameL_symm ps qs
    simp only [Val.same, h, @eq_comm _ k, @eq_comm _ c, @eq_comm _ n, @eq_comm _ s]
theorem sameL_symm : ∀ (a b : List Val), Val.sameL a b = Val.sameL b a
  | [], [] => rfl
  | [], _ :: _ => rfl
  | _ :: _, [] => rfl
  | a :: x, b :: y => by simp only [Val.sameL, same_symm a b, sameL_symm x y]
end
mutual
theorem same_refl : ∀ (a : Val), Val.same a a = true
  | .mk k c n s ps => by simp [Val.same, sameL_refl ps]
theorem sameL_refl : ∀ (a : List Val), Val.sameL a a = true
  | [] => rfl
  | a :: x => by simp [Val.sameL, same_refl a, sameL_refl x]
end

structure LVSame (P : Nat → Option FI) (I : Nat → Option IntrT) : Prop where
  p4 : P 4 = some f4
  i4 : I 4 = none

  runs : ∀ W fid e, cal P I 3 [] W fid e = .ret (.bool true) e

/-- It says true. -/
def True1 (x : CR) : Prop := ∃ e, x = .ret (.bool true) e

theorem WOut.watch (fid c : Nat) (ls : List Lo) (h : ∀ l ∈ ls, ∃ a i, l = .lo fid a i) : WOut ls (Abs.child fid c) := by
  intro y hy a i
  rw [free_mem]
  intro hm
  obtain ⟨a', i', h'⟩ := h _ hm
  cases h'
  exact Sub.child_not hy

theorem valueSame_true (L : LVSame P I) (L1 : LSame P I) (L2 : LEq P I) (L3 : LSize P I) (L4 : LOwn P I) {va vb : Val} {x y : AV} (hx : Enc0 va x) (hy : Enc0 vb y) (fid : Nat) (e : E) : True1 (cal P I 4 [x, y] [] fid e) := by
  refine cal_wp L.i4 L.p4 rfl (by rintro ⟨_, h⟩; cases h) ?_
  have hx' := hx.enc
  have hy' := hy.enc
  obtain ⟨k, c, n, S, kk, z, xs, rfl⟩ := hx'.form
  obtain ⟨k', c', n', S', kk', z', ys, rfl⟩ := hy'.form
  have hk : ¬ 2 ≤ kk := by cases hx; omega
  have hk' : ¬ 2 ≤ kk' := by cases hy; omega
  have sz := fun c e => val_size L3 _ va _ 9000 [] (child fid c) e (Nat.le_refl _) hx' (.nil _) (by omega) (by omega)
  have sz' := fun c e => val_size L3 _ vb _ 9000 [] (child fid c) e (Nat.le_refl _) hy' (.nil _) (by omega) (by omega)
  have pa := sizeM_eq va 9000
  have pb := sizeM_eq vb 9000
  simp [f4, room, hk, hk', locOf]
  simp only [Wp_bind, Wp_leave, Wp_after]
  refine SaysI.use (sz _ _) ?_
  rintro r ⟨ks, rfl⟩
  rw [killL_psh]
  by_cases ha : 9000 ≤ Val.sizeM va 9000
  · simp [Tm.get_set, ha, room, L.runs, True1]
  · simp [Tm.get_set, ha, room]
    change Wp (fun r => True1 (bodyR _ fid r)) _
    simp only [Wp_bind, Wp_leave, Wp_after]
    refine SaysI.use (sz' _ _) ?_
    rintro r ⟨ks, rfl⟩
    rw [killL_psh]
    by_cases hb : 9000 ≤ Val.sizeM vb 9000
    · simp [Tm.get_set, hb, room, L.runs, True1]
    · have va9 : va.size < 9000 := by omega
      have vb9 : vb.size < 9000 := by omega
      have w1 : ∀ c, WOut [.lo fid 0 1, .lo fid 1 1] (child fid c) := fun c => WOut.watch fid c _ (by simp)
      have w1' : ∀ c, WOut [.lo fid 1 1, .lo fid 0 1] (child fid c) := fun c => WOut.watch fid c _ (by simp)
      have w2 : ∀ c, WOut [.lo fid 0 1] (child fid c) := fun c => WOut.watch fid c _ (by simp)
      have a1 := fun c e => val_same L2 _ va vb _ _ _ (child fid c) e (Nat.le_refl _) (by omega) (by omega) hx' hy' (w1' c)
      have a2 := fun c e => ref_same L1 _ va vb _ _ [] (child fid c) e (Nat.le_refl _) (by omega) (by omega) hx' hy' (.nil _)
      have a3 := fun c e => val_same L2 _ vb va _ _ _ (child fid c) e (Nat.le_refl _) (by omega) (by omega) hy' hx' (w1' c)
      have a4 := fun c e => val_same L2 _ va vb _ _ [] (child fid c) e (Nat.le_refl _) (by omega) (by omega) hx' hy' (.nil _)
      have a5 := fun c e => val_own L4 _ va _ _ (child fid c) e (Nat.le_refl _) (by omega) hx (w2 c)
      simp [Tm.get_set, hb, room, locOf]
      change Wp (fun r => True1 (bodyR _ fid r)) _
      simp only [Wp_bind, Wp_leave, Wp_after, Wp_chk]
      refine Says.use (a1 _ _) ?_
      rintro r ⟨ks, rfl⟩
      rw [killL_psh]
      simp [Tm.get_set, room, locOf]
      change Wp (fun r => True1 (bodyR _ fid r)) _
      simp only [Wp_bind, Wp_leave, Wp_after, Wp_chk]
      refine Says.use (a2 _ _) ?_
      rintro r ⟨ks, rfl⟩
      rw [killL_psh]
      simp [Tm.get_set, room, locOf]
      change Wp (fun r => True1 (bodyR _ fid r)) _
      simp only [Wp_bind, Wp_leave, Wp_after, Wp_chk]
      refine Says.use (a3 _ _) ?_
      rintro r ⟨ks, rfl⟩
      rw [killL_psh]
      simp [Tm.get_set, room, locOf]
      change Wp (fun r => True1 (bodyR _ fid r)) _
      simp only [Wp_bind, Wp_leave, Wp_after, Wp_chk]
      refine Says.use (a4 _ _) ?_
      rintro r ⟨ks, rfl⟩
      rw [killL_psh]
      simp [Tm.get_set, room, locOf, same_symm vb va]
      change Wp (fun r => True1 (bodyR _ fid r)) _
      simp only [Wp_bind, Wp_leave, Wp_after, Wp_chk]
      refine Owned.use (a5 _ _) ?_
      rintro r ⟨x', b, k', ks, rfl, hxe, hks⟩
      rw [killL_psh]
      have a6 := fun c e => val_same L2 _ va va _ _ [] (child fid c) e (Nat.le_refl _) (by omega) (by omega) hx' hxe (.nil _)
      cases b
      · simp [Tm.get_set, room, locOf]
        change Wp (fun r => True1 (bodyR _ fid r)) _
        simp only [Wp_bind, Wp_leave, Wp_after, Wp_chk]
        refine Says.use (a6 _ _) ?_
        rintro r ⟨ks, rfl⟩
        rw [killL_psh]
        simp [Tm.get_set, room, locOf, same_refl, L.runs, True1]
      · simp [Tm.get_set, room, locOf]
        change Wp (fun r => True1 (bodyR _ fid r)) _
        simp only [Wp_bind, Wp_leave, Wp_after, Wp_chk]
        refine Says.use (a6 _ _) ?_
        rintro r ⟨ks, rfl⟩
        rw [killL_psh]
        simp [Tm.get_set, room, locOf, same_refl, L.runs, True1]
end Go.Abs.Run

