/- On the way to: InterpLoops returns true; its listed variables read as the text lays them. -/
import Derived.Test.YthncagamgiogjaaGreatDoorA4
import Derived.Laws.Cover3
import Derived.Laws.Pointers
import Derived.Laws.Tables
set_option autoImplicit false
set_option linter.unusedSectionVars false
set_option linter.unusedSimpArgs false
set_option linter.unusedVariables false
namespace Go.Abs
open Go Go.RowKit
variable [Glob]
def Get1 (P:Program) (κ:K) (e:E) (B:Nat) (w₀ w:World) (s:Sem Next) (v:AV):Prop :=
 ∃ val w' κ',s.run P w=.ok (.value val) w'∧VR κ' v val∧κ.le κ'∧Same κ κ'∧St κ' e B w₀ w'
section
variable {P:Program} {κ:K} {e:E} {B:Nat} {w₀ w:World}
theorem Get1.of {s:Sem Next} {v:AV} {val:Value} (hst:St κ e B w₀ w) (hr:s.run P w=.ok (.value val) w) (hv:VR κ v val):Get1 P κ e B w₀ w s v :=
 ⟨val,w,κ,hr,hv,.refl κ,.refl κ,hst⟩
theorem VR.bool_inv {b:Bool} {x:Value} (h:VR κ (.bool b) x):x=.bool b:=by cases h; rfl
theorem VR.int_inv {k:IntKind} {n:Int} {x:Value} (h:VR κ (.int k n) x):x=.int k n:=by cases h; rfl
theorem zme {a v:AV} {x y:AX} {s:Tm} {c xv yv:Value} (hc:VR κ a c) (hx:VR κ (x.ev s) xv) (hy:VR κ (y.ev s) yv) (h:zi6 a x y s=some v) (w:World) :
  ∃ u,((do pure (Next.value (if ← asBool c then xv else yv)):Sem Next)).run P w=.ok (.value u) w∧VR κ v u:=by
 unfold zi6 at h
 split at h
 ·rename_i t
  have:=hc.bool_inv
  subst this
  cases t<;>simp at h<;>subst h<;>simp[asBool,hx,hy]
 ·cases h
theorem z1f (b o n:Nat):(⟨b,o,none⟩:Addr).add n=⟨b,o+n,none⟩:=by
 unfold Addr.add; split
 ·rename_i h; simp[h]
 ·rfl
inductive PtrR (κ:K):AV→Nat→Nat→Prop
 | ptr {l:Lo} {off b:Nat} (h:κ.ob l=some b):PtrR κ (.ptr l off) b off
 | vp {cs:List AV} {off b o:Nat} (g:Nat→Value) (hf:∀ (j:Nat) (c:AV),cs[j]?=some c→κ.fz b (o+j)=some (g j))
   (hg:∀ (j:Nat) (c:AV),cs[j]?=some c→VR κ c (g j)) (h1:∀ j,(g j).oneCell'=true):PtrR κ (.vp cs off) b (o+off)
 | ep {l:Lo} {size idx off b z c:Nat} (h:κ.vb l size=some (b,z,c)):PtrR κ (.ep l size idx off) b (idx * z+off)
theorem PtrR.vr {a:AV} {b o:Nat} (h:PtrR κ a b o):VR κ a (.pointer (some ⟨b,o,none⟩)):=by
 cases h with
 | ptr h=>exact .ptr h
 | vp g hf hg h1=>exact .vp g hf hg h1
 | ep h=>exact .ep h
theorem zmf {a v:AV} {x:Value} (hx:VR κ a x) (h:zll a=some v):v=a∧∃ b o,x=.pointer (some ⟨b,o,none⟩)∧PtrR κ a b o:=by
 unfold zll at h
 split at h
 ·cases h; cases hx with | ptr h=>exact⟨rfl,_,_,rfl,.ptr h⟩
 ·cases h; cases hx with | vp g hf hg h1=>exact⟨rfl,_,_,rfl,.vp g hf hg h1⟩
 ·cases h; cases hx with | ep h=>exact⟨rfl,_,_,rfl,.ep h⟩
 ·cases h
theorem fad_sim {a v:AV} {n:Nat} {x:Value} (hx:VR κ a x) (h:fadA n a=some v):∃ b o,x=.pointer (some ⟨b,o,none⟩)∧VR κ v (.pointer (some ⟨b,o+n,none⟩)):=by
 unfold fadA at h
 split at h
 ·cases h; cases hx with | ptr h=>exact⟨_,_,rfl,.ptr h⟩
 ·cases h; cases hx with | vp g hf hg h1=>exact⟨_,_,rfl,by rw[Nat.add_assoc]; exact .vp g hf hg h1⟩
 ·cases h; cases hx with | ep h=>exact⟨_,_,rfl,by rw[Nat.add_assoc]; exact .ep h⟩
 ·cases h
theorem zmg {a v:AV} {n:Nat} {x:Value} (hx:VR κ a x) (h:iaaN n a=some v):∃ b o,x=.pointer (some ⟨b,o,none⟩)∧VR κ v (.pointer (some ⟨b,o+n,none⟩)):=by
 unfold iaaN at h
 split at h
 ·cases h; cases hx with | ptr h=>exact⟨_,_,rfl,.ptr h⟩
 ·cases h; cases hx with | vp g hf hg h1=>exact⟨_,_,rfl,by rw[Nat.add_assoc]; exact .vp g hf hg h1⟩
 ·cases h; cases hx with | ep h=>exact⟨_,_,rfl,by rw[Nat.add_assoc]; exact .ep h⟩
 ·cases h
theorem zir {ag:Bool} {cs:List AV} {us:List Value} {off n:Nat} {v:AV} (hcs:VRs κ cs us) (h:cutA ag cs off n=some v) :
  if ag then off+n≤us.length∧VR κ v (.agg ((us.drop off).take n).toArray) else ∃ u,us[off]?=some u∧VR κ v u:=by
 obtain⟨h1,h2,h3⟩:=hcs
 unfold cutA at h
 cases ag with
 | true =>
  simp only[cond_true] at h
  obtain⟨hle,h⟩:=z00 h
  cases h
  have hle:=Nat.le_of_ble_eq_true hle
  refine⟨by omega,.agg (by simp[h1]) (fun i c u hc hu=>?_) (fun i u hu=>?_)⟩
  ·simp only[List.getElem?_take,List.getElem?_drop,List.getElem?_toArray] at hc hu
   split at hc
   ·rename_i hi; rw[if_pos hi] at hu; exact h2 _ c u hc hu
   ·cases hc
  ·simp only[List.getElem?_take,List.getElem?_drop,List.getElem?_toArray] at hu
   split at hu
   ·exact h3 _ u hu
   ·cases hu
 | false =>
  simp only[cond_false] at h
  have hlt:off < us.length:=by
   have:=(List.getElem?_eq_some_iff.1 h).1
   omega
  exact⟨us[off],by simp[hlt],h2 off v _ h (by simp[hlt])⟩
theorem z85 {ag:Bool} {t:TypeId} {off n:Nat} {cs:List AV} {A:Array Value} {v:AV} (ha:aggB P t=some ag) (hn:z13 P t=some n) (hcs:VRs κ cs A.toList) (h:cutA ag cs off n=some v) (w:World) :
  ∃ u,(Go.part t A off).run P w=.ok u w∧VR κ v u:=by
 have hc:=zir hcs h
 cases ag with
 | true =>
  refine⟨.agg (A.extract off (off+n)),by simp[Go.part,z4c w ha,z0t w hn],?_⟩
  have he:((A.toList.drop off).take n).toArray=A.extract off (off+n):=by
   apply Array.toList_inj.1
   simp[List.extract]
  rw[← he]
  exact hc.2
 | false =>
  obtain⟨u,hu,hv⟩:=hc
  have hu':A[off]?=some u:=by simpa using hu
  exact⟨u,by simp[Go.part,z4c w ha,hu'],hv⟩
theorem VR.agg_inv {cs:List AV} {x:Value} (h:VR κ (.agg cs) x):∃ A,x=.agg A∧VRs κ cs A.toList:=by
 cases h with
 | agg hl h h1=>exact⟨_,rfl,by simpa using hl,fun i c u hc hu=>h i c u hc (by simpa using hu),fun i u hu=>h1 i u (by simpa using hu)⟩
theorem VRs.agg {cs:List AV} {A:Array Value} (h:VRs κ cs A.toList):VR κ (.agg cs) (.agg A) :=
 .agg (by simpa using h.1) (fun i c u hc hu=>h.2.1 i c u hc (by simpa using hu)) (fun i u hu=>h.2.2 i u (by simpa using hu))
theorem iad_sim {t el:TypeId} {z:Nat} {a i v:AV} {x iv:Value} (hu:P.underlying t=some (.slice el)) (hz:z13 P el=some z) (hx:VR κ a x) (hi:VR κ i iv) (h:iadA z i a=some v) (w:World) :
  ∃ u,(Instr.indexAt t x iv).run P w=.ok u w∧VR κ v u:=by
 unfold iadA at h
 split at h
 ·rename_i k n
  have:=hi.int_inv
  subst this
  unfold iadN at h
  split at h
  ·rename_i k' z' xs
   obtain⟨hzz,h'⟩:=z00 h
   clear h
   have:=z03.1 hzz
   subst this
   cases hxn:xs[n]? with
   | none=>simp[hxn,vpO] at h'
   | some el' =>
    simp only[hxn,vpO,Option.some.injEq] at h'
    subst h'
    have hn:n < xs.length:=(List.getElem?_eq_some_iff.1 hxn).1
    cases hx with
    | slnil=>simp at hxn
    | sle=>simp at hxn
    | sl g hcap hz' hf hg h1 hk1 hk hz1 =>
     rename_i b o cap
     have hlt:(Int.ofNat n) < (xs.length:Int):=by simp; omega
     refine⟨.pointer (some ⟨b,o+n * z,none⟩),?_,?_⟩
     ·simp[Instr.indexAt,asIntOf,run_underlying hu,z0t w hz,z1f,hn]
     ·have:=VR.vp (κ:=κ) (cs:=el'.cells) (off:=0) (b:=b) (o:=o+n * z) (g n) (fun j c hc=>hf n el' j c hxn hc) (fun j c hc=>hg n el' j c hxn hc) (h1 n)
      simpa using this
  ·rename_i l z' sz off m ex
   obtain⟨hzz,h'⟩:=z00 h
   clear h
   simp only[Bool.and_eq_true,z03,Nat.blt_eq] at hzz
   obtain⟨rfl,hn⟩:=hzz
   cases h'
   cases hx with
   | hs h hin hsz hcap hz1 =>
    rename_i b c cap
    refine⟨.pointer (some ⟨b,off * z+n * z,none⟩),?_,?_⟩
    ·simp[Instr.indexAt,asIntOf,run_underlying hu,z0t w hz,z1f,hn]
    ·have:=VR.ep (κ:=κ) (idx:=off+n) (off:=0) h
     simpa [Nat.add_mul] using this
   | hsnil h hz1=>omega
  ·rename_i l off m
   obtain⟨hzz,h'⟩:=z00 h
   clear h
   simp only[Bool.and_eq_true,z03,Nat.blt_eq] at hzz
   obtain⟨rfl,hn⟩:=hzz
   cases h'
   cases hx with
   | as h ho hcap =>
    rename_i b o cap
    have:o=off:=by rcases ho with h | h<;>omega
    subst this
    refine⟨.pointer (some ⟨b,o+n,none⟩),?_,.ptr h⟩
    simp[Instr.indexAt,asIntOf,run_underlying hu,z0t w hz,z1f,hn]
  ·cases h
 ·cases h
theorem iaa_sim {t el:TypeId} {m z:Nat} {a i v:AV} {x iv:Value} (hu:P.underlying t=some (.array m el)) (hz:z13 P el=some z) (hx:VR κ a x) (hi:VR κ i iv) (h:iaaA m z i a=some v) (w:World) :
  ∃ u,(Instr.indexAt t x iv).run P w=.ok u w∧VR κ v u:=by
 unfold iaaA at h
 split at h
 ·rename_i k n
  have:=hi.int_inv
  subst this
  obtain⟨hn,h⟩:=z00 h
  have hn:=(Nat.blt_eq ▸ hn:n < m)
  obtain⟨b,o,rfl,hv⟩:=zmg hx h
  refine⟨_,?_,hv⟩
  simp[Instr.indexAt,asIntOf,run_underlying hu,z0t w hz,z1f,hn,Instr.sureAddr]
 ·cases h
theorem ixs_sim {t:TypeId} {a i v:AV} {x iv:Value} (hu:P.underlying t=some .string) (hx:VR κ a x) (hi:VR κ i iv) (h:ixsA i a=some v) (w:World) :
  ∃ u,(Instr.index t x iv).run P w=.ok u w∧VR κ v u:=by
 unfold ixsA at h
 split at h
 ·rename_i k n
  have:=hi.int_inv
  subst this
  unfold ixsN at h
  split at h
  ·cases hx with
   | str b =>
    unfold byteO at h
    split at h
    ·rename_i c hc
     cases h
     simp only[List.getElem?_map,Option.map_eq_some_iff,Array.getElem?_toList] at hc
     obtain⟨u,hu',rfl⟩:=hc
     have hlt:n < b.size:=by
      have:=(Array.getElem?_eq_some_iff.1 hu').1
      exact this
     have hb:b[n]?=some u:=by
      rw[ByteArray.getElem?_lt' b n hlt]
      have h2:=(Array.getElem?_eq_some_iff.1 hu').2
      rw[← h2]; rfl
     refine⟨.int .u8 u.toNat,?_,.int _ _⟩
     simp[Instr.index,asIntOf,run_underlying hu,hb]
    ·cases h
  ·cases h
 ·cases h
theorem ixa_sim {t el:TypeId} {m z:Nat} {ag:Bool} {a i v:AV} {x iv:Value} (hu:P.underlying t=some (.array m el)) (hz:z13 P el=some z) (ha:aggB P el=some ag) (hx:VR κ a x) (hi:VR κ i iv) (h:ixaA m z ag i a=some v) (w:World) :
  ∃ u,(Instr.index t x iv).run P w=.ok u w∧VR κ v u:=by
 unfold ixaA at h
 split at h
 ·rename_i k n
  have:=hi.int_inv
  subst this
  obtain⟨hn,h⟩:=z00 h
  have hn:=(Nat.blt_eq ▸ hn:n < m)
  unfold ixaN at h
  split at h
  ·obtain⟨A,rfl,hA⟩:=hx.agg_inv
   obtain⟨u,hr,hv⟩:=z85 ha hz hA h w
   refine⟨u,?_,hv⟩
   simp[Instr.index,asIntOf,run_underlying hu,z0t w hz,hn,hr]
  ·cases h
 ·cases h
theorem fld_sim {t:TypeId} {fs:Array Field} {f:Nat} {fd:Field} {n:Nat} {ag:Bool} {a v:AV} {x:Value} (hu:P.underlying t=some (.struct fs)) (hfd:fs[f]?=some fd) (hz:z13 P fd.type=some n) (ha:aggB P fd.type=some ag)
  (hx:VR κ a x) (h:fldA ag fd.offset n a=some v) (w:World):∃ u,(Instr.field t x f).run P w=.ok u w∧VR κ v u:=by
 unfold fldA at h
 split at h
 ·obtain⟨A,rfl,hA⟩:=hx.agg_inv
  obtain⟨u,hr,hv⟩:=z85 ha hz hA h w
  exact⟨u,by simp[Instr.field,run_underlying hu,hfd,asAgg,hr],hv⟩
 ·cases h
theorem ext_sim {i:Nat} {a v:AV} {x:Value} (hx:VR κ a x) (h:extA i a=some v) (w:World):∃ u,(Instr.extract x i).run P w=.ok u w∧VR κ v u:=by
 unfold extA at h
 split at h
 ·cases hx with
  | tup hl h' =>
   rename_i vs A
   have hlt:i < A.size:=by have:=(List.getElem?_eq_some_iff.1 h).1; omega
   exact⟨A[i],by simp[Instr.extract,hlt],h' i v _ h (by simp[hlt])⟩
 ·cases h
theorem un_sim {op:UnOp} {a v:AV} {x:Value} (hx:VR κ a x) (h:unA op a=some v) (w:World):∃ u,(Op.unary op x).run P w=.ok u w∧VR κ v u:=by
 unfold unA at h
 split at h
 ·unfold unNeg at h
  split at h
  ·cases h
   have:=hx.int_inv
   subst this
   exact⟨_,by simp[Op.unary,Op.intArith],.int _ _⟩
  ·cases h
 ·unfold unNot at h
  split at h
  ·cases h
   have:=hx.bool_inv
   subst this
   exact⟨_,by simp[Op.unary],.bool _⟩
  ·cases h
 ·unfold unXor at h
  split at h
  ·simp only[binI,Option.some.injEq] at h
   subst h
   have:=hx.int_inv
   subst this
   exact⟨_,by simp only[Op.unary,Op.intBits,ne_eq,not_true_eq_false,if_false]; rfl,.int _ _⟩
  ·cases h
 ·cases h
theorem zmh {t:TypeId} {a v:AV} {x:Value} (hu:P.underlying t=some .string) (hx:VR κ a x) (h:lenS a=some v) {A:Array TypeId} (hA:A[0]?=some t) (T:TypeId) (w:World) :
  ∃ u,(Builtin.len_ A T #[x]).run P w=.ok u w∧VR κ v u:=by
 unfold lenS at h
 simp only[zef,Nat.zero_add] at h
 split at h
 ·cases h
  cases hx with
  | str b =>
   refine⟨goInt b.size,by simp[Builtin.len_,hA,run_underlying hu],?_⟩
   have:(b.data.toList.map UInt8.toNat).length=b.size:=by simp
   rw[this]; exact .int _ _
 ·cases h
theorem zmi {t el:TypeId} {a v:AV} {x:Value} (hu:P.underlying t=some (.slice el)) (hx:VR κ a x) (h:lenL a=some v) {A:Array TypeId} (hA:A[0]?=some t) (T:TypeId) (w:World) :
  ∃ u,(Builtin.len_ A T #[x]).run P w=.ok u w∧VR κ v u:=by
 unfold lenL at h
 simp only[zef,Nat.zero_add] at h
 split at h
 ·cases h
  cases hx with
  | slnil=>exact⟨goInt 0,by simp[Builtin.len_,hA,run_underlying hu],.int _ _⟩
  | sle=>exact⟨goInt 0,by simp[Builtin.len_,hA,run_underlying hu],.int _ _⟩
  | sl=>exact⟨goInt _,by simp[Builtin.len_,hA,run_underlying hu],.int _ _⟩
 ·cases h
  cases hx with
  | hs=>exact⟨goInt _,by simp[Builtin.len_,hA,run_underlying hu],.int _ _⟩
  | hsnil=>exact⟨goInt 0,by simp[Builtin.len_,hA,run_underlying hu],.int _ _⟩
 ·cases h
  cases hx with
  | as=>exact⟨goInt _,by simp[Builtin.len_,hA,run_underlying hu],.int _ _⟩
 ·cases h
theorem cap_sim {t el:TypeId} {a v:AV} {x:Value} (hu:P.underlying t=some (.slice el)) (hx:VR κ a x) (h:capA a=some v) {A:Array TypeId} (hA:A[0]?=some t) (T:TypeId) (w:World) :
  ∃ u,(Builtin.cap_ A T #[x]).run P w=.ok u w∧VR κ v u:=by
 unfold capA at h
 split at h
 ·rename_i k z xs
  obtain⟨hk,h'⟩:=z00 h
  cases h'
  have hk:=z03.1 hk
  cases hx with
  | slnil=>exact⟨goInt 0,by simp[Builtin.cap_,hA,run_underlying hu],.int _ _⟩
  | sle=>exact⟨goInt 0,by simp[Builtin.cap_,hA,run_underlying hu],.int _ _⟩
  | sl g hcap hz hf hg h1 hk1 hk' hz1 =>
   have:=hk1 hk
   subst this
   exact⟨goInt _,by simp[Builtin.cap_,hA,run_underlying hu],.int _ _⟩
 ·cases h
theorem mm_sim {mx:Bool} {a b v:AV} {x y:Value} (hx:VR κ a x) (hy:VR κ b y) (h:mmA mx a b=some v) (A:Array TypeId) (T:TypeId) (w:World) :
  ∃ u,(if mx then Builtin.max_ A T #[x,y] else Builtin.min_ A T #[x,y]).run P w=.ok u w∧VR κ v u:=by
 unfold mmA at h
 split at h
 ·rename_i k n k' m
  have:=hx.int_inv
  subst this
  have:=hy.int_inv
  subst this
  split at h
  ·cases h
   cases mx with
   | true =>
    refine⟨.int k (if m > n then m else n),by simp[Builtin.max_,Builtin.max2],?_⟩
    have:(if m > n then m else n)=max n m:=by rw[Int.max_def]; split<;>split<;>omega
    rw[this]; exact .int _ _
   | false =>
    refine⟨.int k (if m < n then m else n),by simp[Builtin.min_,Builtin.min2],?_⟩
    have:(if m < n then m else n)=min n m:=by rw[Int.min_def]; split<;>split<;>omega
    rw[this]; exact .int _ _
  ·cases h
 ·cases h
theorem tas_sim {t xt:TypeId} {ok:Bool} {zero a v:AV} {x z:Value} {d:TypeDesc} (hu:P.underlying t=some d) (hd:∀ ms,d≠.interface ms) (hz:ok=true→(P.info? t).bind (·.zero)=some z∧VR κ zero z) (hx:VR κ a x) (h:tasA t ok zero a=some v) (w:World) :
  ∃ u,(Instr.typeAssert x xt t ok).run P w=.ok u w∧VR κ v u:=by
 unfold tasA at h
 have hpair:∀ {a b:AV} {u v:Value},VR κ a u→VR κ b v→VR κ (.tup [a,b]) (.tuple #[u,v]):=by
  intro a b u v h1 h2
  refine .tup rfl fun i c y hc hy=>?_
  match i with
  | 0=>simp at hc hy; subst hc; subst hy; exact h1
  | 1=>simp at hc hy; subst hc; subst hy; exact h2
  | i+2=>simp at hc
 split at h
 ·rename_i u' v'
  cases hx with
  | ifc hv =>
   rename_i val
   cases hb:Nat.beq u' t with
   | true =>
    simp only[hb,cond_true,Option.some.injEq] at h
    have:=z03.1 hb
    subst this
    subst h
    cases ok with
    | true =>
     refine⟨.tuple #[val,.bool true],?_,hpair hv (.bool _)⟩
     simp only[Instr.typeAssert,Sem.run_bind,run_underlying hu,Result.andThen_ok]
     cases d<;>first | (exact absurd rfl (hd _)) | simp
    | false =>
     refine⟨val,?_,hv⟩
     simp only[Instr.typeAssert,Sem.run_bind,run_underlying hu,Result.andThen_ok]
     cases d<;>first | (exact absurd rfl (hd _)) | simp
   | false =>
    have hne:¬ u'=t:=fun e=>by rw[z03.2 e] at hb; cases hb
    simp only[hb,cond_false] at h
    cases ok with
    | false=>simp at h
    | true =>
     simp only[cond_true,Option.some.injEq] at h
     subst h
     obtain⟨hz1,hz2⟩:=hz rfl
     refine⟨.tuple #[z,.bool false],?_,hpair hz2 (.bool _)⟩
     simp only[Instr.typeAssert,Sem.run_bind,run_underlying hu,Result.andThen_ok]
     cases d<;>first | (exact absurd rfl (hd _)) | simp[hne,z17 w hz1]
 ·cases hx
  cases ok with
  | false=>simp at h
  | true =>
   simp only[cond_true,Option.some.injEq] at h
   subst h
   obtain⟨hz1,hz2⟩:=hz rfl
   refine⟨.tuple #[z,.bool false],?_,hpair hz2 (.bool _)⟩
   simp only[Instr.typeAssert,Sem.run_bind,run_underlying hu,Result.andThen_ok]
   cases d<;>first | (exact absurd rfl (hd _)) | simp[z17 w hz1]
 ·cases h
end
end Go.Abs
namespace Go.Abs
open Go Go.RowKit
variable [Glob]
section
variable {P:Program} {κ:K} {w:World}
theorem zdb (a b:List UInt8):z1r (a.map UInt8.toNat) (b.map UInt8.toNat)=Op.bytesLess a b:=by
 induction a generalizing b with
 | nil=>cases b<;>simp[z1r,Op.bytesLess]
 | cons x a ih =>
  cases b with
  | nil=>simp[z1r,Op.bytesLess]
  | cons y b =>
   simp only[List.map_cons,z1r,Op.bytesLess,ih]
   by_cases h1:x < y
   ·have:Nat.blt x.toNat y.toNat=true:=by rw[Nat.blt_eq]; exact h1
    simp[this,h1]
   ·have h2:Nat.blt x.toNat y.toNat=false:=by rw[Bool.eq_false_iff]; intro e; exact h1 (by rw[Nat.blt_eq] at e; exact e)
    by_cases h3:x=y
    ·subst h3
     simp[h2,h1]
    ·have h4:Nat.beq x.toNat y.toNat=false:=by rw[Bool.eq_false_iff]; intro e; exact h3 (UInt8.toNat_inj.1 (z03.1 e))
     simp[h2,h1,h3,h4]
theorem zmj {op:BinOp} {a b:ByteArray} {v:AV} (h:binS op (a.data.toList.map UInt8.toNat) (b.data.toList.map UInt8.toNat)=some v) (w:World) :
  ∃ u,(Op.stringOp op a b).run P w=.ok u w∧VR κ v u:=by
 have hb:(a.toList==b.toList)=decide (a=b):=by rw[← beq_toListBytes,z6u]
 have hl:Op.bytesLess a.toList b.toList=z1r (a.data.toList.map UInt8.toNat) (b.data.toList.map UInt8.toNat):=by rw[zdb,ByteArray.toList_eq,ByteArray.toList_eq]
 unfold binS at h
 rw[z9a] at h
 cases op
 case add =>
  obtain⟨hlt,h⟩:=z00 h
  cases h
  have hlt:a.size+b.size < big:=by
   have:=(Nat.blt_eq ▸ hlt:_ < big)
   simpa using this
  have h1:¬ (9223372036854775807 < ((a.size:Int)+(b.size:Int))):=by unfold big at hlt; omega
  refine⟨.string (a++b),by simp[Op.stringOp,h1],?_⟩
  have:(a.data.toList.map UInt8.toNat)++(b.data.toList.map UInt8.toNat)=(a++b).data.toList.map UInt8.toNat:=by simp
  rw[this]; exact .str _
 case eql=>cases h; exact⟨_,by simp only[Op.stringOp,hb]; rfl,.bool _⟩
 case neq=>cases h; exact⟨_,by simp only[Op.stringOp,hb]; rfl,.bool _⟩
 case lss=>cases h; exact⟨_,by simp only[Op.stringOp,hl]; rfl,.bool _⟩
 case leq=>cases h; exact⟨_,by simp only[Op.stringOp,hl,hb]; rfl,.bool _⟩
 case gtr=>cases h; exact⟨_,by simp only[Op.stringOp,hl,hb]; rfl,.bool _⟩
 case geq=>cases h; exact⟨_,by simp only[Op.stringOp,hl]; rfl,.bool _⟩
 all_goals cases h
theorem zmk {op:BinOp} {k:IntKind} {a b:Int} {t:TypeId} {v:AV} (h:binI op k a b=some v) (w:World) :
  ∃ u,(binOp op t (.int k a) (.int k b)).run P w=.ok u w∧VR κ v u:=by
 unfold binI at h
 cases op
 case add=>cases h; exact⟨_,by simp[binOp,Op.intArith],.int _ _⟩
 case sub=>cases h; exact⟨_,by simp[binOp,Op.intArith],.int _ _⟩
 case mul=>cases h; exact⟨_,by simp[binOp,Op.intArith],.int _ _⟩
 case quo =>
  simp only at h
  split at h
  ·cases h
  ·rename_i hb; cases h; exact⟨_,by simp[binOp,Op.intDiv,hb],.int _ _⟩
 case rem =>
  simp only at h
  split at h
  ·cases h
  ·rename_i hb; cases h; exact⟨_,by simp[binOp,Op.intDiv,hb],.int _ _⟩
 case and=>cases h; exact⟨_,by simp only[binOp,Op.intBits,ne_eq,not_true_eq_false,if_false]; rfl,.int _ _⟩
 case or=>cases h; exact⟨_,by simp only[binOp,Op.intBits,ne_eq,not_true_eq_false,if_false]; rfl,.int _ _⟩
 case xor=>cases h; exact⟨_,by simp only[binOp,Op.intBits,ne_eq,not_true_eq_false,if_false]; rfl,.int _ _⟩
 case andNot=>cases h; exact⟨_,by simp only[binOp,Op.intBits,ne_eq,not_true_eq_false,if_false]; rfl,.int _ _⟩
 case eql=>cases h; exact⟨_,by simp only[binOp,Op.intCmp,ne_eq,not_true_eq_false,if_false]; rfl,.bool _⟩
 case neq=>cases h; exact⟨_,by simp only[binOp,Op.intCmp,ne_eq,not_true_eq_false,if_false]; rfl,.bool _⟩
 case lss=>cases h; exact⟨_,by simp only[binOp,Op.intCmp,ne_eq,not_true_eq_false,if_false]; rfl,.bool _⟩
 case leq=>cases h; exact⟨_,by simp only[binOp,Op.intCmp,ne_eq,not_true_eq_false,if_false]; rfl,.bool _⟩
 case gtr=>cases h; exact⟨_,by simp only[binOp,Op.intCmp,ne_eq,not_true_eq_false,if_false]; rfl,.bool _⟩
 case geq=>cases h; exact⟨_,by simp only[binOp,Op.intCmp,ne_eq,not_true_eq_false,if_false]; rfl,.bool _⟩
 all_goals cases h
theorem zis {op:BinOp} (hop:op=.shl∨op=.shr) {k k':IntKind} {a b:Int} {t:TypeId} {v:AV} (e:EqK) (h:binA op e (.int k a) (.int k' b)=some v) (w:World) :
  ∃ u,(binOp op t (.int k a) (.int k' b)).run P w=.ok u w∧VR κ v u:=by
 unfold binA at h
 rcases hop with rfl | rfl
 ·simp only at h
  split at h
  ·cases h
  ·rename_i hb
   cases h
   exact⟨_,by simp only[binOp,Op.shift,hb,if_false]; rfl,.int _ _⟩
 ·simp only at h
  split at h
  ·cases h
  ·rename_i hb
   cases h
   exact⟨_,by simp only[binOp,Op.shift,hb,if_false]; rfl,.int _ _⟩
theorem z1o {op:BinOp} {t:TypeId} {X Y:Operand} {x y:Value} (h:∀ a b,¬ (x=.nilIface∧y=.nilIface)∧¬ (x=.agg a∧y=.agg b)):(eqGuard op t X Y x y).run P w=.ok () w:=by
 cases op<;>first
  | rfl
  | (unfold eqGuard
     dsimp only
     cases x<;>cases y<;>first
      | rfl
      | exact absurd ⟨rfl,rfl⟩ (h #[] #[]).1
      | exact absurd ⟨rfl,rfl⟩ (h _ _).2)
theorem z4e {t:TypeId} {x y:Value} {r:Bool} (h:∀ d,(Op.equalIn (d+1) t x y).run P w=.ok r w):(Op.equal t x y).run P w=.ok r w:=h 9999
theorem zit {t el:TypeId} {a b:AV} {x y:Value} {r:Bool} {X Y:Operand} {op:BinOp} (hu:P.underlying t=some (.pointer el)) (hsz:(z6d P el).isSome=true) (hx:VR κ a x) (hy:VR κ b y) (h:eqK .ptr a b=some r) (w:World) :
  (eqGuard op t X Y x y).run P w=.ok () w∧(Op.equal t x y).run P w=.ok r w:=by
 have key:(∃ p,x=.pointer p)∧(∃ q,y=.pointer q)∧∀ d,(Op.equalIn (d+1) t x y).run P w=.ok r w:=by
  unfold eqK at h
  split at h<;>first | contradiction | skip
  all_goals first
   | (cases h; cases hx; cases hy; exact⟨⟨_,rfl⟩,⟨_,rfl⟩,fun d=>by simp[Op.equalIn,run_underlying hu]⟩)
   | (obtain⟨hl,h'⟩:=z00 h
      clear h
      have hl:=of_decide_eq_true hl
      subst hl
      have h:=h'
      clear h'
      cases hx with
      | ptr h1 =>
       cases hy with
       | ptr h2 =>
        rw[h1] at h2; cases h2
        refine⟨⟨_,rfl⟩,⟨_,rfl⟩,fun d=>?_⟩
        rename_i b
        obtain⟨n,hn⟩:=Option.isSome_iff_exists.1 hsz
        obtain⟨hn1,hn2⟩:=z22 hn
        have hso:(sizeOf el).run P w=.ok n w:=z0t w hn1
        have hr:=Option.some.inj h
        have hn0:¬ n=0:=by omega
        subst hr
        have hb:∀ o o':Nat,Nat.beq o o'=decide (o=o'):=by
         intro o o'
         by_cases ho:o=o'
         ·rw[z03.2 ho]; simp[ho]
         ·have:Nat.beq o o'=false:=by rw[Bool.eq_false_iff]; exact fun h=>ho (z03.1 h)
          rw[this]; simp[ho]
        rw[hb]
        simp only[Op.equalIn,Sem.run_bind,run_underlying hu,Result.andThen_ok,hso,ne_eq,hn0,not_false_eq_true,if_true,sameAddr,beq_self_eq_true,Sem.run_pure]
        have fin:∀ o o':Nat,((⟨b,o,none⟩:Addr)==⟨b,o',none⟩)=decide (o=o'):=by
         intro o o'
         by_cases ho:o=o'
         ·subst ho; simp
         ·have:¬ (⟨b,o,none⟩:Addr)=⟨b,o',none⟩:=by intro hc; cases hc; exact ho rfl
          simp[ho,this]
        rw[fin])
 obtain⟨⟨p,rfl⟩,⟨q,rfl⟩,hd⟩:=key
 exact⟨z1o (by simp),z4e hd⟩
theorem zml {t:TypeId} {A B:Array TypeId} {v:Bool} {a b:AV} {x y:Value} {r:Bool} {X Y:Operand} {op:BinOp} (hu:P.underlying t=some (.func A B v)) (hx:VR κ a x) (hy:VR κ b y) (h:eqK .fn a b=some r) (w:World) :
  (eqGuard op t X Y x y).run P w=.ok () w∧(Op.equal t x y).run P w=.ok r w:=by
 have key:(x≠.nilIface∧∀ c,x≠.agg c)∧∀ d,(Op.equalIn (d+1) t x y).run P w=.ok r w:=by
  unfold eqK at h
  split at h<;>first | contradiction | skip
  all_goals (cases h; cases hx; cases hy; exact⟨by simp,fun d=>by simp[Op.equalIn,run_underlying hu]⟩)
 exact⟨z1o fun c d=>⟨fun e=>key.1.1 e.1,fun e=>key.1.2 c e.1⟩,z4e key.2⟩
theorem ziu {t k el:TypeId} {a b:AV} {x y:Value} {r:Bool} {X Y:Operand} {op:BinOp} (hu:P.underlying t=some (.map k el)) (hx:VR κ a x) (hy:VR κ b y) (h:eqK .map a b=some r) (w:World) :
  (eqGuard op t X Y x y).run P w=.ok () w∧(Op.equal t x y).run P w=.ok r w:=by
 have key:(∃ p,x=.map p)∧∀ d,(Op.equalIn (d+1) t x y).run P w=.ok r w:=by
  unfold eqK at h
  split at h<;>first | contradiction | skip
  all_goals (cases h; cases hx; cases hy; exact⟨⟨_,rfl⟩,fun d=>by simp[Op.equalIn,run_underlying hu]⟩)
 obtain⟨⟨p,rfl⟩,hd⟩:=key
 exact⟨z1o (by simp),z4e hd⟩
theorem ziv {t:TypeId} {ms:Array (String × TypeId)} {a b:AV} {x y:Value} {r:Bool} {X Y:Operand} {op:BinOp} (hc:(Region.isConst X || Region.isConst Y)=true) (hu:P.underlying t=some (.interface ms)) (hx:VR κ a x) (hy:VR κ b y) (h:eqK .ifc a b=some r) (w:World) :
  (eqGuard op t X Y x y).run P w=.ok () w∧(Op.equal t x y).run P w=.ok r w:=by
 have key:((x=.nilIface∧y=.nilIface)∨(¬ (x=.nilIface∧y=.nilIface)∧∀ c,x≠.agg c))∧∀ d,(Op.equalIn (d+1) t x y).run P w=.ok r w:=by
  unfold eqK at h
  split at h<;>first | contradiction | skip
  all_goals (cases h; cases hx; cases hy; exact⟨by simp,fun d=>by simp[Op.equalIn,run_underlying hu]⟩)
 obtain⟨h1,h2⟩:=key
 refine⟨?_,z4e h2⟩
 rcases h1 with⟨rfl,rfl⟩ | ⟨h1,h3⟩
 ·cases op<;>first | rfl | (cases X<;>cases Y<;>first | (simp[Region.isConst] at hc; done) | simp[eqGuard])
 ·exact z1o fun c d=>⟨h1,fun e=>h3 c e.1⟩
theorem z5z {a:AV} {x:Value} {r:Bool} (hx:VR κ a x) (h:z57 a=some r):∃ b n c,x=.slice b n c∧b.isNone=r:=by
 cases a<;>simp only[z57,reduceCtorEq,Option.some.injEq] at h
 ·subst h
  cases hx with
  | slnil=>exact⟨none,0,0,rfl,rfl⟩
  | sle a hz1 =>
   refine⟨_,_,_,rfl,?_⟩
   rename_i k z
   have:Nat.beq z 0=false:=by rw[Bool.eq_false_iff]; exact fun h=>by have:=z03.1 h; omega
   rw[this]; rfl
  | sl g hcap hz hf hg h1 hk1 hk hz1 =>
   refine⟨_,_,_,rfl,?_⟩
   rename_i z _ _ _ _
   have:Nat.beq z 0=false:=by rw[Bool.eq_false_iff]; exact fun h=>by have:=z03.1 h; omega
   rw[this]; rfl
 ·subst h
  cases hx with
  | hs=>exact⟨_,_,_,rfl,rfl⟩
  | hsnil=>exact⟨_,_,_,rfl,rfl⟩
theorem zmm {t el:TypeId} {a b:AV} {x y:Value} {r:Bool} {X Y:Operand} {op:BinOp} (hu:P.underlying t=some (.slice el)) (hx:VR κ a x) (hy:VR κ b y) (h:eqK .sl a b=some r) (w:World) :
  (eqGuard op t X Y x y).run P w=.ok () w∧(Op.equal t x y).run P w=.ok r w:=by
 simp only[eqK] at h
 cases ha:z57 a with
 | none=>rw[ha] at h; cases z57 b<;>cases h
 | some p =>
  cases hb:z57 b with
  | none=>rw[ha,hb] at h; cases h
  | some q =>
   rw[ha,hb] at h
   obtain⟨b1,n1,c1,rfl,h1⟩:=z5z hx ha
   obtain⟨b2,n2,c2,rfl,h2⟩:=z5z hy hb
   simp only[eqS] at h
   obtain⟨h3,h4⟩:=z00 h
   cases h4
   refine⟨z1o (by simp),z4e fun d=>?_⟩
   cases b1<;>cases b2<;>simp at h1 h2<;>subst h1 h2<;>simp at h3<;>simp[Op.equalIn,run_underlying hu]
theorem eqK_sim {t:TypeId} {cst:Bool} {e:EqK} {a b:AV} {x y:Value} {r:Bool} {X Y:Operand} {op:BinOp} (hk:zfk P t cst=some e) (hc:cst=(Region.isConst X || Region.isConst Y)) (hx:VR κ a x) (hy:VR κ b y) (h:eqK e a b=some r) (w:World) :
  (eqGuard op t X Y x y).run P w=.ok () w∧(Op.equal t x y).run P w=.ok r w:=by
 unfold zfk at hk
 have z90:∀ ks,z1l P 1 t=some ks→(∃ d,P.underlying t=some d∧(d=.bool∨(∃ k,d=.int k)∨d=.string))→eqT false ks a b=some r→(eqGuard op t X Y x y).run P w=.ok () w∧(Op.equal t x y).run P w=.ok r w:=by
  intro ks hf ⟨d,hu,hd⟩ h
  unfold eqT at h
  have hag:aggB P t=some false:=by rcases hd with rfl | ⟨k,rfl⟩ | rfl<;>simp[aggB,hu]
  have hl:ks.length=1:=by obtain⟨ag,h1,h2⟩:=z4d hf; rw[hag] at h1; cases h1; exact h2 rfl
  have hone:∀ {a:AV} {x:Value},VR κ a x→(∃ k,ks=[k])→eqk ks [a] [a]≠none∨True:=fun _ _=>.inr trivial
  obtain⟨k,rfl⟩:∃ k,ks=[k]:=by cases ks with | nil=>simp at hl | cons k l=>cases l with | nil=>exact⟨k,rfl⟩ | cons _ _=>simp at hl
  have hcase:eqk [k] [a] [b]=some r:=by simpa using h
  have hb1:VRs κ [a] [x]∧VRs κ [b] [y]∧x.cells=#[x]∧y.cells=#[y]∧x≠.nilIface∧(∀ c,x≠.agg c):=by
   cases k<;>cases a<;>cases b<;>simp only[eqk,reduceCtorEq] at hcase<;>cases hx<;>cases hy <;>
    refine⟨⟨rfl,?_,?_⟩,⟨rfl,?_,?_⟩,rfl,rfl,by simp,by simp⟩<;>first
     | (intro i c u hc hu; cases i<;>simp at hc hu; subst hc; subst hu; constructor)
     | (intro i u hu; cases i<;>simp at hu; subst hu; rfl)
  obtain⟨h1,h2,h3,h4,h5,h6⟩:=hb1
  have hv:=zbz [k] hcase h1 h2
  refine⟨z1o fun c d=>⟨fun e=>h5 e.1,fun e=>h6 c e.1⟩,?_⟩
  exact z1h 1 t [k] hf 10000 (by omega) w x y r ⟨false,hag,by simpa using h3⟩ ⟨false,hag,by simpa using h4⟩ (by rw[h3,h4]; simpa using hv)
 have plainA:∀ ks,z1l P 8 t=some ks→aggB P t=some true→eqT true ks a b=some r→(eqGuard op t X Y x y).run P w=.ok () w∧(Op.equal t x y).run P w=.ok r w:=by
  intro ks hf hag h
  cases a<;>cases b<;>simp only[eqT,reduceCtorEq] at h
  obtain⟨A',rfl,hA⟩:=hx.agg_inv
  obtain⟨B',rfl,hB⟩:=hy.agg_inv
  have hv:=zbz ks h hA hB
  refine⟨?_,?_⟩
  ·have hd:8≤P.depth:=by unfold Program.depth Made.depth; omega
   exact run_eqGuard_agg w op t X Y A' B' (z36 8 t ks hf _ hd)
  ·exact z1h 8 t ks hf 10000 (by omega) w _ _ r ⟨true,hag,⟨_,rfl⟩⟩ ⟨true,hag,⟨_,rfl⟩⟩ (by simpa [Value.cells] using hv)
 split at hk
 ·rename_i hu
  cases hk
  have hf:z1l P 1 t=some [.b]:=by simp[z1l,hu]
  rw[hf] at h
  exact z90 [.b] hf ⟨_,hu,.inl rfl⟩ h
 ·rename_i k hu
  cases hk
  have hf:z1l P 1 t=some [.i]:=by simp[z1l,hu]
  rw[hf] at h
  exact z90 [.i] hf ⟨_,hu,.inr (.inl ⟨_,rfl⟩)⟩ h
 ·rename_i hu
  cases hk
  have hf:z1l P 1 t=some [.s]:=by simp[z1l,hu]
  rw[hf] at h
  exact z90 [.s] hf ⟨_,hu,.inr (.inr rfl)⟩ h
 ·rename_i hu
  split at hk
  ·rename_i ks hf; cases hk; exact plainA ks hf (by simp[aggB,hu]) h
  ·cases hk
 ·rename_i hu
  split at hk
  ·rename_i ks hf; cases hk; exact plainA ks hf (by simp[aggB,hu]) h
  ·cases hk
 ·rename_i el hu
  obtain⟨hsz,hk⟩:=z00 hk
  cases hk
  exact zit hu hsz hx hy h w
 ·rename_i ms hu
  obtain⟨hct,hk⟩:=z00 hk
  cases hk
  exact ziv (by rw[← hc]; exact hct) hu hx hy h w
 ·rename_i hu
  cases hk
  exact zml hu hx hy h w
 ·rename_i hu
  cases hk
  exact ziu hu hx hy h w
 ·rename_i hu
  cases hk
  exact zmm hu hx hy h w
 ·cases hk
theorem eqK_ops {t:TypeId} {ek:EqK} {a b:AV} {x y:Value} {r:Bool} (h:eqK ek a b=some r) (hx:VR κ a x) (hy:VR κ b y) (hii:¬ ∃ k n k' m,a=.int k n∧b=.int k' m) (hss:¬ ∃ p q,a=.str p∧b=.str q) :
  (binOp .eql t x y=(do pure (.bool (← Op.equal t x y))))∧(binOp .neq t x y=(do pure (.bool (!(← Op.equal t x y))))):=by
 unfold eqK at h
 split at h<;>first | contradiction | skip
 ·rename_i ag ks
  cases ag with
  | true =>
   cases a<;>cases b<;>simp only[eqT,reduceCtorEq] at h
   obtain⟨A',rfl,_⟩:=hx.agg_inv
   obtain⟨B',rfl,_⟩:=hy.agg_inv
   exact⟨rfl,rfl⟩
  | false =>
   simp only[eqT] at h
   cases ks with
   | nil=>simp[eqk] at h
   | cons k ks =>
    cases k<;>cases a<;>cases b<;>simp only[eqk,reduceCtorEq] at h
    ·cases hx; cases hy; exact⟨rfl,rfl⟩
    ·exact absurd ⟨_,_,_,_,rfl,rfl⟩ hii
    ·exact absurd ⟨_,_,rfl,rfl⟩ hss
 all_goals first
  | (cases ha:z57 a with
     | none=>rw[ha] at h; cases hq:z57 b<;>rw[hq] at h<;>cases h
     | some p =>
      cases hb:z57 b with
      | none=>rw[ha,hb] at h; cases h
      | some q =>
       rw[ha,hb] at h
       obtain⟨b1,n1,c1,rfl,_⟩:=z5z hx ha
       obtain⟨b2,n2,c2,rfl,_⟩:=z5z hy hb
       exact⟨rfl,rfl⟩)
  | (cases hx; cases hy; exact⟨rfl,rfl⟩)
noncomputable def eqR (op:BinOp):Option Bool→Option AV
 | some b=>match op with | .eql=>some (.bool b) | .neq=>some (.bool !b) | _=>none
 | none=>none
theorem bin_sim {t:TypeId} {cst:Bool} {ek:EqK} {a b v:AV} {x y:Value} {X Y:Operand} {op:BinOp} (hk:zfk P t cst=some ek) (hc:cst=(Region.isConst X || Region.isConst Y)) (hx:VR κ a x) (hy:VR κ b y) (h:binA op ek a b=some v) (w:World) :
  ∃ u,(do eqGuard op t X Y x y; binOp op t x y:Sem Value).run P w=.ok u w∧VR κ v u:=by
 by_cases hii:∃ k n k' m,a=.int k n∧b=.int k' m
 ·obtain⟨k,n,k',m,rfl,rfl⟩:=hii
  have:=hx.int_inv
  subst this
  have:=hy.int_inv
  subst this
  have hg:(eqGuard op t X Y (.int k n) (.int k' m)).run P w=.ok () w:=z1o (by simp)
  have key:∃ u,(binOp op t (.int k n) (.int k' m)).run P w=.ok u w∧VR κ v u:=by
   by_cases hop:op=.shl∨op=.shr
   ·exact zis hop ek h w
   ·have h':(if k=k' then binI op k n m else none)=some v:=by
     unfold binA at h
     cases op<;>first | exact h | exact absurd (.inl rfl) hop | exact absurd (.inr rfl) hop
    split at h'
    ·rename_i hkk
     subst hkk
     exact zmk h' w
    ·cases h'
  obtain⟨u,hu,hv⟩:=key
  exact⟨u,by simp only[Sem.run_bind,hg,Result.andThen_ok,hu],hv⟩
 ·by_cases hss:∃ p q,a=.str p∧b=.str q
  ·obtain⟨p,q,rfl,rfl⟩:=hss
   cases hx with
   | str p =>
    cases hy with
    | str q =>
     have hg:(eqGuard op t X Y (.string p) (.string q)).run P w=.ok () w:=z1o (by simp)
     obtain⟨u,hu,hv⟩:=zmj (P:=P) (κ:=κ) (show binS op _ _=some v from h) w
     refine⟨u,?_,hv⟩
     have hb:binOp op t (.string p) (.string q)=Op.stringOp op p q:=by cases op<;>rfl
     simp only[Sem.run_bind,hg,Result.andThen_ok,hb,hu]
  ·have h':eqR op (eqK ek a b)=some v:=by
    unfold binA at h
    split at h
    ·exact absurd ⟨_,_,_,_,rfl,rfl⟩ hii
    ·exact absurd ⟨_,_,rfl,rfl⟩ hss
    ·cases hr:eqK ek a b<;>cases op<;>simp_all[eqR]
   cases hr:eqK ek a b with
   | none=>rw[hr] at h'; cases h'
   | some r =>
    rw[hr] at h'
    obtain⟨h1,h2⟩:=eqK_sim (op:=op) hk hc hx hy hr w
    obtain⟨h3,h4⟩:=eqK_ops (t:=t) hr hx hy hii hss
    cases op<;>simp only[eqR,reduceCtorEq,Option.some.injEq] at h'
    ·subst h'
     exact⟨.bool r,by simp only[Sem.run_bind,h1,Result.andThen_ok,h3,h2]; rfl,.bool _⟩
    ·subst h'
     exact⟨.bool (!r),by simp only[Sem.run_bind,h1,Result.andThen_ok,h4,h2]; rfl,.bool _⟩
end
end Go.Abs
namespace Go.Abs
open Go Go.RowKit
variable [Glob]
section
variable {P:Program} {κ:K}
def OptR (κ:K) (s:Tm):Option AX→Option Value→Prop
 | none,none=>True
 | some x,some v=>VR κ (x.ev s) v
 | _,_=>False
theorem zer {s:Tm} {d n:Nat} {x:AX} {v:Value} (h:z1m s d (some x)=some n) (hv:VR κ (x.ev s) v):∃ k,v=.int k (.ofNat n):=by
 simp only[z1m] at h
 split at h
 ·rename_i k m he
  cases h
  rw[he] at hv
  exact⟨k,hv.int_inv⟩
 ·cases h
theorem z9c {k:IntKind} {n y:Nat} {code:BoundsCode} (h:n≤y) (w:World):(Instr.sliceBound (.int k (.ofNat n)) y code).run P w=.ok n w:=by
 simp[Instr.sliceBound,asIntOf,h]
theorem z3j {s:Tm} {b:Bool} {len cp l h m:Nat} {lo hi mx:Option AX} {lov hiv mxv:Option Value} (h1:OptR κ s lo lov) (h2:OptR κ s hi hiv) (h3:OptR κ s mx mxv)
  (e1:z1m s 0 lo=some l) (e2:z1m s len hi=some h) (e3:(mx=none∧m=cp)∨(∃ x,mx=some x∧z1m s 0 (some x)=some m∧hi≠none)) (hl:l≤h) (hh:h≤m) (hm:m≤cp) (w:World) :
  (Instr.sliceBounds b len cp lov hiv mxv).run P w=.ok (l,h,m) w:=by
 have elo:(lov=none∧l=0)∨∃ k,lov=some (.int k (.ofNat l)):=by
  cases lo with
  | none=>cases lov with
   | some v=>exact h1.elim
   | none=>simp only[z1m,Option.some.injEq] at e1; exact .inl ⟨rfl,e1.symm⟩
  | some y=>cases lov with
   | none=>exact h1.elim
   | some v=>obtain⟨k,rfl⟩:=zer e1 h1; exact .inr ⟨k,rfl⟩
 have ehi:(hi=none∧hiv=none∧h=len)∨∃ k,hiv=some (.int k (.ofNat h)):=by
  cases hi with
  | none=>cases hiv with
   | some v=>exact h2.elim
   | none=>simp only[z1m,Option.some.injEq] at e2; exact .inl ⟨rfl,rfl,e2.symm⟩
  | some y=>cases hiv with
   | none=>exact h2.elim
   | some v=>obtain⟨k,rfl⟩:=zer e2 h2; exact .inr ⟨k,rfl⟩
 have emx:(mxv=none∧m=cp)∨∃ k,mxv=some (.int k (.ofNat m))∧hi≠none:=by
  rcases e3 with⟨rfl,rfl⟩ | ⟨x,rfl,e3,hn⟩
  ·cases mxv with
   | none=>exact .inl ⟨rfl,rfl⟩
   | some v=>exact h3.elim
  ·cases mxv with
   | none=>exact h3.elim
   | some v=>obtain⟨k,rfl⟩:=zer e3 h3; exact .inr ⟨k,rfl,hn⟩
 rcases elo with⟨rfl,rfl⟩ | ⟨kl,rfl⟩<;>rcases ehi with⟨rfl,rfl,rfl⟩ | ⟨kh,rfl⟩<;>rcases emx with⟨rfl,rfl⟩ | ⟨km,rfl,hn⟩ <;>
  first
  | exact absurd rfl hn
  | simp only[Instr.sliceBounds,Sem.run_bind,z9c hm,z9c hh,z9c hl,Result.andThen_ok,Sem.run_pure]
theorem zc1 {k k' z b o cap l h:Nat} {xs:List AV} (hx:VR κ (.sl k z xs) (.slice (some ⟨b,o,none⟩) xs.length cap)) (hl:l≤h) (hh:h≤xs.length) (cap':Nat) (hcap:h - l≤cap')
  (h0:k'=0∨(k'=1∧cap'=h - l)):VR κ (.sl k' z ((xs.take h).drop l)) (.slice (some ⟨b,o+l * z,none⟩) (h - l) cap'):=by
 have hlen:((xs.take h).drop l).length=h - l:=by simp; omega
 have hget:∀ i x,((xs.take h).drop l)[i]?=some x→xs[l+i]?=some x:=by
  intro i x hi
  simp only[List.getElem?_drop,List.getElem?_take] at hi
  split at hi
  ·exact hi
  ·cases hi
 generalize hy:Value.slice (some ⟨b,o,none⟩) xs.length cap=y at hx
 cases hx with
 | slnil=>cases hy
 | sle a hz1 =>
  cases hy
  simp only[List.length_nil,Nat.le_zero_eq] at hh
  subst hh
  obtain rfl:l=0:=by omega
  simp only[List.take_nil,List.drop_nil,Nat.sub_self,Nat.zero_mul,Nat.add_zero]
  refine .sl (fun _ _=>.nilFunc) (by simp) (by simp) (by simp) (by simp) (fun _ _=>rfl) (fun hk=>?_) (fun hk=>?_) hz1
  ·rcases h0 with h0 | h0<;>simp_all
  ·rcases h0 with h0 | h0<;>omega
 | sl g hc hz hf hg h1 hk1 hk hz1 =>
  cases hy
  rw[← hlen]
  refine .sl (fun i j=>g (l+i) j) (by rw[hlen]; exact hcap) (fun i x hi=>hz _ x (hget i x hi)) (fun i x j c hi hj=>?_) (fun i x j c hi hj=>hg _ x j c (hget i x hi) hj) (fun i j=>h1 _ j) (fun hk=>?_) (fun hk=>?_) hz1
  ·have:=hf _ x j c (hget i x hi) hj
   have e:o+l * z+i * z+j=o+(l+i) * z+j:=by rw[Nat.add_mul]; omega
   rw[e]; exact this
  ·rcases h0 with h0 | ⟨_,h0⟩
   ·rw[h0] at hk; cases hk
   ·rw[h0,hlen]
  ·rcases h0 with h0 | ⟨h0,_⟩<;>rw[h0] at hk<;>omega
theorem z4o (κ:K) (k z b o cap:Nat) (hz1:1≤z) (hk:k=0∨(k=1∧cap=0)):VR κ (.sl k z []) (.slice (some ⟨b,o,none⟩) 0 cap):=by
 have:=VR.sl (κ:=κ) (k:=k) (z:=z) (xs:=[]) (b:=b) (o:=o) (cap:=cap) (fun _ _=>.bool true) (by simp) (by simp) (by simp) (by simp) (fun _ _=>rfl) (fun h1=>by rcases hk with h | ⟨_,h⟩<;>simp_all) (fun h2=>by rcases hk with h | ⟨h,_⟩<;>omega) hz1
 simpa using this
theorem zc2 (b:ByteArray) (l h:Nat):((b.data.toList.map UInt8.toNat).take h).drop l=(b.extract l h).data.toList.map UInt8.toNat:=by
 simp only[ByteArray.data_extract,Array.toList_extract,List.extract,List.map_take,List.map_drop]
 rw[List.drop_take]
theorem sls_str {t:TypeId} {s:Tm} {a v:AV} {x:Value} {lo hi mx:Option AX} {lov hiv mxv:Option Value} (hu:P.underlying t=some .string) (hx:VR κ a x) (h1:OptR κ s lo lov) (h2:OptR κ s hi hiv) (h3:OptR κ s mx mxv)
  (h:slsS s a lo hi mx=some v) (w:World):∃ u,(Instr.sliceAt t x lov hiv mxv).run P w=.ok u w∧VR κ v u:=by
 cases a<;>simp only[slsS,reduceCtorEq] at h
 cases hx with
 | str b =>
  split at h
  ·rename_i l hh e1 e2
   obtain⟨hc,h⟩:=z00 h
   cases h
   simp only[Bool.and_eq_true,Nat.ble_eq] at hc
   have hlen:(b.data.toList.map UInt8.toNat).length=b.size:=by simp
   rw[hlen] at e2 hc
   cases mxv with
   | some m=>exact h3.elim
   | none =>
    have hb:=z3j (P:=P) (b:=false) (cp:=b.size) (m:=b.size) h1 h2 h3 e1 e2 (.inl ⟨rfl,rfl⟩) hc.1 hc.2 (Nat.le_refl _) w
    refine⟨.string (b.extract l hh),?_,by rw[zc2]; exact .str _⟩
    simp[Instr.sliceAt,Instr.slice,run_underlying hu,hb]
  ·cases h
theorem sls_sl {t el:TypeId} {s:Tm} {a v:AV} {z:Nat} {x:Value} {lo hi mx:Option AX} {lov hiv mxv:Option Value} (hu:P.underlying t=some (.slice el)) (hz:z13 P el=some z) (hx:VR κ a x) (hmx:mx=none∨hi≠none) (h1:OptR κ s lo lov) (h2:OptR κ s hi hiv) (h3:OptR κ s mx mxv)
  (h:slsL s z a lo hi mx=some v) (w:World):∃ u,(Instr.sliceAt t x lov hiv mxv).run P w=.ok u w∧VR κ v u:=by
 have run:∀ (base:Option Addr) (len cp l hh m:Nat),x=.slice base len cp→z1m s 0 lo=some l→z1m s len hi=some hh→((mx=none∧m=cp)∨(∃ y,mx=some y∧z1m s 0 (some y)=some m∧hi≠none))→l≤hh→hh≤m→m≤cp →
   (Instr.sliceAt t x lov hiv mxv).run P w=.ok (.slice (if m=l then base else base.map (·.add (l * z))) (hh - l) (m - l)) w:=by
  intro base len cp l hh m hxe e1 e2 e3 c1 c2 c3
  have hb:=z3j (P:=P) (b:=true) h1 h2 h3 e1 e2 e3 c1 c2 c3 w
  subst hxe
  simp[Instr.sliceAt,Instr.slice,run_underlying hu,hb,z0t w hz]
 cases a<;>simp only[slsL,reduceCtorEq] at h
 case sl k z0 xs =>
  split at h
  ·rename_i l hh e1 e2
   obtain⟨hc,h⟩:=z00 h
   simp only[Bool.and_eq_true,Nat.ble_eq,Bool.or_eq_true,z03] at hc
   obtain⟨c1,c2,c3⟩:=hc
   have hx':=hx
   cases hx with
   | slnil =>
    have hl0:l=0:=by simp at c2; omega
    have hh0:hh=0:=by simp at c2; omega
    subst hl0; subst hh0
    cases mx with
    | none =>
     simp only[Option.some.injEq] at h
     subst h
     have:=run none 0 0 0 0 0 rfl e1 (by simpa using e2) (.inl ⟨rfl,rfl⟩) (by omega) (by omega) (by omega)
     exact⟨_,this,by simpa using VR.slnil _⟩
    | some y =>
     simp only at h
     split at h
     ·rename_i m e3
      obtain⟨cm,h⟩:=z00 h
      cases h
      have cm:=z03.1 cm
      subst cm
      have:=run none 0 0 0 0 0 rfl e1 (by simpa using e2) (.inr ⟨y,rfl,e3,hmx.resolve_left (by simp)⟩) (by omega) (by omega) (by omega)
      exact⟨_,this,by simpa using VR.slnil _⟩
     ·cases h
   | sle a hz1 =>
    have hl0:l=0:=by simp at c2; omega
    have hh0:hh=0:=by simp at c2; omega
    subst hl0; subst hh0
    cases mx with
    | none =>
     simp only[Option.some.injEq] at h
     subst h
     have:=run (some a) 0 0 0 0 0 rfl e1 (by simpa using e2) (.inl ⟨rfl,rfl⟩) (by omega) (by omega) (by omega)
     exact⟨_,this,by simpa using VR.sle a hz1⟩
    | some y =>
     simp only at h
     split at h
     ·rename_i m e3
      obtain⟨cm,h⟩:=z00 h
      cases h
      have cm:=z03.1 cm
      subst cm
      have:=run (some a) 0 0 0 0 0 rfl e1 (by simpa using e2) (.inr ⟨y,rfl,e3,hmx.resolve_left (by simp)⟩) (by omega) (by omega) (by omega)
      exact⟨_,this,by simpa using VR.sle a hz1⟩
     ·cases h
   | sl g hcap hzz hf hg ho hk1 hk hz1 =>
    rename_i b o cp
    have hadd:∀ m,(if m=l then (some ⟨b,o,none⟩:Option Addr) else (some (⟨b,o,none⟩:Addr)).map (·.add (l * z)))=some ⟨b,if m=l then o else o+l * z,none⟩:=by
     intro m; split<;>simp[z1f]
    have hzl:l * z=l * z0:=by rcases c3 with c3 | c3<;>simp[c3]
    cases mx with
    | none =>
     simp only[Option.some.injEq] at h
     subst h
     have hr:=run (some ⟨b,o,none⟩) xs.length cp l hh cp rfl e1 e2 (.inl ⟨rfl,rfl⟩) c1 (by omega) (by omega)
     rw[hadd] at hr
     refine⟨_,hr,?_⟩
     by_cases hm:cp=l
     ·have e0:hh=l:=by omega
      have e0':xs.length=l:=by omega
      subst e0
      simp only[hm,if_true,Nat.sub_self]
      have hd:(xs.take hh).drop hh=[]:=by simp
      rw[hd]
      by_cases hl0:hh=0
      ·subst hl0
       have hxs:xs=[]:=by simpa using e0'
       subst hxs
       simp only[List.length_nil,beq_self_eq_true,cond_true,Nat.beq_refl]
       cases hk':Nat.beq k 1
       ·simp only[cond_false]; rw[hm] at hx'; simpa using hx'
       ·simp only[cond_true]
        exact z4o κ 1 z0 b o 0 hz1 (.inr ⟨rfl,rfl⟩)
      ·have hb0:Nat.beq hh 0=false:=by rw[Bool.eq_false_iff]; exact fun e=>hl0 (z03.1 e)
       rw[hb0]
       cases h1':Nat.beq hh xs.length<;>cases h2':Nat.beq k 1<;>simp only[cond_true,cond_false]
       ·exact z4o κ 0 z0 b o 0 hz1 (.inl rfl)
       ·exact z4o κ 0 z0 b o 0 hz1 (.inl rfl)
       ·exact z4o κ 0 z0 b o 0 hz1 (.inl rfl)
       ·exact z4o κ 1 z0 b o 0 hz1 (.inr ⟨rfl,rfl⟩)
     ·simp only[hm,if_false]
      rw[hzl]
      cases h1':Nat.beq hh xs.length with
      | false=>exact zc1 hx' c1 c2 _ (by omega) (.inl rfl)
      | true =>
       have e0:=z03.1 h1'
       simp only[cond_true]
       cases h2':Nat.beq k 1 with
       | true =>
        have:=hk1 (z03.1 h2')
        exact zc1 hx' c1 c2 _ (by omega) (.inr ⟨rfl,by omega⟩)
       | false =>
        simp only[cond_false]
        cases h3':Nat.beq l 0 with
        | false=>exact zc1 hx' c1 c2 _ (by omega) (.inl rfl)
        | true =>
         have e1':=z03.1 h3'
         subst e1'
         subst e0
         simp only[cond_true,Nat.zero_mul,Nat.add_zero,Nat.sub_zero,List.drop_zero,List.take_length]
         exact hx'
    | some y =>
     simp only at h
     split at h
     ·rename_i m e3
      obtain⟨cm,h⟩:=z00 h
      cases h
      have cm:=z03.1 cm
      subst cm
      have hr:=run (some ⟨b,o,none⟩) xs.length cp l m m rfl e1 e2 (.inr ⟨y,rfl,e3,hmx.resolve_left (by simp)⟩) c1 (by omega) (by omega)
      rw[hadd] at hr
      refine⟨_,hr,?_⟩
      by_cases hm:m=l
      ·subst hm
       simp only[if_true,Nat.sub_self]
       have hd:(xs.take m).drop m=[]:=by simp
       rw[hd]
       exact z4o κ 1 z0 b o 0 hz1 (.inr ⟨rfl,rfl⟩)
      ·simp only[hm,if_false]
       rw[hzl]
       exact zc1 hx' c1 c2 _ (by omega) (.inr ⟨rfl,rfl⟩)
     ·cases h
  ·cases h
 case hs l0 z0 sz off n ex =>
  split at h
  ·rename_i l hh e1 e2
   obtain⟨hc,h⟩:=z00 h
   simp only[Bool.and_eq_true,Nat.ble_eq,Bool.or_eq_true,z03] at hc
   obtain⟨c1,c2,c3⟩:=hc
   have hzl:l * z=l * z0:=by rcases c3 with c3 | c3<;>simp[c3]
   cases hx with
   | hs hv hin hsz hcap hz1 =>
    rename_i b c cp
    have hcp:n≤cp:=by rw[hcap]; split<;>omega
    have hadd:∀ m,(if m=l then (some ⟨b,off * z0,none⟩:Option Addr) else (some (⟨b,off * z0,none⟩:Addr)).map (·.add (l * z)))=some ⟨b,if m=l then off * z0 else (off+l) * z0,none⟩:=by
     intro m; split
     ·rfl
     ·simp[z1f,hzl,Nat.add_mul]
    cases mx with
    | none =>
     have hr:=run (some ⟨b,off * z0,none⟩) n cp l hh cp rfl e1 e2 (.inl ⟨rfl,rfl⟩) c1 (by omega) (by omega)
     rw[hadd] at hr
     refine⟨_,hr,?_⟩
     simp only at h
     cases hle:(Nat.beq l hh && Nat.ble 1 l) with
     | true =>
      rw[hle] at h
      simp only[cond_true,Option.some.injEq] at h
      subst h
      simp only[Bool.and_eq_true,z03] at hle
      rw[hle.1,Nat.sub_self]
      exact z4o κ 0 z0 _ _ _ hz1 (.inl rfl)
     | false =>
      rw[hle] at h
      have hl0:l=hh→l=0:=by
       intro e
       have h1:Nat.beq l hh=true:=z03.2 e
       rw[h1,Bool.true_and] at hle
       have:¬ 1≤l:=fun h2=>by rw[Nat.ble_eq_true_of_le h2] at hle; cases hle
       omega
      have hbase:(if cp=l then off * z0 else (off+l) * z0)=(off+l) * z0:=by
       split
       ·have:l=0:=hl0 (by omega)
        simp[this]
       ·rfl
      rw[hbase]
      cases ex with
      | true =>
       simp only[cond_true,cond_false] at h
       cases hb:Nat.beq hh n with
       | false=>rw[hb] at h; simp at h
       | true =>
        rw[hb] at h
        simp only[cond_true,Option.some.injEq] at h
        subst h
        have:=z03.1 hb
        subst this
        exact .hs hv (by omega) hsz (by simp at hcap ⊢; omega) hz1
      | false =>
       simp only[cond_false,Option.some.injEq] at h
       subst h
       exact .hs hv (by omega) hsz (by simp at hcap ⊢; omega) hz1
    | some y =>
     simp only at h
     split at h
     ·rename_i m e3
      obtain⟨cm,h⟩:=z00 h
      cases h
      have cm:=z03.1 cm
      subst cm
      have hr:=run (some ⟨b,off * z0,none⟩) n cp l m m rfl e1 e2 (.inr ⟨y,rfl,e3,hmx.resolve_left (by simp)⟩) c1 (by omega) (by omega)
      rw[hadd] at hr
      refine⟨_,hr,?_⟩
      by_cases hm:m=l
      ·subst hm
       simp only[if_true,Nat.sub_self]
       exact .hsnil hv hz1
      ·simp only[hm,if_false]
       exact .hs hv (by omega) hsz (by simp) hz1
     ·cases h
   | hsnil hv hz1 =>
    have hl0:l=0:=by omega
    have hh0:hh=0:=by omega
    subst hl0; subst hh0
    cases mx with
    | none =>
     have hr:=run _ 0 0 0 0 0 rfl e1 e2 (.inl ⟨rfl,rfl⟩) (by omega) (by omega) (by omega)
     refine⟨_,hr,?_⟩
     have hb1:(Nat.beq 0 0 && Nat.ble 1 0)=false:=rfl
     simp only[hb1,cond_false,cond_true,Nat.beq_refl,Option.some.injEq] at h
     have:v=.hs l0 z0 sz (off+0) (0 - 0) true:=by
      have hb2:(true && Nat.ble 1 0)=false:=rfl
      rw[hb2] at h; simpa using h.symm
     rw[this]
     simp only[if_true,Nat.sub_self]
     exact .hsnil hv hz1
    | some y =>
     simp only at h
     split at h
     ·rename_i m e3
      obtain⟨cm,h⟩:=z00 h
      cases h
      have cm:=z03.1 cm
      subst cm
      have hr:=run _ 0 0 0 0 0 rfl e1 e2 (.inr ⟨y,rfl,e3,hmx.resolve_left (by simp)⟩) (by omega) (by omega) (by omega)
      refine⟨_,hr,?_⟩
      simp only[if_true,Nat.sub_self]
      exact .hsnil hv hz1
     ·cases h
  ·cases h
theorem sla_sim {t el:TypeId} {s:Tm} {a v:AV} {m:Nat} {x:Value} {lo hi:Option AX} {lov hiv:Option Value} (hu:P.underlying t=some (.array m el)) (hz:z13 P el=some 1) (hx:VR κ a x) (h1:OptR κ s lo lov) (h2:OptR κ s hi hiv)
  (h:slaA s m lo hi a=some v) (w:World):∃ u,(Instr.sliceAt t x lov hiv none).run P w=.ok u w∧VR κ v u:=by
 cases a<;>simp only[slaA,reduceCtorEq] at h
 case ptr l off =>
  unfold slaH at h
  split at h
  ·rename_i i j e1 e2
   obtain⟨hc,h'⟩:=z00 h
   cases h'
   simp only[Bool.and_eq_true,Nat.ble_eq] at hc
   cases hx with
   | ptr hb =>
    rename_i b
    have hr:=z3j (P:=P) (b:=false) (cp:=m) (m:=m) h1 h2 (show OptR κ s none none from trivial) e1 e2 (.inl ⟨rfl,rfl⟩) hc.1 hc.2 (Nat.le_refl _) w
    refine⟨.slice (some ⟨b,if m=i then off else off+i,none⟩) (j - i) (m - i),?_,.as hb ?_ (by omega)⟩
    ·by_cases hm:m=i
     ·subst hm
      simp[Instr.sliceAt,run_underlying hu,Instr.sureAddr,hr,z0t w hz]
     ·simp[Instr.sliceAt,run_underlying hu,Instr.sureAddr,hr,z0t w hz,z1f,hm]
    ·by_cases hm:m=i
     ·left; omega
     ·right; simp[hm]
  ·cases h
end
end Go.Abs
