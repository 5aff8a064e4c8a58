/- On the way to: ValuePlain returns true; its listed variables read as the text lays them. -/
import Derived.Test.YtihoajjpninnoaaGreatDoorC1
import Derived.Test.YtihoajjpninnoaaGreatDoorC2
import Derived.Test.YtihoajjpninnoaaGreatDoorB5
import Derived.Test.YtihoajjpninnoaaGreatDoorB4
import Derived.Test.YtihoajjpninnoaaGreatDoorB6
set_option autoImplicit false
set_option linter.unusedSectionVars false
set_option linter.unusedSimpArgs false
set_option linter.unusedVariables false
namespace Go.Abs.Run
open Go Go.Abs
attribute [local simp] oM oN oF oE oQ oP oG oL oR oC oX oS oY vi vj vu vz ci cu eI eS eB
attribute [local simp] s0 t0 s1 t1 s2 t2 s3 t3 s4 t4 s5 t5 s6 t6 s7 t7 s8 t8 s9 t9 s10 t10 s11 t11 s12 t12 s13 t13 s14 t14 s15 t15 s16 t16 s17 t17 s18 t18 s19 t19 s20 t20 s21 t21 s22 t22 s23 t23 s24 t24 s25 t25 s26 t26 s27 t27 s28 t28 s29 t29 s30 t30 s31 t31 s32 t32 s33 t33 s34 t34 s35 t35 s36 t36 s37 t37 s38 t38 s39 t39 s40 t40 s41 t41 s42 t42 s43 t43 s44 t44 s45 t45 s46 t46 s47 t47 s48 t48 s49 t49 s50 t50 s51 t51 s52 t52 s53 t53 s54 t54 s55 t55 s56 t56 s57 t57 s58 t58 s59 t59
variable {P:Nat→Option FI} {I:Nat→Option z0b}
structure LBuilder (P:Nat→Option FI) (I:Nat→Option z0b):Prop where
 iNE:I 239=some iNo
 p79:P 79=some f79
 i79:I 79=none
 p139:P 139=some f139
 i139:I 139=none
 p141:P 141=some f141
 i141:I 141=none
 p142:P 142=some f142
 i142:I 142=none
 p191:P 191=some f191
 i191:I 191=none
theorem len_law (L:LBuilder P I) {W:List Lo} {fid:Nat} {e:E} {l:Lo} {t:Nat} {a:AV} {k z:Nat} {b:List AV}
   (hl:e.get l=.cells t [a,.sl k z b]) (hf:lof l fid=false) :
   cal P I 142 [.ptr l 0] W fid e=.ret (.int .i64 b.length) e:=by
 refine z1s L.i142 L.p142 rfl (by simp) ?_
 simp[f142,z0k,hf,hl]
theorem zbm (L:LBuilder P I) {W:List Lo} {fid:Nat} {e:E} {l:Lo} {x:AV}
   (hl:e.get l=.cells 173 [.nilp,x]) (hf:lof l fid=false) (hW:free W l=true) :
   cal P I 191 [.ptr l 0] W fid e=.ret (.tup []) (e.set l (.cells 173 [.ptr l 0,x])):=by
 refine z1s L.i191 L.p191 rfl (by simp) ?_
 have hNE:∀ fid e,cal P I 239 [.ptr l 0] W fid e=.ret (.ptr l 0) e:=fun fid e=>z2g L.iNE rfl
 simp[f191,z0k,z0w,hf,hl,hNE,hW,cvuA,cvuO,cvpA,cvpO,okIn,room]
theorem zbn (L:LBuilder P I) {W:List Lo} {fid:Nat} {e:E} {l:Lo} {x:AV}
   (hl:e.get l=.cells 173 [.ptr l 0,x]) (hf:lof l fid=false) :
   cal P I 191 [.ptr l 0] W fid e=.ret (.tup []) e:=by
 refine z1s L.i191 L.p191 rfl (by simp) ?_
 simp[f191,z0k,hf,hl]
def Tkt (e:E) (k z:Nat) (b:List AV):Prop:=(k=1∧z=0∧b=[])∨(z=1∧k % 2=1∧2≤k∧e.live k=true)
theorem za7 (L:LBuilder P I) {W:List Lo} {fid:Nat} {e:E} {l:Lo} {b:List AV} {c k z:Nat}
   (h1:e.get l=.cells 173 [.ptr l 0,.sl k z b]) (h3:Tkt e k z b) (hb:b.length+1 < big) (hf:Out l fid) (hW:free W l=true) :
   cal P I 141 [.ptr l 0,.int .u8 c] W fid e=.ret .nili ((grow e k (z0e fid 1) l).set l (.cells 173 [.ptr l 0,.sl (z0e fid 1) 1 (b++[.int .u8 c])])):=by
 have hcc:∀ W f x y,lof l f=false→cal P I 191 [.ptr l 0] W f (psh ⟨fid,x,y⟩ e)=.ret (.tup []) (psh ⟨fid,x,y⟩ e):=fun W f x y hf'=>zbn L (x:=.sl k z b) (by rw[z0k (by simpa using hf.lof)]; exact h1) hf'
 refine z1s L.i141 L.p141 rfl (by simp) ?_
 rcases h3 with⟨rfl,rfl,rfl⟩ | ⟨rfl,h4,h5,h6⟩
 ·simp[f141,z0k,z0w,z4l,hf.lof,(hf.child 0 (by decide)).lof,h1,hW,hcc,elems,z0t,appE,appV,z5d,is8,ticket,z1h,tick,room,grow,(by decide:1 < big)]
 ·have h7:k≠1:=by omega
  simp[f141,z0k,z0w,z4l,hf.lof,(hf.child 0 (by decide)).lof,h1,hW,hcc,elems,z0t,appE,appV,z5d,is8,ticket,z1h,tick,room,grow,hb,h4,h5,h6,h7]
theorem za8 (L:LBuilder P I) {W:List Lo} {fid:Nat} {e:E} {l:Lo} {c:Nat}
   (h1:e.get l=.cells 173 [.nilp,.sl 1 0 []]) (hf:Out l fid) (hW:free W l=true) :
   cal P I 141 [.ptr l 0,.int .u8 c] W fid e=.ret .nili ((grow (e.set l (.cells 173 [.ptr l 0,.sl 1 0 []])) 1 (z0e fid 1) l).set l (.cells 173 [.ptr l 0,.sl (z0e fid 1) 1 [.int .u8 c]])):=by
 have hcc:∀ W f x y,lof l f=false→free W l=true→cal P I 191 [.ptr l 0] W f (psh ⟨fid,x,y⟩ e)=.ret (.tup []) (psh ⟨fid,x,y⟩ (e.set l (.cells 173 [.ptr l 0,.sl 1 0 []]))):=fun W f x y hf' hW'=>by
  rw[zbm L (x:=.sl 1 0 []) (by rw[z0k (by simpa using hf.lof)]; exact h1) hf' hW',z0w (by simpa using hf.lof)]
 have h2:(e.set l (.cells 173 [.ptr l 0,.sl 1 0 []])).get l=.cells 173 [.ptr l 0,.sl 1 0 []]:=E.get_set_same _ _ _ (by rw[h1]; simp)
 refine z1s L.i141 L.p141 rfl (by simp) ?_
 simp[f141,z0k,z0w,z4l,hf.lof,(hf.child 0 (by decide)).lof,h2,hW,hcc,elems,z0t,appE,appV,z5d,is8,ticket,z1h,tick,room,grow,(by decide:1 < big)]
theorem z7w (L:LBuilder P I) {W:List Lo} {fid:Nat} {e:E} {l:Lo} {b:List AV} {c:List Nat} {k z:Nat}
   (h1:e.get l=.cells 173 [.ptr l 0,.sl k z b]) (h3:Tkt e k z b) (hc:c≠[]) (hb:b.length+c.length < big) (hf:Out l fid) (hW:free W l=true) :
   cal P I 139 [.ptr l 0,.str c] W fid e=.ret (.tup [.int .i64 c.length,.nili]) ((grow e k (z0e fid 1) l).set l (.cells 173 [.ptr l 0,.sl (z0e fid 1) 1 (b++z08 c)])):=by
 have hcc:∀ W f x y,lof l f=false→cal P I 191 [.ptr l 0] W f (psh ⟨fid,x,y⟩ e)=.ret (.tup []) (psh ⟨fid,x,y⟩ e):=fun W f x y hf'=>zbn L (x:=.sl k z b) (by rw[z0k (by simpa using hf.lof)]; exact h1) hf'
 have hlen:∀ c,(z08 c).length=c.length:=fun c=>by induction c with | nil=>rfl | cons a c ih=>simp[z08,ih]
 have hne:(z08 c).isEmpty=false:=by cases c with | nil=>exact absurd rfl hc | cons a c=>rfl
 refine z1s L.i139 L.p139 rfl (by simp) ?_
 rcases h3 with⟨rfl,rfl,rfl⟩ | ⟨rfl,h4,h5,h6⟩
 ·have hb':c.length < big:=by simpa using hb
  simp[f139,z0k,z0w,z4l,hf.lof,(hf.child 0 (by decide)).lof,h1,hW,hcc,elems,z0t,appE,appV,z5d,is8,ticket,z1h,tick,room,grow,hb',hlen,hne]
 ·have h7:k≠1:=by omega
  simp[f139,z0k,z0w,z4l,hf.lof,(hf.child 0 (by decide)).lof,h1,hW,hcc,elems,z0t,appE,appV,z5d,is8,ticket,z1h,tick,room,grow,hb,h4,h5,h6,h7,hlen,hne]
theorem z7x (L:LBuilder P I) {W:List Lo} {fid:Nat} {e:E} {l:Lo} {c:List Nat}
   (h1:e.get l=.cells 173 [.nilp,.sl 1 0 []]) (hc:c≠[]) (hb:c.length < big) (hf:Out l fid) (hW:free W l=true) :
   cal P I 139 [.ptr l 0,.str c] W fid e=.ret (.tup [.int .i64 c.length,.nili]) ((grow (e.set l (.cells 173 [.ptr l 0,.sl 1 0 []])) 1 (z0e fid 1) l).set l (.cells 173 [.ptr l 0,.sl (z0e fid 1) 1 (z08 c)])):=by
 have hcc:∀ W f x y,lof l f=false→free W l=true→cal P I 191 [.ptr l 0] W f (psh ⟨fid,x,y⟩ e)=.ret (.tup []) (psh ⟨fid,x,y⟩ (e.set l (.cells 173 [.ptr l 0,.sl 1 0 []]))):=fun W f x y hf' hW'=>by
  rw[zbm L (x:=.sl 1 0 []) (by rw[z0k (by simpa using hf.lof)]; exact h1) hf' hW',z0w (by simpa using hf.lof)]
 have h2:(e.set l (.cells 173 [.ptr l 0,.sl 1 0 []])).get l=.cells 173 [.ptr l 0,.sl 1 0 []]:=E.get_set_same _ _ _ (by rw[h1]; simp)
 have hlen:∀ c,(z08 c).length=c.length:=fun c=>by induction c with | nil=>rfl | cons a c ih=>simp[z08,ih]
 have hne:(z08 c).isEmpty=false:=by cases c with | nil=>exact absurd rfl hc | cons a c=>rfl
 refine z1s L.i139 L.p139 rfl (by simp) ?_
 simp[f139,z0k,z0w,z4l,hf.lof,(hf.child 0 (by decide)).lof,h2,hW,hcc,elems,z0t,appE,appV,z5d,is8,ticket,z1h,tick,room,grow,hb,hlen,hne]
theorem z2z:∀ {c:List Nat},(∀ x∈c,x < 256)→bytesOf (z08 c)=some c
 | [],_=>rfl
 | a::c,h=>by
  have:=z2z (c:=c) (fun x hx=>h x (List.mem_cons_of_mem _ hx))
  have ha:=h a (List.mem_cons_self ..)
  simp[z08,bytesOf,this,z99,zai,zah,ha]
theorem z94 (L:LBuilder P I) {W:List Lo} {fid t:Nat} {e:E} {l:Lo} {a:AV} {k z:Nat} {c:List Nat}
   (h1:e.get l=.cells t [a,.sl k z (z08 c)]) (h3:(k=1∧z=0∧c=[])∨(z=1∧k % 2=1∧2≤k∧c≠[])) (hc:∀ x∈c,x < 256) (hb:c.length < 4294967296) (hf:lof l fid=false) :
   cal P I 79 [.ptr l 0] W fid e=.ret (.str c) e:=by
 have hlen:∀ c,(z08 c).length=c.length:=fun c=>by induction c with | nil=>rfl | cons a c ih=>simp[z08,ih]
 refine z1s L.i79 L.p79 rfl (by simp) ?_
 rcases h3 with⟨rfl,rfl,rfl⟩ | ⟨rfl,h4,h5,h6⟩
 ·simp[f79,z0k,hf,h1,usdA,ustA,ustD,z08,bytesOf,strO]
 ·have h7:0 < c.length:=by cases c with | nil=>exact absurd rfl h6 | cons a c=>simp
  have hne:(z08 c).isEmpty=false:=by cases c with | nil=>exact absurd rfl h6 | cons a c=>rfl
  simp[f79,z0k,hf,h1,usdA,ustA,ustD,strO,hlen,h7,h4,h5,hb,z2z hc]
def unB:List AV→List Nat
 | .int _ (.ofNat n)::r=>n::unB r
 | _=>[]
@[simp] theorem unB_byteVs (c:List Nat):unB (z08 c)=c:=by induction c with | nil=>rfl | cons a c ih=>show a::unB (z08 c)=_; rw[ih]
@[simp] theorem zex (a b:List Nat):z08 a++z08 b=z08 (a++b):=by induction a with | nil=>rfl | cons x a ih=>simp[z08,ih]
@[simp] theorem byteVs_length (c:List Nat):(z08 c).length=c.length:=by induction c with | nil=>rfl | cons a c ih=>simp[z08,ih]
@[simp] theorem zjy (c:List Nat):z08 c=[]↔c=[]:=by cases c<;>simp[z08]
@[simp] theorem zco (b:List Nat) (c:Nat):z08 b++[AV.int .u8 (c:Int)]=z08 (b++[c]):=by rw[← zex]; rfl
@[simp] theorem byteVs_snoc' (b:List Nat) (c:Nat):z08 b++[AV.int .u8 (no_index (OfNat.ofNat c))]=z08 (b++[no_index (OfNat.ofNat c)]):=zco b c
def okB (e:E) (l:Lo) (n:Nat):Prop :=
 match e.get l with
 | .cells t [a,.sl k z b]=>t=173∧((a=.nilp∧k=1∧z=0∧b=[])∨(a=.ptr l 0∧Tkt e k z b))∧b.length+n < big
 | _=>False
theorem z30 (e:E) (l:Lo) (n:Nat):okB e l n↔match e.get l with
  | .cells t [a,.sl k z b]=>t=173∧((a=.nilp∧k=1∧z=0∧b=[])∨(a=.ptr l 0∧Tkt e k z b))∧b.length+n < big
  | _=>False:=⟨fun h=>by unfold okB at h; exact h,fun h=>by unfold okB; exact h⟩
noncomputable def wrB (e:E) (l:Lo) (k':Nat) (c:List Nat):E :=
 match e.get l with
 | .cells t [.nilp,_]=>(grow (e.set l (.cells t [.ptr l 0,.sl 1 0 []])) 1 k' l).set l (.cells t [.ptr l 0,.sl k' 1 (z08 c)])
 | .cells t [_,.sl k _ b]=>(grow e k k' l).set l (.cells t [.ptr l 0,.sl k' 1 (b++z08 c)])
 | _=>e
theorem wB (L:LBuilder P I) {W:List Lo} {fid:Nat} {e:E} {l:Lo} {c:Int} (hf:Out l fid) (hW:free W l=true) (hc:0≤c) (h:okB e l 1) :
  cal P I 141 [.ptr l 0,.int .u8 c] W fid e=.ret .nili (wrB e l (z0e fid 1) [c.toNat]):=by
 obtain⟨c,rfl⟩:=Int.eq_ofNat_of_zero_le hc
 rw[Int.toNat_natCast]
 unfold okB at h
 split at h
 ·next t a k z b hl =>
  obtain⟨rfl,⟨rfl,rfl,rfl,rfl⟩ | ⟨rfl,h1⟩,h2⟩:=h
  ·rw[za8 L hl hf hW]; simp[wrB,hl,z08]
  ·rw[za7 L hl h1 h2 hf hW]; simp[wrB,hl,z08]
 ·exact h.elim
theorem wS (L:LBuilder P I) {W:List Lo} {fid:Nat} {e:E} {l:Lo} {c:List Nat} (hf:Out l fid) (hW:free W l=true) (hc:c≠[]) (h:okB e l c.length) :
  cal P I 139 [.ptr l 0,.str c] W fid e=.ret (.tup [.int .i64 c.length,.nili]) (wrB e l (z0e fid 1) c):=by
 unfold okB at h
 split at h
 ·next t a k z b hl =>
  obtain⟨rfl,⟨rfl,rfl,rfl,rfl⟩ | ⟨rfl,h1⟩,h2⟩:=h
  ·rw[z7x L hl hc (by simpa using h2) hf hW]; simp[wrB,hl]
  ·rw[z7w L hl h1 hc h2 hf hW]; simp[wrB,hl]
 ·exact h.elim
noncomputable def lnB (e:E) (l:Lo):Option Nat:=match e.get l with | .cells _ [_,.sl _ _ b]=>some b.length | _=>none
theorem lB (L:LBuilder P I) {W:List Lo} {fid:Nat} {e:E} {l:Lo} (hf:Out l fid) (h:(lnB e l).isSome=true) :
  cal P I 142 [.ptr l 0] W fid e=.ret (.int .i64 ((lnB e l).getD 0:Nat)) e:=by
 unfold lnB at h ⊢
 split at h
 ·next hl=>rw[len_law L hl hf.lof]; rfl
 ·cases h
def B8 (l:List Nat):Prop:=∀ x∈l,x < 256
@[simp] theorem B8_nil:B8 []:=fun x hx=>by cases hx
@[simp] theorem B8_cons (a:Nat) (l:List Nat):B8 (a::l)↔a < 256∧B8 l:=by simp[B8]
@[simp] theorem B8_app (a b:List Nat):B8 (a++b)↔B8 a∧B8 b:=by simp[B8,or_imp,forall_and]
def okS (e:E) (l:Lo):Prop :=
 match e.get l with
 | .cells _ [_,.sl k z b]=>((k=1∧z=0∧b=[])∨(z=1∧k % 2=1∧2≤k∧unB b≠[]∧z08 (unB b)=b∧B8 (unB b)∧b.length < 4294967296))
 | _=>False
theorem za9 (e:E) (l:Lo):okS e l↔match e.get l with
  | .cells _ [_,.sl k z b]=>((k=1∧z=0∧b=[])∨(z=1∧k % 2=1∧2≤k∧unB b≠[]∧z08 (unB b)=b∧B8 (unB b)∧b.length < 4294967296))
  | _=>False:=⟨fun h=>by unfold okS at h; exact h,fun h=>by unfold okS; exact h⟩
noncomputable def txB (e:E) (l:Lo):List Nat:=match e.get l with | .cells _ [_,.sl _ _ b]=>unB b | _=>[]
theorem sB (L:LBuilder P I) {W:List Lo} {fid:Nat} {e:E} {l:Lo} (hf:Out l fid) (h:okS e l) :
  cal P I 79 [.ptr l 0] W fid e=.ret (.str (txB e l)) e:=by
 unfold okS at h
 unfold txB
 split at h
 ·next t a k z b hl =>
  rcases h with⟨rfl,rfl,rfl⟩ | ⟨rfl,h1,h2,h3,h4,h5,h6⟩
  ·exact z94 L (c:=[]) hl (.inl ⟨rfl,rfl,rfl⟩) (by simp) (by simp) hf.lof
  ·exact z94 L (c:=unB b) (by rw[h4]; exact hl) (.inr ⟨rfl,h1,h2,h3⟩) h5 (by rw[← h4] at h6; simpa using h6) hf.lof
 ·exact h.elim
end Go.Abs.Run
namespace Go.Abs.Run
open Go Go.Abs
attribute [local simp] oM oN oF oE oQ oP oG oL oR oC oX oS oY vi vj vu vz ci cu eI eS eB
attribute [local simp] s0 t0 s1 t1 s2 t2 s3 t3 s4 t4 s5 t5 s6 t6 s7 t7 s8 t8 s9 t9 s10 t10 s11 t11 s12 t12 s13 t13 s14 t14 s15 t15 s16 t16 s17 t17 s18 t18 s19 t19 s20 t20 s21 t21 s22 t22 s23 t23 s24 t24 s25 t25 s26 t26 s27 t27 s28 t28 s29 t29 s30 t30 s31 t31 s32 t32 s33 t33 s34 t34 s35 t35 s36 t36 s37 t37 s38 t38 s39 t39 s40 t40 s41 t41 s42 t42 s43 t43 s44 t44 s45 t45 s46 t46 s47 t47 s48 t48 s49 t49 s50 t50 s51 t51 s52 t52 s53 t53 s54 t54 s55 t55 s56 t56 s57 t57 s58 t58 s59 t59
variable {P:Nat→Option FI} {I:Nat→Option z0b}
structure LQuote (P:Nat→Option FI) (I:Nat→Option z0b):Prop extends LBuilder P I where
 pQ:P 272=some f272
 iQ:I 272=none
def quo (c:Nat):List Nat:=if c=10 then [92,110] else if c=34∨c=92 then [92,c] else [c]
theorem zey (L:LBuilder P I) {W:List Lo} {fid:Nat} {e:E} {S:List Nat} {i c:Nat} {N:Int} {s:Tm} {cnt k:Nat} {p:Ob} {live:List Nat} {b:List Nat}
  (h0:s.get .e=.str S) (h7:s.get (.l (.l (.l .e)))=.int .i64 N) (h8:s.get (.r (.l (.l .e)))=.int .i64 i) (h3:s.get (.l (.l .e))=.ptr (.lo fid 0 1) 0) (hx:S[i]?=some c) (hi:(i:Int) < N) (hN:N < 1000000)
  (hk:k % 2=1) (hk2:2≤k) (hl:z0l live k=true) (hcnt:cnt+2 < 1048000) (hb:b.length+2 < big) (hW:free W (.lo fid 0 1)=true) :
  ∃ s' cnt' k' live' e',runW (cal P I) fid W z67 ⟨s,cnt⟩ (psh ⟨fid,[(1,.cells 173 [.ptr (.lo fid 0 1) 0,.sl k 1 (z08 b)],p)],live⟩ e) =
   .go ⟨s',cnt'⟩ (psh ⟨fid,[(1,.cells 173 [.ptr (.lo fid 0 1) 0,.sl k' 1 (z08 (b++quo c))],p)],live'⟩ e') ∧
   s'.get .e=.str S∧s'.get (.l (.l (.l .e)))=.int .i64 N∧s'.get (.r (.l (.l .e)))=.int .i64 (i+1:Nat)∧s'.get (.l (.l .e))=.ptr (.lo fid 0 1) 0∧k' % 2=1∧2≤k'∧z0l live' k'=true∧cnt'≤cnt+2:=by
 have hout:∀ c,Out (.lo fid 0 1) (child fid c):=fun c=>Out.own fid 0 1 c
 have hi':IntKind.i64.wrap ((i:Int)+1)=(i:Int)+1:=z0r (by omega) (by omega)
 have hb1:b.length+1 < big:=by omega
 have hr1:cnt < 1048000:=by omega
 have hr2:cnt+1 < 1048000:=by omega
 have hk3:k≠1:=by omega
 have hb2:b.length+1+1 < big:=hb
 by_cases h10:c=10
 ·subst h10
  simp[z67,Tm.get_set,h0,h7,h8,h3,hx,hi,hi',z0h,wS L,wB L,hout,hW,z30,wrB,Tkt,hk,hk2,hl,hb,hb1,hb2,room,hr1,hr2,grow,hk3,quo,z1t,and_assoc]
 ·have h10':¬ (c:Int)=10:=by omega
  by_cases h34:c=34
  ·subst h34
   simp[z67,Tm.get_set,h0,h7,h8,h3,hx,hi,hi',z0h,wS L,wB L,hout,hW,z30,wrB,Tkt,hk,hk2,hl,hb,hb1,hb2,room,hr1,hr2,grow,hk3,quo,z1t,and_assoc]
  ·have h34':¬ (c:Int)=34:=by omega
   by_cases h92:c=92
   ·subst h92
    simp[z67,Tm.get_set,h0,h7,h8,h3,hx,hi,hi',z0h,wS L,wB L,hout,hW,z30,wrB,Tkt,hk,hk2,hl,hb,hb1,hb2,room,hr1,hr2,grow,hk3,quo,z1t,and_assoc]
   ·have h92':¬ (c:Int)=92:=by omega
    simp[z67,Tm.get_set,h0,h7,h8,h3,hx,hi,hi',z0h,wS L,wB L,hout,hW,z30,wrB,Tkt,hk,hk2,hl,hb,hb1,hb2,room,hr1,hr2,grow,hk3,quo,z1t,and_assoc,h10,h34,h92,h10',h34',h92']
theorem zhc (c:Nat):(quo c).length≤2:=by unfold quo; split<;>(try split)<;>simp
def QEnd (fid:Nat) (p:Ob) (b:List Nat) (q:List Nat) (most:Nat) (x:R):Prop :=
 ∃ s' cnt' k' live' e',x=.exit 0 ⟨s',cnt'⟩ (psh ⟨fid,[(1,.cells 173 [.ptr (.lo fid 0 1) 0,.sl k' 1 (z08 (b++q))],p)],live'⟩ e') ∧
   s'.get (.l (.l .e))=.ptr (.lo fid 0 1) 0∧k' % 2=1∧2≤k'∧z0l live' k'=true∧cnt'≤most
theorem zez (L:LBuilder P I) {W:List Lo} {fid:Nat} {S:List Nat} {N:Int} {p:Ob} (hN:N=S.length) (hN':N < 1000000) (hW:free W (.lo fid 0 1)=true) :
  ∀ (r:List Nat) (i:Nat) (s:Tm) (cnt k:Nat) (live:List Nat) (b:List Nat) (e:E),S.drop i=r→i≤S.length→s.get .e=.str S→s.get (.l (.l (.l .e)))=.int .i64 N→s.get (.r (.l (.l .e)))=.int .i64 i→s.get (.l (.l .e))=.ptr (.lo fid 0 1) 0 →
  k % 2=1→2≤k→z0l live k=true→cnt+2 * r.length < 1048000→b.length+2 * r.length < big →
  QEnd fid p b (r.flatMap quo) (cnt+2 * r.length) (lp (runW (cal P I) fid W z67) ⟨s,cnt⟩ (psh ⟨fid,[(1,.cells 173 [.ptr (.lo fid 0 1) 0,.sl k 1 (z08 b)],p)],live⟩ e)):=by
 intro r
 induction r with
 | nil =>
  intro i s cnt k live b e hd hi h0 h7 h8 h3 hk hk2 hl hcnt hb
  have hi':i=S.length:=by have:=congrArg List.length hd; simp at this; omega
  have hlt:¬ (i:Int) < N:=by omega
  rw[z3d]
  simp[QEnd,z67,Tm.get_set,h0,h7,h8,h3,hlt,hk,hk2,hl,and_assoc]
 | cons c r ih =>
  intro i s cnt k live b e hd hi h0 h7 h8 h3 hk hk2 hl hcnt hb
  have hlen:=congrArg List.length hd
  simp only[List.length_drop,List.length_cons] at hlen
  have hx:S[i]?=some c:=by rw[← List.head?_drop,hd]; rfl
  have hd':S.drop (i+1)=r:=by rw[← List.drop_drop,hd]; rfl
  simp only[List.length_cons] at hcnt hb
  obtain⟨s1,cnt1,k1,live1,e1,g0,g1,g2,g3,g4,g5,g6,g7,g8⟩:=zey (p:=p) (e:=e) (b:=b) (cnt:=cnt) L h0 h7 h8 h3 hx (by omega) hN' hk hk2 hl (by omega) (by omega) hW
  have hq:=zhc c
  obtain⟨s2,cnt2,k2,live2,e2,f0,f1,f2,f3,f4,f5⟩:=ih (i+1) s1 cnt1 k1 live1 (b++quo c) e1 hd' (by omega) g1 g2 g3 g4 g5 g6 g7 (by omega) (by simp; omega)
  refine⟨s2,cnt2,k2,live2,e2,?_,f1,f2,f3,f4,by simp only[List.length_cons]; omega⟩
  rw[z3d,g0]
  simp only[R.bind]
  rw[f0]
  simp
def z1 (S:List Nat):List Nat:=34::(S.flatMap quo++[34])
theorem zhd (L:LQuote P I) {W:List Lo} {fid:Nat} {e:E} {S:List Nat} (hS:B8 S) (hN:S.length < 500000) (hW:free W (.lo fid 0 0)=true) (hW':free W (.lo fid 0 1)=true) :
  ∃ e',cal P I 272 [.str S] W fid e=.ret (.str (z1 S)) e':=by
 have hout:∀ c,Out (.lo fid 0 1) (child fid c):=fun c=>Out.own fid 0 1 c
 have hbig:big=4294967296:=rfl
 refine z48 (Q:=fun r=>∃ e',r=.ret (.str (z1 S)) e') L.iQ L.pQ rfl (by simp) ?_
 simp[f272,room,wB L.toLBuilder,hout,hW,hW',z30,wrB,Tkt,grow,(by decide:1 < big)]
 simp only[z1j,z11]
 refine Wp.use (zez L.toLBuilder (S:=S) (N:=S.length) rfl (by omega) hW' S 0 _ _ _ _ _ _ rfl (by omega) ?_ ?_ ?_ ?_ (z1t _) (z52 _ _) ?_ ?_ ?_) ?_
 any_goals (simp; done)
 ·omega
 ·simp; omega
 rintro r ⟨s',cnt',k',live',e',rfl,h3,hk,hk2,hl,hc⟩
 have hk1:k'≠1:=by omega
 have hc1:cnt' < 1048000:=by omega
 have hc2:cnt'+1 < 1048000:=by omega
 have hfl:∀ S:List Nat,(S.flatMap quo).length≤2 * S.length:=fun S=>by
  induction S with
  | nil=>simp
  | cons a S ih=>have:=zhc a; simp only[List.flatMap_cons,List.length_append,List.length_cons]; omega
 have hfl:=hfl S
 have h256:B8 (S.flatMap quo):=fun x hx=>by
  obtain⟨a,ha,hx⟩:=List.mem_flatMap.1 hx
  have:=hS a ha
  unfold quo at hx
  split at hx
  ·simp at hx; omega
  ·split at hx
   ·simp at hx; omega
   ·simp at hx; omega
 unfold z1
 generalize S.flatMap quo=Q at *
 have hlen:Q.length+1+1 < big:=by omega
 have hlen':Q.length+1+1 < 4294967296:=by omega
 simp (maxDischargeDepth:=5) [Tm.get_set,h3,room,hc1,hc2,wB L.toLBuilder,sB L.toLBuilder,hout,hW',z30,za9,wrB,txB,Tkt,grow,hk,hk2,hl,hk1,hlen,hlen',z1t,h256]
end Go.Abs.Run
namespace Go.Abs.Run
open Go Go.Abs
attribute [local simp] oM oN oF oE oQ oP oG oL oR oC oX oS oY vi vj vu vz ci cu eI eS eB
attribute [local simp] s0 t0 s1 t1 s2 t2 s3 t3 s4 t4 s5 t5 s6 t6 s7 t7 s8 t8 s9 t9 s10 t10 s11 t11 s12 t12 s13 t13 s14 t14 s15 t15 s16 t16 s17 t17 s18 t18 s19 t19 s20 t20 s21 t21 s22 t22 s23 t23 s24 t24 s25 t25 s26 t26 s27 t27 s28 t28 s29 t29 s30 t30 s31 t31 s32 t32 s33 t33 s34 t34 s35 t35 s36 t36 s37 t37 s38 t38 s39 t39 s40 t40 s41 t41 s42 t42 s43 t43 s44 t44 s45 t45 s46 t46 s47 t47 s48 t48 s49 t49 s50 t50 s51 t51 s52 t52 s53 t53 s54 t54 s55 t55 s56 t56 s57 t57 s58 t58 s59 t59 s60 t60 s61 t61 s62 t62 s63 t63 s64 t64 s65 t65 s66 t66 s67 t67 s68 t68 s69 t69 s70 t70 s71 t71 s72 t72 s73 t73 s74 t74 s75 t75 s76 t76 s77 t77 s78 t78 s79 t79 s80 t80 s81 t81 s82 t82 s83 t83 s84 t84 s85 t85 s86 t86 s87 t87 s88 t88 s89 t89 s90 t90 s91 t91 s92 t92 s93 t93 s94 t94 s95 t95 s96 t96 s97 t97 s98 t98 s99 t99 s100 t100 s101 t101 s102 t102 s103 t103 s104 t104 s105 t105 s106 t106 s107 t107 s108 t108 s109 t109 s110 t110 s111 t111 s112 t112 s113 t113 s114 t114 s115 t115 s116 t116 s117 t117 s118 t118 s119 t119 s120 t120 s121 t121 s122 t122 s123 t123 s124 t124 s125 t125 s126 t126 s127 t127 s128 t128 s129 t129 s130 t130 s131 t131 s132 t132 s133 t133 s134 t134 s135 t135 s136 t136 s137 t137 s138 t138 s139 t139
variable {P:Nat→Option FI} {I:Nat→Option z0b}
def txt:List Nat→Option (List Nat × Nat)
 | []=>none
 | [92]=>none
 | 34::_=>some ([],1)
 | 92::x::r=>if x=110 then (txt r).map fun q=>(10::q.1,q.2+2) else if x=34∨x=92 then (txt r).map fun q=>(x::q.1,q.2+2) else none
 | x::r=>if x < 32∨126 < x then none else (txt r).map fun q=>(x::q.1,q.2+1)
def fine (c:Nat):Prop:=c=10∨(32≤c∧c≤126)
instance (c:Nat):Decidable (fine c):=inferInstanceAs (Decidable (_∨_))
theorem zaa {c:Nat} {r:List Nat} (h34:c≠34) (h92:c≠92):txt (c::r)=if c < 32∨126 < c then none else (txt r).map fun q=>(c::q.1,q.2+1):=by
 rw[txt.eq_def]
 split
 ·next h=>cases h
 ·next h=>simp at h; exact absurd h.1 h92
 ·next h=>simp at h; exact absurd h.1 h34
 ·next h=>simp at h; exact absurd h.1 h92
 ·next x r' _ _ _ h=>simp at h; obtain⟨rfl,rfl⟩:=h; rfl
theorem txt_quo (c:Nat) (r:List Nat):txt (quo c++r)=if fine c then (txt r).map fun q=>(c::q.1,q.2+(quo c).length) else none:=by
 unfold quo fine
 by_cases h10:c=10
 ·subst h10; simp[txt]
 ·by_cases h34:c=34
  ·subst h34; simp[txt]
  ·by_cases h92:c=92
   ·subst h92; simp[txt]
   ·simp only[h10,h34,h92,or_self,if_false,false_or,List.singleton_append]
    rw[zaa h34 h92]
    by_cases hc:32≤c∧c≤126
    ·have:¬ (c < 32∨126 < c):=by omega
     simp[hc,this]
    ·have:c < 32∨126 < c:=by omega
     simp[hc,this]
theorem zf (S:List Nat):txt (S.flatMap quo++[34])=if (∀ c∈S,fine c) then some (S,(S.flatMap quo).length+1) else none:=by
 induction S with
 | nil=>simp[txt]
 | cons c S ih =>
  rw[List.flatMap_cons,List.append_assoc,txt_quo,ih]
  by_cases hc:fine c
  ·by_cases hS:∀ c∈S,fine c
   ·have:∀ d∈c::S,fine d:=fun d hd=>(List.mem_cons.1 hd).elim (fun h=>h ▸ hc) (hS d)
    rw[if_pos hc,if_pos hS,if_pos this]; simp; omega
   ·have:¬ ∀ d∈c::S,fine d:=fun h=>hS fun d hd=>h d (List.mem_cons_of_mem _ hd)
    rw[if_pos hc,if_neg hS,if_neg this]; rfl
  ·have:¬ ∀ d∈c::S,fine d:=fun h=>hc (h c (List.mem_cons_self ..))
   rw[if_neg hc,if_neg this]
structure LText (P:Nat→Option FI) (I:Nat→Option z0b):Prop extends LBuilder P I where
 p298:P 298=some f298
 i298:I 298=none
 p319:P 319=some f319
 i319:I 319=none
theorem z4b (L:LText P I) {W:List Lo} {fid:Nat} {e:E} {at' why:Int} :
  cal P I 319 [.int .i64 at',.int .i64 why] W fid e=.ret (.ptr (.gl e.glo.length) 0) (e.addG (.cells 375 [.int .i64 at',.int .i64 why])):=by
 refine z1s L.i319 L.p319 rfl (by simp) ?_
 simp[f319]
def z1u (j:Lo) (o:Ob) (e e':E):Prop:=∃ ks,e'=(z2u ks e).set j o
theorem later1 (j:Lo) (o:Ob) (ks:List Nat) (e:E):z1u j o e ((z2u ks e).set j o):=⟨ks,rfl⟩
theorem later2 (j:Lo) (o o':Ob) (ks:List Nat) (e:E):z1u j o e ((z2u ks (e.set j o')).set j o):=⟨ks,by rw[zbg,zh1]⟩
theorem zdp (j:Lo) (o:Ob) (e:E):z1u j o e (e.set j o):=⟨[],rfl⟩
theorem z5v {e:E} {j:Lo} {o:Ob} (h:e.get j=o):z1u j o e e:=⟨[],by rw[z2u,zjt h]⟩
theorem z1u.trans {j:Lo} {o o':Ob} {a b c:E} (h:z1u j o a b) (h':z1u j o' b c):z1u j o' a c:=by
 obtain⟨k1,rfl⟩:=h
 obtain⟨k2,rfl⟩:=h'
 exact⟨k1++k2,by rw[zbg,zh1,zgy]⟩
theorem z1u.psh {j:Lo} {o:Ob} {f:FS} {e e':E} (h:z1u j o (Abs.psh f e) e') (hj:lof j f.fid=false):∃ live e1,e'=Abs.psh ⟨f.fid,f.objs,live⟩ e1∧z1u j o e e1:=by
 obtain⟨ks,rfl⟩:=h
 rw[zbh,z0w (f:=⟨f.fid,f.objs,zci ks f.live⟩) hj]
 exact⟨_,_,rfl,ks,rfl⟩
theorem z1u.own {fid a i:Nat} {o:Ob} {objs:List (Nat × Ob × Ob)} {live:List Nat} {e e':E} (h:z1u (.lo fid a i) o (Abs.psh ⟨fid,objs,live⟩ e) e'):∃ live' e1,e'=Abs.psh ⟨fid,(z1o ⟨fid,objs,[]⟩ a i o).objs,live'⟩ e1:=by
 obtain⟨ks,rfl⟩:=h
 rw[zbh,zem]
 simp only[z5s,decide_true,cond_true]
 refine⟨(z1o ⟨fid,objs,zci ks live⟩ a i o).live,z2u ks e,?_⟩
 congr 1
 unfold z1o
 cases objs[a]? with
 | none=>rfl
 | some x=>obtain⟨n,c,p⟩:=x; simp only; cases Nat.beq n i<;>cases Nat.beq n (i+1)<;>rfl
variable {S:List Nat} {p c:Nat} {j:Lo} {s:Tm} {cnt k z fid:Nat} {W:List Lo} {e:E} {tc rc p0 p1:Ob} {live:List Nat} {b:List Nat}
theorem zf0 (L:LText P I) (h0:s.get .e=.ptr j 0) (h3:s.get (.l (.l .e))=.ptr (.lo fid 0 1) 0) (h4:s.get (.r (.l .e))=.ptr (.lo fid 1 1) 0) (h6:s.get (.r (.r .e))=.sl k z (z08 b))
  (hj:e.get j=.cells 346 [.str S,.int .i64 p]) (hx:S[p]?=some c) (hp:S.length < 1000000) (hk:Own k z (z08 b) live) (hcnt:cnt+2 < 1048000) (hb:b.length+1 < big) (hW:free W j=true) (hjo:Out j fid)
  (h34:c≠34) (h92:c≠92) (h32:32≤c) (h126:c≤126) :
  ∃ s' cnt' k' live' e',runW (cal P I) fid W z28 ⟨s,cnt⟩ (psh ⟨fid,[(1,tc,p0),(1,rc,p1)],live⟩ e) =
   .go ⟨s',cnt'⟩ (psh ⟨fid,[(1,tc,p0),(1,rc,p1)],live'⟩ e')∧z1u j (.cells 346 [.str S,.int .i64 (p+1:Nat)]) e e' ∧
   s'.get .e=.ptr j 0∧s'.get (.l (.l .e))=.ptr (.lo fid 0 1) 0∧s'.get (.r (.l .e))=.ptr (.lo fid 1 1) 0∧s'.get (.r (.r .e))=.sl k' 1 (z08 (b++[c]))∧k' % 2=1∧2≤k'∧z0l live' k'=true∧cnt'≤cnt+2:=by
 have hlt:p < S.length:=(List.getElem?_eq_some_iff.1 hx).1
 have hlt':(p:Int) < (S.length:Int):=by omega
 have hw:IntKind.i64.wrap ((p:Int)+1)=(p:Int)+1:=z0r (by omega) (by omega)
 have c34:¬ (c:Int)=34:=by omega
 have c92:¬ (c:Int)=92:=by omega
 have c32:¬ (c:Int) < 32:=by omega
 have c126:¬ (126:Int) < c:=by omega
 have hr:cnt+1 < 1048000:=by omega
 simp[z28,Tm.get_set,z0k,z0w,hjo.lof,h0,h3,h4,h6,hj,hx,hlt',hw,c34,c92,c32,c126,z0h,hW,elems,z0t,is8,app_u8,hk,hb,hr,and_assoc,later1]
def esc (c:Nat):Nat:=if c=110 then 10 else c
theorem zjz (L:LText P I) (h0:s.get .e=.ptr j 0) (h3:s.get (.l (.l .e))=.ptr (.lo fid 0 1) 0) (h4:s.get (.r (.l .e))=.ptr (.lo fid 1 1) 0) (h6:s.get (.r (.r .e))=.sl k z (z08 b))
  (hj:e.get j=.cells 346 [.str S,.int .i64 p]) (hx:S[p]?=some 92) (hx':S[p+1]?=some c) (hp:S.length < 1000000) (hk:Own k z (z08 b) live) (hcnt:cnt+2 < 1048000) (hb:b.length+1 < big) (hW:free W j=true) (hjo:Out j fid)
  (hc:c=110∨c=34∨c=92) :
  ∃ s' cnt' k' live' e',runW (cal P I) fid W z28 ⟨s,cnt⟩ (psh ⟨fid,[(1,tc,p0),(1,rc,p1)],live⟩ e) =
   .go ⟨s',cnt'⟩ (psh ⟨fid,[(1,tc,p0),(1,rc,p1)],live'⟩ e')∧z1u j (.cells 346 [.str S,.int .i64 (p+2:Nat)]) e e' ∧
   s'.get .e=.ptr j 0∧s'.get (.l (.l .e))=.ptr (.lo fid 0 1) 0∧s'.get (.r (.l .e))=.ptr (.lo fid 1 1) 0∧s'.get (.r (.r .e))=.sl k' 1 (z08 (b++[esc c]))∧k' % 2=1∧2≤k'∧z0l live' k'=true∧cnt'≤cnt+2:=by
 have hlt:p < S.length:=(List.getElem?_eq_some_iff.1 hx).1
 have hlt1:p+1 < S.length:=(List.getElem?_eq_some_iff.1 hx').1
 have hlt':(p:Int) < (S.length:Int):=by omega
 have hne:¬ (p:Int)+1=(S.length:Int):=by omega
 have hw:IntKind.i64.wrap ((p:Int)+1)=(p:Int)+1:=z0r (by omega) (by omega)
 have hw2:IntKind.i64.wrap ((p:Int)+2)=(p:Int)+2:=z0r (by omega) (by omega)
 have hr:cnt+1 < 1048000:=by omega
 have htn:((p:Int)+1).toNat=p+1:=by omega
 have h0':0≤(p:Int)+1:=by omega
 have h11:(p:Int)+1+1=p+2:=by omega
 have hgs:∀ o,(e.set j o).get j=o:=fun o=>E.get_set_same _ _ _ (by rw[hj]; simp)
 rcases hc with rfl | rfl | rfl
 all_goals
  simp[z28,Tm.get_set,z0k,z0w,hjo.lof,h0,h3,h4,h6,hj,hgs,hx,hx',hlt',hne,hw,hw2,htn,h0',h11,z0h,hW,elems,z0t,is8,app_u8,hk,hb,hr,and_assoc,later2,esc]
def TOk (fid:Nat) (j:Lo) (e:E) (x0 x3:Int) (p0 p1:Ob) (S q:List Nat) (n:Nat) (x:R):Prop :=
 ∃ s' cnt' live' e',x=.ret ⟨s',cnt'⟩ (psh ⟨fid,[(1,.cells 241 [.int .i64 x0,.int .i64 5,.str q,.int .i64 x3],p0),(1,.cells 241 [.int .i64 x0,.int .i64 5,.str q,.int .i64 x3],p1)],live'⟩ e') ∧
  z1u j (.cells 346 [.str S,.int .i64 n]) e e'∧s'.get (.r (.l .e))=.ptr (.lo fid 1 1) 0∧s'.get (.l (.r .e))=.nilp
def TBad (fid:Nat) (j:Lo) (e:E) (tc p0 p1:Ob) (x:R):Prop :=
 ∃ s' cnt' live' e' o o' l,x=.ret ⟨s',cnt'⟩ (psh ⟨fid,[(1,tc,p0),(1,tc,p1)],live'⟩ (e'.addG o')) ∧
  z1u j o e e'∧s'.get (.r (.l .e))=.ptr (.lo fid 1 1) 0∧s'.get (.l (.r .e))=.ptr l 0
variable {x0 x1 x3:Int} {y2:List Nat} {r0 r1 r2 r3:AV}
theorem zk (L:LText P I) (ht:tc=.cells 241 [.int .i64 x0,.int .i64 x1,.str y2,.int .i64 x3]) (hrc:rc=.cells 241 [r0,r1,r2,r3]) (h0:s.get .e=.ptr j 0) (h3:s.get (.l (.l .e))=.ptr (.lo fid 0 1) 0) (h4:s.get (.r (.l .e))=.ptr (.lo fid 1 1) 0) (h6:s.get (.r (.r .e))=.sl k z (z08 b))
  (hj:e.get j=.cells 346 [.str S,.int .i64 p]) (hx:S[p]?=some 34) (hp:S.length < 1000000) (hb:B8 b) (hW:free W j=true) (hjo:Out j fid) (hW0:free W (.lo fid 0 1)=true) (hW1:free W (.lo fid 1 1)=true) :
  TOk fid j e x0 x3 p0 p1 S b (p+1) (runW (cal P I) fid W z28 ⟨s,cnt⟩ (psh ⟨fid,[(1,tc,p0),(1,rc,p1)],live⟩ e)):=by
 have hlt:p < S.length:=(List.getElem?_eq_some_iff.1 hx).1
 have hlt':(p:Int) < (S.length:Int):=by omega
 have hw:IntKind.i64.wrap ((p:Int)+1)=(p:Int)+1:=z0r (by omega) (by omega)
 subst ht hrc
 have hbb:=z2z hb
 simp[TOk,z28,Tm.get_set,z0k,z0w,hjo.lof,h0,h3,h4,h6,hj,hx,hlt',hw,z0h,hW,hW0,hW1,z0t,b2sE,hbb,strO,z1c,and_assoc,zdp]
theorem zk0 (L:LText P I) (ht:tc=.cells 241 [.int .i64 x0,.int .i64 x1,.str y2,.int .i64 x3]) (hrc:rc=.cells 241 [r0,r1,r2,r3]) (h0:s.get .e=.ptr j 0) (h3:s.get (.l (.l .e))=.ptr (.lo fid 0 1) 0) (h4:s.get (.r (.l .e))=.ptr (.lo fid 1 1) 0) (h6:s.get (.r (.r .e))=.sl k z (z08 b))
  (hj:e.get j=.cells 346 [.str S,.int .i64 p]) (hx:S[p]?=some c) (hp:S.length < 1000000) (hcnt:cnt+2 < 1048000) (hW:free W j=true) (hjo:Out j fid) (hW0:free W (.lo fid 0 1)=true) (hW1:free W (.lo fid 1 1)=true)
  (hc:c≠34) (hc':c≠92) (h32:c < 32∨126 < c) :
  TBad fid j e tc p0 p1 (runW (cal P I) fid W z28 ⟨s,cnt⟩ (psh ⟨fid,[(1,tc,p0),(1,rc,p1)],live⟩ e)):=by
 have hlt:p < S.length:=(List.getElem?_eq_some_iff.1 hx).1
 have hlt':(p:Int) < (S.length:Int):=by omega
 have c34:¬ (c:Int)=34:=by omega
 have c92:¬ (c:Int)=92:=by omega
 have hr:cnt < 1048000:=by omega
 subst ht hrc
 by_cases h:c < 32
 ·have c32:(c:Int) < 32:=by omega
  simp[TBad,z28,Tm.get_set,z0k,z0w,hjo.lof,h0,h3,h4,h6,hj,hx,hlt',c34,c92,c32,z0h,hW,hW0,hW1,z1c,and_assoc,z4b L,room,hr]
  exact⟨e,⟨_,rfl⟩,_,z5v hj⟩
 ·have c32:¬ (c:Int) < 32:=by omega
  have c126:(126:Int) < c:=by omega
  simp[TBad,z28,Tm.get_set,z0k,z0w,hjo.lof,h0,h3,h4,h6,hj,hx,hlt',c34,c92,c32,c126,z0h,hW,hW0,hW1,z1c,and_assoc,z4b L,room,hr]
  exact⟨e,⟨_,rfl⟩,_,z5v hj⟩
theorem zcp (L:LText P I) (ht:tc=.cells 241 [.int .i64 x0,.int .i64 x1,.str y2,.int .i64 x3]) (hrc:rc=.cells 241 [r0,r1,r2,r3]) (h0:s.get .e=.ptr j 0) (h3:s.get (.l (.l .e))=.ptr (.lo fid 0 1) 0) (h4:s.get (.r (.l .e))=.ptr (.lo fid 1 1) 0) (h6:s.get (.r (.r .e))=.sl k z (z08 b))
  (hj:e.get j=.cells 346 [.str S,.int .i64 p]) (hx:S[p]?=some 92) (hp:S.length < 1000000) (hcnt:cnt+2 < 1048000) (hW:free W j=true) (hjo:Out j fid) (hW0:free W (.lo fid 0 1)=true) (hW1:free W (.lo fid 1 1)=true)
  (hc:∀ c,S[p+1]?=some c→c≠110∧c≠34∧c≠92) :
  TBad fid j e tc p0 p1 (runW (cal P I) fid W z28 ⟨s,cnt⟩ (psh ⟨fid,[(1,tc,p0),(1,rc,p1)],live⟩ e)):=by
 have hlt:p < S.length:=(List.getElem?_eq_some_iff.1 hx).1
 have hlt':(p:Int) < (S.length:Int):=by omega
 have hr:cnt < 1048000:=by omega
 have hw:IntKind.i64.wrap ((p:Int)+1)=(p:Int)+1:=z0r (by omega) (by omega)
 have htn:((p:Int)+1).toNat=p+1:=by omega
 have h0':0≤(p:Int)+1:=by omega
 have hgs:∀ o,(e.set j o).get j=o:=fun o=>E.get_set_same _ _ _ (by rw[hj]; simp)
 subst ht hrc
 cases hx':S[p+1]? with
 | none =>
  have hne:(p:Int)+1=(S.length:Int):=by have:=List.getElem?_eq_none_iff.1 hx'; omega
  have hwS:IntKind.i64.wrap (S.length:Int)=(S.length:Int):=z0r (by omega) (by omega)
  simp[TBad,hwS,z28,Tm.get_set,z0k,z0w,hjo.lof,h0,h3,h4,h6,hj,hx,hgs,hlt',hw,hne,z0h,hW,hW0,hW1,z1c,and_assoc,z4b L,room,hr]
  exact⟨_,⟨_,rfl⟩,_,zdp ..⟩
 | some c =>
  have hne:¬ (p:Int)+1=(S.length:Int):=by have:=(List.getElem?_eq_some_iff.1 hx').1; omega
  obtain⟨c1,c2,c3⟩:=hc c hx'
  have c1':¬ (c:Int)=110:=by omega
  have c2':¬ (c:Int)=34:=by omega
  have c3':¬ (c:Int)=92:=by omega
  simp[TBad,z28,Tm.get_set,z0k,z0w,hjo.lof,h0,h3,h4,h6,hj,hx,hx',hgs,hlt',hw,hne,htn,h0',c1',c2',c3',z0h,hW,hW0,hW1,z1c,and_assoc,z4b L,room,hr]
  exact⟨_,⟨_,rfl⟩,_,zdp ..⟩
theorem zhe (L:LText P I) (h0:s.get .e=.ptr j 0)
  (hj:e.get j=.cells 346 [.str S,.int .i64 p]) (hx:S[p]?=none) (hjo:Out j fid) :
  ∃ s',runW (cal P I) fid W z28 ⟨s,cnt⟩ (psh ⟨fid,[(1,tc,p0),(1,rc,p1)],live⟩ e)=.exit 0 ⟨s',cnt⟩ (psh ⟨fid,[(1,tc,p0),(1,rc,p1)],live⟩ e) ∧
   s'.get .e=.ptr j 0∧s'.get (.l (.l .e))=s.get (.l (.l .e))∧s'.get (.r (.l .e))=s.get (.r (.l .e)):=by
 have hlt':¬ (p:Int) < (S.length:Int):=by have:=List.getElem?_eq_none_iff.1 hx; omega
 simp[z28,Tm.get_set,z0k,z0w,hjo.lof,h0,hj,hlt',and_assoc]
theorem z1u.get {j:Lo} {o:Ob} {e e':E} (h:z1u j o e e') (hn:e.get j≠.none):e'.get j=o:=by
 obtain⟨ks,rfl⟩:=h
 exact E.get_set_same _ _ _ (by rw[zh]; exact hn)
def TNo (fid:Nat) (j:Lo) (e:E) (tc rc p0 p1:Ob) (S:List Nat) (most:Nat) (x:R):Prop :=
 TBad fid j e tc p0 p1 x∨∃ s' cnt' live' e' p,x=.exit 0 ⟨s',cnt'⟩ (psh ⟨fid,[(1,tc,p0),(1,rc,p1)],live'⟩ e')∧z1u j (.cells 346 [.str S,.int .i64 p]) e e' ∧
  s'.get .e=.ptr j 0∧s'.get (.l (.l .e))=.ptr (.lo fid 0 1) 0∧s'.get (.r (.l .e))=.ptr (.lo fid 1 1) 0∧cnt'≤most
theorem TBad.later {o:Ob} {e e':E} {x:R} (h:z1u j o e e') (hb:TBad fid j e' tc p0 p1 x):TBad fid j e tc p0 p1 x:=by
 obtain⟨s',cnt',live',e1,o1,o2,l,h1,h2,h3⟩:=hb
 exact⟨s',cnt',live',e1,o1,o2,l,h1,h.trans h2,h3⟩
theorem TNo.later {o:Ob} {e e':E} {x:R} {m m':Nat} (hm:m≤m') (h:z1u j o e e') (hb:TNo fid j e' tc rc p0 p1 S m x):TNo fid j e tc rc p0 p1 S m' x:=by
 rcases hb with hb | ⟨s',cnt',live',e1,p,h1,h2,h3,h4,h5,h6⟩
 ·exact .inl (hb.later h)
 ·exact .inr ⟨s',cnt',live',e1,p,h1,h.trans h2,h3,h4,h5,by omega⟩
theorem TOk.later {o:Ob} {e e':E} {x:R} {q:List Nat} {n:Nat} (h:z1u j o e e') (hb:TOk fid j e' x0 x3 p0 p1 S q n x):TOk fid j e x0 x3 p0 p1 S q n x:=by
 obtain⟨s',cnt',live',e1,h1,h2,h3⟩:=hb
 exact⟨s',cnt',live',e1,h1,h.trans h2,h3⟩
def TRes (fid:Nat) (j:Lo) (e:E) (x0 x1 x3:Int) (y2:List Nat) (rc p0 p1:Ob) (S b:List Nat) (p most:Nat) (x:R):Option (List Nat × Nat)→Prop
 | some (q,m)=>TOk fid j e x0 x3 p0 p1 S (b++q) (p+m) x
 | none=>TNo fid j e (.cells 241 [.int .i64 x0,.int .i64 x1,.str y2,.int .i64 x3]) rc p0 p1 S most x
theorem TRes.use {Q:R→Prop} {e:E} {x1:Int} {y2:List Nat} {rc:Ob} {m:Nat} {x:R} {r:Option (List Nat × Nat)} (h:TRes fid j e x0 x1 x3 y2 rc p0 p1 S b p m x r) (k:∀ x,TRes fid j e x0 x1 x3 y2 rc p0 p1 S b p m x r→Q x):Wp Q x:=k x h
theorem TRes.map {e e':E} {o:Ob} {x1:Int} {y2:List Nat} {rc:Ob} {p' m m':Nat} {x:R} {r:Option (List Nat × Nat)} {d:Nat} (hm:m≤m') (h:z1u j o e e') (hp:p'=p+d) (hr:TRes fid j e' x0 x1 x3 y2 rc p0 p1 S (b++[c]) p' m x r) :
  TRes fid j e x0 x1 x3 y2 rc p0 p1 S b p m' x (r.map fun q=>(c::q.1,q.2+d)):=by
 cases r with
 | none=>exact TNo.later hm h hr
 | some q =>
  have hr:=TOk.later h hr
  simp only[Option.map_some,TRes]
  have h1:b++c::q.1=(b++[c])++q.1:=by simp
  have h2:p+(q.2+d)=p'+q.2:=by omega
  rw[h1,h2]; exact hr
theorem zhf (L:LText P I) (hS:B8 S) (hp:S.length < 500000) (hrc:rc=.cells 241 [r0,r1,r2,r3]) (hW:free W j=true) (hjo:Out j fid) (hW0:free W (.lo fid 0 1)=true) (hW1:free W (.lo fid 1 1)=true) :
  ∀ (n p:Nat) (s:Tm) (cnt k z:Nat) (live b:List Nat) (e:E),S.length - p=n→p≤S.length→s.get .e=.ptr j 0→s.get (.l (.l .e))=.ptr (.lo fid 0 1) 0→s.get (.r (.l .e))=.ptr (.lo fid 1 1) 0→s.get (.r (.r .e))=.sl k z (z08 b) →
   e.get j=.cells 346 [.str S,.int .i64 p]→Own k z (z08 b) live→B8 b→cnt+2 * n+2 < 1048000→b.length+n+1 < big →
   TRes fid j e x0 x1 x3 y2 rc p0 p1 S b p (cnt+2 * n) (lp (runW (cal P I) fid W z28) ⟨s,cnt⟩ (psh ⟨fid,[(1,.cells 241 [.int .i64 x0,.int .i64 x1,.str y2,.int .i64 x3],p0),(1,rc,p1)],live⟩ e)) (txt (S.drop p)):=by
 intro n
 induction n using Nat.strongRecOn with
 | _ n ih =>
  intro p s cnt k z live b e hn hpl h0 h3 h4 h6 hj hk hb hcnt hbig
  have hne:e.get j≠.none:=by rw[hj]; simp
  cases hx:S[p]? with
  | none =>
   have:S.drop p=[]:=List.drop_eq_nil_of_le (List.getElem?_eq_none_iff.1 hx)
   rw[this,z3d]
   obtain⟨s',h1,h2,h3',h4'⟩:=zhe (P:=P) (I:=I) (fid:=fid) (W:=W) (cnt:=cnt) (tc:=.cells 241 [.int .i64 x0,.int .i64 x1,.str y2,.int .i64 x3]) (rc:=rc) (p0:=p0) (p1:=p1) (live:=live) L h0 hj hx hjo
   rw[h1]
   exact .inr ⟨s',cnt,live,e,p,rfl,z5v hj,h2,by rw[h3',h3],by rw[h4',h4],by omega⟩
  | some c =>
   have hlt:=(List.getElem?_eq_some_iff.1 hx).1
   have hd:S.drop p=c::S.drop (p+1):=by rw[List.drop_eq_getElem_cons hlt,(List.getElem?_eq_some_iff.1 hx).2]
   have hc8:c < 256:=hS c (List.mem_of_getElem? hx)
   rw[hd]
   by_cases h34:c=34
   ·subst h34
    rw[txt]
    have:=zk (P:=P) (I:=I) (cnt:=cnt) (x0:=x0) (x1:=x1) (x3:=x3) (y2:=y2) (p0:=p0) (p1:=p1) (live:=live) L rfl hrc h0 h3 h4 h6 hj hx (by omega) hb hW hjo hW0 hW1
    rw[z3d]
    obtain⟨s',cnt',live',e',g1,g2⟩:=this
    rw[g1]
    exact⟨s',cnt',live',e',by simp[R.bind],g2⟩
   ·by_cases h92:c=92
    ·subst h92
     have bad:∀ (_:∀ c,S[p+1]?=some c→c≠110∧c≠34∧c≠92),TNo fid j e (.cells 241 [.int .i64 x0,.int .i64 x1,.str y2,.int .i64 x3]) rc p0 p1 S (cnt+2 * n) (lp (runW (cal P I) fid W z28) ⟨s,cnt⟩ (psh ⟨fid,[(1,.cells 241 [.int .i64 x0,.int .i64 x1,.str y2,.int .i64 x3],p0),(1,rc,p1)],live⟩ e)):=fun hcc=>by
      have:=zcp (P:=P) (I:=I) (cnt:=cnt) (x0:=x0) (x1:=x1) (x3:=x3) (y2:=y2) (p0:=p0) (p1:=p1) (live:=live) L rfl hrc h0 h3 h4 h6 hj hx (by omega) (by omega) hW hjo hW0 hW1 hcc
      rw[z3d]
      obtain⟨s',cnt',live',e',o,o',l,g1,g2⟩:=this
      rw[g1]
      exact .inl ⟨s',cnt',live',e',o,o',l,rfl,g2⟩
     cases hx':S[p+1]? with
     | none =>
      have:S.drop (p+1)=[]:=List.drop_eq_nil_of_le (List.getElem?_eq_none_iff.1 hx')
      rw[this,txt]
      exact bad fun c h=>by rw[hx'] at h; cases h
     | some d =>
      have hlt':=(List.getElem?_eq_some_iff.1 hx').1
      have hd':S.drop (p+1)=d::S.drop (p+2):=by rw[List.drop_eq_getElem_cons hlt',(List.getElem?_eq_some_iff.1 hx').2]
      have hd8:d < 256:=hS d (List.mem_of_getElem? hx')
      rw[hd']
      by_cases hdd:d=110∨d=34∨d=92
      ·have ht:txt (92::d::S.drop (p+2))=(txt (S.drop (p+2))).map fun q=>(esc d::q.1,q.2+2):=by
        rcases hdd with rfl | rfl | rfl<;>simp[txt,esc]
       rw[ht]
       obtain⟨s',cnt',k',live',e',g1,g2,g3,g4,g5,g6,g7,g8,g9,g10⟩:=zjz (P:=P) (I:=I) (fid:=fid) (W:=W) (cnt:=cnt) (k:=k) (z:=z) (b:=b) (live:=live) (tc:=.cells 241 [.int .i64 x0,.int .i64 x1,.str y2,.int .i64 x3]) (rc:=rc) (p0:=p0) (p1:=p1) L h0 h3 h4 h6 hj hx hx' (by omega) hk (by omega) (by omega) hW hjo hdd
       rw[z3d,g1]
       have he:esc d < 256:=by unfold esc; split<;>omega
       exact TRes.map (p':=p+2) (by omega) g2 rfl (ih (S.length - (p+2)) (by omega) (p+2) s' cnt' k' 1 live' (b++[esc d]) e' rfl (by omega) g3 g4 g5 g6 (g2.get hne) (.inr ⟨rfl,g7,g8,g9⟩) (by simp[hb,he]) (by omega) (by simp; omega))
      ·have ht:txt (92::d::S.drop (p+2))=none:=by
        have h1:d≠110:=fun h=>hdd (.inl h)
        have h2:d≠34:=fun h=>hdd (.inr (.inl h))
        have h3:d≠92:=fun h=>hdd (.inr (.inr h))
        simp[txt,h1,h2,h3]
       rw[ht]
       refine bad fun c h=>?_
       rw[hx'] at h; cases h
       exact⟨fun h=>hdd (.inl h),fun h=>hdd (.inr (.inl h)),fun h=>hdd (.inr (.inr h))⟩
    ·by_cases hcc:c < 32∨126 < c
     ·have ht:txt (c::S.drop (p+1))=none:=by rw[zaa h34 h92,if_pos hcc]
      rw[ht]
      have:=zk0 (P:=P) (I:=I) (cnt:=cnt) (x0:=x0) (x1:=x1) (x3:=x3) (y2:=y2) (p0:=p0) (p1:=p1) (live:=live) L rfl hrc h0 h3 h4 h6 hj hx (by omega) (by omega) hW hjo hW0 hW1 h34 h92 hcc
      rw[z3d]
      obtain⟨s',cnt',live',e',o,o',l,g1,g2⟩:=this
      rw[g1]
      exact .inl ⟨s',cnt',live',e',o,o',l,rfl,g2⟩
     ·have ht:txt (c::S.drop (p+1))=(txt (S.drop (p+1))).map fun q=>(c::q.1,q.2+1):=by rw[zaa h34 h92,if_neg hcc]
      rw[ht]
      obtain⟨s',cnt',k',live',e',g1,g2,g3,g4,g5,g6,g7,g8,g9,g10⟩:=zf0 (P:=P) (I:=I) (fid:=fid) (W:=W) (cnt:=cnt) (k:=k) (z:=z) (b:=b) (live:=live) (tc:=.cells 241 [.int .i64 x0,.int .i64 x1,.str y2,.int .i64 x3]) (rc:=rc) (p0:=p0) (p1:=p1) L h0 h3 h4 h6 hj hx (by omega) hk (by omega) (by omega) hW hjo h34 h92 (by omega) (by omega)
      rw[z3d,g1]
      exact TRes.map (p':=p+1) (by omega) g2 rfl (ih (S.length - (p+1)) (by omega) (p+1) s' cnt' k' 1 live' (b++[c]) e' rfl (by omega) g3 g4 g5 g6 (g2.get hne) (.inr ⟨rfl,g7,g8,g9⟩) (by simp[hb,hc8]) (by omega) (by simp; omega))
def z31 (j:Lo) (e:E) (x0 x3:Int) (S:List Nat) (p:Nat) (x:CR):Option (List Nat × Nat)→Prop
 | some (q,m)=>∃ e',x=.ret (.tup [.agg [.int .i64 x0,.int .i64 5,.str q,.int .i64 x3],.nilp]) e'∧z1u j (.cells 346 [.str S,.int .i64 (p+m:Nat)]) e e'
 | none=>∃ (a b d:Int) (y:List Nat) (l:Lo) (e':E) (o o':Ob),x=.ret (.tup [.agg [.int .i64 a,.int .i64 b,.str y,.int .i64 d],.ptr l 0]) (e'.addG o')∧z1u j o e e'
theorem z31.use {Q:CR→Prop} {x:CR} {r:Option (List Nat × Nat)} (h:z31 j e x0 x3 S p x r) (k:∀ x,z31 j e x0 x3 S p x r→Q x):WpC Q x:=k x h
theorem zk1 (L:LText P I) {x1:Int} {y2:List Nat} (hS:B8 S) (hp:S.length < 500000) (hpl:p < S.length) (hjo:Out j fid) (hj:e.get j=.cells 346 [.str S,.int .i64 p]) :
  z31 j e x0 x3 S (p+1) (cal P I 298 [.ptr j 0,.agg [.int .i64 x0,.int .i64 x1,.str y2,.int .i64 x3]] [] fid e) (txt (S.drop (p+1))):=by
 have hbig:big=4294967296:=rfl
 have hw:IntKind.i64.wrap ((p:Int)+1)=(p:Int)+1:=z0r (by omega) (by omega)
 have hgs:∀ o,(e.set j o).get j=o:=fun o=>E.get_set_same _ _ _ (by rw[hj]; simp)
 refine z48 (Q:=fun r=>z31 j e x0 x3 S (p+1) r (txt (S.drop (p+1)))) L.i298 L.p298 rfl ?_ ?_
 ·cases txt (S.drop (p+1))<;>simp[z31]
 simp[f298,z0k,z0w,hjo.lof,hj,hw]
 simp only[z1j,z11]
 refine TRes.use (zhf (j:=j) L hS hp rfl rfl hjo rfl rfl (S.length - (p+1)) (p+1) _ 0 1 0 [] [] _ rfl (by omega) ?_ ?_ ?_ ?_ ?_ (.inl ⟨rfl,rfl,rfl⟩) ?_ ?_ ?_) ?_
 any_goals (simp[hgs,z08]; done)
 ·omega
 ·simp; omega
 intro r hr
 have hl:z1u j (.cells 346 [.str S,.int .i64 (p+1:Nat)]) e (e.set j (.cells 346 [.str S,.int .i64 ((p:Int)+1)])):=zdp ..
 have hne:e.get j≠.none:=by rw[hj]; simp
 cases ht:txt (S.drop (p+1)) with
 | some q =>
  rw[ht] at hr
  obtain⟨s',cnt',live',e',rfl,h1,h2,h3⟩:=hr
  have h1:=hl.trans h1
  simp at h1
  simp[z31,h2,h3]
  exact h1
 | none =>
  rw[ht] at hr
  rcases hr with⟨s',cnt',live',e',o,o',l,rfl,h1,h2,h3⟩ | ⟨s',cnt',live',e',p',rfl,h1,h2,h3,h4,h5⟩
  ·have h1:=hl.trans h1
   simp[z31,h2,h3]
   exact⟨_,_,_,_,_,_,⟨⟨⟨rfl,rfl,rfl,rfl⟩,rfl⟩,_,rfl⟩,_,h1⟩
  ·have h1:=hl.trans h1
   have hj':=h1.get hne
   have hr:cnt' < 1048000:=by omega
   simp[z31,z0k,z0w,hjo.lof,Tm.get_set,h2,h3,h4,hj',z1c,z4b L,room,hr]
   exact⟨_,_,_,_,_,_,⟨⟨⟨rfl,rfl,rfl,rfl⟩,rfl⟩,_,rfl⟩,_,h1⟩
end Go.Abs.Run
namespace Go.Abs.Run
open Go Go.Abs
attribute [local simp] oM oN oF oE oQ oP oG oL oR oC oX oS oY vi vj vu vz ci cu eI eS eB
attribute [local simp] s0 t0 s1 t1 s2 t2 s3 t3 s4 t4 s5 t5 s6 t6 s7 t7 s8 t8 s9 t9 s10 t10 s11 t11 s12 t12 s13 t13 s14 t14 s15 t15 s16 t16 s17 t17 s18 t18 s19 t19 s20 t20 s21 t21 s22 t22 s23 t23 s24 t24 s25 t25 s26 t26 s27 t27 s28 t28 s29 t29 s30 t30 s31 t31 s32 t32 s33 t33 s34 t34 s35 t35 s36 t36 s37 t37 s38 t38 s39 t39 s40 t40 s41 t41 s42 t42 s43 t43 s44 t44 s45 t45 s46 t46 s47 t47 s48 t48 s49 t49 s50 t50 s51 t51 s52 t52 s53 t53 s54 t54 s55 t55 s56 t56 s57 t57 s58 t58 s59 t59 s60 t60 s61 t61 s62 t62 s63 t63 s64 t64 s65 t65 s66 t66 s67 t67 s68 t68 s69 t69 s70 t70 s71 t71 s72 t72 s73 t73 s74 t74 s75 t75 s76 t76 s77 t77 s78 t78 s79 t79 s80 t80 s81 t81 s82 t82 s83 t83 s84 t84 s85 t85 s86 t86 s87 t87 s88 t88 s89 t89 s90 t90 s91 t91 s92 t92 s93 t93 s94 t94 s95 t95 s96 t96 s97 t97 s98 t98 s99 t99
variable {P:Nat→Option FI} {I:Nat→Option z0b}
structure LToken (P:Nat→Option FI) (I:Nat→Option z0b):Prop extends LText P I where
 p315:P 315=some f315
 i315:I 315=none
 p316:P 316=some f316
 i316:I 316=none
 p293:P 293=some f293
 i293:I 293=none
 p294:P 294=some f294
 i294:I 294=none
 p273:P 273=some f273
 i273:I 273=none
 p274:P 274=some f274
 i274:I 274=none
variable {W:List Lo} {fid:Nat} {e:E} {c:Int}
theorem zhg (L:LToken P I):cal P I 315 [.int .u8 c] W fid e=.ret (.bool (decide (97≤c) && decide (c≤122))) e:=by
 refine z1s L.i315 L.p315 rfl (by simp) ?_
 by_cases h:97≤c<;>simp[f315,h]
theorem zhh (L:LToken P I):cal P I 316 [.int .u8 c] W fid e=.ret (.bool (decide (65≤c) && decide (c≤90))) e:=by
 refine z1s L.i316 L.p316 rfl (by simp) ?_
 by_cases h:65≤c<;>simp[f316,h]
theorem zbo (L:LToken P I):cal P I 294 [.int .u8 c] W fid e=.ret (.bool (decide (48≤c) && decide (c≤57))) e:=by
 refine z1s L.i294 L.p294 rfl (by simp) ?_
 by_cases h:48≤c<;>simp[f294,h]
theorem z95 (L:LToken P I):cal P I 293 [.int .u8 c] W fid e=.ret (.bool ((decide (97≤c) && decide (c≤122)) || (decide (65≤c) && decide (c≤90)))) e:=by
 refine z1s L.i293 L.p293 rfl (by simp) ?_
 cases hb:(decide (97≤c) && decide (c≤122))<;>simp[f293,zhg L,zhh L,room,hb]
def z5a (j:Lo) (e:E) (S:List Nat) (p:Nat) (x:CR):Option (List Nat × Nat)→Prop
 | some (q,m)=>∃ e',x=.ret (.tup [.agg [.int .i64 p,.int .i64 5,.str q,.int .i64 0],.nilp]) e'∧z1u j (.cells 346 [.str S,.int .i64 (p+1+m:Nat)]) e e'
 | none=>∃ (a b d:Int) (y:List Nat) (l:Lo) (e':E) (o o':Ob),x=.ret (.tup [.agg [.int .i64 a,.int .i64 b,.str y,.int .i64 d],.ptr l 0]) (e'.addG o')∧z1u j o e e'
theorem zhi (L:LToken P I) {j:Lo} {p:Nat} {S:List Nat} (hS:B8 S) (hp:S.length < 500000) (hx:S[p]?=some 34) (hjo:Out j fid) (hj:e.get j=.cells 346 [.str S,.int .i64 p]) :
  z5a j e S p (cal P I 274 [.ptr j 0] [] fid e) (txt (S.drop (p+1))):=by
 have hpl:p < S.length:=(List.getElem?_eq_some_iff.1 hx).1
 refine z48 (Q:=fun r=>z5a j e S p r (txt (S.drop (p+1)))) L.i274 L.p274 rfl ?_ ?_
 ·cases txt (S.drop (p+1))<;>simp[z5a]
 simp[f274,z0k,z0w,hjo.lof,hj,hx,z0h,z95 L,zbo L,room]
 simp only[z1j,z11,z1e]
 refine z31.use (zk1 (j:=j) L.toLText hS hp hpl (hjo.child 2 (by decide)) ?_) ?_
 ·simp[z0k,hjo.lof,hj]
 intro x hx
 cases ht:txt (S.drop (p+1)) with
 | some q =>
  rw[ht] at hx
  obtain⟨e',rfl,h1⟩:=hx
  obtain⟨live,e1,rfl,h2⟩:=h1.psh hjo.lof
  simp[z5a]
  exact h2
 | none =>
  rw[ht] at hx
  obtain⟨a,b,d,y,l,e',o,o',rfl,h1⟩:=hx
  obtain⟨live,e1,rfl,h2⟩:=h1.psh hjo.lof
  simp[z5a]
  exact⟨_,_,_,_,_,_,⟨⟨⟨rfl,rfl,rfl,rfl⟩,rfl⟩,_,rfl⟩,_,h2⟩
theorem zk2 (L:LToken P I):cal P I 273 [.int .u8 34] W fid e=.ret (.bool true) e:=by
 refine z1s L.i273 L.p273 rfl (by simp) ?_
 simp[f273,z95 L,zbo L,room]
@[simp] theorem strEq_self (s:List Nat):z13 s s=true:=by induction s with | nil=>rfl | cons a s ih=>simp[z13,ih]
theorem z5a.use {Q:CR→Prop} {x:CR} {j:Lo} {S:List Nat} {p:Nat} {r:Option (List Nat × Nat)} (h:z5a j e S p x r) (k:∀ x,z5a j e S p x r→Q x):WpC Q x:=k x h
def isB8:List Nat→Bool
 | []=>true
 | a::l=>cond (Nat.blt a 256) (isB8 l) false
theorem z27 {l:List Nat}:isB8 l=true↔B8 l:=by
 induction l with
 | nil=>simp[isB8]
 | cons a l ih =>
  simp only[isB8,B8_cons,blt_dec]
  by_cases h:a < 256<;>simp[h,ih]
def z29:List Nat→Nat→Bool
 | [],_=>true
 | _::_,0=>false
 | _::l,n+1=>z29 l n
theorem z0q {l:List Nat} {n:Nat}:z29 l n=true↔l.length≤n:=by
 induction l generalizing n with
 | nil=>simp[z29]
 | cons a l ih=>cases n<;>simp[z29,ih]
def z96:List AV→Option AV
 | [.str S]=>cond (isB8 S && z29 S 200000) (some (.str (z1 S))) none
 | _=>none
theorem z3q (S:List Nat):(z1 S).length≤2 * S.length+2:=by
 have:(S.flatMap quo).length≤2 * S.length:=by
  induction S with
  | nil=>simp
  | cons a S ih=>have:=zhc a; simp only[List.flatMap_cons,List.length_append,List.length_cons]; omega
 simp only[z1,List.length_cons,List.length_append,List.length_nil]; omega
theorem zbp {S:List Nat} (hS:B8 S):B8 (z1 S):=by
 have:B8 (S.flatMap quo):=fun x hx=>by
  obtain⟨a,ha,hx⟩:=List.mem_flatMap.1 hx
  have:=hS a ha
  unfold quo at hx
  split at hx
  ·simp at hx; omega
  ·split at hx<;>(simp at hx; omega)
 simp[z1,this]
structure LWritten (P:Nat→Option FI) (I:Nat→Option z0b):Prop extends LToken P I where
 iQ:I 272=some (z0p z96)
 p229:P 229=some f229
 i229:I 229=none
theorem zcq (L:LWritten P I) {S:List Nat} (hS:B8 S) (hN:S.length < 200000) :
  ∃ e',cal P I 229 [.agg [.int .i64 0,.int .i64 5,.str S,.int .i64 0]] [] fid e=.ret (.tup [.str (z1 S),.bool (decide (∀ c∈S,fine c))]) e':=by
 have hq:∀ W fid e,cal P I 272 [.str S] W fid e=.ret (.str (z1 S)) e:=fun W fid e=>z2g L.iQ (by
  have h1:=z27.2 hS
  have h2:=z0q.2 (show S.length≤200000 by omega)
  simp[z0p,z96,h1,h2])
 have hqs:z1 S=34::(S.flatMap quo++[34]):=rfl
 have hne:z13 (z1 S) []=false:=rfl
 have h0:(z1 S)[0]?=some 34:=rfl
 refine z48 (Q:=fun r=>∃ e',r=.ret (.tup [.str (z1 S),.bool (decide (∀ c∈S,fine c))]) e') L.i229 L.p229 rfl (by simp) ?_
 have hql:=z3q S
 have hqb:=zbp hS
 generalize hgq:z1 S=Q at *
 simp[f229,hq,room,hne,h0,z0h,zk2 L.toLToken]
 simp only[z1j,z11,z1e]
 refine z5a.use (zhi (j:=.lo fid 1 1) (p:=0) L.toLToken hqb (by omega) h0 (Out.own fid 1 1 2) ?_) ?_
 ·simp
 intro x hx
 have hd:txt (Q.drop (0+1))=if (∀ c∈S,fine c) then some (S,(S.flatMap quo).length+1) else none:=by rw[hqs]; exact zf S
 rw[hd] at hx
 clear hd
 have hQl:Q.length=(S.flatMap quo).length+2:=by rw[hqs]; simp only[List.length_cons,List.length_append,List.length_nil]
 clear hqs
 generalize (S.flatMap quo).length=m at *
 have hql:(1:Int)+((m:Int)+1)=(Q.length:Int):=by omega
 by_cases hf:∀ c∈S,fine c
 ·rw[if_pos hf] at hx
  obtain⟨e',rfl,h1⟩:=hx
  obtain⟨live,e1,rfl⟩:=h1.own
  simp[hf,hql]
  exact hf
 ·rw[if_neg hf] at hx
  obtain⟨a,b,d,y,l,e',o,o',rfl,h1⟩:=hx
  obtain⟨live,e1,rfl⟩:=h1.own
  simp[hf]
def z3t:List Nat→Bool
 | []=>true
 | a::l=>cond (Nat.beq a 10) (z3t l) (cond (Nat.ble 32 a) (cond (Nat.ble a 126) (z3t l) false) false)
theorem z4m {l:List Nat}:z3t l=decide (∀ c∈l,fine c):=by
 induction l with
 | nil=>simp[z3t]
 | cons a l ih =>
  simp only[z3t,z5s,zgv,ih]
  by_cases h:a=10
  ·subst h; simp[fine]
   rfl
  ·by_cases h1:32≤a
   ·by_cases h2:a≤126
    ·simp[h,h1,h2,fine]
     rfl
    ·simp[h,h1,h2,fine]
   ·simp[h,h1,fine]
def z4n:List AV→Option AV
 | [.agg [.int .i64 (.ofNat 0),.int .i64 (.ofNat 5),.str S,.int .i64 (.ofNat 0)]]=>cond (isB8 S && z29 S 199999) (some (.tup [.str (z1 S),.bool (z3t S)])) none
 | _=>none
structure LJoin (P:Nat→Option FI) (I:Nat→Option z0b):Prop extends LBuilder P I where
 iWr:I 229=some (z0p z4n)
 p189:P 189=some f189
 i189:I 189=none
 p133:P 133=some f133
 i133:I 133=none
def zbq (S:List Nat):AV :=
 if ∀ c∈S,fine c then (if 65536 < (z1 S).length then .tup [.str [],.int .i64 2] else .tup [.str (z1 S),.int .i64 0]) else .tup [.str [],.int .i64 1]
theorem zk3 (L:LJoin P I) {S:List Nat} {k:Nat} (hS:B8 S) (hN:S.length < 200000) :
  ∃ e',cal P I 189 [.sl k 4 [.agg [.int .i64 0,.int .i64 5,.str S,.int .i64 0]]] [] fid e=.ret (zbq S) e':=by
 have hw:∀ W fid e,cal P I 229 [.agg [.int .i64 0,.int .i64 5,.str S,.int .i64 0]] W fid e=.ret (.tup [.str (z1 S),.bool (decide (∀ c∈S,fine c))]) e:=fun W fid e=>z2g L.iWr (by
  have h1:=z27.2 hS
  have h2:=z0q.2 (show S.length≤199999 by omega)
  rw[← z4m]
  show (match z4n [.agg [.int .i64 (.ofNat 0),.int .i64 (.ofNat 5),.str S,.int .i64 (.ofNat 0)]] with | some v=>some (v,e) | none=>none)=_
  show (match cond (isB8 S && z29 S 199999) (some (AV.tup [.str (z1 S),.bool (z3t S)])) none with | some v=>some (v,e) | none=>none)=_
  rw[h1,h2]; rfl)
 have hql:=z3q S
 have hqb:=zbp hS
 have hqn:z1 S≠[]:=by simp[z1]
 have hout:∀ c,Out (.lo fid 0 1) (child fid c):=fun c=>Out.own fid 0 1 c
 have hbig:big=4294967296:=rfl
 refine z48 (Q:=fun r=>∃ e',r=.ret (zbq S) e') L.i189 L.p189 rfl (by simp) ?_
 unfold zbq
 generalize z1 S=Q at *
 have hqb':Q.length < big:=by omega
 have hqb2:Q.length < 4294967296:=by omega
 have hw1:IntKind.i64.wrap 1=1:=by decide
 by_cases hf:∀ c∈S,fine c
 ·have hfd:decide (∀ c∈S,fine c)=true:=by simpa using hf
  simp only[if_pos hf]
  by_cases hlen:65536 < Q.length
  ·have hlen':(65536:Int) < (Q.length:Int):=by omega
   simp only[if_pos hlen]
   simp[f189]
   rw[z3d]
   simp[z93,Tm.get_set,hw,hfd,room,z5t,lB L.toLBuilder,wS L.toLBuilder,hout,z30,wrB,lnB,Tkt,grow,hqn,hqb',hw1]
   rw[z3d]
   simp[z93,Tm.get_set,room,z5t,lB L.toLBuilder,lnB,hout,hlen',Wp]
  ·have hlen':¬ (65536:Int) < (Q.length:Int):=by omega
   simp only[if_neg hlen]
   simp[f189]
   rw[z3d]
   simp[z93,Tm.get_set,hw,hfd,room,z5t,lB L.toLBuilder,wS L.toLBuilder,hout,z30,wrB,lnB,Tkt,grow,hqn,hqb',hw1]
   rw[z3d]
   simp[z93,Tm.get_set,room,z5t,lB L.toLBuilder,sB L.toLBuilder,za9,txB,lnB,hout,hlen',hqn,hqb,hqb2,z1t,Wp]
 ·have hfd:decide (∀ c∈S,fine c)=false:=by simpa using hf
  simp only[if_neg hf]
  simp[f189]
  rw[z3d]
  simp[z93,Tm.get_set,hw,hfd,room,z5t,Wp]
theorem zhj (L:LJoin P I) {S:List Nat} (hS:B8 S) (hN:S.length < 200000) :
  ∃ e',cal P I 133 [.str S] [] fid e=.ret (.bool (decide (∀ c∈S,fine c) && decide (S.length≤4096))) e':=by
 refine z48 (Q:=fun r=>∃ e',r=.ret (.bool (decide (∀ c∈S,fine c) && decide (S.length≤4096))) e') L.i133 L.p133 rfl (by simp) ?_
 simp[f133,room]
 simp only[z1j,z11,z1e]
 refine WpC.use (Post:=fun x=>∃ e',x=.ret (zbq S) e') (zk3 L hS hN) ?_
 rintro x ⟨e',rfl⟩
 have hql:S.length≤(z1 S).length:=by
  have h1:∀ c,1≤(quo c).length:=fun c=>by unfold quo; split<;>(try split)<;>simp
  have:S.length≤(S.flatMap quo).length:=by
   induction S with
   | nil=>simp
   | cons a S ih =>
    have:=ih (fun x hx=>hS x (List.mem_cons_of_mem _ hx)) (by simp only[List.length_cons] at hN; omega)
    have:=h1 a
    simp only[List.flatMap_cons,List.length_append,List.length_cons]; omega
  simp only[z1,List.length_cons,List.length_append,List.length_nil]; omega
 have hql2:=z3q S
 unfold zbq
 by_cases hf:∀ c∈S,fine c
 ·have hfd:decide (∀ c∈S,fine c)=true:=by simpa using hf
  by_cases hlen:65536 < (z1 S).length
  ·have h4:¬ S.length≤4096:=by omega
   have h4':¬ (S.length:Int)≤4096:=by omega
   simp only[if_pos hf,if_pos hlen]
   simp[h4,h4']
  ·simp only[if_pos hf,if_neg hlen]
   by_cases h4:S.length≤4096
   ·have h4':(S.length:Int)≤4096:=by omega
    simp[h4,h4',hfd]
   ·have h4':¬ (S.length:Int)≤4096:=by omega
    simp[h4,h4',hfd]
 ·have hfd:decide (∀ c∈S,fine c)=false:=by simpa using hf
  simp only[if_neg hf]
  simp[hfd]
end Go.Abs.Run
namespace Go.Abs.Run
open Go Go.Abs
attribute [local simp] oM oN oF oE oQ oP oG oL oR oC oX oS oY vi vj vu vz ci cu eI eS eB
attribute [local simp] s0 t0 s1 t1 s2 t2 s3 t3 s4 t4 s5 t5 s6 t6 s7 t7 s8 t8 s9 t9 s10 t10 s11 t11 s12 t12 s13 t13 s14 t14 s15 t15 s16 t16 s17 t17 s18 t18 s19 t19 s20 t20 s21 t21 s22 t22 s23 t23 s24 t24 s25 t25 s26 t26 s27 t27 s28 t28 s29 t29 s30 t30 s31 t31 s32 t32 s33 t33 s34 t34 s35 t35 s36 t36 s37 t37 s38 t38 s39 t39 s40 t40 s41 t41 s42 t42 s43 t43 s44 t44 s45 t45 s46 t46 s47 t47 s48 t48 s49 t49 s50 t50 s51 t51 s52 t52 s53 t53 s54 t54 s55 t55 s56 t56 s57 t57 s58 t58 s59 t59 s60 t60 s61 t61 s62 t62 s63 t63 s64 t64 s65 t65 s66 t66 s67 t67 s68 t68 s69 t69 s70 t70 s71 t71 s72 t72 s73 t73 s74 t74 s75 t75 s76 t76 s77 t77 s78 t78 s79 t79 s80 t80 s81 t81 s82 t82 s83 t83 s84 t84 s85 t85 s86 t86 s87 t87 s88 t88 s89 t89 s90 t90 s91 t91 s92 t92 s93 t93 s94 t94 s95 t95 s96 t96 s97 t97 s98 t98 s99 t99
variable {P:Nat→Option FI} {I:Nat→Option z0b}
structure LTold (P:Nat→Option FI) (I:Nat→Option z0b):Prop extends LBuilder P I where
 p78:P 78=some f78
 i78:I 78=none
 p18:P 18=some f18
 i18:I 18=none
variable {W:List Lo} {fid:Nat} {e:E}
theorem out2 (g cnt c a i:Nat):Out (.lo g a i) (child (child g cnt) c):=fun x hx=>by
 simp only[lof_lo,z5s,decide_eq_false_iff_not]
 intro h
 have h1:=hx.le
 have h2:=z1r g cnt
 have h3:=z1r (child g cnt) c
 omega
def TT (g:Nat) (x0:Nat × Ob × Ob) (p:Ob) (S:List Nat) (x:CR):Prop :=
 ∃ k' e1,x=.ret (.bool (decide (S.length≤4096))) (psh ⟨g,[x0,(1,.cells 173 [.ptr (.lo g 1 1) 0,.sl k' 1 (z08 S)],p)],[k']⟩ e1)∧k' % 2=1∧2≤k'
theorem zhk (L:LTold P I) {g:Nat} {x0:Nat × Ob × Ob} {p:Ob} {dp:AV} {c n:Int} {S:List Nat} {z:Nat} (hS:S≠[]) (hN:S.length < big) (hg:¬ fid=g) (hout:∀ c,Out (.lo g 1 1) (child fid c)) :
  TT g x0 p S (cal P I 78 [dp,.agg [.int .i64 3,.int .i64 c,.int .i64 n,.str S,.sl 1 z []],.ptr (.lo g 1 1) 0] [] fid (psh ⟨g,[x0,(1,.cells 173 [.nilp,.sl 1 0 []],p)],[]⟩ e)):=by
 have hle:((S.length:Int)≤4096)↔S.length≤4096:=by omega
 refine z48 (Q:=TT g x0 p S) L.i78 L.p78 rfl (by simp[TT]) ?_
 simp[f78,room,wS L.toLBuilder,lB L.toLBuilder,hout,hS,z30,wrB,lnB,Tkt,grow,hN,hle,hg]
 simp[Wp,TT,z1t,and_assoc]
theorem TT.use {Q:CR→Prop} {g:Nat} {x0:Nat × Ob × Ob} {p:Ob} {S:List Nat} {x:CR} (h:TT g x0 p S x) (k:∀ x,TT g x0 p S x→Q x):WpC Q x:=k x h
theorem zk4 (L:LTold P I) {dp:AV} {c n:Int} {S:List Nat} {z:Nat} (hS:S≠[]) (hN:S.length≤4096) (h8:B8 S) :
  ∃ e',cal P I 18 [dp,.agg [.int .i64 3,.int .i64 c,.int .i64 n,.str S,.sl 1 z []]] [] fid e=.ret (.tup [.str S,.int .i64 0]) e':=by
 have hbig:big=4294967296:=rfl
 refine z48 (Q:=fun r=>∃ e',r=.ret (.tup [.str S,.int .i64 0]) e') L.i18 L.p18 rfl (by simp) ?_
 simp[f18,room]
 simp only[z1j,z11,z1e]
 refine TT.use (zhk L hS (by omega) (fun h=>by have:=z1r fid 0; omega) fun c=>out2 fid 0 c 1 1) ?_
 rintro x ⟨k',e1,rfl,h1,h2⟩
 have hout:∀ c,Out (.lo fid 1 1) (child fid c):=fun c=>Out.own fid 1 1 c
 have hlt:S.length < 4294967296:=by omega
 simp[hN,room,sB L.toLBuilder,hout,za9,txB,h1,h2,hS,h8,hlt]
end Go.Abs.Run
namespace Go.Abs.Run
open Go Go.Abs
variable {prog:Program} [GOK prog] [GPlain]
def z7y:List AV→Option AV
 | [.str S]=>cond (isB8 S && z29 S 199999) (some (.bool (z3t S && z29 S 4096))) none
 | _=>none
def zbr:List AV→Option AV
 | [.ptr _ _,.agg [.int .i64 (.ofNat 3),.int .i64 _,.int .i64 _,.str S,.sl 1 _ []]]=>cond (isB8 S && (z29 S 4096 && !S.isEmpty)) (some (.tup [.str S,.int .i64 (.ofNat 0)])) none
 | _=>none
theorem z5w {l:List AV} (h:∀ a∈l,Fg a a):∀ (i:Nat) (a a':AV),l[i]?=some a→l[i]?=some a'→Fg a a':=fun i a a' h1 h2=>by
 rw[h1] at h2; cases h2; exact h a (List.mem_of_getElem? h1)
theorem zhl {T:FuncId→Option FI} {I:FuncId→Option z0b} (hT:z87 prog T) (hI:z0z prog I∧z0d I) (hm:prog.follows .mixedOrders=true) (L:LQuote T I):IOK prog 272 (z0p z96) :=
 z8z hT hI hm fun args v h=>by
  unfold z96 at h
  split at h
  ·next S =>
   obtain⟨h1,h2⟩:=z00 h
   cases h2
   simp only[Bool.and_eq_true,z27,z0q] at h1
   obtain⟨e',h3⟩:=zhd (W:=[]) (fid:=1) (e:=⟨[],[],[]⟩) L h1.1 (by omega) (by simp) (by simp)
   exact⟨.str _,[.str S],e',rfl,z5w (by simp; exact .str S),h3⟩
  ·cases h
theorem zcr {T:FuncId→Option FI} {I:FuncId→Option z0b} (hT:z87 prog T) (hI:z0z prog I∧z0d I) (hm:prog.follows .mixedOrders=true) (L:LWritten T I):IOK prog 229 (z0p z4n) :=
 z8z hT hI hm fun args v h=>by
  unfold z4n at h
  split at h
  ·next S =>
   obtain⟨h1,h2⟩:=z00 h
   cases h2
   simp only[Bool.and_eq_true,z27,z0q] at h1
   obtain⟨e',h3⟩:=zcq (fid:=1) (e:=⟨[],[],[]⟩) L h1.1 (by omega)
   rw[← z4m] at h3
   refine⟨.tup (by simp; exact⟨.str _,.bool _⟩),[.agg [.int .i64 0,.int .i64 5,.str S,.int .i64 0]],e',rfl,z5w ?_,h3⟩
   simp
   exact .agg rfl (z5w (by simp; exact⟨.int _ _,.int _ _,.str _,.int _ _⟩))
  ·cases h
theorem zhm {T:FuncId→Option FI} {I:FuncId→Option z0b} (hT:z87 prog T) (hI:z0z prog I∧z0d I) (hm:prog.follows .mixedOrders=true) (L:LJoin T I):IOK prog 133 (z0p z7y) :=
 z8z hT hI hm fun args v h=>by
  unfold z7y at h
  split at h
  ·next S =>
   obtain⟨h1,h2⟩:=z00 h
   cases h2
   simp only[Bool.and_eq_true,z27,z0q] at h1
   obtain⟨e',h3⟩:=zhj (fid:=1) (e:=⟨[],[],[]⟩) L h1.1 (by omega)
   have h4:decide (S.length≤4096)=z29 S 4096:=by
    cases h:z29 S 4096 with
    | true=>simpa using z0q.1 h
    | false=>simp only[decide_eq_false_iff_not]; intro h'; rw[z0q.2 h'] at h; cases h
   rw[← z4m,h4] at h3
   exact⟨.bool _,[.str S],e',rfl,z5w (by simp; exact .str S),h3⟩
  ·cases h
theorem zk5 {T:FuncId→Option FI} {I:FuncId→Option z0b} (hT:z87 prog T) (hI:z0z prog I∧z0d I) (hm:prog.follows .mixedOrders=true) (L:LTold T I):IOK prog 18 (z0p zbr) :=
 z8z hT hI hm fun args v h=>by
  unfold zbr at h
  split at h
  ·next l o c n S z =>
   obtain⟨h1,h2⟩:=z00 h
   cases h2
   simp only[Bool.and_eq_true,z27,z0q] at h1
   have hS:S≠[]:=by intro h; subst h; simp at h1
   obtain⟨e',h3⟩:=zk4 (dp:=.dp 0 []) (c:=c) (n:=n) (z:=z) (fid:=1) (e:=⟨[],[],[]⟩) L hS h1.2.1 h1.1
   refine⟨.tup (by simp; exact⟨.str _,.int _ _⟩),[.dp 0 [],.agg [.int .i64 3,.int .i64 c,.int .i64 n,.str S,.sl 1 z []]],e',rfl,fun i a a' g1 g2=>?_,h3⟩
   match i,g1,g2 with
   | 0,g1,g2=>cases g1; cases g2; exact .ptr _ _
   | 1,g1,g2 =>
    cases g1; cases g2
    exact .agg rfl (z5w (by simp; exact⟨.int _ _,.int _ _,.int _ _,.str _,.sl (k:=1) rfl (by simp) (by simp)⟩))
  ·cases h
end Go.Abs.Run
namespace Go.Abs.Run
open Go Go.Abs
def WOut (W:List Lo) (fid:Nat):Prop:=∀ x,Sub fid x→∀ a i,free W (.lo x a i)=true
theorem WOut.child {W:List Lo} {fid:Nat} (h:WOut W fid) (c:Nat) (hc:c < cap):WOut W (child fid c):=fun x hx a i=>h x ((Sub.step .refl hc).trans hx) a i
theorem WOut.own {W:List Lo} {fid:Nat} (h:WOut W fid) (a i:Nat):free W (.lo fid a i)=true:=h fid .refl a i
theorem WOut.nil (fid:Nat):WOut [] fid:=fun _ _ _ _=>zjr _
theorem strEq_iff {a b:List Nat}:z13 a b=decide (a=b):=by
 induction a generalizing b with
 | nil=>cases b<;>simp[z13]
 | cons x a ih =>
  cases b with
  | nil=>simp[z13]
  | cons y b =>
   simp only[z13,z5s,ih]
   by_cases h:x=y<;>simp[h]
theorem zhn (cnt:Nat):tick false cnt % 2=0:=by
 unfold tick
 cases h:Nat.beq (cnt % 2) (cond false 1 0) with
 | true=>have:=Nat.eq_of_beq_eq_true h; simpa using this
 | false=>have:=Nat.ne_of_beq_eq_false h; simp at this; show (cnt+1) % 2=0; omega
theorem zf1 (fid c:Nat) (h:c % 2=0):z0e fid c % 2=0:=by simp only[z0e,base]; omega
@[simp] theorem fresh_tickE (fid cnt:Nat):z0e fid (tick false cnt) % 2=0:=zf1 _ _ (zhn cnt)
noncomputable def upE (k:Nat) (e:E):E:=match e with | ⟨[],glo,gl⟩=>⟨[],glo,gl⟩ | ⟨g::rest,glo,gl⟩=>⟨⟨g.fid,g.objs,k::g.live⟩::rest,glo,gl⟩
@[simp] theorem upE_psh (k:Nat) (g:FS) (e:E):upE k (psh g e)=psh ⟨g.fid,g.objs,k::g.live⟩ e:=rfl
def Kin (fid k:Nat):Prop:=∃ y d,Sub fid y∧d < cap∧k=z0e y d
theorem Kin.up {fid c k:Nat} (hc:c < cap) (h:Kin (child fid c) k):Kin fid k:=by
 obtain⟨y,d,h1,h2,h3⟩:=h; exact⟨y,d,(Sub.step .refl hc).trans h1,h2,h3⟩
def OwnT (fid k z w:Nat) (b:List AV) (live:List Nat):Prop:=(k=1∧z=0∧b=[])∨(z=w∧k % 2=0∧(∃ d,d < cap∧k=z0e fid d)∧z0l live k=true)
end Go.Abs.Run
namespace Go.Abs.Run
open Go Go.Abs
attribute [local simp] oM oN oF oE oQ oP oG oL oR oC oX oS oY vi vj vu vz ci cu eI eS eB
attribute [local simp] s0 t0 s1 t1 s2 t2 s3 t3 s4 t4 s5 t5 s6 t6 s7 t7 s8 t8 s9 t9 s10 t10 s11 t11 s12 t12 s13 t13 s14 t14 s15 t15 s16 t16 s17 t17 s18 t18 s19 t19 s20 t20 s21 t21 s22 t22 s23 t23 s24 t24 s25 t25 s26 t26 s27 t27 s28 t28 s29 t29 s30 t30 s31 t31 s32 t32 s33 t33 s34 t34 s35 t35 s36 t36 s37 t37 s38 t38 s39 t39
variable {P:Nat→Option FI} {I:Nat→Option z0b} {W:List Lo} {fid:Nat} {e:E}
structure LWithin (P:Nat→Option FI) (I:Nat→Option z0b):Prop where
 p7:P 7=some f7
 i7:I 7=none
theorem zf2 (L:LWithin P I) {n:Int} {m:Nat} (hm:m < 1000000):cal P I 7 [.int .i64 n,.int .i64 0,.int .i64 m] W fid e=.ret (.int .i64 (n % (m+1:Int))) e:=by
 refine z1s L.i7 L.p7 rfl (by simp) ?_
 have h1:IntKind.i64.wrap (m:Int)=m:=z0r (by omega) (by omega)
 have h2:IntKind.i64.wrap ((m:Int)+1)=m+1:=z0r (by omega) (by omega)
 have h3:¬ ((m:Int)+1=0):=by omega
 have h4:=@Int.tmod_eq_emod n (m+1:Int)
 have h5:=Int.emod_nonneg n h3
 have h6:=Int.emod_lt_of_pos n (show (0:Int) < m+1 by omega)
 have h7:((m:Int)+1).natAbs=m+1:=by omega
 generalize hr:n % (m+1:Int)=r at *
 generalize ht:n.tmod (m+1:Int)=t at *
 by_cases hlt:t < 0
 ·have h8:t+m+1=r:=by
   split at h4<;>omega
  have h9:IntKind.i64.wrap (t+m)=t+m:=z0r (by omega) (by omega)
  have h10:IntKind.i64.wrap (t+m+1)=r:=by rw[z0r (by omega) (by omega)]; exact h8
  have h11:IntKind.i64.wrap r=r:=z0r (by omega) (by omega)
  simp[f7,h1,h2,h3,ht,hlt,h9,h10,h11]
 ·have h8:t=r:=by
   split at h4<;>omega
  have h11:IntKind.i64.wrap r=r:=z0r (by omega) (by omega)
  subst h8
  simp[f7,h1,h2,h3,ht,hlt,h11]
theorem zho (n:Int) (m:Nat):∃ k:Nat,k < m+1∧n % (m+1:Int)=k:=by
 have h5:=Int.emod_nonneg n (show (m+1:Int)≠0 by omega)
 have h6:=Int.emod_lt_of_pos n (show (0:Int) < m+1 by omega)
 exact⟨(n % (m+1:Int)).toNat,by omega,by omega⟩
end Go.Abs.Run
namespace Go.Abs.Run
open Go Go.Abs
attribute [local simp] oM oN oF oE oQ oP oG oL oR oC oX oS oY vi vj vu vz ci cu eI eS eB
attribute [local simp] s0 t0 s1 t1 s2 t2 s3 t3 s4 t4 s5 t5 s6 t6 s7 t7 s8 t8 s9 t9 s10 t10 s11 t11 s12 t12 s13 t13 s14 t14 s15 t15 s16 t16 s17 t17 s18 t18 s19 t19 s20 t20 s21 t21 s22 t22 s23 t23 s24 t24 s25 t25 s26 t26 s27 t27 s28 t28 s29 t29 s30 t30 s31 t31 s32 t32 s33 t33 s34 t34 s35 t35 s36 t36 s37 t37 s38 t38 s39 t39 s40 t40 s41 t41 s42 t42 s43 t43 s44 t44 s45 t45 s46 t46 s47 t47 s48 t48 s49 t49 s50 t50 s51 t51 s52 t52 s53 t53 s54 t54 s55 t55 s56 t56 s57 t57 s58 t58 s59 t59 s60 t60 s61 t61 s62 t62 s63 t63 s64 t64 s65 t65 s66 t66 s67 t67 s68 t68 s69 t69 s70 t70 s71 t71 s72 t72 s73 t73 s74 t74 s75 t75 s76 t76 s77 t77 s78 t78 s79 t79 s80 t80 s81 t81 s82 t82 s83 t83 s84 t84 s85 t85 s86 t86 s87 t87 s88 t88 s89 t89 s90 t90 s91 t91 s92 t92 s93 t93 s94 t94 s95 t95 s96 t96 s97 t97 s98 t98 s99 t99 s100 t100 s101 t101 s102 t102 s103 t103 s104 t104 s105 t105 s106 t106 s107 t107 s108 t108 s109 t109 s110 t110 s111 t111 s112 t112 s113 t113 s114 t114 s115 t115 s116 t116 s117 t117 s118 t118 s119 t119 s120 t120 s121 t121 s122 t122 s123 t123 s124 t124 s125 t125 s126 t126 s127 t127 s128 t128 s129 t129 s130 t130 s131 t131 s132 t132 s133 t133 s134 t134 s135 t135 s136 t136 s137 t137 s138 t138 s139 t139 s140 t140 s141 t141 s142 t142 s143 t143 s144 t144 s145 t145 s146 t146 s147 t147 s148 t148 s149 t149 s150 t150 s151 t151 s152 t152 s153 t153 s154 t154 s155 t155 s156 t156 s157 t157 s158 t158 s159 t159 s160 t160 s161 t161 s162 t162 s163 t163 s164 t164 s165 t165 s166 t166 s167 t167 s168 t168 s169 t169 s170 t170 s171 t171 s172 t172 s173 t173 s174 t174 s175 t175 s176 t176 s177 t177 s178 t178 s179 t179 s180 t180 s181 t181 s182 t182 s183 t183 s184 t184 s185 t185 s186 t186 s187 t187 s188 t188 s189 t189 s190 t190 s191 t191 s192 t192 s193 t193 s194 t194 s195 t195 s196 t196 s197 t197 s198 t198 s199 t199
variable {P:Nat→Option FI} {I:Nat→Option z0b} {W:List Lo} {fid:Nat} {e:E}
def digs (n:Nat):List Nat:=if h:n < 10 then [48+n] else digs (n / 10)++[48+n % 10]
decreasing_by omega
theorem z5x {n:Nat} (h:n < 10):digs n=[48+n]:=by rw[digs]; simp[h]
theorem z7z {n:Nat} (h:¬ n < 10):digs n=digs (n / 10)++[48+n % 10]:=by rw[digs]; simp[h]
theorem z5y:∀ (f n:Nat) (acc:List Nat),n < 10 ^ (f+1)→z5u (f+1) n acc=digs n++acc
 | f,n,acc,h=>by
  by_cases hn:n < 10
  ·have hb:Nat.blt n 10=true:=by rw[Nat.blt_eq]; exact hn
   rw[z5x hn,z5u,hb]; rfl
  ·have hb:Nat.blt n 10=false:=by rw[Bool.eq_false_iff]; intro h'; exact hn (Nat.le_of_ble_eq_true h')
   cases f with
   | zero=>simp at h; omega
   | succ f=>rw[z5u,hb,cond_false,z5y f (n / 10) _ (by rw[Nat.pow_succ] at h; omega),z7z hn]; simp
def val:List Nat→Nat→Nat
 | [],a=>a
 | c::r,a=>val r (a * 10+(c - 48))
theorem val_app (l:List Nat) (c a:Nat):val (l++[c]) a=val l a * 10+(c - 48):=by
 induction l generalizing a with
 | nil=>rfl
 | cons x l ih=>exact ih _
theorem z5b (n:Nat):val (digs n) 0=n:=by
 by_cases hn:n < 10
 ·rw[z5x hn]; simp[val]
 ·rw[z7z hn,val_app,z5b (n / 10)]; omega
theorem z4o (n:Nat):∀ c∈digs n,48≤c∧c≤57:=by
 by_cases hn:n < 10
 ·rw[z5x hn]; simp; omega
 ·rw[z7z hn]
  intro c hc
  rcases List.mem_append.1 hc with h | h
  ·exact z4o (n / 10) c h
  ·simp at h; omega
theorem z8 (n:Nat):∃ c r,digs n=c::r∧(c=48→n=0∧r=[]):=by
 by_cases hn:n < 10
 ·rw[z5x hn]; exact⟨_,_,rfl,fun h=>⟨by omega,rfl⟩⟩
 ·obtain⟨c,r,h1,h2⟩:=z8 (n / 10)
  rw[z7z hn,h1]
  exact⟨c,r++[48+n % 10],rfl,fun h=>by have:=(h2 h).1; omega⟩
theorem zab:∀ (k n:Nat),n < 10 ^ (k+1)→(digs n).length≤k+1
 | 0,n,h=>by rw[z5x (by simpa using h)]; simp
 | k+1,n,h=>by
  by_cases hn:n < 10
  ·rw[z5x hn]; simp
  ·rw[z7z hn]
   have:=zab k (n / 10) (by rw[Nat.pow_succ] at h; omega)
   simp; omega
theorem zhp {n:Int} (h:z6c n=true) (h0:0≤n):z2y n=digs n.toNat∧n < 9223372036854775808:=by
 obtain⟨m,rfl⟩:=Int.eq_ofNat_of_zero_le h0
 have:m < 9223372036854775808:=Nat.le_of_ble_eq_true h
 exact⟨by show z5u 20 m []=_; rw[z5y 19 m [] (by omega)]; simp,by omega⟩
theorem zhq {n:Int} (h:z6c n=true) (h0:n < 0):z2y n=45::digs n.natAbs∧-9223372036854775808≤n:=by
 cases n with
 | ofNat m=>simp at h0; omega
 | negSucc m =>
  have:m < 9223372036854775808:=Nat.le_of_ble_eq_true h
  exact⟨by show 45::z5u 20 (m+1) []=_; rw[z5y 19 (m+1) [] (by omega)]; simp[Int.natAbs_negSucc],by omega⟩
theorem zac (x:Int):IntKind.i64.wrap x=if x % 18446744073709551616 < 9223372036854775808 then x % 18446744073709551616 else x % 18446744073709551616 - 18446744073709551616:=by
 simp only[IntKind.wrap,IntKind.bits,IntKind.signed]
 have:(2:Int) ^ 64=18446744073709551616:=rfl
 have:(2:Int) ^ (64 - 1)=9223372036854775808:=rfl
 simp only[*]
 split<;>split<;>first | rfl | omega | (simp_all<;>omega)
theorem zk6 (x:Int) (c:Int):IntKind.i64.wrap (IntKind.i64.wrap (IntKind.i64.wrap x * 10)+c)=IntKind.i64.wrap (x * 10+c):=by
 simp only[zac]; omega
structure LPlain0 (P:Nat→Option FI) (I:Nat→Option z0b):Prop extends LWithin P I where
 p3:P 3=some f3
 i3:I 3=none
variable {d S:List Nat} {s:Tm} {cnt i c v:Nat}
theorem zk7 (h9:s.get (.l (.r (.l .e)))=.str d) (h10:s.get (.r (.r (.l .e)))=.int .i64 (IntKind.i64.wrap v)) (h11:s.get (.l (.l (.r .e)))=.int .i64 i) (hx:d[i]?=some c) (h1:48≤c) (h2:c≤57) (hl:d.length < 1000) :
  ∃ s',runW (cal P I) fid W b3x1 ⟨s,cnt⟩ e=.go ⟨s',cnt⟩ e∧s'.get .e=s.get .e∧s'.get (.l .e)=s.get (.l .e)∧s'.get (.l (.r .e))=s.get (.l (.r .e))∧s'.get (.l (.r (.l .e)))=.str d ∧
   s'.get (.r (.r (.l .e)))=.int .i64 (IntKind.i64.wrap (v * 10+(c - 48):Nat))∧s'.get (.l (.l (.r .e)))=.int .i64 (i+1:Nat):=by
 have hlt:i < d.length:=(List.getElem?_eq_some_iff.1 hx).1
 have hlt':(i:Int) < (d.length:Int):=by omega
 have g1:¬ (c:Int) < 48:=by omega
 have g2:¬ (57:Int) < (c:Int):=by omega
 have w1:IntKind.u8.wrap ((c:Int) - 48)=(c:Int) - 48:=wrap_u8 (by omega) (by omega)
 have w2:IntKind.i64.wrap ((c:Int) - 48)=(c:Int) - 48:=z0r (by omega) (by omega)
 have w3:IntKind.i64.wrap ((i:Int)+1)=(i:Int)+1:=z0r (by omega) (by omega)
 have w4:=zk6 v ((c:Int) - 48)
 have w5:((v * 10+(c - 48):Nat):Int)=(v:Int) * 10+((c:Int) - 48):=by omega
 rw[w5]
 simp[b3x1,Tm.get_set,h9,h10,h11,hlt',z0h,hx,g1,g2,w1,w2,w3,w4]
theorem dig_end (h9:s.get (.l (.r (.l .e)))=.str d) (h11:s.get (.l (.l (.r .e)))=.int .i64 d.length) :
  ∃ s',runW (cal P I) fid W b3x1 ⟨s,cnt⟩ e=.exit 0 ⟨s',cnt⟩ e∧s'.get .e=s.get .e∧s'.get (.l .e)=s.get (.l .e)∧s'.get (.l (.r .e))=s.get (.l (.r .e))∧s'.get (.l (.r (.l .e)))=.str d∧s'.get (.r (.r (.l .e)))=s.get (.r (.r (.l .e))):=by
 simp[b3x1,Tm.get_set,h9,h11]
theorem zdq (hl:d.length < 1000):∀ (r:List Nat) (i v:Nat) (s:Tm),(∀ c∈r,48≤c∧c≤57)→d.drop i=r→i+r.length=d.length→s.get (.l (.r (.l .e)))=.str d→s.get (.r (.r (.l .e)))=.int .i64 (IntKind.i64.wrap v)→s.get (.l (.l (.r .e)))=.int .i64 i →
  ∃ s',lp (runW (cal P I) fid W b3x1) ⟨s,cnt⟩ e=.exit 0 ⟨s',cnt⟩ e∧s'.get .e=s.get .e∧s'.get (.l .e)=s.get (.l .e)∧s'.get (.l (.r .e))=s.get (.l (.r .e))∧s'.get (.l (.r (.l .e)))=.str d∧s'.get (.r (.r (.l .e)))=.int .i64 (IntKind.i64.wrap (val r v:Nat))
 | [],i,v,s,_,_,hi,h9,h10,h11=>by
  have:i=d.length:=by simpa using hi
  subst this
  obtain⟨s',h,g0,g1,g5,g9,g10⟩:=dig_end (P:=P) (I:=I) (W:=W) (fid:=fid) (e:=e) (cnt:=cnt) h9 h11
  exact⟨s',by rw[z3d,h]; rfl,g0,g1,g5,g9,g10.trans h10⟩
 | c::r,i,v,s,hr,hd,hi,h9,h10,h11=>by
  have hx:d[i]?=some c:=by
   have:=congrArg (fun l=>l[0]?) hd
   simpa using this
  obtain⟨h1,h2⟩:=hr c (by simp)
  obtain⟨s',h,g0,g1,g5,g9,g10,g11⟩:=zk7 (P:=P) (I:=I) (W:=W) (fid:=fid) (e:=e) (cnt:=cnt) h9 h10 h11 hx h1 h2 hl
  have hd':d.drop (i+1)=r:=by
   have:=congrArg List.tail hd
   simpa using this
  obtain⟨s2,k,k0,k1,k5,k9,k10⟩:=zdq hl r (i+1) (v * 10+(c - 48)) s' (fun c hc=>hr c (by simp[hc])) hd' (by simp at hi; omega) g9 g10 g11
  exact⟨s2,by rw[z3d,h]; exact k,k0.trans g0,k1.trans g1,k5.trans g5,k9,k10⟩
def DRes (d:List Nat) (v:Nat) (a0 a1 a5:AV) (cnt:Nat) (e:E) (r:R):Prop :=
 ∃ s',r=.exit 0 ⟨s',cnt⟩ e∧s'.get .e=a0∧s'.get (.l .e)=a1∧s'.get (.l (.r .e))=a5∧s'.get (.l (.r (.l .e)))=.str d∧s'.get (.r (.r (.l .e)))=.int .i64 (IntKind.i64.wrap (v:Nat))
theorem zad (hl:d.length < 1000) (hr:∀ c∈d,48≤c∧c≤57) (h9:s.get (.l (.r (.l .e)))=.str d) (h10:s.get (.r (.r (.l .e)))=.int .i64 0) (h11:s.get (.l (.l (.r .e)))=.int .i64 0) :
  DRes d (val d 0) (s.get .e) (s.get (.l .e)) (s.get (.l (.r .e))) cnt e (lp (runW (cal P I) fid W b3x1) ⟨s,cnt⟩ e) :=
 zdq hl d 0 0 s hr rfl (by simp) h9 h10 h11
theorem zk8 {b:Bool} (h1:s.get (.l .e)=.str S) (h14:s.get (.r (.r (.r .e)))=.bool b) (h15:s.get (.l (.l (.l (.l .e))))=.int .i64 i) (hx:S[i]?=some c) (hl:S.length < 10000) :
  ∃ s',runW (cal P I) fid W b3x0 ⟨s,cnt⟩ e=.go ⟨s',cnt⟩ e∧s'.get .e=s.get .e∧s'.get (.l .e)=.str S∧s'.get (.l (.r .e))=s.get (.l (.r .e))∧s'.get (.l (.r (.l .e)))=s.get (.l (.r (.l .e)))∧s'.get (.r (.r (.l .e)))=s.get (.r (.r (.l .e)))∧s'.get (.r (.l (.r .e)))=s.get (.r (.l (.r .e)))∧s'.get (.l (.r (.r .e)))=s.get (.l (.r (.r .e))) ∧
   s'.get (.r (.r (.r .e)))=.bool (b && (decide (c=10) || (decide (32≤c) && decide (c≤126))))∧s'.get (.l (.l (.l (.l .e))))=.int .i64 (i+1:Nat):=by
 have hlt:i < S.length:=(List.getElem?_eq_some_iff.1 hx).1
 have hlt':(i:Int) < (S.length:Int):=by omega
 have w3:IntKind.i64.wrap ((i:Int)+1)=(i:Int)+1:=z0r (by omega) (by omega)
 have e10:((c:Int)=10)↔c=10:=by omega
 have e32:((32:Int)≤c)↔32≤c:=by omega
 have e126:((c:Int)≤126)↔c≤126:=by omega
 cases b with
 | false =>
  simp[b3x0,Tm.get_set,h1,h14,h15,hlt',z0h,hx,w3]
 | true =>
  by_cases h:c=10
  ·subst h
   simp[b3x0,Tm.get_set,h1,h14,h15,hlt',z0h,hx,w3]
  ·by_cases h32:32≤c
   ·simp[b3x0,Tm.get_set,h1,h14,h15,hlt',z0h,hx,w3,e10,h,e32,h32,e126]
   ·simp[b3x0,Tm.get_set,h1,h14,h15,hlt',z0h,hx,w3,e10,h,e32,h32,e126]
theorem let_end (h1:s.get (.l .e)=.str S) (h15:s.get (.l (.l (.l (.l .e))))=.int .i64 S.length) :
  ∃ s',runW (cal P I) fid W b3x0 ⟨s,cnt⟩ e=.exit 2 ⟨s',cnt⟩ e∧s'.get .e=s.get .e∧s'.get (.l .e)=.str S∧s'.get (.l (.r .e))=s.get (.l (.r .e))∧s'.get (.l (.r (.l .e)))=s.get (.l (.r (.l .e)))∧s'.get (.r (.r (.l .e)))=s.get (.r (.r (.l .e)))∧s'.get (.r (.l (.r .e)))=s.get (.r (.l (.r .e)))∧s'.get (.l (.r (.r .e)))=s.get (.l (.r (.r .e)))∧s'.get (.r (.r (.r .e)))=s.get (.r (.r (.r .e))):=by
 simp[b3x0,Tm.get_set,h1,h15]
def z88 (l:List Nat):Bool:=l.all fun c=>decide (c=10) || (decide (32≤c) && decide (c≤126))
theorem zdr (hl:S.length < 10000):∀ (r:List Nat) (i:Nat) (b:Bool) (s:Tm),S.drop i=r→i+r.length=S.length→s.get (.l .e)=.str S→s.get (.r (.r (.r .e)))=.bool b→s.get (.l (.l (.l (.l .e))))=.int .i64 i →
  ∃ s',lp (runW (cal P I) fid W b3x0) ⟨s,cnt⟩ e=.exit 2 ⟨s',cnt⟩ e∧s'.get .e=s.get .e∧s'.get (.l .e)=.str S∧s'.get (.l (.r .e))=s.get (.l (.r .e))∧s'.get (.l (.r (.l .e)))=s.get (.l (.r (.l .e)))∧s'.get (.r (.r (.l .e)))=s.get (.r (.r (.l .e)))∧s'.get (.r (.l (.r .e)))=s.get (.r (.l (.r .e)))∧s'.get (.l (.r (.r .e)))=s.get (.l (.r (.r .e)))∧s'.get (.r (.r (.r .e)))=.bool (b && z88 r)
 | [],i,b,s,_,hi,h1,h14,h15=>by
  have:i=S.length:=by simpa using hi
  subst this
  obtain⟨s',h,g0,g1,g5,g9,g10,g12,g13,g14⟩:=let_end (P:=P) (I:=I) (W:=W) (fid:=fid) (e:=e) (cnt:=cnt) h1 h15
  exact⟨s',by rw[z3d,h]; rfl,g0,g1,g5,g9,g10,g12,g13,by rw[g14,h14]; simp[z88]⟩
 | c::r,i,b,s,hd,hi,h1,h14,h15=>by
  have hx:S[i]?=some c:=by
   have:=congrArg (fun l=>l[0]?) hd
   simpa using this
  obtain⟨s',h,g0,g1,g5,g9,g10,g12,g13,g14,g15⟩:=zk8 (P:=P) (I:=I) (W:=W) (fid:=fid) (e:=e) (cnt:=cnt) h1 h14 h15 hx hl
  have hd':S.drop (i+1)=r:=by
   have:=congrArg List.tail hd
   simpa using this
  obtain⟨s2,k,k0,k1,k5,k9,k10,k12,k13,k14⟩:=zdr hl r (i+1) _ s' hd' (by simp at hi; omega) g1 g14 g15
  exact⟨s2,by rw[z3d,h]; exact k,k0.trans g0,k1,k5.trans g5,k9.trans g9,k10.trans g10,k12.trans g12,k13.trans g13,by rw[k14]; simp[z88,Bool.and_assoc]⟩
def LRes (S:List Nat) (b:Bool) (a0 a5 a9 a10 a12 a13:AV) (cnt:Nat) (e:E) (r:R):Prop :=
 ∃ s',r=.exit 2 ⟨s',cnt⟩ e∧s'.get .e=a0∧s'.get (.l .e)=.str S∧s'.get (.l (.r .e))=a5∧s'.get (.l (.r (.l .e)))=a9∧s'.get (.r (.r (.l .e)))=a10∧s'.get (.r (.l (.r .e)))=a12∧s'.get (.l (.r (.r .e)))=a13∧s'.get (.r (.r (.r .e)))=.bool b
theorem zae {b:Bool} (hl:S.length < 10000) (h1:s.get (.l .e)=.str S) (h14:s.get (.r (.r (.r .e)))=.bool b) (h15:s.get (.l (.l (.l (.l .e))))=.int .i64 0) :
  LRes S (b && z88 S) (s.get .e) (s.get (.l (.r .e))) (s.get (.l (.r (.l .e)))) (s.get (.r (.r (.l .e)))) (s.get (.r (.l (.r .e)))) (s.get (.l (.r (.r .e)))) cnt e (lp (runW (cal P I) fid W b3x0) ⟨s,cnt⟩ e) :=
 zdr hl S 0 b s rfl (by simp) h1 h14 h15
def z80 (S:List Nat):AV:=cond (decide (S.length≤4096) && z88 S) (.tup [.str S,.int .i64 0]) (.tup [.str [],.int .i64 1])
def z4c (y:Nat):AV:=.tup [.str (if y=1 then [116,114,117,101] else [102,97,108,115,101]),.int .i64 0]
structure LPlain (P:Nat→Option FI) (I:Nat→Option z0b) (lc lw:Lo) (X1 X2:E) (H3:E→Prop):Prop extends LPlain0 P I where
 made:cal P I 4 [.agg [.sl 1 0 [],.sl 1 0 []],.sl 1 5 [.agg [.int .i64 1,.str [],.sl 1 0 [],.sl 1 0 [],.sl 1 0 []],.agg [.int .i64 3,.str [],.sl 1 0 [],.sl 1 0 [],.sl 1 0 []],.agg [.int .i64 2,.str [],.sl 1 0 [],.sl 1 0 [],.sl 1 0 []]]] [] (child 1 0) (psh ⟨1,[],[]⟩ ⟨[],[],[]⟩)=.ret (.tup [.ptr lc 0,.ptr lw 0]) X1
 len:cal P I 5 [.ptr lc 0] [] (child 1 1) X1=.ret (.int .i64 3) X1
 t1:∀ n,z6c n=true→cal P I 6 [.ptr lc 0,.agg [.int .i64 1,.int .i64 0,.int .i64 n,.str [],.sl 1 0 []]] [] (child 1 2) X1=.ret (.tup [.str (z2y n),.int .i64 0]) X2
 t2:∀ S,B8 S→S.length≤5000→∃ X,H3 X∧cal P I 6 [.ptr lc 0,.agg [.int .i64 3,.int .i64 1,.int .i64 0,.str S,.sl 1 0 []]] [] (child 1 3) X2=.ret (z80 S) X
 t3:∀ X y,H3 X→y < 2→∃ X',cal P I 6 [.ptr lc 0,.agg [.int .i64 2,.int .i64 2,.int .i64 (y:Nat),.str [],.sl 1 0 []]] [] (child 1 5) X=.ret (z4c y) X'
 ru:∀ W fid e,cal P I 8 [] W fid e=.ret (.bool true) e
variable {lc lw:Lo} {X1 X2:E} {H3:E→Prop}
def PQ (r:CR):Prop:=∃ e',r=.ret (.bool true) e'
set_option maxHeartbeats 4000000 in
theorem z97 (L:LPlain P I lc lw X1 X2 H3) {n:Int} {S S':List Nat} (hn:z6c n=true) (hS:B8 S') (h:(S.length≤5000∧S'=S)∨(5000 < S.length∧S'=S.take 5000)) :
  PQ (cal P I 3 [.int .i64 n,.str S] [] 1 ⟨[],[],[]⟩):=by
 have hl':S'.length≤5000:=by
  rcases h with⟨h1,rfl⟩ | ⟨h1,rfl⟩
  ·exact h1
  ·simp; omega
 obtain⟨X3,h3,ht2⟩:=L.t2 S' hS hl'
 obtain⟨y,hy,hwy⟩:=zho n 1
 obtain⟨X4,ht3⟩:=L.t3 X3 y h3 hy
 have hw:∀ W fid e,cal P I 7 [.int .i64 n,.int .i64 0,.int .i64 1] W fid e=.ret (.int .i64 (y:Nat)) e:=fun W fid e=>by rw[← hwy]; exact zf2 L.toLWithin (m:=1) (by decide)
 have ht1:=L.t1 n hn
 have hmade:=L.made
 have hlen:=L.len
 have hru:=L.ru
 obtain⟨c0,r0,hd0,hd1⟩:=z8 n.natAbs
 have hlen0:(digs n.natAbs)[0]?=some c0:=by rw[hd0]; rfl
 have hx0:∀ h,(digs n.natAbs)[0]'h=c0:=fun h=>by have:=hlen0; rw[List.getElem?_eq_getElem h] at this; exact Option.some.inj this
 have hE:z13 (digs n.natAbs) [48]=decide (c0=48):=by
  rw[hd0]
  by_cases hc:c0=48
  ·rw[(hd1 hc).2]; simp[z13,hc]
  ·simp[z13,hc]
 have hc48:((c0:Int)=48)↔c0=48:=by omega
 have hl0:(digs n.natAbs).length≤20:=zab 19 n.natAbs (by
  cases n with
  | ofNat m=>have:m < 9223372036854775808:=Nat.le_of_ble_eq_true hn; show m < _; omega
  | negSucc m=>have:m < 9223372036854775808:=Nat.le_of_ble_eq_true hn; show m+1 < _; omega)
 have hp0:(0:Int) < (digs n.natAbs).length:=by rw[hd0]; simp
 have hp1:0 < (digs n.natAbs).length:=by rw[hd0]; simp
 obtain⟨u,z,hu,hz1,hz2,hz3⟩:∃ u z,z80 S'=.tup [.str u,.int .i64 z]∧(decide (S'.length≤4096) && z88 S')=decide (z=0)∧(z=0→u=S')∧(z=0∨z=1):=by
  unfold z80
  cases hk:(decide (S'.length≤4096) && z88 S') with
  | true=>exact⟨S',0,rfl,by simp,fun _=>rfl,.inl rfl⟩
  | false=>exact⟨[],1,rfl,by simp,(fun h=>by cases h),.inr rfl⟩
 rw[hu] at ht2
 have h4096:((S'.length:Int)≤4096)↔S'.length≤4096:=by omega
 have hyy:y=0∨y=1:=by omega
 refine z48 (Q:=PQ) L.i3 L.p3 rfl (by simp[PQ]) ?_
 have hnil:¬ digs n.natAbs=[]:=by rw[hd0]; simp
 have hss:∀ l,z13 l l=true:=fun l=>by rw[strEq_iff]; simp
 rcases(show n < 0∨0≤n by omega) with hneg | hpos
 ·obtain⟨hd,hb⟩:=zhq hn hneg
  rw[hd] at ht1
  have hz:¬ (((digs n.natAbs).length:Int)+1=0):=by omega
  have hback:IntKind.i64.wrap (-IntKind.i64.wrap ((n.natAbs:Nat):Int))=n:=by simp only[zac]; omega
  rcases h with⟨h1,rfl⟩ | ⟨h1,rfl⟩
  ·skip
   have hlt:¬ (5000:Int) < S'.length:=by omega
   simp[f3,room,hmade,hlen,hlt,ht1,hneg,hz,hnil,slsA,slsS,z15,z0h]
   simp only[z1j,z11,z1e]
   refine Wp.use (zad (d:=digs n.natAbs) (by omega) (z4o _) rfl rfl rfl) ?_
   rintro r ⟨s1,rfl,g0,g1,g5,g9,g10⟩
   simp at g0 g1 g5
   rw[z5b] at g10
   simp[Tm.get_set,g0,g1,g5,g9,g10,hneg,room,ht2]
   change Wp (fun r=>PQ (z2k _ 1 r)) _
   simp only[z1j,z11,z1e]
   refine Wp.use (zae (S:=S') (b:=decide (S'.length≤4096)) (by omega) ?_ ?_ ?_) ?_
   ·simp[Tm.get_set,g1]
   ·first | (simp[Tm.get_set,h4096]; done) | (simp[Tm.get_set,h4096]; omega)
   ·simp[Tm.get_set]
   rintro r ⟨s2,rfl,k0,k1,k5,k9,k10,k12,k13,k14⟩
   simp[Tm.get_set,g0,g1,g5,g9,g10,hback] at k0 k5 k9 k10 k12 k13
   rw[hz1] at k14
   rcases hz3 with rfl | rfl
   ·have hu2:=hz2 rfl
    subst hu2
    rcases hyy with rfl | rfl
    all_goals
     simp[z4c] at ht3
     by_cases hc:c0=48
    all_goals
     simp[Tm.get_set,hc,k0,k1,k5,k9,k10,k12,k13,k14,room,hw,ht3,hp0,hp1,hE,hlen0,hx0,z0h,hc48,hru,hss,z13,PQ,Wp]
   ·rcases hyy with rfl | rfl
    all_goals
     simp[z4c] at ht3
     by_cases hc:c0=48
    all_goals
     simp[Tm.get_set,hc,k0,k1,k5,k9,k10,k12,k13,k14,room,hw,ht3,hp0,hp1,hE,hlen0,hx0,z0h,hc48,hru,hss,z13,PQ,Wp]
  ·skip
   have hlt:(5000:Int) < S.length:=by omega
   have hle:5000≤S.length:=by omega
   simp[f3,room,hmade,hlen,hlt,hle,ht1,hneg,hz,hnil,slsA,slsS,z15,z0h]
   simp only[z1j,z11,z1e]
   refine Wp.use (zad (d:=digs n.natAbs) (by omega) (z4o _) rfl rfl rfl) ?_
   rintro r ⟨s1,rfl,g0,g1,g5,g9,g10⟩
   simp at g0 g1 g5
   rw[z5b] at g10
   simp[Tm.get_set,g0,g1,g5,g9,g10,hneg,room,ht2]
   change Wp (fun r=>PQ (z2k _ 1 r)) _
   simp only[z1j,z11,z1e]
   refine Wp.use (zae (S:=(List.take 5000 S)) (b:=decide ((List.take 5000 S).length≤4096)) (by omega) ?_ ?_ ?_) ?_
   ·simp[Tm.get_set,g1]
   ·first | (simp[Tm.get_set,h4096]; done) | (simp[Tm.get_set,h4096]; omega)
   ·simp[Tm.get_set]
   rintro r ⟨s2,rfl,k0,k1,k5,k9,k10,k12,k13,k14⟩
   simp[Tm.get_set,g0,g1,g5,g9,g10,hback] at k0 k5 k9 k10 k12 k13
   rw[hz1] at k14
   rcases hz3 with rfl | rfl
   ·have hu2:=hz2 rfl
    subst hu2
    rcases hyy with rfl | rfl
    all_goals
     simp[z4c] at ht3
     by_cases hc:c0=48
    all_goals
     simp[Tm.get_set,hc,k0,k1,k5,k9,k10,k12,k13,k14,room,hw,ht3,hp0,hp1,hE,hlen0,hx0,z0h,hc48,hru,hss,z13,PQ,Wp]
   ·rcases hyy with rfl | rfl
    all_goals
     simp[z4c] at ht3
     by_cases hc:c0=48
    all_goals
     simp[Tm.get_set,hc,k0,k1,k5,k9,k10,k12,k13,k14,room,hw,ht3,hp0,hp1,hE,hlen0,hx0,z0h,hc48,hru,hss,z13,PQ,Wp]
 ·obtain⟨hd,hb⟩:=zhp hn hpos
  rw[show n.toNat=n.natAbs by omega] at hd
  rw[hd] at ht1
  have hneg:¬ n < 0:=by omega
  have hz:¬ (((digs n.natAbs).length:Int)=0):=by omega
  have hback:IntKind.i64.wrap ((n.natAbs:Nat):Int)=n:=by simp only[zac]; omega
  rcases h with⟨h1,rfl⟩ | ⟨h1,rfl⟩
  ·skip
   have hlt:¬ (5000:Int) < S'.length:=by omega
   simp[f3,room,hmade,hlen,hlt,ht1,hneg,hz,hnil,slsA,slsS,z15,z0h]
   simp only[z1j,z11,z1e]
   refine Wp.use (zad (d:=digs n.natAbs) (by omega) (z4o _) rfl rfl rfl) ?_
   rintro r ⟨s1,rfl,g0,g1,g5,g9,g10⟩
   simp at g0 g1 g5
   rw[z5b] at g10
   simp[Tm.get_set,g0,g1,g5,g9,g10,hneg,room,ht2]
   change Wp (fun r=>PQ (z2k _ 1 r)) _
   simp only[z1j,z11,z1e]
   refine Wp.use (zae (S:=S') (b:=decide (S'.length≤4096)) (by omega) ?_ ?_ ?_) ?_
   ·simp[Tm.get_set,g1]
   ·first | (simp[Tm.get_set,h4096]; done) | (simp[Tm.get_set,h4096]; omega)
   ·simp[Tm.get_set]
   rintro r ⟨s2,rfl,k0,k1,k5,k9,k10,k12,k13,k14⟩
   simp[Tm.get_set,g0,g1,g5,g9,g10,hback] at k0 k5 k9 k10 k12 k13
   rw[hz1] at k14
   rcases hz3 with rfl | rfl
   ·have hu2:=hz2 rfl
    subst hu2
    rcases hyy with rfl | rfl
    all_goals
     simp[z4c] at ht3
     by_cases hc:c0=48
    all_goals
     simp[Tm.get_set,hc,k0,k1,k5,k9,k10,k12,k13,k14,room,hw,ht3,hp0,hp1,hE,hlen0,hx0,z0h,hc48,hru,hss,z13,PQ,Wp]
   ·rcases hyy with rfl | rfl
    all_goals
     simp[z4c] at ht3
     by_cases hc:c0=48
    all_goals
     simp[Tm.get_set,hc,k0,k1,k5,k9,k10,k12,k13,k14,room,hw,ht3,hp0,hp1,hE,hlen0,hx0,z0h,hc48,hru,hss,z13,PQ,Wp]
  ·skip
   have hlt:(5000:Int) < S.length:=by omega
   have hle:5000≤S.length:=by omega
   simp[f3,room,hmade,hlen,hlt,hle,ht1,hneg,hz,hnil,slsA,slsS,z15,z0h]
   simp only[z1j,z11,z1e]
   refine Wp.use (zad (d:=digs n.natAbs) (by omega) (z4o _) rfl rfl rfl) ?_
   rintro r ⟨s1,rfl,g0,g1,g5,g9,g10⟩
   simp at g0 g1 g5
   rw[z5b] at g10
   simp[Tm.get_set,g0,g1,g5,g9,g10,hneg,room,ht2]
   change Wp (fun r=>PQ (z2k _ 1 r)) _
   simp only[z1j,z11,z1e]
   refine Wp.use (zae (S:=(List.take 5000 S)) (b:=decide ((List.take 5000 S).length≤4096)) (by omega) ?_ ?_ ?_) ?_
   ·simp[Tm.get_set,g1]
   ·first | (simp[Tm.get_set,h4096]; done) | (simp[Tm.get_set,h4096]; omega)
   ·simp[Tm.get_set]
   rintro r ⟨s2,rfl,k0,k1,k5,k9,k10,k12,k13,k14⟩
   simp[Tm.get_set,g0,g1,g5,g9,g10,hback] at k0 k5 k9 k10 k12 k13
   rw[hz1] at k14
   rcases hz3 with rfl | rfl
   ·have hu2:=hz2 rfl
    subst hu2
    rcases hyy with rfl | rfl
    all_goals
     simp[z4c] at ht3
     by_cases hc:c0=48
    all_goals
     simp[Tm.get_set,hc,k0,k1,k5,k9,k10,k12,k13,k14,room,hw,ht3,hp0,hp1,hE,hlen0,hx0,z0h,hc48,hru,hss,z13,PQ,Wp]
   ·rcases hyy with rfl | rfl
    all_goals
     simp[z4c] at ht3
     by_cases hc:c0=48
    all_goals
     simp[Tm.get_set,hc,k0,k1,k5,k9,k10,k12,k13,k14,room,hw,ht3,hp0,hp1,hE,hlen0,hx0,z0h,hc48,hru,hss,z13,PQ,Wp]
end Go.Abs.Run
namespace Go.Abs.Run
open Go Go.Abs Go.Proofs
attribute [local simp] oM oN oF oE oQ oP oG oL oR oC oX oS oY vi vj vu vz ci cu eI eS eB
attribute [local simp] s0 t0 s1 t1 s2 t2 s3 t3 s4 t4 s5 t5 s6 t6 s7 t7 s8 t8 s9 t9 s10 t10 s11 t11 s12 t12 s13 t13 s14 t14 s15 t15 s16 t16 s17 t17 s18 t18 s19 t19 s20 t20 s21 t21 s22 t22 s23 t23 s24 t24 s25 t25 s26 t26 s27 t27 s28 t28 s29 t29 s30 t30 s31 t31 s32 t32 s33 t33 s34 t34 s35 t35 s36 t36 s37 t37 s38 t38 s39 t39 s40 t40 s41 t41 s42 t42 s43 t43 s44 t44 s45 t45 s46 t46 s47 t47 s48 t48 s49 t49 s50 t50 s51 t51 s52 t52 s53 t53 s54 t54 s55 t55 s56 t56 s57 t57 s58 t58 s59 t59 s60 t60 s61 t61 s62 t62 s63 t63 s64 t64 s65 t65 s66 t66 s67 t67 s68 t68 s69 t69 s70 t70 s71 t71 s72 t72 s73 t73 s74 t74 s75 t75 s76 t76 s77 t77 s78 t78 s79 t79 s80 t80 s81 t81 s82 t82 s83 t83 s84 t84 s85 t85 s86 t86 s87 t87 s88 t88 s89 t89 s90 t90 s91 t91 s92 t92 s93 t93 s94 t94 s95 t95 s96 t96 s97 t97 s98 t98 s99 t99
variable {P:Nat→Option FI} {I:Nat→Option z0b} {W:List Lo} {fid:Nat} {e:E}
variable {prog:Program} [GOK prog] [GPlain]
theorem zhr (L:LTold P I) {g:Nat} {x0:Nat × Ob × Ob} {p:Ob} {dp:AV} {c n:Int} {d:List Nat} {z:Nat} (hit:∀ W fid e,cal P I 119 [.int .i64 n] W fid e=.ret (.str d) e) (hS:d≠[]) (hN:d.length < big) (hg:¬ fid=g) (hout:∀ c,Out (.lo g 1 1) (child fid c)) :
  TT g x0 p d (cal P I 78 [dp,.agg [.int .i64 1,.int .i64 c,.int .i64 n,.str [],.sl 1 z []],.ptr (.lo g 1 1) 0] [] fid (psh ⟨g,[x0,(1,.cells 173 [.nilp,.sl 1 0 []],p)],[]⟩ e)):=by
 have hle:((d.length:Int)≤4096)↔d.length≤4096:=by omega
 refine z48 (Q:=TT g x0 p d) L.i78 L.p78 rfl (by simp[TT]) ?_
 simp[f78,room,hit,wS L.toLBuilder,lB L.toLBuilder,hout,hS,z30,wrB,lnB,Tkt,grow,hN,hle,hg]
 simp[Wp,TT,z1t,and_assoc]
theorem zhs (L:LTold P I) {dp:AV} {c n:Int} {d:List Nat} {z:Nat} (hit:∀ W fid e,cal P I 119 [.int .i64 n] W fid e=.ret (.str d) e) (hS:d≠[]) (hN:d.length≤4096) (h8:B8 d) :
  ∃ e',cal P I 18 [dp,.agg [.int .i64 1,.int .i64 c,.int .i64 n,.str [],.sl 1 z []]] [] fid e=.ret (.tup [.str d,.int .i64 0]) e':=by
 have hbig:big=4294967296:=rfl
 refine z48 (Q:=fun r=>∃ e',r=.ret (.tup [.str d,.int .i64 0]) e') L.i18 L.p18 rfl (by simp) ?_
 simp[f18,room]
 simp only[z1j,z11,z1e]
 refine TT.use (zhr L hit hS (by omega) (fun h=>by have:=z1r fid 0; omega) fun c=>out2 fid 0 c 1 1) ?_
 rintro x ⟨k',e1,rfl,h1,h2⟩
 have hout:∀ c,Out (.lo fid 1 1) (child fid c):=fun c=>Out.own fid 1 1 c
 have hlt:d.length < 4294967296:=by omega
 simp[hN,room,sB L.toLBuilder,hout,za9,txB,h1,h2,hS,h8,hlt]
def z69:List AV→Option AV
 | [.ptr _ _,.agg [.int .i64 (.ofNat 1),.int .i64 _,.int .i64 n,.str [],.sl 1 _ []]]=>cond (z6c n && (isB8 (z2y n) && (z29 (z2y n) 4096 && !(z2y n).isEmpty))) (some (.tup [.str (z2y n),.int .i64 (.ofNat 0)])) none
 | _=>none
theorem zht {T:FuncId→Option FI} {I:FuncId→Option z0b} (hT:z87 prog T) (hI:z0z prog I∧z0d I) (hm:prog.follows .mixedOrders=true) (L:LTold T I) (hi:I 119=some (z0p zcl)):IOK prog 18 (z0p z69) :=
 z8z hT hI hm fun args v h=>by
  unfold z69 at h
  split at h
  ·next l o c n z =>
   obtain⟨h1,h2⟩:=z00 h
   cases h2
   simp only[Bool.and_eq_true,z27,z0q] at h1
   obtain⟨hr,h8,hl,hne⟩:=h1
   have hS:z2y n≠[]:=by intro h; rw[h] at hne; simp at hne
   obtain⟨e',h3⟩:=zhs (dp:=.dp 0 []) (c:=c) (n:=n) (z:=z) (fid:=1) (e:=⟨[],[],[]⟩) L (fun W fid e=>z2g (g:=z0p zcl) hi (by unfold z0p; simp[zcl,hr])) hS hl h8
   refine⟨.tup (by simp; exact⟨.str _,.int _ _⟩),[.dp 0 [],.agg [.int .i64 1,.int .i64 c,.int .i64 n,.str [],.sl 1 z []]],e',rfl,fun i a a' g1 g2=>?_,h3⟩
   match i,g1,g2 with
   | 0,g1,g2=>cases g1; cases g2; exact .ptr _ _
   | 1,g1,g2 =>
    cases g1; cases g2
    exact .agg rfl (z5w (by simp; exact⟨.int _ _,.int _ _,.int _ _,.str _,.sl (k:=1) rfl (by simp) (by simp)⟩))
  ·cases h
end Go.Abs.Run
namespace Go.Abs.Run
open Go Go.Abs
attribute [local simp] oM oN oF oE oQ oP oG oL oR oC oX oS oY vi vj vu vz ci cu eI eS eB
attribute [local simp] s0 t0 s1 t1 s2 t2 s3 t3 s4 t4 s5 t5 s6 t6 s7 t7 s8 t8 s9 t9 s10 t10 s11 t11 s12 t12 s13 t13 s14 t14 s15 t15 s16 t16 s17 t17 s18 t18 s19 t19 s20 t20 s21 t21 s22 t22 s23 t23 s24 t24 s25 t25 s26 t26 s27 t27 s28 t28 s29 t29 s30 t30 s31 t31 s32 t32 s33 t33 s34 t34 s35 t35 s36 t36 s37 t37 s38 t38 s39 t39
variable {P:Nat→Option FI} {I:Nat→Option z0b} {W:List Lo} {fid:Nat} {e:E}
structure LTextT (P:Nat→Option FI) (I:Nat→Option z0b):Prop where
 p6:P 6=some f6
 i6:I 6=none
def vTC (S:List Nat):List AV:=[.int .i64 3,.int .i64 1,.int .i64 0,.str S,.sl 1 0 []]
def fT (F:Nat) (S:List Nat):FS:=⟨F,[(1,.cells 41 (vTC S),.none)],[]⟩
theorem zds (L:LTextT P I) {lc:Lo} {S u:List Nat} {z:Int} {F:Nat} {X XR XO XD:E} {lk:AV}
  (hR:cal P I 16 [.ptr lc 0,.agg (vTC S)] [] (child F 0) (psh (fT F S) X)=.ret (.bool true) (psh (fT F S) XR))
  (hO:cal P I 17 [.ptr lc 0] [.lo F 0 1] (child F 1) (psh (fT F S) XR)=.ret lk (psh (fT F S) XO))
  (hT:cal P I 18 [lk,.agg (vTC S)] [] (child F 2) (psh (fT F S) XO)=.ret (.tup [.str u,.int .i64 z]) (psh (fT F S) XD)) :
  cal P I 6 [.ptr lc 0,.agg (vTC S)] [] F X=.ret (.tup [.str u,.int .i64 z]) XD:=by
 refine z1s L.i6 L.p6 rfl (by simp) ?_
 simp only[vTC,fT] at hR hO hT ⊢
 simp[f6,room,hR,hO,hT,z1c]
theorem zhu (L:LTextT P I) {lc:Lo} {S:List Nat} {F:Nat} {X XR:E}
  (hR:cal P I 16 [.ptr lc 0,.agg (vTC S)] [] (child F 0) (psh (fT F S) X)=.ret (.bool false) (psh (fT F S) XR)) :
  cal P I 6 [.ptr lc 0,.agg (vTC S)] [] F X=.ret (.tup [.str [],.int .i64 1]) XR:=by
 refine z1s L.i6 L.p6 rfl (by simp) ?_
 simp only[vTC,fT] at hR ⊢
 simp[f6,room,hR,z1c]
end Go.Abs.Run
