/- On the way to: InterpLoops returns true; its listed variables read as the text lays them. -/
import Derived.Test.YthncagamgiogjaaGreatDoorB2
import Derived.LoopN
import Derived.Scope
import Derived.Recover
import Derived.Laws.Externs
import Derived.Lib.Builder
import Derived.Lib.Bytealg
import Derived.OpenShut
set_option autoImplicit false
set_option linter.unusedSectionVars false
set_option linter.unusedSimpArgs false
set_option linter.unusedVariables false
namespace Go.Abs
open Go Go.RowKit
variable [Glob]
theorem z9o {l:List RI} {x:RI}:∀ {fuel done:Nat},x∈zbs l fuel done→x∈l
 | 0,_,h=>by simp[zbs] at h
 | fuel+1,done,h=>by
  simp only[zbs] at h
  split at h
  ·rename_i y hy
   rcases List.mem_cons.1 h with rfl | h
   ·exact(List.mem_filter.1 (List.mem_of_find?_eq_some hy)).1
   ·exact z9o h
  ·split at h
   ·rename_i y t hy
    rcases List.mem_cons.1 h with rfl | h
    ·have:x∈List.filter (fun x=>!done.testBit x.idx && Nat.beq (x.bef &&& done) x.bef) l:=by rw[hy]; simp
     exact(List.mem_filter.1 this).1
    ·exact z9o h
   ·cases h
theorem z9p {y:RI}:∀ {l ahead:List RI},y∈z4m l ahead→∃ x∈l,∃ ws,y={ x with op:=z16 x.op ws }
 | [],_,h=>by simp[z4m] at h
 | x::l,ahead,h=>by
  simp only[z4m,List.mem_cons] at h
  rcases h with h | h
  ·exact⟨x,by simp,_,h⟩
  ·obtain⟨x',h1,h2⟩:=z9p h
   exact⟨x',List.mem_cons_of_mem _ h1,h2⟩
theorem zb1 {ops:Array Oper} {x:RI}:∀ {os:List Oper} {ps:List OP} {bs:List Nat} {ans:List Bool} {i:Nat},x∈z59 ops os ps bs ans i→∃ j o p bb an,os[j]?=some o∧ps[j]?=some p∧bs[j]?=some bb∧x=⟨i+j,reads ops o,o.dst,bb,p.isE || an,p⟩
 | o::os,p::ps,bb::bs,an::ans,i,h=>by
  simp only[z59,List.mem_cons] at h
  rcases h with h | h
  ·exact⟨0,o,p,bb,an,rfl,rfl,rfl,h⟩
  ·obtain⟨j,o',p',bb',an',h1,h2,h3,h4⟩:=zb1 h
   exact⟨j+1,o',p',bb',an',h1,h2,h3,by rw[h4]; congr 1; omega⟩
 | [],_,_,_,_,h=>by simp[z59] at h
 | _::_,[],_,_,_,h=>by simp[z59] at h
 | _::_,_::_,[],_,_,h=>by simp[z59] at h
 | _::_,_::_,_::_,[],_,h=>by simp[z59] at h
theorem z5f {P:Program} {D:Dec} {rid:Nat}:∀ {os:List Oper} {i a:Nat},(z3h P D rid os i a).1.length=os.length∧∀ (j:Nat) (o:Oper),os[j]?=some o→∃ dec a',(z3h P D rid os i a).1[j]?=some ((z05 P dec a' o.op).getD bad)
 | [],_,_=>⟨rfl,by simp⟩
 | o::os,i,a=>by
  obtain⟨h1,h2⟩:=z5f (P:=P) (D:=D) (rid:=rid) (os:=os) (i:=i+1) (a:=cond (sited (D.at rid i) o.op) (a+1) a)
  refine⟨by simp[z3h,h1],fun j o' hj=>?_⟩
  cases j with
  | zero=>simp at hj; subst hj; exact⟨D.at rid i,a,by simp[z3h]⟩
  | succ j=>simp at hj; simpa [z3h] using h2 j o' hj
section
variable [Dfs]
variable {P:Program} [hG:GOK P] {nt:Nat} {ops:Array Oper} {b:List Nat} {W:List Lo} {fid B:Nat} {w₀:World}
theorem regOK {D:Dec} {rid a:Nat} (hkv:∀ o∈ops.toList,∀ d,o.dst=some d→Dfs.kv d=none) (h:regB nt ops b (z4m (zbs (z59 ops ops.toList (z3h P D rid ops.toList 0 a).1 b (zie (ops.toList.map fun o=>(reads ops o,o.dst)) []) 0) ops.size 0) [])=true) :
  RegOK P nt ops b (z4m (zbs (z59 ops ops.toList (z3h P D rid ops.toList 0 a).1 b (zie (ops.toList.map fun o=>(reads ops o,o.dst)) []) 0) ops.size 0) []):=by
 simp only[regB,Bool.and_eq_true,List.all_eq_true] at h
 obtain⟨_,h2,h3,h4,h5,h6⟩:=h
 refine⟨fun i hi=>?_,fun i o ho=>?_,h4,h5,?_,h6.2,hkv,fun x hx=>?_⟩
 ·have:=h2 i (List.mem_range.2 hi)
  simp only[List.any_eq_true] at this
  obtain⟨x,hx,he⟩:=this
  exact⟨x,hx,z03.1 he⟩
 ·have:=z9n h3 i o (by simpa using ho)
  simpa using this
 ·have key:∀ l:List RI,zm3 l=true→l.Pairwise fun x y=>zag x y=true:=by
   intro l
   induction l with
   | nil=>intro _; exact .nil
   | cons x l ih =>
    intro hl
    simp only[zm3,Bool.and_eq_true,List.all_eq_true] at hl
    exact .cons hl.1 (ih hl.2)
  exact key _ h6.1
 ·obtain⟨x',hx',ws,rfl⟩:=z9p hx
  obtain⟨j,o,p,bb,an,g1,g2,g3,rfl⟩:=zb1 (z9o hx')
  obtain⟨dec,a',g4⟩:=(z5f (P:=P) (D:=D) (rid:=rid) (i:=0) (a:=a)).2 j o g1
  rw[g2] at g4
  refine⟨o,dec,a',p,ws,by simpa using g1,Option.some.inj g4,rfl,rfl,rfl,?_,fun he=>by simp[he]⟩
  simp[List.getD_eq_getElem?_getD,g3]
theorem z5e.bind {e:E} {κ:K} {r₁ r:R} {k:Fr→E→R} (hr:r=R.bind k r₁) {x:Exit} {a:Act} {w:World} (hx:x≠.normal) (h:z5e W e κ fid B nt w₀ r₁ x a w):z5e W e κ fid B nt w₀ r x a w:=by
 cases x with
 | normal=>exact absurd rfl hx
 | exit id=>obtain⟨fr',e',rfl,h2⟩:=h; exact⟨fr',e',hr,h2⟩
 | ret=>obtain⟨fr',e',rfl,h2⟩:=h; exact⟨fr',e',hr,h2⟩
 | panic ch =>
  obtain⟨⟨κ',fr',e',v,val,rfl,h2⟩,h3⟩:=h
  exact⟨⟨κ',fr',e',v,val,hr,h2⟩,h3⟩
 | _=>exact h.elim
theorem z8r {call:z06} (hp:z0n call) (hok:z3l P call) (hm:P.follows .mixedOrders=true) {D:Dec} {fuel:Nat}:∀ (c:Code) {ac:AC} {a0 a1:Nat},comp P D nt c a0=some (ac,a1)→(∀ d∈dsts c,Dfs.kv d=none) →
  ∀ {κ:K} {e:E} {w:World} {fr:Fr} {a:Act} {r:R},Sl (fun _=>False) κ fr.s a→nt≤a.tmps.size→DfOK a→St κ e B w₀ w→In κ e fid fr.cnt→r=run call fuel fid W ac fr e→r≠.bad →
   c.wp P (z5e W e κ fid B nt w₀ r) a w:=by
 intro c
 induction c with
 | skip =>
  intro ac a0 a1 hc hkv κ e w fr a r hsl hsz hdf hst hin hr _
  cases hc
  exact wp_skip ⟨fr,e,hr,κ,.refl _,.refl _ _ _ _ _,hst,hin,hsl,hsz,hdf⟩
 | label l =>
  intro ac a0 a1 hc hkv κ e w fr a r hsl hsz hdf hst hin hr _
  cases hc
  exact wp_label ⟨fr,e,hr,κ,.refl _,.refl _ _ _ _ _,hst,hin,hsl,hsz,hdf⟩
 | exit id =>
  intro ac a0 a1 hc hkv κ e w fr a r hsl hsz hdf hst hin hr _
  cases hc
  exact wp_exit ⟨fr,e,hr,κ,.refl _,.refl _ _ _ _ _,hst,hin,hsl,hsz,hdf⟩
 | ret =>
  intro ac a0 a1 hc hkv κ e w fr a r hsl hsz hdf hst hin hr _
  cases hc
  exact wp_ret ⟨fr,e,hr,κ,.refl _,.refl _ _ _ _ _,hst,hin,hsl,hsz,hdf⟩
 | refuse s =>
  intro ac a0 a1 hc hkv κ e w fr a r hsl hsz hdf hst hin hr hrb
  cases hc
  exact absurd hr hrb
 | goto l=>intro ac a0 a1 hc; cases hc
 | rangeFunc f ps x y=>intro ac a0 a1 hc; cases hc
 | scope c ih =>
  intro ac a0 a1 hc hkv κ e w fr a r hsl hsz hdf hst hin hr hrb
  refine wp_scope_straight (wp_mono (ih hc hkv hsl hsz hdf hst hin hr hrb) fun x a' w' hx=>?_)
  cases x<;>first | exact hx | exact hx.elim
 | region id ops draw =>
  intro ac a0 a1 hc hkv κ e w fr a r hsl hsz hdf hst hin hr hrb
  simp only[comp] at hc
  obtain⟨l,a',hco⟩:∃ l a',z3h P D id ops.toList 0 a0=(l,a'):=⟨_,_,rfl⟩
  rw[hco] at hc
  simp only[regL] at hc
  have hl:l=(z3h P D id ops.toList 0 a0).1:=by rw[hco]
  cases draw with
  | false =>
   simp only[cond_false] at hc
   cases hpl:z90 nt ops with
   | false=>simp[hpl] at hc
   | true =>
    simp only[hpl,cond_true,Option.some.injEq,Prod.mk.injEq] at hc
    obtain⟨rfl,rfl⟩:=hc
    have hspec:=z5f (P:=P) (D:=D) (rid:=id) (os:=ops.toList) (i:=0) (a:=a0)
    rw[← hl] at hspec
    refine wp_region ?_
    have hrange:List.range ops.size=(l.zipIdx).map (·.2):=by
     rw[List.zipIdx_map_snd,hspec.1,← List.range_eq_range']; simp
    rw[hrange]
    refine zdl hp hok hpl (fun o ho d hd=>hkv d (List.mem_filterMap.2 ⟨o,ho,hd⟩)) l.zipIdx (fun q hq=>?_) hsl hsz hdf hst hin hr hrb
    obtain⟨p,i⟩:=q
    have hq:=List.mem_zipIdx_iff_getElem?.1 hq
    simp only at hq
    have hi:i < ops.size:=by
     have:=(List.getElem?_eq_some_iff.1 hq).1
     rw[hspec.1] at this; simpa using this
    obtain⟨dec,a',h1⟩:=hspec.2 i ops[i] (by simp)
    rw[hq] at h1
    exact⟨ops[i],dec,a',by simp,Option.some.inj h1⟩
  | true =>
   simp only[cond_true] at hc
   have hb:∀ {b:List Nat} {lst:List RI},lst=z4m (zbs (z59 ops ops.toList l b (zie (ops.toList.map fun o=>(reads ops o,o.dst)) []) 0) ops.size 0) []→(match cond (regB nt ops b lst) (some (lst.map fun x=>mkAO ops x.idx x.op)) none with | some ao=>some (AC.reg ao,a') | none=>none)=some (ac,a1) →
     regB nt ops b lst=true∧ac=.reg (lst.map (ao ops)):=by
    intro b lst _ h
    cases hrg:regB nt ops b lst with
    | false=>simp[hrg] at h
    | true =>
     simp only[hrg,cond_true,Option.some.injEq,Prod.mk.injEq] at h
     exact⟨rfl,h.1.symm⟩
   obtain⟨h1,h2⟩:=hb rfl hc
   subst h2
   rw[hl] at h1 hr
   have hR:=regOK (fun o ho d hd=>hkv d (List.mem_filterMap.2 ⟨o,ho,hd⟩)) h1
   refine wp_region_any hm (z8q (fr:=fr) (e:=e) (κ:=κ) (D:=[]) (rem:=_) hp hok hR hrb ops.size ?_ ?_ ?_ hr)
   ·simp only[regB,Bool.and_eq_true] at h1
    rw[List.nil_append,z03.1 h1.1]; exact Nat.le_refl _
   ·exact hR.swap
   ·refine⟨by simp,fun i hi=>?_,fun i o ho hli=>?_,fun x hx=>by simpa using hx,by simpa using hR.pair,by simp,?_,by simp,.refl _,.refl _ _ _ _ _,.refl _ _,hst.drew,hin,hsz,hdf⟩
    ·simp only[List.nil_append]
     constructor
     ·intro _
      obtain⟨x,hx,he⟩:=hR.all i hi
      exact⟨x,hx,he⟩
     ·intro _; simp[hi]
    ·have hi:=(Array.getElem?_eq_some_iff.1 ho).1
     simp[hi] at hli
    ·intro t _
     exact hsl t (fun h=>h)
 | seq x y ihx ihy =>
  intro ac a0 a1 hc hkv κ e w fr a r hsl hsz hdf hst hin hr hrb
  simp only[comp,Option.bind_eq_bind,Option.bind_eq_some_iff,Option.some.injEq,Prod.mk.injEq,Prod.exists] at hc
  obtain⟨ax,b1,h1,ay,b2,h2,rfl,rfl⟩:=hc
  have hr:r=R.bind (run call fuel fid W ay) (run call fuel fid W ax fr e):=hr
  have hxb:run call fuel fid W ax fr e≠.bad:=by intro h; rw[h] at hr; exact hrb hr
  have hpx:=run_pure hp (W:=W) (fid:=fid) (fuel:=fuel) ax fr e hin.fut
  refine wp_seq (wp_mono (ihx h1 (fun d hd=>hkv d (List.mem_append_left _ hd)) hsl hsz hdf hst hin rfl hxb) fun z a' w' hz=>?_)
  by_cases hzn:z=.normal
  ·subst hzn
   obtain⟨fr',e',he,κ',g1,g2,g3,g4,g5,g6,g7⟩:=hz
   rw[he] at hr hpx
   have hr:r=run call fuel fid W ay fr' e':=hr
   refine wp_mono (ihy h2 (fun d hd=>hkv d (List.mem_append_right _ hd)) g5 g6 g7 g3 g4 hr hrb) fun x a w hx=>?_
   refine z5e.trans g1 g2 hpx.1 (fr₁:=fr') ?_ hx
   rw[hr]; exact run_pure hp ay fr' e' g4.fut
  ·have:=hz.bind hr hzn
   cases z<;>first | exact absurd rfl hzn | exact this
 | cond c x y ihx ihy =>
  intro ac a0 a1 hc hkv κ e w fr a r hsl hsz hdf hst hin hr hrb
  simp only[comp,Option.bind_eq_bind,Option.bind_eq_some_iff,Option.some.injEq,Prod.mk.injEq,Prod.exists] at hc
  obtain⟨cx',h0,ax,b1,h1,ay,b2,h2,rfl,rfl⟩:=hc
  have hr:r=z3w (run call fuel fid W ax) (run call fuel fid W ay) fr e (cx'.ev fr.s):=hr
  have hv:VR κ (cx'.ev fr.s) (a.eval c):=zby hst.glob h0 fun t _=>hsl t (fun h=>h)
  unfold z3w at hr
  split at hr
  ·rename_i t ht
   rw[ht] at hv
   generalize hce:a.eval c=u at hv
   cases hv
   cases t with
   | true=>exact wp_cond_true hce (ihx h1 (fun d hd=>hkv d (List.mem_append_left _ hd)) hsl hsz hdf hst hin hr hrb)
   | false=>exact wp_cond_false hce (ihy h2 (fun d hd=>hkv d (List.mem_append_right _ hd)) hsl hsz hdf hst hin hr hrb)
  ·exact absurd hr hrb
 | block id c ih =>
  intro ac a0 a1 hc hkv κ e w fr a r hsl hsz hdf hst hin hr hrb
  simp only[comp,Option.bind_eq_bind,Option.bind_eq_some_iff,Option.some.injEq,Prod.mk.injEq,Prod.exists] at hc
  obtain⟨cc,b1,h1,rfl,rfl⟩:=hc
  have hr:r=R.leave id (run call fuel fid W cc fr e):=hr
  have hxb:run call fuel fid W cc fr e≠.bad:=by intro h; rw[h] at hr; exact hrb hr
  refine wp_block (wp_mono (ih h1 hkv hsl hsz hdf hst hin rfl hxb) fun z a' w' hz=>?_)
  cases z with
  | normal=>obtain⟨fr',e',he,h2⟩:=hz; rw[he] at hr; exact⟨fr',e',hr,h2⟩
  | ret=>obtain⟨fr',e',he,h2⟩:=hz; rw[he] at hr; exact⟨fr',e',hr,h2⟩
  | exit id' =>
   obtain⟨fr',e',he,h2⟩:=hz
   rw[he] at hr
   simp only[R.leave] at hr
   simp only[Exit.inBlock]
   by_cases hid:id'=id
   ·rw[if_pos hid]
    rw[z03.2 hid] at hr
    exact⟨fr',e',hr,h2⟩
   ·rw[if_neg hid]
    have:Nat.beq id' id=false:=by rw[Bool.eq_false_iff]; exact fun h=>hid (z03.1 h)
    rw[this] at hr
    exact⟨fr',e',hr,h2⟩
  | panic ch =>
   obtain⟨⟨κ',fr',e',v,val,he,h2⟩,h3⟩:=hz
   rw[he] at hr
   exact⟨⟨κ',fr',e',v,val,hr,h2⟩,h3⟩
  | _=>exact hz.elim
 | loop c ih =>
  intro ac a0 a1 hc hkv κ e w fr a r hsl hsz hdf hst hin hr hrb
  simp only[comp,Option.bind_eq_bind,Option.bind_eq_some_iff,Option.some.injEq,Prod.mk.injEq,Prod.exists] at hc
  obtain⟨cc,b1,h1,rfl,rfl⟩:=hc
  have hr:r=iter (run call fuel fid W cc) fuel fr e:=hr
  have key:∀ (n:Nat) {κ₁:K} {e₁:E} {w:World} {fr:Fr} {a:Act},κ.le κ₁→Gr W e κ κ₁ fid e₁.glo.length→Keep W e e₁→Sl (fun _=>False) κ₁ fr.s a→nt≤a.tmps.size→DfOK a→St κ₁ e₁ B w₀ w→In κ₁ e₁ fid fr.cnt →
    r=iter (run call fuel fid W cc) n fr e₁→Code.rounds P c (z5e W e κ fid B nt w₀ r) n a w:=by
   intro n
   induction n with
   | zero=>intro κ₁ e₁ w fr a _ _ _ _ _ _ _ _ hr; exact absurd hr hrb
   | succ n ihn =>
    intro κ₁ e₁ w fr a hle hgr hkp hsl hsz hdf hst hin hr
    have hr:r=R.bind (iter (run call fuel fid W cc) n) (run call fuel fid W cc fr e₁):=hr
    have hxb:run call fuel fid W cc fr e₁≠.bad:=by intro h; rw[h] at hr; exact hrb hr
    have hpx:=run_pure hp (W:=W) (fid:=fid) (fuel:=fuel) cc fr e₁ hin.fut
    rw[rounds_succ]
    refine wp_mono (ih h1 hkv hsl hsz hdf hst hin rfl hxb) fun z a' w' hz=>?_
    by_cases hzn:z=.normal
    ·subst hzn
     obtain⟨fr',e',he,κ',g1,g2,g3,g4,g5,g6,g7⟩:=hz
     rw[he] at hr hpx
     exact ihn (hle.trans g1) (hgr.trans g2 hkp hpx.1.glo) (hkp.trans hpx.1) g5 g6 g7 g3 g4 hr
    ·have h2:=z5e.trans hle hgr hkp (fr₁:=fr) hpx hz
     have:=h2.bind hr hzn
     cases z<;>first | exact absurd rfl hzn | exact this
  exact wp_loop_rounds fuel (key fuel (.refl _) (.refl _ _ _ _ _) (.refl _ _) hsl hsz hdf hst hin hr)
end
end Go.Abs
namespace Go.Abs
open Go Go.RowKit
variable [Glob]
section
variable {P:Program} [hG:GOK P] {κ:K} {e:E} {B fid nt:Nat} {w₀ w:World} {W:List Lo}
theorem St.vecVal {l:Lo} {b z z' c:Nat} {es:List AV} {arr:Array Value} {t:TypeId} (h:St κ e B w₀ w) (hg:e.get l=.vec z es) (hv:κ.vb l es.length=some (b,z',c)) (hw:w.heap[b]?=some (.cells arr t (0,0))) :
  κ.le (κ.addVal b fun i=>arr[i]?)∧Same κ (κ.addVal b fun i=>arr[i]?)∧St (κ.addVal b fun i=>arr[i]?) (e.set l .none) B w₀ w:=by
 have hr:=(h.rv l z es b z' c hg hv).1
 have hlb:B≤b∧b < w.heap.size:=⟨(h.rl b (by rw[hr]; simp)).1 (by rw[hr]; simp),(h.rl b (by rw[hr]; simp)).2⟩
 have hfz:∀ i,κ.fz b i=none:=by
  intro i
  cases hf:κ.fz b i with
  | none=>rfl
  | some u=>have:=h.rf _ i u hf; rw[hr] at this; cases this
 have hle:κ.le (κ.addVal b fun i=>arr[i]?):=K.le_addVal (fun i u hu=>by rw[hfz] at hu; cases hu)
 have hgl:(e.set l .none).get l=.none:=E.get_set_same _ _ _ (by rw[hg]; simp)
 have hgn:∀ l',l'≠l→(e.set l .none).get l'=e.get l':=fun l' hl'=>E.get_set_ne _ _ _ _ (Ne.symm hl')
 refine⟨hle,⟨rfl,rfl,rfl,rfl⟩,?_⟩
 refine h.step hle b rfl rfl rfl (Nat.le_refl _) hlb.1 (fun _ _ _=>rfl) ?_ ?_ ?_ ?_ ?_ ?_ ?_ ?_ ?_ ?_ ?_ ?_ ?_ (fun arr' t' f' hx=>⟨arr',f',hx⟩) (fun _ _ _ _ ht=>.inl ht)
 ·intro b' hbb; simp[K.addVal,hbb]
 ·intro _; exact hlb.2
 ·intro l' b' hl
  have:=h.ro l' b' hl
  have hne:b'≠b:=by rintro rfl; rw[hr] at this; cases this
  simpa [K.addVal,hne] using this
 ·intro l' b' hl
  by_cases hne:b'=b
  ·subst hne; simp[K.addVal] at hl
  ·simp[K.addVal,hne] at hl; exact h.oo l' b' hl
 ·intro l' z₁ es' b' z₂ c' hge hv'
  have hll:l'≠l:=by rintro rfl; rw[hgl] at hge; cases hge
  rw[hgn l' hll] at hge
  have:=h.rv l' z₁ es' b' z₂ c' hge hv'
  have hne:b'≠b:=by rintro rfl; rw[hr] at this; cases this.1; exact hll rfl
  simpa [K.addVal,hne] using this
 ·intro b' i hbb; simp[K.addVal,hbb]
 ·intro i u _; simp[K.addVal]
 ·intro k b' i c' hk ht
  rw[E.live_set] at hk
  have:=h.rt k b' i c' hk ht
  have hne:b'≠b:=by rintro rfl; rw[hr] at this; cases this
  exact .inl ⟨hne,hk,ht⟩
 ·intro k k' i c' i' c'' hk _ ht _
  rw[E.live_set] at hk
  have:=h.rt k _ i c' hk ht
  rw[hr] at this; cases this
 ·intro l' z₁ es' n hge hn
  have hll:l'≠l:=by rintro rfl; rw[hgl] at hge; cases hge
  rw[hgn l' hll] at hge
  exact h.vn l' z₁ es' n hge hn
 ·intro l' b' _ _
  by_cases hll:l'=l
  ·subst hll; exact .inr hgl
  ·exact .inl ⟨hgn l' hll,rfl⟩
 ·intro l' b' z₁ es' c' _ _ hge hv'
  have hll:l'≠l:=by rintro rfl; rw[hgl] at hge; cases hge
  rw[hgn l' hll] at hge
  exact⟨hge,hv'⟩
 ·have hrl:(κ.addVal b fun i=>arr[i]?).role b=.val:=by simp[K.addVal]
  rw[hrl]
  refine⟨arr,t,(0,0),hw,fun i u hu=>by simpa [K.addVal] using hu,fun k i c' hk ht=>?_⟩
  rw[E.live_set] at hk
  have:=h.rt k b i c' hk ht
  rw[hr] at this; cases this
theorem zg4 {v v':AV} {e':E} {x:Value} (h:resV fid e v=some (v',e')) (hx:VR κ v x) (hst:St κ e B w₀ w):∃ κ',κ.le κ'∧Same κ κ'∧St κ' e' B w₀ w∧VR κ' v' x:=by
 have same:some (v,e)=some (v',e')→∃ κ',κ.le κ'∧Same κ κ'∧St κ' e' B w₀ w∧VR κ' v' x:=by
  intro h
  simp only[Option.some.injEq,Prod.mk.injEq] at h
  obtain⟨rfl,rfl⟩:=h
  exact⟨κ,.refl _,.refl _,hst,hx⟩
 unfold resV at h
 split at h
 ·rename_i l z sz off len ex
  unfold zm2 at h
  split at h
  ·rename_i f a i
   cases hf:Nat.beq f fid with
   | false=>rw[hf] at h; exact same h
   | true =>
    rw[hf] at h
    simp only[cond_true] at h
    unfold zid at h
    split at h
    ·rename_i z' es hg
     obtain⟨hsz,h⟩:=z00 h
     have hsz:=z03.1 hsz
     simp only[Option.some.injEq,Prod.mk.injEq] at h
     obtain⟨rfl,rfl⟩:=h
     subst hsz
     have key:∀ {b c:Nat},κ.vb (.lo f a i) es.length=some (b,z,c)→∃ arr t,w.heap[b]?=some (.cells arr t (0,0))∧z'=z∧RowR κ z es (arr.toList.take (es.length * z)):=by
      intro b c hv
      obtain⟨hr,rfl⟩:=hst.rv _ z' es b z c hg hv
      have hb:=hst.blk b
      rw[hr] at hb
      obtain⟨arr,t,h1,_,_,h2⟩:=(hb z es c hg hv).row
      exact⟨arr,t,h1,rfl,h2⟩
     cases hx with
     | hs hv hin hsc hcap hz1 =>
      rename_i b c cp
      obtain⟨arr,t,hw,rfl,hrow⟩:=key hv
      obtain⟨k1,k2,k3⟩:=hst.vecVal hg hv hw
      refine⟨_,k1,k2,k3,?_⟩
      have hlen:((es.drop off).take len).length=len:=by simp; omega
      have hat:∀ i x j y,((es.drop off).take len)[i]?=some x→x.cells[j]?=some y→∃ u,arr[off * z'+i * z'+j]?=some u∧VR κ y u∧u.oneCell'=true:=by
       intro i x j y hx hy
       have hi:i < len:=by have:=(List.getElem?_eq_some_iff.1 hx).1; omega
       have hx':es[off+i]?=some x:=by simpa [List.getElem?_take,hi] using hx
       obtain⟨p,q⟩:=hrow.2.1 _ x hx'
       obtain⟨u,a1,a2⟩:=q j y hy
       have a3:=hrow.2.2 u (List.mem_of_getElem? a1)
       rw[List.getElem?_take] at a1
       split at a1
       ·refine⟨u,?_,a2,a3⟩
        have:(off+i) * z'+j=off * z'+i * z'+j:=by rw[Nat.add_mul]
        rw[this] at a1
        simpa using a1
       ·cases a1
      have:VR (κ.addVal b fun i=>arr[i]?) (.sl 0 z' ((es.drop off).take len)) (.slice (some ⟨b,off * z',none⟩) ((es.drop off).take len).length cp):=by
       refine .sl (fun i j=>match ((es.drop off).take len)[i]? with | some x=>(match x.cells[j]? with | some _=>(arr[off * z'+i * z'+j]?).getD (.bool true) | none=>.bool true) | none=>.bool true) (by rw[hlen]; split at hcap<;>omega) (fun i x hx=>?_) (fun i x j y hx hy=>?_) (fun i x j y hx hy=>?_) (fun i j=>?_) (fun h=>by cases h) (fun h=>by omega) hz1
       ·have hi:i < len:=by have:=(List.getElem?_eq_some_iff.1 hx).1; omega
        exact(hrow.2.1 (off+i) x (by simpa [List.getElem?_take,hi] using hx)).1
       ·obtain⟨u,a1,_⟩:=hat i x j y hx hy
        simp only[hx,hy,a1,Option.getD_some,K.addVal,if_true]
       ·obtain⟨u,a1,a2,_⟩:=hat i x j y hx hy
        simp only[hx,hy,a1,Option.getD_some]
        exact a2.mono k1
       ·cases hx:((es.drop off).take len)[i]? with
        | none=>rfl
        | some x =>
         cases hy:x.cells[j]? with
         | none=>simp only[hy]; rfl
         | some y =>
          obtain⟨u,a1,_,a3⟩:=hat i x j y hx hy
          simp only[hy,a1,Option.getD_some]
          exact a3
      rw[hlen] at this
      exact this
     | hsnil hv hz1 =>
      rename_i b c o
      obtain⟨arr,t,hw,rfl,hrow⟩:=key hv
      obtain⟨k1,k2,k3⟩:=hst.vecVal hg hv hw
      refine⟨_,k1,k2,k3,?_⟩
      have:VR (κ.addVal b fun i=>arr[i]?) (.sl 0 z' []) (.slice (some ⟨b,o,none⟩) ([]:List AV).length 0) :=
       .sl (fun _ _=>.bool true) (Nat.le_refl _) (by simp) (by simp) (by simp) (fun _ _=>rfl) (fun h=>by cases h) (fun h=>by omega) hz1
      simpa using this
    ·cases h
  ·exact same h
 ·exact same h
def zal (a:Act):ResultVar→Sem Value
 | .tmp t=>pure (a.tmps.getD t undef)
 | .cell x t=>do loadVar t (← asAddr (a.tmps.getD x undef))
theorem z7i (fn:Func) (a:Act):results fn a.tmps=(do let vs ← fn.results.mapM (zal a); pure (if h:vs.size=1 then vs[0] else .tuple vs)):=by
 unfold results
 congr 1
theorem zey {fn:Func} {a:Act} {us:List Value} (h:(fn.results.toList.mapM (zal a)).run P w=.ok us w):(results fn a.tmps).run P w=.ok (if h:us.length=1 then us[0] else .tuple us.toArray) w:=by
 rw[z7i,Array.mapM_eq_mapM_toList]
 simp[h]
theorem zjc {s:Tm} {a:Act} {rv:ResultVar} {rest:List ResultVar} {av:RV} {avs:List RV} {v:AV} {e':E} (hc:rvs P (rv::rest)=some (av::avs)) (h:zgs fid e s av=some (v,e')) (hsl:Sl (fun _=>False) κ s a) (hst:St κ e B w₀ w) :
  rvs P rest=some avs∧∃ κ' u,κ.le κ'∧Same κ κ'∧St κ' e' B w₀ w∧VR κ' v u∧(zal a rv).run P w=.ok u w:=by
 cases rv with
 | tmp t =>
  simp only[rvs,Option.bind_eq_bind,Option.bind_eq_some_iff,Option.some.injEq,List.cons.injEq] at hc
  obtain⟨l,h1,rfl,rfl⟩:=hc
  obtain⟨κ',k1,k2,k3,k4⟩:=zg4 h (hsl t (fun h=>h)) hst
  exact⟨h1,κ',_,k1,k2,k3,k4,rfl⟩
 | cell x t =>
  simp only[rvs,Option.bind_eq_bind,Option.bind_eq_some_iff,Option.some.injEq,List.cons.injEq] at hc
  obtain⟨ag,h1,n,h2,l,h3,rfl,rfl⟩:=hc
  refine⟨h3,?_⟩
  simp only[zgs] at h
  cases hl:z19 e ag n (s.get (pth x)) with
  | none=>rw[hl] at h; cases h
  | some y =>
   rw[hl] at h
   simp only[resL] at h
   obtain⟨u,hu,hv⟩:=zfw h1 h2 (hsl x (fun h=>h)) hst hl
   obtain⟨κ',k1,k2,k3,k4⟩:=zg4 h hv hst
   refine⟨κ',u,k1,k2,k3,k4,?_⟩
   revert hu
   simp only[zal]
   generalize a.tmps.getD x undef=p
   intro hu
   simp only[Instr.loadAt] at hu
   cases p<;>simp[Instr.sureAddr,asAddr] at hu ⊢
   rename_i q
   cases q<;>simp[Instr.sureAddr,asAddr] at hu ⊢
   exact hu
theorem zb2 {s:Tm} {a:Act}:∀ {rs:List ResultVar} {avs:List RV},rvs P rs=some avs→∀ {κ:K} {e e':E} {vs:List AV},z12 fid s avs e=some (vs,e')→St κ e B w₀ w→Sl (fun _=>False) κ s a →
  ∃ κ' us,κ.le κ'∧Same κ κ'∧St κ' e' B w₀ w∧us.length=vs.length∧(∀ (i:Nat) (c:AV) (u:Value),vs[i]?=some c→us[i]?=some u→VR κ' c u) ∧
   (rs.mapM (zal a)).run P w=.ok us w
 | [],avs,hc,κ,e,e',vs,h,hst,hsl=>by
  cases hc
  simp only[z12,Option.some.injEq,Prod.mk.injEq] at h
  obtain⟨rfl,rfl⟩:=h
  exact⟨κ,[],.refl _,.refl _,hst,rfl,by simp,rfl⟩
 | rv::rs,avs,hc,κ,e,e',vs,h,hst,hsl=>by
  cases avs with
  | nil=>cases rv<;>simp[rvs,Option.bind_eq_some_iff] at hc
  | cons av avs =>
   simp only[z12,resB] at h
   split at h
   ·rename_i v e₁ h1
    unfold resC at h
    split at h
    ·rename_i vs' e₂ h2
     simp only[Option.some.injEq,Prod.mk.injEq] at h
     obtain⟨rfl,rfl⟩:=h
     obtain⟨g0,κ₁,u,g1,g2,g3,g4,g5⟩:=zjc (rest:=rs) hc h1 hsl hst
     obtain⟨κ₂,us,k1,k2,k3,k4,k5,k6⟩:=zb2 g0 h2 g3 (fun t ht=>(hsl t ht).mono g1)
     refine⟨κ₂,u::us,g1.trans k1,g2.trans k2,k3,by simp[k4],fun i c y hc hy=>?_,?_⟩
     ·cases i with
      | zero=>simp at hc hy; subst hc; subst hy; exact g4.mono k1
      | succ i=>simp at hc hy; exact k5 i c y hc hy
     ·simp only[List.mapM_cons,Sem.run_bind,g5,Result.andThen_ok,k6,Sem.run_pure]
    ·cases h
   ·cases h
theorem zb3:∀ {args:List AV} {i:Nat} {s:Tm} {t:Nat},(params args i s).get (pth t)=if i≤t∧t < i+args.length then (args[t - i]?).getD .undef else s.get (pth t)
 | [],i,s,t=>by
  rw[if_neg (by simp)]; rfl
 | v::args,i,s,t=>by
  simp only[params]
  rw[zb3]
  by_cases h:i+1≤t∧t < i+1+args.length
  ·rw[if_pos h,if_pos (by simp; omega)]
   have:t - i=t - (i+1)+1:=by omega
   rw[this]; simp
  ·rw[if_neg h]
   by_cases hti:t=i
   ·subst hti
    rw[Tm.get_set_same,if_pos (by simp)]
    simp
   ·rw[Tm.get_set_ne _ _ _ _ (fun he=>hti (zeg he).symm),if_neg (by simp; omega)]
theorem z9q {args:List AV} {vals:Array Value} {nt:Nat} (hl:vals.size=args.length) (hv:∀ (i:Nat) (c:AV) (u:Value),args[i]?=some c→vals[i]?=some u→VR κ c u) :
  Sl (fun _=>False) κ (params args 0 .nil) { tmps:=vals++Array.replicate (nt - vals.size) undef,defers:=[] }:=by
 intro t _
 rw[zb3]
 simp only[Nat.zero_le,true_and,Nat.zero_add,Nat.sub_zero]
 by_cases ht:t < args.length
 ·rw[if_pos ht]
  have h1:args[t]?=some args[t]:=by simp[ht]
  have h2:vals[t]?=some (vals[t]'(by omega)):=by simp
  have h3:(vals++Array.replicate (nt - vals.size) undef).getD t undef=vals[t]'(by omega):=by
   rw[Array.getD_eq_getD_getElem?,Array.getElem?_append_left (by omega),h2]; rfl
  rw[h3,h1]
  exact hv t _ _ h1 h2
 ·rw[if_neg ht]
  have h3:(vals++Array.replicate (nt - vals.size) undef).getD t undef=undef:=by
   rw[Array.getD_eq_getD_getElem?,Array.getElem?_append_right (by omega)]
   rw[Array.getElem?_replicate]
   split<;>rfl
  rw[h3]
  exact .undef
theorem Gr.unpush {fi:FI} {κ':K} {m:Nat} (hnot:fid∉fids e) (h:Gr W (push fi fid e) κ κ' fid m):Gr W e κ κ' fid m:=by
 refine⟨fun l hl=>(h.nm l hl).imp id fun h=>⟨fun hw=>?_,h.2⟩,h.tk⟩
 by_cases hlf:l.of fid
 ·cases l with
  | gl i=>exact hlf.elim
  | lo g a i =>
   have:g=fid:=hlf
   subst this
   exact z8m hnot
 ·rw[← z98 (fi:=fi) hlf]; exact h.1 hw
theorem Gr.same {κ₁ κ₂:K} {n m:Nat} (h:Gr W e κ κ₁ fid n) (hs:Same κ₁ κ₂) (hnm:n≤m):Gr W e κ κ₂ fid m :=
 ⟨fun l hl=>(h.nm l hl).imp (fun h=>hs.name h) fun h=>⟨h.1,h.2.imp id fun⟨i,hi,hlt⟩=>⟨i,hi,by omega⟩⟩,fun k hk=>(h.tk k hk).imp (fun h=>by rw[hs.tk]; exact h) id⟩
theorem zca {fn:Func} {rvl:List RV} (hrv:rvs P fn.results.toList=some rvl) {κ₁:K} {e₁:E} {s:Tm} {a:Act} {w':World} (hf:fids e₁=fid::fids e) (hnot:fid∉fids e) (hle:κ.le κ₁) (hgr:Gr W e κ κ₁ fid e₁.glo.length) (hst:St κ₁ e₁ B w₀ w')
  (hsl:Sl (fun _=>False) κ₁ s a) (hne:finR (z12 fid s rvl e₁)≠.bad) :
  ∃ v,(results fn a.tmps).run P w'=.ok v w'∧∃ κ' av e'',finR (z12 fid s rvl e₁)=.ret av e''∧VR κ' av v∧κ.le κ'∧Gr W e κ κ' fid e''.glo.length∧St κ' e'' B w₀ w':=by
 cases hra:z12 fid s rvl e₁ with
 | none=>rw[hra] at hne; exact absurd rfl hne
 | some q =>
  obtain⟨vs,e₂⟩:=q
  obtain⟨κ₂,us,k1,k2,k3,k4,k5,k6⟩:=zb2 hrv hra hst hsl
  have hres:=zaq _ hra
  have hup:=Up.upAll vs e₂
  have hst₃:St κ₂ (upAll vs e₂) B w₀ w':=k3.env (fun k hk=>.inl (hup.live k hk)) fun l=>.inl (hup.get l)
  have hfids:fids (upAll vs e₂)=fid::fids e:=by
   rw[z1q hup.shp,z1q hres.shp,hf]
  have hst₄:St κ₂ (pop (upAll vs e₂)) B w₀ w':=hst₃.leave (e₃:=upAll vs e₂) hfids hnot
  have hglo:(pop (upAll vs e₂)).glo.length=e₁.glo.length:=by
   show (upAll vs e₂).glo.length=_
   rw[hup.glo,hres.glo]
  have hrs:=zey (P:=P) (w:=w') k6
  refine⟨_,hrs,κ₂,zgt vs,pop (upAll vs e₂),rfl,?_,hle.trans k1,hgr.same k2 (by rw[hglo]; exact Nat.le_refl _),hst₄⟩
  match vs,us,k4,k5 with
  | [],us,k4,k5 =>
   have:us=[]:=List.length_eq_zero_iff.1 k4
   subst this
   simp only[zgt]
   exact .tup rfl (by simp)
  | [v],[u],k4,k5 =>
   simp only[zgt]
   simp
   exact k5 0 v u rfl rfl
  | v::v'::vs,us,k4,k5 =>
   have hne:¬ us.length=1:=by simp at k4; omega
   rw[dif_neg hne]
   simp only[zgt]
   exact .tup (by simpa using k4) (fun i c u hc hu=>k5 i c u hc (by simpa using hu))
abbrev zmw:Dfs:=⟨[],fun _=>none⟩
theorem zcb {a:Act} (h:a.defers=[]):@DfOK zmw a:=⟨h,fun _ _ h=>by cases h⟩
abbrev z8s (W:List Lo) (e:E) (κ:K) (fid B:Nat) (w₀:World) (r:CR):Ending→World→Prop
 | .returned val,w'=>∃ κ' v e',r=.ret v e'∧VR κ' v val∧κ.le κ'∧Gr W e κ κ' fid e'.glo.length∧St κ' e' B w₀ w'
 | .panicked ch,w'=>∃ κ' v e' val,r=.pan v e'∧ch=[{ v:=val,recovered:=false }]∧VR κ' v val∧κ.le κ'∧Gr W e κ κ' fid e'.glo.length∧St κ' e' B w₀ w'
 | .outgrown,_=>False
theorem zjd {call:z06} (hp:z0n call) (hok:z3l P call) (hm:P.follows .mixedOrders=true) {D:Dec} {n:Nat} {f:FuncId} {fi:FI} {fn:Func} {c:Code} {na:Nat} {args:List AV} {vals:Array Value} (hf:P.funcs[f]?=some fn) (hcode:fn.body=some c)
  (hcomp:comp P D fn.ntmps c 0=some (fi.code,na)) (hrv:rvs P fn.results.toList=some fi.res) (hdf:fi.df=none) (hb:body call n fi args W fid e≠.bad) (hst:St κ e B w₀ w) (hent:Ent κ e fid)
  (hl:vals.size=args.length) (hv:∀ (i:Nat) (c:AV) (u:Value),args[i]?=some c→vals[i]?=some u→VR κ c u) :
  Calls P f vals w (z8s W e κ fid B w₀ (body call n fi args W fid e)):=by
 letI:=zmw
 rw[zeo,hdf] at hb ⊢
 simp only[z31] at hb ⊢
 generalize hrun:run call n fid W fi.code ⟨params args 0 .nil,0⟩ (push fi fid e)=r at hb ⊢
 have hrb:r≠.bad:=by rintro rfl; exact hb rfl
 have hin:=hent.push fi
 have hst':=hst.push hent fi
 have hnot:fid∉fids e:=hent.out fid .refl
 have hpure:=run_pure hp (W:=W) (fid:=fid) (fuel:=n) fi.code ⟨params args 0 .nil,0⟩ (push fi fid e) hin.fut
 rw[hrun] at hpure
 -- where the frame is left
 have leave:∀ {fr':Fr} {e':E} {a:Act} {w':World},Keep W (push fi fid e) e'→finR (z12 fid fr'.s fi.res e')≠.bad→Told W (push fi fid e) κ fid B fn.ntmps w₀ fr' e' a w' →
   a.defers=[]∧∃ v,(results fn a.tmps).run P w'=.ok v w'∧∃ κ' av e'',finR (z12 fid fr'.s fi.res e')=.ret av e''∧VR κ' av v∧κ.le κ'∧Gr W e κ κ' fid e''.glo.length∧St κ' e'' B w₀ w':=by
  intro fr' e' a w' hk hne htold
  obtain⟨κ',g1,g2,g3,g4,g5,g6,g7⟩:=htold
  exact⟨g7.1,zca hrv (by rw[hk.fids]; rfl) hnot g1 (g2.unpush hnot) g3 g5 hne⟩
 refine calls_of_wp hf hcode ?_
 refine wp_mono (z8r (fid:=fid) (B:=B) (w₀:=w₀) (W:=W) hp hok hm c hcomp (fun _ _=>rfl) (κ:=κ) (e:=push fi fid e) (fr:=⟨params args 0 .nil,0⟩) (r:=r) (z9q hl hv) (by simp; omega) (zcb rfl) hst' hin hrun.symm hrb) fun x a' w' hx=>?_
 cases x with
 | normal =>
  obtain⟨fr',e',rfl,htold⟩:=hx
  obtain⟨h1,v,h2,κ',av,e'',h3,h4⟩:=leave hpure.1 hb htold
  exact⟨h1,v,h2,κ',av,e'',h3,h4⟩
 | ret =>
  obtain⟨fr',e',rfl,htold⟩:=hx
  obtain⟨h1,v,h2,κ',av,e'',h3,h4⟩:=leave hpure.1 hb htold
  exact⟨h1,v,h2,κ',av,e'',h3,h4⟩
 | exit id =>
  obtain⟨fr',e',rfl,_⟩:=hx
  exact absurd rfl hb
 | panic ch =>
  obtain⟨⟨κ',fr',e',v,val,rfl,h2,h3,h4,h5,h6,h7⟩,h8⟩:=hx
  refine⟨h8.1,κ',v,pop e',val,rfl,h2,h3,h4,h5.unpush hnot,?_⟩
  refine h6.leave ?_ hnot
  rw[hpure.1.fids]; rfl
 | _=>exact hx.elim
theorem enters {P:Program} {f:FuncId} {fn:Func} {c:Code} (hf:P.funcs[f]?=some fn) (hname:(fn.name == "runtime.NumGoroutine")=false) (hb:fn.body=some c) (args:Array Value) (w:World) :
  (callFunc f args).run P w=.ok (.enter f args) w:=by
 have h1:fn.name ≠ "runtime.NumGoroutine" := by simpa using hname
 simp[callFunc,hf,h1,hb]
theorem zje {l:List Oper} {r q:Nat} (h:recO l=some (r,q)):∃ o₁ o₂ c,l=[o₁,o₂]∧o₁.op=.call c∧c.callee=.builtin .recover∧o₁.dst=some r∧o₁.guard=none∧o₂.op=.assign (.tmp r)∧o₂.dst=some q∧o₂.guard=none:=by
 unfold recO at h
 split at h
 ·rename_i o₁ o₂
  split at h
  ·rename_i r₁ r' q₁ h1 h2 h3 h4 h5 h6
   obtain⟨hc,h⟩:=z00 h
   cases h
   have:=z03.1 hc
   subst this
   exact⟨o₁,o₂,_,rfl,h1,rfl,h2,h3,h4,h5,h6⟩
  ·cases h
 ·cases h
theorem zjf {l:List Oper} {t:Nat} {g:FuncId} {caps:Array Operand} (h:dfrO l=some (t,g,caps)):∃ o₁ o₂ c,l=[o₁,o₂]∧o₁.op=.makeFunc (.func g) #[] caps∧o₁.dst=some t∧o₁.guard=none ∧
  o₂.op=.defer c∧c.callee=.value (.tmp t)∧c.args=#[]∧o₂.dst=none∧o₂.guard=none:=by
 unfold dfrO at h
 split at h
 ·rename_i o₁ o₂
  split at h
  ·rename_i g₁ fi cs t₁ t' as ty h1 h2 h3 h4 h5 h6
   obtain⟨hc,h⟩:=z00 h
   cases h
   simp only[Bool.and_eq_true] at hc
   have e1:fi=#[]:=Array.size_eq_zero_iff.1 (z03.1 hc.1)
   have e2:as=#[]:=Array.size_eq_zero_iff.1 (z03.1 hc.2.1)
   have e3:=z03.1 hc.2.2
   subst e1 e2 e3
   exact⟨o₁,o₂,_,rfl,h1,h2,h3,h4,rfl,rfl,h5,h6⟩
  ·cases h
 ·cases h
def ModeR (κ:K) (v:AV) (u:FrameMode):Prop:=(u=.returning∧v=.nili)∨∃ val,u=.panicking [{ v:=val,recovered:=false }]∧VR κ v val
theorem dfr_sim {call:z06} (hp:z0n call) (hok:z3l P call) (hm:P.follows .mixedOrders=true) {n:Nat} {g:FuncId} {d:DF} (hc:zm4 P ⟨[]⟩ g=some (d.code,d.na,d.rc)) {caps:List AV} {C:Array Value} {v:AV} {u:FrameMode} {r:R}
  (hl:C.size=caps.length) (hv:∀ (i:Nat) (c:AV) (u:Value),caps[i]?=some c→C[i]?=some u→VR κ c u) (hmode:ModeR κ v u) (hst:St κ e B w₀ w) (hent:Ent κ e fid)
  (hr:r=run call n fid W d.code ⟨z26 d.rc v (params caps 0 .nil),0⟩ (push (dfi d) fid e)) (hrb:(∃ fr' e',r=.go fr' e')∨∃ fr' e',r=.ret fr' e') :
  (∀ vals w,(callFunc g vals).run P w=.ok (.enter g vals) w) ∧
  CallsD P g C u w fun en u' w'=>(∃ val,en=.returned val)∧settle u'=.returning∧∃ κ' fr' e',(r=.go fr' e'∨r=.ret fr' e')∧κ.le κ'∧Gr W e κ κ' fid e'.glo.length∧St κ' (pop e') B w₀ w':=by
 letI:=zmw
 unfold zm4 at hc
 simp only[Option.bind_eq_bind,Option.bind_eq_some_iff] at hc
 obtain⟨fn,hf,b,hb,hc⟩:=hc
 split at hc
 ·rename_i id ops y
  simp only[Option.bind_eq_some_iff,z08,Option.some.injEq,Prod.exists,Prod.mk.injEq] at hc
  obtain⟨t,q,hrec,c,a,hcomp,hcd,rfl,rfl,hrc⟩:=hc
  simp only[Bool.and_eq_true,Nat.blt_eq,Bool.not_eq_true',Array.isEmpty_iff] at hcd
  obtain⟨hres,ht,hq,hname⟩:=hcd
  refine⟨fun vals w=>enters hf hname hb vals w,?_⟩
  obtain⟨o₁,o₂,cl,hops,p1,p2,p3,p4,p5,p6,p7⟩:=zje hrec
  have hops:ops=#[o₁,o₂]:=by apply Array.toList_inj.1; simpa using hops
  subst hops
  have hin:=hent.push (dfi d)
  have hst':=hst.push hent (dfi d)
  have hnot:fid∉fids e:=hent.out fid .refl
  have hpure:=run_pure hp (W:=W) (fid:=fid) (fuel:=n) d.code ⟨z26 d.rc v (params caps 0 .nil),0⟩ (push (dfi d) fid e) hin.fut
  rw[← hr] at hpure
  have hrbad:r≠.bad:=by rcases hrb with⟨_,_,h⟩ | ⟨_,_,h⟩<;>rw[h]<;>simp
  refine callsD_of_wpS hf hb fun c₀ cs hu=>?_
  refine wpS_seq (wpS_region ?_)
  have hsz:t < (C++Array.replicate (fn.ntmps - C.size) undef).size:=by simp; omega
  have hsz2:q < (C++Array.replicate (fn.ntmps - C.size) undef).size:=by simp; omega
  have hnt:fn.ntmps≤(C++Array.replicate (fn.ntmps - C.size) undef).size:=by simp; omega
  have hsl:=z9q (κ:=κ) (nt:=fn.ntmps) hl hv
  generalize hA:({ tmps:=C++Array.replicate (fn.ntmps - C.size) undef,defers:=[] }:Act)=A at hsl
  have hAs:A.tmps.size=(C++Array.replicate (fn.ntmps - C.size) undef).size:=by rw[← hA]
  have hAd:A.defers=[]:=by rw[← hA]
  -- what is recovered
  have rest:∀ (val:Value) (u':FrameMode),VR κ v val→settle u'=.returning →
    y.wpS P (bodyPostS P fn c₀ cs fun en u' w'=>(∃ val,en=.returned val)∧settle u'=.returning∧∃ κ' fr' e',(r=.go fr' e'∨r=.ret fr' e')∧κ.le κ'∧Gr W e κ κ' fid e'.glo.length∧St κ' (pop e') B w₀ w') ((A.put (some t) val).put (some q) val) ({ c₀ with mode:=u' }::cs) w:=by
   intro val u' hval hset
   refine wpS_of_wp (wp_mono (z8r (fid:=fid) (B:=B) (w₀:=w₀) (W:=W) hp hok hm y hcomp (fun _ _=>rfl) (κ:=κ) (e:=push (dfi d) fid e) (fr:=⟨z26 d.rc v (params caps 0 .nil),0⟩) (r:=r) ?_ ?_ ?_ hst' hin hr hrbad) fun x a' w' hx=>?_)
   ·rw[← hrc]
    have h1:=hsl.put (dst:=some t) (.refl _) (fun d hd=>by cases hd; rw[hAs]; exact hsz) hval
    exact h1.put (dst:=some q) (.refl _) (fun d hd=>by cases hd; rw[z4s,hAs]; exact hsz2) hval
   ·rw[z4s,z4s,hAs]; exact hnt
   ·exact zcb (by rw[zet,zet]; exact hAd)
   ·have fin:∀ fr' e',(r=.go fr' e'∨r=.ret fr' e')→Told W (push (dfi d) fid e) κ fid B fn.ntmps w₀ fr' e' a' w'→Keep W (push (dfi d) fid e) e' →
        a'.defers=[]∧∃ u'',({ c₀ with mode:=u' }:Frame)::cs={ c₀ with mode:=u'' }::cs∧∃ vv,(results fn a'.tmps).run P w'=.ok vv w'∧((∃ val,(Ending.returned vv)=.returned val)∧settle u''=.returning∧∃ κ' fr' e',(r=.go fr' e'∨r=.ret fr' e')∧κ.le κ'∧Gr W e κ κ' fid e'.glo.length∧St κ' (pop e') B w₀ w'):=by
     intro fr' e' hre htold hk
     obtain⟨κ',g1,g2,g3,g4,g5,g6,g7⟩:=htold
     refine⟨g7.1,u',rfl,.tuple #[],?_,⟨_,rfl⟩,hset,κ',fr',e',hre,g1,g2.unpush hnot,g3.leave (by rw[hk.fids]; rfl) hnot⟩
     simp[results,hres]
    cases x with
    | normal=>obtain⟨fr',e',he,htold⟩:=hx; rw[he] at hpure; exact fin fr' e' (.inl he) htold hpure.1
    | ret=>obtain⟨fr',e',he,htold⟩:=hx; rw[he] at hpure; exact fin fr' e' (.inr he) htold hpure.1
    | exit id=>obtain⟨fr',e',he,_⟩:=hx; rcases hrb with⟨_,_,h⟩ | ⟨_,_,h⟩<;>rw[h] at he<;>cases he
    | panic ch=>obtain⟨⟨κ',fr',e',v,val,he,_⟩,_⟩:=hx; rcases hrb with⟨_,_,h⟩ | ⟨_,_,h⟩<;>rw[h] at he<;>cases he
    | _=>exact hx.elim
  have hw1:Region.wanted o₁ (yielded #[o₁,o₂] A.tmps)=true:=by unfold Region.wanted; rw[p4]
  have hx1:(execOp A.eval o₁).run P w=.ok .recover w:=by
   obtain⟨callee,cargs,ctys⟩:=cl
   simp only at p2
   subst p2
   simp[execOp,p1,resolve,invoke,builtin]
  have second:∀ (val:Value) (cs':List Frame) (Q:Exit→Act→List Frame→World→Prop),Q .normal ((A.put (some t) val).put (some q) val) cs' w→wpOpsS P #[o₁,o₂] Q [1] (A.put (some t) val) cs' w:=by
   intro val cs' Q hQ
   have hw2:Region.wanted o₂ (yielded #[o₁,o₂] (A.put (some t) val).tmps)=true:=by unfold Region.wanted; rw[p7]
   have hev:(A.put (some t) val).eval (.tmp t)=val:=by
    have:t < A.tmps.size:=by rw[hAs]; exact hsz
    simp[Act.eval,Act.put,Array.getD_eq_getD_getElem?,this]
   have hx2:(execOp (A.put (some t) val).eval o₂).run P w=.ok (.value val) w:=by simp[execOp,p5,hev]
   have h2:(#[o₁,o₂]:Array Oper)[1]?=some o₂:=rfl
   simp only[wpOpsS,h2,hw2,if_true,hx2,Oper.upon,p6]
   exact hQ
  have h1:(#[o₁,o₂]:Array Oper)[0]?=some o₁:=rfl
  have hrange:List.range (#[o₁,o₂]:Array Oper).size=[0,1]:=rfl
  rw[hrange]
  rcases hmode with⟨rfl,rfl⟩ | ⟨val,rfl,hval⟩
  ·have hrd:recoverD (c₀::cs)=none:=by simp[recoverD,hu]
   unfold wpOpsS
   simp only[h1,hw1,if_true,hx1,hrd,p3]
   refine second _ _ _ ?_
   have hcs:c₀::cs={ c₀ with mode:=FrameMode.returning }::cs:=by rw[← hu]
   rw[hcs]
   exact rest .nilIface .returning .nili rfl
  ·have hrd:recoverD (c₀::cs)=some (val,{ c₀ with mode:=.panicking [{ v:=val,recovered:=true }] }::cs):=by simp[recoverD,hu]
   unfold wpOpsS
   simp only[h1,hw1,if_true,hx1,hrd,p3]
   refine second _ _ _ ?_
   exact rest val (.panicking [{ v:=val,recovered:=true }]) hval rfl
 ·cases hc
theorem z86 {l:List Nat}:∀ {rs:List ResultVar},z91 l rs=true→∀ rv∈rs,∃ x t,rv=.cell x t∧x∉l
 | [],_,rv,h=>by cases h
 | .tmp _::_,h,_,_=>by cases h
 | .cell x t::rs,h,rv,hm=>by
  simp only[z91,Bool.and_eq_true,Bool.not_eq_true'] at h
  rcases List.mem_cons.1 hm with rfl | hm
  ·refine⟨x,t,rfl,fun hx=>?_⟩
   have:l.any (Nat.beq x)=true:=List.any_eq_true.2 ⟨x,hx,z03.2 rfl⟩
   rw[this] at h; cases h.1
  ·exact z86 h.2 rv hm
theorem zdo {fn:Func} {a a':Act} (h:∀ rv∈fn.results.toList,∃ x t,rv=.cell x t∧a'.tmps.getD x undef=a.tmps.getD x undef):results fn a'.tmps=results fn a.tmps:=by
 rw[z7i,z7i,Array.mapM_eq_mapM_toList,Array.mapM_eq_mapM_toList]
 have:∀ l:List ResultVar,(∀ rv∈l,∃ x t,rv=.cell x t∧a'.tmps.getD x undef=a.tmps.getD x undef)→l.mapM (zal a')=l.mapM (zal a):=by
  intro l
  induction l with
  | nil=>intro _; rfl
  | cons rv l ih =>
   intro h
   obtain⟨x,t,rfl,he⟩:=h rv (by simp)
   have h1:zal a' (.cell x t)=zal a (.cell x t):=by simp only[zal,he]
   rw[List.mapM_cons,List.mapM_cons,h1,ih fun rv hrv=>h rv (by simp[hrv])]
 rw[this _ h]
theorem zhb {call:z06} (hp:z0n call) (hok:z3l P call) (hm:P.follows .mixedOrders=true) [Dfs] {D:Dec} {fuel:Nat}:∀ (b:Code) {l:List Code} {dd:Nat × FuncId × Array Operand} {q:Code},zcz b=some (l,dd,q)→∀ {ac:AC} {a0 a1:Nat},zih P D nt l a0=some (ac,a1)→(∀ d,Dfs.kv d=none) →
  ∃ id ops,dfrO ops.toList=some dd∧∀ {κ:K} {e:E} {w:World} {fr:Fr} {a:Act} {r:R} {Q:Exit→Act→World→Prop},Sl (fun _=>False) κ fr.s a→nt≤a.tmps.size→DfOK a→St κ e B w₀ w→In κ e fid fr.cnt→r=run call fuel fid W ac fr e→r≠.bad →
   (∀ fr' e' a' w',r=.go fr' e'→Told W e κ fid B nt w₀ fr' e' a' w'→(Code.seq (.region id ops false) q).wp P Q a' w')→(∀ x a' w',x≠.normal→z5e W e κ fid B nt w₀ r x a' w'→Q x a' w')→b.wp P Q a w:=by
 intro b
 induction b with
 | seq x y _ ihy =>
  intro l dd q hs ac a0 a1 hc hkv
  unfold zcz at hs
  split at hs
  ·rename_i d hd
   simp only[Option.some.injEq,Prod.mk.injEq] at hs
   obtain⟨rfl,rfl,rfl⟩:=hs
   cases hc
   cases x with
   | region rid ops draw =>
    cases draw with
    | true=>cases hd
    | false =>
     refine⟨rid,ops,hd,fun hsl hsz hdf hst hin hr _ hK _=>?_⟩
     exact hK _ _ _ _ hr ⟨_,.refl _,.refl _ _ _ _ _,hst,hin,hsl,hsz,hdf⟩
   | _=>cases hd
  ·split at hs
   ·rename_i l' d' q' hs'
    simp only[Option.some.injEq,Prod.mk.injEq] at hs
    obtain⟨rfl,rfl,rfl⟩:=hs
    simp only[zih,Option.bind_eq_bind,Option.bind_eq_some_iff,Option.some.injEq,Prod.mk.injEq,Prod.exists] at hc
    obtain⟨ax,b1,h1,ay,b2,h2,rfl,rfl⟩:=hc
    obtain⟨id,ops,hd,H⟩:=ihy hs' h2 hkv
    refine⟨id,ops,hd,fun {κ e w fr a r Q} hsl hsz hdf hst hin hr hrb hK hQ=>?_⟩
    have hr:r=R.bind (run call fuel fid W ay) (run call fuel fid W ax fr e):=hr
    have hxb:run call fuel fid W ax fr e≠.bad:=by intro h; rw[h] at hr; exact hrb hr
    have hpx:=run_pure hp (W:=W) (fid:=fid) (fuel:=fuel) ax fr e hin.fut
    refine wp_seq (wp_mono (z8r (fid:=fid) (B:=B) (w₀:=w₀) (W:=W) hp hok hm x h1 (fun d _=>hkv d) hsl hsz hdf hst hin rfl hxb) fun z a' w' hz=>?_)
    by_cases hzn:z=.normal
    ·subst hzn
     obtain⟨fr',e',he,κ',g1,g2,g3,g4,g5,g6,g7⟩:=hz
     rw[he] at hr hpx
     have hr:r=run call fuel fid W ay fr' e':=hr
     have hpy:=run_pure hp (W:=W) (fid:=fid) (fuel:=fuel) ay fr' e' g4.fut
     rw[← hr] at hpy
     refine H g5 g6 g7 g3 g4 hr hrb (fun fr₂ e₂ a₂ w₂ he₂ ht=>hK fr₂ e₂ a₂ w₂ he₂ ?_) fun x a w hx hz=>hQ x a w hx (hz.trans g1 g2 hpx.1 hpy)
     rw[he₂] at hpy
     exact ht.trans g1 g2 hpx.1 hpy.1.glo
    ·have:=hQ z a' w' hzn (hz.bind hr hzn)
     cases z<;>first | exact absurd rfl hzn | exact this
   ·cases hs
 | _=>intro l dd q hs; cases hs
theorem zjg {call:z06} (hp:z0n call) (hok:z3l P call) (hm:P.follows .mixedOrders=true) {D:Dec} {n:Nat} {f:FuncId} {fi:FI} {df:DF} {fn:Func} {c q:Code} {l:List Code} {t a1 a2:Nat} {g:FuncId} {caps:Array Operand} {args:List AV} {vals:Array Value}
  (hf:P.funcs[f]?=some fn) (hcode:fn.body=some c) (hspl:zcz c=some (l,(t,g,caps),q)) (hcl:zih P D fn.ntmps l 0=some (fi.code,a1)) (hcq:comp P D fn.ntmps q a1=some (df.post,a2)) (hcr:zm4 P ⟨[]⟩ g=some (df.code,df.na,df.rc))
  (hcx:cxs caps.toList=some df.caps) (hstay:z91 (t::dsts q) fn.results.toList=true) (ht:t < fn.ntmps) (hdt:df.t=pth t) (hdg:df.g=g) (hrv:rvs P fn.results.toList=some fi.res) (hdf:fi.df=some df)
  (hb:body call n fi args W fid e≠.bad) (hst:St κ e B w₀ w) (hent:Ent κ e fid)
  (hl:vals.size=args.length) (hv:∀ (i:Nat) (c:AV) (u:Value),args[i]?=some c→vals[i]?=some u→VR κ c u) :
  Calls P f vals w (z8s W e κ fid B w₀ (body call n fi args W fid e)):=by
 rw[zeo,hdf] at hb ⊢
 simp only[z31] at hb ⊢
 generalize hrun:run call n fid W fi.code ⟨params args 0 .nil,0⟩ (push fi fid e)=r at hb ⊢
 have hrb:r≠.bad:=by rintro rfl; exact hb rfl
 have hin:=hent.push fi
 have hst':=hst.push hent fi
 have hnot:fid∉fids e:=hent.out fid .refl
 have hpure:=run_pure hp (W:=W) (fid:=fid) (fuel:=n) fi.code ⟨params args 0 .nil,0⟩ (push fi fid e) hin.fut
 rw[hrun] at hpure
 obtain⟨id,ops,hdo,H⟩:=@zhb _ P _ B fid fn.ntmps w₀ W call hp hok hm zmw D n c l (t,g,caps) q hspl _ 0 a1 hcl (fun _=>rfl)
 refine calls_of_wp_defers hf hcode ?_
 refine H (κ:=κ) (e:=push fi fid e) (fr:=⟨params args 0 .nil,0⟩) (r:=r) (z9q hl hv) (by simp; omega) (zcb rfl) hst' hin hrun.symm hrb (fun fr₁ e₁ a' w₁ he₁ htold=>?_) fun x a' w' hx hz=>?_
 ·-- it defers,and goes on
  subst he₁
  obtain⟨κ₁,g1,g2,g3,g4,g5,g6,g7,_⟩:=htold
  obtain⟨s,cnt⟩:=fr₁
  simp only at g5 g4
  simp only[z45,bodyS] at hb ⊢
  obtain⟨o₁,o₂,cl,hops,p1,p2,p3,p4,p5,p6,p7,p8⟩:=zjf hdo
  have hops:ops=#[o₁,o₂]:=by apply Array.toList_inj.1; simpa using hops
  subst hops
  -- what the closure captures
  have hcap:(caps.map a'.eval).size=(evs s df.caps).length∧∀ (i:Nat) (c:AV) (u:Value),(evs s df.caps)[i]?=some c→(caps.map a'.eval)[i]?=some u→VR κ₁ c u :=
   zc7 hcx fun x hx ax hax=>zby g3.glob hax fun t _=>g5 t (fun h=>h)
  obtain⟨hC1,hC2⟩:=hcap
  let dfd:Deferred:={ target:=.fn (.func g) (caps.map a'.eval),args:=#[] }
  let A:Act:={ (a'.put (some t) (.func (.func g) #[] (caps.map a'.eval))) with defers:=dfd::a'.defers }
  have hat:t < a'.tmps.size:=Nat.lt_of_lt_of_le ht g6
  -- the region
  have region:∀ Q:Exit→Act→World→Prop,q.wp P Q A w₁→(Code.seq (.region id #[o₁,o₂] false) q).wp P Q a' w₁:=by
   intro Q hQ
   refine wp_seq (wp_region ?_)
   have hw1:Region.wanted o₁ (yielded #[o₁,o₂] a'.tmps)=true:=by unfold Region.wanted; rw[p3]
   have hw2:Region.wanted o₂ (yielded #[o₁,o₂] (a'.put (some t) (.func (.func g) #[] (caps.map a'.eval))).tmps)=true:=by unfold Region.wanted; rw[p8]
   have hx1:(execOp a'.eval o₁).run P w₁=.ok (.value (.func (.func g) #[] (caps.map a'.eval))) w₁:=by simp[execOp,p1,Instr.makeFunc]
   have hev:(a'.put (some t) (.func (.func g) #[] (caps.map a'.eval))).eval (.tmp t)=.func (.func g) #[] (caps.map a'.eval):=by
    simp[Act.eval,Act.put,Array.getD_eq_getD_getElem?,hat]
   have hx2:(execOp (a'.put (some t) (.func (.func g) #[] (caps.map a'.eval))).eval o₂).run P w₁=.ok (.defer dfd) w₁:=by
    obtain⟨callee,cargs,ctys⟩:=cl
    simp only at p5 p6
    subst p5 p6
    simp[execOp,p4,resolve,hev,Deferred.ofValue,dfd]
   have hrange:List.range (#[o₁,o₂]:Array Oper).size=[0,1]:=rfl
   have h1:(#[o₁,o₂]:Array Oper)[0]?=some o₁:=rfl
   have h2:(#[o₁,o₂]:Array Oper)[1]?=some o₂:=rfl
   rw[hrange]
   simp only[wpOps,h1,hw1,if_true]
   refine .inl ?_
   unfold Oper.wp Oper.upon
   rw[hx1,p2]
   simp only[h2,hw2,if_true]
   refine .inl ?_
   rw[hx2,p7]
   exact hQ
  refine region _ ?_
  -- the rest of it
  let kv:Nat→Option Value:=fun x=>if x∈t::dsts q then none else some (a'.tmps.getD x undef)
  letI dfs:Dfs:=⟨[dfd],kv⟩
  generalize hr2:run call n fid W df.post ⟨s.set df.t (.fn df.g [] (evs s df.caps)),cnt⟩ e₁=r₂ at hb ⊢
  have hr2b:r₂≠.bad:=by rintro rfl; exact hb rfl
  have hp2:=run_pure hp (W:=W) (fid:=fid) (fuel:=n) df.post ⟨s.set df.t (.fn df.g [] (evs s df.caps)),cnt⟩ e₁ g4.fut
  rw[hr2] at hp2
  have hAput:Sl (fun _=>False) κ₁ (s.set df.t (.fn df.g [] (evs s df.caps))) A:=by
   have h1:=g5.put (dst:=some t) (.refl _) (fun d hd=>by cases hd; exact hat) (VR.fn (f:=g) (first:=[]) (captured:=evs s df.caps) (F:=#[]) (C:=caps.map a'.eval) rfl hC1 (by simp) hC2)
   rw[hdt,hdg]
   exact h1
  have hAsz:fn.ntmps≤A.tmps.size:=by
   show fn.ntmps≤(a'.put (some t) _).tmps.size
   rw[z4s]; exact g6
  have hAdf:DfOK A:=by
   refine⟨by show dfd::a'.defers=[dfd]; rw[g7]; rfl,fun x u hx=>?_⟩
   have hx:kv x=some u:=hx
   simp only[kv] at hx
   split at hx
   ·cases hx
   ·rename_i hn
    cases hx
    have hne:t≠x:=by rintro rfl; exact hn (by simp)
    show (a'.put (some t) _).tmps.getD x undef=_
    simp[Act.put,Array.getD_eq_getD_getElem?,Array.getElem?_setIfInBounds_ne hne]
  have hres:∀ a'':Act,DfOK a''→results fn a''.tmps=results fn a'.tmps:=by
   intro a'' hd
   refine zdo fun rv hrv=>?_
   obtain⟨x,ty,rfl,hx⟩:=z86 hstay rv hrv
   refine⟨x,ty,rfl,hd.2 x _ ?_⟩
   show kv x=_
   simp only[kv,if_neg hx]
  -- the deferred call,and what is handed back
  have last:∀ (a'':Act) (w₂:World) (κ₂:K) (cnt₂:Nat) (e₂:E) (v:AV) (u:FrameMode),DfOK a''→κ₁.le κ₂→Gr W e₁ κ₁ κ₂ fid e₂.glo.length→St κ₂ e₂ B w₀ w₂→In κ₂ e₂ fid cnt₂→Keep W e₁ e₂→ModeR κ₂ v u→u≠.run →
    z1t call n fi df W fid s (evs s df.caps) v cnt₂ e₂≠.bad→Leaves P fn a''.tmps (z8s W e κ fid B w₀ (z1t call n fi df W fid s (evs s df.caps) v cnt₂ e₂)) a''.defers u w₂:=by
   intro a'' w₂ κ₂ cnt₂ e₂ v u hdf2 hle2 hgr2 hst2 hin2 hk2 hmode hun hne
   rw[zd6] at hne ⊢
   cases hroom:room cnt₂ with
   | false=>rw[hroom] at hne; exact absurd rfl hne
   | true =>
    rw[hroom] at hne
    simp only[cond_true] at hne ⊢
    generalize hr3:run call n (child fid cnt₂) W df.code ⟨z26 df.rc v (params (evs s df.caps) 0 .nil),0⟩ (push (dfi df) (child fid cnt₂) e₂)=r₃ at hne ⊢
    have hcnt:=z1k.1 hroom
    have hent2:=hin2.ent hcnt
    have hrb3:(∃ fr' e',r₃=.go fr' e')∨∃ fr' e',r₃=.ret fr' e':=by
     cases r₃<;>simp[z1j] at hne ⊢
    have hp3:=run_pure hp (W:=W) (fid:=child fid cnt₂) (fuel:=n) df.code ⟨z26 df.rc v (params (evs s df.caps) 0 .nil),0⟩ (push (dfi df) (child fid cnt₂) e₂) (.push hent2.out)
    rw[hr3] at hp3
    obtain⟨hcf,hcd⟩:=dfr_sim (W:=W) hp hok hm (n:=n) hcr (caps:=evs s df.caps) (C:=caps.map a'.eval) (v:=v) (u:=u) (r:=r₃) hC1 (fun i c u hc hu=>(hC2 i c u hc hu).mono hle2) hmode hst2 hent2 hr3.symm hrb3
    have hds:a''.defers=[dfd]:=hdf2.1
    rw[hds]
    refine leaves_cons hun (f:=g) (args:=caps.map a'.eval) (by simp[invoke,hcf]) ?_
    refine hcd.mono fun en u' w₃ h=>?_
    obtain⟨⟨val,rfl⟩,hset,κ₃,fr₃,e₃,hre,k1,k2,k3⟩:=h
    simp only[hset]
    have fin:z1j fi fid s r₃=finR (z12 fid s fi.res (pop e₃)):=by rcases hre with h | h<;>rw[h]<;>rfl
    rw[fin] at hne ⊢
    have hk3:Keep W (push (dfi df) (child fid cnt₂) e₂) e₃:=by rcases hre with h | h<;>rw[h] at hp3<;>exact hp3.1
    have hnot3:child fid cnt₂∉fids e₂:=hent2.out _ .refl
    have hpop:Keep W e₂ (pop e₃):=.of_call (z4a hnot3 hk3 (.refl _ _))
    have hgl:(pop e₃).glo.length=e₃.glo.length:=rfl
    have hfid:fids (pop e₃)=fid::fids e:=by
     rw[hpop.fids,hk2.fids,hpure.1.fids]; rfl
    have hG1:Gr W (push fi fid e) κ κ₃ fid (pop e₃).glo.length :=
     (g2.trans hgr2 hpure.1 hk2.glo).trans (k2.up (.step .refl hcnt)) (hpure.1.trans hk2) (by rw[hgl]; have:=hpop.glo; rw[hgl] at this; exact this)
    obtain⟨vv,f1,κ₄,av,e₄,f2,f3,f4,f5,f6⟩:=zca (P:=P) (W:=W) (e:=e) hrv (s:=s) (a:=a') hfid hnot ((g1.trans hle2).trans k1) (hG1.unpush hnot) k3 (fun t ht=>(g5 t ht).mono (hle2.trans k1)) hne
    refine⟨vv,by rw[hres a'' hdf2]; exact f1,κ₄,av,e₄,f2,f3,f4,f5,f6⟩
  refine wp_mono (z8r (fid:=fid) (B:=B) (w₀:=w₀) (W:=W) hp hok hm q hcq (fun d hd=>by show kv d=none; simp only[kv]; rw[if_pos (by simp[hd])]) (κ:=κ₁) (e:=e₁) (fr:=⟨s.set df.t (.fn df.g [] (evs s df.caps)),cnt⟩) (r:=r₂) hAput hAsz hAdf g3 g4 hr2.symm hr2b) fun x a'' w₂ hx=>?_
  cases x with
  | normal =>
   obtain⟨fr₂,e₂,rfl,κ₂,k1,k2,k3,k4,k5,k6,k7⟩:=hx
   exact last a'' w₂ κ₂ fr₂.cnt e₂ .nili .returning k7 k1 k2 k3 k4 hp2.1 (.inl ⟨rfl,rfl⟩) (by simp) hb
  | ret =>
   obtain⟨fr₂,e₂,rfl,κ₂,k1,k2,k3,k4,k5,k6,k7⟩:=hx
   exact last a'' w₂ κ₂ fr₂.cnt e₂ .nili .returning k7 k1 k2 k3 k4 hp2.1 (.inl ⟨rfl,rfl⟩) (by simp) hb
  | exit id =>
   obtain⟨fr₂,e₂,rfl,_⟩:=hx
   exact absurd rfl hb
  | panic ch =>
   obtain⟨⟨κ₂,fr₂,e₂,v,val,rfl,rfl,k0,k1,k2,k3,k4⟩,k7⟩:=hx
   exact last a'' w₂ κ₂ fr₂.cnt e₂ v _ k7 k1 k2 k3 k4 hp2.1 (.inr ⟨val,rfl,k0⟩) (by simp) hb
  | _=>exact hx.elim
 ·-- it ends ahead of that
  cases x with
  | normal=>exact absurd rfl hx
  | ret =>
   obtain⟨fr',e',rfl,κ',g1,g2,g3,g4,g5,g6,g7⟩:=hz
   have hds:a'.defers=[]:=g7.1
   obtain⟨v,h2,h3⟩:=zca (P:=P) (W:=W) (e:=e) hrv (s:=fr'.s) (a:=a') (by rw[hpure.1.fids]; rfl) hnot g1 (g2.unpush hnot) g3 g5 hb
   show Leaves P fn a'.tmps _ a'.defers .returning w'
   rw[hds]
   exact⟨v,h2,h3⟩
  | exit id =>
   obtain⟨fr',e',rfl,_⟩:=hz
   exact absurd rfl hb
  | panic ch =>
   obtain⟨⟨κ',fr',e',v,val,rfl,h2,h3,h4,h5,h6,h7⟩,h8⟩:=hz
   have hds:a'.defers=[]:=h8.1
   show Leaves P fn a'.tmps _ a'.defers (.panicking ch) w'
   rw[hds]
   refine⟨κ',v,pop e',val,rfl,h2,h3,h4,h5.unpush hnot,?_⟩
   refine h6.leave ?_ hnot
   rw[hpure.1.fids]; rfl
  | _=>exact hz.elim
theorem zmx {call:z06} (hp:z0n call) (hok:z3l P call) (hm:P.follows .mixedOrders=true) {D:Dec} {n:Nat} {f:FuncId} {fi:FI} {args:List AV} {vals:Array Value} (hc:zii P D f=some fi) (hb:body call n fi args W fid e≠.bad) (hst:St κ e B w₀ w) (hent:Ent κ e fid)
  (hl:vals.size=args.length) (hv:∀ (i:Nat) (c:AV) (u:Value),args[i]?=some c→vals[i]?=some u→VR κ c u) :
  Calls P f vals w (z8s W e κ fid B w₀ (body call n fi args W fid e)):=by
 unfold zii at hc
 simp only[Option.bind_eq_bind,Option.bind_eq_some_iff] at hc
 obtain⟨fn,hf,c,hcode,hc⟩:=hc
 split at hc
 ·rename_i l t g caps q hspl
  simp only[Option.bind_eq_some_iff,z08,Option.some.injEq,Prod.exists] at hc
  obtain⟨ac,a1,hcl,ac',a2,hcq,cc,ca,rc,hcr,hck,rvl,hrv,axs,hcx,rfl⟩:=hc
  simp only[Bool.and_eq_true,Nat.blt_eq] at hck
  exact zjg hp hok hm (df:=⟨pth t,g,axs,ac',cc,ca,rc⟩) hf hcode hspl hcl hcq hcr hcx hck.1 hck.2 rfl rfl hrv rfl hb hst hent hl hv
 ·simp only[Option.bind_eq_some_iff,Option.some.injEq,Prod.exists] at hc
  obtain⟨ac,na,hcomp,rvl,hrv,rfl⟩:=hc
  exact zjd hp hok hm hf hcode hcomp hrv rfl hb hst hent hl hv
def z0v (P:Program) (I:FuncId→Option z07):Prop :=
 ∀ (κ:K) (e:E) (B fid:Nat) (w₀ w:World) (f:FuncId) (g:z07) (args:List AV) (vals:Array Value) (W:List Lo) (v:AV) (e':E),I f=some g→g args W fid e=some (v,e')→St κ e B w₀ w→Ent κ e fid →
  vals.size=args.length→(∀ (i:Nat) (c:AV) (u:Value),args[i]?=some c→vals[i]?=some u→VR κ c u) →
  Nx P (callFunc f vals) w (fun val w'=>∃ κ',VR κ' v val∧κ.le κ'∧Gr W e κ κ' fid e'.glo.length∧St κ' e' B w₀ w') fun _ _=>False
def zam (P:Program) (T:FuncId→Option FI):Prop:=∀ f fi,T f=some fi→(∃ D,zii P D f=some fi)∧∀ vals w,(callFunc f vals).run P w=.ok (.enter f vals) w
theorem z63 {T:FuncId→Option FI} {I:FuncId→Option z07} (hT:zam P T) (hI:z0v P I) (hIp:z0d I) (hm:P.follows .mixedOrders=true):∀ n,z3l P (z09 T I n)
 | 0=>fun κ e B fid w₀ w f args vals W hb=>absurd rfl hb
 | n+1=>fun κ e B fid w₀ w f args vals W hb hst hent hl hv=>by
  have ih:=z63 hT hI hIp hm n
  simp only[z09] at hb ⊢
  have main:z2j (z09 T I n) n args W fid e (T f)≠.bad→Nx P (callFunc f vals) w
    (fun val w'=>∃ κ' v e',z2j (z09 T I n) n args W fid e (T f)=.ret v e'∧VR κ' v val∧κ.le κ'∧Gr W e κ κ' fid e'.glo.length∧St κ' e' B w₀ w')
    (fun ch w'=>∃ κ' v e' val,z2j (z09 T I n) n args W fid e (T f)=.pan v e'∧ch=[{ v:=val,recovered:=false }]∧VR κ' v val∧κ.le κ'∧Gr W e κ κ' fid e'.glo.length∧St κ' e' B w₀ w'):=by
   intro hb
   cases hTf:T f with
   | none=>rw[hTf] at hb; exact absurd rfl hb
   | some fi =>
    rw[hTf] at hb
    simp only[z2j] at hb ⊢
    obtain⟨⟨D,hc⟩,hcall⟩:=hT f fi hTf
    unfold Nx
    rw[hcall]
    exact zmx (z4b hIp n) ih hm hc hb hst hent hl hv
  cases hIf:I f with
  | some g =>
   rw[hIf] at hb
   simp only[z1u] at hb ⊢
   cases hg:g args W fid e with
   | none=>rw[hg] at hb; exact main hb
   | some q =>
    obtain⟨v,e'⟩:=q
    refine(hI κ e B fid w₀ w f g args vals W v e' hIf hg hst hent hl hv).mono (fun val w' h=>?_) fun _ _ h=>h.elim
    obtain⟨κ',h1,h2,h3,h4⟩:=h
    exact⟨κ',v,e',rfl,h1,h2,h3,h4⟩
  | none =>
   rw[hIf] at hb
   exact main hb
end
end Go.Abs
namespace Go.Abs
open Go Go.RowKit
noncomputable section
def loEq:Lo→Lo→Bool
 | .lo a b c,.lo a' b' c'=>Nat.beq a a' && (Nat.beq b b' && Nat.beq c c')
 | .gl a,.gl a'=>Nat.beq a a'
 | _,_=>false
theorem z2t:∀ {a b:Lo},loEq a b=true→a=b
 | .lo a b c,.lo a' b' c',h=>by
  simp only[loEq,Bool.and_eq_true,Nat.beq_eq] at h
  obtain⟨rfl,rfl,rfl⟩:=h; rfl
 | .gl a,.gl a',h=>by simp only[loEq,Nat.beq_eq] at h; rw[h]
 | .lo ..,.gl _,h=>by cases h
 | .gl _,.lo ..,h=>by cases h
def kEq (a b:IntKind):Bool:=Nat.beq a.ctorIdx b.ctorIdx
theorem zdp {a b:IntKind} (h:kEq a b=true):a=b:=by
 simp only[kEq,Nat.beq_eq] at h
 cases a<;>cases b<;>first | rfl | cases h
def iEq:Int→Int→Bool
 | .ofNat a,.ofNat b=>Nat.beq a b
 | .negSucc a,.negSucc b=>Nat.beq a b
 | _,_=>false
theorem z9r:∀ {a b:Int},iEq a b=true→a=b
 | .ofNat a,.ofNat b,h=>by simp only[iEq,Nat.beq_eq] at h; rw[h]
 | .negSucc a,.negSucc b,h=>by simp only[iEq,Nat.beq_eq] at h; rw[h]
 | .ofNat _,.negSucc _,h=>by cases h
 | .negSucc _,.ofNat _,h=>by cases h
def bEq:Bool→Bool→Bool
 | true,b=>b
 | false,b=>cond b false true
theorem z9s:∀ {a b:Bool},bEq a b=true→a=b
 | true,true,_=>rfl
 | false,false,_=>rfl
theorem z1z:∀ {a b:List Nat},z25 a b=true→a=b
 | [],[],_=>rfl
 | a::x,b::y,h=>by
  simp only[z25] at h
  cases hb:Nat.beq a b with
  | false=>rw[hb] at h; cases h
  | true=>rw[hb] at h; rw[Nat.eq_of_beq_eq_true hb,z1z h]
 | [],_::_,h=>by cases h
 | _::_,[],h=>by cases h
mutual
def avEq:AV→AV→Bool
 | .undef,.undef=>true
 | .bool a,.bool b=>bEq a b
 | .int k a,.int j b=>kEq k j && iEq a b
 | .str a,.str b=>z25 a b
 | .nilp,.nilp=>true
 | .ptr l o,.ptr l' o'=>loEq l l' && Nat.beq o o'
 | .vp cs o,.vp cs' o'=>z6w cs cs' && Nat.beq o o'
 | .ep l a b c,.ep l' a' b' c'=>loEq l l' && (Nat.beq a a' && (Nat.beq b b' && Nat.beq c c'))
 | .sl k z xs,.sl k' z' xs'=>Nat.beq k k' && (Nat.beq z z' && z6w xs xs')
 | .hs l a b c d x,.hs l' a' b' c' d' x'=>loEq l l' && (Nat.beq a a' && (Nat.beq b b' && (Nat.beq c c' && (Nat.beq d d' && bEq x x'))))
 | .as l a b,.as l' a' b'=>loEq l l' && (Nat.beq a a' && Nat.beq b b')
 | .nilm,.nilm=>true
 | .map l,.map l'=>loEq l l'
 | .fn f a b,.fn f' a' b'=>Nat.beq f f' && (z6w a a' && z6w b b')
 | .nilf,.nilf=>true
 | .ifc t v,.ifc t' v'=>Nat.beq t t' && avEq v v'
 | .nili,.nili=>true
 | .agg a,.agg b=>z6w a b
 | .tup a,.tup b=>z6w a b
 | .stamp l k,.stamp l' k'=>loEq l l' && avEq k k'
 | .dp k xs,.dp k' xs'=>Nat.beq k k' && z6w xs xs'
 | _,_=>false
def z6w:List AV→List AV→Bool
 | [],[]=>true
 | a::x,b::y=>avEq a b && z6w x y
 | _,_=>false
end
set_option maxHeartbeats 1000000
mutual
theorem z1:∀ (a b:AV),avEq a b=true→a=b:=by
 intro a b h
 cases a<;>cases b<;>first | rfl | (simp[avEq] at h; done) | skip
 case bool.bool=>rw[z9s h]
 case int.int=>simp only[avEq,Bool.and_eq_true] at h; rw[zdp h.1,z9r h.2]
 case str.str=>simp only[avEq] at h; rw[z1z h]
 case ptr.ptr=>simp only[avEq,Bool.and_eq_true,Nat.beq_eq] at h; rw[z2t h.1,h.2]
 case vp.vp=>simp only[avEq,Bool.and_eq_true,Nat.beq_eq] at h; rw[z11 _ _ h.1,h.2]
 case ep.ep=>simp only[avEq,Bool.and_eq_true,Nat.beq_eq] at h; rw[z2t h.1,h.2.1,h.2.2.1,h.2.2.2]
 case sl.sl=>simp only[avEq,Bool.and_eq_true,Nat.beq_eq] at h; rw[h.1,h.2.1,z11 _ _ h.2.2]
 case hs.hs=>simp only[avEq,Bool.and_eq_true,Nat.beq_eq] at h; rw[z2t h.1,h.2.1,h.2.2.1,h.2.2.2.1,h.2.2.2.2.1,z9s h.2.2.2.2.2]
 case as.as=>simp only[avEq,Bool.and_eq_true,Nat.beq_eq] at h; rw[z2t h.1,h.2.1,h.2.2]
 case map.map=>simp only[avEq] at h; rw[z2t h]
 case fn.fn=>simp only[avEq,Bool.and_eq_true,Nat.beq_eq] at h; rw[h.1,z11 _ _ h.2.1,z11 _ _ h.2.2]
 case ifc.ifc=>simp only[avEq,Bool.and_eq_true,Nat.beq_eq] at h; rw[h.1,z1 _ _ h.2]
 case agg.agg=>simp only[avEq] at h; rw[z11 _ _ h]
 case tup.tup=>simp only[avEq] at h; rw[z11 _ _ h]
 case stamp.stamp=>simp only[avEq,Bool.and_eq_true] at h; rw[z2t h.1,z1 _ _ h.2]
 case dp.dp=>simp only[avEq,Bool.and_eq_true,Nat.beq_eq] at h; rw[h.1,z11 _ _ h.2]
theorem z11:∀ (a b:List AV),z6w a b=true→a=b:=by
 intro a b h
 cases a<;>cases b
 ·rfl
 ·cases h
 ·cases h
 ·simp only[z6w,Bool.and_eq_true] at h; rw[z1 _ _ h.1,z11 _ _ h.2]
end
def esEq:List (AV × AV)→List (AV × AV)→Bool
 | [],[]=>true
 | (a,b)::x,(a',b')::y=>(avEq a a' && avEq b b') && esEq x y
 | _,_=>false
theorem zb4:∀ {a b:List (AV × AV)},esEq a b=true→a=b
 | [],[],_=>rfl
 | (a,b)::x,(a',b')::y,h=>by
  simp only[esEq,Bool.and_eq_true] at h
  rw[z1 _ _ h.1.1,z1 _ _ h.1.2,zb4 h.2]
 | [],_::_,h=>by cases h
 | _::_,[],h=>by cases h
def obEq:Ob→Ob→Bool
 | .none,.none=>true
 | .cells t a,.cells t' a'=>Nat.beq t t' && z6w a a'
 | .vec z a,.vec z' a'=>Nat.beq z z' && z6w a a'
 | .map a,.map a'=>esEq a a'
 | _,_=>false
theorem z3f {a b:Ob} (h:obEq a b=true):a=b:=by
 cases a<;>cases b<;>first | rfl | (simp[obEq] at h; done) | skip
 ·simp only[obEq,Bool.and_eq_true,Nat.beq_eq] at h; rw[h.1,z11 _ _ h.2]
 ·simp only[obEq,Bool.and_eq_true,Nat.beq_eq] at h; rw[h.1,z11 _ _ h.2]
 ·simp only[obEq] at h; rw[zb4 h]
def osEq:List (Nat × Ob × Ob)→List (Nat × Ob × Ob)→Bool
 | [],[]=>true
 | (i,a,b)::x,(i',a',b')::y=>Nat.beq i i' && (obEq a a' && (obEq b b' && osEq x y))
 | _,_=>false
theorem zb5:∀ {a b:List (Nat × Ob × Ob)},osEq a b=true→a=b
 | [],[],_=>rfl
 | (i,a,b)::x,(i',a',b')::y,h=>by
  simp only[osEq,Bool.and_eq_true,Nat.beq_eq] at h
  rw[h.1,z3f h.2.1,z3f h.2.2.1,zb5 h.2.2.2]
 | [],_::_,h=>by cases h
 | _::_,[],h=>by cases h
def fsEq:List FS→List FS→Bool
 | [],[]=>true
 | ⟨a,b,c⟩::x,⟨a',b',c'⟩::y=>Nat.beq a a' && (osEq b b' && (z25 c c' && fsEq x y))
 | _,_=>false
theorem z7j:∀ {a b:List FS},fsEq a b=true→a=b
 | [],[],_=>rfl
 | ⟨a,b,c⟩::x,⟨a',b',c'⟩::y,h=>by
  simp only[fsEq,Bool.and_eq_true,Nat.beq_eq] at h
  rw[h.1,zb5 h.2.1,z1z h.2.2.1,z7j h.2.2.2]
 | [],_::_,h=>by cases h
 | _::_,[],h=>by cases h
def zmy:List Ob→List Ob→Bool
 | [],[]=>true
 | a::x,b::y=>obEq a b && zmy x y
 | _,_=>false
theorem z9t:∀ {a b:List Ob},zmy a b=true→a=b
 | [],[],_=>rfl
 | a::x,b::y,h=>by
  simp only[zmy,Bool.and_eq_true] at h
  rw[z3f h.1,z9t h.2]
 | [],_::_,h=>by cases h
 | _::_,[],h=>by cases h
def eEq:E→E→Bool
 | ⟨a,b,c⟩,⟨a',b',c'⟩=>fsEq a a' && (zmy b b' && z25 c c')
theorem zdq:∀ {a b:E},eEq a b=true→a=b
 | ⟨a,b,c⟩,⟨a',b',c'⟩,h=>by
  simp only[eEq,Bool.and_eq_true] at h
  rw[z7j h.1,z9t h.2.1,z1z h.2.2]
def zjh:List Lo→List Lo→Bool
 | [],[]=>true
 | a::x,b::y=>loEq a b && zjh x y
 | _,_=>false
theorem z9u:∀ {a b:List Lo},zjh a b=true→a=b
 | [],[],_=>rfl
 | a::x,b::y,h=>by
  simp only[zjh,Bool.and_eq_true] at h
  rw[z2t h.1,z9u h.2]
 | [],_::_,h=>by cases h
 | _::_,[],h=>by cases h
structure Rec where
 f:FuncId
 fid:Nat
 args:List AV
 W:List Lo
 e:E
 v:AV
 e':E
def zji (r:Rec):CR→Bool
 | .ret v e=>avEq v r.v && eEq e r.e'
 | _=>false
theorem zdr {r:Rec} {c:CR} (h:zji r c=true):c=.ret r.v r.e':=by
 cases c<;>first | (cases h; done) | skip
 simp only[zji,Bool.and_eq_true] at h
 rw[z1 _ _ h.1,zdq h.2]
def Rec.ans (r:Rec):z07:=fun args W fid e =>
 cond (Nat.beq fid r.fid && (z6w args r.args && (zjh W r.W && eEq e r.e))) (some (r.v,r.e')) none
def zjj:List Rec→z07
 | []=>fun _ _ _ _=>none
 | r::rest=>fun args W fid e=>cond (Nat.beq fid r.fid) (r.ans args W fid e) (zjj rest args W fid e)
def z8g (I:FuncId→Option z07) (rs:List (Nat × List Rec)) (f:FuncId):Option z07 :=
 match rs with
 | []=>I f
 | (g,l)::rest=>cond (Nat.beq f g) (some (zjj l)) (z8g I rest f)
theorem z7k {args:List AV} {W:List Lo} {fid:Nat} {e:E} {v:AV} {e':E}:∀ {l:List Rec},zjj l args W fid e=some (v,e') →
  ∃ r∈l,fid=r.fid∧args=r.args∧W=r.W∧e=r.e∧v=r.v∧e'=r.e'
 | [],h=>by cases h
 | r::rest,h=>by
  simp only[zjj] at h
  cases hb:Nat.beq fid r.fid with
  | false=>rw[hb] at h; obtain⟨r',h1,h2⟩:=z7k h; exact⟨r',List.mem_cons_of_mem _ h1,h2⟩
  | true =>
   rw[hb] at h
   simp only[cond_true,Rec.ans] at h
   cases hc:(Nat.beq fid r.fid && (z6w args r.args && (zjh W r.W && eEq e r.e))) with
   | false=>rw[hc] at h; cases h
   | true =>
    rw[hc] at h
    simp only[Bool.and_eq_true,Nat.beq_eq] at hc
    cases h
    exact⟨r,List.mem_cons_self ..,hc.1,z11 _ _ hc.2.1,z9u hc.2.2.1,zdq hc.2.2.2,rfl,rfl⟩
variable [Glob]
def z6h (P:Program) (T:FuncId→Option FI) (r:Rec):Prop :=
 ∃ I n,z0v P I∧z0d I∧z09 T I n r.f r.args r.W r.fid r.e=.ret r.v r.e'
theorem z6h.of {P:Program} {T:FuncId→Option FI} {r:Rec} {I:FuncId→Option z07} (n:Nat) (hI:z0v P I∧z0d I)
  (h:zji r (z09 T I n r.f r.args r.W r.fid r.e)=true):z6h P T r:=⟨I,n,hI.1,hI.2,zdr h⟩
def zg5 (P:Program) (T:FuncId→Option FI) (rs:List (Nat × List Rec)):Prop:=∀ g l,(g,l)∈rs→∀ r∈l,r.f=g∧z6h P T r
def zmz (P:Program) (T:FuncId→Option FI) (g:FuncId) (l:List Rec):Prop:=∀ r∈l,r.f=g∧z6h P T r
theorem z5g {P:Program} {T:FuncId→Option FI} {g:FuncId}:zmz P T g []:=fun r h=>by cases h
theorem z3n {P:Program} {T:FuncId→Option FI} {g:FuncId} {r:Rec} {l:List Rec} (hf:r.f=g) (h:z6h P T r) (ht:zmz P T g l):zmz P T g (r::l):=fun r' hr=>by
 rcases List.mem_cons.1 hr with rfl | h'
 ·exact⟨hf,h⟩
 ·exact ht r' h'
theorem z6i {P:Program} {T:FuncId→Option FI}:zg5 P T []:=fun g l h=>by cases h
theorem z2b {P:Program} {T:FuncId→Option FI} {g:FuncId} {l:List Rec} {rest:List (Nat × List Rec)} (h:zmz P T g l) (ht:zg5 P T rest):zg5 P T ((g,l)::rest):=fun g' l' hm=>by
 rcases List.mem_cons.1 hm with h' | h'
 ·cases h'; exact h
 ·exact ht g' l' h'
theorem z7l {I:FuncId→Option z07} {f:FuncId} {g:z07}:∀ {rs:List (Nat × List Rec)},z8g I rs f=some g→I f=some g∨∃ l,(f,l)∈rs∧g=zjj l
 | [],h=>.inl h
 | (k,l)::rest,h=>by
  simp only[z8g] at h
  cases hb:Nat.beq f k with
  | true =>
   rw[hb] at h; cases h
   rw[Nat.eq_of_beq_eq_true hb]
   exact .inr ⟨l,List.mem_cons_self ..,rfl⟩
  | false =>
   rw[hb] at h
   rcases z7l h with h | ⟨l',h1,h2⟩
   ·exact .inl h
   ·exact .inr ⟨l',List.mem_cons_of_mem _ h1,h2⟩
theorem z4u {P:Program} [GOK P] {T:FuncId→Option FI} {I:FuncId→Option z07} {rs:List (Nat × List Rec)} (hT:zam P T) (hm:P.follows .mixedOrders=true)
  (hI:z0v P I∧z0d I) (hr:zg5 P T rs):z0v P (z8g I rs)∧z0d (z8g I rs):=by
 constructor
 ·intro κ e B fid w₀ w f g args vals W v e' hf hg hst hent hl hv
  rcases z7l hf with h | ⟨l,hm',rfl⟩
  ·exact hI.1 κ e B fid w₀ w f g args vals W v e' h hg hst hent hl hv
  ·obtain⟨r,hrl,rfl,rfl,rfl,rfl,rfl,rfl⟩:=z7k hg
   obtain⟨rfl,J,n,hJ,hJp,hc⟩:=hr f l hm' r hrl
   have:=z63 hT hJ hJp hm n κ r.e B r.fid w₀ w r.f r.args vals r.W (by rw[hc]; intro h; cases h) hst hent hl hv
   rw[hc] at this
   refine this.mono (fun val w' h=>?_) fun _ _ h=>?_
   ·obtain⟨κ',v,e',h0,h1,h2,h3,h4⟩:=h
    cases h0
    exact⟨κ',h1,h2,h3,h4⟩
   ·obtain⟨κ',v,e',_,h0,_⟩:=h
    cases h0
 ·intro f g args W fid e v e' hf hg hs
  rcases z7l hf with h | ⟨l,hm',rfl⟩
  ·exact hI.2 f g args W fid e v e' h hg hs
  ·obtain⟨r,hrl,rfl,rfl,rfl,rfl,rfl,rfl⟩:=z7k hg
   obtain⟨rfl,J,n,hJ,hJp,hc⟩:=hr f l hm' r hrl
   exact z4b hJp n r.f r.args r.W r.fid r.e r.v r.e' (.inl hc) hs
end
end Go.Abs
namespace Go.Abs
open Go Go.RowKit
theorem cmp3:∀ a b:List UInt8,cond (z25 (a.map UInt8.toNat) (b.map UInt8.toNat)) (Int.ofNat 0) (cond (z1r (a.map UInt8.toNat) (b.map UInt8.toNat)) (Int.negSucc 0) (Int.ofNat 1))=Lib.compareBytes a b
 | [],[]=>rfl
 | [],_::_=>rfl
 | _::_,[]=>rfl
 | x::a,y::b=>by
  have ih:=cmp3 a b
  simp only[List.map_cons,z25,z1r,Lib.compareBytes]
  rcases Nat.lt_trichotomy x.toNat y.toNat with h | h | h
  ·have h1:Nat.beq x.toNat y.toNat=false:=by
    cases hb:Nat.beq x.toNat y.toNat with
    | false=>rfl
    | true=>have:=Nat.eq_of_beq_eq_true hb; omega
   have h2:Nat.blt x.toNat y.toNat=true:=by simpa [Nat.blt_eq] using h
   have h3:x < y:=by simpa [UInt8.lt_iff_toNat_lt] using h
   rw[h1,h2]; simp[h3]
  ·have h1:Nat.beq x.toNat y.toNat=true:=by simpa using h
   have h2:Nat.blt x.toNat y.toNat=false:=by
    cases hb:Nat.blt x.toNat y.toNat with
    | false=>rfl
    | true=>rw[Nat.blt_eq] at hb; omega
   have h3:¬ x < y:=by simp[UInt8.lt_iff_toNat_lt]; omega
   have h4:¬ y < x:=by simp[UInt8.lt_iff_toNat_lt]; omega
   rw[h1,h2]; simp only[cond_true,cond_false,h3,h4,if_false]; exact ih
  ·have h1:Nat.beq x.toNat y.toNat=false:=by
    cases hb:Nat.beq x.toNat y.toNat with
    | false=>rfl
    | true=>have:=Nat.eq_of_beq_eq_true hb; omega
   have h2:Nat.blt x.toNat y.toNat=false:=by
    cases hb:Nat.blt x.toNat y.toNat with
    | false=>rfl
    | true=>rw[Nat.blt_eq] at hb; omega
   have h3:¬ x < y:=by simp[UInt8.lt_iff_toNat_lt]; omega
   have h4:y < x:=by simpa [UInt8.lt_iff_toNat_lt] using h
   rw[h1,h2]; simp[h3,h4]
section
variable [Glob]
def OkF (P:Program) (f:FuncId) (fi:FI):Prop:=(∃ D,zii P D f=some fi)∧∀ vals w,(callFunc f vals).run P w=.ok (.enter f vals) w
theorem OkF.mk' {P:Program} {D:Dec} {f:FuncId} {fi:FI} {fn:Func} {c:Code} (h:zii P D f=some fi) (hf:P.funcs[f]?=some fn) (hname:(fn.name == "runtime.NumGoroutine")=false) (hb:fn.body=some c):OkF P f fi :=
 ⟨⟨D,h⟩,enters hf hname hb⟩
theorem z02 {b:Bool} {x y:Option FI} {fi:FI} {C:Prop} (hx:x=some fi→C) (hy:y=some fi→C) (h:cond b x y=some fi):C:=by
 cases b
 ·exact hy h
 ·exact hx h
theorem z01 {P:Program} {f k:Nat} {fk fi:FI} (hk:OkF P k fk) (h:cond (Nat.beq f k) (some fk) none=some fi):OkF P f fi:=by
 cases hb:Nat.beq f k with
 | false=>rw[hb] at h; cases h
 | true=>rw[hb] at h; cases h; rw[Nat.eq_of_beq_eq_true hb]; exact hk
def iNo:z07:=fun args _ _ e=>match args with | [v]=>some (v,e) | _=>none
noncomputable def iCm:z07:=fun args _ _ e=>match args with
 | [.str a,.str b]=>some (.int .i64 (cond (z25 a b) (.ofNat 0) (cond (z1r a b) (.negSucc 0) (.ofNat 1))),e)
 | _=>none
def IOK (P:Program) (f:FuncId) (g:z07):Prop :=
 (∀ (κ:K) (e:E) (B fid:Nat) (w₀ w:World) (args:List AV) (vals:Array Value) (W:List Lo) (v:AV) (e':E),g args W fid e=some (v,e')→St κ e B w₀ w→Ent κ e fid →
  vals.size=args.length→(∀ (i:Nat) (c:AV) (u:Value),args[i]?=some c→vals[i]?=some u→VR κ c u) →
  Nx P (callFunc f vals) w (fun val w'=>∃ κ',VR κ' v val∧κ.le κ'∧Gr W e κ κ' fid e'.glo.length∧St κ' e' B w₀ w') fun _ _=>False) ∧
 ∀ args W fid e v e',g args W fid e=some (v,e')→(∀ x,Sub fid x→x∉fids e) →
  shp e'=shp e∧e.glo.length≤e'.glo.length∧∀ l∈W,e.get l≠.none→e'.get l=e.get l
theorem iNo_ok {P:Program} {f:FuncId} {fn:Func} (hf:P.funcs[f]?=some fn) (hname:(fn.name == "runtime.NumGoroutine")=false)
  (hb:fn.body.isNone=true) (hn:Extern.findNext fn=none) (he:Extern.find fn=some Extern.AbiNoEscape.same):IOK P f iNo:=by
 constructor
 ·intro κ e B fid w₀ w args vals W v e' hg hst hent hl hv
  unfold iNo at hg
  split at hg
  ·next v0 =>
   cases hg
   obtain⟨x,rfl⟩:∃ x,vals=#[x]:=by
    rcases vals with⟨l⟩
    match l,hl with
    | [x],_=>exact⟨x,rfl⟩
   unfold Nx
   rw[run_callFunc_extern hf hname hb hn he,Lib.run_noEscape]
   exact⟨κ,hv 0 _ _ rfl rfl,K.le.refl κ,Gr.refl ..,hst⟩
  ·cases hg
 ·intro args W fid e v e' hg _
  unfold iNo at hg
  split at hg
  ·cases hg; exact⟨rfl,Nat.le_refl _,fun _ _ _=>rfl⟩
  ·cases hg
theorem iCm_ok {P:Program} {f:FuncId} {fn:Func} (hf:P.funcs[f]?=some fn) (hname:(fn.name == "runtime.NumGoroutine")=false)
  (hb:fn.body.isNone=true) (hn:Extern.findNext fn=none) (he:Extern.find fn=some Extern.BytealgCompare.compare):IOK P f iCm:=by
 constructor
 ·intro κ e B fid w₀ w args vals W v e' hg hst hent hl hv
  unfold iCm at hg
  split at hg
  ·next a0 b0 =>
   cases hg
   obtain⟨x,y,rfl⟩:∃ x y,vals=#[x,y]:=by
    rcases vals with⟨l⟩
    match l,hl with
    | [x,y],_=>exact⟨x,y,rfl⟩
   have h0:=hv 0 _ _ rfl rfl
   have h1:=hv 1 _ _ rfl rfl
   cases h0 with | str a =>
   cases h1 with | str b =>
   unfold Nx
   rw[run_callFunc_extern hf hname hb hn he,Lib.run_compareString,← cmp3]
   exact⟨κ,.int _ _,K.le.refl κ,Gr.refl ..,hst⟩
  ·cases hg
 ·intro args W fid e v e' hg _
  unfold iCm at hg
  split at hg
  ·cases hg; exact⟨rfl,Nat.le_refl _,fun _ _ _=>rfl⟩
  ·cases hg
theorem zn0 {P:Program} {a b:Nat} {f g:z07} (ha:IOK P a f) (hb:IOK P b g):z0v P (fun x=>cond (Nat.beq x a) (some f) (cond (Nat.beq x b) (some g) none))∧z0d (fun x=>cond (Nat.beq x a) (some f) (cond (Nat.beq x b) (some g) none)):=by
 have key:∀ x h,cond (Nat.beq x a) (some f) (cond (Nat.beq x b) (some g) none)=some h→(x=a∧h=f)∨(x=b∧h=g):=by
  intro x h hx
  cases h1:Nat.beq x a with
  | true=>rw[h1] at hx; cases hx; exact .inl ⟨Nat.eq_of_beq_eq_true h1,rfl⟩
  | false =>
   rw[h1] at hx
   cases h2:Nat.beq x b with
   | true=>rw[h2] at hx; cases hx; exact .inr ⟨Nat.eq_of_beq_eq_true h2,rfl⟩
   | false=>rw[h2] at hx; cases hx
 constructor
 ·intro κ e B fid w₀ w x h args vals W v e' hx hg hst hent hl hv
  rcases key x h hx with⟨rfl,rfl⟩ | ⟨rfl,rfl⟩
  ·exact ha.1 κ e B fid w₀ w args vals W v e' hg hst hent hl hv
  ·exact hb.1 κ e B fid w₀ w args vals W v e' hg hst hent hl hv
 ·intro x h args W fid e v e' hx hg hs
  rcases key x h hx with⟨rfl,rfl⟩ | ⟨rfl,rfl⟩
  ·exact ha.2 args W fid e v e' hg hs
  ·exact hb.2 args W fid e v e' hg hs
end
end Go.Abs
namespace Go.Abs
open Go Go.RowKit
section
variable {H:Type} {enc:TypeId × Value→H} {P:Program} {w:World} {base:Nat} {spare:Nat→Bool} {held:Bool} {fuel:Nat} {t:TypeId} {cs:List Value} {p:List MemPlace}
theorem z87 {n:Nat} {e:TypeId} {k:IntKind} (l:List Nat) (ht:P.underlying t=some (.array n e)) (he:P.underlying e=some (.int k)) (hc:P.cellsOf e=1) (hct:P.cellsOf t=n) (hn:l.length=n)
  (h:DataW.trod enc P w base spare held fuel t cs=some (.agg (l.map fun m=>.lit (.int k (.ofNat m))),p)):cs=l.map fun m=>.int k (.ofNat m):=by
 obtain⟨xs,m,_,hx,hl,hlen,hel⟩:=DataW.trod_array ht h
 simp only[Prod.mk.injEq,DataW.agg.injEq] at hx
 have hcs:cs.length=l.length:=by rw[hl,hct,hn]
 apply List.ext_getElem?
 intro i
 by_cases hi:i < n
 ·have h1:=hel i hi
  rw[hc,Nat.mul_one] at h1
  have hxi:xs[i]?=some (xs[i]'(by omega)):=List.getElem?_eq_getElem (by omega)
  rw[hxi] at h1
  obtain⟨q,e1,e2,_⟩:=DataW.trod_int he h1
  have e3:(xs.map (·.1))[i]?=some (.lit (.int k q)):=by rw[List.getElem?_map,hxi,e2]; rfl
  rw[← hx.1,List.getElem?_map] at e3
  have hli:l[i]?=some (l[i]'(by omega)):=List.getElem?_eq_getElem (by omega)
  rw[hli] at e3
  simp only[Option.map_some,Option.some.injEq,DataW.lit.injEq,Lit.int.injEq,true_and] at e3
  rw[List.getElem?_map,hli,Option.map_some,e3]
  have e4:(cs.drop i).take 1=[cs[i]'(by omega)]:=by
   rw[List.drop_eq_getElem_cons (by omega),List.take_succ_cons,List.take_zero]
  rw[e4] at e1
  simp only[List.cons.injEq,and_true] at e1
  rw[List.getElem?_eq_getElem (by omega),e1]
 ·rw[List.getElem?_eq_none (by omega),List.getElem?_eq_none (by simp; omega)]
end
section
variable [Glob]
def K0 (gs:Nat→Option (List Value)):K where
 role:=fun b=>if (gs b).isSome then .val else .no
 ob:=fun _=>none
 vb:=fun _ _=>none
 fz:=fun b i=>(gs b).bind fun l=>l[i]?
 tk:=fun _=>none
 bs:=fun _ _=>none
 old:=fun _ _ _=>True
theorem St0 {gs:Nat→Option (List Value)} {w:World} (h:∀ g us,gs g=some us→∃ arr t f,w.heap[g]?=some (.cells arr t f)∧arr.toList=us)
  (hg:∀ g cs,Glob.gv g=some cs→VR (K0 gs) (.vp cs 0) (.pointer (some ⟨g,0,none⟩))∧∃ us,gs g=some us∧us.length=cs.length):St (K0 gs) ⟨[],[],[]⟩ w.heap.size w w where
 below:=Below.refl _ _
 size:=Nat.le_refl _
 rl:=fun b hr=>by
  simp only[K0] at hr ⊢
  cases hb:gs b with
  | none=>rw[hb] at hr; simp at hr
  | some us =>
   obtain⟨arr,t,f,h1,_⟩:=h b us hb
   refine⟨fun hx=>by simp at hx,?_⟩
   exact(Array.getElem?_eq_some_iff.1 h1).1
 ro:=fun l b hl=>by cases hl
 oo:=fun l b hl=>by simp only[K0] at hl; split at hl<;>cases hl
 rv:=fun l z es b z' c hg _=>by simp[E.get,z0z] at hg; cases l<;>simp[z0z] at hg
 rf:=fun b i u hu=>by
  simp only[K0] at hu ⊢
  cases hb:gs b with
  | none=>rw[hb] at hu; cases hu
  | some us=>simp
 rt:=fun k b i c _ ht=>by cases ht
 tb:=fun k b i c ht=>by cases ht
 fo:=fun _ _ _ _ _=>trivial
 td:=fun k k' b i c i' c' _ _ ht=>by cases ht
 vn:=fun l z es n _ _=>rfl
 blk:=fun b=>by
  cases hb:gs b with
  | none=>simp[K0,hb,BlkR]
  | some us =>
   obtain⟨arr,t,f,h1,h2⟩:=h b us hb
   have hr:(K0 gs).role b=.val:=by simp[K0,hb]
   rw[hr]
   refine⟨arr,t,f,h1,fun i u hu=>?_,fun k i c _ ht=>by cases ht⟩
   simp only[K0,hb,Option.bind_some] at hu
   rw[← h2] at hu
   simpa using hu
 glob:=fun g cs h=>(hg g cs h).1
 gs:=fun g cs hc=>by
  obtain⟨_,us,h1,h2⟩:=hg g cs hc
  obtain⟨arr,t,f,h3,h4⟩:=h g us h1
  exact⟨(Array.getElem?_eq_some_iff.1 h3).1,arr,t,f,h3,by rw[← h2,← h4]; rfl⟩
 tu:=fun k b i c _ ht=>by cases ht
theorem vp0 {gs:Nat→Option (List Value)} {g:Nat} {cs:List AV} {us:List Value} (hg:gs g=some us) (h:∀ (j:Nat) (c:AV),cs[j]?=some c→∃ u,us[j]?=some u∧VR (K0 gs) c u∧u.oneCell'=true) :
  VR (K0 gs) (.vp cs 0) (.pointer (some ⟨g,0,none⟩)):=by
 have:=VR.vp (κ:=K0 gs) (cs:=cs) (off:=0) (b:=g) (o:=0) (fun j=>if j < cs.length then (us[j]?).getD .nilFunc else .nilFunc) (fun j c hc=>by
   obtain⟨u,h1,_⟩:=h j c hc
   have hj:=(List.getElem?_eq_some_iff.1 hc).1
   simp[K0,hg,h1,hj]) (fun j c hc=>by
   obtain⟨u,h1,h2,_⟩:=h j c hc
   have hj:=(List.getElem?_eq_some_iff.1 hc).1
   simpa [h1,hj] using h2) (fun j=>by
   by_cases hj:j < cs.length
   ·obtain⟨u,h1,_,h3⟩:=h j _ (List.getElem?_eq_getElem hj)
    simpa [h1,hj] using h3
   ·simp[hj]; rfl)
 simpa using this
theorem vpNat {gs:Nat→Option (List Value)} {g:Nat} {k:IntKind} {l:List Nat} (hg:gs g=some (l.map fun m=>.int k (.ofNat m))) :
  VR (K0 gs) (.vp (l.map fun m=>.int k (.ofNat m)) 0) (.pointer (some ⟨g,0,none⟩))∧∃ us,gs g=some us∧us.length=(l.map fun m=>AV.int k (.ofNat m)).length :=
 ⟨vp0 hg fun j c hc=>by
  simp only[List.getElem?_map,Option.map_eq_some_iff] at hc
  obtain⟨m,hm,rfl⟩:=hc
  exact⟨.int k (.ofNat m),by simp[hm],.int _ _,rfl⟩,_,hg,by simp⟩
theorem Ent0 (gs:Nat→Option (List Value)):Ent (K0 gs) ⟨[],[],[]⟩ 1 where
 free:=⟨fun _ _ _ _=>⟨rfl,fun _=>rfl,fun _=>rfl⟩,fun _ _ _ _=>rfl⟩
 out:=fun _ _ h=>by simp[fids,shp] at h
 glo:=fun _ _=>⟨rfl,fun _=>rfl,fun _=>rfl⟩
def z6j:CR→Bool
 | .ret (.bool true) _=>true
 | _=>false
end
end Go.Abs
