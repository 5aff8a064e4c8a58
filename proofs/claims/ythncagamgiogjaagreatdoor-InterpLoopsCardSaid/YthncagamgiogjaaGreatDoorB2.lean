/- On the way to: InterpLoops returns true; its listed variables read as the text lays them. -/
import Derived.Test.YthncagamgiogjaaGreatDoorB1
set_option autoImplicit false
set_option linter.unusedSectionVars false
set_option linter.unusedSimpArgs false
set_option linter.unusedVariables false
namespace Go.Abs
open Go Go.RowKit
variable [Glob]
theorem z6v {d:Option Nat} {l:List Nat}:hasD d l=true↔∃ t,d=some t∧t∈l:=by
 cases d with
 | none=>simp[hasD]
 | some t =>
  simp only[hasD,List.any_eq_true,Option.some.injEq]
  constructor
  ·rintro⟨x,hx,he⟩
   have:=z03.1 he
   subst this
   exact⟨_,rfl,hx⟩
  ·rintro⟨t',rfl,ht⟩
   exact⟨_,ht,z03.2 rfl⟩
theorem zg2 {d:Option Nat} {l:List Nat} (h:hasD d l=false) {t:Nat} (hd:d=some t):t∉l:=fun hm=>by
 have:=z6v.2 ⟨t,hd,hm⟩
 rw[this] at h; cases h
theorem z6f {b:List Nat} {k:Nat}:∀ {es:List Edge},(z81 b es).testBit k=true→∃ e∈es,Region.binds .any e=true∧(e.on=k∨(b.getD e.on 0).testBit k=true)
 | [],h=>by simp[z81] at h
 | e::es,h=>by
  simp only[z81] at h
  cases hb:Region.binds .any e with
  | false =>
   simp only[hb,cond_false] at h
   obtain⟨e',h1,h2⟩:=z6f h
   exact⟨e',List.mem_cons_of_mem _ h1,h2⟩
  | true =>
   simp only[hb,cond_true,Nat.testBit_or,Bool.or_eq_true,Nat.testBit_two_pow,decide_eq_true_eq] at h
   rcases h with(h | h) | h
   ·exact⟨e,List.mem_cons_self ..,hb,.inl h⟩
   ·exact⟨e,List.mem_cons_self ..,hb,.inr h⟩
   ·obtain⟨e',h1,h2⟩:=z6f h
    exact⟨e',List.mem_cons_of_mem _ h1,h2⟩
theorem z9n {b:List Nat}:∀ {os:List Oper} {i:Nat},zfm b os i=true→∀ j o,os[j]?=some o→b.getD (i+j) 0=z81 b o.after.toList∧∀ e∈o.after.toList,Region.binds .any e=true→e.on < i+j
 | [],_,_,j,o,h=>by simp at h
 | o'::os,i,h,j,o,hj=>by
  simp only[zfm,Bool.and_eq_true,List.all_eq_true] at h
  obtain⟨⟨h1,h2⟩,h3⟩:=h
  cases j with
  | zero =>
   simp at hj
   subst hj
   refine⟨z03.1 h1,fun e he hb=>?_⟩
   have:=h2 e he
   rw[hb] at this
   simpa [Nat.blt_eq] using this
  | succ j =>
   have:=z9n h3 j o (by simpa using hj)
   have e1:i+1+j=i+(j+1):=by omega
   rw[e1] at this
   exact this
section
variable [Dfs]
structure RegOK (P:Program) (nt:Nat) (ops:Array Oper) (b:List Nat) (L:List RI):Prop where
 all:∀ i,i < ops.size→∃ x∈L,x.idx=i
 edge:∀ i o,ops[i]?=some o→b.getD i 0=z81 b o.after.toList∧∀ e∈o.after.toList,Region.binds .any e=true→e.on < i
 guard:∀ o∈ops.toList,z27 ops o=true
 one:∀ x∈L,oneB nt x=true
 pair:L.Pairwise fun x y=>zag x y=true
 swap:z8f ops L=true
 kv:∀ o∈ops.toList,∀ d,o.dst=some d→Dfs.kv d=none
 item:∀ x∈L,∃ o dec a0 p ws,ops[x.idx]?=some o∧p=(z05 P dec a0 o.op).getD bad∧x.op=z16 p ws∧x.rd=reads ops o∧x.dst=o.dst∧x.bef=b.getD x.idx 0∧(p.isE=true→x.sync=true)
def ao (ops:Array Oper) (x:RI):AO:=mkAO ops x.idx x.op
section
variable {P:Program} [hG:GOK P] {nt:Nat} {ops:Array Oper} {b:List Nat} {L:List RI}
theorem zeu (hR:RegOK P nt ops b L) {listed:Array Bool} (hdc:∀ i o,ops[i]?=some o→listed.getD i false=true→∀ e∈o.after.toList,Region.binds .any e=true→listed.getD e.on false=true) :
  ∀ (i:Nat) (o:Oper),ops[i]?=some o→(∀ e∈o.after.toList,Region.binds .any e=true→listed.getD e.on false=true)→∀ k,(b.getD i 0).testBit k=true→listed.getD k false=true:=by
 intro i
 induction i using Nat.strongRecOn with
 | _ i ih =>
  intro o ho he k hk
  obtain⟨h1,h2⟩:=hR.edge i o ho
  rw[h1] at hk
  obtain⟨e,he1,he2,he3⟩:=z6f hk
  have hl:=he e he1 he2
  rcases he3 with rfl | he3
  ·exact hl
  ·have hlt:=h2 e he1 he2
   have hsz:i < ops.size:=(Array.getElem?_eq_some_iff.1 ho).1
   have ho':ops[e.on]?=some (ops[e.on]'(by omega)):=by simp
   exact ih e.on hlt _ ho' (hdc e.on _ ho' hl) k he3
def GOn (ops:Array Oper) (o:Oper) (s:Tm):Prop:=match mkG ops o with | none=>True | some (t,want)=>s.get t=.bool want
def GOff (ops:Array Oper) (o:Oper) (s:Tm):Prop:=match mkG ops o with | none=>False | some (t,want)=>s.get t=.bool (!want)∨s.get t=.undef
def DelV (W:List Lo) (e₀:E) (fid:Nat) (x:RI) (s:Tm) (e:E) (κ:K):OP→Prop
 | .p po=>∃ v,po.ev s=some v∧∀ d,x.dst=some d→s.get (pth d)=v
 | .r ro=>∃ v,ro.ev s e=some v∧∀ d,x.dst=some d→s.get (pth d)=v
 | .e (.new _ _ m ob) _=>∃ l d,x.dst=some d∧s.get (pth d)=cond m (.map l) (.ptr l 0)∧e.get l=ob∧ob≠.none∧z0a κ l∧(l∈W→e₀.get l=.none)∧((∃ a i,l=.lo fid a i)∨∃ i,l=.gl i∧i < e.glo.length)
 | _=>False
def Del (ops:Array Oper) (W:List Lo) (e₀:E) (fid:Nat) (x:RI) (s:Tm) (e:E) (κ:K):Prop :=
 ∃ o,ops[x.idx]?=some o∧((GOff ops o s∧∀ d,x.dst=some d→s.get (pth d)=.undef)∨(GOn ops o s∧DelV W e₀ fid x s e κ x.op))
theorem z4t {x:RI} {t:Nat} (h:t∈x.rd):t∈x.ment:=List.mem_append_right _ h
theorem zdn {x:RI} {t:Nat} (h:x.dst=some t):t∈x.ment:=List.mem_append_left _ (by simp[h])
theorem zay {o:Oper} {t:Pth} {want:Bool} (hg:z27 ops o=true) (h:mkG ops o=some (t,want)):∃ n,t=pth n∧n∈reads ops o:=by
 unfold mkG at h
 unfold z27 at hg
 cases hgd:o.guard with
 | none=>rw[hgd] at h; cases h
 | some jw =>
  obtain⟨j,w⟩:=jw
  rw[hgd] at h hg
  simp only[Option.isSome_iff_exists] at hg
  obtain⟨n,hn⟩:=hg
  simp only[hn,Option.getD_some,Option.some.injEq,Prod.mk.injEq] at h
  refine⟨n,h.1.symm,?_⟩
  unfold reads
  rw[hgd]
  exact List.mem_append_right _ (by simp[hn])
theorem GOn.same {o:Oper} {s s':Tm} (hg:z27 ops o=true) (hs:∀ t∈reads ops o,s'.get (pth t)=s.get (pth t)) (h:GOn ops o s):GOn ops o s':=by
 unfold GOn at *
 cases hm:mkG ops o with
 | none=>trivial
 | some p =>
  obtain⟨t,want⟩:=p
  rw[hm] at h
  obtain⟨n,rfl,hn⟩:=zay hg hm
  simp only at h ⊢
  rw[hs n hn]; exact h
theorem GOff.same {o:Oper} {s s':Tm} (hg:z27 ops o=true) (hs:∀ t∈reads ops o,s'.get (pth t)=s.get (pth t)) (h:GOff ops o s):GOff ops o s':=by
 unfold GOff at *
 cases hm:mkG ops o with
 | none=>rw[hm] at h; exact h.elim
 | some p =>
  obtain⟨t,want⟩:=p
  rw[hm] at h
  obtain⟨n,rfl,hn⟩:=zay hg hm
  simp only at h ⊢
  rw[hs n hn]; exact h
theorem Del.keep {W:List Lo} {e₀:E} {fid:Nat} {z:RI} {s s':Tm} {e e':E} {κ κ':K} (hR:RegOK P nt ops b L) (hz:z∈L) (hns:z.sync=false) (h:Del ops W e₀ fid z s e κ) (hs:∀ t∈z.ment,s'.get (pth t)=s.get (pth t))
  (hr:∀ ro v,z.op=.r ro→ro.ev s e=some v→ro.ev s e'=some v)
  (hn:∀ a g m ob ws l d,z.op=.e (.new a g m ob) ws→z.dst=some d→s.get (pth d)=cond m (.map l) (.ptr l 0)→e.get l≠.none→z0a κ l→e'.get l=e.get l∧z0a κ' l) (hgl:e.glo.length≤e'.glo.length):Del ops W e₀ fid z s' e' κ':=by
 obtain⟨o,ho,h⟩:=h
 obtain⟨o',dec,a0,p,ws,i1,i2,i3,i4,i5,i6,i7⟩:=hR.item z hz
 rw[ho] at i1; cases i1
 have hgd:=hR.guard o (Array.mem_toList_iff.2 (Array.mem_of_getElem? ho))
 have hrd:∀ t∈reads ops o,s'.get (pth t)=s.get (pth t):=fun t ht=>hs t (z4t (by rw[i4]; exact ht))
 have hdst:∀ d,z.dst=some d→s'.get (pth d)=s.get (pth d):=fun d hd=>hs d (zdn hd)
 refine⟨o,ho,h.imp (fun h=>⟨h.1.same hgd hrd,fun d hd=>by rw[hdst d hd]; exact h.2 d hd⟩) fun h=>⟨h.1.same hgd hrd,?_⟩⟩
 have hone:=hR.one z hz
 simp only[oneB,hns,Bool.false_or,Bool.and_eq_true,List.all_eq_true] at hone
 have hsl:∀ q∈z.op.sl,s'.get q=s.get q:=by
  intro q hq
  have:=hone.1.2.2 q hq
  simp only[List.any_eq_true,List.mem_map] at this
  obtain⟨_,⟨t,ht,rfl⟩,he⟩:=this
  have:=of_decide_eq_true he
  subst this
  exact hs t (z4t ht)
 have hv:=h.2
 unfold DelV at hv ⊢
 split at hv
 ·rename_i po heq
  obtain⟨v,h1,h2⟩:=hv
  refine⟨v,?_,fun d hd=>by rw[hdst d hd]; exact h2 d hd⟩
  rw[← h1]
  exact PO.congr fun q hq=>hsl q (by rw[heq]; exact hq)
 ·rename_i ro heq
  obtain⟨v,h1,h2⟩:=hv
  refine⟨v,?_,fun d hd=>by rw[hdst d hd]; exact h2 d hd⟩
  rw[← hr ro v heq h1]
  exact RO.congr (fun q hq=>hsl q (by rw[heq]; exact hq)) fun _ _ _ _=>rfl
 ·rename_i a g m ob ws' heq
  obtain⟨l,d,h1,h2,h3,h4,h5,h6,h7⟩:=hv
  obtain⟨g1,g2⟩:=hn a g m ob ws' l d heq h1 h2 (by rw[h3]; exact h4) h5
  refine⟨l,d,h1,by rw[hdst d h1]; exact h2,by rw[g1]; exact h3,h4,g2,h6,h7.imp id fun⟨i,hi,hlt⟩=>⟨i,hi,by omega⟩⟩
 ·exact hv.elim
end
end
end Go.Abs
namespace Go.Abs
open Go Go.RowKit
variable [Glob]
variable [Dfs]
structure DInv (P:Program) (nt:Nat) (ops:Array Oper) (L:List RI) (W:List Lo) (e₀:E) (κ₀:K) (fid B:Nat) (w₀:World) (listed:Array Bool) (D rem:List RI) (fr:Fr) (e:E) (a:Act) (w:World) (κ:K):Prop where
 sz:listed.size=ops.size
 cov:∀ i,i < ops.size→(listed.getD i true=false↔∃ x∈D++rem,x.idx=i)
 dc:∀ i o,ops[i]?=some o→listed.getD i false=true→∀ ed∈o.after.toList,Region.binds .any ed=true→listed.getD ed.on false=true
 sub:∀ x∈D++rem,x∈L
 pw:(D++rem).Pairwise fun x y=>zag x y=true
 dns:∀ x∈D,x.sync=false
 sl:Sl (fun t=>∃ x∈D,x.dst=some t) κ fr.s a
 del:∀ x∈D,Del ops W e₀ fid x fr.s e κ
 le:κ₀.le κ
 gr:Gr W e₀ κ₀ κ fid e.glo.length
 keep:Keep W e₀ e
 st:St κ e B w₀ w
 inn:In κ e fid fr.cnt
 asz:nt≤a.tmps.size
 adf:DfOK a
section
variable {P:Program} [hG:GOK P] {nt:Nat} {ops:Array Oper} {b:List Nat} {L:List RI} {W:List Lo} {e₀:E} {κ₀:K} {fid B:Nat} {w₀:World}
theorem Gr.upn {e:E} {κ κ':K} {n m:Nat} (h:Gr W e κ κ' fid n) (hnm:n≤m):Gr W e κ κ' fid m :=
 ⟨fun l hl=>(h.nm l hl).imp id fun h=>⟨h.1,h.2.imp id fun⟨i,hi,hlt⟩=>⟨i,hi,by omega⟩⟩,h.tk⟩
theorem GOff.ev {o:Oper} {i:Nat} {p:OP} {s:Tm} {call:z06} {fr:Fr} {e:E} (hi:ops[i]?=some o) (h:GOff ops o fr.s):(mkAO ops i p).ev call fid W fr e=.go (Fr.put (o.dst.map pth) fr .undef) e:=by
 rw[z7g hi]
 unfold GOff at h
 cases hm:mkG ops o with
 | none=>rw[hm] at h; exact h.elim
 | some q =>
  obtain⟨t,want⟩:=q
  rw[hm] at h
  simp only[AO.ev,aoG]
  rcases h with h | h
  ·rw[h]; simp only[z1n]; cases want<;>rfl
  ·rw[h]; rfl
theorem GOn.ev {o:Oper} {i:Nat} {p:OP} {call:z06} {fr:Fr} {e:E} (hi:ops[i]?=some o) (h:GOn ops o fr.s):(mkAO ops i p).ev call fid W fr e=p.ev call fid W (o.dst.map pth) fr e:=by
 rw[z7g hi]
 unfold GOn at h
 cases hm:mkG ops o with
 | none=>simp only[AO.ev,aoG]
 | some q =>
  obtain⟨t,want⟩:=q
  rw[hm] at h
  simp only[AO.ev,aoG]
  rw[h]; simp only[z1n]; cases want<;>rfl
theorem zev {o:Oper} {i:Nat} {p:OP} {call:z06} {fr:Fr} {e:E} (hi:ops[i]?=some o) (h:(mkAO ops i p).ev call fid W fr e≠.bad):GOn ops o fr.s∨GOff ops o fr.s:=by
 rw[z7g hi] at h
 unfold GOn GOff
 cases hm:mkG ops o with
 | none=>exact .inl trivial
 | some q =>
  obtain⟨t,want⟩:=q
  rw[hm] at h
  simp only[AO.ev,aoG] at h
  cases hs:fr.s.get t with
  | bool c =>
   simp only
   cases c<;>cases want<;>simp[hs]
  | undef=>simp[hs]
  | _=>rw[hs] at h; exact absurd rfl h
theorem z4h {d:Option Nat} {s:Tm} {v:AV} {l:List Nat} (h:hasD d l=false):∀ t∈l,(putS (d.map pth) s v).get (pth t)=s.get (pth t):=by
 intro t ht
 cases d with
 | none=>rfl
 | some n =>
  simp only[putS,Option.map_some]
  refine Tm.get_set_ne _ _ _ _ fun he=>?_
  have:=zeg he
  subst this
  exact zg2 h rfl ht
theorem z0r {x y:RI} (h:zag x y=true):x.idx≠y.idx∧(hasD x.dst y.ment=true→y.bef.testBit x.idx=true)∧(hasD y.dst x.ment=true→y.bef.testBit x.idx=true∧y.sync=true) ∧
  (∀ o ws,y.op=.e o ws→(y.bef.testBit x.idx=true∧y.sync=true)∨z58 x.op y.op=true∨zcy (x.op.looks (x.dst.map pth)) ws=true)∧(x.sync=true→y.bef.testBit x.idx=true∨zig x y=true)∧¬ (x.op.isNew=true∧y.op.isNew=true):=by
 simp only[zag,Bool.and_eq_true,Bool.or_eq_true,Bool.not_eq_true',Bool.and_eq_false_iff] at h
 obtain⟨h0,h1,h2,h3,h4,h5⟩:=h
 refine⟨fun he=>(by rw[z03.2 he] at h0; cases h0),fun hd=>?_,fun hd=>?_,fun o ws ho=>?_,fun hs=>?_,fun hc=>?_⟩
 ·exact h1.resolve_left (by rw[hd]; simp)
 ·exact h2.resolve_left (by rw[hd]; simp)
 ·rw[ho] at h3
  simp only[Bool.or_eq_true,Bool.and_eq_true,OP.watch] at h3
  rw[ho]
  rcases h3 with(h3 | h3) | h3
  ·exact .inl h3
  ·exact .inr (.inl h3)
  ·exact .inr (.inr h3)
 ·exact h4.resolve_left (by rw[hs]; simp)
 ·rw[hc.1,hc.2] at h5; simp at h5
theorem wxEq_l {x:AX} {y:WX} (h:wxEq (.l x) y=true):∃ z,y=.l z∧(x=z∨noC x=true):=by
 cases y with
 | l z =>
  simp only[wxEq,Bool.or_eq_true] at h
  exact⟨z,rfl,h.imp zc9 id⟩
 | c z=>simp[wxEq] at h
theorem wxEq_c {x:AX} {y:WX} (h:wxEq (.c x) y=true):∃ z,y=.c z∧(x=z∨noC x=true):=by
 cases y with
 | c z =>
  simp only[wxEq,Bool.or_eq_true] at h
  exact⟨z,rfl,h.imp zc9 id⟩
 | l z=>simp[wxEq] at h
theorem zh7 {la ws:List WX} {s:Tm} {e e':E} (h:zcy la ws=true) (hk:Keep (z0o s W ws) e e') {x:AX} (hx:.l x∈la) {l:Lo} (hl:l∈z24 (x.ev s)) (hn:e.get l≠.none):e'.get l=e.get l∧l∈z0o s W ws:=by
 simp only[zcy,List.all_eq_true,List.any_eq_true] at h
 obtain⟨y,hy,he⟩:=h (.l x) hx
 obtain⟨z,hz,he2⟩:=wxEq_l he
 subst hz
 clear he
 rcases he2 with rfl | he
 ·have hm:=z82 (W:=W) hy hl
  exact⟨hk.w l hm hn,hm⟩
 ·exfalso
  cases x with
  | t p=>simp[noC] at he
  | c v=>cases v<;>simp[noC] at he<;>simp[AX.ev,z24] at hl
theorem zaz {x:RI} {ro:RO} {ws:List WX} {s:Tm} {e e':E} {v:AV} (hx:x.op=.r ro) (h:zcy (x.op.looks (x.dst.map pth)) ws=true) (hk:Keep (z0o s W ws) e e') (hc:z6c s e e' ws=true) (hv:ro.ev s e=some v):ro.ev s e'=some v:=by
 rw[hx] at h
 have main:∀ ro:RO,zcy (List.map WX.l ro.looks) ws=true→ro.ev s e=some v→ro.ev s e'=some v:=by
  intro ro h hv
  rw[← hv]
  refine RO.congr (fun _ _=>rfl) fun q hq l hl=>?_
  exact(zh7 (W:=W) (s:=s) h hk (x:=q) (List.mem_map.2 ⟨q,hq,rfl⟩) hl (RO.there hv q hq l hl)).1
 cases ro with
 | ldc a =>
  simp only[zcy,OP.looks,RO.watch,List.all_eq_true,List.any_eq_true] at h
  obtain⟨y,hy,he⟩:=h (.c a) (by simp)
  obtain⟨z,hz,he2⟩:=wxEq_c he
  subst hz
  clear he
  rcases he2 with rfl | he
  ·exact simO_eq (zil hc hy) hv
  ·cases a with
   | t p=>simp[noC] at he
   | c u=>cases u<;>simp[noC] at he<;>first | exact hv | (simp[RO.ev,zib,AX.ev,z19] at hv; done)
 | ld ag n a=>exact main (.ld ag n a) h hv
 | lku ag ks ok z m k=>exact main (.lku ag ks ok z m k) h hv
 | mlen m=>exact main (.mlen m) h hv
 | b2s a=>exact main (.b2s a) h hv
 | cvu a=>exact main (.cvu a) h hv
 | cvp ok a=>exact main (.cvp ok a) h hv
theorem DInv.ahead {call:z06} (hp:z0n call) (hR:RegOK P nt ops b L) {listed:Array Bool} {D rem:List RI} {x:RI} {fr:Fr} {e:E} {a:Act} {w:World} {κ:K} {r:R} (h:DInv P nt ops L W e₀ κ₀ fid B w₀ listed D (x::rem) fr e a w κ) (hns:x.sync=false)
  (hr:r=z0j call fid W ((x::rem).map (ao ops)) fr e) (hrb:r≠.bad) :
  ∃ fr' e',r=z0j call fid W (rem.map (ao ops)) fr' e'∧DInv P nt ops L W e₀ κ₀ fid B w₀ listed (D++[x]) rem fr' e' a w κ:=by
 have hxL:=h.sub x (by simp)
 obtain⟨o,dec,a0,p,ws,i1,i2,i3,i4,i5,i6,i7⟩:=hR.item x hxL
 have hone:=hR.one x hxL
 simp only[oneB,hns,Bool.false_or,Bool.and_eq_true,Bool.not_eq_true',List.all_eq_true] at hone
 obtain⟨⟨hself,hnE,hsl⟩,hnt,hob⟩:=hone
 have hr':r=R.bind (z0j call fid W (rem.map (ao ops))) ((ao ops x).ev call fid W fr e):=hr
 have hxb:(ao ops x).ev call fid W fr e≠.bad:=by intro hb; rw[hb] at hr'; exact hrb hr'
 -- pairs with those delayed
 have hpair:∀ z∈D,zag z x=true:=by
  intro z hz
  have:=h.pw
  rw[List.pairwise_append] at this
  exact this.2.2 z hz x (by simp)
 have hments:∀ z∈D,hasD x.dst z.ment=false:=by
  intro z hz
  cases hd:hasD x.dst z.ment with
  | false=>rfl
  | true =>
   have:=((z0r (hpair z hz)).2.2.1 hd).2
   rw[hns] at this; cases this
 have hslx:∀ v,∀ t∈x.rd,(putS (x.dst.map pth) fr.s v).get (pth t)=fr.s.get (pth t):=fun v=>z4h hself
 have hgd:=hR.guard o (Array.mem_toList_iff.2 (Array.mem_of_getElem? i1))
 -- the common part
 have fin:∀ (v:AV) (e':E),(ao ops x).ev call fid W fr e=.go (Fr.put (x.dst.map pth) fr v) e'→Keep W e e'→St κ e' B w₀ w→In κ e' fid fr.cnt →
   (∀ z∈D,Del ops W e₀ fid z (putS (x.dst.map pth) fr.s v) e' κ)→Del ops W e₀ fid x (putS (x.dst.map pth) fr.s v) e' κ →
   ∃ fr' e',r=z0j call fid W (rem.map (ao ops)) fr' e'∧DInv P nt ops L W e₀ κ₀ fid B w₀ listed (D++[x]) rem fr' e' a w κ:=by
  intro v e' hev hkeep hst' hin' hD hx
  refine⟨_,e',by rw[hr',hev]; rfl,?_⟩
  have happ:D++[x]++rem=D++x::rem:=by simp
  refine⟨h.sz,by rw[happ]; exact h.cov,h.dc,by rw[happ]; exact h.sub,by rw[happ]; exact h.pw,?_,?_,?_,h.le,h.gr.upn hkeep.glo,h.keep.trans hkeep,hst',by rw[z4n]; exact hin',h.asz,h.adf⟩
  ·intro z hz
   rcases List.mem_append.1 hz with hz | hz
   ·exact h.dns z hz
   ·simp at hz; rw[hz]; exact hns
  ·intro t ht
   rw[zd4]
   have h1:¬ ∃ z∈D,z.dst=some t:=fun⟨z,hz,hd⟩=>ht ⟨z,List.mem_append_left _ hz,hd⟩
   have h2:hasD x.dst [t]=false:=by
    cases hd:hasD x.dst [t] with
    | false=>rfl
    | true =>
     obtain⟨t',h3,h4⟩:=z6v.1 hd
     simp at h4; subst h4
     exact absurd ⟨x,by simp,h3⟩ ht
   rw[z4h h2 t (by simp)]
   exact h.sl t h1
  ·intro z hz
   rw[zd4]
   rcases List.mem_append.1 hz with hz | hz
   ·exact hD z hz
   ·simp at hz; subst hz; exact hx
 have hdels:∀ v,(∀ z∈D,Del ops W e₀ fid z (putS (x.dst.map pth) fr.s v) e κ):=fun v z hz =>
  (h.del z hz).keep hR (h.sub z (by simp[hz])) (h.dns z hz) (z4h (hments z hz)) (fun _ _ _ h=>h) (fun _ _ _ _ _ _ _ _ _ _ _ hf=>⟨rfl,hf⟩) (Nat.le_refl _)
 have hdst:x.dst.map pth=o.dst.map pth:=by rw[i5]
 have hslot:∀ v d,x.dst=some d→(putS (x.dst.map pth) fr.s v).get (pth d)=v:=by
  intro v d hd; rw[hd]; simp only[putS,Option.map_some]; exact Tm.get_set_same _ _ _
 rcases zev (W:=W) i1 hxb with hon | hoff
 ·have hev:(ao ops x).ev call fid W fr e=x.op.ev call fid W (x.dst.map pth) fr e:=by rw[hdst]; exact hon.ev i1
  have hon':∀ v,GOn ops o (putS (x.dst.map pth) fr.s v):=fun v=>hon.same hgd fun t ht=>hslx v t (by rw[i4]; exact ht)
  have hslq:∀ v,∀ q∈x.op.sl,(putS (x.dst.map pth) fr.s v).get q=fr.s.get q:=by
   intro v q hq
   have:=hsl q hq
   simp only[List.any_eq_true,List.mem_map] at this
   obtain⟨_,⟨t,ht,rfl⟩,he⟩:=this
   have:=of_decide_eq_true he
   subst this
   exact hslx v t ht
  cases hop:x.op with
  | p po =>
   rw[hop] at hev
   simp only[OP.ev,opP] at hev
   cases hv:po.ev fr.s with
   | none=>rw[hv] at hev; exact absurd hev hxb
   | some v =>
    rw[hv] at hev
    refine fin v e hev (.refl _ _) h.st h.inn (hdels v) ⟨o,i1,.inr ⟨hon' v,?_⟩⟩
    rw[hop]
    refine⟨v,?_,fun d hd=>hslot v d hd⟩
    rw[← hv]
    exact PO.congr fun q hq=>hslq v q (by rw[hop]; exact hq)
  | r ro =>
   rw[hop] at hev
   simp only[OP.ev,opR] at hev
   cases hv:ro.ev fr.s e with
   | none=>rw[hv] at hev; exact absurd hev hxb
   | some v =>
    rw[hv] at hev
    refine fin v e hev (.refl _ _) h.st h.inn (hdels v) ⟨o,i1,.inr ⟨hon' v,?_⟩⟩
    rw[hop]
    refine⟨v,?_,fun d hd=>hslot v d hd⟩
    rw[← hv]
    exact RO.congr (fun q hq=>hslq v q (by rw[hop]; exact hq)) fun _ _ _ _=>rfl
  | e eo ws' =>
   rw[hop] at hev hnE hnt hob
   cases eo<;>simp only[OP.isE,Bool.true_eq_false] at hnE
   rename_i aa g m ob
   simp only[OP.isNew,Bool.not_true] at hnt
   obtain⟨d,hd⟩:∃ d,x.dst=some d:=by
    cases hd:x.dst with
    | none=>rw[hd] at hnt; cases hnt
    | some d=>exact⟨d,rfl⟩
   simp only[OP.ev,opE,EO.ev,zlu] at hev
   obtain⟨hev1,hchk⟩:=zbx (by rw[← hev]; exact hxb)
   rw[hev1] at hev
   cases hn:newAt e (z0o fr.s W ws') aa g ob with
   | none=>rw[hn] at hev; exact absurd hev hxb
   | some q =>
    obtain⟨l,e'⟩:=q
    rw[hn] at hev hchk
    simp only[newO] at hev hchk
    have hchk:=hchk _ _ rfl
    have hsp:=z2q hn
    have hkw:Keep (z0o fr.s W ws') e e':=Keep.newAt hn
    have hkeep:Keep W e e':=hkw.mono fun l hl=>z2r hl
    obtain⟨f1,f2,f3⟩:=h.inn.newAt (κ':=κ) hn (fun _ _ hf=>hf) rfl
    have hobn:ob≠.none:=by rintro rfl; cases hob
    refine fin (cond m (.map l) (.ptr l 0)) e' hev hkeep (h.st.newAt hn f1) f3 (fun z hz=>?_) ⟨o,i1,.inr ⟨hon' _,?_⟩⟩
    ·have hzL:=h.sub z (by simp[hz])
     have hc:=z0r (hpair z hz)
     refine(h.del z hz).keep hR hzL (h.dns z hz) (z4h (hments z hz)) (fun ro v hzo hv=>?_) (fun a' g' m' ob' ws2 l' d' hzo hd' hs' hn' hf'=>?_) hkeep.glo
     ·rcases hc.2.2.2.1 _ _ hop with hc1 | hc1 | hc1
      ·rw[hns] at hc1; cases hc1.2
      ·rw[hzo,hop] at hc1
       cases ro<;>simp[z58] at hc1
      ·exact zaz (W:=W) hzo hc1 hkw hchk hv
     ·exact absurd ⟨by rw[hzo]; rfl,by rw[hop]; rfl⟩ hc.2.2.2.2.2
    ·rw[hop]
     refine⟨l,d,hd,hslot _ d hd,hsp.2.2.1,hobn,f1,fun hw=>?_,?_⟩
     ·cases hg:e₀.get l with
      | none=>rfl
      | _=>have:=h.keep.w l hw (by rw[hg]; simp); rw[hsp.1,hg] at this; cases this
     ·obtain⟨rs,ht,_⟩:=h.inn.top
      rcases hsp.2.2.2.2.2.2.2 with⟨h7,h8,_⟩ | ⟨f,objs,live,rest,i,cur,prev,hs,hob',h7,_,_⟩
      ·exact .inr ⟨_,h7,h8⟩
      ·have:f=fid:=by simp only[fids,hs,List.map_cons,List.cons.injEq] at ht; exact ht.1
       subst this
       exact .inl ⟨_,_,h7⟩
 ·have hev:(ao ops x).ev call fid W fr e=.go (Fr.put (x.dst.map pth) fr .undef) e:=by rw[hdst]; exact hoff.ev (s:=fr.s) i1
  refine fin .undef e hev (.refl _ _) h.st h.inn (hdels _) ⟨o,i1,.inl ⟨hoff.same hgd fun t ht=>hslx _ t (by rw[i4]; exact ht),fun d hd=>hslot _ d hd⟩⟩
theorem zb0 {x:RI} {l:List RI} (h:z8f ops (x::l)=true):z8f ops l=true:=by
 simp only[z8f,Bool.and_eq_true] at h; exact h.2
theorem DInv.norm {call:z06} (hp:z0n call) (hR:RegOK P nt ops b L) {listed:Array Bool} {a:Act} {w:World} {κ:K} {r:R}:∀ {rem D:List RI} {fr:Fr} {e:E},DInv P nt ops L W e₀ κ₀ fid B w₀ listed D rem fr e a w κ →
  r=z0j call fid W (rem.map (ao ops)) fr e→r≠.bad→∃ D' rem' fr' e',r=z0j call fid W (rem'.map (ao ops)) fr' e'∧DInv P nt ops L W e₀ κ₀ fid B w₀ listed D' rem' fr' e' a w κ∧(rem'=[]∨∃ y t,rem'=y::t∧y.sync=true)∧D'++rem'=D++rem∧(z8f ops rem=true→z8f ops rem'=true)
 | [],D,fr,e,h,hr,_=>⟨D,[],fr,e,hr,h,.inl rfl,rfl,id⟩
 | x::rem,D,fr,e,h,hr,hrb=>by
  cases hs:x.sync with
  | true=>exact⟨D,x::rem,fr,e,hr,h,.inr ⟨x,rem,rfl,hs⟩,rfl,id⟩
  | false =>
   obtain⟨fr',e',h1,h2⟩:=h.ahead hp hR hs hr hrb
   obtain⟨D',rem',fr'',e'',g1,g2,g3,g4,g5⟩:=h2.norm hp hR h1 hrb
   exact⟨D',rem',fr'',e'',g1,g2,g3,by rw[g4]; simp,fun hsw=>g5 (zb0 hsw)⟩
end
end Go.Abs
namespace Go.Abs
open Go Go.RowKit
variable [Glob] [Dfs]
theorem zew {listed:Array Bool} {i:Nat} (h:listed.getD i true=false):listed.getD i false=false:=by
 simp only[Array.getD_eq_getD_getElem?] at *
 cases hx:listed[i]? with
 | none=>rw[hx] at h; cases h
 | some v=>rw[hx] at h; simpa using h
theorem z62 {listed:Array Bool} {i j:Nat} (h:listed.getD j false=true):(listed.setIfInBounds i true).getD j false=true:=getD_set_true h
theorem AO.pureW {call:z06} (hc:z0n call) (d:Option Pth) (g:Option (Pth × Bool)) (p:OP) {W:List Lo} {fr:Fr} {e:E} {fid:Nat} (hf:FrOK e fid fr.cnt):GoOK (z0o fr.s W p.watch) d fr e ((AO.mk d g p).ev call fid W fr e):=by
 have key:GoOK (z0o fr.s W p.watch) d fr e (p.ev call fid W d fr e):=by
  cases p with
  | p o =>
   simp only[OP.ev,opP,optV]
   split
   ·exact .put (.refl _ _)
   ·trivial
  | r o =>
   simp only[OP.ev,opR,optV]
   split
   ·exact .put (.refl _ _)
   ·trivial
  | e o watch=>exact(EO.pure hc o hf).chk
 simp only[AO.ev,aoG]
 split
 ·exact key
 ·unfold z1n
  split
  ·exact .cond (fun _=>key) fun _=>.put (.refl _ _)
  ·exact .put (.refl _ _)
  ·trivial
theorem In.addOb {κ:K} {e:E} {fid cnt b:Nat} {l:Lo} (h:In κ e fid cnt) (hl:e.get l≠.none):In (κ.addOb l b) e fid cnt:=by
 obtain⟨rs,ht,htn⟩:=h.top
 have hne:∀ l',e.get l'=.none→z0a κ l'→z0a (κ.addOb l b) l':=fun l' hg hf=>hf.addOb (by rintro rfl; exact hl hg)
 refine⟨h.top,h.fut,fun c h1 h2=>⟨fun x hx a i=>hne _ (z8m (h.fut c x h1 h2 hx)) ((h.free c h1 h2).names x hx a i),fun x hx d hd=>(h.free c h1 h2).tks x hx d hd⟩,fun c h1 h2=>h.own c h1 h2,fun a i hi j hj=>hne _ ?_ (h.objs a i hi j hj),fun i hi=>hne _ ?_ (h.glo i hi)⟩
 ·obtain⟨stk,glo,gl⟩:=e
  cases stk with
  | nil=>simp[fids] at ht
  | cons f rest =>
   simp only[fids,List.map_cons,List.cons.injEq] at ht
   have hb:Nat.beq f.fid fid=true:=z03.2 ht.1
   simp only[E.get,z0z,hb,cond_true,z40]
   simp only[z6t,shp,List.map_cons,List.getElem?_map,Option.map_eq_some_iff] at hi
   obtain⟨⟨i',cur,prev⟩,hi1,hi2⟩:=hi
   simp only at hi2
   subst hi2
   rw[hi1]
   have h1:Nat.beq i' j=false:=by rw[Bool.eq_false_iff]; exact fun h=>by have:=z03.1 h; omega
   have h2:Nat.beq i' (j+1)=false:=by rw[Bool.eq_false_iff]; exact fun h=>by have:=z03.1 h; omega
   simp only[h1,h2,cond_false]
 ·obtain⟨stk,glo,gl⟩:=e
  simp only at hi
  simp[E.get,List.getElem?_eq_none hi]
section
variable {P:Program} [hG:GOK P] {nt:Nat} {ops:Array Oper} {b:List Nat} {L:List RI} {W:List Lo} {e₀:E} {κ₀:K} {fid B:Nat} {w₀:World}
theorem zj7 {o:Oper} {s:Tm} {a:Act} {κ:K} (hg:z27 ops o=true) (hv:∀ t∈reads ops o,VR κ (s.get (pth t)) (a.tmps.getD t undef)) (h:GOn ops o s):Region.wanted o (yielded ops a.tmps)=true:=by
 unfold Region.wanted
 unfold GOn mkG at h
 unfold z27 at hg
 cases hgd:o.guard with
 | none=>rfl
 | some jw =>
  obtain⟨j,want⟩:=jw
  rw[hgd] at h hg
  simp only[Option.isSome_iff_exists] at hg
  obtain⟨t,ht⟩:=hg
  simp only[ht,Option.getD_some] at h
  have hm:t∈reads ops o:=by unfold reads; rw[hgd]; exact List.mem_append_right _ (by simp[ht])
  have hx:=hv t hm
  rw[h] at hx
  generalize hy:a.tmps.getD t undef=y at hx
  cases hx
  have hy':a.tmps[t]?=some (.bool want):=by
   simp only[Array.getD_eq_getD_getElem?] at hy
   cases hq:a.tmps[t]? with
   | none=>rw[hq] at hy; cases hy
   | some y=>rw[hq] at hy; simp at hy; rw[hy]
  have:yielded ops a.tmps j=some want:=by unfold yielded; rw[ht]; simp[hy']
  simp[this]
theorem zh8 {o:Oper} {s:Tm} {a:Act} {κ:K} (hg:z27 ops o=true) (hv:∀ t∈reads ops o,VR κ (s.get (pth t)) (a.tmps.getD t undef)) (h:GOff ops o s):Region.wanted o (yielded ops a.tmps)=false:=by
 unfold Region.wanted
 unfold GOff mkG at h
 unfold z27 at hg
 cases hgd:o.guard with
 | none=>rw[hgd] at h; exact h.elim
 | some jw =>
  obtain⟨j,want⟩:=jw
  rw[hgd] at h hg
  simp only[Option.isSome_iff_exists] at hg
  obtain⟨t,ht⟩:=hg
  simp only[ht,Option.getD_some] at h
  have hm:t∈reads ops o:=by unfold reads; rw[hgd]; exact List.mem_append_right _ (by simp[ht])
  have hx:=hv t hm
  have hyd:yielded ops a.tmps j=match a.tmps[t]? with | some (.bool b)=>some b | _=>none:=by unfold yielded; rw[ht]; rfl
  rcases h with h | h
  ·rw[h] at hx
   generalize hy:a.tmps.getD t undef=y at hx
   cases hx
   simp only[Array.getD_eq_getD_getElem?] at hy
   cases hq:a.tmps[t]? with
   | none=>rw[hq] at hy; cases hy
   | some y =>
    rw[hq] at hy; simp at hy; subst hy
    simp only[hyd,hq]
    cases want<;>rfl
  ·rw[h] at hx
   generalize hy:a.tmps.getD t undef=y at hx
   cases hx
   simp only[Array.getD_eq_getD_getElem?] at hy
   cases hq:a.tmps[t]? with
   | none=>simp only[hyd,hq]; rfl
   | some y =>
    rw[hq] at hy; simp at hy; subst hy
    simp only[hyd,hq]; rfl
theorem zmt {κ:K} {e:E} {w:World} {a:Act} {i:Nat} {o:Oper} {v:AV} {Kn:Act→World→Prop} {Q:Exit→Act→World→Prop} (hi:ops[i]?=some o) (hw:Region.wanted o (yielded ops a.tmps)=true) (h:Get1 P κ e B w₀ w (execOp a.eval o) v)
  (hK:∀ val w' κ',VR κ' v val→κ.le κ'→Same κ κ'→St κ' e B w₀ w'→Kn (a.put o.dst val) w'):wpOp P ops Q i Kn a w:=by
 obtain⟨val,w',κ',h1,h2,h3,h4,h5⟩:=h
 unfold wpOp
 simp only[hi]
 rw[if_pos hw]
 refine .inl ?_
 unfold Oper.wp Oper.upon
 rw[h1]
 exact hK val w' κ' h2 h3 h4 h5
theorem DInv.late (hR:RegOK P nt ops b L) {listed:Array Bool} {D₁ D₂ rem:List RI} {x:RI} {fr:Fr} {e:E} {a:Act} {w w':World} {κ κ':K} {o:Oper} {v:AV} {val:Value} (h:DInv P nt ops L W e₀ κ₀ fid B w₀ listed (D₁++x::D₂) rem fr e a w κ)
  (ho:ops[x.idx]?=some o) (hdst:x.dst=o.dst) (hed:∀ ed∈o.after.toList,Region.binds .any ed=true→listed.getD ed.on false=true) (hle:κ.le κ') (hgr:Gr W e₀ κ₀ κ' fid e.glo.length) (hst:St κ' e B w₀ w') (hin:In κ' e fid fr.cnt)
  (hv:VR κ' v val) (hs:∀ d,x.dst=some d→fr.s.get (pth d)=v) (hdel:∀ z∈D₁++D₂,Del ops W e₀ fid z fr.s e κ') :
  DInv P nt ops L W e₀ κ₀ fid B w₀ (listed.setIfInBounds x.idx true) (D₁++D₂) rem fr e (a.put o.dst val) w' κ':=by
 have hmem:∀ y,y∈D₁++D₂++rem→y∈D₁++x::D₂++rem:=by
  intro y hy; simp only[List.mem_append,List.mem_cons] at *
  rcases hy with(hy | hy) | hy
  ·exact .inl (.inl hy)
  ·exact .inl (.inr (.inr hy))
  ·exact .inr hy
 have hsub:(D₁++D₂++rem).Sublist (D₁++x::D₂++rem):=by
  refine List.Sublist.append ?_ (List.Sublist.refl _)
  exact List.Sublist.append (List.Sublist.refl _) (List.sublist_cons_self ..)
 have hidx:∀ y∈D₁++D₂++rem,y.idx≠x.idx:=by
  have hp:=h.pw
  intro y hy
  rw[List.append_assoc,List.pairwise_append] at hp
  obtain⟨_,h2,h3⟩:=hp
  simp only[List.cons_append,List.pairwise_cons] at h2
  simp only[List.mem_append] at hy
  rcases hy with(hy | hy) | hy
  ·exact(z0r (h3 y hy x (by simp))).1
  ·exact(z0r (h2.1 y (by simp[hy]))).1.symm
  ·exact(z0r (h2.1 y (by simp[hy]))).1.symm
 have hxi:x.idx < ops.size:=(Array.getElem?_eq_some_iff.1 ho).1
 refine⟨by simp[h.sz],fun i hi=>?_,fun i o' ho' hl=>?_,fun y hy=>h.sub y (hmem y hy),h.pw.sublist hsub,?_,?_,hdel,h.le.trans hle,hgr,h.keep,hst,hin,by rw[z4s]; exact h.asz,h.adf.put (hR.kv o (Array.mem_toList_iff.2 (Array.mem_of_getElem? ho)))⟩
 ·by_cases hix:x.idx=i
  ·subst hix
   constructor
   ·intro hl
    simp[h.sz,hxi] at hl
   ·rintro⟨y,hy,he⟩
    exact absurd he (hidx y hy)
  ·rw[getD_set_ne true hix,h.cov i hi]
   constructor
   ·rintro⟨y,hy,he⟩
    refine⟨y,?_,he⟩
    simp only[List.mem_append,List.mem_cons] at hy ⊢
    rcases hy with(hy | rfl | hy) | hy
    ·exact .inl (.inl hy)
    ·exact absurd he hix
    ·exact .inl (.inr hy)
    ·exact .inr hy
   ·rintro⟨y,hy,he⟩
    exact⟨y,hmem y hy,he⟩
 ·intro ed hed1 hb
  by_cases hix:x.idx=i
  ·subst hix
   rw[ho] at ho'; cases ho'
   exact z62 (hed ed hed1 hb)
  ·rw[getD_set_ne false hix] at hl
   exact z62 (h.dc i o' ho' hl ed hed1 hb)
 ·intro z hz
  exact h.dns z (by simp only[List.mem_append,List.mem_cons] at *; rcases hz with hz | hz; exact .inl hz; exact .inr (.inr hz))
 ·intro t ht
  cases hd:o.dst with
  | none =>
   refine(h.sl t ?_).mono hle
   rintro⟨z,hz,hzd⟩
   simp only[List.mem_append,List.mem_cons] at hz
   rcases hz with hz | rfl | hz
   ·exact ht ⟨z,by simp[hz],hzd⟩
   ·rw[hdst,hd] at hzd; cases hzd
   ·exact ht ⟨z,by simp[hz],hzd⟩
  | some d =>
   have hone:=hR.one x (h.sub x (by simp))
   simp only[oneB,Bool.and_eq_true,hdst,hd,Nat.blt_eq] at hone
   rw[zfz a d val t (Nat.lt_of_lt_of_le hone.2.1 h.asz)]
   by_cases htd:t=d
   ·subst htd
    rw[if_pos rfl,hs t (by rw[hdst,hd])]
    exact hv
   ·rw[if_neg htd]
    refine(h.sl t ?_).mono hle
    rintro⟨z,hz,hzd⟩
    simp only[List.mem_append,List.mem_cons] at hz
    rcases hz with hz | rfl | hz
    ·exact ht ⟨z,by simp[hz],hzd⟩
    ·rw[hdst,hd] at hzd; cases hzd; exact htd rfl
    ·exact ht ⟨z,by simp[hz],hzd⟩
theorem DInv.done (hR:RegOK P nt ops b L) {listed:Array Bool} {D rem:List RI} {fr:Fr} {e:E} {a:Act} {w:World} {κ:K} (h:DInv P nt ops L W e₀ κ₀ fid B w₀ listed D rem fr e a w κ) (hn:Region.ready .any ops listed=[]):D++rem=[]:=by
 have key:∀ i,i < ops.size→listed.getD i true=true:=by
  intro i
  induction i using Nat.strongRecOn with
  | _ i ih =>
   intro hi
   cases hl:listed.getD i true with
   | true=>rfl
   | false =>
    have ho:ops[i]?=some ops[i]:=by simp
    have:i∈Region.ready .any ops listed:=by
     rw[mem_ready]
     refine⟨hl,_,ho,fun ed hed hb=>?_⟩
     have hlt:=(hR.edge i _ ho).2 ed (Array.mem_toList_iff.2 hed) hb
     have:=ih ed.on hlt (by omega)
     simp only[Array.getD_eq_getD_getElem?] at this ⊢
     have hsz:=h.sz
     rw[Array.getElem?_eq_getElem (by omega)] at this ⊢
     exact this
    rw[hn] at this; cases this
 cases hDr:D++rem with
 | nil=>rfl
 | cons x t =>
  exfalso
  have hx:x∈D++rem:=by rw[hDr]; simp
  obtain⟨o,_,_,_,_,i1,_⟩:=hR.item x (h.sub x hx)
  have hi:=(Array.getElem?_eq_some_iff.1 i1).1
  have:=(h.cov x.idx hi).2 ⟨x,hx,rfl⟩
  rw[key x.idx hi] at this; cases this
theorem DInv.fin {call:z06} {listed:Array Bool} {fr:Fr} {e:E} {a:Act} {w:World} {κ:K} {r:R} {D rem:List RI} (h:DInv P nt ops L W e₀ κ₀ fid B w₀ listed D rem fr e a w κ) (hnil:D++rem=[]) (hr:r=z0j call fid W (rem.map (ao ops)) fr e) :
  z5e W e₀ κ₀ fid B nt w₀ r .normal a w:=by
 obtain⟨rfl,rfl⟩:=List.append_eq_nil_iff.1 hnil
 have hr:r=.go fr e:=hr
 exact⟨fr,e,hr,κ,h.le,h.gr,h.st,h.inn,fun t _=>h.sl t (by simp),h.asz,h.adf⟩
end
end Go.Abs
namespace Go.Abs
open Go Go.RowKit
variable [Glob] [Dfs]
section
variable {P:Program} [hG:GOK P] {nt:Nat} {ops:Array Oper} {b:List Nat} {L:List RI} {W:List Lo} {e₀:E} {κ₀:K} {fid B:Nat} {w₀:World}
theorem zg3 {D:List RI} {z:RI} {x:WX} (hz:z∈D) (hx:x∈z.op.looks (z.dst.map pth)):x∈D.flatMap fun z=>z.op.looks (z.dst.map pth):=List.mem_flatMap.2 ⟨z,hz,hx⟩
theorem DInv.syncd {call:z06} (hp:z0n call) (hok:z3l P call) (hR:RegOK P nt ops b L) {listed:Array Bool} {D rem:List RI} {y:RI} {fr:Fr} {e:E} {a:Act} {w:World} {κ:K} {r:R} {Kn:Act→World→Prop}
  (h:DInv P nt ops L W e₀ κ₀ fid B w₀ listed D (y::rem) fr e a w κ) {o:Oper} (ho:ops[y.idx]?=some o) (hed:∀ ed∈o.after.toList,Region.binds .any ed=true→listed.getD ed.on false=true) (hpr:∀ k,y.bef.testBit k=true→listed.getD k false=true)
  (hun:∀ z∈D,listed.getD z.idx false=false) (hr:r=z0j call fid W ((y::rem).map (ao ops)) fr e) (hrb:r≠.bad)
  (hK:∀ val w' κ' fr' e',r=z0j call fid W (rem.map (ao ops)) fr' e'→DInv P nt ops L W e₀ κ₀ fid B w₀ (listed.setIfInBounds y.idx true) D rem fr' e' (a.put o.dst val) w' κ'→Kn (a.put o.dst val) w') :
  wpOp P ops (z5e W e₀ κ₀ fid B nt w₀ r) y.idx Kn a w:=by
 have hyL:=h.sub y (by simp)
 obtain⟨o',dec,a0,p,ws,i1,i2,i3,i4,i5,i6,i7⟩:=hR.item y hyL
 rw[ho] at i1; cases i1
 have hgd:=hR.guard o (Array.mem_toList_iff.2 (Array.mem_of_getElem? ho))
 have hyi:y.idx < ops.size:=(Array.getElem?_eq_some_iff.1 ho).1
 have hpair:∀ z∈D,zag z y=true:=by
  intro z hz
  have:=h.pw
  rw[List.pairwise_append] at this
  exact this.2.2 z hz y (by simp)
 have hnb:∀ z∈D,¬ y.bef.testBit z.idx=true:=fun z hz hb=>by
  have:=hpr z.idx hb
  rw[hun z hz] at this; cases this
 have hments:∀ z∈D,hasD y.dst z.ment=false:=by
  intro z hz
  cases hd:hasD y.dst z.ment with
  | false=>rfl
  | true=>exact absurd ((z0r (hpair z hz)).2.2.1 hd).1 (hnb z hz)
 have hX:∀ t∈reads ops o,¬ ∃ z∈D,z.dst=some t:=by
  rintro t ht ⟨z,hz,hzd⟩
  exact hnb z hz ((z0r (hpair z hz)).2.1 (z6v.2 ⟨t,hzd,z4t (by rw[i4]; exact ht)⟩))
 have hr':r=R.bind (z0j call fid W (rem.map (ao ops))) ((ao ops y).ev call fid W fr e):=hr
 have hyb:(ao ops y).ev call fid W fr e≠.bad:=by intro hb; rw[hb] at hr'; exact hrb hr'
 -- what is z4m
 obtain⟨wx,hwx,hwl⟩:∃ wx,y.op=z16 p wx∧∀ z∈D,∀ aa g m ob ws2 d,z.op=.e (.new aa g m ob) ws2→z.dst=some d→WX.l (AX.t (pth d))∈wx:=by
  cases hpe:p with
  | p po=>exact⟨D.flatMap fun z=>z.op.looks (z.dst.map pth),by rw[i3,hpe]; rfl,fun z hz aa g m ob ws2 d hzo hzd=>zg3 hz (by rw[hzo,hzd]; simp[OP.looks])⟩
  | r ro=>exact⟨D.flatMap fun z=>z.op.looks (z.dst.map pth),by rw[i3,hpe]; rfl,fun z hz aa g m ob ws2 d hzo hzd=>zg3 hz (by rw[hzo,hzd]; simp[OP.looks])⟩
  | e eo ws0 =>
   refine⟨ws,by rw[i3,hpe],fun z hz aa g m ob ws2 d hzo hzd=>?_⟩
   have hyo:y.op=.e eo ws:=by rw[i3,hpe]; rfl
   rcases(z0r (hpair z hz)).2.2.2.1 _ _ hyo with hc | hc | hc
   ·exact absurd hc.1 (hnb z hz)
   ·rw[hzo] at hc; cases hc
   ·simp only[zcy,List.all_eq_true,List.any_eq_true] at hc
    obtain⟨q,hq,he⟩:=hc (.l (.t (pth d))) (by rw[hzo,hzd]; simp[OP.looks])
    obtain⟨z',hz',he2⟩:=wxEq_l he
    subst hz'
    clear he
    simp only[noC,Bool.false_eq_true,or_false] at he2
    rw[he2]; exact hq
 have hgoW:=AO.pure hp (ao ops y) (W:=W) (fr:=fr) (e:=e) h.inn.fut
 have hgoX:=AO.pureW hp (ao ops y).d (ao ops y).g (ao ops y).o (W:=W) (fr:=fr) (e:=e) h.inn.fut
 have haoo:(ao ops y).o=y.op:=by unfold ao; rw[z7g ho]
 refine zj5 hp hok (W:=W) (ws:=wx) (X:=fun t=>∃ z∈D,z.dst=some t) (p:=p) (r:=(ao ops y).ev call fid W fr e) ho i2 hgd h.sl hX h.st h.inn (by unfold ao; rw[← hwx]) hyb (fun val w' hn=>?_) fun ch w' hn=>?_
 ·obtain⟨κ',fr',e',v,g1,g2,g3,g4,g5,g6,g7⟩:=hn
  rw[g1] at hr' hgoW
  have hevx:(AO.mk (ao ops y).d (ao ops y).g (ao ops y).o).ev call fid W fr e=.go fr' e':=g1
  rw[hevx,haoo] at hgoX
  refine hK val w' κ' fr' e' hr' ?_
  have hdel:∀ z∈D,Del ops W e₀ fid z fr'.s e' κ':=by
   intro z hz
   rw[g2,← i5]
   refine(h.del z hz).keep hR (h.sub z (by simp[hz])) (h.dns z hz) (z4h (hments z hz)) (fun ro v' hzo hv=>?_) (fun aa g m ob ws2 l d hzo hzd hsl hln hf=>?_) hgoW.1.glo
   ·-- a reading that waits
    have same:e'=e→ro.ev fr.s e'=some v':=fun he=>by rw[he]; exact hv
    rcases zev (W:=W) ho hyb with hon | hoff
    ·have hev:(ao ops y).ev call fid W fr e=y.op.ev call fid W (o.dst.map pth) fr e:=hon.ev ho
     rw[g1] at hev
     cases hyo:y.op with
     | p po =>
      rw[hyo] at hev
      simp only[OP.ev,opP,optV] at hev
      split at hev
      ·simp only[R.go.injEq] at hev; exact same hev.2
      ·cases hev
     | r ro' =>
      rw[hyo] at hev
      simp only[OP.ev,opR,optV] at hev
      split at hev
      ·simp only[R.go.injEq] at hev; exact same hev.2
      ·cases hev
     | e eo ws' =>
      rw[hyo] at hev hgoX
      rcases(z0r (hpair z hz)).2.2.2.1 _ _ hyo with hc | hc | hc
      ·exact absurd hc.1 (hnb z hz)
      ·rw[hzo,hyo] at hc
       unfold z58 at hc
       split at hc
       ·rename_i ag ks zz m k ag' ks' zz' m' k' _ heq1 heq2
        simp only[Bool.and_eq_true,beq_iff_eq,decide_eq_true_eq] at hc
        obtain⟨rfl,rfl,hz2,hm2,hk2⟩:=hc
        have hz2:=zeq_eq hz2
        have hm2:=zc9 hm2
        have hk2:=zc9 hk2
        subst hz2 hm2 hk2
        simp only[OP.r.injEq] at heq1
        subst heq1
        simp only[OP.e.injEq] at heq2
        obtain⟨rfl,_⟩:=heq2
        simp only[OP.ev,opE] at hev
        have hev1:=(zbx (s:=fr.s) (e:=e) (ws:=ws') (by rw[← hev]; simp)).1
        rw[hev1] at hev
        exact lku_men hv hev.symm
       ·cases hc
      ·simp only[OP.ev,opE] at hev
       obtain⟨hev1,hchk⟩:=zbx (s:=fr.s) (e:=e) (ws:=ws') (r:=eo.ev call fid (z0o fr.s W ws') (o.dst.map pth) fr e) (by rw[← hev]; simp)
       rw[hev1] at hev
       exact zaz (W:=W) hzo hc hgoX.1 (hchk _ _ hev.symm) hv
    ·have hev:=GOff.ev (W:=W) (fid:=fid) (call:=call) (p:=y.op) (e:=e) (fr:=fr) (s:=fr.s) ho hoff
     have hev':(ao ops y).ev call fid W fr e=.go (Fr.put (o.dst.map pth) fr .undef) e:=hev
     rw[g1] at hev'
     simp only[R.go.injEq] at hev'
     exact same hev'.2
   ·-- a new object that waits
    have hm:=hwl z hz aa g m ob ws2 d hzo hzd
    have hloc:l∈z24 ((AX.t (pth d)).ev fr.s):=by
     simp only[AX.ev,hsl]
     cases m<;>simp[z24]
    have hmem:=z82 (W:=W) hm hloc
    refine⟨?_,g5.kept hmem hln hf⟩
    -- the object stays
    rcases zev (W:=W) ho hyb with hon | hoff
    ·cases hyo:y.op with
     | p po =>
      have hev:(ao ops y).ev call fid W fr e=y.op.ev call fid W (o.dst.map pth) fr e:=hon.ev ho
      rw[g1,hyo] at hev
      simp only[OP.ev,opP,optV] at hev
      split at hev
      ·simp only[R.go.injEq] at hev; rw[hev.2]
      ·cases hev
     | r ro' =>
      have hev:(ao ops y).ev call fid W fr e=y.op.ev call fid W (o.dst.map pth) fr e:=hon.ev ho
      rw[g1,hyo] at hev
      simp only[OP.ev,opR,optV] at hev
      split at hev
      ·simp only[R.go.injEq] at hev; rw[hev.2]
      ·cases hev
     | e eo ws' =>
      have hw:wx=ws':=by
       rw[hyo] at hwx
       cases p<;>simp only[z16,reduceCtorEq,OP.e.injEq] at hwx
       exact hwx.2.symm
      rw[hyo] at hgoX
      rw[hw] at hmem
      exact hgoX.1.w l hmem hln
    ·have hev':(ao ops y).ev call fid W fr e=.go (Fr.put (o.dst.map pth) fr .undef) e:=GOff.ev (s:=fr.s) ho hoff
     rw[g1] at hev'
     simp only[R.go.injEq] at hev'
     rw[hev'.2]
  have hidx:∀ z∈D++rem,z.idx≠y.idx:=by
   have hpw:=h.pw
   rw[List.pairwise_append] at hpw
   intro z hz
   rcases List.mem_append.1 hz with hz | hz
   ·exact(z0r (hpw.2.2 z hz y (by simp))).1
   ·exact(z0r ((List.pairwise_cons.1 hpw.2.1).1 z hz)).1.symm
  have hsub:(D++rem).Sublist (D++y::rem):=List.Sublist.append (List.Sublist.refl _) (List.sublist_cons_self ..)
  refine⟨by simp[h.sz],fun i hi=>?_,fun i o' ho' hl=>?_,fun z hz=>h.sub z (hsub.subset hz),h.pw.sublist hsub,h.dns,?_,hdel,h.le.trans g4,h.gr.trans (g5.mono fun l hl=>z2r hl) h.keep hgoW.1.glo,h.keep.trans hgoW.1,g6,g7,by rw[z4s]; exact h.asz,h.adf.put (hR.kv o (Array.mem_toList_iff.2 (Array.mem_of_getElem? ho)))⟩
  ·by_cases hix:y.idx=i
   ·subst hix
    constructor
    ·intro hl; simp[h.sz,hyi] at hl
    ·rintro⟨z,hz,he⟩; exact absurd he (hidx z hz)
   ·rw[getD_set_ne true hix,h.cov i hi]
    constructor
    ·rintro⟨z,hz,he⟩
     refine⟨z,?_,he⟩
     simp only[List.mem_append,List.mem_cons] at hz ⊢
     rcases hz with hz | rfl | hz
     ·exact .inl hz
     ·exact absurd he hix
     ·exact .inr hz
    ·rintro⟨z,hz,he⟩
     exact⟨z,hsub.subset hz,he⟩
  ·intro ed hed1 hb
   by_cases hix:y.idx=i
   ·subst hix
    rw[ho] at ho'; cases ho'
    exact z62 (hed ed hed1 hb)
   ·rw[getD_set_ne false hix] at hl
    exact z62 (h.dc i o' ho' hl ed hed1 hb)
  ·rw[g2]
   refine h.sl.put g4 (fun d hd=>?_) g3
   have hone:=hR.one y hyL
   simp only[oneB,Bool.and_eq_true,i5,hd,Nat.blt_eq] at hone
   exact Nat.lt_of_lt_of_le hone.2.1 h.asz
 ·refine⟨?_,h.adf⟩
  have hn:=hn.mono (W':=W) fun l hl=>z2r hl
  obtain⟨κ',fr',e',v,val,h1,h2,h3,h4,h5,h6⟩:=hn
  rw[h1] at hr' hgoW
  exact⟨κ',fr',e',v,val,hr',h2,h3,h.le.trans h4,h.gr.trans h5 h.keep hgoW.1.glo,h6⟩
theorem DInv.lated (hR:RegOK P nt ops b L) {listed:Array Bool} {D₁ D₂ rem:List RI} {x:RI} {fr:Fr} {e:E} {a:Act} {w:World} {κ:K} {Kn:Act→World→Prop} {Q:Exit→Act→World→Prop}
  (h:DInv P nt ops L W e₀ κ₀ fid B w₀ listed (D₁++x::D₂) rem fr e a w κ) {o:Oper} (ho:ops[x.idx]?=some o) (hed:∀ ed∈o.after.toList,Region.binds .any ed=true→listed.getD ed.on false=true) (hpr:∀ k,x.bef.testBit k=true→listed.getD k false=true)
  (hun:∀ z∈D₁++x::D₂,listed.getD z.idx false=false)
  (hK:∀ val w' κ',DInv P nt ops L W e₀ κ₀ fid B w₀ (listed.setIfInBounds x.idx true) (D₁++D₂) rem fr e (a.put o.dst val) w' κ'→Kn (a.put o.dst val) w'):wpOp P ops Q x.idx Kn a w:=by
 have hxL:=h.sub x (by simp)
 obtain⟨o',dec,a0,p,ws,i1,i2,i3,i4,i5,i6,i7⟩:=hR.item x hxL
 rw[ho] at i1; cases i1
 have hgd:=hR.guard o (Array.mem_toList_iff.2 (Array.mem_of_getElem? ho))
 have hns:=h.dns x (by simp)
 have hone:=hR.one x hxL
 simp only[oneB,hns,Bool.false_or,Bool.and_eq_true,Bool.not_eq_true',List.all_eq_true] at hone
 have hpw:=h.pw
 rw[List.append_assoc,List.pairwise_append] at hpw
 obtain⟨_,hpw2,hpw3⟩:=hpw
 simp only[List.cons_append,List.pairwise_cons] at hpw2
 have hX:∀ t∈reads ops o,¬ ∃ z∈D₁++x::D₂,z.dst=some t:=by
  rintro t ht ⟨z,hz,hzd⟩
  have hm:t∈x.ment:=z4t (by rw[i4]; exact ht)
  simp only[List.mem_append,List.mem_cons] at hz
  rcases hz with hz | rfl | hz
  ·have:=hpr z.idx ((z0r (hpw3 z hz x (by simp))).2.1 (z6v.2 ⟨t,hzd,hm⟩))
   rw[hun z (by simp[hz])] at this; cases this
  ·exact zg2 hone.1.1 hzd (by rw[i4]; exact ht)
  ·have:=((z0r (hpw2.1 z (by simp[hz]))).2.2.1 (z6v.2 ⟨t,hzd,hm⟩)).2
   rw[h.dns z (by simp[hz])] at this; cases this
 have hv:∀ t∈reads ops o,VR κ (fr.s.get (pth t)) (a.tmps.getD t undef):=fun t ht=>h.sl t (hX t ht)
 have hopd:Opd κ fr.s a.eval o.op.operands.toList:=h.sl.opd h.st.glob hX
 obtain⟨o2,ho2,hdx⟩:=h.del x (by simp)
 rw[ho] at ho2; cases ho2
 have hrest:∀ z∈D₁++D₂,z∈D₁++x::D₂:=by
  intro z hz; simp only[List.mem_append,List.mem_cons] at *; rcases hz with hz | hz; exact .inl hz; exact .inr (.inr hz)
 have hdelS:∀ κ',Same κ κ'→∀ z∈D₁++D₂,Del ops W e₀ fid z fr.s e κ':=fun κ' hs z hz =>
  (h.del z (hrest z hz)).keep hR (h.sub z (by simp only[List.mem_append,List.mem_cons] at *; rcases hz with hz | hz; exact .inl (.inl hz); exact .inl (.inr (.inr hz)))) (h.dns z (hrest z hz)) (fun _ _=>rfl) (fun _ _ _ h=>h) (fun _ _ _ _ _ _ _ _ _ _ _ hf=>⟨rfl,hs.name hf⟩) (Nat.le_refl _)
 have hgrS:∀ κ',Same κ κ'→Gr W e₀ κ₀ κ' fid e.glo.length:=fun κ' hs=>h.gr.trans (hs.gr (W:=W) (e:=e) fid _) h.keep (Nat.le_refl _)
 rcases hdx with⟨hoff,hslot⟩ | ⟨hon,hdv⟩
 ·unfold wpOp
  simp only[ho]
  rw[zh8 hgd hv hoff]
  simp only[Bool.false_eq_true,if_false]
  exact hK undef w κ (h.late hR ho i5 hed (.refl _) h.gr h.st h.inn .undef (fun d hd=>hslot d hd) (hdelS κ (.refl _)))
 ·have hwant:=zj7 hgd hv hon
  have hget:∀ v,Get1 P κ e B w₀ w (execOp a.eval o) v→(∀ d,x.dst=some d→fr.s.get (pth d)=v)→wpOp P ops Q x.idx Kn a w:=fun v hg hslot =>
   zmt ho hwant hg fun val w' κ' k1 k2 k3 k4=>hK val w' κ' (h.late hR ho i5 hed k2 (hgrS κ' k3) k4 (h.inn.same k3 rfl rfl (Nat.le_refl _)) k1 hslot (hdelS κ' k3))
  cases hco:z05 P dec a0 o.op with
  | none =>
   rw[hco] at i2
   simp only[Option.getD_none] at i2
   subst i2
   have hxo:x.op=bad:=i3
   rw[hxo] at hdv
   obtain⟨v,hev,_⟩:=hdv
   simp[PO.ev,zlo,AX.ev,extA] at hev
  | some q =>
   rw[hco] at i2
   simp only[Option.getD_some] at i2
   subst i2
   cases hq:p with
   | p po =>
    have hxo:x.op=.p po:=by rw[i3,hq]; rfl
    rw[hxo] at hdv
    obtain⟨v,hev,hslot⟩:=hdv
    exact hget v (PO.sim rfl (by rw[hco,hq]) hopd hev h.st) hslot
   | r ro =>
    have hxo:x.op=.r ro:=by rw[i3,hq]; rfl
    rw[hxo] at hdv
    obtain⟨v,hev,hslot⟩:=hdv
    exact hget v (RO.sim rfl (by rw[hco,hq]) hopd hev h.st) hslot
   | e eo ws0 =>
    have hxo:x.op=.e eo ws:=by rw[i3,hq]; rfl
    rw[hxo] at hdv
    cases eo<;>simp only[DelV] at hdv
    rename_i aa g m ob
    obtain⟨l,d,hd,hs,hge,hob,hnf,hw0,hnm⟩:=hdv
    obtain⟨obj,h1,h2⟩:=zj4 (P:=P) (oper:=o) rfl (by rw[hco,hq])
    have hle:=K.le_addOb (b:=w.heap.size) hnf.1
    have hst':St (κ.addOb l w.heap.size) e B w₀ (w.alloc obj):=h.st.allocOb hnf (by rw[hge]; exact(h2 κ l hnf).mono hle rfl)
    have hVR:VR (κ.addOb l w.heap.size) (cond m (.map l) (.ptr l 0)) (if m then .map (some w.heap.size) else .pointer (some ⟨w.heap.size,0,none⟩)):=by
     cases m
     ·exact .ptr (by simp[K.addOb])
     ·exact .map (by simp[K.addOb])
    unfold wpOp
    simp only[ho]
    rw[if_pos hwant]
    refine .inl ?_
    unfold Oper.wp Oper.upon
    rw[h1 a.eval w (fun _=>rfl)]
    refine hK _ _ (κ.addOb l w.heap.size) (h.late hR ho i5 hed hle ?_ hst' (h.inn.addOb (by rw[hge]; exact hob)) hVR (fun d' hd'=>?_) fun z hz=>?_)
    ·refine⟨fun l' hl'=>?_,fun k hk=>h.gr.tk k hk⟩
     by_cases hll:l'=l
     ·subst hll
      exact .inr ⟨hw0,hnm.imp (fun⟨a',i,hh⟩=>⟨fid,a',i,hh,.refl⟩) id⟩
     ·exact(h.gr.nm l' hl').imp (fun hf=>hf.addOb hll) id
    ·rw[hd] at hd'; cases hd'; exact hs
    ·have hzD:=hrest z hz
     refine(h.del z hzD).keep hR (h.sub z (by simp only[List.mem_append,List.mem_cons] at *; rcases hz with hz | hz; exact .inl (.inl hz); exact .inl (.inr (.inr hz)))) (h.dns z hzD) (fun _ _=>rfl) (fun _ _ _ h=>h) (fun a' g' m' ob' ws2 l' d' hzo hzd hs' hn' hf'=>?_) (Nat.le_refl _)
     exfalso
     simp only[List.mem_append] at hz
     rcases hz with hz | hz
     ·exact(z0r (hpw3 z hz x (by simp))).2.2.2.2.2 ⟨by rw[hzo]; rfl,by rw[hxo]; rfl⟩
     ·exact(z0r (hpw2.1 z (by simp[hz]))).2.2.2.2.2 ⟨by rw[hxo]; rfl,by rw[hzo]; rfl⟩
noncomputable def z6g (z i off:Nat) (es:List AV) (v:AV):Option AV→Option Ob
 | some (.agg cs)=>cond (Nat.ble (off+v.cells.length) cs.length) (some (.vec z (es.set i (.agg (z39 cs off v.cells))))) none
 | some _=>cond (Nat.beq off 0 && Nat.beq z 1) (match v with | .agg _=>none | v=>some (.vec z (es.set i v))) none
 | none=>none
theorem zj8 {e:E} {l:Lo} {z i off:Nat} {es:List AV} {v:AV} {o:Option AV}:z8z e l z i off es v o=(z6g z i off es v o).map (e.set l):=by
 cases o with
 | none=>rfl
 | some y =>
  cases y with
  | agg cs =>
   simp only[z8z,z6g]
   cases Nat.ble (off+v.cells.length) cs.length<;>rfl
  | _ =>
   simp only[z8z,z6g]
   cases (Nat.beq off 0 && Nat.beq z 1)
   ·rfl
   ·cases v<;>rfl
theorem zex {z i off:Nat} {es:List AV} {v:AV} {o:Option AV} {ob:Ob} (h:z6g z i off es v o=some ob):∃ es',ob=.vec z es':=by
 unfold z6g at h
 split at h
 ·obtain⟨_,h⟩:=z00 h; cases h; exact⟨_,rfl⟩
 ·obtain⟨_,h⟩:=z00 h
  split at h
  ·cases h
  ·cases h; exact⟨_,rfl⟩
 ·cases h
def zj9:Bool→Ob→Prop
 | true,o=>∃ z es,o=.vec z es
 | false,o=>∃ t cs,o=.cells t cs
theorem zmu {v:Bool} {o:Ob} (h:zj9 v o):¬ zj9 (!v) o:=by
 cases v
 ·obtain⟨t,cs,rfl⟩:=h; rintro⟨z,es,h⟩; cases h
 ·obtain⟨t,cs,rfl⟩:=h; rintro⟨z,es,h⟩; cases h
theorem zh9 {v:Bool} {o:Ob} (h:zj9 v o):o≠.none:=by
 cases v<;>obtain⟨t,cs,rfl⟩:=h<;>simp
theorem z7h {l:Lo}:∀ {vs:List AV} {e:E},noTk vs=true→e.moves vs l=e
 | [],_,_=>rfl
 | v::vs,e,h=>by
  cases v<;>simp only[noTk,E.moves] at h ⊢<;>first | exact z7h h | skip
  rename_i k z xs
  cases hk:Nat.ble 2 k with
  | true=>rw[hk] at h; cases h
  | false=>rw[hk] at h; simp only[cond_false] at h ⊢; exact z7h h
theorem zja {s:Tm} {e e':E}:∀ {ws:List WX},ws.all wl=true→z6c s e e' ws=true
 | [],_=>rfl
 | .l x::ws,h=>by simp only[List.all_cons,Bool.and_eq_true] at h; exact zja (ws:=ws) h.2
 | .c x::ws,h=>by simp[wl] at h
theorem zjb {v:Bool} {y:RI} {call:z06} {fr:Fr} {e:E} (hy:stxB v y=true) (hg:noGB ops y=true) (hdo:∀ o,ops[y.idx]?=some o→y.dst=o.dst) (hb:(ao ops y).ev call fid W fr e≠.bad) :
  ∃ (i:Nat) (f:Ob→Option Ob),(∀ e',(ao ops y).ev call fid W fr e'=match f (e'.get (.gl i)) with | some o=>.go fr (e'.set (.gl i) o) | none=>.bad)∧∀ o o',f o=some o'→zj9 v o∧zj9 v o':=by
 simp only[stxB,Bool.and_eq_true,Option.isNone_iff_eq_none] at hy
 obtain⟨hd,hy⟩:=hy
 split at hy
 ·rename_i u n a x ws hop
  simp only[Bool.and_eq_true,beq_iff_eq] at hy
  obtain⟨huv,hws⟩:=hy
  subst huv
  unfold noGB at hg
  split at hg
  ·rename_i o ho
   have hgd:o.guard=none:=by simpa using hg
   have hod:o.dst=none:=by rw[← hdo o ho]; exact hd
   have hck:∀ e' r,chkR fr.s e' ws r=r:=by
    intro e' r
    unfold chkR
    split
    ·rw[zja hws]; rfl
    ·rfl
   have hev:∀ e',(ao ops y).ev call fid W fr e'=cond (zic u (x.ev fr.s) (a.ev fr.s)) (optE none .undef fr (z80 e' (z0o fr.s W ws) n (a.ev fr.s) (x.ev fr.s))) .bad:=by
    intro e'
    have:ao ops y=⟨none,none,.e (.stx u n a x) ws⟩:=by
     unfold ao; rw[z7g ho,hop]; unfold mkG; rw[hgd,hod]; rfl
    rw[this]
    exact hck e' _
   rw[hev] at hb
   cases hok:zic u (x.ev fr.s) (a.ev fr.s) with
   | false=>rw[hok] at hb; exact absurd rfl hb
   | true =>
    simp only[hok,cond_true] at hev
    clear hb
    generalize hav:a.ev fr.s=av at hok hev
    generalize hxv:x.ev fr.s=xv at hok hev
    generalize z0o fr.s W ws=W' at hev
    cases av<;>simp only[zic,Bool.false_eq_true] at hok
    case ptr l off =>
     cases l with
     | lo f b j=>simp at hok
     | gl i =>
      cases u with
      | true=>simp at hok
      | false =>
       simp only[cond_false] at hok
       refine⟨i,fun o=>cond (Nat.beq xv.cells.length n) (cond (free W' (.gl i)) (match o with | .cells t cs=>cond (Nat.ble (off+xv.cells.length) cs.length) (some (.cells t (z39 cs off xv.cells))) none | _=>none) none) none,fun e'=>?_,fun o o' h=>?_⟩
       ·rw[hev e']
        simp only[z80,z6s]
        cases Nat.beq xv.cells.length n with
        | false=>rfl
        | true =>
         cases free W' (.gl i) with
         | false=>rfl
         | true =>
          simp only[cond_true]
          cases e'.get (.gl i) with
          | cells t cs =>
           simp only[z8y]
           cases Nat.ble (off+xv.cells.length) cs.length with
           | false=>rfl
           | true=>simp only[cond_true]; rw[z7h hok]; rfl
          | _=>rfl
       ·obtain⟨_,h⟩:=z00 h
        obtain⟨_,h⟩:=z00 h
        split at h
        ·obtain⟨_,h⟩:=z00 h
         cases h
         exact⟨⟨_,_,rfl⟩,⟨_,_,rfl⟩⟩
        ·cases h
    case ep l sz idx off =>
     cases l with
     | lo f b j=>simp at hok
     | gl i =>
      simp only at hok
      subst hok
      refine⟨i,fun o=>cond (Nat.beq xv.cells.length n) (cond (free W' (.gl i)) (match o with | .vec z es=>cond (Nat.beq es.length sz) (z6g z idx off es xv es[idx]?) none | _=>none) none) none,fun e'=>?_,fun o o' h=>?_⟩
      ·rw[hev e']
       simp only[z80,z6s]
       cases Nat.beq xv.cells.length n with
       | false=>rfl
       | true =>
        cases free W' (.gl i) with
        | false=>rfl
        | true =>
         simp only[cond_true]
         cases e'.get (.gl i) with
         | vec z es =>
          simp only[zlt]
          cases Nat.beq es.length sz with
          | false=>rfl
          | true =>
           simp only[cond_true]
           rw[zj8]
           cases z6g z idx off es xv es[idx]?<;>rfl
         | _=>rfl
      ·obtain⟨_,h⟩:=z00 h
       obtain⟨_,h⟩:=z00 h
       split at h
       ·obtain⟨_,h⟩:=z00 h
        obtain⟨es',rfl⟩:=zex h
        exact⟨⟨_,_,rfl⟩,⟨_,_,rfl⟩⟩
       ·cases h
  ·cases hg
 ·cases hy
theorem set_gl_comm {e:E} {i j:Nat} {o o':Ob} (h:i≠j):(e.set (.gl i) o).set (.gl j) o'=(e.set (.gl j) o').set (.gl i) o:=by
 obtain⟨stk,glo,gl⟩:=e
 simp only[E.set]
 rw[List.set_comm _ _ h]
theorem zmv {x y:RI} {call:z06} {fr:Fr} {e:E} (hsw:zig y x=true) (hgy:noGB ops y=true) (hgx:noGB ops x=true) (hdy:∀ o,ops[y.idx]?=some o→y.dst=o.dst) (hdx:∀ o,ops[x.idx]?=some o→x.dst=o.dst)
  (hb:z0j call fid W ([y,x].map (ao ops)) fr e≠.bad):z0j call fid W ([x,y].map (ao ops)) fr e=z0j call fid W ([y,x].map (ao ops)) fr e:=by
 have two:∀ a b:RI,z0j call fid W ([a,b].map (ao ops)) fr e=R.bind (fun fr e=>R.bind (fun fr e=>.go fr e) ((ao ops b).ev call fid W fr e)) ((ao ops a).ev call fid W fr e):=fun a b=>rfl
 obtain⟨v,hsy,hsx⟩:∃ v,stxB v y=true∧stxB (!v) x=true:=by
  simp only[zig,Bool.or_eq_true,Bool.and_eq_true] at hsw
  rcases hsw with h | h
  ·exact⟨true,h⟩
  ·exact⟨false,h⟩
 rw[two] at hb
 have hby:(ao ops y).ev call fid W fr e≠.bad:=by intro h; rw[h] at hb; exact hb rfl
 obtain⟨i,f,hf,hfk⟩:=zjb hsy hgy hdy hby
 rw[hf e] at hb hby
 cases hfe:f (e.get (.gl i)) with
 | none=>rw[hfe] at hby; exact absurd rfl hby
 | some o₁ =>
  rw[hfe] at hb
  simp only[R.bind] at hb
  have hbx:(ao ops x).ev call fid W fr (e.set (.gl i) o₁)≠.bad:=by intro h; rw[h] at hb; exact hb rfl
  obtain⟨j,g,hgf,hgk⟩:=zjb hsx hgx hdx hbx
  rw[hgf] at hbx
  obtain⟨k1,k2⟩:=hfk _ _ hfe
  have hget:(e.set (.gl i) o₁).get (.gl i)=o₁:=E.get_set_same _ _ _ (zh9 k1)
  cases hge:g ((e.set (.gl i) o₁).get (.gl j)) with
  | none=>rw[hge] at hbx; exact absurd rfl hbx
  | some o₂ =>
   obtain⟨k3,k4⟩:=hgk _ _ hge
   have hij:i≠j:=by
    rintro rfl
    rw[hget] at k3
    exact zmu k2 k3
   have hgj:(e.set (.gl i) o₁).get (.gl j)=e.get (.gl j):=E.get_set_ne _ _ _ _ (by simpa using hij)
   have hgi:(e.set (.gl j) o₂).get (.gl i)=e.get (.gl i):=E.get_set_ne _ _ _ _ (by simpa using hij.symm)
   rw[two,two]
   simp only[hf,hgf,hfe,R.bind,hge]
   rw[hgj] at hge
   simp only[hge,R.bind,hf,hgi,hfe]
   rw[set_gl_comm hij]
theorem zha {y x:RI} {t:List RI} (h:z8f ops (y::t)=true) (hx:x∈t) (hu:zfl y x=true):t=[x]∧noGB ops y=true∧noGB ops x=true∧zag x y=true:=by
 simp only[z8f,Bool.and_eq_true] at h
 obtain⟨h,_⟩:=h
 split at h
 ·rename_i z
  simp only[List.mem_singleton] at hx
  subst hx
  simp only[Bool.or_eq_true,Bool.not_eq_true',Bool.and_eq_true] at h
  rcases h with h | h
  ·rw[hu] at h; cases h
  ·exact⟨rfl,h.1,h.2.1,h.2.2⟩
 ·have:=List.all_eq_true.1 h x hx
  rw[hu] at this; cases this
theorem z8q {call:z06} (hp:z0n call) (hok:z3l P call) (hR:RegOK P nt ops b L) {r:R} (hrb:r≠.bad):∀ (fuel:Nat) {listed:Array Bool} {D rem:List RI} {fr:Fr} {e:E} {a:Act} {w:World} {κ:K},(D++rem).length≤fuel→z8f ops rem=true →
  DInv P nt ops L W e₀ κ₀ fid B w₀ listed D rem fr e a w κ→r=z0j call fid W (rem.map (ao ops)) fr e→wpAny P .any ops (z5e W e₀ κ₀ fid B nt w₀ r) fuel listed a w
 | fuel,listed,D,rem,fr,e,a,w,κ,hlen,hsw,h,hr=>by
  obtain⟨D',rem',fr',e',h1,h2,h3,h4,h5⟩:=h.norm hp hR hr hrb
  rw[← h4] at hlen
  have hsw:=h5 hsw
  clear h hr h4 h5
  have hfin:Region.ready .any ops listed=[]→z5e W e₀ κ₀ fid B nt w₀ r .normal a w:=fun hn=>h2.fin (h2.done hR hn) h1
  have hunl:∀ z∈D'++rem',listed.getD z.idx false=false:=by
   intro z hz
   obtain⟨o,_,_,_,_,i1,_⟩:=hR.item z (h2.sub z hz)
   exact zew ((h2.cov z.idx (Array.getElem?_eq_some_iff.1 i1).1).2 ⟨z,hz,rfl⟩)
  match fuel with
  | 0 =>
   have hnil:D'++rem'=[]:=List.length_eq_zero_iff.1 (by omega)
   refine⟨?_,h2.fin hnil h1⟩
   cases hre:Region.ready .any ops listed with
   | nil=>rfl
   | cons i t =>
    exfalso
    have hi:i∈Region.ready .any ops listed:=by rw[hre]; simp
    obtain⟨hl,o,ho,_⟩:=mem_ready.1 hi
    obtain⟨x,hx,_⟩:=(h2.cov i (Array.getElem?_eq_some_iff.1 ho).1).1 hl
    rw[hnil] at hx; cases hx
  | fuel+1 =>
   refine⟨hfin,fun i hi=>?_⟩
   obtain⟨hl,o,ho,hed⟩:=mem_ready.1 hi
   have hed:∀ ed∈o.after.toList,Region.binds .any ed=true→listed.getD ed.on false=true:=fun ed hm hb=>hed ed (Array.mem_toList_iff.1 hm) hb
   obtain⟨x,hx,rfl⟩:=(h2.cov i (Array.getElem?_eq_some_iff.1 ho).1).1 hl
   obtain⟨_,_,_,_,_,_,_,_,_,_,hbef,_⟩:=hR.item x (h2.sub x hx)
   have hpr:∀ k,x.bef.testBit k=true→listed.getD k false=true:=fun k hk=>zeu hR h2.dc x.idx o ho hed k (by rw[← hbef]; exact hk)
   rcases List.mem_append.1 hx with hxD | hxr
   ·obtain⟨D₁,D₂,rfl⟩:=List.append_of_mem hxD
    refine h2.lated hR ho hed hpr (fun z hz=>hunl z (List.mem_append_left _ hz)) fun val w' κ' hd=>?_
    refine z8q hp hok hR hrb fuel ?_ hsw hd h1
    simp at hlen ⊢; omega
   ·rcases h3 with rfl | ⟨y,t,rfl,hys⟩
    ·cases hxr
    ·rcases List.mem_cons.1 hxr with rfl | hxt
     ·refine h2.syncd hp hok hR ho hed hpr (fun z hz=>hunl z (List.mem_append_left _ hz)) h1 hrb fun val w' κ' fr'' e'' hr'' hd=>?_
      refine z8q hp hok hR hrb fuel ?_ (zb0 hsw) hd hr''
      simp at hlen ⊢; omega
     ·have hpw:=h2.pw
      rw[List.pairwise_append] at hpw
      have hyx:=(List.pairwise_cons.1 hpw.2.1).1 x hxt
      cases hbt:x.bef.testBit y.idx with
      | true =>
       exfalso
       have:=hpr y.idx hbt
       rw[hunl y (by simp)] at this; cases this
      | false =>
       have hswp:zig y x=true:=((z0r hyx).2.2.2.2.1 hys).resolve_left (by rw[hbt]; simp)
       obtain⟨rfl,hgy,hgx,hxy⟩:=zha hsw hxt (by simp[zfl,hys,hbt])
       have hdst:∀ z∈L,∀ o,ops[z.idx]?=some o→z.dst=o.dst:=by
        intro z hz o ho'
        obtain⟨o',_,_,_,_,i1,_,_,_,i5,_⟩:=hR.item z hz
        rw[ho'] at i1; cases i1; exact i5
       have hr2:r=z0j call fid W ([x,y].map (ao ops)) fr' e':=by
        rw[zmv hswp hgy hgx (hdst y (h2.sub y (by simp))) (hdst x (h2.sub x (by simp))) (by rw[← h1]; exact hrb)]
        exact h1
       have hmem:∀ z,z∈D'++[x,y]↔z∈D'++[y,x]:=by
        intro z; simp only[List.mem_append,List.mem_cons,List.not_mem_nil,or_false]
        constructor<;>rintro(h | h | h)<;>simp[h]
       have h2':DInv P nt ops L W e₀ κ₀ fid B w₀ listed D' [x,y] fr' e' a w κ:=by
        refine⟨h2.sz,fun i hi=>?_,h2.dc,fun z hz=>h2.sub z ((hmem z).1 hz),?_,h2.dns,h2.sl,h2.del,h2.le,h2.gr,h2.keep,h2.st,h2.inn,h2.asz,h2.adf⟩
        ·rw[h2.cov i hi]
         exact⟨fun⟨z,hz,he⟩=>⟨z,(hmem z).2 hz,he⟩,fun⟨z,hz,he⟩=>⟨z,(hmem z).1 hz,he⟩⟩
        ·rw[List.pairwise_append]
         refine⟨hpw.1,.cons (fun z hz=>by simp at hz; subst hz; exact hxy) (.cons (by simp) .nil),fun z hz u hu=>?_⟩
         refine hpw.2.2 z hz u ?_
         simp only[List.mem_cons,List.not_mem_nil,or_false] at hu ⊢
         exact hu.symm
       have hsw':z8f ops [y]=true:=rfl
       refine h2'.syncd hp hok hR ho hed hpr (fun z hz=>hunl z (List.mem_append_left _ hz)) hr2 hrb fun val w' κ' fr'' e'' hr'' hd=>?_
       refine z8q hp hok hR hrb fuel ?_ hsw' hd hr''
       simp at hlen ⊢; omega
end
end Go.Abs
