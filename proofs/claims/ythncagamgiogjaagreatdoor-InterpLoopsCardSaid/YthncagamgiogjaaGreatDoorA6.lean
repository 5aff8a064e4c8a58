/- On the way to: InterpLoops returns true; its listed variables read as the text lays them. -/
import Derived.Test.YthncagamgiogjaaGreatDoorA5
import Derived.Lib.Builder
import Derived.Lib.UnsafeStr
set_option autoImplicit false
set_option linter.unusedSectionVars false
set_option linter.unusedSimpArgs false
set_option linter.unusedVariables false
namespace Go.Abs
open Go Go.RowKit
variable [Glob]
def z1b:List Value→Nat→List Value→List Value
 | us,_,[]=>us
 | us,off,v::rest=>z1b (us.set off v) (off+1) rest
theorem z1c (vs:List Value):∀ (us:List Value) (off:Nat),(z1b us off vs).length=us.length:=by
 induction vs with
 | nil=>intro us off; rfl
 | cons v vs ih=>intro us off; simp only[z1b,ih,List.length_set]
theorem z1v (vs:List Value):∀ (us:List Value) (off p:Nat),off+vs.length≤us.length→(z1b us off vs)[p]?=if off≤p∧p < off+vs.length then vs[p - off]? else us[p]?:=by
 induction vs with
 | nil=>intro us off p _; rw[if_neg (by simp only[List.length_nil]; omega)]; rfl
 | cons v vs ih =>
  intro us off p hl
  simp only[List.length_cons] at hl ⊢
  rw[z1b,ih _ _ _ (by simp; omega)]
  by_cases h1:off+1≤p∧p < off+1+vs.length
  ·rw[if_pos h1,if_pos (by omega)]
   have:p - off=(p - (off+1))+1:=by omega
   rw[this,List.getElem?_cons_succ]
  ·rw[if_neg h1]
   by_cases h2:p=off
   ·subst h2
    rw[if_pos (by omega),List.getElem?_set_self (by omega)]
    simp
   ·rw[if_neg (by omega),List.getElem?_set_ne (Ne.symm h2)]
theorem zgx (vs:List Value):∀ (k off:Nat) (cells:Array Value),((vs.zipIdx k).foldl (fun cs (p:Value × Nat)=>cs.setIfInBounds (off+p.2) p.1) cells).toList=z1b cells.toList (off+k) vs:=by
 induction vs with
 | nil=>intro k off cells; rfl
 | cons v vs ih =>
  intro k off cells
  simp only[List.zipIdx_cons,List.foldl_cons,z1b]
  rw[ih (k+1) off]
  simp only[Array.toList_setIfInBounds,Nat.add_assoc]
theorem z9d (v:Value) (off:Nat) (cells:Array Value):(v.cells.zipIdx.foldl (fun cs (p:Value × Nat)=>cs.setIfInBounds (off+p.2) p.1) cells).toList=z1b cells.toList off v.cells.toList:=by
 rw[← Array.foldl_toList,Array.toList_zipIdx,zgx]
 simp
section
variable {P:Program} {κ:K}
theorem VRs.fill {xs:List AV}:∀ {cs:List AV} {us vs:List Value} {off:Nat},VRs κ cs us→VRs κ xs vs→VRs κ (z39 cs off xs) (z1b us off vs):=by
 induction xs with
 | nil =>
  intro cs us vs off h h'
  have:vs=[]:=by have:=h'.1; simpa using this
  subst this; exact h
 | cons x xs ih =>
  intro cs us vs off h h'
  cases vs with
  | nil=>have:=h'.1; simp at this
  | cons v vs =>
   have h1:v.oneCell'=true:=h'.2.2 0 v rfl
   obtain⟨hx,ht⟩:=h'.tail
   refine ih ?_ ht
   obtain⟨p,q,r⟩:=h
   refine⟨by simpa using p,fun i c u hc hu=>?_,fun i u hu=>?_⟩
   ·rw[List.getElem?_set] at hc hu
    by_cases hi:off=i
    ·subst hi
     rw[if_pos rfl] at hc hu
     split at hc
     ·split at hu
      ·cases hc; cases hu; exact hx
      ·cases hu
     ·cases hc
    ·rw[if_neg hi] at hc hu
     exact q i c u hc hu
   ·rw[List.getElem?_set] at hu
    by_cases hi:off=i
    ·subst hi
     rw[if_pos rfl] at hu
     split at hu
     ·cases hu; exact h1
     ·cases hu
    ·rw[if_neg hi] at hu
     exact r i u hu
inductive PartR (κ:K) (s:Tm) (ρ:Operand→Value) (place:Nat→Option (Nat × Nat)):List (Nat × Nat × AX)→List (Nat × Operand)→Prop
 | nil:PartR κ s ρ place [] []
 | cons {i off n:Nat} {x:Operand} {ax:AX} {l:List (Nat × Nat × AX)} {ps:List (Nat × Operand)} (hp:place i=some (off,n)) (hn:1≤n) (hx:VR κ (ax.ev s) (ρ x)) (h:PartR κ s ρ place l ps) :
   PartR κ s ρ place ((off,n,ax)::l) ((i,x)::ps)
theorem zfu {s:Tm} {ρ:Operand→Value} {place:Nat→Option (Nat × Nat)} {l:List (Nat × Nat × AX)} {ps:List (Nat × Operand)} (hp:PartR κ s ρ place l ps) :
  ∀ {cs cs':List AV} {cells:Array Value},bldA s cs l=some cs'→VRs κ cs cells.toList→∃ cells',Instr.fill place cells (ps.map fun(i,x)=>(i,ρ x))=some cells'∧VRs κ cs' cells'.toList:=by
 induction hp with
 | nil=>intro cs cs' cells h hc; simp only[bldA,Option.some.injEq] at h; subst h; exact⟨cells,rfl,hc⟩
 | cons hp hn hx _ ih =>
  rename_i i off n x ax l ps _
  intro cs cs' cells h hc
  simp only[bldA] at h
  obtain⟨hck,h⟩:=z00 h
  simp only[Bool.and_eq_true,z03,Nat.ble_eq] at hck
  have hne:(ax.ev s).cells≠[]:=by intro e; rw[e] at hck; simp at hck; omega
  have hcl:=hx.cells hne
  have hsz:(ρ x).cells.size=n:=by have:=hcl.1; simp at this; omega
  have hcs:cells.size=cs.length:=by have:=hc.1; simpa using this
  have h1:¬ ((ρ x).cells.size≠n):=by omega
  have h2:¬ (off+(ρ x).cells.size > cells.size):=by omega
  have hstep:VRs κ (z39 cs off (ax.ev s).cells) ((ρ x).cells.zipIdx.foldl (fun cs (p:Value × Nat)=>cs.setIfInBounds (off+p.2) p.1) cells).toList:=by
   rw[z9d]; exact hc.fill hcl
  obtain⟨cells',h3,h4⟩:=ih h hstep
  refine⟨cells',?_,h4⟩
  simp only[List.map_cons,Instr.fill,hp]
  rw[if_neg (by simp only[Bool.or_eq_true,decide_eq_true_eq,not_or]; exact⟨h1,h2⟩)]
  exact h3
theorem zgy {fs:List Field}:∀ {places:List (Nat × Nat)},fs.mapM (fun f=>(P.info? f.type).map fun i=>(f.offset,i.size))=some places→∀ (i:Nat) (f:Field),fs[i]?=some f→∃ n,z13 P f.type=some n∧places[i]?=some (f.offset,n):=by
 induction fs with
 | nil=>intro places _ i f h; simp at h
 | cons f fs ih =>
  intro places h i g hg
  simp only[List.mapM_cons,Option.bind_eq_bind,Option.pure_def] at h
  cases hi:P.info? f.type with
  | none=>simp[hi] at h
  | some inf =>
   cases hr:fs.mapM (fun f=>(P.info? f.type).map fun i=>(f.offset,i.size)) with
   | none=>simp[hi,hr] at h
   | some rest =>
    simp[hi,hr] at h
    subst h
    cases i with
    | zero=>simp at hg; subst hg; exact⟨inf.size,by simp[z13,hi],rfl⟩
    | succ i=>simp at hg; simpa using ih hr i g hg
theorem zdc {s:Tm} {ρ:Operand→Value} {fs:List Field} {places:List (Nat × Nat)} (hpl:fs.mapM (fun f=>(P.info? f.type).map fun i=>(f.offset,i.size))=some places) :
  ∀ {ps:List (Nat × Operand)} {l:List (Nat × Nat × AX)},parts P fs ps=some l→Opd κ s ρ (ps.map (·.2))→PartR κ s ρ (places.toArray[·]?) l ps
 | [],l,h,_=>by simp only[parts,Option.some.injEq] at h; subst h; exact .nil
 | (i,x)::rest,l,h,hx=>by
  simp only[parts] at h
  split at h
  ·rename_i f ax l' h1 h2 h3
   split at h
   ·rename_i n hn
    cases h
    obtain⟨hn1,hn2⟩:=z22 hn
    obtain⟨m,h4,h5⟩:=zgy hpl i f h1
    rw[hn1] at h4; cases h4
    exact .cons (by simpa using h5) hn2 (hx x (by simp) ax h2) (zdc hpl h3 fun y hy=>hx y (by simp at hy ⊢; exact .inr hy))
   ·cases h
  ·cases h
theorem zar {s:Tm} {ρ:Operand→Value} {n:Nat} (hn:1≤n) :
  ∀ {ps:List (Nat × Operand)} {l:List (Nat × Nat × AX)},zan n ps=some l→Opd κ s ρ (ps.map (·.2))→PartR κ s ρ (fun i=>some (i * n,n)) l ps
 | [],l,h,_=>by simp only[zan,Option.some.injEq] at h; subst h; exact .nil
 | (i,x)::rest,l,h,hx=>by
  simp only[zan] at h
  split at h
  ·rename_i ax l' h2 h3
   cases h
   exact .cons rfl hn (hx x (by simp) ax h2) (zar hn h3 fun y hy=>hx y (by simp at hy ⊢; exact .inr hy))
  ·cases h
theorem zdd {t:TypeId} {z:List AV} (h:z79 P t=some (.agg z)) (κ:K):∃ it zv,P.info? t=some it∧it.zero=some zv∧VRs κ z zv.cells.toList:=by
 obtain⟨zv,h1,h2⟩:=z3d h
 cases hi:P.info? t with
 | none=>simp[hi] at h1
 | some it =>
  simp[hi] at h1
  obtain⟨A,rfl,hA⟩:=(z3i h2 κ).agg_inv
  exact⟨it,_,rfl,h1,hA⟩
theorem zgz {t:TypeId} {fs:Array Field} {z cs:List AV} {ps:Array (Nat × Operand)} {l:List (Nat × Nat × AX)} {s:Tm} {ρ:Operand→Value} (hu:P.underlying t=some (.struct fs)) (hz:z79 P t=some (.agg z)) (hpl:zee P fs.toList=true)
  (hp:parts P fs.toList ps.toList=some l) (hx:Opd κ s ρ (ps.toList.map (·.2))) (h:bldA s z l=some cs) (w:World) :
  ∃ u,(Instr.build t (ps.map fun(i,x)=>(i,ρ x))).run P w=.ok u w∧VR κ (.agg cs) u:=by
 obtain⟨it,zv,hi,hzv,hc⟩:=zdd hz κ
 unfold zee at hpl
 obtain⟨places,hpl⟩:=Option.isSome_iff_exists.1 hpl
 obtain⟨cells',h1,h2⟩:=zfu (zdc hpl hp hx) h hc
 refine⟨.agg cells',run_build w t _ _ ?_,h2.agg⟩
 unfold Program.built
 simp only[hi,hu,hzv,hpl]
 rw[Array.toList_map]
 exact h1
theorem ziw {t e:TypeId} {len n:Nat} {z cs:List AV} {ps:Array (Nat × Operand)} {l:List (Nat × Nat × AX)} {s:Tm} {ρ:Operand→Value} (hu:P.underlying t=some (.array len e)) (hz:z79 P t=some (.agg z)) (hn:z6d P e=some n)
  (hp:zan n ps.toList=some l) (hx:Opd κ s ρ (ps.toList.map (·.2))) (h:bldA s z l=some cs) (w:World) :
  ∃ u,(Instr.build t (ps.map fun(i,x)=>(i,ρ x))).run P w=.ok u w∧VR κ (.agg cs) u:=by
 obtain⟨it,zv,hi,hzv,hc⟩:=zdd hz κ
 obtain⟨hn1,hn2⟩:=z22 hn
 obtain⟨cells',h1,h2⟩:=zfu (zar hn2 hp hx) h hc
 refine⟨.agg cells',run_build w t _ _ ?_,h2.agg⟩
 unfold Program.built
 cases hie:P.info? e with
 | none=>simp[z13,hie] at hn1
 | some ie =>
  have:ie.size=n:=by simpa [z13,hie] using hn1
  simp only[hi,hu,hzv,hie,this]
  rw[Array.toList_map]
  exact h1
end
end Go.Abs
namespace Go.Abs
open Go Go.RowKit
variable [Glob]
theorem St.allocValF {κ:K} {e:E} {B:Nat} {w₀ w:World} {arr:Array Value} {t:TypeId} (f:Nat × Nat) (h:St κ e B w₀ w) :
  κ.le (κ.addVal w.heap.size (fun i=>arr[i]?))∧Same κ (κ.addVal w.heap.size (fun i=>arr[i]?))∧St (κ.addVal w.heap.size (fun i=>arr[i]?)) e B w₀ (w.alloc (.cells arr t f)):=by
 have hnr:=h.new_role
 have hfz:∀ i,κ.fz w.heap.size i=none:=by
  intro i
  cases hf:κ.fz w.heap.size i with
  | none=>rfl
  | some u=>have:=h.rf _ i u hf; rw[hnr] at this; cases this
 have hle:κ.le (κ.addVal w.heap.size (fun i=>arr[i]?)):=K.le_addVal (fun i u hu=>by rw[hfz] at hu; cases hu)
 refine⟨hle,⟨rfl,rfl,rfl,rfl⟩,?_⟩
 refine h.step (w':=w.alloc (.cells arr t f)) hle w.heap.size rfl rfl rfl (by simp) h.size (fun b hb _=>z28 hb) ?_ ?_ ?_ ?_ ?_ ?_ ?_ ?_ ?_ ?_ ?_ ?_ ?_ (fun _ _ _ hx=>by simp at hx) (fun _ _ _ _ ht=>.inl ht)
 ·intro b hbb; simp[K.addVal,hbb]
 ·intro _; simp
 ·intro l b hl
  have:=h.ro l b hl
  have hne:b≠w.heap.size:=by rintro rfl; rw[hnr] at this; cases this
  simpa [K.addVal,hne] using this
 ·intro l b hl
  by_cases hne:b=w.heap.size
  ·subst hne; simp[K.addVal] at hl
  ·simp[K.addVal,hne] at hl; exact h.oo l b hl
 ·intro l z es b z' c hge hv
  have:=h.rv l z es b z' c hge hv
  have hne:b≠w.heap.size:=by rintro rfl; rw[hnr] at this; cases this.1
  simpa [K.addVal,hne] using this
 ·intro b i hbb; simp[K.addVal,hbb]
 ·intro i u _; simp[K.addVal]
 ·intro k b i c hk ht
  have:=h.rt k b i c hk ht
  have hne:b≠w.heap.size:=by rintro rfl; rw[hnr] at this; cases this
  exact .inl ⟨hne,hk,ht⟩
 ·intro k k' i c i' c' hk _ ht _
  have:=h.rt k _ i c hk ht
  rw[hnr] at this; cases this
 ·exact h.vn
 ·intro l b _ _; exact .inl ⟨rfl,rfl⟩
 ·intro l b z es c _ _ hge hv; exact⟨hge,hv⟩
 ·have hrl:(κ.addVal w.heap.size (fun i=>arr[i]?)).role w.heap.size=.val:=by simp[K.addVal]
  rw[hrl]
  refine⟨arr,t,f,heap_alloc_new w _,fun i u hu=>by simpa [K.addVal] using hu,fun k i c hk ht=>?_⟩
  have:=h.rt k _ i c hk ht
  rw[hnr] at this; cases this
theorem St.allocVal {κ:K} {e:E} {B:Nat} {w₀ w:World} {arr:Array Value} {t:TypeId} (h:St κ e B w₀ w) :
  κ.le (κ.addVal w.heap.size (fun i=>arr[i]?))∧Same κ (κ.addVal w.heap.size (fun i=>arr[i]?))∧St (κ.addVal w.heap.size (fun i=>arr[i]?)) e B w₀ (w.alloc (.cells arr t)):=h.allocValF (0,0)
def RowR (κ:K) (z:Nat) (es:List AV) (us:List Value):Prop :=
 us.length=es.length * z∧(∀ (i:Nat) (x:AV),es[i]?=some x→x.cells.length=z∧∀ (j:Nat) (y:AV),x.cells[j]?=some y→∃ u,us[i * z+j]?=some u∧VR κ y u)∧∀ u∈us,u.oneCell'=true
theorem RowR.mono {κ κ':K} {z:Nat} {es:List AV} {us:List Value} (hle:κ.le κ') (h:RowR κ z es us):RowR κ' z es us :=
 ⟨h.1,fun i x hx=>⟨(h.2.1 i x hx).1,fun j y hy=>by obtain⟨u,p,q⟩:=(h.2.1 i x hx).2 j y hy; exact⟨u,p,q.mono hle⟩⟩,h.2.2⟩
theorem zmn {i j z p q:Nat} (hj:j < z) (hq:q < z) (h:i * z+j=p * z+q):i=p∧j=q:=by
 have hz:0 < z:=by omega
 have h1:(i * z+j) / z=i:=by rw[Nat.mul_comm,Nat.mul_add_div hz,Nat.div_eq_of_lt hj]; rfl
 have h2:(p * z+q) / z=p:=by rw[Nat.mul_comm,Nat.mul_add_div hz,Nat.div_eq_of_lt hq]; rfl
 rw[h] at h1
 have:i=p:=by omega
 subst this
 exact⟨rfl,by omega⟩
theorem z9e {i n z j:Nat} (hi:i < n) (hj:j < z):i * z+j < n * z:=by
 have:(i+1) * z≤n * z:=Nat.mul_le_mul_right _ hi
 rw[Nat.add_mul] at this
 omega
theorem RowR.set {κ:K} {z:Nat} {es:List AV} {us:List Value} {i:Nat} {x:AV} {vs:List Value} (h:RowR κ z es us) (hi:i < es.length) (hx:VRs κ x.cells vs) (hl:x.cells.length=z) :
  RowR κ z (es.set i x) (z1b us (i * z) vs):=by
 obtain⟨h1,h2,h3⟩:=h
 have hvl:vs.length=z:=by rw[hx.1,hl]
 have hfit:i * z+vs.length≤us.length:=by
  rw[h1,hvl]
  calc i * z+z=(i+1) * z:=by rw[Nat.add_mul,Nat.one_mul]
   _≤es.length * z:=Nat.mul_le_mul_right _ hi
 refine⟨by rw[z1c,h1,List.length_set],fun k y hk=>?_,fun u hu=>?_⟩
 ·rw[List.getElem?_set] at hk
  by_cases hik:i=k
  ·subst hik
   rw[if_pos rfl,if_pos hi] at hk
   cases hk
   refine⟨hl,fun j c hj=>?_⟩
   have hjz:j < z:=by have:=(List.getElem?_eq_some_iff.1 hj).1; omega
   refine⟨vs[j]'(by omega),?_,hx.2.1 j c _ hj (by simp)⟩
   rw[z1v _ _ _ _ hfit,if_pos (by omega)]
   have:i * z+j - i * z=j:=by omega
   rw[this]; simp
  ·rw[if_neg hik] at hk
   obtain⟨p,q⟩:=h2 k y hk
   refine⟨p,fun j c hj=>?_⟩
   obtain⟨u,e,v⟩:=q j c hj
   have hjz:j < z:=by have:=(List.getElem?_eq_some_iff.1 hj).1; omega
   refine⟨u,?_,v⟩
   rw[z1v _ _ _ _ hfit,if_neg]
   ·exact e
   ·intro hc
    have:k * z+j=i * z+(k * z+j - i * z):=by omega
    exact hik (zmn hjz (by omega) this).1.symm
 ·obtain⟨p,hp⟩:=List.getElem?_of_mem hu
  rw[z1v _ _ _ _ hfit] at hp
  split at hp
  ·exact hx.2.2 _ _ hp
  ·exact h3 u (List.mem_of_getElem? hp)
theorem RowR.zeros {κ:K} {zero:AV} {zs:Array Value} (hz:VRs κ zero.cells zs.toList) (hp:0 < zero.cells.length) (n:Nat) :
  RowR κ zero.cells.length (List.replicate n zero) (((Array.range (n * zs.size)).map (zs[· % zs.size]!)).toList):=by
 have hs:zs.size=zero.cells.length:=by have:=hz.1; simpa using this
 refine⟨by simp[hs],fun i x hx=>?_,fun u hu=>?_⟩
 ·have hi:i < n:=by have:=(List.getElem?_eq_some_iff.1 hx).1; simpa using this
  have hx':x=zero:=by rw[List.getElem?_replicate,if_pos hi] at hx; exact(Option.some.inj hx).symm
  subst hx'
  refine⟨rfl,fun j y hy=>?_⟩
  have hj:j < x.cells.length:=(List.getElem?_eq_some_iff.1 hy).1
  have hlt:i * x.cells.length+j < n * x.cells.length:=z9e hi hj
  have hmod:(i * x.cells.length+j) % x.cells.length=j:=by rw[Nat.mul_comm,Nat.mul_add_mod,Nat.mod_eq_of_lt hj]
  obtain⟨u,hu⟩:∃ u,zs[j]?=some u:=by
   have:j < zs.size:=by omega
   exact⟨zs[j],by simp[this]⟩
  refine⟨u,?_,hz.2.1 j y u hy (by simpa using hu)⟩
  simp only[Array.toList_map,Array.toList_range,List.getElem?_map,hs,List.getElem?_range hlt,Option.map_some,hmod]
  rw[getElem!_def,hu]
 ·simp only[Array.toList_map,Array.toList_range,List.mem_map,List.mem_range] at hu
  obtain⟨p,hp',rfl⟩:=hu
  have hq:p % zs.size < zs.size:=Nat.mod_lt _ (by omega)
  rw[getElem!_pos zs _ hq]
  exact hz.2.2 (p % zs.size) _ (by simp[hq])
section
variable {P:Program} {κ:K}
inductive ElemR (κ:K) (s:Tm) (ρ:Operand→Value):List (Nat × AX)→List (Nat × Operand)→Prop
 | nil:ElemR κ s ρ [] []
 | cons {i:Nat} {x:Operand} {ax:AX} {l:List (Nat × AX)} {ps:List (Nat × Operand)} (hx:VR κ (ax.ev s) (ρ x)) (h:ElemR κ s ρ l ps):ElemR κ s ρ ((i,ax)::l) ((i,x)::ps)
theorem zh {s:Tm} {ρ:Operand→Value} {z:Nat} (hz:1≤z) {l:List (Nat × AX)} {ps:List (Nat × Operand)} (hp:ElemR κ s ρ l ps) :
  ∀ {es es':List AV} {cells:Array Value},bslA s z es l=some es'→RowR κ z es cells.toList→∃ cells',Instr.fill (fun i=>some (i * z,z)) cells (ps.map fun(i,x)=>(i,ρ x))=some cells'∧RowR κ z es' cells'.toList:=by
 induction hp with
 | nil=>intro es es' cells h hc; simp only[bslA,Option.some.injEq] at h; subst h; exact⟨cells,rfl,hc⟩
 | cons hx _ ih =>
  rename_i i x ax l ps _
  intro es es' cells h hc
  simp only[bslA] at h
  obtain⟨hck,h⟩:=z00 h
  simp only[Bool.and_eq_true,z03,Nat.blt_eq] at hck
  have hne:(ax.ev s).cells≠[]:=by intro e; rw[e] at hck; simp at hck; omega
  have hcl:=hx.cells hne
  have hsz:(ρ x).cells.size=z:=by have:=hcl.1; simp at this; omega
  have hcs:cells.size=es.length * z:=by have:=hc.1; simpa using this
  have hfit:i * z+z≤es.length * z:=by
   calc i * z+z=(i+1) * z:=by rw[Nat.add_mul,Nat.one_mul]
    _≤es.length * z:=Nat.mul_le_mul_right _ hck.2
  have h1:¬ ((ρ x).cells.size≠z):=by omega
  have h2:¬ (i * z+(ρ x).cells.size > cells.size):=by omega
  have hstep:RowR κ z (es.set i (ax.ev s)) ((ρ x).cells.zipIdx.foldl (fun cs (p:Value × Nat)=>cs.setIfInBounds (i * z+p.2) p.1) cells).toList:=by
   rw[z9d]; exact hc.set hck.2 hcl hck.1
  obtain⟨cells',h3,h4⟩:=ih h hstep
  refine⟨cells',?_,h4⟩
  simp only[List.map_cons,Instr.fill]
  rw[if_neg (by simp only[Bool.or_eq_true,decide_eq_true_eq,not_or]; exact⟨h1,h2⟩)]
  exact h3
theorem zas {s:Tm} {ρ:Operand→Value}:∀ {ps:List (Nat × Operand)} {l:List (Nat × AX)},zao ps=some l→Opd κ s ρ (ps.map (·.2))→ElemR κ s ρ l ps
 | [],l,h,_=>by simp only[zao,Option.some.injEq] at h; subst h; exact .nil
 | (i,x)::rest,l,h,hx=>by
  simp only[zao] at h
  split at h
  ·rename_i ax l' h2 h3
   cases h
   exact .cons (hx x (by simp) ax h2) (zas h3 fun y hy=>hx y (by simp at hy ⊢; exact .inr hy))
  ·cases h
theorem z9f {s:Tm} {z:Nat}:∀ {l:List (Nat × AX)} {es es':List AV},bslA s z es l=some es'→es'.length=es.length
 | [],es,es',h=>by simp only[bslA,Option.some.injEq] at h; rw[h]
 | (i,x)::l,es,es',h=>by
  simp only[bslA] at h
  obtain⟨_,h⟩:=z00 h
  rw[z9f h,List.length_set]
theorem z3e {t:TypeId} {n:Nat} {z:AV} (h:z7a P t=some (n,z)) (κ:K):∃ it zv,P.info? t=some it∧it.size=n∧it.zero=some zv∧VRs κ z.cells zv.cells.toList∧z.cells.length=n∧1≤n:=by
 unfold z7a at h
 split at h
 ·rename_i m z' hm hz
  obtain⟨hc,h⟩:=z00 h
  cases h
  obtain⟨h1,h2⟩:=z22 hm
  obtain⟨zv,h3,h4⟩:=z3d hz
  cases hi:P.info? t with
  | none=>simp[hi] at h3
  | some it =>
   have hl:=z03.1 hc
   exact⟨it,zv,rfl,by simpa [z13,hi] using h1,by simpa [hi] using h3,(z3i h4 κ).cells (by intro e; rw[e] at hl; simp at hl; omega),hl,h2⟩
 ·cases h
theorem RowR.slice {κ:K} {z b:Nat} {es:List AV} {arr:Array Value} (h:RowR κ z es arr.toList) (hf:∀ i u,arr[i]?=some u→κ.fz b i=some u) (k:Nat) (hk:k < 2) (hz1:1≤z) :
  VR κ (.sl k z es) (.slice (some ⟨b,0,none⟩) es.length es.length):=by
 obtain⟨h1,h2,h3⟩:=h
 refine .sl (fun i j=>(arr[i * z+j]?).getD (.bool true)) (Nat.le_refl _) (fun i x hx=>(h2 i x hx).1) (fun i x j c hx hc=>?_) (fun i x j c hx hc=>?_) (fun i j=>?_) (fun _=>rfl) (fun hk'=>by omega) hz1
 ·obtain⟨u,hu,_⟩:=(h2 i x hx).2 j c hc
  have hu':arr[i * z+j]?=some u:=by simpa using hu
  rw[Nat.zero_add,hu']
  exact hf _ u hu'
 ·obtain⟨u,hu,hv⟩:=(h2 i x hx).2 j c hc
  have hu':arr[i * z+j]?=some u:=by simpa using hu
  rw[hu']; exact hv
 ·cases hu:arr[i * z+j]? with
  | none=>rfl
  | some u=>exact h3 u (Array.mem_toList_iff.2 (Array.mem_of_getElem? hu))
theorem bsl_sim {t el:TypeId} {len n:Nat} {zero v:AV} {ps:Array (Nat × Operand)} {l:List (Nat × AX)} {s:Tm} {ρ:Operand→Value} {e:E} {B:Nat} {w₀ w:World} (hu:P.underlying t=some (.slice el)) (hz:z7a P el=some (n,zero)) (hlen:len * n≤16777216)
  (hp:zao ps.toList=some l) (hx:Opd κ s ρ (ps.toList.map (·.2))) (h:slO n (bslA s n (List.replicate len zero) l)=some v) (hst:St κ e B w₀ w) :
  ∃ u w' κ',(Instr.buildSlice t len (ps.map fun(i,x)=>(i,ρ x))).run P w=.ok u w'∧VR κ' v u∧κ.le κ'∧Same κ κ'∧St κ' e B w₀ w':=by
 obtain⟨it,zv,hi,hsz,hzv,hc,hzl,hn⟩:=z3e hz κ
 cases hb:bslA s n (List.replicate len zero) l with
 | none=>simp[hb,slO] at h
 | some es =>
  simp only[hb,slO,Option.some.injEq] at h
  subst h
  have hrow:=RowR.zeros hc (by omega) len
  have hzs:zv.cells.size=n:=by have:=hc.1; simp at this; omega
  rw[hzl,hzs] at hrow
  obtain⟨cells,h1,h2⟩:=zh hn (zas hp hx) hb hrow
  have hel:es.length=len:=by rw[z9f hb]; simp
  obtain⟨a1,a2,a3⟩:=hst.allocVal (arr:=cells) (t:=el)
  refine⟨.slice (some ⟨w.heap.size,0,none⟩) len len,w.alloc (.cells cells el),_,?_,?_,a1,a2,a3⟩
  ·have h1':Instr.fill (fun i=>some (i * n,n)) ((Array.range (len * n)).map (zv.cells[· % zv.cells.size]!)) (ps.map fun(i,x)=>(i,ρ x)).toList=some cells:=by
    rw[Array.toList_map,hzs]; exact h1
   have hle:¬ (2 ^ 24 < len * n):=by omega
   by_cases h0:len * n=0
   ·have h1'':Instr.fill (fun i=>some (i * n,n)) #[] (List.map (fun x=>(x.fst,ρ x.snd)) ps.toList)=some cells:=by
     rw[h0,Array.range_zero'] at h1'; simpa using h1'
    have hl0:len=0:=by
     rcases Nat.mul_eq_zero.1 h0 with h2 | h2
     ·exact h2
     ·omega
    subst hl0
    simp[Instr.buildSlice,run_underlying hu,sizeOf,typeInfo,hi,hsz,newRow,h1'',Array.range_zero']
   ·have h1'':Instr.fill (fun i=>some (i * n,n)) ((Array.range (len * n)).map (zv.cells[· % zv.cells.size]!)) (List.map (fun x=>(x.fst,ρ x.snd)) ps.toList)=some cells:=by
     simpa using h1'
    simp[Instr.buildSlice,run_underlying hu,sizeOf,typeInfo,hi,hsz,zeroValue,hzv,h0,hle,newRow,h1'']
  ·rw[← hel]
   exact(h2.mono a1).slice (fun i u hu=>by simpa [K.addVal] using hu) 1 (by omega) hn
end
end Go.Abs
namespace Go.Abs
open Go Go.RowKit
variable [Glob]
class GOK (P:Program):Prop where
 u8:∀ t,Glob.u8 t↔u8B P t=true
section
variable {P:Program} {κ:K} {e:E} {B:Nat} {w₀ w:World}
theorem zfv {t:TypeId} (h:u8B P t=true):P.underlying t=some (.int .u8)∧z13 P t=some 1:=by
 simp only[u8B,Bool.and_eq_true,beq_iff_eq] at h
 obtain⟨h1,h2⟩:=h
 refine⟨?_,h2⟩
 split at h1
 ·assumption
 ·cases h1
theorem St.freeze {b o n:Nat} (h:St κ e B w₀ w) (hBb:B≤b) (hn:1≤n) (hfz:∀ i,i < n→∃ u,κ.fz b (o+i)=some u):St κ e B w₀ (w.freeze ⟨b,o,none⟩ n):=by
 obtain⟨u0,hu0⟩:=hfz 0 (by omega)
 have hr:=h.rf b _ _ hu0
 have hlb:=h.rl b (by rw[hr]; simp)
 have hB:=h.blk b
 rw[hr] at hB
 obtain⟨arr,t,f,h1,h2,h3⟩:=hB
 have hne:¬ n=0:=by omega
 have hheap:∀ b',b'≠b→(w.freeze ⟨b,o,none⟩ n).heap[b']?=w.heap[b']?:=by
  intro b' hb'
  unfold World.freeze
  rw[if_neg hne]
  simp[Array.getElem?_modify,Ne.symm hb']
 have hown:(w.freeze ⟨b,o,none⟩ n).heap[b]?=some (.cells arr t (if f.1==f.2 then (o,o+n) else (min f.1 o,max f.2 (o+n)))):=by
  unfold World.freeze
  rw[if_neg hne]
  obtain⟨lo,hi⟩:=f
  simp[Array.getElem?_modify,h1]
 have hsize:(w.freeze ⟨b,o,none⟩ n).heap.size=w.heap.size:=by unfold World.freeze; rw[if_neg hne]; simp
 have hos:(w.freeze ⟨b,o,none⟩ n).os=w.os∧(w.freeze ⟨b,o,none⟩ n).tape=w.tape∧(w.freeze ⟨b,o,none⟩ n).output=w.output:=by unfold World.freeze; rw[if_neg hne]; exact⟨rfl,rfl,rfl⟩
 refine h.step (.refl κ) b hos.1 hos.2.1 hos.2.2 (by omega) hBb (fun b' _ hb'=>hheap b' hb') (fun _ _=>rfl) (fun _=>by omega) h.ro h.oo h.rv (fun _ _ _=>rfl) (fun i u hu=>h.rf b i u hu) (fun k b' i c hk ht=>?_) (fun k k' i c i' c' hk hk' ht ht'=>h.td k k' b i c i' c' hk hk' ht ht') h.vn (fun _ _ _ _=>.inl ⟨rfl,rfl⟩) (fun _ _ _ _ _ _ _ hge hv=>⟨hge,hv⟩) ?_ (fun arr' t' f' hx=>?_) (fun _ _ _ _ ht=>.inl ht)
 ·by_cases hb:b'=b
  ·subst hb; exact .inr ⟨rfl,hr⟩
  ·exact .inl ⟨hb,hk,ht⟩
 ·rw[hr]
  refine⟨arr,t,_,hown,h2,fun k i c hk ht=>?_⟩
  obtain⟨p1,p2,p3⟩:=h3 k i c hk ht
  refine⟨p1,p2,?_⟩
  have:o+n≤i:=by
   rcases Nat.lt_or_ge i (o+n) with h4 | h4
   ·exfalso
    by_cases hio:i≤o
    ·have:=p1 (o+0) (by omega); rw[hu0] at this; cases this
    ·obtain⟨u,hu⟩:=hfz (i - o) (by omega)
     have:=p1 (o+(i - o)) (by omega)
     rw[hu] at this; cases this
   ·exact h4
  split
  ·exact this
  ·simp only; omega
 ·rw[h1] at hx; cases hx
  exact⟨_,_,hown⟩
theorem usd_sim {v a:AV} {x:Value} (hx:VR κ v x) (h:usdA v=some a) (A:Array TypeId) (T:TypeId) (w:World):∃ u,(Builtin.unsafeSliceData_ A T #[x]).run P w=.ok u w∧VR κ a u:=by
 cases v<;>simp only[usdA,reduceCtorEq] at h
 rename_i k z xs
 cases hz:Nat.beq z 0 with
 | true =>
  rw[hz] at h
  simp only[cond_true,Option.some.injEq] at h
  subst h
  have:=z03.1 hz
  subst this
  cases hx with
  | slnil=>exact⟨_,Lib.run_unsafeSliceData_nil w A T 0 0,.dpnil 1 none⟩
  | sle a hz1=>omega
  | sl g hcap hz' hf hg h1 hk1 hk hz1=>omega
 | false =>
  rw[hz] at h
  simp only[cond_false] at h
  obtain⟨hc,h⟩:=z00 h
  simp only[Bool.and_eq_true,z03,Nat.blt_eq] at hc
  obtain⟨hz1',hpos,hk2,hk3⟩:=hc
  cases h
  subst hz1'
  cases hx with
  | sle a hz1=>simp at hpos
  | sl g hcap hz' hf hg h1 hk1 hk hz1 =>
   rename_i b o cap
   exact⟨_,Lib.run_unsafeSliceData_row w A T ⟨b,o,none⟩ xs.length cap (by omega),.dp (.sl g hcap hz' hf hg h1 hk1 hk hz1)⟩
theorem zh0 {t u:TypeId} (ht:u8B P t=true) (hu:u8B P u=true) (count off n:Nat) (hn:off+n≤count):liesAt P P.depth t (count / P.cellsOf t) off u n=true:=by
 obtain⟨t1,t2⟩:=zfv ht
 obtain⟨u1,_⟩:=zfv hu
 have hc:P.cellsOf t=1:=by
  unfold z13 at t2
  simp only[Option.map_eq_some_iff] at t2
  obtain⟨i,hi,hs⟩:=t2
  simp[Program.cellsOf,hi,hs]
 have hd:P.depth=(2 * (P.types.size+Made.depth)+1)+1:=rfl
 rw[hd]
 simp only[liesAt,Bool.or_eq_true]
 left
 rw[hd]
 simp[rowAt,hc,hn,sameLayout,t1,u1,Nat.mod_one]
theorem z6e {pt it ty e t:TypeId} {k:IntKind} (hp:P.underlying pt=some (.pointer e)) (ht:u8B P t=true) (he:u8B P e=true) {b o cells:Nat} (hsh:w.shape? b=some (t,cells)) (l:List UInt8) (h0:l≠[]) (hn:o+l.length≤cells) (h63:l.length≤9223372036854775807)
  (hcell:∀ j x,l[j]?=some x→w.cell? ((⟨b,o,none⟩:Addr).add j)=some (.int .u8 x.toNat)) {A:Array TypeId} (hA:A[0]?=some pt) :
  (Builtin.unsafeString_ A ty #[.pointer (some ⟨b,o,none⟩),.int k l.length]).run P w=.ok (.string ⟨l.toArray⟩) (w.freeze ⟨b,o,none⟩ l.length):=by
 have hl:l.length≠0:=by simpa using h0
 have hlb:=Lib.run_loadBytes (P:=P) w l ⟨b,o,none⟩ .empty hcell
 have hlies:=zh0 ht he cells o l.length hn
 have h63':¬ (9223372036854775807:Int) < (l.length:Int):=by omega
 have hmax:IntKind.i64.max=9223372036854775807:=rfl
 have hneg:¬ (l.length:Int) < 0:=by omega
 show (Bind.bind (asInt (.int k l.length)) _).run P w=_
 simp[hA,asInt,asIntOf,hmax,h63',hneg,hl,variablesAt,hsh,elemOf,run_underlying hp,hlies,hlb]
theorem z5b {pt ty:TypeId} {k:IntKind} {p:Option Addr} {A:Array TypeId} (hA:A[0]?=some pt):(Builtin.unsafeString_ A ty #[.pointer p,.int k 0]).run P w=.ok (.string .empty) w:=by
 have hmax:IntKind.i64.max=9223372036854775807:=rfl
 cases p<;>show (Bind.bind (asInt (.int k 0)) _).run P w=_<;>simp[hA,asInt,asIntOf,hmax]
theorem zde {xs:List AV}:∀ {l:List Nat},bytesOf xs=some l→l.length=xs.length∧∀ (i n:Nat),l[i]?=some n→n < 256∧xs[i]?=some (AV.int .u8 (.ofNat n)):=by
 induction xs with
 | nil=>intro l h; simp only[bytesOf,Option.some.injEq] at h; subst h; exact⟨rfl,by simp⟩
 | cons v xs ih =>
  intro l h
  simp only[bytesOf] at h
  cases hv:zbp v with
  | none=>rw[hv] at h; simp[zcx] at h
  | some n =>
   rw[hv] at h
   simp only[zcx] at h
   cases hr:bytesOf xs with
   | none=>rw[hr] at h; simp[zcw] at h
   | some r =>
    rw[hr] at h
    simp only[zcw] at h
    obtain⟨hlt,h⟩:=z00 h
    cases h
    obtain⟨h1,h2⟩:=ih hr
    refine⟨by simp[h1],fun i m hi=>?_⟩
    cases i with
    | zero =>
     simp at hi
     subst hi
     refine⟨by simpa [Nat.blt_eq] using hlt,?_⟩
     unfold zbp at hv
     split at hv
     ·cases hv; simp
     ·cases hv
    | succ i=>simp at hi; simpa using h2 i m hi
theorem ust_sim {hG:GOK P} {pt it ty e':TypeId} {v na a:AV} {x n:Value} {A:Array TypeId} (hA:A[0]?=some pt) (hp:P.underlying pt=some (.pointer e')) (he:u8B P e'=true) (hx:VR κ v x) (hn:VR κ na n) (hst:St κ e B w₀ w) (h:ustA na v=some a) :
  ∃ u w',(Builtin.unsafeString_ A ty #[x,n]).run P w=.ok u w'∧VR κ a u∧St κ e B w₀ w':=by
 unfold ustA at h
 split at h
 ·rename_i k m
  have hn':=hn.int_inv
  subst hn'
  cases v<;>simp only[ustD,reduceCtorEq,zap] at h
  rename_i kk xs
  obtain⟨hc,h'⟩:=z00 h
  clear h
  simp only[Bool.and_eq_true,Bool.or_eq_true,z03,Nat.blt_eq] at hc
  obtain⟨⟨hm,h32⟩,hc⟩:=hc
  subst hm
  have h:=h'
  clear h'
  cases hb:bytesOf xs with
  | none=>rw[hb] at h; cases h
  | some l =>
   rw[hb] at h
   simp only[strO,Option.some.injEq] at h
   subst h
   obtain⟨hl1,hl2⟩:=zde hb
   by_cases hxs:xs=[]
   ·subst hxs
    have:l=[]:=List.length_eq_zero_iff.1 (by simpa using hl1)
    subst this
    have hpx:∃ p,x=.pointer p:=by cases hx<;>exact⟨_,rfl⟩
    obtain⟨p,rfl⟩:=hpx
    exact⟨_,w,z5b hA,.str .empty,hst⟩
   ·have hodd:2≤kk∧kk % 2=1:=by
     rcases hc with hc | hc
     ·exact absurd (by simpa using hc) hxs
     ·simpa [z03] using hc
    have hpos:0 < xs.length:=by cases xs with | nil=>exact absurd rfl hxs | cons=>simp
    cases hx with
    | dpnil=>exact absurd rfl hxs
    | dp hs =>
     rename_i b o nn cap
     generalize hy:Value.slice (some ⟨b,o,none⟩) nn cap=y at hs
     cases hs with
     | sle a hz1=>exact absurd rfl hxs
     | sl g hcap hz' hf hg h1 hk1 hk hz1 =>
      cases hy
      obtain⟨arr,t,f,t1,t2⟩:=hst.tu kk _ _ _ hodd.2 (hk hodd.1)
      have ht:=(hG.u8 t).1 t2
      have hfz:∀ i m,l[i]?=some m→m < 256∧κ.fz b (o+i)=some (.int .u8 (.ofNat m)):=by
       intro i m hi
       obtain⟨p1,p2⟩:=hl2 i m hi
       refine⟨p1,?_⟩
       have q1:=hf i _ 0 (.int .u8 (.ofNat m)) p2 rfl
       have q2:=(hg i _ 0 (.int .u8 (.ofNat m)) p2 rfl).int_inv
       rw[q2] at q1
       simpa using q1
      have hr:κ.role b=.val:=by
       obtain⟨m,hm⟩:∃ m,l[0]?=some m:=⟨l[0]'(by omega),by simp⟩
       exact hst.rf b _ _ (hfz 0 m hm).2
      have hB:=hst.blk b
      rw[hr] at hB
      obtain⟨arr',t',f',b1,b2,_⟩:=hB
      rw[t1] at b1; cases b1
      have hcell:∀ j x,(l.map UInt8.ofNat)[j]?=some x→w.cell? ((⟨b,o,none⟩:Addr).add j)=some (.int .u8 x.toNat):=by
       intro j x hj
       simp only[List.getElem?_map,Option.map_eq_some_iff] at hj
       obtain⟨m,hm,rfl⟩:=hj
       obtain⟨q1,q2⟩:=hfz j m hm
       rw[z1f,cell_of_row w b _ arr t f t1,b2 _ _ q2]
       simp[Nat.mod_eq_of_lt q1]
      have hfit:o+(l.map UInt8.ofNat).length≤arr.size:=by
       obtain⟨m,hm⟩:∃ m,l[l.length - 1]?=some m:=⟨l[l.length - 1]'(by omega),by simp⟩
       have:=(Array.getElem?_eq_some_iff.1 (b2 _ _ (hfz _ m hm).2)).1
       simp; omega
      have hrun:=z6e (P:=P) (w:=w) (ty:=ty) (it:=it) (k:=k) hp ht he (b:=b) (o:=o) (cells:=arr.size) (by simp[World.shape?,t1]) (l.map UInt8.ofNat) (by intro h0; simp at h0; rw[h0] at hl1; simp at hl1; omega) hfit (by simp; omega) hcell hA
      refine⟨.string ⟨(l.map UInt8.ofNat).toArray⟩,w.freeze ⟨b,o,none⟩ l.length,?_,?_,hst.freeze (b:=b) (o:=o) (n:=l.length) (hst.tb _ _ _ _ (hk hodd.1)) (by omega) (fun i hi=>⟨_,(hfz i l[i] (by simp[hi])).2⟩)⟩
      ·have:(Int.ofNat xs.length)=(((l.map UInt8.ofNat).length:Nat):Int):=by simp[hl1]
       rw[this]
       simpa using hrun
      ·have:l=((⟨(l.map UInt8.ofNat).toArray⟩:ByteArray).data.toList.map UInt8.toNat):=by
        simp
        apply List.ext_getElem?
        intro i
        cases hi:l[i]? with
        | none=>simp[hi]
        | some m=>have:=(hl2 i m hi).1; simp[hi,Nat.mod_eq_of_lt this]
       have h2:=VR.str (κ:=κ) ⟨(l.map UInt8.ofNat).toArray⟩
       rw[← this] at h2
       exact h2
 ·cases h
end
end Go.Abs
namespace Go.Abs
open Go Go.RowKit
variable [Glob]
section
variable {P:Program} [hG:GOK P] {κ:K} {e:E} {B:Nat} {w₀ w:World}
theorem Get1.run {s:Sem Next} {v:AV} (hst:St κ e B w₀ w) {f:Sem Value} (hs:s=(do pure (Next.value (← f)))) (h:∃ u,f.run P w=.ok u w∧VR κ v u):Get1 P κ e B w₀ w s v:=by
 obtain⟨u,hu,hv⟩:=h
 exact .of hst (by rw[hs]; simp[hu]) hv
theorem opX {s:Tm} {ρ:Operand→Value} {l:List Operand} (h:Opd κ s ρ l) {x:Option Operand} {ax:Option AX} (hx:∀ y,x=some y→y∈l) (hc:optX x=some ax):OptR κ s ax (x.map ρ):=by
 cases x with
 | none=>simp only[optX,Option.some.injEq] at hc; subst hc; trivial
 | some y =>
  simp only[optX,Option.map_eq_some_iff] at hc
  obtain⟨a,ha,rfl⟩:=hc
  exact h y (hx y rfl) a ha
theorem zc3 {s:Tm} {ρ:Operand→Value}:∀ {l:List Operand} {axs:List AX},cxs l=some axs→Opd κ s ρ l→axs.length=l.length∧∀ (i:Nat) (c:AV) (u:Value),(evs s axs)[i]?=some c→(l.map ρ)[i]?=some u→VR κ c u
 | [],axs,h,_=>by simp only[cxs,Option.some.injEq] at h; subst h; exact⟨rfl,by simp[evs]⟩
 | x::l,axs,h,hx=>by
  simp only[cxs] at h
  split at h
  ·rename_i a as h1 h2
   cases h
   obtain⟨p,q⟩:=zc3 h2 fun y hy=>hx y (by simp[hy])
   refine⟨by simp[p],fun i c u hc hu=>?_⟩
   cases i with
   | zero=>simp[evs] at hc hu; subst hc; subst hu; exact hx x (by simp) a h1
   | succ i=>simp[evs] at hc hu; exact q i c u hc (by simpa using hu)
  ·cases h
theorem z7d {s:Tm} {l:List AX}:(evs s l).length=l.length:=by induction l with | nil=>rfl | cons x l ih=>simp[evs,ih]
theorem PO.sim {dec a:Nat} {oper:Oper} {op:Op} {o:PO} (ho:oper.op=op) (hc:z05 P dec a op=some (.p o)) {s:Tm} {ρ:Operand→Value} {v:AV} (hx:Opd κ s ρ op.operands.toList) (hv:o.ev s=some v) (hst:St κ e B w₀ w) :
  Get1 P κ e B w₀ w (execOp ρ oper) v:=by
 cases op
 case move x =>
  simp only[z05,Option.bind_eq_bind,Option.bind_eq_some_iff,Option.some.injEq,OP.p.injEq] at hc
  obtain⟨ax,h1,rfl⟩:=hc
  cases hv
  exact .of hst (by simp only[execOp,ho]; rfl) (hx x (by simp[Op.operands]) ax h1)
 case assign x =>
  simp only[z05,Option.bind_eq_bind,Option.bind_eq_some_iff,Option.some.injEq,OP.p.injEq] at hc
  obtain⟨ax,h1,rfl⟩:=hc
  cases hv
  exact .of hst (by simp only[execOp,ho]; rfl) (hx x (by simp[Op.operands]) ax h1)
 case pick c x y =>
  simp only[z05,Option.bind_eq_bind,Option.bind_eq_some_iff,Option.some.injEq,OP.p.injEq] at hc
  obtain⟨ac,h1,ax,h2,ay,h3,rfl⟩:=hc
  obtain⟨u,hu,hv⟩:=zme (hx c (by simp[Op.operands]) ac h1) (hx x (by simp[Op.operands]) ax h2) (hx y (by simp[Op.operands]) ay h3) hv w
  exact .of hst (by simp only[execOp,ho]; exact hu) hv
 case nilCheck x =>
  simp only[z05,Option.bind_eq_bind,Option.bind_eq_some_iff,Option.some.injEq,OP.p.injEq] at hc
  obtain⟨ax,h1,rfl⟩:=hc
  obtain⟨rfl,b,o,hb,hp⟩:=zmf (hx x (by simp[Op.operands]) ax h1) hv
  exact .of hst (by simp only[execOp,ho,hb]; rfl) hp.vr
 case binOp bo t x y yt =>
  simp only[z05,Option.bind_eq_bind,Option.bind_eq_some_iff,Option.some.injEq,OP.p.injEq] at hc
  obtain⟨ek,h0,ax,h1,ay,h2,rfl⟩:=hc
  exact .run hst (by simp only[execOp,ho]) (bin_sim h0 rfl (hx x (by simp[Op.operands]) ax h1) (hx y (by simp[Op.operands]) ay h2) hv w)
 case unOp uo t x =>
  simp only[z05,Option.bind_eq_bind,Option.bind_eq_some_iff,Option.some.injEq,OP.p.injEq] at hc
  obtain⟨ax,h1,rfl⟩:=hc
  exact .run hst (by simp only[execOp,ho]) (un_sim (hx x (by simp[Op.operands]) ax h1) hv w)
 case extract x i =>
  simp only[z05,Option.bind_eq_bind,Option.bind_eq_some_iff,Option.some.injEq,OP.p.injEq] at hc
  obtain⟨ax,h1,rfl⟩:=hc
  exact .run hst (by simp only[execOp,ho]) (ext_sim (hx x (by simp[Op.operands]) ax h1) hv w)
 case build t ps =>
  simp only[z05,Option.bind_eq_bind,Option.bind_eq_some_iff] at hc
  obtain⟨za,hz,hc⟩:=hc
  have hopd:Opd κ s ρ (ps.toList.map (·.2)):=fun x hx'=>hx x (by simpa [Op.operands] using hx')
  split at hc
  ·rename_i z
   split at hc
   ·rename_i fs hu
    obtain⟨hpl,hc⟩:=z00 hc
    simp only[Option.bind_eq_some_iff,Option.some.injEq,OP.p.injEq] at hc
    obtain⟨l,hl,rfl⟩:=hc
    simp only[PO.ev,zi9] at hv
    cases hb:bldA s z l with
    | none=>simp[hb,aggO] at hv
    | some cs =>
     simp only[hb,aggO,Option.some.injEq] at hv
     subst hv
     exact .run hst (by simp only[execOp,ho]) (zgz hu hz hpl hl hopd hb w)
   ·rename_i len el hu
    simp only[Option.bind_eq_some_iff,Option.some.injEq,OP.p.injEq] at hc
    obtain⟨n,hn,l,hl,rfl⟩:=hc
    simp only[PO.ev,zi9] at hv
    cases hb:bldA s z l with
    | none=>simp[hb,aggO] at hv
    | some cs =>
     simp only[hb,aggO,Option.some.injEq] at hv
     subst hv
     exact .run hst (by simp only[execOp,ho]) (ziw hu hz hn hl hopd hb w)
   ·cases hc
  ·cases hc
 case buildSlice t len ps =>
  simp only[z05,Option.bind_eq_bind] at hc
  have hopd:Opd κ s ρ (ps.toList.map (·.2)):=fun x hx'=>hx x (by simpa [Op.operands] using hx')
  split at hc
  ·rename_i el hu
   simp only[Option.bind_eq_some_iff] at hc
   obtain⟨⟨n,z⟩,hz,hc⟩:=hc
   obtain⟨hle,hc⟩:=z00 hc
   simp only[Option.bind_eq_some_iff,Option.some.injEq,OP.p.injEq] at hc
   obtain⟨l,hl,rfl⟩:=hc
   obtain⟨u,w',κ',h1,h2,h3,h4,h5⟩:=bsl_sim hu hz (Nat.le_of_ble_eq_true hle) hl hopd hv hst
   exact⟨u,w',κ',by simp only[execOp,ho]; simp[h1],h2,h3,h4,h5⟩
  ·cases hc
 case convert src dst x =>
  simp only[z05] at hc
  split at hc
  ·rename_i k1 k h1 h2
   simp only[Option.bind_eq_bind,Option.bind_eq_some_iff,Option.some.injEq,OP.p.injEq] at hc
   obtain⟨ax,h3,rfl⟩:=hc
   have hr:=hx x (by simp[Op.operands]) ax h3
   simp only[PO.ev,zlm] at hv
   unfold cviA at hv
   split at hv
   ·rename_i k' n he
    cases hv
    rw[he] at hr
    refine .of hst ?_ (.int k (k.wrap n))
    simp only[execOp,ho,hr.int_inv]
    simp[convert,run_underlying h1,run_underlying h2,Conv.intToInt]
   ·cases hv
  ·rename_i h1 h2
   simp only[Option.bind_eq_bind,Option.bind_eq_some_iff,Option.some.injEq,OP.p.injEq] at hc
   obtain⟨ax,h3,rfl⟩:=hc
   have hr:=hx x (by simp[Op.operands]) ax h3
   simp only[PO.ev,zln] at hv
   unfold cvsA at hv
   split at hv
   ·rename_i b he
    cases hv
    rw[he] at hr
    generalize hxv:ρ x=xv at hr
    cases hr with
    | str b =>
     refine .of hst ?_ (.str b)
     simp only[execOp,ho,hxv]
     simp[convert,run_underlying h1,run_underlying h2]
   ·cases hv
  ·split at hc
   ·simp only[Option.bind_eq_bind,Option.bind_eq_some_iff,Option.some.injEq,reduceCtorEq,and_false,exists_false] at hc
   ·cases hc
  ·split at hc
   ·simp only[Option.bind_eq_bind,Option.bind_eq_some_iff,Option.some.injEq,reduceCtorEq,and_false,exists_false] at hc
   ·cases hc
  ·simp only[Option.bind_eq_bind,Option.bind_eq_some_iff,Option.some.injEq,reduceCtorEq,and_false,exists_false] at hc
  ·simp only[Option.bind_eq_bind,Option.bind_eq_some_iff,z08,Option.some.injEq,reduceCtorEq,and_false,exists_false] at hc
  ·cases hc
 case makeInterface t x =>
  simp only[z05] at hc
  split at hc
  ·cases hc
  ·cases hc
  ·rename_i d h1 h2
   simp only[Option.bind_eq_bind,Option.bind_eq_some_iff,Option.some.injEq,OP.p.injEq] at hc
   obtain⟨ax,h3,rfl⟩:=hc
   cases hv
   refine .of hst ?_ (.ifc (hx x (by simp[Op.operands]) ax h3))
   cases hu:P.underlying t with
   | none=>exact absurd hu h2
   | some dd =>
    simp only[execOp,ho,Instr.makeInterface]
    cases dd<;>first | (exact absurd hu (h1 _)) | simp[run_underlying hu]
 case makeFunc fn first captured =>
  cases fn with
  | func f =>
   simp only[z05,Option.bind_eq_bind,Option.bind_eq_some_iff,Option.some.injEq,OP.p.injEq] at hc
   obtain⟨a1,h1,a2,h2,rfl⟩:=hc
   cases hv
   obtain⟨l1,q1⟩:=zc3 h1 (fun x hx'=>hx x (by simp[Op.operands]; exact .inl (by simpa using hx')))
   obtain⟨l2,q2⟩:=zc3 h2 (fun x hx'=>hx x (by simp[Op.operands]; exact .inr (by simpa using hx')))
   refine .of hst (val:=.func (.func f) (first.map ρ) (captured.map ρ)) ?_ (.fn (by simp[z7d,l1]) (by simp[z7d,l2]) (fun i c u hc hu=>q1 i c u hc ?_) (fun i c u hc hu=>q2 i c u hc ?_))
   ·simp only[execOp,ho,Instr.makeFunc]; rfl
   ·rw[← Array.getElem?_toList,Array.toList_map] at hu; exact hu
   ·rw[← Array.getElem?_toList,Array.toList_map] at hu; exact hu
  | _=>simp[z05] at hc
 case slice t x lo hi mx =>
  simp only[z05] at hc
  have hlo:∀ y,lo=some y→y∈(Op.slice t x lo hi mx).operands.toList:=by rintro y rfl; simp[Op.operands]
  have hhi:∀ y,hi=some y→y∈(Op.slice t x lo hi mx).operands.toList:=by rintro y rfl; simp[Op.operands]
  have hmx:∀ y,mx=some y→y∈(Op.slice t x lo hi mx).operands.toList:=by rintro y rfl; simp[Op.operands]
  split at hc
  ·rename_i hu
   simp only[Option.bind_eq_bind,Option.bind_eq_some_iff,Option.some.injEq,OP.p.injEq] at hc
   obtain⟨ax,h1,alo,h2,ahi,h3,amx,h4,rfl⟩:=hc
   exact .run hst (by simp only[execOp,ho]) (sls_str hu (hx x (by simp[Op.operands]) ax h1) (opX hx hlo h2) (opX hx hhi h3) (opX hx hmx h4) hv w)
  ·rename_i m el hu
   obtain⟨hck,hc⟩:=z00 hc
   simp only[Option.bind_eq_bind,Option.bind_eq_some_iff,Option.some.injEq,OP.p.injEq] at hc
   obtain⟨ax,h1,alo,h2,ahi,h3,rfl⟩:=hc
   simp only[Bool.and_eq_true,beq_iff_eq] at hck
   obtain⟨hm,hz⟩:=hck
   cases mx with
   | some y=>simp at hm
   | none=>exact .run hst (by simp only[execOp,ho,Option.map_none]) (sla_sim hu hz (hx x (by simp[Op.operands]) ax h1) (opX hx hlo h2) (opX hx hhi h3) hv w)
  ·rename_i el hu
   obtain⟨hck,hc⟩:=z00 hc
   simp only[Option.bind_eq_bind,Option.bind_eq_some_iff,Option.some.injEq,OP.p.injEq] at hc
   obtain⟨z,hz,ax,h1,alo,h2,ahi,h3,amx,h4,rfl⟩:=hc
   refine .run hst (by simp only[execOp,ho]) (sls_sl hu hz (hx x (by simp[Op.operands]) ax h1) ?_ (opX hx hlo h2) (opX hx hhi h3) (opX hx hmx h4) hv w)
   cases mx with
   | none=>left; simp only[optX,Option.some.injEq] at h4; exact h4.symm
   | some m =>
    right
    cases hi with
    | none=>simp at hck
    | some y =>
     simp only[optX,Option.map_eq_some_iff] at h3
     obtain⟨q,_,rfl⟩:=h3
     simp
  ·cases hc
 case fieldAddr t x f =>
  simp only[z05,Option.bind_eq_bind] at hc
  split at hc
  ·rename_i fs hu
   simp only[Option.bind_eq_some_iff] at hc
   obtain⟨fd,hfd,n,hn,hc⟩:=hc
   split at hc
   ·cases hc
   ·rename_i hn0
    simp only[Option.bind_eq_some_iff,Option.some.injEq,OP.p.injEq] at hc
    obtain⟨ax,h1,rfl⟩:=hc
    obtain⟨b,o,hb,hvv⟩:=fad_sim (hx x (by simp[Op.operands]) ax h1) hv
    have hn1:¬ n=0:=fun e=>hn0 (z03.2 e)
    refine .of hst ?_ hvv
    simp only[execOp,ho,hb]
    simp[Instr.fieldAt,run_underlying hu,hfd,Instr.sureAddr,fieldPlace,z0t w hn,hn1,z1f]
  ·cases hc
 case field t x f =>
  simp only[z05,Option.bind_eq_bind] at hc
  split at hc
  ·rename_i fs hu
   simp only[Option.bind_eq_some_iff,Option.some.injEq,OP.p.injEq] at hc
   obtain⟨fd,hfd,ag,hag,n,hn,ax,h1,rfl⟩:=hc
   exact .run hst (by simp only[execOp,ho]) (fld_sim hu hfd hn hag (hx x (by simp[Op.operands]) ax h1) hv w)
  ·cases hc
 case indexAddr t x i =>
  simp only[z05] at hc
  split at hc
  ·rename_i el hu
   simp only[Option.bind_eq_bind,Option.bind_eq_some_iff,Option.some.injEq,OP.p.injEq] at hc
   obtain⟨z,hz,ax,h1,ai,h2,rfl⟩:=hc
   exact .run hst (by simp only[execOp,ho]) (iad_sim hu hz (hx x (by simp[Op.operands]) ax h1) (hx i (by simp[Op.operands]) ai h2) hv w)
  ·rename_i n el hu
   simp only[Option.bind_eq_bind,Option.bind_eq_some_iff,Option.some.injEq,OP.p.injEq] at hc
   obtain⟨z,hz,ax,h1,ai,h2,rfl⟩:=hc
   exact .run hst (by simp only[execOp,ho]) (iaa_sim hu hz (hx x (by simp[Op.operands]) ax h1) (hx i (by simp[Op.operands]) ai h2) hv w)
  ·cases hc
 case index t x i =>
  simp only[z05] at hc
  split at hc
  ·rename_i hu
   simp only[Option.bind_eq_bind,Option.bind_eq_some_iff,Option.some.injEq,OP.p.injEq] at hc
   obtain⟨ax,h1,ai,h2,rfl⟩:=hc
   exact .run hst (by simp only[execOp,ho]) (ixs_sim hu (hx x (by simp[Op.operands]) ax h1) (hx i (by simp[Op.operands]) ai h2) hv w)
  ·rename_i n el hu
   simp only[Option.bind_eq_bind,Option.bind_eq_some_iff,Option.some.injEq,OP.p.injEq] at hc
   obtain⟨z,hz,ag,hag,ax,h1,ai,h2,rfl⟩:=hc
   exact .run hst (by simp only[execOp,ho]) (ixa_sim hu hz hag (hx x (by simp[Op.operands]) ax h1) (hx i (by simp[Op.operands]) ai h2) hv w)
  ·cases hc
 case typeAssert x xt t ok =>
  simp only[z05] at hc
  split at hc
  ·cases hc
  ·cases hc
  ·rename_i d h1 h2
   simp only[Option.bind_eq_bind,Option.bind_eq_some_iff,Option.some.injEq,OP.p.injEq] at hc
   obtain⟨zero,hz,ax,h3,rfl⟩:=hc
   cases hu:P.underlying t with
   | none=>exact absurd hu h2
   | some dd =>
    have hzz:∃ z,ok=true→(P.info? t).bind (·.zero)=some z∧VR κ zero z:=by
     cases ok with
     | false=>exact⟨.nilIface,fun h=>by cases h⟩
     | true =>
      obtain⟨z,h4,h5⟩:=z3d hz
      exact⟨z,fun _=>⟨h4,z3i h5 κ⟩⟩
    obtain⟨z,hzz⟩:=hzz
    exact .run hst (by simp only[execOp,ho]) (tas_sim (xt:=xt) hu (by rintro ms rfl; exact h1 ms hu) hzz (hx x (by simp[Op.operands]) ax h3) hv w)
 case call c =>
  obtain⟨callee,args,argTypes⟩:=c
  simp only[z05] at hc
  split at hc
  ·rename_i x har
   have hargs:args=#[x]:=by apply Array.toList_inj.1; simpa using har
   subst hargs
   simp only[Option.bind_eq_bind,Option.bind_eq_some_iff] at hc
   obtain⟨t,hat,hc⟩:=hc
   split at hc
   ·simp only[Option.bind_eq_some_iff,Option.some.injEq,reduceCtorEq,and_false,exists_false] at hc
   ·rename_i hu
    simp only[Option.bind_eq_some_iff,Option.some.injEq,OP.p.injEq] at hc
    obtain⟨ax,h1,rfl⟩:=hc
    have:=zmh hu (hx x (by simp[Op.operands,Call.operands]) ax h1) hv hat oper.type w
    obtain⟨u,hu',hv'⟩:=this
    exact .of hst (by simp only[execOp,ho,resolve]; simp[invoke,builtin,hu']) hv'
   ·rename_i el hu
    simp only[Option.bind_eq_some_iff,Option.some.injEq,OP.p.injEq] at hc
    obtain⟨ax,h1,rfl⟩:=hc
    have:=zmi hu (hx x (by simp[Op.operands,Call.operands]) ax h1) hv hat oper.type w
    obtain⟨u,hu',hv'⟩:=this
    exact .of hst (by simp only[execOp,ho,resolve]; simp[invoke,builtin,hu']) hv'
   ·cases hc
  ·simp only[Option.bind_eq_bind,Option.bind_eq_some_iff] at hc
   obtain⟨t,hat,hc⟩:=hc
   split at hc
   ·simp only[Option.bind_eq_some_iff] at hc
    obtain⟨u,hu,d,hd,hc⟩:=hc
    split at hc
    ·split at hc
     ·simp only[Option.bind_eq_some_iff,z08,Option.some.injEq,reduceCtorEq,and_false,exists_false,Prod.exists] at hc
     ·cases hc
    ·simp only[Option.bind_eq_some_iff,z08,Option.some.injEq,reduceCtorEq,and_false,exists_false,Prod.exists] at hc
   ·cases hc
  ·rename_i x har
   have hargs:args=#[x]:=by apply Array.toList_inj.1; simpa using har
   subst hargs
   simp only[Option.bind_eq_bind,Option.bind_eq_some_iff,Option.some.injEq,OP.p.injEq] at hc
   obtain⟨ax,h1,rfl⟩:=hc
   obtain⟨u,hu',hv'⟩:=usd_sim (P:=P) (hx x (by simp[Op.operands,Call.operands]) ax h1) hv argTypes oper.type w
   exact .of hst (by simp only[execOp,ho,resolve]; simp[invoke,builtin,hu']) hv'
  ·rename_i x y har
   have hargs:args=#[x,y]:=by apply Array.toList_inj.1; simpa using har
   subst hargs
   simp only[Option.bind_eq_bind,Option.bind_eq_some_iff] at hc
   obtain⟨t,hat,hc⟩:=hc
   split at hc
   ·rename_i el hu
    obtain⟨hu8,hc⟩:=z00 hc
    simp only[Option.bind_eq_some_iff,Option.some.injEq,OP.p.injEq] at hc
    obtain⟨ax,h1,ay,h2,rfl⟩:=hc
    obtain⟨u,w',hu',hv',hs'⟩:=ust_sim (hG:=hG) (it:=0) (ty:=oper.type) hat hu hu8 (hx x (by simp[Op.operands,Call.operands]) ax h1) (hx y (by simp[Op.operands,Call.operands]) ay h2) hst hv
    exact⟨u,w',κ,by simp only[execOp,ho,resolve]; simp[invoke,builtin,hu'],hv',.refl _,.refl _,hs'⟩
   ·cases hc
  ·rename_i x y har
   have hargs:args=#[x,y]:=by apply Array.toList_inj.1; simpa using har
   subst hargs
   simp only[Option.bind_eq_bind,Option.bind_eq_some_iff,Option.some.injEq,OP.p.injEq] at hc
   obtain⟨ax,h1,ay,h2,rfl⟩:=hc
   obtain⟨u,hu',hv'⟩:=mm_sim (P:=P) (mx:=false) (hx x (by simp[Op.operands,Call.operands]) ax h1) (hx y (by simp[Op.operands,Call.operands]) ay h2) hv argTypes oper.type w
   have hu'':(Builtin.min_ argTypes oper.type #[ρ x,ρ y]).run P w=.ok u w:=by simpa using hu'
   exact .of hst (by simp only[execOp,ho,resolve]; simp[invoke,builtin,hu'']) hv'
  ·rename_i x y har
   have hargs:args=#[x,y]:=by apply Array.toList_inj.1; simpa using har
   subst hargs
   simp only[Option.bind_eq_bind,Option.bind_eq_some_iff,Option.some.injEq,OP.p.injEq] at hc
   obtain⟨ax,h1,ay,h2,rfl⟩:=hc
   obtain⟨u,hu',hv'⟩:=mm_sim (P:=P) (mx:=true) (hx x (by simp[Op.operands,Call.operands]) ax h1) (hx y (by simp[Op.operands,Call.operands]) ay h2) hv argTypes oper.type w
   have hu'':(Builtin.max_ argTypes oper.type #[ρ x,ρ y]).run P w=.ok u w:=by simpa using hu'
   exact .of hst (by simp only[execOp,ho,resolve]; simp[invoke,builtin,hu'']) hv'
  ·simp only[Option.bind_eq_bind,Option.bind_eq_some_iff,Option.some.injEq,reduceCtorEq,and_false,exists_false] at hc
  ·rename_i x har
   have hargs:args=#[x]:=by apply Array.toList_inj.1; simpa using har
   subst hargs
   simp only[Option.bind_eq_bind,Option.bind_eq_some_iff] at hc
   obtain⟨t,hat,hc⟩:=hc
   split at hc
   ·rename_i el hu
    simp only[Option.bind_eq_some_iff,Option.some.injEq,OP.p.injEq] at hc
    obtain⟨ax,h1,rfl⟩:=hc
    have:=cap_sim hu (hx x (by simp[Op.operands,Call.operands]) ax h1) hv hat oper.type w
    obtain⟨u,hu',hv'⟩:=this
    exact .of hst (by simp only[execOp,ho,resolve]; simp[invoke,builtin,hu']) hv'
   ·cases hc
  all_goals first
   | (simp only[Option.bind_eq_bind,Option.bind_eq_some_iff,Option.some.injEq,reduceCtorEq,and_false,exists_false] at hc; done)
   | (cases hc; done)
   | (simp only[Option.bind_eq_bind,Option.bind_eq_some_iff] at hc; obtain⟨_,_,hc⟩:=hc; split at hc<;>first | (cases hc; done) | (simp only[Option.bind_eq_some_iff,Option.some.injEq,reduceCtorEq,and_false,exists_false,Prod.exists] at hc; done) | (simp only[Option.bind_eq_some_iff] at hc; obtain⟨_,_,hc⟩:=hc; split at hc<;>first | (cases hc; done) | (simp only[Option.bind_eq_some_iff,Option.some.injEq,reduceCtorEq,and_false,exists_false,Prod.exists] at hc; done)))
 all_goals first
  | (simp only[z05] at hc; done)
  | (simp only[z05,Option.bind_eq_bind,Option.bind_eq_some_iff,Option.some.injEq,reduceCtorEq,and_false,exists_false] at hc; done)
  | (simp only[z05] at hc; split at hc<;>simp only[Option.bind_eq_bind,Option.bind_eq_some_iff,z08,Option.some.injEq,reduceCtorEq,and_false,exists_false,Prod.exists] at hc; done)
  | (simp only[z05,Option.bind_eq_bind] at hc; split at hc<;>simp only[Option.bind_eq_some_iff,z08,Option.some.injEq,reduceCtorEq,and_false,exists_false,Prod.exists] at hc; done)
end
end Go.Abs
