/- On the way to: InterpLoops returns true; its listed variables read as the text lays them. -/
import Derived.Test.YthncagamgiogjaaGreatDoorA6
import Derived.Laws.Rows
import Derived.Laws.BytesString
import Derived.Laws.CopyRow
set_option autoImplicit false
set_option linter.unusedSectionVars false
set_option linter.unusedSimpArgs false
set_option linter.unusedVariables false
namespace Go.Abs
open Go Go.RowKit
variable [Glob]
section
variable {P:Program} {κ:K} {e:E} {B:Nat} {w₀ w:World}
theorem z3k {ag:Bool} {t:TypeId} {n off b o:Nat} {cs:List AV} {v:AV} {us:List Value} (ha:aggB P t=some ag) (hn:z13 P t=some n) (hcs:VRs κ cs us) (hc:cutA ag cs off n=some v)
  (hw:∀ j u,us[j]?=some u→w.cell? ⟨b,o+j,none⟩=some u):∃ u,(loadVar t ⟨b,o+off,none⟩).run P w=.ok u w∧VR κ v u:=by
 have hcut:=zir hcs hc
 cases ag with
 | true =>
  simp only[if_true] at hcut
  refine⟨.agg ((us.drop off).take n).toArray,?_,hcut.2⟩
  have hl:=run_loadCells_list (P:=P) w ⟨b,o+off,none⟩ ((us.drop off).take n) (fun j u hj=>by
   rw[z1f]
   simp only[List.getElem?_take,List.getElem?_drop] at hj
   split at hj
   ·have:=hw _ u hj
    rwa [← Nat.add_assoc] at this
   ·cases hj)
  have hlen:((us.drop off).take n).length=n:=by simp; omega
  rw[hlen] at hl
  simp[loadVar,z4c w ha,z0t w hn,hl]
 | false =>
  simp only[Bool.false_eq_true,if_false] at hcut
  obtain⟨u,hu,hv⟩:=hcut
  exact⟨u,by simp[loadVar,z4c w ha,hw off u hu],hv⟩
theorem zfw {ag:Bool} {t:TypeId} {n:Nat} {a v:AV} {x:Value} (ha:aggB P t=some ag) (hn:z13 P t=some n) (hx:VR κ a x) (hst:St κ e B w₀ w) (h:z19 e ag n a=some v) :
  ∃ u,(Instr.loadAt t x).run P w=.ok u w∧VR κ v u:=by
 unfold z19 at h
 split at h
 ·rename_i cs off
  cases hx with
  | vp g hf hg h1 =>
   rename_i b o
   have hcs:VRs κ cs ((List.range cs.length).map g):=by
    refine⟨by simp,fun i c u hc hu=>?_,fun i u hu=>?_⟩
    ·simp only[List.getElem?_map,Option.map_eq_some_iff] at hu
     obtain⟨j,hj,rfl⟩:=hu
     have:j=i:=by rw[List.getElem?_range (by have:=(List.getElem?_eq_some_iff.1 hc).1; exact this)] at hj; exact(Option.some.inj hj).symm
     subst this
     exact hg _ c hc
    ·simp only[List.getElem?_map,Option.map_eq_some_iff] at hu
     obtain⟨j,_,rfl⟩:=hu
     exact h1 j
   have hcell:∀ j u,((List.range cs.length).map g)[j]?=some u→w.cell? ⟨b,o+j,none⟩=some u:=by
    intro j u hu
    simp only[List.getElem?_map,Option.map_eq_some_iff] at hu
    obtain⟨i,hi,rfl⟩:=hu
    have hj:j < cs.length:=by have:=(List.getElem?_eq_some_iff.1 hi).1; simpa using this
    have:i=j:=by rw[List.getElem?_range hj] at hi; exact(Option.some.inj hi).symm
    subst this
    have hfz:=hf i cs[i] (by simp[hj])
    have hr:=h.symm
    have hb:=hst.blk b
    rw[hst.rf b _ _ hfz] at hb
    obtain⟨arr,t',f,e1,e2,_⟩:=hb
    rw[cell_of_row w b _ arr t' f e1]
    exact e2 _ _ hfz
   obtain⟨u,hu,hv⟩:=z3k ha hn hcs h hcell
   exact⟨u,by simp[Instr.loadAt,Instr.sureAddr,hu],hv⟩
 ·rename_i l off
  cases hx with
  | ptr hl =>
   rename_i b
   unfold z78 at h
   split at h
   ·rename_i cs hg
    have hb:=hst.blk b
    rw[hst.ro l b hl] at hb
    simp only[BlkR,hg] at hb
    obtain⟨arr,e1,e2⟩:=hb
    obtain⟨u,hu,hv⟩:=z3k (o:=0) ha hn e2 h (fun j u hj=>by
     rw[Nat.zero_add,cell_of_row w b _ arr _ (0,0) e1]
     simpa using hj)
    rw[Nat.zero_add] at hu
    exact⟨u,by simp[Instr.loadAt,Instr.sureAddr,hu],hv⟩
   ·cases h
 ·rename_i l sz idx off
  cases hx with
  | ep hl =>
   rename_i b z c
   unfold zgp at h
   split at h
   ·rename_i z' es hg
    obtain⟨hsz,h'⟩:=z00 h
    clear h
    have hsz:=z03.1 hsz
    subst hsz
    unfold zia at h'
    split at h'
    ·rename_i y hy
     obtain⟨hr,hz⟩:=hst.rv l z' es b z c hg hl
     subst hz
     have hb:=hst.blk b
     rw[hr] at hb
     obtain⟨arr,t',e1,e2,e2',e3⟩:=hb z es c hg hl
     obtain⟨q1,q2⟩:=e3 idx y hy
     have hidx:idx < es.length:=(List.getElem?_eq_some_iff.1 hy).1
     have hfit:idx * z+z≤arr.size:=by
      rw[e2]
      calc idx * z+z=(idx+1) * z:=by rw[Nat.add_mul,Nat.one_mul]
       _≤c * z:=Nat.mul_le_mul_right _ (by omega)
     have hcs:VRs κ y.cells ((arr.toList.drop (idx * z)).take z):=by
      refine⟨by simp[q1]; omega,fun i c' u hc hu=>?_,fun i u hu=>?_⟩
      ·obtain⟨u',hu',hv',_⟩:=q2 i c' hc
       have hi:i < z:=by have:=(List.getElem?_eq_some_iff.1 hc).1; omega
       simp only[List.getElem?_take,List.getElem?_drop,hi,if_true] at hu
       have:arr[idx * z+i]?=some u:=by simpa using hu
       rw[hu'] at this; cases this; exact hv'
      ·simp only[List.getElem?_take,List.getElem?_drop] at hu
       split at hu
       ·rename_i hi
        have hi':i < y.cells.length:=by omega
        obtain⟨u',hu',_,ho⟩:=q2 i y.cells[i] (by simp[hi'])
        have:arr[idx * z+i]?=some u:=by simpa using hu
        rw[hu'] at this; cases this; exact ho
       ·cases hu
     obtain⟨u,hu,hv⟩:=z3k ha hn hcs h' (fun j u hj=>by
      rw[cell_of_row w b _ arr t' (0,0) e1]
      simp only[List.getElem?_take,List.getElem?_drop] at hj
      split at hj
      ·simpa using hj
      ·cases hj)
     exact⟨u,by simp[Instr.loadAt,Instr.sureAddr,hu],hv⟩
    ·cases h'
   ·cases h
 ·cases h
def AV.basic:AV→Prop
 | .bool _ | .int _ _ | .str _=>True
 | _=>False
theorem zdf {ks:List CK} {x y:AV} {b:Bool} (h:eqk ks [x] [y]=some b):x.basic∧y.basic:=by
 cases ks with
 | nil=>simp[eqk] at h
 | cons c cs=>cases c<;>cases x<;>cases y<;>first | exact⟨trivial,trivial⟩ | (simp only[eqk,reduceCtorEq] at h; done)
theorem zfx {kt:TypeId} {ag:Bool} {ks:List CK} {k a:AV} {kv av:Value} {b:Bool} (hag:aggB P kt=some ag) (hk:VR κ k kv) (ha:VR κ a av) (h:eqT ag ks k a=some b) :
  Shp P kt kv∧Shp P kt av∧eqv ks kv.cells.toList av.cells.toList=some b:=by
 unfold eqT at h
 cases ag with
 | true =>
  cases k<;>cases a<;>first | contradiction | skip
  obtain⟨A,rfl,hA⟩:=hk.agg_inv
  obtain⟨A',rfl,hA'⟩:=ha.agg_inv
  exact⟨⟨true,hag,⟨_,rfl⟩⟩,⟨true,hag,⟨_,rfl⟩⟩,zbz ks h hA hA'⟩
 | false =>
  simp only at h
  have key:∀ {x y:AV} {u:Value},VR κ x u→(∃ b,eqk ks [x] [y]=some b∨eqk ks [y] [x]=some b)→VRs κ [x] [u]∧u.cells=#[u]:=by
   intro x y u hx ⟨b,hb⟩
   have hbs:x.basic:=by rcases hb with hb | hb<;>first | exact(zdf hb).1 | exact(zdf hb).2
   have hone:u.oneCell'=true∧u.cells=#[u]:=by
    cases x<;>first | exact hbs.elim | (cases hx; exact⟨rfl,rfl⟩)
   refine⟨⟨rfl,fun i c v hc hv=>?_,fun i v hv=>?_⟩,hone.2⟩
   ·cases i with
    | zero=>simp at hc hv; subst hc; subst hv; exact hx
    | succ i=>simp at hc
   ·cases i with
    | zero=>simp at hv; subst hv; exact hone.1
    | succ i=>simp at hv
  obtain⟨h1,h2⟩:=key hk ⟨b,.inl h⟩
  obtain⟨h3,h4⟩:=key ha ⟨b,.inr h⟩
  refine⟨⟨false,hag,by simpa using h2⟩,⟨false,hag,by simpa using h4⟩,?_⟩
  rw[h2,h4]
  exact zbz ks h h1 h3
theorem zc4 {kt:TypeId} {ag:Bool} {ks:List CK} {k:AV} {kv:Value} (hag:aggB P kt=some ag) (hk:VR κ k kv) :
  ∀ (es:List (AV × AV)) (ens:List MapEntry) (i:Nat) (r:Option AV),ens.length=es.length→(∀ (j:Nat) (a v:AV) (en:MapEntry),es[j]?=some (a,v)→ens[j]?=some en→VR κ a en.key∧VR κ v en.val)→find ag ks k es=some r →
   ∃ r',FndR P kt ks kv ens i r'∧Shp P kt kv∧(∃ c,eqv ks kv.cells.toList c=some true∨eqv ks kv.cells.toList c=some false) ∧
    match r with
    | none=>r'=none∧(∀ v,put ag ks k v es=es++[(k,v)])
    | some v=>∃ (j:Nat) (a:AV) (en:MapEntry),es[j]?=some (a,v)∧ens[j]?=some en∧r'=some (i+j,en.val)∧(∀ v',put ag ks k v' es=es.set j (k,v'))∧Shp P kt en.key∧eqv ks kv.cells.toList en.key.cells.toList=some true
 | [],ens,i,r,hl,_,h=>by
  have:ens=[]:=by simpa using hl
  subst this
  simp only[find] at h
  cases he:eqT ag ks k k with
  | none=>simp[he,zaf] at h
  | some b =>
   simp only[he,zaf,Option.some.injEq] at h
   subst h
   obtain⟨h1,_,h3⟩:=zfx hag hk hk he
   refine⟨none,.nil,h1,⟨kv.cells.toList,by cases b; exact .inr h3; exact .inl h3⟩,rfl,fun v=>rfl⟩
 | (a,v)::es,ens,i,r,hl,hes,h=>by
  cases ens with
  | nil=>simp at hl
  | cons en ens =>
   obtain⟨ha,hv⟩:=hes 0 a v en rfl rfl
   simp only[find] at h
   cases he:eqT ag ks k a with
   | none=>simp[he,z8c] at h
   | some b =>
    obtain⟨h1,h2,h3⟩:=zfx hag hk ha he
    cases b with
    | true =>
     simp only[he,z8c,Option.some.injEq] at h
     subst h
     refine⟨some (i,en.val),.hit h2 h3,h1,⟨_,.inl h3⟩,0,a,en,rfl,rfl,rfl,fun v'=>?_,h2,h3⟩
     simp only[put,he,putB]; rfl
    | false =>
     simp only[he,z8c] at h
     obtain⟨r',q1,q2,q3,q4⟩:=zc4 hag hk es ens (i+1) r (by simpa using hl) (fun j a' v' en' x y=>hes (j+1) a' v' en' x y) h
     refine⟨r',.miss h2 h3 q1,h1,⟨_,.inr h3⟩,?_⟩
     cases r with
     | none =>
      obtain⟨q5,q6⟩:=q4
      refine⟨q5,fun v'=>?_⟩
      simp only[put,he,putB,q6 v',List.cons_append]
     | some v' =>
      obtain⟨j,a',en',q5,q6,q7,q8,q9⟩:=q4
      refine⟨j+1,a',en',by simpa using q5,by simpa using q6,by rw[q7]; congr 2; omega,fun u=>?_,q9⟩
      simp only[put,he,putB,q8 u,List.set_cons_succ]
theorem z5c {kt:TypeId} {n:Nat} (hn:n≤10000) {ks:List CK} (hf:z1l P n kt=some ks) {kv:Value} (hs:Shp P kt kv) (hc:∃ c,eqv ks kv.cells.toList c=some true∨eqv ks kv.cells.toList c=some false) (em:Bool) (w:World) :
  (Instr.checkKey em 10000 kt kv).run P w=.ok () w:=by
 obtain⟨c,hc⟩:=hc
 obtain⟨b,hb⟩:∃ b,eqv ks kv.cells.toList c=some b:=by rcases hc with hc | hc<;>exact⟨_,hc⟩
 refine z2s n kt ks hf 10000 hn w kv hs ?_ (ziq ks hb).1
 have:=(z7c ks hb).1
 simpa using this
theorem zix {m:AV} {x:Value} {es:List (AV × AV)} (hx:VR κ m x) (hst:St κ e B w₀ w) (h:z3v e m=some es) :
  (x=.map none∧es=[])∨∃ l b ens clock,m=.map l∧κ.ob l=some b∧e.get l=.map es∧x=.map (some b)∧w.heap[b]?=some (.map ens clock)∧MapR κ l es ens clock:=by
 unfold z3v at h
 split at h
 ·cases h; cases hx; exact .inl ⟨rfl,rfl⟩
 ·rename_i l
  cases hx with
  | map hl =>
   rename_i b
   unfold z8 at h
   split at h
   ·rename_i es' hg
    cases h
    have hb:=hst.blk b
    rw[hst.ro l b hl] at hb
    simp only[BlkR,hg] at hb
    obtain⟨ens,clock,e1,e2⟩:=hb
    exact .inr ⟨l,b,ens,clock,rfl,hl,hg,rfl,e1,e2⟩
   ·cases h
 ·cases h
theorem zh1 {t kt el:TypeId} {ag:Bool} {ks:List CK} {ok:Bool} {zero m k v:AV} {x kv:Value} (hu:P.underlying t=some (.map kt el)) (hag:aggB P kt=some ag) (hf:z1l P 8 kt=some ks) (hz:z79 P el=some zero)
  (hm:VR κ m x) (hk:VR κ k kv) (hst:St κ e B w₀ w) (h:lkuM ag ks ok zero k (z3v e m)=some v):∃ u,(Instr.lookup t x kv ok).run P w=.ok u w∧VR κ v u:=by
 obtain⟨zv,hz1,hz2⟩:=z3d hz
 cases hmo:z3v e m with
 | none=>simp[hmo,lkuM] at h
 | some es =>
  simp only[hmo,lkuM] at h
  cases hfd:find ag ks k es with
  | none=>simp[hfd,lkuF] at h
  | some r =>
   have hpair:∀ {a b:AV} {u v:Value},VR κ a u→VR κ b v→VR κ (.tup [a,b]) (.tuple #[u,v]):=by
    intro a b u v h1 h2
    refine .tup rfl fun i c y hc hy=>?_
    match i with
    | 0=>simp at hc hy; subst hc; subst hy; exact h1
    | 1=>simp at hc hy; subst hc; subst hy; exact h2
    | i+2=>simp at hc
   have core:∀ (ens:Array MapEntry),ens.size=es.length→(∀ (j:Nat) (a v:AV) (en:MapEntry),es[j]?=some (a,v)→ens[j]?=some en→VR κ a en.key∧VR κ v en.val) →
     ∃ r':Option (Nat × Value),(Instr.checkKey ens.isEmpty 10000 kt kv).run P w=.ok () w∧(Instr.findKey kt kv ens.toList).run P w=.ok r' w ∧
      ((r=none∧r'=none)∨∃ v0 j val,r=some v0∧r'=some (j,val)∧VR κ v0 val):=by
    intro ens hsz hes
    obtain⟨r',q1,q2,q3,q4⟩:=zc4 hag hk es ens.toList 0 r (by simpa using hsz) (fun j a v en x y=>hes j a v en x (by simpa using y)) hfd
    refine⟨r',z5c (by omega) hf q2 q3 _ w,z55 (by omega) hf q2 q1 w,?_⟩
    cases r with
    | none=>exact .inl ⟨rfl,q4.1⟩
    | some v0 =>
     obtain⟨j,a,en,p1,p2,p3,_⟩:=q4
     exact .inr ⟨v0,_,en.val,rfl,p3,(hes j a v0 en p1 (by simpa using p2)).2⟩
   have fin:∀ r':Option (Nat × Value),((r=none∧r'=none)∨∃ v0 j val,r=some v0∧r'=some (j,val)∧VR κ v0 val) →
     ∃ u,((do
      let (v,ok') ← (match r' with | some (_,v)=>pure (v,true) | none=>do pure (← zeroValue el,false):Sem (Value × Bool))
      pure (if ok then .tuple #[v,.bool ok'] else v):Sem Value)).run P w=.ok u w∧VR κ v u:=by
    intro r' hr
    rcases hr with⟨rfl,rfl⟩ | ⟨v0,j,val,rfl,rfl,hv0⟩
    ·simp only[hfd,lkuF,Option.some.injEq] at h
     subst h
     have hzv:=z3i hz2 κ
     cases ok with
     | true=>exact⟨.tuple #[zv,.bool false],by simp[z17 w hz1],hpair hzv (.bool _)⟩
     | false=>exact⟨zv,by simp[z17 w hz1],hzv⟩
    ·simp only[hfd,lkuF,Option.some.injEq] at h
     subst h
     cases ok with
     | true=>exact⟨.tuple #[val,.bool true],by simp,hpair hv0 (.bool _)⟩
     | false=>exact⟨val,by simp,hv0⟩
   rcases zix hm hst hmo with⟨rfl,rfl⟩ | ⟨l,b,ens,clock,rfl,hl,hg,rfl,hw,hM⟩
   ·obtain⟨r',c1,c2,c3⟩:=core #[] rfl (by simp)
    obtain⟨u,hu',hv⟩:=fin r' c3
    refine⟨u,?_,hv⟩
    rw[← hu']
    simp only[Instr.lookup,Sem.run_bind,run_underlying hu,Result.andThen_ok,Sem.run_pure,c1,c2]
    cases r'<;>simp[z17 w hz1]
   ·obtain⟨hs,hes,_⟩:=hM
    obtain⟨r',c1,c2,c3⟩:=core ens hs (fun j a v en x y=>by obtain⟨p,q,_⟩:=hes j a v en x y; exact⟨p,q⟩)
    obtain⟨u,hu',hv⟩:=fin r' c3
    refine⟨u,?_,hv⟩
    rw[← hu']
    have hgo:(getObj b).run P w=.ok (.map ens clock) w:=by simp[getObj,Sem.run,hw]
    simp only[Instr.lookup,Sem.run_bind,run_underlying hu,Result.andThen_ok,Sem.run_pure,hgo,c1,c2]
    cases r'<;>simp[z17 w hz1]
end
end Go.Abs
namespace Go.Abs
open Go Go.RowKit
variable [Glob]
section
variable {P:Program} [hG:GOK P] {κ:K} {e:E} {B:Nat} {w₀ w:World}
theorem RowR.ofCells {κ:K} {cs:List AV} {us:List Value} (h:VRs κ cs us):RowR κ 1 cs us:=by
 obtain⟨h1,h2,h3⟩:=h
 refine⟨by omega,fun i y hy=>?_,fun u hu=>?_⟩
 ·have hi:i < us.length:=by have:=(List.getElem?_eq_some_iff.1 hy).1; omega
  have hu:us[i]?=some us[i]:=by simp[hi]
  have hc:=(h2 i y _ hy hu).cells1 (h3 i _ hu)
  rw[hc]
  refine⟨rfl,fun j c hj=>?_⟩
  cases j with
  | zero=>simp at hj; subst hj; exact⟨us[i],by simp[hi],h2 i _ _ hy hu⟩
  | succ j=>simp at hj
 ·obtain⟨p,hp⟩:=List.getElem?_of_mem hu
  exact h3 p u hp
theorem VRs.sub {κ:K} {cs:List AV} {us:List Value} (h:VRs κ cs us) (off n:Nat):VRs κ ((cs.drop off).take n) ((us.drop off).take n):=by
 obtain⟨h1,h2,h3⟩:=h
 refine⟨by simp[h1],fun i c u hc hu=>?_,fun i u hu=>?_⟩
 ·simp only[List.getElem?_take,List.getElem?_drop] at hc hu
  split at hc
  ·rename_i hi; rw[if_pos hi] at hu; exact h2 _ c u hc hu
  ·cases hc
 ·simp only[List.getElem?_take,List.getElem?_drop] at hu
  split at hu
  ·exact h3 _ u hu
  ·cases hu
theorem z9g {v:AV} {x:Value} {z:Nat} {xs:List AV} (hx:VR κ v x) (hst:St κ e B w₀ w) (h:z15 e v=some (z,xs)) :
  (∃ a,x=.slice a 0 0∧xs=[])∨∃ b o cap us,x=.slice (some ⟨b,o,none⟩) xs.length cap∧RowR κ z xs us∧∀ j u,us[j]?=some u→w.cell? ⟨b,o+j,none⟩=some u:=by
 cases v<;>simp only[z15,reduceCtorEq] at h
 case sl k z' xs' =>
  simp only[Option.some.injEq,Prod.mk.injEq] at h
  obtain⟨rfl,rfl⟩:=h
  cases hx with
  | slnil=>exact .inl ⟨_,rfl,rfl⟩
  | sle=>exact .inl ⟨_,rfl,rfl⟩
  | sl g hcap hz hf hg h1 hk1 hk hz1 =>
   rename_i b o cap
   right
   have hget:∀ i j,i < xs'.length→j < z'→((List.range (xs'.length * z')).map fun p=>g (p / z') (p % z'))[i * z'+j]?=some (g i j):=by
    intro i j hi hj
    have hlt:=z9e hi hj
    have hd:(i * z'+j) / z'=i:=by rw[Nat.mul_comm,Nat.mul_add_div (by omega),Nat.div_eq_of_lt hj]; rfl
    have hm:(i * z'+j) % z'=j:=by rw[Nat.mul_comm,Nat.mul_add_mod,Nat.mod_eq_of_lt hj]
    simp only[List.getElem?_map,List.getElem?_range hlt,Option.map_some,hd,hm]
   refine⟨b,o,cap,(List.range (xs'.length * z')).map fun p=>g (p / z') (p % z'),rfl,⟨by simp,fun i y hy=>⟨hz i y hy,fun j c hc=>?_⟩,fun u hu=>?_⟩,fun p u hu=>?_⟩
   ·have hi:i < xs'.length:=(List.getElem?_eq_some_iff.1 hy).1
    have hj:j < z':=by have:=(List.getElem?_eq_some_iff.1 hc).1; have:=hz i y hy; omega
    exact⟨g i j,hget i j hi hj,hg i y j c hy hc⟩
   ·simp only[List.mem_map] at hu
    obtain⟨p,_,rfl⟩:=hu
    exact h1 _ _
   ·simp only[List.getElem?_map,Option.map_eq_some_iff] at hu
    obtain⟨q,hq,rfl⟩:=hu
    have hp:p < xs'.length * z':=by have:=(List.getElem?_eq_some_iff.1 hq).1; simpa using this
    have hqp:q=p:=by rw[List.getElem?_range hp] at hq; exact(Option.some.inj hq).symm
    subst hqp
    have hz0:0 < z':=by rcases Nat.eq_zero_or_pos z' with h0 | h0; · rw[h0] at hp; simp at hp
                        ·exact h0
    have hi:q / z' < xs'.length:=by rw[Nat.div_lt_iff_lt_mul hz0]; exact hp
    have hj:q % z' < z':=Nat.mod_lt _ hz0
    have hy:xs'[q / z']?=some xs'[q / z']:=by simp[hi]
    have hyl:=hz _ _ hy
    have hc:=List.getElem?_eq_getElem (l:=xs'[q / z'].cells) (i:=q % z') (by omega)
    have hfz:=hf _ _ _ _ hy hc
    have he:o+q / z' * z'+q % z'=o+q:=by have:=Nat.div_add_mod' q z'; omega
    rw[he] at hfz
    have hb:=hst.blk b
    rw[hst.rf b _ _ hfz] at hb
    obtain⟨arr,t',f,e1,e2,_⟩:=hb
    rw[cell_of_row w b _ arr t' f e1]
    exact e2 _ _ hfz
 case as l off n =>
  unfold zec at h
  split at h
  ·rename_i t cs hg
   obtain⟨hsz,h'⟩:=z00 h
   clear h
   have hsz:=Nat.le_of_ble_eq_true hsz
   simp only[Option.some.injEq,Prod.mk.injEq] at h'
   obtain⟨rfl,rfl⟩:=h'
   right
   cases hx with
   | as hv ho hcap =>
    rename_i b o cap
    have hb:=hst.blk b
    rw[hst.ro l b hv] at hb
    simp only[BlkR,ObR,hg] at hb
    obtain⟨arr,e1,e2⟩:=hb
    have hlen:((cs.drop off).take n).length=n:=by simp; omega
    refine⟨b,o,cap,(arr.toList.drop off).take n,by rw[hlen],.ofCells (e2.sub off n),fun p u hu=>?_⟩
    have hp:p < n:=by have:=(List.getElem?_eq_some_iff.1 hu).1; simp at this; omega
    have:o=off:=by rcases ho with h | h<;>omega
    subst this
    rw[cell_of_row w b _ arr t (0,0) e1]
    simpa [List.getElem?_take,hp] using hu
  ·cases h
 case hs l z0 sz off n ex =>
  unfold z8x at h
  simp only[zef,Nat.zero_add] at h
  split at h
  ·rename_i z' es hg
   obtain⟨hsz,h'⟩:=z00 h
   clear h
   have hsz:=z03.1 hsz
   subst hsz
   simp only[Option.some.injEq,Prod.mk.injEq] at h'
   obtain⟨rfl,rfl⟩:=h'
   right
   cases hx with
   | hs hv hin hszc hcap hz1 =>
    rename_i b c cap
    obtain⟨hr,rfl⟩:=hst.rv l z' es b z0 c hg hv
    have hb:=hst.blk b
    rw[hr] at hb
    obtain⟨arr,t',e1,e2,e2',e3⟩:=hb z0 es c hg hv
    have hlen:((es.drop off).take n).length=n:=by simp; omega
    have hfit:off * z0+n * z0≤arr.size:=by
     rw[e2,← Nat.add_mul]; exact Nat.mul_le_mul_right _ (by omega)
    have hget:∀ p,p < n * z0→((arr.toList.drop (off * z0)).take (n * z0))[p]?=arr[off * z0+p]?:=by
     intro p hp; simp[List.getElem?_take,hp]
    refine⟨b,off * z0,cap,(arr.toList.drop (off * z0)).take (n * z0),by rw[hlen],⟨by rw[hlen]; simp; omega,fun i y hy=>?_,fun u hu=>?_⟩,fun p u hu=>?_⟩
    ·have hi:i < n:=by have:=(List.getElem?_eq_some_iff.1 hy).1; omega
     have hy':es[off+i]?=some y:=by simpa [List.getElem?_take,hi] using hy
     obtain⟨q1,q2⟩:=e3 _ y hy'
     refine⟨q1,fun j c' hc=>?_⟩
     obtain⟨u,hu,hv',_⟩:=q2 j c' hc
     have hj:j < z0:=by have:=(List.getElem?_eq_some_iff.1 hc).1; omega
     refine⟨u,?_,hv'⟩
     rw[hget _ (z9e hi hj)]
     have:off * z0+(i * z0+j)=(off+i) * z0+j:=by rw[Nat.add_mul]; omega
     rw[this]; exact hu
    ·obtain⟨p,hp⟩:=List.getElem?_of_mem hu
     have hlt:p < n * z0:=by have:=(List.getElem?_eq_some_iff.1 hp).1; simp at this; omega
     rw[hget p hlt] at hp
     have hz0:0 < z0:=by rcases Nat.eq_zero_or_pos z0 with h0 | h0; · rw[h0] at hlt; simp at hlt
                         ·exact h0
     have hi:p / z0 < n:=by rw[Nat.div_lt_iff_lt_mul hz0]; exact hlt
     have hj:p % z0 < z0:=Nat.mod_lt _ hz0
     have hoi:off+p / z0 < es.length:=by omega
     have hy:es[off+p / z0]?=some es[off+p / z0]:=by simp[hoi]
     obtain⟨q1,q2⟩:=e3 _ _ hy
     obtain⟨u',hu',_,ho⟩:=q2 (p % z0) (es[off+p / z0].cells[p % z0]'(by omega)) (by simp[q1,hj])
     have:(off+p / z0) * z0+p % z0=off * z0+p:=by have:=Nat.div_add_mod' p z0; rw[Nat.add_mul]; omega
     rw[this,hp] at hu'
     cases hu'; exact ho
    ·have hlt:p < n * z0:=by have:=(List.getElem?_eq_some_iff.1 hu).1; simp at this; omega
     rw[hget p hlt] at hu
     rw[cell_of_row w b _ arr t' (0,0) e1]
     exact hu
   | hsnil hv hz1 =>
    rename_i b c o
    exact⟨b,o,0,[],by simp,⟨by simp,by simp,by simp⟩,by simp⟩
  ·cases h
theorem zdg {xs:List AV}:∀ {l:List Nat},bytesOf xs=some l→xs=l.map (fun n=>.int .u8 (.ofNat n))∧∀ n∈l,n < 256:=by
 induction xs with
 | nil=>intro l h; simp only[bytesOf,Option.some.injEq] at h; subst h; simp
 | cons v rest ih =>
  intro l h
  simp only[bytesOf] at h
  cases hv:zbp v with
  | none=>simp[hv,zcx] at h
  | some n =>
   simp only[hv,zcx] at h
   cases hr:bytesOf rest with
   | none=>simp[hr,zcw] at h
   | some l' =>
    simp only[hr,zcw] at h
    obtain⟨hn,h⟩:=z00 h
    cases h
    obtain⟨h1,h2⟩:=ih hr
    have hv':v=.int .u8 (.ofNat n):=by
     unfold zbp at hv
     split at hv
     ·cases hv; rfl
     ·cases hv
    refine⟨by rw[hv',h1]; rfl,fun m hm=>?_⟩
    cases hm with
    | head=>exact Nat.blt_eq ▸ hn
    | tail _ hm=>exact h2 m hm
theorem zh2 (l:List Nat) (h:∀ n∈l,n < 256):∀ s:ByteArray,((l.map Int.ofNat).foldl (fun r n=>r.push (UInt8.ofNat n.toNat)) s).data.toList.map UInt8.toNat=s.data.toList.map UInt8.toNat++l:=by
 induction l with
 | nil=>intro s; simp
 | cons n l ih =>
  intro s
  simp only[List.map_cons,List.foldl_cons]
  rw[ih (fun m hm=>h m (by simp[hm]))]
  have hn:n < 256:=h n (by simp)
  simp[ByteArray.push]
  omega
theorem b2s_sim {src dst el:TypeId} {v r:AV} {x:Value} (h1:P.underlying src=some (.slice el)) (h2:P.underlying el=some (.int .u8)) (h3:P.underlying dst=some .string) (hx:VR κ v x) (hst:St κ e B w₀ w) (h:b2sE (z15 e v)=some r) :
  ∃ u,(convert src dst x).run P w=.ok u w∧VR κ r u:=by
 cases he:z15 e v with
 | none=>simp[he,b2sE] at h
 | some p =>
  obtain⟨z,xs⟩:=p
  simp only[he,b2sE,zap] at h
  cases hb:bytesOf xs with
  | none=>simp[hb,strO] at h
  | some l =>
   simp only[hb,strO,Option.some.injEq] at h
   subst h
   obtain⟨hxs,hlt⟩:=zdg hb
   rcases z9g hx hst he with⟨a,rfl,rfl⟩ | ⟨b,o,cap,us,rfl,hrow,hcell⟩
   ·have:l=[]:=by simpa using hxs
    subst this
    cases a with
    | some a =>
     have hload:=run_loadCells_list (P:=P) w a [] (by simp)
     exact⟨_,by rw[run_convert_bytes_string w src dst el _ _ _ h1 h2 h3]; exact run_bytesToString w a 0 0 [] hload,.str .empty⟩
    | none =>
    exact⟨.string .empty,by simp[convert,run_underlying h1,run_underlying h2,run_underlying h3,Conv.bytesToString],.str .empty⟩
   ·have hus:us=(l.map Int.ofNat).map (Value.int .u8):=by
     by_cases hl:l=[]
     ·subst hl
      have hx0:xs=[]:=by simpa using hxs
      subst hx0
      have:=hrow.1
      simpa using this
     ·have hz:z=1:=by
       cases l with
       | nil=>exact absurd rfl hl
       | cons n l =>
        have:=(hrow.2.1 0 (.int .u8 (.ofNat n)) (by rw[hxs]; rfl)).1
        simpa [AV.cells] using this.symm
      subst hz
      apply List.ext_getElem?
      intro i
      by_cases hi:i < l.length
      ·have hxi:xs[i]?=some (.int .u8 (.ofNat l[i])):=by rw[hxs]; simp[hi]
       obtain⟨u,hu,hv⟩:=(hrow.2.1 i _ hxi).2 0 _ rfl
       have:=hv.int_inv
       subst this
       have hu':us[i]?=some (.int .u8 (.ofNat l[i])):=by simpa using hu
       rw[hu']
       simp[hi]
      ·have h5:us.length=l.length:=by rw[hrow.1,hxs]; simp
       rw[List.getElem?_eq_none (by omega),List.getElem?_eq_none (by simp; omega)]
    have hul:us.length=xs.length:=by rw[hus,hxs]; simp
    have hload:=run_loadCells_list (P:=P) w ⟨b,o,none⟩ us (fun j u hj=>by rw[z1f]; exact hcell j u hj)
    rw[hul,hus] at hload
    refine⟨_,by rw[run_convert_bytes_string w src dst el _ _ _ h1 h2 h3]; exact run_bytesToString w _ _ _ _ hload,?_⟩
    have hf:=zh2 l hlt ByteArray.empty
    have:l=((l.map Int.ofNat).foldl (fun r n=>r.push (UInt8.ofNat n.toNat)) ByteArray.empty).data.toList.map UInt8.toNat:=by rw[hf]; simp
    have hs:=VR.str (κ:=κ) ((l.map Int.ofNat).foldl (fun r n=>r.push (UInt8.ofNat n.toNat)) ByteArray.empty)
    rw[← this] at hs
    exact hs
theorem zmo {t kt el:TypeId} {m v:AV} {x:Value} {A:Array TypeId} {T:TypeId} (hA:A[0]?=some t) (hu:P.underlying t=some (.map kt el)) (hx:VR κ m x) (hst:St κ e B w₀ w) (h:zgq (z3v e m)=some v) :
  ∃ u,(Builtin.len_ A T #[x]).run P w=.ok u w∧VR κ v u:=by
 cases hmo:z3v e m with
 | none=>simp[hmo,zgq] at h
 | some es =>
  simp only[hmo,zgq,Option.some.injEq] at h
  subst h
  rcases zix hx hst hmo with⟨rfl,rfl⟩ | ⟨l,b,ens,clock,rfl,hl,hg,rfl,hw,hM⟩
  ·exact⟨goInt 0,by simp[Builtin.len_,hA,run_underlying hu],.int _ _⟩
  ·refine⟨goInt ens.size,by simp[Builtin.len_,hA,run_underlying hu,getObj,Sem.run,hw],?_⟩
   rw[hM.1]; exact .int _ _
theorem cvu_sim {src dst t:TypeId} {n:Nat} {v r:AV} {x:Value} (hs:P.underlying src=some (.pointer t)) (hd:P.underlying dst=some .unsafePointer) (hn:z6d P t=some n) (hx:VR κ v x) (hst:St κ e B w₀ w) (h:cvuA e v=some r) :
  ∃ u,(convert src dst x).run P w=.ok u w∧VR κ r u:=by
 cases v<;>simp only[cvuA,reduceCtorEq] at h
 rename_i l off
 cases hx with
 | ptr hl =>
  rename_i b
  cases hg:e.get l<;>rw[hg] at h<;>simp only[cvuO,reduceCtorEq] at h
  rename_i t' cs
  obtain⟨hlt,h⟩:=z00 h
  cases h
  have hlt:off < cs.length:=by simpa [Nat.blt_eq] using hlt
  have hb:=hst.blk b
  rw[hst.ro l b hl] at hb
  simp only[BlkR,hg] at hb
  obtain⟨arr,e1,e2⟩:=hb
  have hsz:arr.size=cs.length:=by have:=e2.1; simpa using this
  obtain⟨h1,h2⟩:=z22 hn
  unfold z13 at h1
  simp only[Option.map_eq_some_iff] at h1
  obtain⟨j,hj,hjs⟩:=h1
  exact⟨_,Lib.run_to_unsafe (P:=P) (w:=w) (cells:=arr.size) (e:=t') ⟨b,off,none⟩ hs hd hj (by omega) (by simp[World.shape?,e1]) (by simp; omega),.ptr hl⟩
theorem zfy {t n off:Nat}:∀ {ok:List (Nat × Nat × Nat)},okIn t n off ok=true→(t,n,off)∈ok
 | [],h=>by cases h
 | (a,b,c)::r,h=>by
  simp only[okIn] at h
  cases hc:(Nat.beq a t && (Nat.beq b n && Nat.beq c off)) with
  | true =>
   simp only[Bool.and_eq_true,z03] at hc
   obtain⟨rfl,rfl,rfl⟩:=hc
   simp
  | false=>rw[hc] at h; exact List.mem_cons_of_mem _ (zfy h)
theorem z8o {P:Program} {u t n off:Nat}:∀ {l:List (Nat × Nat)},(t,n,off)∈lays P u l→z13 P t=some n∧liesAt P P.depth t (n / P.cellsOf t) off u 1=true
 | [],h=>by simp[lays] at h
 | (a,b)::r,h=>by
  simp only[lays] at h
  split at h
  ·rename_i m hm
   cases hc:liesAt P P.depth a (m / P.cellsOf a) b u 1 with
   | true =>
    rw[hc] at h
    simp only[cond_true,List.mem_cons,Prod.mk.injEq] at h
    rcases h with⟨rfl,rfl,rfl⟩ | h
    ·exact⟨hm,hc⟩
    ·exact z8o h
   | false=>rw[hc] at h; exact z8o h
  ·exact z8o h
theorem cvp_sim {src dst u:TypeId} {n:Nat} {v r:AV} {x:Value} {l:List (Nat × Nat)} (hs:P.underlying src=some .unsafePointer) (hd:P.underlying dst=some (.pointer u)) (hn:z6d P u=some n) (hx:VR κ v x) (hst:St κ e B w₀ w) (h:cvpA e (lays P u l) v=some r) :
  ∃ y,(convert src dst x).run P w=.ok y w∧VR κ r y:=by
 cases v<;>simp only[cvpA,reduceCtorEq] at h
 rename_i l off
 cases hx with
 | ptr hl =>
  rename_i b
  cases hg:e.get l<;>rw[hg] at h<;>simp only[cvpO,reduceCtorEq] at h
  rename_i t' cs
  obtain⟨hc,h⟩:=z00 h
  cases h
  obtain⟨_,hlies⟩:=z8o (zfy hc)
  have hb:=hst.blk b
  rw[hst.ro l b hl] at hb
  simp only[BlkR,hg] at hb
  obtain⟨arr,e1,e2⟩:=hb
  have hsz:arr.size=cs.length:=by have:=e2.1; simpa using this
  obtain⟨h1,h2⟩:=z22 hn
  unfold z13 at h1
  simp only[Option.map_eq_some_iff] at h1
  obtain⟨j,hj,hjs⟩:=h1
  exact⟨_,Lib.run_from_unsafe (P:=P) (w:=w) (cells:=arr.size) (e:=t') ⟨b,off,none⟩ hs hd hj (by simp[World.shape?,e1]) (by rw[hsz]; exact hlies),.ptr hl⟩
theorem RO.sim {dec a:Nat} {oper:Oper} {op:Op} {o:RO} (ho:oper.op=op) (hc:z05 P dec a op=some (.r o)) {s:Tm} {ρ:Operand→Value} {v:AV} (hx:Opd κ s ρ op.operands.toList) (hv:o.ev s e=some v) (hst:St κ e B w₀ w) :
  Get1 P κ e B w₀ w (execOp ρ oper) v:=by
 cases op
 case load t x =>
  simp only[z05,Option.bind_eq_bind,Option.bind_eq_some_iff,Option.some.injEq,OP.r.injEq] at hc
  obtain⟨ag,h1,n,h2,ax,h3,rfl⟩:=hc
  refine .run hst (by simp only[execOp,ho]) (zfw h1 h2 (hx x (by simp[Op.operands]) ax h3) hst ?_)
  have key:∀ b:Bool,(cond (b && (!ag && Nat.beq n 1)) (RO.ldc ax) (RO.ld ag n ax)).ev s e=some v→z19 e ag n (ax.ev s)=some v:=by
   intro b hv
   cases hb:(b && (!ag && Nat.beq n 1)) with
   | false=>rw[hb] at hv; exact hv
   | true =>
    rw[hb] at hv
    simp only[Bool.and_eq_true,Bool.not_eq_true',z03] at hb
    rw[hb.2.1,hb.2.2]; exact hv
  exact key _ hv
 case lookup t x k ok =>
  simp only[z05,Option.bind_eq_bind] at hc
  split at hc
  ·rename_i kt el hu
   simp only[Option.bind_eq_some_iff,Option.some.injEq,OP.r.injEq] at hc
   obtain⟨ag,h1,ks,h2,z,h3,ax,h4,ak,h5,rfl⟩:=hc
   exact .run hst (by simp only[execOp,ho]) (zh1 hu h1 h2 h3 (hx x (by simp[Op.operands]) ax h4) (hx k (by simp[Op.operands]) ak h5) hst hv)
  ·cases hc
 case convert src dst x =>
  simp only[z05] at hc
  split at hc
  ·simp only[Option.bind_eq_bind,Option.bind_eq_some_iff,Option.some.injEq,reduceCtorEq,and_false,exists_false] at hc
  ·simp only[Option.bind_eq_bind,Option.bind_eq_some_iff,Option.some.injEq,reduceCtorEq,and_false,exists_false] at hc
  ·split at hc
   ·simp only[Option.bind_eq_bind,Option.bind_eq_some_iff,Option.some.injEq,reduceCtorEq,and_false,exists_false] at hc
   ·cases hc
  ·rename_i el h1 h3
   split at hc
   ·rename_i h2
    simp only[Option.bind_eq_bind,Option.bind_eq_some_iff,Option.some.injEq,OP.r.injEq] at hc
    obtain⟨ax,h4,rfl⟩:=hc
    exact .run hst (by simp only[execOp,ho]) (b2s_sim h1 h2 h3 (hx x (by simp[Op.operands]) ax h4) hst hv)
   ·cases hc
  ·rename_i t h1 h3
   simp only[Option.bind_eq_bind,Option.bind_eq_some_iff,Option.some.injEq,OP.r.injEq] at hc
   obtain⟨n,h2,ax,h4,rfl⟩:=hc
   exact .run hst (by simp only[execOp,ho]) (cvu_sim h1 h3 h2 (hx x (by simp[Op.operands]) ax h4) hst hv)
  ·rename_i u h1 h3
   simp only[Option.bind_eq_bind,Option.bind_eq_some_iff,Option.some.injEq,OP.r.injEq] at hc
   obtain⟨n,h2,ax,h4,rfl⟩:=hc
   exact .run hst (by simp only[execOp,ho]) (cvp_sim h1 h3 h2 (hx x (by simp[Op.operands]) ax h4) hst hv)
  ·cases hc
 case call c =>
  obtain⟨callee,args,argTypes⟩:=c
  simp only[z05] at hc
  split at hc
  ·rename_i x har
   have hargs:args=#[x]:=by apply Array.toList_inj.1; simpa using har
   subst hargs
   simp only[Option.bind_eq_bind,Option.bind_eq_some_iff] at hc
   obtain⟨t,hat,hc⟩:=hc
   split at hc
   ·rename_i kt el hu
    simp only[Option.bind_eq_some_iff,Option.some.injEq,OP.r.injEq] at hc
    obtain⟨ax,h1,rfl⟩:=hc
    obtain⟨u,hu',hv'⟩:=zmo (T:=oper.type) hat hu (hx x (by simp[Op.operands,Call.operands]) ax h1) hst hv
    exact .of hst (by simp only[execOp,ho,resolve]; simp[invoke,builtin,hu']) hv'
   ·simp only[Option.bind_eq_some_iff,Option.some.injEq,reduceCtorEq,and_false,exists_false] at hc
   ·simp only[Option.bind_eq_some_iff,Option.some.injEq,reduceCtorEq,and_false,exists_false] at hc
   ·cases hc
  ·simp only[Option.bind_eq_bind,Option.bind_eq_some_iff] at hc
   obtain⟨t,hat,hc⟩:=hc
   split at hc
   ·simp only[Option.bind_eq_some_iff] at hc
    obtain⟨u,hu,d,hd,hc⟩:=hc
    split at hc
    ·split at hc
     ·simp only[Option.bind_eq_some_iff,z08,Option.some.injEq,reduceCtorEq,and_false,exists_false,Prod.exists] at hc
     ·cases hc
    ·simp only[Option.bind_eq_some_iff,z08,Option.some.injEq,reduceCtorEq,and_false,exists_false] at hc
   ·cases hc
  ·simp only[Option.bind_eq_bind,Option.bind_eq_some_iff,Option.some.injEq,reduceCtorEq,and_false,exists_false] at hc
  ·simp only[Option.bind_eq_bind,Option.bind_eq_some_iff] at hc
   obtain⟨t,hat,hc⟩:=hc
   split at hc
   ·simp only[Option.bind_eq_some_iff,z08,Option.some.injEq,reduceCtorEq,and_false,exists_false] at hc
   ·cases hc
  all_goals first
   | (simp only[Option.bind_eq_bind,Option.bind_eq_some_iff,Option.some.injEq,reduceCtorEq,and_false,exists_false] at hc; done)
   | (cases hc; done)
   | (simp only[Option.bind_eq_bind,Option.bind_eq_some_iff] at hc; obtain⟨_,_,hc⟩:=hc; split at hc<;>first | (cases hc; done) | (simp only[Option.bind_eq_some_iff,Option.some.injEq,reduceCtorEq,and_false,exists_false,Prod.exists] at hc; done) | (simp only[Option.bind_eq_some_iff] at hc; obtain⟨_,_,hc⟩:=hc; split at hc<;>first | (cases hc; done) | (simp only[Option.bind_eq_some_iff,Option.some.injEq,reduceCtorEq,and_false,exists_false,Prod.exists] at hc; done)))
 case buildSlice t len ps =>
  simp only[z05,Option.bind_eq_bind] at hc
  split at hc
  ·simp only[Option.bind_eq_some_iff] at hc
   obtain⟨⟨n,z⟩,hz,hc⟩:=hc
   obtain⟨_,hc⟩:=z00 hc
   simp only[Option.bind_eq_some_iff,Option.some.injEq,reduceCtorEq,and_false,exists_false] at hc
  ·cases hc
 case makeFunc fn first captured =>
  cases fn<;>simp only[z05,Option.bind_eq_bind,Option.bind_eq_some_iff,Option.some.injEq,reduceCtorEq,and_false,exists_false] at hc
 case slice t x lo hi mx =>
  simp only[z05] at hc
  split at hc
  ·simp only[Option.bind_eq_bind,Option.bind_eq_some_iff,Option.some.injEq,reduceCtorEq,and_false,exists_false] at hc
  ·obtain⟨_,hc⟩:=z00 hc
   simp only[Option.bind_eq_bind,Option.bind_eq_some_iff,Option.some.injEq,reduceCtorEq,and_false,exists_false] at hc
  ·obtain⟨_,hc⟩:=z00 hc
   simp only[Option.bind_eq_bind,Option.bind_eq_some_iff,Option.some.injEq,reduceCtorEq,and_false,exists_false] at hc
  ·cases hc
 case fieldAddr t x f =>
  simp only[z05,Option.bind_eq_bind] at hc
  split at hc
  ·simp only[Option.bind_eq_some_iff] at hc
   obtain⟨fd,_,n,_,hc⟩:=hc
   split at hc
   ·cases hc
   ·simp only[Option.bind_eq_some_iff,Option.some.injEq,reduceCtorEq,and_false,exists_false] at hc
  ·cases hc
 all_goals first
  | (simp only[z05] at hc; done)
  | (simp only[z05,Option.bind_eq_bind,Option.bind_eq_some_iff,Option.some.injEq,reduceCtorEq,and_false,exists_false] at hc; done)
  | (simp only[z05] at hc; split at hc<;>simp only[Option.bind_eq_bind,Option.bind_eq_some_iff,z08,Option.some.injEq,reduceCtorEq,and_false,exists_false,Prod.exists] at hc; done)
  | (simp only[z05,Option.bind_eq_bind] at hc; split at hc<;>simp only[Option.bind_eq_some_iff,z08,Option.some.injEq,reduceCtorEq,and_false,exists_false,Prod.exists] at hc; done)
  | (simp only[z05,Option.bind_eq_bind,Option.bind_eq_some_iff] at hc; obtain⟨_,_,hc⟩:=hc; split at hc<;>first | (cases hc; done) | (split at hc<;>first | (cases hc; done) | (obtain⟨_,hc⟩:=z00 hc; simp only[Option.bind_eq_some_iff,Option.some.injEq,reduceCtorEq,and_false,exists_false] at hc; done) | (simp only[Option.bind_eq_some_iff,Option.some.injEq,reduceCtorEq,and_false,exists_false] at hc; done)))
  | skip
end
end Go.Abs
namespace Go.Abs
open Go Go.RowKit
variable [Glob]
def Nx (P:Program) (s:Sem Next) (w:World) (N:Value→World→Prop) (Pn:List PanicEntry→World→Prop):Prop :=
 match s.run P w with
 | .ok (.value v) w'=>N v w'
 | .ok .skip w'=>N undef w'
 | .ok (.enter f args) w'=>Calls P f args w' fun
   | .returned v,w''=>N v w''
   | .panicked ch,w''=>Pn ch w''
   | .outgrown,_=>False
 | .halt (.panic v) w'=>Pn [{ v,recovered:=false }] w'
 | _=>False
theorem Nx.value {P:Program} {s:Sem Next} {w w':World} {N:Value→World→Prop} {Pn:List PanicEntry→World→Prop} {v:Value} (h:s.run P w=.ok (.value v) w') (hn:N v w'):Nx P s w N Pn:=by
 unfold Nx; rw[h]; exact hn
theorem Nx.skip {P:Program} {s:Sem Next} {w w':World} {N:Value→World→Prop} {Pn:List PanicEntry→World→Prop} (h:s.run P w=.ok .skip w') (hn:N undef w'):Nx P s w N Pn:=by
 unfold Nx; rw[h]; exact hn
theorem Nx.wp {P:Program} {o:Oper} {a:Act} {w:World} {next:Act→World→Prop} {Q:Exit→Act→World→Prop} (h:Nx P (execOp a.eval o) w (fun v w'=>next (a.put o.dst v) w') (fun ch w'=>Q (.panic ch) a w')):o.wp P a w next Q:=by
 unfold Oper.wp Oper.upon
 unfold Nx at h
 split at h
 ·rename_i hr; rw[hr]; exact h
 ·rename_i hr; rw[hr]; exact h
 ·rename_i f args w' hr
  rw[hr]
  refine h.mono fun en w'' hx=>?_
  cases en with
  | returned v=>exact hx
  | panicked ch=>exact hx
  | outgrown=>exact hx.elim
 ·rename_i hr; rw[hr]; exact h
 ·exact h.elim
def z1w (W:List Lo) (e:E) (κ:K) (fid B:Nat) (w₀:World) (fr:Fr) (d:Option Pth) (r:R) (val:Value) (w':World):Prop :=
 ∃ κ' fr' e' v,r=.go fr' e'∧fr'.s=putS d fr.s v∧VR κ' v val∧κ.le κ'∧Gr W e κ κ' fid e'.glo.length∧St κ' e' B w₀ w'∧In κ' e' fid fr'.cnt
def z7e (W:List Lo) (e:E) (κ:K) (fid B:Nat) (w₀:World) (r:R) (ch:List PanicEntry) (w':World):Prop :=
 ∃ κ' fr' e' v val,r=.pan v fr' e'∧ch=[{ v:=val,recovered:=false }]∧VR κ' v val∧κ.le κ'∧Gr W e κ κ' fid e'.glo.length∧St κ' e' B w₀ w'∧In κ' e' fid fr'.cnt
theorem z1w.put {W:List Lo} {e:E} {κ κ':K} {fid B:Nat} {w₀ w':World} {fr:Fr} {d:Option Pth} {v:AV} {val:Value} {e':E} (hv:VR κ' v val) (hle:κ.le κ') (hg:Gr W e κ κ' fid e'.glo.length) (hst:St κ' e' B w₀ w') (hin:In κ' e' fid fr.cnt) :
  z1w W e κ fid B w₀ fr d (.go (Fr.put d fr v) e') val w' :=
 ⟨κ',_,e',v,rfl,zd4 d fr v,hv,hle,hg,hst,by rw[z4n]; exact hin⟩
section
variable {P:Program} [hG:GOK P] {κ:K} {e:E} {B fid:Nat} {w₀ w:World} {fr:Fr} {d:Option Pth}
theorem In.set {cnt:Nat} (h:In κ e fid cnt) {e':E} (hs:shp e'=shp e) (hg:e'.glo.length=e.glo.length):In κ e' fid cnt:=h.same (.refl κ) hs hg (Nat.le_refl _)
theorem z4p (us vs:List Value) (off:Nat) (h:off+vs.length≤us.length):z1b us off vs=us.take off++vs++us.drop (off+vs.length):=by
 apply List.ext_getElem?
 intro p
 rw[z1v _ _ _ _ h]
 by_cases h1:p < off
 ·rw[if_neg (by omega),List.append_assoc,List.getElem?_append_left (by simp; omega),List.getElem?_take,if_pos h1]
 ·by_cases h2:p < off+vs.length
  ·rw[if_pos (by omega),List.append_assoc,List.getElem?_append_right (by simp; omega),List.getElem?_append_left (by simp; omega)]
   congr 1
   simp; omega
  ·rw[if_neg (by omega),List.getElem?_append_right (by simp; omega),List.getElem?_drop]
   congr 1
   simp; omega
theorem z5d {t t':TypeId} {n b o:Nat} {val:Value} {arr:Array Value} (hn:z13 P t=some n) (hsz:val.cells.size=n) (hb:w.heap[b]?=some (.cells arr t' (0,0))) (hfit:o+n≤arr.size) (h1:∀ u∈val.cells.toList,u.oneCell'=true) :
  (storeVar t ⟨b,o,none⟩ val).run P w=.ok () (w.setRow b (z1b arr.toList o val.cells.toList).toArray):=by
 have hl:val.cells.toList.length=n:=by simpa using hsz
 have:=run_storeCells_at P b o t' val.cells.toList 0 arr w hb (by rw[hl]; simpa using hfit) h1
 rw[z4p _ _ _ (by simp; omega)]
 simp only[Nat.add_zero] at this
 simp[storeVar,z0t w hn,hsz,this]
theorem zdh {t:TypeId} {n:Nat} {l:Lo} {off:Nat} {v:AV} {x val:Value} {cs:List AV} {e':E} {t':TypeId} (hn:z13 P t=some n) (hn1:1≤n) (hvn:v.cells.length=n) (hx:VR κ (.ptr l off) x) (hv:VR κ v val) (hst:St κ e B w₀ w)
  (hg:e.get l=.cells t' cs) (hfit:off+v.cells.length≤cs.length) (he':e'=(e.moves v.cells l).set l (.cells t' (z39 cs off v.cells))) :
  ∃ w',(Instr.storeAt t x val).run P w=.ok () w'∧St κ e' B w₀ w':=by
 cases hx with
 | ptr hl =>
  rename_i b
  have hb:=hst.blk b
  rw[hst.ro l b hl] at hb
  simp only[BlkR,hg] at hb
  obtain⟨arr,e1,e2⟩:=hb
  have hvc:=hv.cells (by intro h0; rw[h0] at hvn; simp at hvn; omega)
  have hsz:val.cells.size=n:=by have:=hvc.1; simp at this; omega
  have hsa:arr.size=cs.length:=by have:=e2.1; simpa using this
  have hr:=z5d (P:=P) (o:=off) hn hsz e1 (by omega) (fun u hu=>by
   obtain⟨i,hi⟩:=List.getElem?_of_mem hu
   exact hvc.2.2 i u hi)
  refine⟨w.setRow b (z1b arr.toList off val.cells.toList).toArray,by simp[Instr.storeAt,Instr.sureAddr,hr],?_⟩
  have hgl:e'.get l=.cells t' (z39 cs off v.cells):=by
   rw[he']; exact E.get_set_same _ _ _ (by rw[E.get_moves,hg]; simp)
  refine hst.setOb hl rfl (fun _ _=>rfl) (fun _ _=>id) rfl rfl rfl (by simp) (fun b' hb'=>setRow_other w b b' _ hb') ?_ ?_ ?_ ?_ (fun arr' t2 f' hx=>by rw[e1] at hx; cases hx; exact⟨_,_,setRow_heap w b arr _ t' (0,0) e1⟩)
  ·intro l' hl'; rw[he',E.get_set_ne _ _ _ _ (Ne.symm hl'),E.get_moves]
  ·intro z es; rw[hgl]; simp
  ·intro k hk; rw[he',E.live_set] at hk; exact E.live_moves hk
  ·rw[hgl]
   exact⟨_,setRow_heap w b arr _ t' (0,0) e1,by simpa using e2.fill hvc⟩
theorem VecR.row {z c:Nat} {es:List AV} {o:Option Obj} (h:VecR κ z c es o):∃ arr t,o=some (.cells arr t (0,0))∧arr.size=c * z∧es.length≤c∧RowR κ z es (arr.toList.take (es.length * z)):=by
 obtain⟨arr,t,h1,h2,h3,h4⟩:=h
 have hle:es.length * z≤c * z:=Nat.mul_le_mul_right _ h3
 refine⟨arr,t,h1,h2,h3,by simp; omega,fun i x hx=>?_,fun u hu=>?_⟩
 ·obtain⟨p,q⟩:=h4 i x hx
  have hi:i < es.length:=(List.getElem?_eq_some_iff.1 hx).1
  refine⟨p,fun j y hy=>?_⟩
  obtain⟨u,a,b,_⟩:=q j y hy
  have hj:j < z:=by have:=(List.getElem?_eq_some_iff.1 hy).1; omega
  refine⟨u,?_,b⟩
  rw[List.getElem?_take,if_pos (z9e hi hj)]
  simpa using a
 ·obtain⟨p,hp⟩:=List.getElem?_of_mem hu
  rw[List.getElem?_take] at hp
  split at hp
  ·rename_i hlt
   have hz0:0 < z:=by
    rcases Nat.eq_zero_or_pos z with h0 | h0
    ·rw[h0] at hlt; simp at hlt
    ·exact h0
   have hi:p / z < es.length:=by rw[Nat.div_lt_iff_lt_mul hz0]; exact hlt
   have hj:p % z < z:=Nat.mod_lt _ hz0
   obtain⟨a,b⟩:=h4 (p / z) es[p / z] (by simp[hi])
   obtain⟨u',c1,_,c2⟩:=b (p % z) (es[p / z].cells[p % z]'(by omega)) (by simp[a,hj])
   have:p / z * z+p % z=p:=Nat.div_add_mod' p z
   rw[this] at c1
   have:arr[p]?=some u:=by simpa using hp
   rw[this] at c1; cases c1; exact c2
  ·cases hp
theorem RowR.vec {z c:Nat} {es:List AV} {arr:Array Value} {t:TypeId} (hs:arr.size=c * z) (hc:es.length≤c) (h:RowR κ z es (arr.toList.take (es.length * z))):VecR κ z c es (some (.cells arr t (0,0))):=by
 obtain⟨h1,h2,h3⟩:=h
 refine⟨arr,t,rfl,hs,hc,fun i x hx=>?_⟩
 obtain⟨p,q⟩:=h2 i x hx
 refine⟨p,fun j y hy=>?_⟩
 obtain⟨u,a,b⟩:=q j y hy
 have hm:=h3 u (List.mem_of_getElem? a)
 rw[List.getElem?_take] at a
 split at a
 ·exact⟨u,by simpa using a,b,hm⟩
 ·cases a
theorem z6 (us vs:List Value) (off m:Nat) (h:off+vs.length≤m) (hm:m≤us.length):(z1b us off vs).take m=z1b (us.take m) off vs:=by
 apply List.ext_getElem?
 intro p
 rw[List.getElem?_take,z1v _ _ _ _ (by omega),z1v _ _ _ _ (by simp; omega)]
 by_cases h1:p < m
 ·rw[if_pos h1,List.getElem?_take,if_pos h1]
 ·rw[if_neg h1,if_neg (by omega),List.getElem?_take,if_neg h1]
theorem RowR.elem {z:Nat} {es:List AV} {us:List Value} {i:Nat} {x:AV} (h:RowR κ z es us) (hx:es[i]?=some x):x.cells.length=z∧i * z+z≤us.length∧VRs κ x.cells ((us.drop (i * z)).take z):=by
 obtain⟨h1,h2,h3⟩:=h
 obtain⟨p,q⟩:=h2 i x hx
 have hi:i < es.length:=(List.getElem?_eq_some_iff.1 hx).1
 have hfit:i * z+z≤us.length:=by
  rw[h1]
  calc i * z+z=(i+1) * z:=by rw[Nat.add_mul,Nat.one_mul]
   _≤es.length * z:=Nat.mul_le_mul_right _ hi
 refine⟨p,hfit,by simp; omega,fun j c u hc hu=>?_,fun j u hu=>?_⟩
 ·obtain⟨u',a,b⟩:=q j c hc
  rw[List.getElem?_take] at hu
  split at hu
  ·rw[List.getElem?_drop] at hu; rw[a] at hu; cases hu; exact b
  ·cases hu
 ·exact h3 u (List.mem_of_mem_drop (List.mem_of_mem_take (List.mem_of_getElem? hu)))
theorem zmp (us vs:List Value) (p z off:Nat) (hz:p+z≤us.length) (h:off+vs.length≤z):z1b us p (z1b ((us.drop p).take z) off vs)=z1b us (p+off) vs:=by
 have hl:(z1b ((us.drop p).take z) off vs).length=z:=by rw[z1c]; simp; omega
 apply List.ext_getElem?
 intro q
 have hdl:((us.drop p).take z).length=z:=by simp; omega
 rw[z1v (z1b ((us.drop p).take z) off vs) us p q (by omega),z1v vs us (p+off) q (by omega),hl]
 by_cases h1:p≤q∧q < p+z
 ·rw[if_pos h1,z1v vs ((us.drop p).take z) off (q - p) (by omega)]
  by_cases h2:p+off≤q∧q < p+off+vs.length
  ·rw[if_pos h2,if_pos (by omega)]; congr 1; omega
  ·rw[if_neg h2,if_neg (by omega),List.getElem?_take,if_pos (by omega),List.getElem?_drop]; congr 1; omega
 ·rw[if_neg h1,if_neg (by omega)]
theorem z9h {t:TypeId} {n:Nat} {l:Lo} {i off z:Nat} {es:List AV} {y y' v:AV} {x val:Value} {e':E} (hn:z13 P t=some n) (hn1:1≤n) (hvn:v.cells.length=n) (hx:VR κ (.ep l es.length i off) x) (hv:VR κ v val) (hst:St κ e B w₀ w)
  (hg:e.get l=.vec z es) (hy:es[i]?=some y) (hfit:off+n≤z) (hy':y'.cells=z39 y.cells off v.cells) (he':e'=e.set l (.vec z (es.set i y'))) :
  ∃ w',(Instr.storeAt t x val).run P w=.ok () w'∧∃ κ',κ.le κ'∧Same κ κ'∧St κ' e' B w₀ w':=by
 cases hx with
 | ep hl =>
  rename_i b z' c
  obtain⟨hr,rfl⟩:=hst.rv l z es b z' c hg hl
  have hb:=hst.blk b
  rw[hr] at hb
  obtain⟨arr,t',e1,e2,e3,hrow⟩:=(hb z' es c hg hl).row
  have hvc:=hv.cells (by intro h0; rw[h0] at hvn; simp at hvn; omega)
  have hvl:val.cells.toList.length=n:=by rw[hvc.1,hvn]
  have hsz:val.cells.size=n:=by simpa using hvl
  obtain⟨q1,q2,q3⟩:=hrow.elem hy
  have hi:i < es.length:=(List.getElem?_eq_some_iff.1 hy).1
  have hle:es.length * z'≤c * z':=Nat.mul_le_mul_right _ e3
  have htl:(arr.toList.take (es.length * z')).length=es.length * z':=by simp; omega
  rw[htl] at q2
  have hrun:=z5d (P:=P) (o:=i * z'+off) hn hsz e1 (by omega) (fun u hu=>by
   obtain⟨j,hj⟩:=List.getElem?_of_mem hu
   exact hvc.2.2 j u hj)
  refine⟨w.setRow b (z1b arr.toList (i * z'+off) val.cells.toList).toArray,by simp[Instr.storeAt,Instr.sureAddr,hrun],?_⟩
  have hgl:e'.get l=.vec z' (es.set i y'):=by
   rw[he']; exact E.get_set_same _ _ _ (by rw[hg]; simp)
  have hcl:(z39 y.cells off v.cells).length=z':=by
   have:∀ (vs cs:List AV) (o:Nat),(z39 cs o vs).length=cs.length:=by
    intro vs
    induction vs with
    | nil=>intro cs o; rfl
    | cons v vs ih=>intro cs o; simp only[z39,ih,List.length_set]
   rw[this,q1]
  have hnew:RowR κ z' (es.set i y') ((z1b arr.toList (i * z'+off) val.cells.toList).take ((es.set i y').length * z')):=by
   rw[List.length_set,z6 _ _ _ _ (by omega) (by simp; omega),← zmp _ _ _ z' _ (by rw[htl]; exact q2) (by omega)]
   exact hrow.set hi (by rw[hy']; exact q3.fill hvc) (by rw[hy']; exact hcl)
  have hob:κ.ob l=none:=by
   cases ho:κ.ob l with
   | none=>rfl
   | some b' =>
    have h6:=hst.blk b'
    rw[hst.ro l b' ho] at h6
    simp only[BlkR,hg,ObR] at h6
  have hres:=hst.setVec (w':=w.setRow b (z1b arr.toList (i * z'+off) val.cells.toList).toArray) (e':=e') (es:=es.set i y') (b₀:=b) (z:=z') (c:=c) hob (.inr hr) (.inr (by rw[List.length_set]; exact hl)) (fun m hm=>hst.vn l z' es m hg (by rw[List.length_set] at hm; exact hm))
   rfl rfl rfl (by simp) ((hst.rl b (by rw[hr]; simp)).1 (by rw[hr]; simp)) (by simp; exact(hst.rl b (by rw[hr]; simp)).2) (fun b' _ hb'=>setRow_other w b b' _ hb')
   (fun l' hl'=>by rw[he',E.get_set_ne _ _ _ _ (Ne.symm hl')]) hgl (fun k hk=>by rw[he',E.live_set] at hk; exact hk)
   (by rw[setRow_heap w b arr _ t' (0,0) e1]; exact RowR.vec (by simp[z1c,e2]) (by rw[List.length_set]; exact e3) (by simpa using hnew))
   (fun arr' t2 f' hx=>by rw[e1] at hx; cases hx; exact⟨_,_,setRow_heap w b arr _ t' (0,0) e1⟩)
  refine⟨_,K.le_addVec (.inr (by rw[List.length_set]; exact hl)),⟨rfl,?_,rfl,rfl⟩,hres⟩
  funext l' m
  simp only[K.addVec]
  split
  ·rename_i hc; obtain⟨rfl,rfl⟩:=hc; rw[List.length_set]; exact hl.symm
  ·rfl
end
end Go.Abs
namespace Go.Abs
open Go Go.RowKit
variable [Glob]
section
variable {P:Program} [hG:GOK P] {κ:K} {e:E} {B fid:Nat} {w₀ w:World} {fr:Fr} {d:Option Pth}
theorem z0a.addOb {l l':Lo} {b:Nat} (h:z0a κ l') (hn:l'≠l):z0a (κ.addOb l b) l':=by
 obtain⟨h1,h2,h3⟩:=h
 exact⟨by simp[K.addOb,hn,h1],h2,h3⟩
theorem St.moves {e:E} (h:St κ e B w₀ w) (vs:List AV) (l:Lo):St κ (e.moves vs l) B w₀ w :=
 h.env (fun _ hk=>.inl (E.live_moves hk)) fun l'=>.inl (E.get_moves vs e l l')
theorem ziy {W:List Lo} {a:Nat} {g:Bool} {o:Ob} {ob:Obj} {l:Lo} {e₁:E} (hst:St κ e B w₀ w) (hin:In κ e fid fr.cnt) (hn:newAt e W a g o=some (l,e₁))
  (ho:ObR (κ.addOb l w.heap.size) l o (some ob)) (vs:List AV) (v:AV) (hv:VR (κ.addOb l w.heap.size) v (.pointer (some ⟨w.heap.size,0,none⟩))) :
  z1w W e κ fid B w₀ fr d (.go (Fr.put d fr v) (e₁.moves vs l)) (.pointer (some ⟨w.heap.size,0,none⟩)) (w.alloc ob):=by
 obtain⟨h1,h2,h3⟩:=hin.newAt (κ':=κ.addOb l w.heap.size) hn (fun l' hl' hf=>hf.addOb hl') rfl
 have hs:=(hst.newAt hn h1).allocOb (o:=ob) h1 (by rw[(z2q hn).2.2.1]; exact ho)
 exact .put hv (K.le_addOb h1.1) (by rw[z48]; exact h2) (hs.moves vs l) (h3.set (z5a vs e₁ l) (by rw[z48]))
theorem box_sim {oper:Oper} {t:TypeId} {x:Operand} {ρ:Operand→Value} {W:List Lo} {a n:Nat} {g:Bool} {v:AV} (ho:oper.op=.box t x) (hn1:1≤n) (hvn:v.cells.length=n) (hv:VR κ v (ρ x)) (hst:St κ e B w₀ w) (hin:In κ e fid fr.cnt)
  {r:R} (hr:r=boxO d fr v.cells (newAt e W a g (.cells t v.cells))) (hne:r≠.bad) (Pn:List PanicEntry→World→Prop):Nx P (execOp ρ oper) w (z1w W e κ fid B w₀ fr d r) Pn:=by
 cases hna:newAt e W a g (.cells t v.cells) with
 | none=>rw[hna] at hr; exact absurd hr hne
 | some p =>
  obtain⟨l,e₁⟩:=p
  rw[hna] at hr
  subst hr
  have hvc:=hv.cells (by intro h0; rw[h0] at hvn; simp at hvn; omega)
  obtain⟨hf,_,_⟩:=hin.newAt (κ':=κ) hna (fun _ _ h=>h) rfl
  have hle:=K.le_addOb (b:=w.heap.size) hf.1
  refine .value (v:=.pointer (some ⟨w.heap.size,0,none⟩)) (w':=w.alloc (.cells (ρ x).cells t)) ?_ ?_
  ·simp only[execOp,ho]; simp[Instr.box,newVar,newRow]
  ·exact ziy hst hin hna ⟨_,rfl,hvc.mono hle⟩ v.cells _ (.ptr (by simp[K.addOb]))
theorem z9i {W:List Lo} {e₂:E} {t:TypeId} {z c cnt:Nat} {xs:List AV} {arr:Array Value} (hst:St κ e B w₀ w) (hin:In κ e fid cnt) (hz1:1≤z) (h8:z0k fid cnt % 2=1→Glob.u8 t) (hc:cnt < cap) (hl:∀ k,e₂.live k=true→e.live k=true) (hg:∀ l,e₂.get l=e.get l) (hs:shp e₂=shp e) (hgl:e₂.glo.length=e.glo.length)
  (hrow:RowR κ z xs (arr.toList.take (xs.length * z))) (hxc:xs.length≤c) (hsz:arr.size=c * z) :
  ∃ κ',VR κ' (.sl (z0k fid cnt) z xs) (.slice (some ⟨w.heap.size,0,none⟩) xs.length c)∧κ.le κ'∧Gr W e κ κ' fid (e₂.born (z0k fid cnt)).glo.length ∧
   St κ' (e₂.born (z0k fid cnt)) B w₀ (w.alloc (.cells arr t))∧In κ' (e₂.born (z0k fid cnt)) fid (cnt+1):=by
 have hnr:=hst.new_role
 have hfz:∀ i,κ.fz w.heap.size i=none:=by
  intro i
  cases hf:κ.fz w.heap.size i with
  | none=>rfl
  | some u=>have:=hst.rf _ i u hf; rw[hnr] at this; cases this
 have hle:xs.length * z≤c * z:=Nat.mul_le_mul_right _ hxc
 obtain⟨htk,hgr,hin'⟩:=hin.born (κ':=(κ.addVal w.heap.size (fun i=>if i < xs.length * z then arr[i]? else none)).addTk (z0k fid cnt) (w.heap.size,xs.length * z,c * z)) (e':=e₂.born (z0k fid cnt)) hc
  (fun l h=>h) (fun k hk=>by simp[K.addTk,K.addVal,hk]) (by rw[zbv]; exact hs) (by rw[zbw]; exact hgl)
 have hgf:∀ i u,κ.fz w.heap.size i=some u→(if i < xs.length * z then arr[i]? else none)=some u:=fun i u h=>by rw[hfz] at h; cases h
 have hkle:=(K.le_addVal hgf).trans (K.le_addTk (κ:=κ.addVal w.heap.size (fun i=>if i < xs.length * z then arr[i]? else none)) (x:=(w.heap.size,xs.length * z,c * z)) htk)
 have hst':=hst.setVal (e':=e₂.born (z0k fid cnt)) (w':=w.alloc (.cells arr t)) (b₀:=w.heap.size) (k₀:=z0k fid cnt) (i₀:=xs.length * z) (c₀:=c * z) (.inl hnr) htk hgf rfl rfl rfl (by simp) hst.size (by simp)
  (fun b hb _=>z28 hb) (fun l=>.inl (by rw[E.get_born]; exact hg l)) (fun k hk=>by
   rcases E.live_born.1 hk with h | h
   ·refine .inl ⟨hl k h,fun i c' ht=>?_⟩
    have:=hst.rt k _ i c' (hl k h) ht
    rw[hnr] at this; cases this
   ·exact .inr h)
  ⟨arr,t,(0,0),heap_alloc_new w _,fun i u hu=>(by split at hu; exact hu; cases hu),fun j hj=>by rw[if_neg (by omega)],by omega,Nat.zero_le _⟩ (fun arr' t2 f' hx=>by simp at hx) (fun hk=>⟨arr,t,(0,0),heap_alloc_new w _,h8 hk⟩)
 refine⟨_,?_,hkle,hgr,hst',hin'⟩
 obtain⟨r1,r2,r3⟩:=hrow
 have hat:∀ i x j y,xs[i]?=some x→x.cells[j]?=some y→∃ u,arr[i * z+j]?=some u∧VR κ y u∧i * z+j < xs.length * z:=by
  intro i x j y hx hy
  obtain⟨p,q⟩:=r2 i x hx
  obtain⟨u,a,b⟩:=q j y hy
  rw[List.getElem?_take] at a
  split at a
  ·exact⟨u,by simpa using a,b,by assumption⟩
  ·cases a
 refine .sl (fun i j=>(arr.toList.take (xs.length * z))[i * z+j]?.getD (.bool true)) hxc (fun i x hx=>(r2 i x hx).1) (fun i x j y hx hy=>?_) (fun i x j y hx hy=>?_) (fun i j=>?_) (fun h=>?_) (fun _=>?_) hz1
 ·obtain⟨u,a,b,cc⟩:=hat i x j y hx hy
  have:(arr.toList.take (xs.length * z))[i * z+j]?=some u:=by rw[List.getElem?_take,if_pos cc]; simpa using a
  rw[this]
  simp only[K.addTk,K.addVal,if_true,Nat.zero_add,if_pos cc,a,Option.getD_some]
 ·obtain⟨u,a,b,cc⟩:=hat i x j y hx hy
  have:(arr.toList.take (xs.length * z))[i * z+j]?=some u:=by rw[List.getElem?_take,if_pos cc]; simpa using a
  rw[this]
  exact b.mono hkle
 ·cases hu:(arr.toList.take (xs.length * z))[i * z+j]? with
  | none=>rfl
  | some u=>exact r3 u (List.mem_of_getElem? hu)
 ·have:=z2a fid cnt; omega
 ·simp[K.addTk]
end
end Go.Abs
