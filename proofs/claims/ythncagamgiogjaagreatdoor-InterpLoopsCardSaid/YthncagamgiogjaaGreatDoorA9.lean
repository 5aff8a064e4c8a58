/- On the way to: InterpLoops returns true; its listed variables read as the text lays them. -/
import Derived.Test.YthncagamgiogjaaGreatDoorA8
import Derived.Laws.IdiomStrings
import Derived.IntWalk
set_option autoImplicit false
set_option linter.unusedSectionVars false
set_option linter.unusedSimpArgs false
set_option linter.unusedVariables false
namespace Go.Abs
open Go Go.RowKit
variable [Glob]
section
variable {P:Program} [hG:GOK P] {κ:K} {e:E} {B fid:Nat} {w₀ w:World} {fr:Fr} {d:Option Pth}
theorem RowR.sub {z:Nat} {es:List AV} {us:List Value} (h:RowR κ z es us) (p q:Nat) (hpq:p+q≤es.length):RowR κ z ((es.drop p).take q) ((us.drop (p * z)).take (q * z)):=by
 obtain⟨h1,h2,h3⟩:=h
 have hl:(p+q) * z≤es.length * z:=Nat.mul_le_mul_right _ hpq
 rw[Nat.add_mul] at hl
 refine⟨by simp; rw[Nat.min_eq_left (by omega),Nat.min_eq_left (by omega)],fun i x hx=>?_,fun u hu=>h3 u (List.mem_of_mem_drop (List.mem_of_mem_take hu))⟩
 have hi:i < q:=by have:=(List.getElem?_eq_some_iff.1 hx).1; simp at this; omega
 have hx':es[p+i]?=some x:=by simpa [List.getElem?_take,hi] using hx
 obtain⟨a,b⟩:=h2 _ x hx'
 refine⟨a,fun j y hy=>?_⟩
 obtain⟨v,c1,c2⟩:=b j y hy
 have hj:j < z:=by have:=(List.getElem?_eq_some_iff.1 hy).1; omega
 refine⟨v,?_,c2⟩
 rw[List.getElem?_take,if_pos (z9e hi hj),List.getElem?_drop]
 have:p * z+(i * z+j)=(p+i) * z+j:=by rw[Nat.add_mul]; omega
 rw[this]; exact c1
theorem RowR.over {z p:Nat} {es ys:List AV} {us vs:List Value} (h:RowR κ z es us) (h':RowR κ z ys vs) (hfit:p+ys.length≤es.length):RowR κ z (es.take p++ys++es.drop (p+ys.length)) (z1b us (p * z) vs):=by
 have hl:(p+ys.length) * z≤es.length * z:=Nat.mul_le_mul_right _ hfit
 rw[Nat.add_mul] at hl
 have hvl:=h'.1
 have hul:=h.1
 have e1:z1b us (p * z) vs=(us.drop (0 * z)).take (p * z)++vs++(us.drop ((p+ys.length) * z)).take ((es.length - (p+ys.length)) * z):=by
  rw[z4p _ _ _ (by omega)]
  have:us.drop (p * z+vs.length)=(us.drop ((p+ys.length) * z)).take ((es.length - (p+ys.length)) * z):=by
   rw[Nat.add_mul,← hvl,List.take_of_length_le]
   simp
   rw[hul,hvl,Nat.sub_mul,Nat.add_mul]
   omega
  rw[this]; simp
 have e2:es.take p++ys++es.drop (p+ys.length)=(es.drop 0).take p++ys++(es.drop (p+ys.length)).take (es.length - (p+ys.length)):=by
  rw[List.take_of_length_le (l:=es.drop (p+ys.length)) (by simp)]
  simp
 rw[e1,e2]
 exact((h.sub 0 p (by omega)).append h').append (h.sub _ _ (by omega))
theorem zj {A:Array TypeId} {T t u el:TypeId} {dd:TypeDesc} {it:TypeInfo} {zv x y:Value} {zero:AV} {W:List Lo} {a kind z0 sz off n:Nat} {ex:Bool} {l:Lo} {new:List AV} {news:List Value} {z':Nat} {r:R} (hs1:1≤it.size)
  (h0:A[0]?=some t) (ht:P.underlying t=some (.slice el)) (h1:A[1]?=some u) (hd:P.underlying u=some dd) (hnd:zbr dd=true) (hi:P.info? el=some it) (hz:it.zero=some zv) (hzc:VRs κ zero.cells zv.cells.toList) (hzl:zero.cells.length=it.size)
  (hx:VR κ (.hs l z0 sz off n ex) x) (hst:St κ e B w₀ w) (hin:In κ e fid fr.cnt)
  (hnr:RowR κ z' new news) (hn:∀ w,(Builtin.lenOf y).run P w=.ok new.length w) (hnew:∀ w',w'.heap=w.heap→(Builtin.firstCells z' new.length y).run P w'=.ok news.toArray w') (hne:new≠[])
  (hr:r=zgr W a kind it.size it.bytes z' new d fr e l sz off n ex (e.get l)) (hrb:r≠.bad) :
  ∃ val w',(Builtin.append_ A T #[x,y]).run P w=.ok val w'∧z1w W e κ fid B w₀ fr d r val w':=by
 have hnl:1≤new.length:=by cases new with | nil=>exact absurd rfl hne | cons=>simp
 cases hg:e.get l with
 | none=>rw[hg] at hr; exact absurd hr hrb
 | cells=>rw[hg] at hr; exact absurd hr hrb
 | map=>rw[hg] at hr; exact absurd hr hrb
 | vec w' es =>
  rw[hg] at hr
  unfold zgr at hr
  cases hc:(Nat.beq es.length sz && (Nat.beq w' it.size && (Nat.beq z' it.size && (Nat.blt ((n+new.length) * it.bytes) big && Nat.blt (n+new.length) big)))) with
  | false=>simp only[hc,cond_false] at hr; exact absurd hr hrb
  | true =>
   simp only[hc,cond_true] at hr
   simp only[Bool.and_eq_true,Nat.blt_eq] at hc
   obtain⟨c1,c2,c3,c4,c5⟩:=hc
   have c1:=z03.1 c1
   have c2:=z03.1 c2
   have c3:=z03.1 c3
   subst c1 c2 c3
   cases hex:ex with
   | true =>
    subst hex
    simp only[cond_true] at hr
    cases hna:newAt e W a (Nat.beq kind 2) (.vec it.size ((es.drop off).take n++new)) with
    | none=>rw[hna] at hr; exact absurd hr hrb
    | some p =>
     obtain⟨l',e₁⟩:=p
     rw[hna] at hr
     subst hr
     have hel:z15 e (.hs l z0 es.length off n true)=some (it.size,(es.drop off).take n):=by
      simp[z15,hg,z8x]
     obtain⟨us,hrow,hlen,hold⟩:=z60 (P:=P) (w:=w.drew) hx hst.drew hel
     have hxs:∃ b,x=.slice b n n∧((es.drop off).take n).length=n:=by
      cases hx with
      | hs hv hin' hs' hcap hz1=>exact⟨_,by rw[hcap]; rfl,by simp; omega⟩
      | hsnil hv hz1=>exact⟨_,rfl,by simp⟩
     obtain⟨b,rfl,hl⟩:=hxs
     rw[hl] at hold
     obtain⟨c,arr,p1,p2,p3,p4⟩:=z41 (T:=T) h0 ht h1 hd hnd hi hz hzc hzl hn (hold _ rfl) (hnew _ rfl) (by omega) c4 c5 (by rw[hrow.1,hnr.1,hl,Nat.add_mul])
     refine⟨_,_,p1,?_⟩
     have hll:((es.drop off).take n++new).length=n+new.length:=by rw[List.length_append,hl]
     have:=z61 (B:=B) (w₀:=w₀) (w:=w.drew) (fr:=fr) (d:=d) (t:=el) (c:=c) hst.drew hin hna p3 (by rw[hll]; exact p2) (by rw[hll,p4]; exact hrow.append hnr) false (by simp) hs1
     rw[hll] at this
     exact this
   | false =>
    subst hex
    simp only[cond_false] at hr
    cases hf:free W l with
    | false=>simp only[hf,cond_false] at hr; exact absurd hr hrb
    | true =>
     simp only[hf,cond_true] at hr
     cases hx with
     | hs hv hin' hs' hcap hz1 =>
      rename_i b c cp
      simp only[Bool.false_eq_true,if_false] at hcap
      subst hcap
      obtain⟨hrl,rfl⟩:=hst.rv l _ es b _ c hg hv
      have hb:=hst.blk b
      rw[hrl] at hb
      obtain⟨arr,t',e1,e2,e3,hrow⟩:=(hb it.size es c hg hv).row
      have hob:κ.ob l=none:=by
       cases ho:κ.ob l with
       | none=>rfl
       | some b' =>
        have h6:=hst.blk b'
        rw[hst.ro l b' ho] at h6
        simp only[BlkR,hg,ObR] at h6
      have hlb:B≤b∧b < w.heap.size:=⟨(hst.rl b (by rw[hrl]; simp)).1 (by rw[hrl]; simp),(hst.rl b (by rw[hrl]; simp)).2⟩
      have hle:es.length * it.size≤c * it.size:=Nat.mul_le_mul_right _ e3
      -- what is stored in place
      have store:n+new.length≤c - off→(storeCells ((⟨b,off * it.size,none⟩:Addr).add (n * it.size)) news).run P w=.ok () (w.setRow b (z1b arr.toList (off * it.size+n * it.size) news).toArray):=by
       intro hfit
       have:(off+n+new.length) * it.size≤c * it.size:=Nat.mul_le_mul_right _ (by omega)
       rw[Nat.add_mul,Nat.add_mul] at this
       have hnw:=hnr.1
       have:=run_storeCells_at P b (off * it.size+n * it.size) t' news 0 arr w e1 (by omega) (fun u hu=>hnr.2.2 u hu)
       rw[z1f,z4p _ _ _ (by simp; omega)]
       simpa using this
      cases hcase:(Nat.beq (off+n) es.length && Nat.beq off 0) with
      | true =>
       simp only[hcase,cond_true] at hr
       simp only[Bool.and_eq_true] at hcase
       have q1:=z03.1 hcase.1
       have q2:=z03.1 hcase.2
       subst q2
       have hnes:n=es.length:=by omega
       subst hnes
       subst hr
       have hvn:∀ m,es.length < m→κ.vb l m=none:=fun m hm=>hst.vn l _ es m hg hm
       have hgs:(e.set l (.vec it.size (es++new))).get l=.vec it.size (es++new):=E.get_set_same _ _ _ (by rw[hg]; simp)
       have hll:(es++new).length=es.length+new.length:=by simp
       have hnf:∀ {n' b' c'},∀ l',z0a κ l'→z0a (κ.addVec l n' b' it.size c') l':=by
        intro n' b' c' l' hl'
        refine hl'.addVec ?_
        rintro rfl
        rw[hl'.2.1] at hv; cases hv
       by_cases hroom:es.length+new.length≤c
       ·refine⟨_,_,z4r h0 ht h1 hd hnd hi hn (hnew _ rfl) (by omega) (store (by omega)),?_⟩
        have hnw:(es++new).length * it.size=es.length * it.size+news.length:=by rw[hll,Nat.add_mul,hnr.1]
        have hcz:(es++new).length * it.size≤c * it.size:=Nat.mul_le_mul_right _ (by omega)
        have hrow2:RowR κ it.size (es++new) ((z1b arr.toList (es.length * it.size) news).take ((es++new).length * it.size)):=by
         have:(z1b arr.toList (es.length * it.size) news).take ((es++new).length * it.size)=arr.toList.take (es.length * it.size)++news:=by
          rw[z4p _ _ _ (by simp; omega),hnw,List.take_append_of_le_length (by simp; omega),List.take_of_length_le (by simp; omega)]
         rw[this]
         exact hrow.append hnr
        have hs2:=hst.setVec (e':=e.set l (.vec it.size (es++new))) (w':=w.setRow b (z1b arr.toList (0 * it.size+es.length * it.size) news).toArray) (l:=l) (es:=es++new) (b₀:=b) (z:=it.size) (c:=c) hob (.inr hrl) (.inl (hvn _ (by omega))) (fun m hm=>hvn m (by omega)) rfl rfl rfl (by simp) hlb.1 (by simp; exact hlb.2)
         (fun b' _ hb'=>setRow_other w b b' _ hb') (fun l' hl'=>E.get_set_ne _ _ _ _ (Ne.symm hl')) hgs (fun k hk=>by rw[E.live_set] at hk; exact hk)
         (by rw[setRow_heap w b arr _ t' (0,0) e1]; exact RowR.vec (by simp[z1c,e2]) (by omega) (by simpa using hrow2)) (fun arr' t2 f' hx=>by rw[e1] at hx; cases hx; exact⟨_,_,setRow_heap w b arr _ t' (0,0) e1⟩)
        refine .put ?_ (K.le_addVec (.inl (hvn _ (by omega)))) ⟨fun l' hl'=>.inl (hnf l' hl'),fun k hk=>.inl hk⟩ hs2 (hin.taken hnf rfl (z2o _ _ _) (z2p _ _ _))
        have:VR (κ.addVec l (es++new).length b it.size c) (.hs l it.size (es++new).length 0 (es.length+new.length) false) (.slice (some ⟨b,0 * it.size,none⟩) (es.length+new.length) (c - 0)) :=
         .hs (c:=c) (by simp[K.addVec]) (by omega) (by omega) (by simp) hs1
        exact hll ▸ this
       ·have hel:z15 e (.hs l it.size es.length 0 es.length false)=some (it.size,es):=by simp[z15,hg,z8x]
        have hx':VR κ (.hs l it.size es.length 0 es.length false) (.slice (some ⟨b,0 * it.size,none⟩) es.length (c - 0)):=.hs hv (by omega) hs' (by simp) hs1
        obtain⟨us,hrow',_,hold⟩:=z60 (P:=P) (w:=w.drew) hx' hst.drew hel
        obtain⟨c',arr',p1,p2,p3,p4⟩:=z41 (T:=T) h0 ht h1 hd hnd hi hz hzc hzl hn (hold _ rfl) (hnew _ rfl) (by omega) c4 c5 (by rw[hrow'.1,hnr.1,Nat.add_mul])
        refine⟨_,_,p1,?_⟩
        have hs2:=hst.drew.setVec (e':=e.set l (.vec it.size (es++new))) (w':=w.drew.alloc (.cells arr' el)) (l:=l) (es:=es++new) (b₀:=w.drew.heap.size) (z:=it.size) (c:=c') hob (.inl hst.drew.new_role) (.inl (hvn _ (by omega))) (fun m hm=>hvn m (by omega)) rfl rfl rfl (by simp) hst.drew.size (by simp)
         (fun b hb _=>z28 hb) (fun l' hl'=>E.get_set_ne _ _ _ _ (Ne.symm hl')) hgs (fun k hk=>by rw[E.live_set] at hk; exact hk)
         (by rw[heap_alloc_new]; exact RowR.vec p3 (by omega) (by rw[hll,p4]; exact hrow'.append hnr)) (fun arr' t2 f' hx=>by simp at hx)
        refine .put ?_ (K.le_addVec (.inl (hvn _ (by omega)))) ⟨fun l' hl'=>.inl (hnf l' hl'),fun k hk=>.inl hk⟩ hs2 (hin.taken hnf rfl (z2o _ _ _) (z2p _ _ _))
        have:VR (κ.addVec l (es++new).length w.drew.heap.size it.size c') (.hs l it.size (es++new).length 0 (es.length+new.length) false) (.slice (some ⟨w.drew.heap.size,0 * it.size,none⟩) (es.length+new.length) c') :=
         .hs (c:=c') (by simp[K.addVec]) (by omega) (by omega) (by simp) hs1
        rw[hll] at this
        simpa using this
      | false =>
       simp only[hcase,cond_false] at hr
       cases hfit:Nat.ble (off+n+new.length) es.length with
       | false=>simp only[hfit,cond_false] at hr; exact absurd hr hrb
       | true =>
        simp only[hfit,cond_true] at hr
        have hfit':=Nat.le_of_ble_eq_true hfit
        subst hr
        refine⟨_,_,z4r h0 ht h1 hd hnd hi hn (hnew _ rfl) (by omega) (store (by omega)),?_⟩
        have hll:(es.take (off+n)++new++es.drop (off+n+new.length)).length=es.length:=by simp; omega
        have hgs:(e.set l (.vec it.size (es.take (off+n)++new++es.drop (off+n+new.length)))).get l=.vec it.size (es.take (off+n)++new++es.drop (off+n+new.length)):=E.get_set_same _ _ _ (by rw[hg]; simp)
        have hpos:(off+n) * it.size=off * it.size+n * it.size:=Nat.add_mul _ _ _
        have hfz:(off+n+new.length) * it.size≤es.length * it.size:=Nat.mul_le_mul_right _ hfit'
        rw[Nat.add_mul] at hfz
        have hnw:=hnr.1
        have hrow2:RowR κ it.size (es.take (off+n)++new++es.drop (off+n+new.length)) ((z1b arr.toList (off * it.size+n * it.size) news).take ((es.take (off+n)++new++es.drop (off+n+new.length)).length * it.size)):=by
         rw[hll,z6 _ _ _ _ (by omega) (by simp; omega),← hpos]
         exact hrow.over hnr hfit'
        have hs2:=hst.setVec (e':=e.set l (.vec it.size (es.take (off+n)++new++es.drop (off+n+new.length)))) (w':=w.setRow b (z1b arr.toList (off * it.size+n * it.size) news).toArray) (l:=l) (es:=es.take (off+n)++new++es.drop (off+n+new.length)) (b₀:=b) (z:=it.size) (c:=c) hob (.inr hrl) (.inr (by rw[hll]; exact hv)) (fun m hm=>hst.vn l _ es m hg (by omega)) rfl rfl rfl (by simp) hlb.1 (by simp; exact hlb.2)
         (fun b' _ hb'=>setRow_other w b b' _ hb') (fun l' hl'=>E.get_set_ne _ _ _ _ (Ne.symm hl')) hgs (fun k hk=>by rw[E.live_set] at hk; exact hk)
         (by rw[setRow_heap w b arr _ t' (0,0) e1]; exact RowR.vec (by simp[z1c,e2]) (by omega) (by simpa using hrow2)) (fun arr' t2 f' hx=>by rw[e1] at hx; cases hx; exact⟨_,_,setRow_heap w b arr _ t' (0,0) e1⟩)
        have hsame:Same κ (κ.addVec l (es.take (off+n)++new++es.drop (off+n+new.length)).length b it.size c):=by
         refine⟨rfl,?_,rfl,rfl⟩
         funext l' m
         simp only[K.addVec]
         split
         ·rename_i hc; obtain⟨rfl,rfl⟩:=hc; rw[hll]; exact hv.symm
         ·rfl
        refine .put ?_ (K.le_addVec (.inr (by rw[hll]; exact hv))) (hsame.gr _ _) hs2 (hin.same hsame (z2o _ _ _) (z2p _ _ _) (Nat.le_refl _))
        exact .hs (c:=c) (by rw[hll]; simp[K.addVec]) (by omega) hs' (by simp) hs1
theorem app_sim {A:Array TypeId} {T t u el:TypeId} {dd:TypeDesc} {it:TypeInfo} {zv x y:Value} {zero v vy:AV} {W:List Lo} {a kind:Nat} {r:R} {b8:Bool} (hs1:1≤it.size) (h8:b8=true→Glob.u8 el)
  (h0:A[0]?=some t) (ht:P.underlying t=some (.slice el)) (h1:A[1]?=some u) (hd:P.underlying u=some dd) (hnd:zbr dd=true) (hi:P.info? el=some it) (hz:it.zero=some zv) (hzc:VRs κ zero.cells zv.cells.toList) (hzl:zero.cells.length=it.size)
  (hx:VR κ v x) (hy:VR κ vy y) (hst:St κ e B w₀ w) (hin:In κ e fid fr.cnt)
  (hr:r=appE b8 fid W a kind it.size it.bytes v d fr e (elems e vy)) (hrb:r≠.bad) :
  ∃ val w',(Builtin.append_ A T #[x,y]).run P w=.ok val w'∧z1w W e κ fid B w₀ fr d r val w':=by
 cases hel:elems e vy with
 | none=>rw[hel] at hr; exact absurd hr hrb
 | some p =>
  obtain⟨z',new⟩:=p
  rw[hel] at hr
  simp only[appE] at hr
  obtain⟨news,hnr,hn,hnew⟩:=z60 (P:=P) hy hst hel
  cases hem:new.isEmpty with
  | true =>
   simp only[hem,cond_true] at hr
   have hne:new=[]:=by simpa using hem
   subst hne
   have hfirst:∀ z,(Builtin.firstCells z 0 y).run P w=.ok #[] w:=by
    intro z
    have hl:=hn w
    cases hy<;>simp[Builtin.lenOf,Go.undef] at hl
    case str s =>
     subst hl; simp[Builtin.firstCells]
    case slnil=>simp[Builtin.firstCells]
    case sle a _=>simpa [Builtin.firstCells] using run_loadCells_list (P:=P) w a [] (by simp)
    case sl =>
     rename_i k' z' xs b o cp g hcap hz' hf hg' h1' hk1 hk hz1
     have:=run_loadCells_list (P:=P) w ⟨b,o,none⟩ [] (by simp)
     simpa [Builtin.firstCells] using this
    case as =>
     rename_i l off n b o cp hv ho hcap
     have:=run_loadCells_list (P:=P) w ⟨b,o,none⟩ [] (by simp)
     simpa [Builtin.firstCells] using this
    case hs =>
     rename_i l size off n b z' c cp ex hv hin' hs' hcap hz1
     have:=run_loadCells_list (P:=P) w ⟨b,off * z',none⟩ [] (by simp)
     simpa [Builtin.firstCells] using this
    case hsnil =>
     rename_i l size off b z' c o hv hz1
     have:=run_loadCells_list (P:=P) w ⟨b,o,none⟩ [] (by simp)
     simpa [Builtin.firstCells] using this
   have same:∀ b n c,n≤c→(Builtin.append_ A T #[.slice b n c,y]).run P w=.ok (.slice b n c) w:=by
    intro b n c hnc
    cases b with
    | none=>rcases z4q hnd with⟨e',rfl⟩ | rfl<;>simp[Builtin.append_,h0,h1,run_underlying ht,run_underlying hd,sizeOf,typeInfo,hi,hn,hnc,hfirst]
    | some ad =>
     have hs0:(storeCells (ad.add (n * it.size)) []).run P w=.ok () w:=by simp[storeCells]
     rcases z4q hnd with⟨e',rfl⟩ | rfl<;>simp[Builtin.append_,h0,h1,run_underlying ht,run_underlying hd,sizeOf,typeInfo,hi,hn,hnc,hfirst,hs0]
   have hput:∀ v:AV,VR κ v x→z1w W e κ fid B w₀ fr d (.go (Fr.put d fr v) e) x w:=fun v hv=>.put hv (.refl _) (.refl _ _ _ _ _) hst hin
   cases v<;>simp only[appN] at hr<;>try exact absurd hr hrb
   case sl k z xs =>
    subst hr
    obtain⟨base,cp,us,rfl,hcp,_⟩:=zes (P:=P) (z:=z) hx hst (.inr rfl)
    exact⟨_,_,same _ _ _ hcp,hput _ hx⟩
   case hs l z sz off n ex =>
    subst hr
    have:∃ b c,x=.slice b n c∧n≤c:=by
     cases hx with
     | hs hv hin' hs' hcap hz1=>exact⟨_,_,rfl,by rw[hcap]; split<;>omega⟩
     | hsnil hv hz1=>exact⟨_,_,rfl,Nat.le_refl _⟩
    obtain⟨b,c,rfl,hnc⟩:=this
    exact⟨_,_,same _ _ _ hnc,hput _ hx⟩
  | false =>
   simp only[hem,cond_false] at hr
   have hne:new≠[]:=by rintro rfl; simp at hem
   cases v<;>simp only[appV] at hr<;>try exact absurd hr hrb
   case sl k z0 xs =>
    cases hc:(Nat.beq z' it.size && (((xs.isEmpty && Nat.beq k 1) || Nat.beq z0 it.size) && (Nat.blt ((xs.length+new.length) * it.bytes) big && Nat.blt (xs.length+new.length) big))) with
    | false=>simp only[hc,cond_false] at hr; exact absurd hr hrb
    | true =>
     simp only[hc,cond_true] at hr
     simp only[Bool.and_eq_true,Bool.or_eq_true,Nat.blt_eq] at hc
     obtain⟨c1,c2,c3,c4⟩:=hc
     have c1:=z03.1 c1
     subst c1
     exact ziz hs1 h8 h0 ht h1 hd hnd hi hz hzc hzl hx hst hin hnr hn hnew hne (c2.imp (fun h=>⟨by simpa using h.1,z03.1 h.2⟩) z03.1) c3 c4 hr hrb
   case hs l z0 sz off n ex =>
    exact zj hs1 h0 ht h1 hd hnd hi hz hzc hzl hx hst hin hnr hn hnew hne hr hrb
end
end Go.Abs
namespace Go.Abs
open Go Go.RowKit
variable [Glob]
section
variable {P:Program} [hG:GOK P] {κ:K} {e:E} {B fid:Nat} {w₀ w:World} {fr:Fr} {d:Option Pth}
theorem zmq (ks:List CK):∀ {xs:List Value} {b:Bool},eqv ks xs xs=some b→b=true:=by
 induction ks with
 | nil =>
  intro xs b h
  cases xs with
  | nil=>simpa [eqv] using h.symm
  | cons=>simp[eqv] at h
 | cons c ks ih =>
  intro xs b h
  cases xs with
  | nil=>cases c<;>simp[eqv] at h
  | cons x xs =>
   cases c<;>cases x<;>simp only[eqv,reduceCtorEq] at h
   ·obtain⟨r,h1,rfl⟩:=z0e h
    rw[ih h1]; simp
   ·obtain⟨_,h⟩:=z23 h
    obtain⟨r,h1,rfl⟩:=z0e h
    rw[ih h1]; simp
   ·obtain⟨r,h1,rfl⟩:=z0e h
    rw[ih h1]
theorem FndR.none_all {kt:TypeId} {ks:List CK} {k:Value} {es:List MapEntry} {i:Nat} {r:Option (Nat × Value)} (h:FndR P kt ks k es i r) (hr:r=none):∀ en∈es,eqv ks k.cells.toList en.key.cells.toList=some false:=by
 induction h with
 | nil=>simp
 | hit=>cases hr
 | miss _ h _ ih =>
  intro en hen
  rcases List.mem_cons.1 hen with rfl | hen
  ·exact h
  ·exact ih hr en hen
theorem zc6 {kt:TypeId} {ag:Bool} {ks:List CK} {k:AV} {kv x:Value} {l:Lo} {es:List (AV × AV)} {fo:Option AV} (hag:aggB P kt=some ag) (hf:z1l P 8 kt=some ks) (hk:VR κ k kv) (hx:VR κ (.map l) x) (hst:St κ e B w₀ w)
  (hg:e.get l=.map es) (hfd:find ag ks k es=some fo) :
  ∃ b ens clock r',x=.map (some b)∧κ.ob l=some b∧w.heap[b]?=some (.map ens clock)∧MapR κ l es ens clock∧(∀ em w',(Instr.checkKey em 10000 kt kv).run P w'=.ok () w')∧(∀ w',(Instr.findKey kt kv ens.toList).run P w'=.ok r' w') ∧
   match fo with
   | none=>r'=none∧(∀ v,put ag ks k v es=es++[(k,v)])∧∀ en∈ens.toList,en.key≠kv
   | some v=>∃ (j:Nat) (a:AV) (en:MapEntry),es[j]?=some (a,v)∧ens[j]?=some en∧r'=some (j,en.val)∧(∀ v',put ag ks k v' es=es.set j (k,v'))∧en.key=kv∧Instr.sameBits 10000 kv kv=true:=by
 have hmo:z3v e (.map l)=some es:=by simp[z3v,hg,z8]
 rcases zix hx hst hmo with⟨_,rfl⟩ | ⟨l',b,ens,clock,hl',hl,_,rfl,hw,hM⟩
 ·rename_i hxn; subst hxn; cases hx
 ·cases hl'
  obtain⟨hs,hes,h3,h4,h5⟩:=hM
  obtain⟨r',q1,q2,q3,q4⟩:=zc4 hag hk es ens.toList 0 fo (by simpa using hs) (fun j a v en x y=>by obtain⟨p,q,_⟩:=hes j a v en x (by simpa using y); exact⟨p,q⟩) hfd
  refine⟨b,ens,clock,r',rfl,hl,hw,⟨hs,hes,h3,h4,h5⟩,fun em w'=>z5c (by omega) hf q2 q3 em w',fun w'=>z55 (by omega) hf q2 q1 w',?_⟩
  cases fo with
  | none =>
   refine⟨q4.1,q4.2,fun en hen he=>?_⟩
   have:=q1.none_all q4.1 en hen
   rw[he] at this
   have:=zmq ks this
   cases this
  | some v =>
   obtain⟨j,a,en,p1,p2,p3,p4,p5,p6⟩:=q4
   have he:=q2.eq p5 p6
   refine⟨j,a,en,p1,by simpa using p2,by rw[p3]; simp,p4,he.symm,?_⟩
   exact zc0 q2 (by rw[← he] at p6; exact p6)
theorem zdi {kv:Value} (h:Instr.sameBits 10000 kv kv=true) (w:World):(Instr.keyThatStays kv kv).run P w=.ok kv w:=by simp[Instr.keyThatStays,h]
theorem z4f {b:Nat} {ens:Array MapEntry} {clock:Nat} (hw:w.heap[b]?=some (.map ens clock)):(getObj b).run P w=.ok (.map ens clock) w:=by simp[getObj,Sem.run,hw]
theorem z4g {b:Nat} {ens:Array MapEntry} {clock:Nat} (hw:w.heap[b]?=some (.map ens clock)) (o:Obj):(setObj b o).run P w=.ok () { w with heap:=w.heap.setIfInBounds b o }:=by simp[setObj,Sem.run,hw]
theorem MapR.set {l:Lo} {es:List (AV × AV)} {ens:Array MapEntry} {clock j:Nat} {k v:AV} {val:Value} {en:MapEntry} (h:MapR κ l es ens clock) (hj:ens[j]?=some en) (hk:VR κ k en.key) (hv:VR κ v val) :
  MapR κ l (es.set j (k,v)) (ens.modify j fun e=>{ e with key:=en.key,val:=val }) clock:=by
 obtain⟨h1,h2,h3,h4,h5⟩:=h
 have hjl:j < ens.size:=(Array.getElem?_eq_some_iff.1 hj).1
 have hget:∀ (i:Nat) (x:MapEntry),(ens.modify j fun e=>{ e with key:=en.key,val:=val })[i]?=some x→(i=j∧x={ en with val:=val })∨(i≠j∧ens[i]?=some x):=by
  intro i x hx
  rw[Array.getElem?_modify] at hx
  by_cases hij:j=i
  ·subst hij
   rw[if_pos rfl,hj] at hx
   simp at hx
   exact .inl ⟨rfl,hx.symm⟩
  ·rw[if_neg hij] at hx
   exact .inr ⟨Ne.symm hij,hx⟩
 have hgs:∀ (i:Nat) (x:MapEntry),(ens.modify j fun e=>{ e with key:=en.key,val:=val })[i]?=some x→∃ y:MapEntry,ens[i]?=some y∧y.born=x.born∧y.key=x.key:=by
  intro i x hx
  rcases hget i x hx with⟨rfl,rfl⟩ | ⟨_,h⟩
  ·exact⟨en,hj,rfl,rfl⟩
  ·exact⟨x,h,rfl,rfl⟩
 refine⟨by simp[h1],fun i a u x ha hx=>?_,fun i i' x y hx hy he=>?_,h4,fun n u hn=>?_⟩
 ·rcases hget i x hx with⟨rfl,rfl⟩ | ⟨hij,hx'⟩
  ·rw[List.getElem?_set_self (by omega)] at ha
   cases ha
   have hesj:∃ p,es[i]?=some p:=⟨es[i]'(by omega),by simp⟩
   obtain⟨⟨a',v'⟩,hp⟩:=hesj
   obtain⟨_,_,r1,r2⟩:=h2 i a' v' en hp hj
   exact⟨hk,hv,r1,r2⟩
  ·rw[List.getElem?_set_ne (Ne.symm hij)] at ha
   exact h2 i a u x ha hx'
 ·obtain⟨x',a1,a2,a3⟩:=hgs i x hx
  obtain⟨y',b1,b2,b3⟩:=hgs i' y hy
  exact h3 i i' x' y' a1 b1 (by rw[a2,b2,a3,b3]; exact he)
 ·obtain⟨i,x,hx,hb⟩:=h5 n u hn
  by_cases hij:i=j
  ·subst hij
   rw[hj] at hx; cases hx
   exact⟨i,{ en with val:=val },by rw[Array.getElem?_modify,if_pos rfl,hj]; rfl,hb⟩
  ·exact⟨i,x,by rw[Array.getElem?_modify,if_neg (Ne.symm hij)]; exact hx,hb⟩
def K.addBs (κ:K) (l:Lo) (n:Nat) (v:Value):K:={ κ with bs:=fun l' n'=>if l'=l∧n'=n then some v else κ.bs l' n' }
theorem K.le_addBs {l:Lo} {n:Nat} {v:Value} (h:κ.bs l n=none):κ.le (κ.addBs l n v) where
 ob:=id
 vb:=id
 fz:=id
 tk:=id
 bs:=fun {l' n' u} hu=>by
  simp only[K.addBs]
  split
  ·rename_i hc; obtain⟨rfl,rfl⟩:=hc; rw[h] at hu; cases hu
  ·exact hu
theorem MapR.push {l:Lo} {es:List (AV × AV)} {ens:Array MapEntry} {clock:Nat} {k v:AV} {kv val:Value} (h:MapR κ l es ens clock) (hk:VR κ k kv) (hv:VR κ v val) (hne:∀ en∈ens.toList,en.key≠kv) :
  MapR (κ.addBs l clock kv) l (es++[(k,v)]) (ens.push { key:=kv,val:=val,born:=clock }) (clock+1):=by
 obtain⟨h1,h2,h3,h4,h5⟩:=h
 have hle:=K.le_addBs (v:=kv) (h4 clock (Nat.le_refl _))
 have hlt:∀ (i:Nat) (x:MapEntry),ens[i]?=some x→x.born < clock:=by
  intro i x hx
  have hi:i < ens.size:=(Array.getElem?_eq_some_iff.1 hx).1
  obtain⟨⟨a,v⟩,hp⟩:∃ p,es[i]?=some p:=⟨es[i]'(by omega),by simp⟩
  exact(h2 i a v x hp hx).2.2.2
 have hget:∀ (i:Nat) (x:MapEntry),(ens.push { key:=kv,val:=val,born:=clock })[i]?=some x→(i=ens.size∧x={ key:=kv,val:=val,born:=clock })∨(i < ens.size∧ens[i]?=some x):=by
  intro i x hx
  rw[Array.getElem?_push] at hx
  split at hx
  ·rename_i he; cases hx; exact .inl ⟨he,rfl⟩
  ·exact .inr ⟨(Array.getElem?_eq_some_iff.1 hx).1,hx⟩
 refine⟨by simp[h1],fun i a u x ha hx=>?_,fun i i' x y hx hy he=>?_,fun n hn=>?_,fun n u hn=>?_⟩
 ·rcases hget i x hx with⟨rfl,rfl⟩ | ⟨hi,hx'⟩
  ·rw[h1,List.getElem?_append_right (Nat.le_refl _)] at ha
   simp at ha
   obtain⟨rfl,rfl⟩:=ha
   exact⟨hk.mono hle,hv.mono hle,by simp[K.addBs],Nat.lt_succ_self _⟩
  ·rw[List.getElem?_append_left (by omega)] at ha
   obtain⟨p,q,r,s⟩:=h2 i a u x ha hx'
   exact⟨p.mono hle,q.mono hle,hle.bs r,by omega⟩
 ·rcases hget i x hx with⟨rfl,rfl⟩ | ⟨hi,hx'⟩
  ·rcases hget i' y hy with⟨rfl,rfl⟩ | ⟨hi',hy'⟩
   ·rfl
   ·exfalso
    rcases he with he | he
    ·have:=hlt i' y hy'; simp at he; omega
    ·exact hne y (Array.mem_toList_iff.2 (Array.mem_of_getElem? hy')) he.symm
  ·rcases hget i' y hy with⟨rfl,rfl⟩ | ⟨hi',hy'⟩
   ·exfalso
    rcases he with he | he
    ·have:=hlt i x hx'; simp at he; omega
    ·exact hne x (Array.mem_toList_iff.2 (Array.mem_of_getElem? hx')) he
   ·exact h3 i i' x y hx' hy' he
 ·simp only[K.addBs]
  rw[if_neg (by omega)]
  exact h4 n (by omega)
 ·simp only[K.addBs] at hn
  split at hn
  ·rename_i hc
   exact⟨ens.size,{ key:=kv,val:=val,born:=clock },by simp,hc.2.symm⟩
  ·obtain⟨i,x,hx,hb⟩:=h5 n u hn
   have hi:i < ens.size:=(Array.getElem?_eq_some_iff.1 hx).1
   exact⟨i,x,by rw[Array.getElem?_push,if_neg (by omega)]; exact hx,hb⟩
theorem MapR.own {l:Lo} {es:List (AV × AV)} {ens:Array MapEntry} {clock j:Nat} {en:MapEntry} (h:MapR κ l es ens clock) (hj:ens[j]?=some en):κ.bs l en.born=some en.key:=by
 have hi:j < ens.size:=(Array.getElem?_eq_some_iff.1 hj).1
 have h1:=h.1
 obtain⟨⟨a,v⟩,hp⟩:∃ p,es[j]?=some p:=⟨es[j]'(by omega),by simp⟩
 exact(h.2.1 j a v en hp hj).2.2.1
theorem St.setMap {κ':K} {e':E} {l:Lo} {b clock':Nat} {es':List (AV × AV)} {ens':Array MapEntry} (hst:St κ e B w₀ w) (hl:κ.ob l=some b) {ens0:Array MapEntry} {clock0:Nat} (hw:w.heap[b]?=some (.map ens0 clock0))
  (hκ:κ'={ κ with bs:=κ'.bs }) (hbs:∀ l',l'≠l→κ'.bs l'=κ.bs l') (hbl:∀ n v,κ.bs l n=some v→κ'.bs l n=some v)
  (hg:∀ l',l'≠l→e'.get l'=e.get l') (hgl:e'.get l=.map es') (hlv:∀ k,e'.live k=true→e.live k=true) (hM:MapR κ' l es' ens' clock') :
  St κ' e' B w₀ { w with heap:=w.heap.setIfInBounds b (.map ens' clock') }:=by
 have hlt:=(hst.rl b (by rw[hst.ro l b hl]; simp)).2
 refine hst.setOb hl hκ hbs hbl rfl rfl rfl (by simp) (fun b' hb'=>zai hb') hg (fun z es=>by rw[hgl]; simp) hlv ?_ (fun arr t f hx=>by rw[hw] at hx; cases hx)
 rw[hgl]
 exact⟨ens',clock',zbu hlt,hM⟩
theorem MapR.same {l:Lo} {es:List (AV × AV)} {ens:Array MapEntry} {clock j:Nat} {en:MapEntry} (h:MapR κ l es ens clock) (hj:ens[j]?=some en) :
  MapR κ l es (ens.modify j fun e=>{ e with key:=en.key }) clock:=by
 have:(ens.modify j fun e=>{ e with key:=en.key })=ens:=by
  apply Array.ext (by simp)
  intro i h1 h2
  rw[Array.getElem_modify]
  split
  ·rename_i hji; subst hji
   have:ens[j]=en:=(Array.getElem?_eq_some_iff.1 hj).2
   rw[this]
  ·rfl
 rw[this]; exact h
theorem z8p {l l':Lo} {n:Nat} {v:Value} {b:Nat} (hl:κ.ob l=some b) (h:z0a κ l'):z0a (κ.addBs l n v) l':=by
 have hne:l'≠l:=by rintro rfl; rw[h.1] at hl; cases hl
 exact⟨h.1,h.2.1,fun m=>by simp[K.addBs,hne,h.2.2]⟩
theorem zj0 {t kt el:TypeId} {ag:Bool} {ks:List CK} {k v m:AV} {kv val x:Value} {W:List Lo} {r:R} (hu:P.underlying t=some (.map kt el)) (hag:aggB P kt=some ag) (hf:z1l P 8 kt=some ks)
  (hm:VR κ m x) (hk:VR κ k kv) (hv:VR κ v val) (hst:St κ e B w₀ w) (hin:In κ e fid fr.cnt) (hr:r=mupV ag ks W d fr e k v m) (hrb:r≠.bad) :
  ∃ w',(Instr.mapUpdate t x kv val).run P w=.ok () w'∧z1w W e κ fid B w₀ fr d r undef w':=by
 cases m<;>simp only[mupV] at hr<;>try exact absurd hr hrb
 case map l =>
  cases hg:e.get l<;>rw[hg] at hr<;>simp only[mupO] at hr<;>try exact absurd hr hrb
  case map es =>
   cases hfd:find ag ks k es<;>rw[hfd] at hr<;>simp only[mupF] at hr
   ·exact absurd hr hrb
   rename_i fo
   cases hfr:free W l<;>simp only[hfr,cond_false,cond_true] at hr
   ·exact absurd hr hrb
   subst hr
   obtain⟨b,ens,clock,r',rfl,hl,hw,hM,c1,c2,c3⟩:=zc6 hag hf hk hm hst hg hfd
   have hgs:((e.moves v.cells l).set l (.map (put ag ks k v es))).get l=.map (put ag ks k v es):=E.get_set_same _ _ _ (by rw[E.get_moves,hg]; simp)
   have hgn:∀ l',l'≠l→((e.moves v.cells l).set l (.map (put ag ks k v es))).get l'=e.get l':=fun l' hl'=>by rw[E.get_set_ne _ _ _ _ (Ne.symm hl'),E.get_moves]
   have hlv:∀ k',((e.moves v.cells l).set l (.map (put ag ks k v es))).live k'=true→e.live k'=true:=fun k' hk'=>by rw[E.live_set] at hk'; exact E.live_moves hk'
   have hsh:shp ((e.moves v.cells l).set l (.map (put ag ks k v es)))=shp e:=by rw[z2o,z5a]
   have hgo:((e.moves v.cells l).set l (.map (put ag ks k v es))).glo.length=e.glo.length:=by rw[z2p,z48]
   cases fo with
   | none =>
    obtain⟨rfl,c4,c5⟩:=c3
    have hp:=hM.push hk hv c5
    have hbn:=hM.2.2.2.1 clock (Nat.le_refl _)
    refine⟨_,?_,.put .undef (K.le_addBs hbn) ⟨fun l' hl'=>.inl (z8p hl hl'),fun k hk=>.inl hk⟩ (hst.setMap hl hw rfl (fun l' hl'=>?_) (fun n u hn=>(K.le_addBs hbn).bs hn) hgn (by rw[hgs,c4]) hlv hp)
     (hin.taken (fun l' hl'=>z8p hl hl') rfl hsh hgo)⟩
    ·simp only[Instr.mapUpdate,Sem.run_bind,run_underlying hu,Result.andThen_ok,z4f hw,c1,c2,z4g hw]
    ·funext n; simp[K.addBs,hl']
   | some v0 =>
    obtain⟨j,a,en,p1,p2,rfl,p4,p5,p6⟩:=c3
    subst p5
    have hp:=hM.set p2 hk hv
    refine⟨_,?_,.put .undef (.refl _) (.refl _ _ _ _ _) (hst.setMap hl hw rfl (fun _ _=>rfl) (fun _ _=>id) hgn (by rw[hgs,p4]) hlv hp) (hin.set hsh hgo)⟩
    simp only[Instr.mapUpdate,Sem.run_bind,run_underlying hu,Result.andThen_ok,z4f hw,c1,c2,p2,Option.map_some,Option.getD_some,zdi p6,z4g hw]
theorem VR.pair {a b:AV} {u v:Value} (h1:VR κ a u) (h2:VR κ b v):VR κ (.tup [a,b]) (.tuple #[u,v]):=by
 refine .tup rfl fun i c y hc hy=>?_
 match i with
 | 0=>simp at hc hy; subst hc; subst hy; exact h1
 | 1=>simp at hc hy; subst hc; subst hy; exact h2
 | i+2=>simp at hc
theorem men_sim {t kt el:TypeId} {ag:Bool} {ks:List CK} {k zero m:AV} {kv x:Value} {W:List Lo} {r:R} (hu:P.underlying t=some (.map kt el)) (hag:aggB P kt=some ag) (hf:z1l P 8 kt=some ks) (hz:z79 P el=some zero)
  (hm:VR κ m x) (hk:VR κ k kv) (hst:St κ e B w₀ w) (hin:In κ e fid fr.cnt) (hr:r=menV ag ks W d fr e k zero m) (hrb:r≠.bad) :
  ∃ val w',(Instr.mapEntry t x kv).run P w=.ok val w'∧z1w W e κ fid B w₀ fr d r val w':=by
 obtain⟨zv,hz1,hz2⟩:=z3d hz
 cases m<;>simp only[menV] at hr<;>try exact absurd hr hrb
 case map l =>
  cases hg:e.get l<;>rw[hg] at hr<;>simp only[menO] at hr<;>try exact absurd hr hrb
  case map es =>
   cases hfd:find ag ks k es<;>rw[hfd] at hr<;>try exact absurd hr hrb
   rename_i fo
   obtain⟨b,ens,clock,r',rfl,hl,hw,hM,c1,c2,c3⟩:=zc6 hag hf hk hm hst hg hfd
   cases fo with
   | none =>
    simp only[menF] at hr
    cases hfr:free W l<;>simp only[hfr,cond_false,cond_true] at hr
    ·exact absurd hr hrb
    subst hr
    obtain⟨rfl,c4,c5⟩:=c3
    have hzv:=z3i hz2 κ
    have hp:=hM.push hk hzv c5
    have hbn:=hM.2.2.2.1 clock (Nat.le_refl _)
    refine⟨_,_,?_,.put (VR.pair (hzv.mono (K.le_addBs hbn)) (.stamp (n:=clock) (by simp[K.addBs]) (hk.mono (K.le_addBs hbn)))) (K.le_addBs hbn) ⟨fun l' hl'=>.inl (z8p hl hl'),fun k hk=>.inl hk⟩ (hst.setMap hl hw rfl (fun l' hl'=>?_) (fun n u hn=>(K.le_addBs hbn).bs hn) (fun l' hl'=>E.get_set_ne _ _ _ _ (Ne.symm hl')) (by rw[E.get_set_same _ _ _ (by rw[hg]; simp),c4]) (fun k' hk'=>by rw[E.live_set] at hk'; exact hk') hp)
     (hin.taken (fun l' hl'=>z8p hl hl') rfl (z2o _ _ _) (z2p _ _ _))⟩
    ·simp only[Instr.mapEntry,Sem.run_bind,run_underlying hu,Result.andThen_ok,z4f hw,c1,c2,z17 w hz1,z4g hw,Sem.run_pure]
     rfl
    ·funext n; simp[K.addBs,hl']
   | some v0 =>
    simp only[menF] at hr
    cases hfr:free W l<;>simp only[hfr,cond_false,cond_true] at hr
    ·exact absurd hr hrb
    subst hr
    obtain⟨j,a,en,p1,p2,rfl,p4,p5,p6⟩:=c3
    subst p5
    have hown:=hM.own p2
    refine⟨_,_,?_,.put (VR.pair ((hM.2.1 j a v0 en p1 p2).2.1) (.stamp (n:=en.born) hown hk)) (.refl _) (.refl _ _ _ _ _) (hst.setMap hl hw rfl (fun _ _=>rfl) (fun _ _=>id) (fun _ _=>rfl) hg (fun _=>id) (hM.same p2)) hin⟩
    simp only[Instr.mapEntry,Sem.run_bind,run_underlying hu,Result.andThen_ok,z4f hw,c1,c2,p2,Option.map_some,Option.getD_some,zdi p6,z4g hw,Sem.run_pure]
    rfl
theorem est_sim {t kt:TypeId} {ag:Bool} {ks:List CK} {k v m:AV} {kv val x:Value} {W:List Lo} {r:R} (hag:aggB P kt=some ag) (hf:z1l P 8 kt=some ks)
  (hm:VR κ m x) (hk:VR κ k kv) (hv:VR κ v val) (hst:St κ e B w₀ w) (hin:In κ e fid fr.cnt) (hr:r=estV ag ks W d fr e v m k) (hrb:r≠.bad) :
  ∃ w',(Instr.entryStore t x kv val).run P w=.ok () w'∧z1w W e κ fid B w₀ fr d r undef w':=by
 unfold estV at hr
 split at hr<;>try exact absurd hr hrb
 rename_i l l' k'
 cases hll:decide (l=l')<;>simp only[hll,cond_false,cond_true] at hr
 ·exact absurd hr hrb
 have hll:=of_decide_eq_true hll
 subst hll
 cases hk with
 | stamp hbs hku =>
  rename_i n u
  cases hg:e.get l<;>rw[hg] at hr<;>simp only[estO] at hr<;>try exact absurd hr hrb
  rename_i es
  cases hfd:find ag ks k' es<;>rw[hfd] at hr<;>try exact absurd hr hrb
  rename_i fo
  cases fo with
  | none=>exact absurd hr hrb
  | some v0 =>
   simp only[estF] at hr
   cases hfr:free W l<;>simp only[hfr,cond_false,cond_true] at hr
   ·exact absurd hr hrb
   subst hr
   obtain⟨b,ens,clock,r',rfl,hl,hw,hM,c1,c2,c3⟩:=zc6 hag hf hku hm hst hg hfd
   obtain⟨j,a,en,p1,p2,rfl,p4,p5,p6⟩:=c3
   subst p5
   obtain⟨i,en',hi,hb⟩:=hM.2.2.2.2 n _ hbs
   have hown:=hM.own hi
   rw[hb,hbs] at hown
   have hkk:en'.key=en.key:=(Option.some.inj hown).symm
   have hij:=hM.2.2.1 i j en' en hi p2 (.inr hkk)
   subst hij
   rw[hi] at p2; cases p2
   have hp:=hM.set hi hku hv
   have hfi:ens.findIdx? (fun e=>((e.born:Nat):Int)==(n:Int))=some i:=by
    obtain⟨hil,hie⟩:=Array.getElem?_eq_some_iff.1 hi
    rw[Array.findIdx?_eq_some_iff_getElem]
    refine⟨hil,by rw[hie]; simp[hb],fun j' hj'=>?_⟩
    have:ens[j'].born≠n:=by
     intro hbe
     have:=hM.2.2.1 j' i ens[j'] en (by simp) hi (.inl (by rw[hbe,hb]))
     omega
    simp; omega
   have hmod:(ens.modify i fun e=>{ e with val:=val })=(ens.modify i fun e=>{ e with key:=en.key,val:=val }):=by
    apply Array.ext (by simp)
    intro q h1 h2
    rw[Array.getElem_modify,Array.getElem_modify]
    split
    ·rename_i hq; subst hq
     rw[(Array.getElem?_eq_some_iff.1 hi).2]
    ·rfl
   refine⟨_,?_,.put .undef (.refl _) (.refl _ _ _ _ _) (hst.setMap hl hw rfl (fun _ _=>rfl) (fun _ _=>id) (fun l' hl'=>by rw[E.get_set_ne _ _ _ _ (Ne.symm hl'),E.get_moves]) (by rw[E.get_set_same _ _ _ (by rw[E.get_moves,hg]; simp),p4]) (fun k' hk'=>by rw[E.live_set] at hk'; exact E.live_moves hk') hp) (hin.set (by rw[z2o,z5a]) (by rw[z2p,z48]))⟩
   rw[← hmod]
   simp only[Instr.entryStore,Sem.run_bind,Result.andThen_ok,z4f hw,asInt,asIntOf,Sem.run_pure,hfi,z4g hw]
end
end Go.Abs
namespace Go.Abs
open Go Go.RowKit
variable [Glob]
section
variable {P:Program} [hG:GOK P] {κ:K} {e:E} {B fid:Nat} {w₀ w:World} {fr:Fr} {d:Option Pth}
theorem int_inv {v:AV} {x:Value} (h:VR κ v x) {k:IntKind} {n:Nat} (hv:v=.int k (.ofNat n)):x=.int k n:=by
 subst hv; cases h; rfl
theorem mks_sim {t el:TypeId} {it:TypeInfo} {n a:Nat} {g hs ex:Bool} {zero l c:AV} {x y:Value} {W:List Lo} {r:R} (hu:P.underlying t=some (.slice el)) (hi:P.info? el=some it) (hz:z7a P el=some (n,zero)) (h8:is8 zero=true→Glob.u8 el)
  (hx:VR κ l x) (hy:VR κ c y) (hst:St κ e B w₀ w) (hin:In κ e fid fr.cnt)
  (hr:r=nat2 (fun l c=>mksN a g hs ex n zero it.bytes l c fid W d fr e) l c) (hrb:r≠.bad) :
  ∃ val w',(Instr.makeSlice t x y).run P w=.ok val w'∧z1w W e κ fid B w₀ fr d r val w':=by
 obtain⟨it',zv,hi',hsz,hzv,hc,hzl,hn⟩:=z3e hz κ
 rw[hi] at hi'; cases hi'
 unfold nat2 at hr
 split at hr
 ·rename_i k1 l k2 c
  have hx':=int_inv hx rfl
  have hy':=int_inv hy rfl
  subst hx' hy'
  unfold mksN at hr
  cases hcd:(Nat.ble l c && (Nat.blt (c * it.bytes) big && Nat.blt c big)) with
  | false=>simp only[hcd,cond_false] at hr; exact absurd hr hrb
  | true =>
   simp only[hcd,cond_true] at hr
   simp only[Bool.and_eq_true,Nat.blt_eq] at hcd
   have c1:=Nat.le_of_ble_eq_true hcd.1
   obtain⟨_,c2,c3⟩:=hcd
   have hrow:RowR κ n (List.replicate l zero) ((((Array.range (c * n)).map (zv.cells[· % zv.cells.size]!)).toList).take ((List.replicate l zero).length * n)):=by
    have h1:=RowR.zeros hc (by omega) c
    have hzs:zv.cells.size=n:=by have:=hc.1; simp at this; omega
    rw[hzl,hzs] at h1
    have h2:=h1.sub 0 l (by simp; omega)
    simp only[List.drop_zero,Nat.zero_mul,List.take_replicate,Nat.min_eq_left c1] at h2
    rw[hzs]
    simpa using h2
   have harr:((Array.range (c * n)).map (zv.cells[· % zv.cells.size]!)).size=c * n:=by simp
   have hrun:(Instr.makeSlice t (.int k1 l) (.int k2 c)).run P w=.ok (.slice (some ⟨w.heap.size,0,none⟩) l c) (w.alloc (.cells ((Array.range (c * n)).map (zv.cells[· % zv.cells.size]!)) el)):=by
    have w1:IntKind.i64.wrap (l:Int)=l:=IntWalk.i64_in _ (by unfold big at c3; omega)
    have w2:IntKind.i64.wrap (c:Int)=c:=IntWalk.i64_in _ (by unfold big at c3; omega)
    have t2:(it.bytes:Int) * (c:Int)≤281474976710656:=by
     have h3:(it.bytes:Int) * (c:Int)=((c * it.bytes:Nat):Int):=by rw[Nat.mul_comm]; simp
     rw[h3]; unfold big at c2; omega
    have t3:¬ ((281474976710656:Int) < (it.bytes:Int) * (c:Int)):=by omega
    have t4:¬ (c < l):=by omega
    have t5:∀ m:Nat,¬ ((m:Int) < 0):=by omega
    have t6:Array.range 0=#[]:=rfl
    by_cases hcn:c * n=0
    ·simp[Instr.makeSlice,run_underlying hu,asInt,asIntOf,typeInfo,sizeOf,zeroValue,hi,hsz,hzv,w1,w2,newRow,t3,t4,t5,t6,hcn]
    ·simp[Instr.makeSlice,run_underlying hu,asInt,asIntOf,typeInfo,sizeOf,zeroValue,hi,hsz,hzv,w1,w2,newRow,t3,t4,t5,t6,hcn]
   cases hh:hs with
   | true =>
    subst hh
    simp only[cond_true] at hr
    cases hna:newAt e W a g (.vec n (List.replicate l zero)) with
    | none=>rw[hna] at hr; exact absurd hr hrb
    | some p =>
     obtain⟨l',e₁⟩:=p
     rw[hna] at hr
     subst hr
     refine⟨_,_,hrun,?_⟩
     have:=z61 (B:=B) (w₀:=w₀) (w:=w) (fr:=fr) (d:=d) (t:=el) hst hin hna harr (by simpa using c1) hrow (cond ex (Nat.beq l c) false) (fun h=>by cases ex with | false=>cases h | true=>simpa using (z03.1 h).symm) hn
     simp only[List.length_replicate] at this
     exact this
   | false =>
    subst hh
    simp only[cond_false] at hr
    have hroom:room (tick (is8 zero) fr.cnt)=true:=by
     cases h:room (tick (is8 zero) fr.cnt) with
     | true=>rfl
     | false=>obtain⟨s,cnt⟩:=fr; simp only[Abs.ticket,z1x] at hr; rw[h] at hr; exact absurd hr hrb
    have hin':=hin.weaken (zem (is8 zero) fr.cnt)
    have hpar:z0k fid (tick (is8 zero) fr.cnt) % 2=1→Glob.u8 el:=fun h=>h8 (by rw[zc5] at h; cases h8':is8 zero<;>rw[h8'] at h<;>simp at h ⊢)
    obtain⟨κ',q1,q2,q3,q4,q5⟩:=z9i (e₂:=e) (w:=w) (t:=el) (c:=c) hst hin' hn hpar (z1k.1 hroom) (fun _ h=>h) (fun _=>rfl) rfl rfl hrow (by simpa using c1) harr
    subst hr
    refine⟨_,_,hrun,.ticket hroom ?_ q2 q3 q4 q5⟩
    simpa using q1
 ·exact absurd hr hrb
end
end Go.Abs
namespace Go.Abs
open Go Go.RowKit
variable [Glob]
section
variable {P:Program} [hG:GOK P] {κ:K} {e:E} {B fid:Nat} {w₀ w:World} {fr:Fr} {d:Option Pth}
theorem zdj {κ:K} {zero:AV} {zs:Array Value} {z:Nat} (hz:VRs κ zero.cells zs.toList) (hl:zero.cells.length=z) (h1:1≤z) (n:Nat):RowR κ z (List.replicate n zero) (Builtin.zeroCells zs n).toList:=by
 have h:=RowR.zeros hz (by omega) n
 rw[hl] at h
 exact h
theorem zat (zs:Array Value) (n:Nat):(Builtin.zeroCells zs n).size=n * zs.size:=by simp[Builtin.zeroCells]
theorem apz_sim {A:Array TypeId} {T t u el:TypeId} {ik:IntKind} {it:TypeInfo} {n a:Nat} {g:Bool} {zero vx vn:AV} {x y:Value} {W:List Lo} {r:R}
  (h0:A[0]?=some t) (ht:P.underlying t=some (.slice el)) (h1:A[1]?=some u) (hd:P.underlying u=some (.int ik)) (hi:P.info? el=some it) (hz:z7a P el=some (n,zero))
  (hx:VR κ vx x) (hy:VR κ vn y) (hst:St κ e B w₀ w) (hin:In κ e fid fr.cnt) (hr:r=apzS (fun m=>apzN a g n zero it.bytes W d fr e m) vx vn) (hrb:r≠.bad) :
  ∃ val w',(Builtin.append_ A T #[x,y]).run P w=.ok val w'∧z1w W e κ fid B w₀ fr d r val w':=by
 obtain⟨it',zv,hi',hsz,hzv,hc,hzl,hn⟩:=z3e hz κ
 rw[hi] at hi'; cases hi'
 unfold apzS at hr
 split at hr
 ·rename_i j z0 k m
  cases hj:Nat.beq j 1 with
  | false=>rw[hj] at hr; exact absurd hr hrb
  | true =>
   rw[hj] at hr
   simp only[cond_true] at hr
   have:=int_inv hy rfl
   subst this
   obtain⟨base,cp,us,rfl,hcp,hrow,hold,hk1,_⟩:=zes (P:=P) (z:=it.size) hx hst (.inl rfl)
   have hcp0:cp=0:=hk1 (z03.1 hj)
   subst hcp0
   have hus:us=[]:=by have:=hrow.1; simpa using this
   subst hus
   unfold apzN at hr
   cases hcd:(Nat.blt 0 m && (Nat.blt (m * it.bytes) big && Nat.blt m big)) with
   | false=>simp only[hcd,cond_false] at hr; exact absurd hr hrb
   | true =>
    simp only[hcd,cond_true] at hr
    simp only[Bool.and_eq_true,Nat.blt_eq] at hcd
    obtain⟨c1,c2,c3⟩:=hcd
    have hzs:zv.cells.size=n:=by have:=hc.1; simp at this; omega
    have hge:=grownCap_ge w m 0 el
    have hrun:(Builtin.append_ A T #[.slice base 0 0,.int k m]).run P w =
      .ok (.slice (some ⟨w.heap.size,0,none⟩) m (grownCap w m 0 el)) (w.drew.alloc (.cells (Builtin.zeroCells zv.cells m++Builtin.zeroCells zv.cells (grownCap w m 0 el - m)) el)):=by
     have w1:IntKind.i64.wrap (m:Int)=m:=IntWalk.i64_in _ (by unfold big at c3; omega)
     have t2:¬ ((281474976710656:Int) < (m:Int) * (it.bytes:Int)):=by
      have h3:(m:Int) * (it.bytes:Int)=((m * it.bytes:Nat):Int):=by simp
      rw[h3]; unfold big at c2; omega
     have h48:¬ (281474976710656 < Builtin.nextslicecap m 0 * it.bytes):=by
      have:=growslice_fits (bytes:=it.bytes) c1 (by unfold big at c2; omega); omega
     have t4:¬ ((m:Int) < 0):=by omega
     have t5:¬ (m≤0):=by omega
     have t6:¬ (9223372036854775807 < (m:Int)):=by unfold big at c3; omega
     have t7:¬ (m * n=0):=by
      intro h; rcases Nat.mul_eq_zero.1 h with h | h<;>omega
     have t8:¬ m=0:=by omega
     have hold':=hold w.drew rfl
     simp only[List.length_nil,hsz] at hold'
     have t9:¬ n=0:=by omega
     simp[Builtin.append_,h0,h1,run_underlying ht,run_underlying hd,sizeOf,typeInfo,zeroValue,hi,hzv,asInt,asIntOf,w1,t2,t4,t5,t6,t7,t8,t9,hsz,h48,Question.forced,hold',newRow,grownCap,hzs]
    cases hna:newAt e W a g (.vec n (List.replicate m zero)) with
    | none=>rw[hna] at hr; exact absurd hr hrb
    | some p =>
     obtain⟨l',e₁⟩:=p
     rw[hna] at hr
     subst hr
     refine⟨_,_,hrun,?_⟩
     have hz1:=zdj hc hzl hn m
     have:=z61 (B:=B) (w₀:=w₀) (w:=w.drew) (fr:=fr) (d:=d) (t:=el) (c:=grownCap w m 0 el) (arr:=Builtin.zeroCells zv.cells m++Builtin.zeroCells zv.cells (grownCap w m 0 el - m)) hst.drew hin hna
      (by simp only[Array.size_append,zat,hzs,← Nat.add_mul]; congr 1; omega) (by simpa using hge)
      (by
       have hl:(Builtin.zeroCells zv.cells m).toList.length=m * n:=by simp[zat,hzs]
       simp only[Array.toList_append,List.length_replicate]
       rw[← hl,List.take_append_of_le_length (Nat.le_refl _),List.take_length]
       exact hz1) false (by simp) hn
     simp only[List.length_replicate] at this
     exact this
 ·exact absurd hr hrb
theorem zmr {l:Lo} {z0 z sz off n:Nat} {ex:Bool} {es ys:List AV} {news:List Value} {x:Value} (hx:VR κ (.hs l z0 sz off n ex) x) (hst:St κ e B w₀ w) (hg:e.get l=.vec z es) (hsz:es.length=sz) (hn:ys.length≤n) (h0:ys≠[]) (hnr:RowR κ z ys news) :
  ∃ b cp,x=.slice (some ⟨b,off * z,none⟩) n cp∧∃ κ' w',(storeCells (⟨b,off * z,none⟩:Addr) news).run P w=.ok () w'∧κ.le κ'∧Same κ κ'∧St κ' (e.set l (.vec z (es.take off++ys++es.drop (off+ys.length)))) B w₀ w':=by
 subst hsz
 have hyl:1≤ys.length:=by cases ys with | nil=>exact absurd rfl h0 | cons=>simp
 cases hx with
 | hsnil hv hz1=>omega
 | hs hv hin' hs' hcap hz1 =>
  rename_i b c cp
  obtain⟨hrl,hzz⟩:=hst.rv l _ es b _ c hg hv
  have hzz:=hzz.symm
  subst hzz
  have hb:=hst.blk b
  rw[hrl] at hb
  obtain⟨arr,t',e1,e2,e3,hrow⟩:=(hb z es c hg hv).row
  have hob:κ.ob l=none:=by
   cases ho:κ.ob l with
   | none=>rfl
   | some b' =>
    have h6:=hst.blk b'
    rw[hst.ro l b' ho] at h6
    simp only[BlkR,hg,ObR] at h6
  have hlb:B≤b∧b < w.heap.size:=⟨(hst.rl b (by rw[hrl]; simp)).1 (by rw[hrl]; simp),(hst.rl b (by rw[hrl]; simp)).2⟩
  have hfit':off+ys.length≤es.length:=by omega
  have hle:es.length * z≤c * z:=Nat.mul_le_mul_right _ e3
  have hfz:(off+ys.length) * z≤es.length * z:=Nat.mul_le_mul_right _ hfit'
  rw[Nat.add_mul] at hfz
  have hnw:=hnr.1
  have store:(storeCells (⟨b,off * z,none⟩:Addr) news).run P w=.ok () (w.setRow b (z1b arr.toList (off * z) news).toArray):=by
   have:=run_storeCells_at P b (off * z) t' news 0 arr w e1 (by omega) (fun u hu=>hnr.2.2 u hu)
   rw[z4p _ _ _ (by simp; omega)]
   simpa using this
  have hll:(es.take off++ys++es.drop (off+ys.length)).length=es.length:=by simp; omega
  have hgs:(e.set l (.vec z (es.take off++ys++es.drop (off+ys.length)))).get l=.vec z (es.take off++ys++es.drop (off+ys.length)):=E.get_set_same _ _ _ (by rw[hg]; simp)
  have hrow2:RowR κ z (es.take off++ys++es.drop (off+ys.length)) ((z1b arr.toList (off * z) news).take ((es.take off++ys++es.drop (off+ys.length)).length * z)):=by
   rw[hll,z6 _ _ _ _ (by omega) (by simp; omega)]
   exact hrow.over (p:=off) hnr hfit'
  have hs2:=hst.setVec (e':=e.set l (.vec z (es.take off++ys++es.drop (off+ys.length)))) (w':=w.setRow b (z1b arr.toList (off * z) news).toArray) (l:=l) (es:=es.take off++ys++es.drop (off+ys.length)) (b₀:=b) (z:=z) (c:=c) hob (.inr hrl) (.inr (by rw[hll]; exact hv)) (fun m hm=>hst.vn l _ es m hg (by omega)) rfl rfl rfl (by simp) hlb.1 (by simp; exact hlb.2)
   (fun b' _ hb'=>setRow_other w b b' _ hb') (fun l' hl'=>E.get_set_ne _ _ _ _ (Ne.symm hl')) hgs (fun k hk=>by rw[E.live_set] at hk; exact hk)
   (by rw[setRow_heap w b arr _ t' (0,0) e1]; exact RowR.vec (by simp[z1c,e2]) (by omega) (by simpa using hrow2)) (fun arr' t2 f' hx=>by rw[e1] at hx; cases hx; exact⟨_,_,setRow_heap w b arr _ t' (0,0) e1⟩)
  have hsame:Same κ (κ.addVec l (es.take off++ys++es.drop (off+ys.length)).length b z c):=by
   refine⟨rfl,?_,rfl,rfl⟩
   funext l' q
   simp only[K.addVec]
   split
   ·rename_i hc; obtain⟨rfl,rfl⟩:=hc; rw[hll]; exact hv.symm
   ·rfl
  exact⟨b,_,rfl,_,_,store,K.le_addVec (.inr (by rw[hll]; exact hv)),hsame,hs2⟩
theorem z9j {v:AV} {x:Value} {z k:Nat} {xs:List AV} (hx:VR κ v x) (hst:St κ e B w₀ w) (h:z15 e v=some (z,xs)) (hk:k≤xs.length) :
  ∃ us,RowR κ z (xs.take k) us∧(Builtin.lenOf x).run P w=.ok xs.length w∧(Builtin.firstCells z k x).run P w=.ok us.toArray w:=by
 rcases z9g hx hst h with⟨a,rfl,rfl⟩ | ⟨b,o,cap,us,rfl,hrow,hcell⟩
 ·have:k=0:=by simpa using hk
  subst this
  refine⟨[],⟨by simp,by simp,by simp⟩,by simp[Builtin.lenOf],?_⟩
  cases a with
  | none=>simp[Builtin.firstCells]
  | some a=>simpa [Builtin.firstCells] using run_loadCells_list (P:=P) w a [] (by simp)
 ·have hs:=hrow.sub 0 k (by omega)
  simp only[List.drop_zero,Nat.zero_mul] at hs
  refine⟨us.take (k * z),hs,by simp[Builtin.lenOf],?_⟩
  have hl:(us.take (k * z)).length=k * z:=by
   have:=hs.1; simp only[List.length_take] at this ⊢; rw[this,Nat.min_eq_left hk]
  have:=run_loadCells_list (P:=P) (w:=w) ⟨b,o,none⟩ (us.take (k * z)) (fun j u hj=>by
   rw[List.getElem?_take] at hj
   split at hj
   ·have:=hcell j u hj
    simpa [z1f] using this
   ·cases hj)
  rw[hl] at this
  simpa [Builtin.firstCells] using this
theorem cpy_sim {A:Array TypeId} {T t el:TypeId} {n:Nat} {zero vx vy:AV} {x y:Value} {W:List Lo} {r:R}
  (h0:A[0]?=some t) (ht:P.underlying t=some (.slice el)) (hz:z7a P el=some (n,zero))
  (hx:VR κ vx x) (hy:VR κ vy y) (hst:St κ e B w₀ w) (hin:In κ e fid fr.cnt) (hr:r=cpyV n W d fr e (z15 e vy) vx) (hrb:r≠.bad) :
  ∃ val w',(Builtin.copy_ A T #[x,y]).run P w=.ok val w'∧z1w W e κ fid B w₀ fr d r val w':=by
 obtain⟨it,zv,hi,hsz,hzv,hc,hzl,hn1⟩:=z3e hz κ
 have hel:(typeInfo el:Sem TypeInfo).run P w=.ok it w:=by simp[typeInfo,hi]
 unfold cpyV at hr
 split at hr
 ·rename_i l z0 sz off m ex
  unfold cpyE at hr
  split at hr
  ·rename_i z' new hnew
   have hxs:∃ b cp,x=.slice b m cp:=by
    cases hx with
    | hs=>exact⟨_,_,rfl⟩
    | hsnil=>exact⟨_,_,rfl⟩
   cases hm:Nat.beq (min m new.length) 0 with
   | true =>
    rw[hm] at hr
    simp only[cond_true] at hr
    have hm:=z03.1 hm
    obtain⟨b,cp,rfl⟩:=hxs
    obtain⟨us,hrow,hlen,hfirst⟩:=z9j (P:=P) (k:=0) hy hst hnew (Nat.zero_le _)
    have hf0:(Builtin.firstCells n 0 y).run P w=.ok #[] w:=by
     cases hy<;>simp[Builtin.lenOf,Go.undef] at hlen
     case slnil=>simp[Builtin.firstCells]
     case sle a _=>simpa [Builtin.firstCells] using run_loadCells_list (P:=P) w a [] (by simp)
     case str=>simp[z15] at hnew
     case sl =>
      rename_i k' z' xs b o cp g hcap hz' hf hg' h1' hk1 hk hz1
      have:=run_loadCells_list (P:=P) w ⟨b,o,none⟩ [] (by simp)
      simpa [Builtin.firstCells] using this
     case hs =>
      rename_i l size off n b z' c cp ex hv hin' hs' hcap hz1
      have:=run_loadCells_list (P:=P) w ⟨b,off * z',none⟩ [] (by simp)
      simpa [Builtin.firstCells] using this
     case hsnil =>
      rename_i l size off b z' c o hv hz1
      have:=run_loadCells_list (P:=P) w ⟨b,o,none⟩ [] (by simp)
      simpa [Builtin.firstCells] using this
     case as =>
      rename_i l off n b o cp hv ho hcap
      have:=run_loadCells_list (P:=P) w ⟨b,o,none⟩ [] (by simp)
      simpa [Builtin.firstCells] using this
    have hmin:Nat.min new.length m=0:=by have:=Nat.min_comm m new.length; show min new.length m=0; omega
    refine⟨goInt 0,w,?_,?_⟩
    ·cases b<;>simp[Builtin.copy_,h0,run_underlying ht,sizeOf,hel,hsz,hlen,hmin,hf0,storeCells]
    ·rw[hr]; exact .put (.int _ _) (.refl _) (.refl _ _ _ _ _) hst hin
   | false =>
    rw[hm] at hr
    simp only[cond_false] at hr
    have hm0:¬ min m new.length=0:=fun h=>by rw[z03.2 h] at hm; cases hm
    cases hg:e.get l with
    | none=>rw[hg] at hr; exact absurd hr hrb
    | cells=>rw[hg] at hr; exact absurd hr hrb
    | map=>rw[hg] at hr; exact absurd hr hrb
    | vec w' es =>
     rw[hg] at hr
     unfold cpyO at hr
     cases hcc:(Nat.beq es.length sz && (Nat.beq w' n && (Nat.beq z' n && free W l))) with
     | false=>simp only[hcc,cond_false] at hr; exact absurd hr hrb
     | true =>
      simp only[hcc,cond_true] at hr
      simp only[Bool.and_eq_true] at hcc
      have c1:=z03.1 hcc.1
      have c2:=z03.1 hcc.2.1
      have c3:=z03.1 hcc.2.2.1
      obtain⟨us,hrow,hlen,hfirst⟩:=z9j (P:=P) (k:=min m new.length) hy hst hnew (Nat.min_le_right _ _)
      have htk:new.take (min m new.length)=new.take m:=by
       rcases Nat.le_total m new.length with h | h
       ·rw[Nat.min_eq_left h]
       ·rw[Nat.min_eq_right h,List.take_length,List.take_of_length_le h]
      rw[htk] at hrow
      have hlt:(new.take m).length=min m new.length:=by simp
      have hw':z'=w':=by omega
      rw[hw'] at hrow
      obtain⟨b,cp,rfl,κ',w₂,hsto,hle,hsame,hs2⟩:=zmr (P:=P) hx hst hg c1 (by rw[hlt]; exact Nat.min_le_left _ _) (by intro h; rw[h] at hlt; simp at hlt; omega) hrow
      have hmin:Nat.min new.length m=min m new.length:=Nat.min_comm _ _
      refine⟨goInt (min m new.length:Nat),w₂,?_,?_⟩
      ·rw[hw',c2] at hfirst
       simp[Builtin.copy_,h0,run_underlying ht,sizeOf,hel,hsz,hlen,hmin,hfirst,hsto]
      ·rw[hr]
       refine .put ?_ hle (hsame.gr _ _) hs2 (hin.same hsame (z2o _ _ _) (z2p _ _ _) (Nat.le_refl _))
       rw[hlt]; exact .int _ _
  ·exact absurd hr hrb
 ·exact absurd hr hrb
theorem clr_sim {A:Array TypeId} {T t el:TypeId} {n:Nat} {zero vx:AV} {x:Value} {W:List Lo} {r:R}
  (h0:A[0]?=some t) (ht:P.underlying t=some (.slice el)) (hz:z7a P el=some (n,zero))
  (hx:VR κ vx x) (hst:St κ e B w₀ w) (hin:In κ e fid fr.cnt) (hr:r=clrV n zero W d fr e vx) (hrb:r≠.bad) :
  ∃ val w',(Builtin.clear_ A T #[x]).run P w=.ok val w'∧z1w W e κ fid B w₀ fr d r val w':=by
 obtain⟨it,zv,hi,hsz,hzv,hc,hzl,hn⟩:=z3e hz κ
 have nothing:∀ b cp,x=.slice b 0 cp→r=.go (Fr.put d fr .undef) e→∃ val w',(Builtin.clear_ A T #[x]).run P w=.ok val w'∧z1w W e κ fid B w₀ fr d r val w':=by
  intro b cp hxe hre
  subst hxe hre
  refine⟨.tuple #[],w,?_,.put .undef (.refl _) (.refl _ _ _ _ _) hst hin⟩
  cases b<;>simp[Builtin.clear_,h0,run_underlying ht]
 unfold clrV at hr
 split at hr
 ·cases hx with
  | slnil=>exact nothing _ _ rfl hr
  | sle=>exact nothing _ _ rfl hr
  | sl=>exact nothing _ _ rfl hr
 ·rename_i l z0 sz off m ex
  cases hm:Nat.beq m 0 with
  | true =>
   rw[hm] at hr
   have:=z03.1 hm
   subst this
   cases hx with
   | hs=>exact nothing _ _ rfl hr
   | hsnil=>exact nothing _ _ rfl hr
  | false =>
   rw[hm] at hr
   simp only[cond_false] at hr
   have hm0:¬ m=0:=fun h=>by rw[z03.2 h] at hm; cases hm
   cases hg:e.get l with
   | none=>rw[hg] at hr; exact absurd hr hrb
   | cells=>rw[hg] at hr; exact absurd hr hrb
   | map=>rw[hg] at hr; exact absurd hr hrb
   | vec w' es =>
    rw[hg] at hr
    unfold clrO at hr
    cases hcc:(Nat.beq es.length sz && (Nat.beq w' n && free W l)) with
    | false=>simp only[hcc,cond_false] at hr; exact absurd hr hrb
    | true =>
     simp only[hcc,cond_true] at hr
     simp only[Bool.and_eq_true] at hcc
     have c1:=z03.1 hcc.1
     have c2:=z03.1 hcc.2.1
     subst c1 c2
     cases hx with
     | hsnil hv hz1=>exact absurd rfl hm0
     | hs hv hin' hs' hcap hz1 =>
      rename_i b c cp
      obtain⟨hrl,rfl⟩:=hst.rv l _ es b _ c hg hv
      have hb:=hst.blk b
      rw[hrl] at hb
      obtain⟨arr,t',e1,e2,e3,hrow⟩:=(hb z0 es c hg hv).row
      have hob:κ.ob l=none:=by
       cases ho:κ.ob l with
       | none=>rfl
       | some b' =>
        have h6:=hst.blk b'
        rw[hst.ro l b' ho] at h6
        simp only[BlkR,hg,ObR] at h6
      have hlb:B≤b∧b < w.heap.size:=⟨(hst.rl b (by rw[hrl]; simp)).1 (by rw[hrl]; simp),(hst.rl b (by rw[hrl]; simp)).2⟩
      have hnr:=zdj hc hzl hn m
      have hfit':off+m≤es.length:=hin'
      have hle:es.length * z0≤c * z0:=Nat.mul_le_mul_right _ e3
      have hfz:(off+m) * z0≤es.length * z0:=Nat.mul_le_mul_right _ hfit'
      rw[Nat.add_mul] at hfz
      have hnw:=hnr.1
      simp only[List.length_replicate] at hnw
      have hnw':(Builtin.zeroCells zv.cells m).size=m * z0:=by simpa using hnw
      have store:(storeCells (⟨b,off * z0,none⟩:Addr) (Builtin.zeroCells zv.cells m).toList).run P w=.ok () (w.setRow b (z1b arr.toList (off * z0) (Builtin.zeroCells zv.cells m).toList).toArray):=by
       have:=run_storeCells_at P b (off * z0) t' (Builtin.zeroCells zv.cells m).toList 0 arr w e1 (by omega) (fun u hu=>hnr.2.2 u hu)
       rw[z4p _ _ _ (by simp; omega)]
       simpa using this
      have hrun:(Builtin.clear_ A T #[.slice (some ⟨b,off * z0,none⟩) m cp]).run P w=.ok (.tuple #[]) (w.setRow b (z1b arr.toList (off * z0) (Builtin.zeroCells zv.cells m).toList).toArray):=by
       cases m with
       | zero=>exact absurd rfl hm0
       | succ m=>simp[Builtin.clear_,h0,run_underlying ht,zeroValue,typeInfo,hi,hzv,store]
      refine⟨_,_,hrun,?_⟩
      subst hr
      have hll:(es.take off++List.replicate m zero++es.drop (off+m)).length=es.length:=by simp; omega
      have hgs:(e.set l (.vec z0 (es.take off++List.replicate m zero++es.drop (off+m)))).get l=.vec z0 (es.take off++List.replicate m zero++es.drop (off+m)):=E.get_set_same _ _ _ (by rw[hg]; simp)
      have hrow2:RowR κ z0 (es.take off++List.replicate m zero++es.drop (off+m)) ((z1b arr.toList (off * z0) (Builtin.zeroCells zv.cells m).toList).take ((es.take off++List.replicate m zero++es.drop (off+m)).length * z0)):=by
       rw[hll,z6 _ _ _ _ (by omega) (by simp; omega)]
       have:=hrow.over (p:=off) hnr (by simpa using hfit')
       simpa using this
      have hs2:=hst.setVec (e':=e.set l (.vec z0 (es.take off++List.replicate m zero++es.drop (off+m)))) (w':=w.setRow b (z1b arr.toList (off * z0) (Builtin.zeroCells zv.cells m).toList).toArray) (l:=l) (es:=es.take off++List.replicate m zero++es.drop (off+m)) (b₀:=b) (z:=z0) (c:=c) hob (.inr hrl) (.inr (by rw[hll]; exact hv)) (fun m hm=>hst.vn l _ es m hg (by omega)) rfl rfl rfl (by simp) hlb.1 (by simp; exact hlb.2)
       (fun b' _ hb'=>setRow_other w b b' _ hb') (fun l' hl'=>E.get_set_ne _ _ _ _ (Ne.symm hl')) hgs (fun k hk=>by rw[E.live_set] at hk; exact hk)
       (by rw[setRow_heap w b arr _ t' (0,0) e1]; exact RowR.vec (by simp[z1c,e2]) (by omega) (by simpa using hrow2)) (fun arr' t2 f' hx=>by rw[e1] at hx; cases hx; exact⟨_,_,setRow_heap w b arr _ t' (0,0) e1⟩)
      have hsame:Same κ (κ.addVec l (es.take off++List.replicate m zero++es.drop (off+m)).length b z0 c):=by
       refine⟨rfl,?_,rfl,rfl⟩
       funext l' q
       simp only[K.addVec]
       split
       ·rename_i hc; obtain⟨rfl,rfl⟩:=hc; rw[hll]; exact hv.symm
       ·rfl
      exact .put .undef (K.le_addVec (.inr (by rw[hll]; exact hv))) (hsame.gr _ _) hs2 (hin.same hsame (z2o _ _ _) (z2p _ _ _) (Nat.le_refl _))
 ·exact absurd hr hrb
end
end Go.Abs
