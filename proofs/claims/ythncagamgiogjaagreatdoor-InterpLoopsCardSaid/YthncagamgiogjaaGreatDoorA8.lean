/- On the way to: InterpLoops returns true; its listed variables read as the text lays them. -/
import Derived.Test.YthncagamgiogjaaGreatDoorA7
import Derived.Laws.Append
import Derived.Laws.AppendOwn
import Derived.Lib.FrozenHead
set_option autoImplicit false
set_option linter.unusedSectionVars false
set_option linter.unusedSimpArgs false
set_option linter.unusedVariables false
namespace Go.Abs
open Go Go.RowKit
variable [Glob]
section
variable {P:Program} [hG:GOK P] {w:World}
theorem z4q {d:TypeDesc} (h:zbr d=true):(∃ e,d=.slice e)∨d=.string:=by
 cases d<;>first | exact .inl ⟨_,rfl⟩ | exact .inr rfl | (simp[zbr] at h; done)
theorem zak {A:Array TypeId} {T t u el:TypeId} {d:TypeDesc} {it:TypeInfo} {zv x:Value} {base:Option Addr} {sLen sCap n:Nat} {olds news:List Value}
  (h0:A[0]?=some t) (ht:P.underlying t=some (.slice el)) (h1:A[1]?=some u) (hd:P.underlying u=some d) (hnd:zbr d=true) (hi:P.info? el=some it) (hz:it.zero=some zv)
  (hn:∀ w,(Builtin.lenOf x).run P w=.ok n w) (hold:(Builtin.firstCells it.size sLen (.slice base sLen sCap)).run P w.drew=.ok olds.toArray w.drew) (hnew:(Builtin.firstCells it.size n x).run P w.drew=.ok news.toArray w.drew)
  (hgrow:sCap < sLen+n) (hb:(sLen+n) * it.bytes < big) (hb':sLen+n < big) :
  (Builtin.append_ A T #[.slice base sLen sCap,x]).run P w =
   .ok (.slice (some ⟨w.heap.size,0,none⟩) (sLen+n) (grownCap w (sLen+n) sCap el))
    (w.drew.alloc (.cells (olds.toArray++news.toArray++Builtin.zeroCells zv.cells (grownCap w (sLen+n) sCap el - (sLen+n))) el)):=by
 have hc1:¬ (sLen+n≤sCap):=by omega
 have h63':¬ (9223372036854775807 < ((sLen:Int)+(n:Int))):=by unfold big at hb'; omega
 have h48:Builtin.nextslicecap (sLen+n) sCap * it.bytes≤281474976710656:=growslice_fits hgrow (by unfold big at hb; omega)
 have h48':¬ (281474976710656 < Builtin.nextslicecap (sLen+n) sCap * it.bytes):=by omega
 rcases z4q hnd with⟨e',rfl⟩ | rfl<;>simp[Builtin.append_,h0,h1,run_underlying ht,run_underlying hd,sizeOf,typeInfo,zeroValue,hi,hz,hn,hc1,h63',h48',Question.forced,hold,hnew,newRow,grownCap,Array.append_assoc,-List.append_toArray]
theorem z4r {A:Array TypeId} {T t u el:TypeId} {d:TypeDesc} {it:TypeInfo} {x:Value} {a:Addr} {sLen sCap n:Nat} {news:List Value} {w':World}
  (h0:A[0]?=some t) (ht:P.underlying t=some (.slice el)) (h1:A[1]?=some u) (hd:P.underlying u=some d) (hnd:zbr d=true) (hi:P.info? el=some it)
  (hn:∀ w,(Builtin.lenOf x).run P w=.ok n w) (hnew:(Builtin.firstCells it.size n x).run P w=.ok news.toArray w) (hroom:sLen+n≤sCap) (hst:(storeCells (a.add (sLen * it.size)) news).run P w=.ok () w') :
  (Builtin.append_ A T #[.slice (some a) sLen sCap,x]).run P w=.ok (.slice (some a) (sLen+n) sCap) w':=by
 rcases z4q hnd with⟨e',rfl⟩ | rfl<;>simp[Builtin.append_,h0,h1,run_underlying ht,run_underlying hd,sizeOf,typeInfo,hi,hn,hroom,hnew,hst]
end
end Go.Abs
namespace Go.Abs
open Go Go.RowKit
variable [Glob]
section
variable {P:Program} [hG:GOK P] {κ:K} {e:E} {B fid:Nat} {w₀ w:World}
theorem z7f (b:List Nat) (i:Nat):(z0c b)[i]?=(b[i]?).map fun n=>AV.int .u8 (.ofNat n):=by
 induction b generalizing i with
 | nil=>simp[z0c]
 | cons c b ih =>
  cases i with
  | zero=>simp[z0c]
  | succ i=>simp[z0c,ih]
theorem byteVs_length (b:List Nat):(z0c b).length=b.length:=by
 induction b with
 | nil=>rfl
 | cons c b ih=>simp[z0c,ih]
theorem z60 {v:AV} {x:Value} {z:Nat} {xs:List AV} (hx:VR κ v x) (hst:St κ e B w₀ w) (h:elems e v=some (z,xs)) :
  ∃ us,RowR κ z xs us∧(∀ w',(Builtin.lenOf x).run P w'=.ok xs.length w')∧∀ w',w'.heap=w.heap→(Builtin.firstCells z xs.length x).run P w'=.ok us.toArray w':=by
 by_cases hs:∃ b,v=.str b
 ·obtain⟨b,rfl⟩:=hs
  simp only[elems,Option.some.injEq,Prod.mk.injEq] at h
  obtain⟨rfl,rfl⟩:=h
  cases hx with
  | str s =>
   have hl:(z0c (s.data.toList.map UInt8.toNat)).length=s.size:=by rw[byteVs_length]; simp
   refine⟨s.data.toList.map fun c=>Value.int .u8 c.toNat,⟨by rw[hl]; simp,fun i y hy=>?_,fun u hu=>?_⟩,fun w'=>?_,fun w' _=>?_⟩
   ·rw[z7f] at hy
    simp only[List.getElem?_map,Option.map_map,Option.map_eq_some_iff] at hy
    obtain⟨c,hc,rfl⟩:=hy
    refine⟨rfl,fun j y hy=>?_⟩
    cases j with
    | zero =>
     simp[AV.cells] at hy
     subst hy
     exact⟨.int .u8 c.toNat,by simp[hc],.int _ _⟩
    | succ j=>simp[AV.cells] at hy
   ·simp only[List.mem_map] at hu
    obtain⟨c,_,rfl⟩:=hu
    rfl
   ·rw[hl]; simp[Builtin.lenOf]
   ·rw[hl]
    have:s.extract 0 s.size=s:=by simp
    simp[Builtin.firstCells,this]
    apply Array.toList_inj.1
    simp
 ·have h':z15 e v=some (z,xs):=by cases v<;>first | exact h | exact absurd ⟨_,rfl⟩ hs
  rcases z9g hx hst h' with⟨a,rfl,rfl⟩ | ⟨b,o,cp,us,rfl,hrow,hcell⟩
  ·refine⟨[],⟨by simp,by simp,by simp⟩,fun w'=>by simp[Builtin.lenOf],fun w' _=>?_⟩
   cases a with
   | none=>simp[Builtin.firstCells]
   | some a=>simpa [Builtin.firstCells] using run_loadCells_list (P:=P) w' a [] (by simp)
  ·refine⟨us,hrow,fun w'=>by simp[Builtin.lenOf],fun w' hh=>?_⟩
   have:=run_loadCells_list (P:=P) w' ⟨b,o,none⟩ us (fun j u hj=>by rw[z1f]; have:=hcell j u hj; simpa only[World.cell?,hh] using this)
   rw[hrow.1] at this
   simp[Builtin.firstCells,this]
theorem RowR.append {z:Nat} {xs ys:List AV} {us vs:List Value} (h:RowR κ z xs us) (h':RowR κ z ys vs):RowR κ z (xs++ys) (us++vs):=by
 obtain⟨a1,a2,a3⟩:=h
 obtain⟨b1,b2,b3⟩:=h'
 refine⟨by simp[a1,b1,Nat.add_mul],fun i x hx=>?_,fun u hu=>?_⟩
 ·by_cases hi:i < xs.length
  ·rw[List.getElem?_append_left hi] at hx
   obtain⟨p,q⟩:=a2 i x hx
   refine⟨p,fun j y hy=>?_⟩
   obtain⟨u,c,d⟩:=q j y hy
   refine⟨u,?_,d⟩
   rw[List.getElem?_append_left (List.getElem?_eq_some_iff.1 c).1]
   exact c
  ·rw[List.getElem?_append_right (by omega)] at hx
   obtain⟨p,q⟩:=b2 _ x hx
   refine⟨p,fun j y hy=>?_⟩
   obtain⟨u,c,d⟩:=q j y hy
   have he:i * z=us.length+(i - xs.length) * z:=by rw[a1,← Nat.add_mul]; congr 1; omega
   refine⟨u,?_,d⟩
   rw[List.getElem?_append_right (by omega)]
   have:i * z+j - us.length=(i - xs.length) * z+j:=by omega
   rw[this]; exact c
 ·rcases List.mem_append.1 hu with hu | hu
  ·exact a3 u hu
  ·exact b3 u hu
end
end Go.Abs
namespace Go.Abs
open Go Go.RowKit
variable [Glob]
section
variable {P:Program} [hG:GOK P] {κ:K} {e:E} {B fid:Nat} {w₀ w:World}
theorem zh3 {W:List Lo} {e₂:E} {k z b o cp cnt:Nat} {xs ys:List AV} {vs:List Value} (hst:St κ e B w₀ w) (hin:In κ e fid cnt) (hc:cnt < cap) (hk:2≤k) (hlive:e.live k=true) (hx:VR κ (.sl k z xs) (.slice (some ⟨b,o,none⟩) xs.length cp)) (htk:κ.tk k=some (b,o+xs.length * z,o+cp * z))
  (hpar:z0k fid cnt % 2=k % 2) (hrow:RowR κ z ys vs) (hroom:xs.length+ys.length≤cp) (hl:∀ j,e₂.live j=true→e.live j=true∧j≠k) (hg:∀ l,e₂.get l=e.get l) (hs:shp e₂=shp e) (hgl:e₂.glo.length=e.glo.length) :
  ∃ κ' w',(storeCells ((⟨b,o,none⟩:Addr).add (xs.length * z)) vs).run P w=.ok () w'∧VR κ' (.sl (z0k fid cnt) z (xs++ys)) (.slice (some ⟨b,o,none⟩) (xs.length+ys.length) cp)∧κ.le κ'∧Gr W e κ κ' fid (e₂.born (z0k fid cnt)).glo.length ∧
   St κ' (e₂.born (z0k fid cnt)) B w₀ w'∧In κ' (e₂.born (z0k fid cnt)) fid (cnt+1):=by
 have hr:=hst.rt k b _ _ hlive htk
 have hb:=hst.blk b
 rw[hr] at hb
 obtain⟨arr,t,f,e1,e2,e3⟩:=hb
 obtain⟨p1,p2,p3⟩:=e3 k _ _ hlive htk
 have hvl:vs.length=ys.length * z:=hrow.1
 have hfit:o+xs.length * z+vs.length≤arr.size:=by
  have:(xs.length+ys.length) * z≤cp * z:=Nat.mul_le_mul_right _ hroom
  rw[Nat.add_mul] at this
  omega
 have hrun:=run_storeCells_atF P b (o+xs.length * z) t f vs 0 arr w e1 (by omega) (by omega) (fun u hu=>hrow.2.2 u hu)
 have hout:∀ i,o+xs.length * z≤i→κ.fz b i=none:=p1
 obtain⟨htk',hgr,hin'⟩:=hin.born (κ':=(κ.addVal b (fun i=>if o+xs.length * z≤i∧i < o+xs.length * z+vs.length then vs[i - (o+xs.length * z)]? else κ.fz b i)).addTk (z0k fid cnt) (b,o+(xs++ys).length * z,o+cp * z)) (e':=e₂.born (z0k fid cnt)) hc
  (fun l h=>h) (fun j hj=>by simp[K.addTk,K.addVal,hj]) (by rw[zbv]; exact hs) (by rw[zbw]; exact hgl)
 have hgf:∀ i u,κ.fz b i=some u→(if o+xs.length * z≤i∧i < o+xs.length * z+vs.length then vs[i - (o+xs.length * z)]? else κ.fz b i)=some u:=by
  intro i u h
  split
  ·rename_i hi; rw[hout i hi.1] at h; cases h
  ·exact h
 have hkle:=(K.le_addVal hgf).trans (K.le_addTk (κ:=κ.addVal b (fun i=>if o+xs.length * z≤i∧i < o+xs.length * z+vs.length then vs[i - (o+xs.length * z)]? else κ.fz b i)) (x:=(b,o+(xs++ys).length * z,o+cp * z)) htk')
 have hlb:B≤b∧b < w.heap.size:=⟨hst.tb _ _ _ _ htk,(hst.rl b (by rw[hr]; simp)).2⟩
 have hnl:(xs++ys).length * z=xs.length * z+vs.length:=by rw[List.length_append,Nat.add_mul,hvl]
 have hcz:xs.length * z+vs.length≤cp * z:=by rw[← hnl,List.length_append]; exact Nat.mul_le_mul_right _ hroom
 have hst':=hst.setVal (e':=e₂.born (z0k fid cnt)) (w':=w.setRow b (z1b arr.toList (o+xs.length * z) vs).toArray) (b₀:=b) (k₀:=z0k fid cnt) (i₀:=o+(xs++ys).length * z) (c₀:=o+cp * z) (.inr (.inl hr)) htk' hgf rfl rfl rfl (by simp) hlb.1 (by simp; exact hlb.2)
  (fun b' _ hb'=>setRow_other w b b' _ hb') (fun l=>.inl (by rw[E.get_born]; exact hg l)) (fun j hj=>by
   rcases E.live_born.1 hj with h | h
   ·obtain⟨h1,h2⟩:=hl j h
    exact .inl ⟨h1,fun i c' ht=>h2 (hst.td j k b _ _ _ _ h1 hlive ht htk)⟩
   ·exact .inr h)
  ⟨_,t,f,setRow_heap w b arr _ t f e1,fun i u hu=>by
   have:(z1b arr.toList (o+xs.length * z) vs)[i]?=some u:=by
    rw[z1v _ _ _ _ (by simpa using hfit)]
    split at hu
    ·rename_i hi; rw[if_pos hi]; exact hu
    ·rename_i hi; rw[if_neg hi]; simpa using e2 i u hu
   simpa using this,fun j hj=>by rw[if_neg (by omega)]; exact hout j (by omega),by simp[z1c]; exact p2,by omega⟩
  (fun arr' t2 f' hx=>by rw[e1] at hx; cases hx; exact⟨_,_,setRow_heap w b arr _ t f e1⟩)
  (fun h1=>by
   obtain⟨arr',t2,f',h2,h3⟩:=hst.tu k b _ _ (by omega) htk
   rw[e1] at h2; cases h2
   exact⟨_,t,f,setRow_heap w b arr _ t f e1,h3⟩)
 refine⟨_,_,?_,?_,hkle,hgr,hst',hin'⟩
 ·rw[z1f,z4p _ _ _ (by simpa using hfit)]
  simpa using hrun
 ·generalize hy:Value.slice (some ⟨b,o,none⟩) xs.length cp=y at hx
  cases hx with
  | slnil=>cases hy
  | sle a hz1 =>
   cases hy
   obtain rfl:ys=[]:=by simpa using hroom
   simpa using VR.sle _ hz1
  | sl g₀ hcap hz hf hgv h1 hk1 hk2 hz1 =>
   cases hy
   have key:∀ (i:Nat) (x:AV) (j:Nat) (c:AV),(xs++ys)[i]?=some x→x.cells[j]?=some c→(i < xs.length∧xs[i]?=some x)∨(¬ i < xs.length∧ys[i - xs.length]?=some x):=by
    intro i x j c hx _
    by_cases hi:i < xs.length
    ·rw[List.getElem?_append_left hi] at hx; exact .inl ⟨hi,hx⟩
    ·rw[List.getElem?_append_right (by omega)] at hx; exact .inr ⟨hi,hx⟩
   have hlen:xs.length+ys.length=(xs++ys).length:=by simp
   rw[hlen]
   refine .sl (fun i j=>if i < xs.length then g₀ i j else (vs[(i - xs.length) * z+j]?).getD (.bool true)) (by rw[← hlen]; exact hroom) (fun i x hx=>?_) (fun i x j c hx hc=>?_) (fun i x j c hx hc=>?_) (fun i j=>?_) (fun h=>?_) (fun _=>?_) hz1
   ·by_cases hi:i < xs.length
    ·rw[List.getElem?_append_left hi] at hx; exact hz i x hx
    ·rw[List.getElem?_append_right (by omega)] at hx; exact(hrow.2.1 _ x hx).1
   ·rcases key i x j c hx hc with⟨hi,hx'⟩ | ⟨hi,hx'⟩
    ·simp only[hi,if_true]
     exact hkle.fz (hf i x j c hx' hc)
    ·simp only[hi,if_false]
     obtain⟨u,a,_⟩:=(hrow.2.1 _ x hx').2 j c hc
     have hlt:=(List.getElem?_eq_some_iff.1 a).1
     have he:o+i * z+j=o+xs.length * z+((i - xs.length) * z+j):=by
      have:i * z=xs.length * z+(i - xs.length) * z:=by rw[← Nat.add_mul]; congr 1; omega
      omega
     simp only[K.addTk,K.addVal,if_true]
     rw[if_pos (by omega),a]
     have:o+i * z+j - (o+xs.length * z)=(i - xs.length) * z+j:=by omega
     rw[this]; exact a
   ·rcases key i x j c hx hc with⟨hi,hx'⟩ | ⟨hi,hx'⟩
    ·simp only[hi,if_true]
     exact(hgv i x j c hx' hc).mono hkle
    ·simp only[hi,if_false]
     obtain⟨u,a,v⟩:=(hrow.2.1 _ x hx').2 j c hc
     rw[a]; exact v.mono hkle
   ·by_cases hi:i < xs.length
    ·simp only[hi,if_true]; exact h1 i j
    ·simp only[hi,if_false]
     cases hu:vs[(i - xs.length) * z+j]? with
     | none=>rfl
     | some u=>exact hrow.2.2 u (List.mem_of_getElem? hu)
   ·have:=z2a fid cnt; omega
   ·simp[K.addTk]
end
end Go.Abs
namespace Go.Abs
open Go Go.RowKit
variable [Glob]
section
variable {P:Program} [hG:GOK P] {κ:K} {e:E} {B fid:Nat} {w₀ w:World} {fr:Fr} {d:Option Pth}
theorem zc5 (b8:Bool) (fid cnt:Nat):z0k fid (tick b8 cnt) % 2=cond b8 1 0:=by
 unfold tick
 cases h:Nat.beq (cnt % 2) (cond b8 1 0) with
 | true =>
  have:=z03.1 h
  simp only[z0k,base,cond_true]
  cases b8<;>simp at this ⊢<;>omega
 | false =>
  have:¬ cnt % 2=cond b8 1 0:=fun h'=>by rw[z03.2 h'] at h; cases h
  simp only[z0k,base,cond_false]
  cases b8<;>simp at this ⊢<;>omega
theorem z1w.ticket {W:List Lo} {b8:Bool} {e₂:E} {κ':K} {z:Nat} {xs:List AV} {val:Value} {w':World} (hroom:room (tick b8 fr.cnt)=true) (hv:VR κ' (.sl (z0k fid (tick b8 fr.cnt)) z xs) val) (hle:κ.le κ') (hg:Gr W e κ κ' fid (e₂.born (z0k fid (tick b8 fr.cnt))).glo.length)
  (hst:St κ' (e₂.born (z0k fid (tick b8 fr.cnt))) B w₀ w') (hin:In κ' (e₂.born (z0k fid (tick b8 fr.cnt))) fid (tick b8 fr.cnt+1)) :
  z1w W e κ fid B w₀ fr d (Abs.ticket b8 fid e₂ (fun k'=>putK d (.sl k' z xs)) fr) val w':=by
 obtain⟨s,cnt⟩:=fr
 simp only[Abs.ticket,z1x,hroom,cond_true,putK]
 exact⟨κ',_,_,_,rfl,zd4 d _ _,hv,hle,hg,hst,by rw[z4n]; exact hin⟩
theorem In.taken {κ κ':K} {e e':E} {cnt:Nat} (h:In κ e fid cnt) (hκ:∀ l,z0a κ l→z0a κ' l) (htk:κ'.tk=κ.tk) (hs:shp e'=shp e) (hg:e'.glo.length=e.glo.length):In κ' e' fid cnt where
 top:=by rw[z1q hs]; exact h.top
 fut:=fun c x h1 h2 h3=>by rw[z1q hs]; exact h.fut c x h1 h2 h3
 free:=fun c h1 h2=>⟨fun x hx a i=>hκ _ ((h.free c h1 h2).names x hx a i),fun x hx d hd=>by rw[htk]; exact(h.free c h1 h2).tks x hx d hd⟩
 own:=fun c h1 h2=>by rw[htk]; exact h.own c h1 h2
 objs:=fun a i hi j hj=>hκ _ (h.objs a i (by simpa [z6t,hs] using hi) j hj)
 glo:=fun i hi=>hκ _ (h.glo i (by omega))
theorem z0a.addVec {l l':Lo} {n b z c:Nat} (h:z0a κ l') (hn:l'≠l):z0a (κ.addVec l n b z c) l':=by
 obtain⟨h1,h2,h3⟩:=h
 exact⟨h1,fun m=>by simp[K.addVec,hn,h2],h3⟩
theorem z61 {W:List Lo} {a z c:Nat} {g:Bool} {l:Lo} {e₁:E} {es:List AV} {arr:Array Value} {t:TypeId} (hst:St κ e B w₀ w) (hin:In κ e fid fr.cnt) (hn:newAt e W a g (.vec z es)=some (l,e₁))
  (hsz:arr.size=c * z) (hc:es.length≤c) (hrow:RowR κ z es (arr.toList.take (es.length * z))) (ex:Bool) (hex:ex=true→c=es.length) (hz1:1≤z) :
  z1w W e κ fid B w₀ fr d (.go (Fr.put d fr (.hs l z es.length 0 es.length ex)) e₁) (.slice (some ⟨w.heap.size,0,none⟩) es.length c) (w.alloc (.cells arr t)):=by
 obtain⟨h1,h2,h3⟩:=hin.newAt (κ':=κ.addVec l es.length w.heap.size z c) hn (fun l' hl' hf=>hf.addVec hl') rfl
 have hsp:=z2q hn
 have hle:=K.le_addVec (κ:=κ) (l:=l) (n:=es.length) (b:=w.heap.size) (z:=z) (c:=c) (.inl (h1.2.1 _))
 have hs:=(hst.newAt hn h1).setVec (e':=e₁) (w':=w.alloc (.cells arr t)) (es:=es) (b₀:=w.heap.size) (z:=z) (c:=c) h1.1 (.inl hst.new_role) (.inl (h1.2.1 _)) (fun n _=>h1.2.1 n) rfl rfl rfl (by simp) hst.size (by simp)
  (fun b hb _=>z28 hb) (fun _ _=>rfl) hsp.2.2.1 (fun _ hk=>hk)
  (by rw[heap_alloc_new]; exact RowR.vec hsz hc hrow) (fun arr' t2 f' hx=>by simp at hx)
 refine .put ?_ hle h2 hs h3
 have:VR (κ.addVec l es.length w.heap.size z c) (.hs l z es.length 0 es.length ex) (.slice (some ⟨w.heap.size,0 * z,none⟩) es.length c):=by
  refine .hs (c:=c) (by simp[K.addVec]) (by omega) hc ?_ hz1
  cases ex
  ·simp
  ·simp[hex rfl]
 simpa using this
theorem zes {k z0 z:Nat} {xs:List AV} {x:Value} (hx:VR κ (.sl k z0 xs) x) (hst:St κ e B w₀ w) (hz:xs=[]∨z0=z) :
  ∃ base cp us,x=.slice base xs.length cp∧xs.length≤cp∧RowR κ z xs us∧(∀ w',w'.heap=w.heap→(Builtin.firstCells z xs.length x).run P w'=.ok us.toArray w')∧(k=1→cp=xs.length) ∧
   (2≤k→cp=0∨∃ b o,base=some ⟨b,o,none⟩∧κ.tk k=some (b,o+xs.length * z0,o+cp * z0)):=by
 have key:∃ us,RowR κ z xs us∧∀ w',w'.heap=w.heap→(Builtin.firstCells z xs.length x).run P w'=.ok us.toArray w':=by
  by_cases hxs:xs=[]
  ·subst hxs
   refine⟨[],⟨by simp,by simp,by simp⟩,fun w' _=>?_⟩
   cases hx with
   | slnil=>simp[Builtin.firstCells]
   | sle a=>simpa [Builtin.firstCells] using run_loadCells_list (P:=P) w' a [] (by simp)
   | sl =>
    have:=fun b o=>run_loadCells_list (P:=P) w' ⟨b,o,none⟩ [] (by simp)
    simp only[List.length_nil] at this
    simp[Builtin.firstCells,this]
  ·have:=hz.resolve_left hxs
   subst this
   obtain⟨us,h1,_,h2⟩:=z60 (P:=P) (v:=.sl k z0 xs) hx hst rfl
   exact⟨us,h1,h2⟩
 obtain⟨us,h1,h2⟩:=key
 cases hx with
 | slnil=>exact⟨none,0,us,rfl,Nat.le_refl _,h1,h2,fun _=>rfl,fun _=>.inl rfl⟩
 | sle a=>exact⟨some a,0,us,rfl,Nat.le_refl _,h1,h2,fun _=>rfl,fun _=>.inl rfl⟩
 | sl g hcap hz hf hg h1' hk1 hk hz1=>exact⟨_,_,us,rfl,hcap,h1,h2,hk1,fun h=>.inr ⟨_,_,rfl,hk h⟩⟩
theorem z41 {A:Array TypeId} {T t u el:TypeId} {dd:TypeDesc} {it:TypeInfo} {zv x:Value} {base:Option Addr} {sLen sCap n:Nat} {olds news:List Value} {zero:AV}
  (h0:A[0]?=some t) (ht:P.underlying t=some (.slice el)) (h1:A[1]?=some u) (hd:P.underlying u=some dd) (hnd:zbr dd=true) (hi:P.info? el=some it) (hz:it.zero=some zv) (hzc:VRs κ zero.cells zv.cells.toList) (hzl:zero.cells.length=it.size)
  (hn:∀ w,(Builtin.lenOf x).run P w=.ok n w) (hold:(Builtin.firstCells it.size sLen (.slice base sLen sCap)).run P w.drew=.ok olds.toArray w.drew) (hnew:(Builtin.firstCells it.size n x).run P w.drew=.ok news.toArray w.drew)
  (hgrow:sCap < sLen+n) (hb:(sLen+n) * it.bytes < big) (hb':sLen+n < big) (hol:olds.length+news.length=(sLen+n) * it.size) :
  ∃ c arr,(Builtin.append_ A T #[.slice base sLen sCap,x]).run P w=.ok (.slice (some ⟨w.heap.size,0,none⟩) (sLen+n) c) (w.drew.alloc (.cells arr el)) ∧
   sLen+n≤c∧arr.size=c * it.size∧arr.toList.take ((sLen+n) * it.size)=olds++news:=by
 have hge:=grownCap_ge w (sLen+n) sCap el
 have hzs:zv.cells.size=it.size:=by have:=hzc.1; simp at this; omega
 refine⟨_,_,zak h0 ht h1 hd hnd hi hz hn hold hnew hgrow hb hb',hge,?_,?_⟩
 ·simp only[Array.size_append,List.size_toArray,size_zeroCells,hzs,hol,← Nat.add_mul]
  congr 1; omega
 ·simp only[Array.toList_append]
  rw[List.take_append_of_le_length (by simp[hol]),List.take_of_length_le (by simp[hol])]
theorem ziz {A:Array TypeId} {T t u el:TypeId} {dd:TypeDesc} {it:TypeInfo} {zv x y:Value} {zero:AV} {W:List Lo} {a kind k z0:Nat} {xs new:List AV} {news:List Value} {r:R} {b8:Bool} (hs1:1≤it.size) (h8:b8=true→Glob.u8 el)
  (h0:A[0]?=some t) (ht:P.underlying t=some (.slice el)) (h1:A[1]?=some u) (hd:P.underlying u=some dd) (hnd:zbr dd=true) (hi:P.info? el=some it) (hz:it.zero=some zv) (hzc:VRs κ zero.cells zv.cells.toList) (hzl:zero.cells.length=it.size)
  (hx:VR κ (.sl k z0 xs) x) (hst:St κ e B w₀ w) (hin:In κ e fid fr.cnt)
  (hnr:RowR κ it.size new news) (hn:∀ w,(Builtin.lenOf y).run P w=.ok new.length w) (hnew:∀ w',w'.heap=w.heap→(Builtin.firstCells it.size new.length y).run P w'=.ok news.toArray w') (hne:new≠[])
  (hz0:(xs=[]∧k=1)∨z0=it.size) (hb:(xs.length+new.length) * it.bytes < big) (hb':xs.length+new.length < big)
  (hr:r=z8d b8 fid W a kind it.size new d fr e k xs) (hrb:r≠.bad) :
  ∃ val w',(Builtin.append_ A T #[x,y]).run P w=.ok val w'∧z1w W e κ fid B w₀ fr d r val w':=by
 have hnl:1≤new.length:=by cases new with | nil=>exact absurd rfl hne | cons=>simp
 have hz1:xs=[]∨z0=it.size:=hz0.imp And.left id
 obtain⟨base,cp,us,rfl,hcp,hrow,hold,hk1,hk2⟩:=zes (P:=P) hx hst hz1
 have hxn:(xs++new).length=xs.length+new.length:=by simp
 -- it finds no room
 have grow:cp < xs.length+new.length→∃ c arr,(Builtin.append_ A T #[.slice base xs.length cp,y]).run P w=.ok (.slice (some ⟨w.heap.size,0,none⟩) (xs++new).length c) (w.drew.alloc (.cells arr el)) ∧
   (xs++new).length≤c∧arr.size=c * it.size∧RowR κ it.size (xs++new) (arr.toList.take ((xs++new).length * it.size)):=by
  intro hg
  obtain⟨c,arr,p1,p2,p3,p4⟩:=z41 (T:=T) h0 ht h1 hd hnd hi hz hzc hzl hn (hold _ rfl) (hnew _ rfl) hg hb hb' (by rw[hrow.1,hnr.1,Nat.add_mul])
  refine⟨c,arr,by rw[hxn]; exact p1,by rw[hxn]; exact p2,p3,?_⟩
  rw[hxn,p4]
  exact hrow.append hnr
 have hin':=hin.weaken (zem b8 fr.cnt)
 have hpar:z0k fid (tick b8 fr.cnt) % 2=1→Glob.u8 el:=fun h=>h8 (by rw[zc5] at h; cases b8<;>simp at h ⊢)
 unfold z8d at hr
 cases hkind:Nat.beq kind 0 with
 | false =>
  simp only[hkind,cond_false] at hr
  cases hk:Nat.beq k 1 with
  | false=>simp only[hk,cond_false] at hr; exact absurd hr hrb
  | true =>
   simp only[hk,cond_true] at hr
   have hc:=hk1 (z03.1 hk)
   obtain⟨c,arr,p1,p2,p3,p4⟩:=grow (by omega)
   cases hna:newAt e W a (Nat.beq kind 2) (.vec it.size (xs++new)) with
   | none=>rw[hna] at hr; exact absurd hr hrb
   | some p =>
    obtain⟨l,e₁⟩:=p
    rw[hna] at hr
    subst hr
    refine⟨_,_,p1,?_⟩
    have:=z61 (B:=B) (w₀:=w₀) (w:=w.drew) (fr:=fr) (d:=d) (t:=el) hst.drew hin hna p3 p2 p4 false (by simp) hs1
    rw[hxn] at this ⊢
    exact this
 | true =>
  simp only[hkind,cond_true] at hr
  cases hk:Nat.beq k 1 with
  | true =>
   simp only[hk,cond_true] at hr
   have hc:=hk1 (z03.1 hk)
   obtain⟨c,arr,p1,p2,p3,p4⟩:=grow (by omega)
   have hroom:room (tick b8 fr.cnt)=true:=by
    cases h:room (tick b8 fr.cnt) with
    | true=>rfl
    | false=>obtain⟨s,cnt⟩:=fr; simp only[Abs.ticket,z1x] at hr; rw[h] at hr; exact absurd hr hrb
   obtain⟨κ',q1,q2,q3,q4,q5⟩:=z9i (e₂:=e) (w:=w.drew) (t:=el) (c:=c) hst.drew hin' hs1 hpar (z1k.1 hroom) (fun _ h=>h) (fun _=>rfl) rfl rfl p4 p2 p3
   subst hr
   exact⟨_,_,p1,.ticket hroom q1 q2 q3 q4 q5⟩
  | false =>
   simp only[hk,cond_false] at hr
   cases hk2':Nat.ble 2 k && (Nat.beq (k % 2) (cond b8 1 0) && e.live k) with
   | false=>simp only[hk2',cond_false] at hr; exact absurd hr hrb
   | true =>
    simp only[hk2',cond_true] at hr
    simp only[Bool.and_eq_true] at hk2'
    have hk2'':2≤k:=Nat.le_of_ble_eq_true hk2'.1
    have hkp:z0k fid (tick b8 fr.cnt) % 2=k % 2:=by rw[zc5,z03.1 hk2'.2.1]
    have hz2:z0=it.size:=by
     rcases hz0 with⟨_,h⟩ | h
     ·omega
     ·exact h
    subst hz2
    have hroom:room (tick b8 fr.cnt)=true:=by
     cases h:room (tick b8 fr.cnt) with
     | true=>rfl
     | false=>obtain⟨s,cnt⟩:=fr; simp only[Abs.ticket,z1x] at hr; rw[h] at hr; exact absurd hr hrb
    by_cases hroom':cp < xs.length+new.length
    ·obtain⟨c,arr,p1,p2,p3,p4⟩:=grow hroom'
     obtain⟨κ',q1,q2,q3,q4,q5⟩:=z9i (e₂:=e.kill k) (w:=w.drew) (t:=el) (c:=c) hst.drew hin' hs1 hpar (z1k.1 hroom) (fun _ h=>(E.live_kill.1 h).1) (fun _=>E.get_kill _ _ _) (z8l _ _) rfl p4 p2 p3
     subst hr
     exact⟨_,_,p1,.ticket hroom q1 q2 q3 q4 q5⟩
    ·rcases hk2 hk2'' with h | ⟨b,o,rfl,htk⟩
     ·omega
     ·obtain⟨κ',w',q0,q1,q2,q3,q4,q5⟩:=zh3 (P:=P) (e₂:=e.kill k) hst hin' (z1k.1 hroom) hk2'' hk2'.2.2 hx htk hkp hnr (by omega) (fun _ h=>E.live_kill.1 h) (fun _=>E.get_kill _ _ _) (z8l _ _) rfl
      subst hr
      refine⟨_,_,z4r h0 ht h1 hd hnd hi hn (hnew _ rfl) (by omega) q0,.ticket hroom ?_ q2 q3 q4 q5⟩
      exact q1
end
end Go.Abs
