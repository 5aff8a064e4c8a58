/- On the way to: InterpLoops returns true; its listed variables read as the text lays them. -/
import Derived.Test.YthncagamgiogjaaGreatDoorB3
import Derived.ChangeArms
import Derived.Carry
import GoSem.ClaimJoined
import Derived.Test.YthncagamgiogjaaGreatDoorB4
import Derived.Test.YthncagamgiogjaaGreatDoorA3
import Derived.Lib.LaidTab
import Derived.Lib.ItoaNum
import Derived.Sort.Grow
import Derived.Deep.Draws
set_option autoImplicit false
set_option linter.unusedSectionVars false
set_option linter.unusedSimpArgs false
set_option linter.unusedVariables false
namespace Go.Abs
open Go Go.RowKit
def gsW (w:World) (b:Nat):Option (List Value):=match w.heap[b]? with | some (.cells arr _ _)=>some arr.toList | _=>none
theorem gsW_ok {w:World} {g:Nat} {us:List Value} (h:gsW w g=some us):∃ arr t f,w.heap[g]?=some (.cells arr t f)∧arr.toList=us:=by
 unfold gsW at h
 split at h
 ·next arr t f he=>cases h; exact⟨arr,t,f,he,rfl⟩
 ·cases h
abbrev KW (w:World):K:=K0 (gsW w)
theorem zk2 {w:World} {g:Nat} {arr:Array Value} {t:TypeId} {f:Nat × Nat} (h:w.heap[g]?=some (.cells arr t f)):gsW w g=some arr.toList:=by
 unfold gsW; rw[h]
theorem fzW {w:World} {b o:Nat} {u:Value} (h:w.cell? ⟨b,o,none⟩=some u):(KW w).fz b o=some u:=by
 unfold World.cell? at h
 split at h
 ·next c t f he =>
  simp only[Option.isSome_none,Bool.false_eq_true,if_false] at h
  show ((gsW w b).bind fun l=>l[o]?)=some u
  rw[zk2 he]
  simpa using h
 ·cases h
section
variable [Glob] {H:Type} {enc:TypeId × Value→H} {P:Program} {w:World}
def Rd (enc:TypeId × Value→H) (P:Program) (w:World) (t:TypeId) (Q:AV→Prop) (n:Nat):Prop :=
 ∀ fuel,fuel≤n→∀ cs x,DataW.trod enc P w 0 (fun _=>true) true fuel t cs=some x→(∀ m∈x.1.weights P t,m≤reachBytes)→∃ a,Q a∧VRs (KW w) a.cells cs
theorem z69 {t:TypeId} {d:DataW H} {m:Nat} (hm:m∈d.weights P t):∀ {l:List (DataW H)},d∈l→m∈DataW.weightsAll P t l
 | e::r,h=>by
  unfold DataW.weightsAll
  rcases List.mem_cons.1 h with rfl | h
  ·exact List.mem_append_left _ hm
  ·exact List.mem_append_right _ (z69 hm h)
theorem z5m {t:TypeId} {d:DataW H} {m:Nat} (hm:m∈d.weights P t):∀ {ts:List TypeId} {l:List (DataW H)} {i:Nat},ts[i]?=some t→l[i]?=some d→m∈DataW.weightsEach P ts l
 | t'::ts,e::r,i,h,h'=>by
  unfold DataW.weightsEach
  cases i with
  | zero=>simp at h h'; subst h h'; exact List.mem_append_left _ hm
  | succ i=>exact List.mem_append_right _ (z5m hm (i:=i) (by simpa using h) (by simpa using h'))
 | [],_,_,h,_=>by simp at h
 | _::_,[],_,_,h'=>by simp at h'
theorem VRs.one {κ:K} {a:AV} {u:Value} (h:VR κ a u) (h1:u.oneCell'=true):VRs κ a.cells [u]:=by
 rw[h.cells1 h1]
 refine⟨rfl,fun i c v hc hv=>?_,fun i v hv=>?_⟩
 ·cases i with
  | zero=>simp at hc hv; subst hc; subst hv; exact h
  | succ i=>simp at hc
 ·cases i with
  | zero=>simp at hv; subst hv; exact h1
  | succ i=>simp at hv
theorem Rd.mono {t:TypeId} {Q Q':AV→Prop} {n m:Nat} (h:Rd enc P w t Q n) (hm:m≤n) (hQ:∀ a,Q a→Q' a):Rd enc P w t Q' m:=fun fuel hf cs x hx hw=>by
 obtain⟨a,h1,h2⟩:=h fuel (by omega) cs x hx hw
 exact⟨a,hQ a h1,h2⟩
theorem Rd.int {t:TypeId} {k:IntKind} {n:Nat} (ht:P.underlying t=some (.int k)):Rd enc P w t (fun a=>∃ m,a=.int k m∧(Lit.int k m).wf=true) n:=fun fuel _ cs x hx _=>by
 obtain⟨m,rfl,_,h⟩:=DataW.trod_int ht hx
 exact⟨_,⟨m,rfl,h⟩,.one (.int k m) rfl⟩
theorem Rd.bool {t:TypeId} {n:Nat} (ht:P.underlying t=some .bool):Rd enc P w t (fun a=>∃ b,a=.bool b) n:=fun fuel _ cs x hx _=>by
 obtain⟨b,rfl,_⟩:=DataW.trod_bool ht hx
 exact⟨_,⟨b,rfl⟩,.one (.bool b) rfl⟩
def TextV (a:AV):Prop:=∃ s:List Nat,a=.str s∧s.length≤reachBytes∧∀ b∈s,b < 256
theorem Rd.str {t:TypeId} {n:Nat} (ht:P.underlying t=some .string):Rd enc P w t TextV n:=fun fuel _ cs x hx hw=>by
 obtain⟨s,rfl,rfl,h⟩:=DataW.trod_string ht hx
 refine⟨_,⟨_,rfl,?_,?_⟩,.one (.str s) rfl⟩
 ·simp only[List.length_map]
  exact hw _ (by simp[DataW.weights])
 ·intro b hb
  obtain⟨c,_,rfl⟩:=List.mem_map.1 hb
  exact c.toNat_lt
def zdw (z:Nat) (Q:AV→Prop) (a:AV):Prop:=∃ (z':Nat) (xs:List AV),a=.sl 0 z' xs∧(z'=z∨z'=0∧xs=[])∧xs.length≤reachBytes∧∀ x∈xs,Q x
theorem zbd {base:Nat} {a:Addr} {n:Nat} {cs:List Value} (h:w.cells? base a n=some cs):cs.length=n∧∀ i,i < n→w.cell? (a.add i)=cs[i]?:=by
 unfold World.cells? at h
 split at h
 ·refine⟨by simpa using mapM_some_length h,fun i hi=>?_⟩
  have:=mapM_some_get h i i (by simp[hi])
  exact this
 ·cases h
theorem Rd.slice {t e:TypeId} {z n:Nat} {Q:AV→Prop} (ht:P.underlying t=some (.slice e)) (hz:P.cellsOf e=z) (hz1:1≤z) (hbe:1≤P.bytesOf e) (h:∀ m,n=m+1→Rd enc P w e Q m):Rd enc P w t (zdw z Q) n:=fun fuel hf cs x hx hw=>by
 rcases DataW.trod_slice ht hx with⟨rfl,_⟩ | ⟨a,len,cap,elems,rest,m,rfl,rfl,rfl,_,hle,hcap,hlen,h1,h2,_⟩
 ·exact⟨.sl 0 0 [],⟨0,[],rfl,.inr ⟨rfl,rfl⟩,by simp,by simp⟩,.one (.slnil 0) rfl⟩
 ·obtain⟨n,rfl⟩:∃ k,n=k+1:=⟨n - 1,by omega⟩
  have hRd:=h n rfl
  have hwl:elems.length≤reachBytes:=by
   have:=hw ((elems.length+rest.length) * P.bytesOf e) (by unfold DataW.weights; rw[ht]; simp)
   have h2:elems.length * 1≤(elems.length+rest.length) * P.bytesOf e:=Nat.mul_le_mul (by omega) hbe
   omega
  have hwe:∀ (i:Nat) (y:DataW H × List MemPlace),elems[i]?=some y→∀ m∈y.1.weights P e,m≤reachBytes:=fun i y hy m hm =>
   hw m (by
    unfold DataW.weights
    rw[ht]
    refine List.mem_cons_of_mem _ (List.mem_append_left _ (z69 hm ?_))
    exact List.mem_map.2 ⟨y,List.mem_of_getElem? hy,rfl⟩)
  rw[hz] at h1 h2
  by_cases hc0:cap=0
  ·subst hc0
   have:len=0:=by omega
   subst this
   exact⟨.sl 0 z [],⟨z,[],rfl,.inl rfl,by simp,by simp⟩,.one (.sle a hz1) rfl⟩
  ·have hspot:a.spot=none:=by
    have key:∀ y:DataW H × List MemPlace,(w.cells? 0 (a.add (0 * z)) z).bind (DataW.trod enc P w 0 (fun _=>true) true m e)=some y→a.spot=none:=by
     intro y hy
     simp only[Nat.zero_mul,Option.bind_eq_some_iff] at hy
     obtain⟨cs,hcs,_⟩:=hy
     obtain⟨hl,hg⟩:=zbd hcs
     have:=hg 0 (by omega)
     obtain⟨u,hu⟩:∃ u,cs[0]?=some u:=⟨_,List.getElem?_eq_getElem (by omega)⟩
     rw[hu] at this
     simpa [Addr.add] using World.cell?_spot this
    by_cases hl0:len=0
    ·subst hl0
     obtain⟨hr,hj⟩:=h2 rfl
     have:=hj 0 (by omega)
     rw[List.getElem?_eq_getElem (by omega)] at this
     exact key _ (by simpa using this)
    ·have:=h1 0 (by omega)
     rw[List.getElem?_eq_getElem (by omega)] at this
     exact key _ this
   obtain⟨b,o,sp⟩:=a
   simp only at hspot
   subst hspot
   have hadd:∀ m,(⟨b,o,none⟩:Addr).add m=⟨b,o+m,none⟩:=by
    intro m
    unfold Addr.add
    split
    ·rename_i h0; subst h0; rfl
    ·rfl
   have hadd2:∀ m k,(⟨b,o+m,none⟩:Addr).add k=⟨b,o+m+k,none⟩:=by
    intro m k
    unfold Addr.add
    split
    ·rename_i h0; subst h0; rfl
    ·rfl
   have hel:∀ i,i < len→∃ (a:AV) (us:List Value),Q a∧VRs (KW w) a.cells us∧us.length=z∧∀ j u,us[j]?=some u→w.cell? ⟨b,o+i * z+j,none⟩=some u:=by
    intro i hi
    have:=h1 i hi
    have hel:=List.getElem?_eq_getElem (l:=elems) (i:=i) (by omega)
    rw[hel] at this
    simp only[Option.bind_eq_some_iff] at this
    obtain⟨us,hus,hd⟩:=this
    obtain⟨hl,hg⟩:=zbd hus
    obtain⟨a,ha,hv⟩:=hRd m (by omega) us _ hd (hwe i _ hel)
    refine⟨a,us,ha,hv,hl,fun j u hu=>?_⟩
    have hj:=(List.getElem?_eq_some_iff.1 hu).1
    have:=hg j (by omega)
    rw[hadd,hadd2] at this
    rw[this,hu]
   have hch:∀ i,∃ (p:AV × List Value),i < len→Q p.1∧VRs (KW w) p.1.cells p.2∧p.2.length=z∧∀ j u,p.2[j]?=some u→w.cell? ⟨b,o+i * z+j,none⟩=some u:=by
    intro i
    by_cases hi:i < len
    ·obtain⟨a,us,h⟩:=hel i hi
     exact⟨(a,us),fun _=>h⟩
    ·exact⟨(.undef,[]),fun h=>absurd h hi⟩
   obtain⟨f,hf⟩:=Classical.axiomOfChoice hch
   have hget:∀ (i:Nat) (x:AV),((List.range len).map fun i=>(f i).1)[i]?=some x→i < len∧x=(f i).1:=by
    intro i x hx
    have hi:=(List.getElem?_eq_some_iff.1 hx).1
    simp only[List.length_map,List.length_range] at hi
    simp only[List.getElem?_map,List.getElem?_range hi,Option.map_some,Option.some.injEq] at hx
    exact⟨hi,hx.symm⟩
   refine⟨.sl 0 z ((List.range len).map fun i=>(f i).1),⟨z,_,rfl,.inl rfl,by simp; omega,fun x hx=>?_⟩,?_⟩
   ·obtain⟨i,hi,rfl⟩:=List.mem_map.1 hx
    exact(hf i (by simpa using hi)).1
   ·have hlen':((List.range len).map fun i=>(f i).1).length=len:=by simp
    have hsl:VR (KW w) (.sl 0 z ((List.range len).map fun i=>(f i).1)) (.slice (some ⟨b,o,none⟩) ((List.range len).map fun i=>(f i).1).length cap):=by
     have hgg:∀ (i:Nat) (x:AV) (j:Nat) (c:AV),((List.range len).map fun i=>(f i).1)[i]?=some x→x.cells[j]?=some c→∃ u,(f i).2[j]?=some u∧VR (KW w) c u:=by
      intro i x j c hx hc
      obtain⟨hi,rfl⟩:=hget i x hx
      have hv:=(hf i hi).2.1
      have hj:=(List.getElem?_eq_some_iff.1 hc).1
      obtain⟨u,hu⟩:∃ u,(f i).2[j]?=some u:=⟨_,List.getElem?_eq_getElem (by rw[hv.1]; exact hj)⟩
      exact⟨u,hu,hv.2.1 j c u hc hu⟩
     refine .sl (fun i j=>if i < len then ((f i).2[j]?).getD .nilFunc else .nilFunc) (by rw[hlen']; exact hle) (fun i x hx=>?_) (fun i x j c hx hc=>?_) (fun i x j c hx hc=>?_) (fun i j=>?_) (fun h=>by omega) (fun h=>by omega) hz1
     ·obtain⟨hi,rfl⟩:=hget i x hx
      have:=(hf i hi).2.1.1
      rw[(hf i hi).2.2.1] at this
      exact this.symm
     ·obtain⟨u,hu,_⟩:=hgg i x j c hx hc
      obtain⟨hi,_⟩:=hget i x hx
      simp only[hi,if_true,hu,Option.getD_some]
      exact fzW ((hf i hi).2.2.2 j u hu)
     ·obtain⟨u,hu,hv⟩:=hgg i x j c hx hc
      obtain⟨hi,_⟩:=hget i x hx
      simp only[hi,if_true,hu,Option.getD_some]
      exact hv
     ·by_cases hi:i < len
      ·simp only[hi,if_true]
       cases hu:(f i).2[j]? with
       | none=>rfl
       | some u=>exact(hf i hi).2.1.2.2 j u hu
      ·simp only[hi,if_false]; rfl
    rw[hlen'] at hsl
    exact .one hsl rfl
def zf3:List (AV→Prop)→List AV→Prop
 | [],cs=>cs=[]
 | Q::Qs,cs=>∃ a r,cs=a.cells++r∧Q a∧zf3 Qs r
def z9z (Qs:List (AV→Prop)) (a:AV):Prop:=∃ cs,a=.agg cs∧zf3 Qs cs
theorem VRs.append {κ:K} {as bs:List AV} {us vs:List Value} (h:VRs κ as us) (h':VRs κ bs vs):VRs κ (as++bs) (us++vs):=by
 obtain⟨l,p,q⟩:=h
 obtain⟨l',p',q'⟩:=h'
 refine⟨by simp[l,l'],fun i c u hc hu=>?_,fun i u hu=>?_⟩
 ·by_cases hi:i < as.length
  ·rw[List.getElem?_append_left hi] at hc
   rw[List.getElem?_append_left (by omega)] at hu
   exact p i c u hc hu
  ·rw[List.getElem?_append_right (by omega)] at hc
   rw[List.getElem?_append_right (by omega),l] at hu
   exact p' _ c u hc hu
 ·by_cases hi:i < us.length
  ·rw[List.getElem?_append_left hi] at hu
   exact q i u hu
  ·rw[List.getElem?_append_right (by omega)] at hu
   exact q' _ u hu
inductive FsOK (enc:TypeId × Value→H) (P:Program) (w:World) (n:Nat):Nat→List Field→List (AV→Prop)→Nat→Prop
 | nil (o:Nat):FsOK enc P w n o [] [] o
 | cons {o e:Nat} {f:Field} {fs:List Field} {Q:AV→Prop} {Qs:List (AV→Prop)} (ho:f.offset=o) (h:Rd enc P w f.type Q n) (hr:FsOK enc P w n (o+P.cellsOf f.type) fs Qs e):FsOK enc P w n o (f::fs) (Q::Qs) e
theorem FsOK.le {n o e:Nat} {fs:List Field} {Qs:List (AV→Prop)} (h:FsOK enc P w n o fs Qs e):o≤e:=by
 induction h with
 | nil=>exact Nat.le_refl _
 | cons ho h hr ih=>omega
theorem FsOK.read {n o e m:Nat} {fs:List Field} {Qs:List (AV→Prop)} (h:FsOK enc P w n o fs Qs e) (hm:m≤n) {cs:List Value} (hcs:cs.length=e) (hr:∀ (i:Nat) (f:Field),fs[i]?=some f→∃ y,DataW.trod enc P w 0 (fun _=>true) true m f.type ((cs.drop f.offset).take (P.cellsOf f.type))=some y∧∀ k∈y.1.weights P f.type,k≤reachBytes) :
  ∃ as,zf3 Qs as∧VRs (KW w) as (cs.drop o):=by
 induction h with
 | nil o=>exact⟨[],rfl,by rw[List.drop_eq_nil_of_le (by omega)]; exact⟨rfl,by simp,by simp⟩⟩
 | @cons o e f fs Q Qs ho hf hrest ih =>
  obtain⟨as,h1,h2⟩:=ih hcs (fun i g hg=>hr (i+1) g (by simpa using hg))
  obtain⟨y,hy,hyw⟩:=hr 0 f rfl
  obtain⟨a,ha,hv⟩:=hf m hm _ _ hy hyw
  refine⟨a.cells++as,⟨a,as,rfl,ha,h1⟩,?_⟩
  have hd:cs.drop o=(cs.drop f.offset).take (P.cellsOf f.type)++cs.drop (o+P.cellsOf f.type):=by
   rw[ho]
   have:=(List.take_append_drop (P.cellsOf f.type) (cs.drop o)).symm
   rwa [List.drop_drop] at this
  rw[hd]
  exact hv.append h2
theorem Rd.struct {t:TypeId} {fs:Array Field} {Qs:List (AV→Prop)} {n:Nat} (ht:P.underlying t=some (.struct fs)) (h:∀ m,n=m+1→FsOK enc P w m 0 fs.toList Qs (P.cellsOf t)):Rd enc P w t (z9z Qs) n:=fun fuel hf cs x hx hw=>by
 obtain⟨xs,m,rfl,rfl,hl,hxl,hg⟩:=DataW.trod_struct ht hx
 obtain⟨n,rfl⟩:∃ k,n=k+1:=⟨n - 1,by omega⟩
 obtain⟨as,h1,h2⟩:=(h n rfl).read (m:=m) (by omega) hl (fun i f hf=>by
  have hi:=(List.getElem?_eq_some_iff.1 hf).1
  have:=hg i f (by simpa using hf)
  have hxi:=List.getElem?_eq_getElem (l:=xs) (i:=i) (by rw[hxl]; simpa using hi)
  rw[hxi] at this
  refine⟨_,this,fun k hk=>hw k ?_⟩
  unfold DataW.weights
  rw[ht]
  exact z5m hk (i:=i) (by rw[List.getElem?_map,hf]; rfl) (by rw[List.getElem?_map,hxi]; rfl))
 exact⟨.agg as,⟨as,rfl,h1⟩,h2⟩
theorem zhl {t:TypeId} {fs:Array Field} {Qs:List (AV→Prop)} {v:Value} {d:DataW H} {ps:List MemPlace} {r:Reach} {base:Nat} (ht:P.underlying t=some (.struct fs)) (h:∀ n,Rd enc P w t (z9z Qs) n) (hok:Value.okWide P w r base t v) (hv:DataW.Trod enc P w 0 (fun _=>true) true t v d ps) (hw:∀ m∈d.weights P t,m≤reachBytes) :
  ∃ a,z9z Qs a∧VR (KW w) a v:=by
 unfold Value.okWide at hok
 rw[ht] at hok
 obtain⟨A,rfl,_,_⟩:=hok
 obtain⟨fuel,hx⟩:=hv
 obtain⟨a,ha,hl,hc,h1⟩:=h fuel fuel (Nat.le_refl _) _ _ hx hw
 refine⟨a,ha,?_⟩
 obtain⟨cs,rfl,_⟩:=ha
 simp only[AV.cells,Value.cells] at hl hc h1
 exact .agg (by simpa using hl) (fun i c u hi hu=>hc i c u hi (by simpa using hu)) (fun i u hu=>h1 i u (by simpa using hu))
theorem z8u {t:TypeId} {Q:AV→Prop} {v:Value} {d:DataW H} {ps:List MemPlace} (h:∀ n,Rd enc P w t Q n) (h1:v.oneCell'=true) (hc:∀ a,Q a→a.cells=[a]) (hv:DataW.Trod enc P w 0 (fun _=>true) true t v d ps) (hw:∀ m∈d.weights P t,m≤reachBytes):∃ a,Q a∧VR (KW w) a v:=by
 obtain⟨fuel,hx⟩:=hv
 obtain⟨a,ha,hl,hr,_⟩:=h fuel fuel (Nat.le_refl _) _ _ hx hw
 refine⟨a,ha,?_⟩
 have hcells:v.cells.toList=[v]:=by cases v<;>first | rfl | (simp[Value.oneCell'] at h1)
 rw[hc a ha,hcells] at hr
 exact hr 0 a v rfl rfl
theorem zhm {t:TypeId} {k:IntKind} {v:Value} {r:Reach} {base:Nat} (ht:P.underlying t=some (.int k)) (hok:Value.okWide P w r base t v):v.oneCell'=true:=by
 unfold Value.okWide at hok
 simp only[ht,Cell.okWide,Cell.ok] at hok
 cases v<;>first | rfl | simp at hok
theorem zhn {t:TypeId} {v:Value} {r:Reach} {base:Nat} (ht:P.underlying t=some .string) (hok:Value.okWide P w r base t v):v.oneCell'=true:=by
 unfold Value.okWide at hok
 simp only[ht,Cell.okWide,Cell.ok] at hok
 cases v<;>first | rfl | simp at hok
theorem zf4 {t:TypeId} {v:Value} {r:Reach} {base:Nat} (ht:P.underlying t=some .bool) (hok:Value.okWide P w r base t v):v.oneCell'=true:=by
 unfold Value.okWide at hok
 simp only[ht,Cell.okWide,Cell.ok] at hok
 cases v<;>first | rfl | simp at hok
theorem zdx {t e:TypeId} {v:Value} {r:Reach} {base:Nat} (ht:P.underlying t=some (.slice e)) (hok:Value.okWide P w r base t v):v.oneCell'=true:=by
 unfold Value.okWide at hok
 simp only[ht,Cell.okWide,Cell.ok] at hok
 cases v<;>first | rfl | simp at hok
theorem arg_int {t:TypeId} {k:IntKind} {v:Value} {d:DataW H} {ps:List MemPlace} {r:Reach} {base:Nat} (ht:P.underlying t=some (.int k)) (hok:Value.okWide P w r base t v) (hv:DataW.Trod enc P w 0 (fun _=>true) true t v d ps) (hw:∀ m∈d.weights P t,m≤reachBytes):∃ m,VR (KW w) (.int k m) v∧(Lit.int k m).wf=true:=by
 obtain⟨a,⟨m,rfl,h1⟩,h2⟩:=z8u (Q:=fun a=>∃ m,a=.int k m∧(Lit.int k m).wf=true) (fun _=>Rd.int ht) (zhm ht hok) (fun a ⟨m,e,_⟩=>by subst e; rfl) hv hw
 exact⟨m,h2,h1⟩
theorem arg_str {t:TypeId} {v:Value} {d:DataW H} {ps:List MemPlace} {r:Reach} {base:Nat} (ht:P.underlying t=some .string) (hok:Value.okWide P w r base t v) (hv:DataW.Trod enc P w 0 (fun _=>true) true t v d ps) (hw:∀ m∈d.weights P t,m≤reachBytes):∃ a,TextV a∧VR (KW w) a v :=
 z8u (fun _=>Rd.str ht) (zhn ht hok) (fun a ⟨m,e,_⟩=>by subst e; rfl) hv hw
theorem zk3 {t e:TypeId} {z:Nat} {Q:AV→Prop} {v:Value} {d:DataW H} {ps:List MemPlace} {r:Reach} {base:Nat} (ht:P.underlying t=some (.slice e)) (h:∀ n,Rd enc P w t (zdw z Q) n) (hok:Value.okWide P w r base t v) (hv:DataW.Trod enc P w 0 (fun _=>true) true t v d ps) (hw:∀ m∈d.weights P t,m≤reachBytes):∃ a,zdw z Q a∧VR (KW w) a v :=
 z8u h (zdx ht hok) (fun a ⟨z',xs,e,_⟩=>by subst e; rfl) hv hw
def RdA (enc:TypeId × Value→H) (P:Program) (w:World) (base:Nat) (t:TypeId) (Q:AV→Prop):Prop :=
 ∀ v d ps,Value.okWide P w .any base t v→DataW.Trod enc P w 0 (fun _=>true) true t v d ps→(∀ m∈d.weights P t,m≤reachBytes)→∃ a,Q a∧VR (KW w) a v
theorem RdA.struct {base:Nat} {t:TypeId} {fs:Array Field} {Q:AV→Prop} {Qs:List (AV→Prop)} (ht:P.underlying t=some (.struct fs)) (h:∀ n,Rd enc P w t (z9z Qs) n) (hQ:∀ a,z9z Qs a→Q a):RdA enc P w base t Q:=fun v d ps h1 h2 h3=>by
 obtain⟨a,ha,hv⟩:=zhl ht h h1 h2 h3
 exact⟨a,hQ a ha,hv⟩
theorem RdA.int {base:Nat} {t:TypeId} {k:IntKind} (ht:P.underlying t=some (.int k)):RdA enc P w base t (fun a=>∃ m,a=.int k m∧(Lit.int k m).wf=true):=fun v d ps h1 h2 h3=>by
 obtain⟨m,h4,h5⟩:=arg_int ht h1 h2 h3
 exact⟨_,⟨m,rfl,h5⟩,h4⟩
def BoolV (a:AV):Prop:=∃ b,a=.bool b
theorem RdA.bool {base:Nat} {t:TypeId} (ht:P.underlying t=some .bool):RdA enc P w base t BoolV:=fun _ _ _ h1 h2 h3 =>
 z8u (fun _=>Rd.bool ht) (zf4 ht h1) (fun a ⟨b,e⟩=>by subst e; rfl) h2 h3
theorem RdA.str {base:Nat} {t:TypeId} (ht:P.underlying t=some .string):RdA enc P w base t TextV:=fun _ _ _ h1 h2 h3=>arg_str ht h1 h2 h3
theorem RdA.slice {base:Nat} {t e:TypeId} {z:Nat} {Q:AV→Prop} (ht:P.underlying t=some (.slice e)) (h:∀ n,Rd enc P w t (zdw z Q) n):RdA enc P w base t (zdw z Q):=fun _ _ _ h1 h2 h3=>zk3 ht h h1 h2 h3
def zk4 (enc:TypeId × Value→H) (P:Program) (w:World) (base:Nat):List TypeId→List (AV→Prop)→Prop
 | [],[]=>True
 | t::ts,Q::Qs=>RdA enc P w base t Q∧zk4 enc P w base ts Qs
 | _,_=>False
def AsOK:List (AV→Prop)→List AV→Prop
 | [],[]=>True
 | Q::Qs,a::as=>Q a∧AsOK Qs as
 | _,_=>False
theorem zdy {base:Nat}:∀ {ts:List TypeId} {Qs:List (AV→Prop)} {vs:List Value} {ds:List (DataW H)} {ps:List MemPlace},zk4 enc P w base ts Qs→DataW.TrodAll enc P w 0 (fun _=>true) true ts vs ds ps →
  (∀ (j:Nat) t v,ts[j]?=some t→vs[j]?=some v→Value.okWide P w .any base t v)→(∀ m∈DataW.weightsEach P ts ds,m≤reachBytes) →
  ∃ as,AsOK Qs as∧vs.length=as.length∧∀ (i:Nat) (c:AV) (u:Value),as[i]?=some c→vs[i]?=some u→VR (KW w) c u
 | [],[],[],[],_,_,_,_,_=>⟨[],trivial,rfl,by simp⟩
 | t::ts,Q::Qs,v::vs,d::ds,ps,hr,hA,ho,hw=>by
  obtain⟨p,q,h1,h2,_⟩:=hA
  obtain⟨a,ha,hv⟩:=hr.1 v d p (ho 0 t v rfl rfl) h1 (fun m hm=>hw m (by unfold DataW.weightsEach; exact List.mem_append_left _ hm))
  obtain⟨as,h3,h4,h5⟩:=zdy hr.2 h2 (fun j t v h h'=>ho (j+1) t v (by simpa using h) (by simpa using h')) (fun m hm=>hw m (by unfold DataW.weightsEach; exact List.mem_append_right _ hm))
  refine⟨a::as,⟨ha,h3⟩,by simp[h4],fun i c u hc hu=>?_⟩
  cases i with
  | zero=>simp at hc hu; subst hc hu; exact hv
  | succ i=>exact h5 i c u (by simpa using hc) (by simpa using hu)
 | [],[],_::_,_,_,_,hA,_,_=>hA.elim
 | [],[],[],_::_,_,_,hA,_,_=>hA.elim
 | [],_::_,_,_,_,hr,_,_,_=>hr.elim
 | _::_,[],_,_,_,hr,_,_,_=>hr.elim
 | _::_,_::_,[],_,_,_,hA,_,_=>hA.elim
 | _::_,_::_,_::_,[],_,_,hA,_,_=>hA.elim
theorem z7 (hl:laidOutB P=true) {W W':World} (hb:Below W.heap.size W W'):∀ {ts:List TypeId} {vs:List Value} {ds:List (DataW H)} {ps:List MemPlace},(ts.all fun t=>P.readableRec t && decide (t < P.types.size))=true →
  DataW.TrodAll enc P W 0 (fun _=>true) true ts vs ds ps→(∀ x∈ps,x.block < W.heap.size)→DataW.TrodAll enc P W' 0 (fun b=>decide (b < W.heap.size)) true ts vs ds ps
 | [],[],[],_,_,h,_=>h
 | t::ts,v::vs,d::ds,ps,ht,h,hlt=>by
  obtain⟨p,q,h1,h2,rfl⟩:=h
  simp only[List.all_cons,Bool.and_eq_true,decide_eq_true_eq] at ht
  exact⟨p,q,Below.trod hl ht.1.1 ht.1.2 h1 hb (fun x hx=>hlt x (List.mem_append_left _ hx)),z7 hl hb (by simpa using ht.2) h2 (fun x hx=>hlt x (List.mem_append_right _ hx)),rfl⟩
 | [],_::_,_,_,_,h,_=>h.elim
 | [],[],_::_,_,_,h,_=>h.elim
 | _::_,[],_,_,_,h,_=>h.elim
 | _::_,_::_,[],_,_,h,_=>h.elim
theorem zho [GOK P] {T:FuncId→Option FI} {I:FuncId→Option z07} {f:FuncId} {fi:FI} {n:Nat} {as:List AV} {args:Array Value} (hT:zam P T) (hI:z0v P I∧z0d I) (hm:P.follows .mixedOrders=true)
  (hf:T f=some fi) (hl:args.size=as.length) (ha:∀ (i:Nat) (c:AV) (u:Value),as[i]?=some c→args[i]?=some u→VR (KW w) c u) (hr:z6j (z09 T I n f as [] 1 ⟨[],[],[]⟩)=true)
  (hg:∀ g cs,Glob.gv g=some cs→VR (KW w) (.vp cs 0) (.pointer (some ⟨g,0,none⟩))∧∃ us,gsW w g=some us∧us.length=cs.length) :
  Calls P f args w fun e w'=>e=.returned (.bool true)∧Below w.heap.size w w':=by
 have hb:z09 T I n f as [] 1 ⟨[],[],[]⟩≠.bad:=by intro hx; rw[hx] at hr; cases hr
 have:=z63 hT hI.1 hI.2 hm n (KW w) ⟨[],[],[]⟩ w.heap.size 1 w w f as args [] hb (St0 (fun g us h=>gsW_ok h) hg) (Ent0 (gsW w)) hl ha
 unfold Nx at this
 rw[(hT f fi hf).2 args w] at this
 refine this.mono fun en w' hx=>?_
 cases en with
 | returned v =>
  obtain⟨κ',v',e',h1,h2,_,_,h5⟩:=hx
  rw[h1] at hr
  unfold z6j at hr
  split at hr
  ·next heq=>cases heq; cases h2; exact⟨rfl,h5.below⟩
  ·cases hr
 | panicked ch =>
  obtain⟨κ',v',e',val,h1,_⟩:=hx
  rw[h1] at hr; cases hr
 | outgrown=>exact hx.elim
end
end Go.Abs
namespace Go.Abs
open Go
noncomputable section
abbrev XT:=FuncId→List AV→List Lo→Nat→E→Option CR
def orX (r:CR):Option CR→CR
 | some x=>x
 | none=>r
def z0w (X:XT) (P:FuncId→Option FI) (I:FuncId→Option z07):Nat→z06
 | 0=>fun _ _ _ _ _=>.bad
 | n+1=>fun f args W fid e=>orX (z1u (z0w X P I n) n P f args W fid e (I f)) (X f args W fid e)
theorem zna (g k:Nat):child g k≠g:=by have:=z29 g k; omega
theorem EO.congr {c c':z06} {g:Nat} (o:EO) {W:List Lo} {d:Option Pth} {fr:Fr} {e:E} (H:∀ f args W e,fr.cnt < cap→c f args W (child g fr.cnt) e=c' f args W (child g fr.cnt) e):o.ev c g W d fr e=o.ev c' g W d fr e:=by
 cases o with
 | call f args =>
  show cond (room fr.cnt) (after d fr (c f (evs fr.s args) W (child g fr.cnt) e)) .bad=cond (room fr.cnt) (after d fr (c' f (evs fr.s args) W (child g fr.cnt) e)) .bad
  cases hr:room fr.cnt with
  | false=>rfl
  | true=>rw[H _ _ _ _ (z1k.1 hr)]
 | callv f args =>
  show z30 (evs fr.s args) c g W d fr e (f.ev fr.s)=z30 (evs fr.s args) c' g W d fr e (f.ev fr.s)
  cases hf:f.ev fr.s with
  | fn h a b =>
   show cond (room fr.cnt) (after d fr (c h (a++evs fr.s args++b) W (child g fr.cnt) e)) .bad=cond (room fr.cnt) (after d fr (c' h (a++evs fr.s args++b) W (child g fr.cnt) e)) .bad
   cases hr:room fr.cnt with
   | false=>rfl
   | true=>rw[H _ _ _ _ (z1k.1 hr)]
  | _=>rfl
 | _=>rfl
theorem AO.congr {c c':z06} {g:Nat} (o:AO) {W:List Lo} {fr:Fr} {e:E} (H:∀ f args W e,fr.cnt < cap→c f args W (child g fr.cnt) e=c' f args W (child g fr.cnt) e):o.ev c g W fr e=o.ev c' g W fr e:=by
 obtain⟨d,gd,o⟩:=o
 have key:o.ev c g W d fr e=o.ev c' g W d fr e:=by
  cases o with
  | p o=>rfl
  | r o=>rfl
  | e o ws =>
   show chkR fr.s e ws (o.ev c g (z0o fr.s W ws) d fr e)=chkR fr.s e ws (o.ev c' g (z0o fr.s W ws) d fr e)
   rw[EO.congr o H]
 cases gd with
 | none=>exact key
 | some q =>
  obtain⟨t,w⟩:=q
  show z1n w d fr e (o.ev c g W d fr e) (fr.s.get t)=z1n w d fr e (o.ev c' g W d fr e) (fr.s.get t)
  rw[key]
def cntR (n:Nat):R→Prop
 | .go fr _=>n≤fr.cnt
 | .exit _ fr _=>n≤fr.cnt
 | .ret fr _=>n≤fr.cnt
 | .pan _ fr _=>n≤fr.cnt
 | .bad=>True
theorem cntR.mono {n m:Nat} (h:n≤m) {r:R} (hr:cntR m r):cntR n r:=by cases r<;>first | exact Nat.le_trans h hr | trivial
theorem za0 {d:Option Pth} {fr:Fr} {r:CR}:cntR (fr.cnt+1) (after d fr r):=by
 obtain⟨s,cnt⟩:=fr
 cases r with
 | ret v e=>show cnt+1≤(Fr.put d (Fr.tick ⟨s,cnt⟩) v).cnt; rw[z4n]; exact Nat.le_refl _
 | pan v e=>exact Nat.le_refl _
 | bad=>trivial
theorem EO.cnt {c:z06} {g:Nat} (o:EO) {W:List Lo} {d:Option Pth} {fr:Fr} {e:E}:cntR fr.cnt (o.ev c g W d fr e):=by
 by_cases hcl:o.isCall=true
 ·cases o with
  | call f args =>
   show cntR fr.cnt (cond (room fr.cnt) (after d fr (c f (evs fr.s args) W (child g fr.cnt) e)) .bad)
   cases room fr.cnt with
   | false=>trivial
   | true=>exact za0.mono (Nat.le_succ _)
  | callv f args =>
   show cntR fr.cnt (z30 (evs fr.s args) c g W d fr e (f.ev fr.s))
   cases hf:f.ev fr.s with
   | fn h a b =>
    show cntR fr.cnt (cond (room fr.cnt) (after d fr (c h (a++evs fr.s args++b) W (child g fr.cnt) e)) .bad)
    cases room fr.cnt with
    | false=>trivial
    | true=>exact za0.mono (Nat.le_succ _)
   | _=>trivial
  | _=>cases hcl
 ·have h0:∀ c':z06,o.ev c g W d fr e=o.ev c' g W d fr e:=fun c'=>by cases o<;>first | rfl | exact absurd rfl hcl
  rw[h0 fun _ _ _ _ _=>.bad]
  have:=EO.pure' (call:=fun _ _ _ _ _=>.bad) (fun f args W fid e v e' h=>by rcases h with h | h<;>cases h) o (W:=W) (d:=d) (fr:=fr) (e:=e) (fid:=g) (fun h=>absurd h hcl)
  revert this
  cases o.ev (fun _ _ _ _ _=>.bad) g W d fr e with
  | go fr' e'=>exact fun this=>this.2.1
  | pan v fr' e'=>exact fun this=>this.2.1
  | bad=>exact fun _=>trivial
  | exit id fr' e'=>exact fun this=>this.elim
  | ret fr' e'=>exact fun this=>this.elim
theorem zk5 {n:Nat} {s:Tm} {e:E} {ws:List WX} {r:R} (h:cntR n r):cntR n (chkR s e ws r):=by
 cases r with
 | go fr' e'=>show cntR n (cond (z6c s e e' ws) (.go fr' e') .bad); cases z6c s e e' ws<;>first | exact h | trivial
 | _=>exact h
theorem AO.cnt {c:z06} {g:Nat} (o:AO) {W:List Lo} {fr:Fr} {e:E}:cntR fr.cnt (o.ev c g W fr e):=by
 obtain⟨d,gd,o⟩:=o
 have hput:∀ v,cntR fr.cnt (.go (Fr.put d fr v) e):=fun v=>by show fr.cnt≤_; rw[z4n]; exact Nat.le_refl _
 have key:cntR fr.cnt (o.ev c g W d fr e):=by
  cases o with
  | p o=>show cntR _ (optV d fr e (o.ev fr.s)); cases o.ev fr.s<;>first | exact hput _ | trivial
  | r o=>show cntR _ (optV d fr e (o.ev fr.s e)); cases o.ev fr.s e<;>first | exact hput _ | trivial
  | e o ws=>exact zk5 (EO.cnt o)
 cases gd with
 | none=>exact key
 | some q =>
  obtain⟨t,w⟩:=q
  show cntR fr.cnt (z1n w d fr e (o.ev c g W d fr e) (fr.s.get t))
  cases fr.s.get t with
  | bool b =>
   show cntR fr.cnt (cond (b==w) (o.ev c g W d fr e) (.go (Fr.put d fr .undef) e))
   cases b==w<;>first | exact key | exact hput _
  | undef=>exact hput _
  | _=>trivial
section
variable {c1 c0:z06} {g c n:Nat} {W:List Lo}
def Past (c:Nat) (r r':R):Prop:=r=r'∧cntR c r
theorem Past.bind {k k':Fr→E→R} {r r':R} (h:Past c r r') (hk:∀ fr e,c≤fr.cnt→Past c (k fr e) (k' fr e)):Past c (R.bind k r) (R.bind k' r'):=by
 obtain⟨rfl,h2⟩:=h
 cases r with
 | go fr e=>exact hk fr e h2
 | _=>exact⟨rfl,h2⟩
variable (H:∀ k,c≤k→k < cap→∀ f args W e,c1 f args W (child g k) e=c0 f args W (child g k) e)
include H
theorem zch:∀ (l:List AO) (fr:Fr) (e:E),c≤fr.cnt→Past c (z0j c1 g W l fr e) (z0j c0 g W l fr e)
 | [],fr,e,h=>⟨rfl,h⟩
 | o::l,fr,e,h=>by
  show Past c (R.bind (z0j c1 g W l) (o.ev c1 g W fr e)) (R.bind (z0j c0 g W l) (o.ev c0 g W fr e))
  exact Past.bind ⟨AO.congr o fun f args W e hc=>H _ h hc f args W e,(AO.cnt o).mono h⟩ fun fr e h=>zch l fr e h
theorem z4x:∀ (k:AC) (fr:Fr) (e:E),c≤fr.cnt→Past c (run c1 n g W k fr e) (run c0 n g W k fr e):=by
 intro k
 induction k with
 | skip=>intro fr e h; exact⟨rfl,h⟩
 | reg l=>intro fr e h; exact zch H l fr e h
 | seq a b iha ihb=>intro fr e h; exact Past.bind (k:=run c1 n g W b) (k':=run c0 n g W b) (iha fr e h) ihb
 | cond x a b iha ihb =>
  intro fr e h
  show Past c (z3w (run c1 n g W a) (run c1 n g W b) fr e (x.ev fr.s)) (z3w (run c0 n g W a) (run c0 n g W b) fr e (x.ev fr.s))
  cases x.ev fr.s with
  | bool t =>
   cases t with
   | true=>exact iha fr e h
   | false=>exact ihb fr e h
  | _=>exact⟨rfl,trivial⟩
 | blk id k ih =>
  intro fr e h
  show Past c (R.leave id (run c1 n g W k fr e)) (R.leave id (run c0 n g W k fr e))
  obtain⟨h1,h2⟩:=ih fr e h
  rw[← h1]
  refine⟨rfl,?_⟩
  revert h2
  cases run c1 n g W k fr e with
  | exit j fr e=>intro h2; show cntR c (cond (Nat.beq j id) (.go fr e) (.exit j fr e)); cases Nat.beq j id<;>exact h2
  | _=>exact fun h=>h
 | loop k ih =>
  intro fr e h
  show Past c (iter (run c1 n g W k) n fr e) (iter (run c0 n g W k) n fr e)
  have key:∀ (j:Nat) (fr:Fr) (e:E),c≤fr.cnt→Past c (iter (run c1 n g W k) j fr e) (iter (run c0 n g W k) j fr e):=by
   intro j
   induction j with
   | zero=>intro fr e _; exact⟨rfl,trivial⟩
   | succ j ihj=>intro fr e h; exact Past.bind (k:=iter (run c1 n g W k) j) (k':=iter (run c0 n g W k) j) (ih fr e h) ihj
  exact key n fr e h
 | exit id=>intro fr e h; exact⟨rfl,h⟩
 | ret=>intro fr e h; exact⟨rfl,h⟩
end
def NoP:R→Prop
 | .pan _ _ _=>False
 | _=>True
theorem NoP.cond {b:Bool} {x y:R} (hx:NoP x) (hy:NoP y):NoP (cond b x y):=by cases b<;>assumption
theorem NoP.put {d:Option Pth} {fr:Fr} {v:AV} {e:E}:NoP (.go (Fr.put d fr v) e):=trivial
theorem zk6 {d:Option Pth} {v:AV} {fr:Fr} {o:Option E}:NoP (optE d v fr o):=by cases o<;>trivial
theorem boxO_np {d:Option Pth} {fr:Fr} {vs:List AV} {o:Option (Lo × E)}:NoP (boxO d fr vs o):=by cases o<;>trivial
theorem zg9 {z n:Nat} {ex:Bool} {d:Option Pth} {fr:Fr} {o:Option (Lo × E)}:NoP (hsO z n ex d fr o):=by cases o<;>trivial
theorem newO_np {m:Bool} {d:Option Pth} {fr:Fr} {o:Option (Lo × E)}:NoP (newO m d fr o):=by cases o<;>trivial
theorem za1 {b8:Bool} {fid:Nat} {e:E} {d:Option Pth} {z:Nat} {xs:List AV} {fr:Fr}:NoP (ticket b8 fid e (fun k'=>putK d (.sl k' z xs)) fr):=by
 obtain⟨s,cnt⟩:=fr
 simp only[ticket,z1x]
 exact .cond trivial trivial
theorem appV_np {W:List Lo} {b8:Bool} {fid a kind z bytes z':Nat} {new:List AV} {d:Option Pth} {fr:Fr} {e:E} {v:AV}:NoP (appV b8 fid W a kind z bytes z' new d fr e v):=by
 unfold appV
 split
 ·refine .cond ?_ trivial
  unfold z8d
  exact .cond (.cond za1 (.cond za1 trivial)) (.cond zg9 trivial)
 ·unfold zgr
  split
  ·exact .cond (.cond zg9 (.cond (.cond .put (.cond .put trivial)) trivial)) trivial
  ·trivial
 ·trivial
theorem EO.np (o:EO) (hcl:o.isCall=false) (hp:∀ x,o≠.pan x) {c:z06} {g:Nat} {W:List Lo} {d:Option Pth} {fr:Fr} {e:E}:NoP (o.ev c g W d fr e):=by
 cases o with
 | new a g m o=>exact newO_np
 | st n a x=>exact zk6
 | stx v n a x=>exact .cond zk6 trivial
 | box a g t n x=>exact .cond boxO_np trivial
 | mks a g hs ex z zero bytes l c =>
  simp only[EO.ev,evMks,nat2]
  split
  ·exact .cond (.cond zg9 za1) trivial
  ·trivial
 | app a kind z zero bytes s x =>
  simp only[EO.ev,zlv,appE]
  split
  ·refine .cond ?_ appV_np
   unfold appN
   split<;>trivial
  ·trivial
 | apz a g z zero bytes s n =>
  simp only[EO.ev,zlw,apzS]
  split
  ·exact .cond (.cond zg9 trivial) trivial
  ·trivial
 | clr z zero x =>
  simp only[EO.ev,zlx,clrV]
  split
  ·trivial
  ·refine .cond .put ?_
   unfold clrO
   split
   ·exact .cond .put trivial
   ·trivial
  ·trivial
 | cpy z x y =>
  simp only[EO.ev,zly,cpyV]
  split
  ·unfold cpyE
   split
   ·refine .cond .put ?_
    unfold cpyO
    split
    ·exact .cond .put trivial
    ·trivial
   ·trivial
  ·trivial
 | s2b x =>
  simp only[EO.ev,zlz,s2bV]
  split<;>trivial
 | mup ag ks m k x =>
  simp only[EO.ev,zm,mupV]
  split
  ·unfold mupO; split
   ·unfold mupF; split
    ·exact .cond .put trivial
    ·trivial
   ·trivial
  ·trivial
 | men ag ks zero m k =>
  simp only[EO.ev,zm0,menV]
  split
  ·unfold menO; split
   ·unfold menF; split
    ·exact .cond .put trivial
    ·exact .cond .put trivial
    ·trivial
   ·trivial
  ·trivial
 | est ag ks m s x =>
  simp only[EO.ev,zm1,estV]
  split
  ·refine .cond ?_ trivial
   unfold estO; split
   ·unfold estF; split
    ·exact .cond .put trivial
    ·trivial
   ·trivial
  ·trivial
 | call f args=>cases hcl
 | callv f args=>cases hcl
 | pan x=>exact absurd rfl (hp x)
section
variable {c:z06} {g n:Nat} {W:List Lo}
def noM:R→Prop
 | .pan v _ _=>∀ l,v≠.tup l
 | _=>True
def noMC:CR→Prop
 | .pan v _=>∀ l,v≠.tup l
 | _=>True
theorem noM.bind {k:Fr→E→R} {r:R} (h:noM r) (hk:∀ fr e,noM (k fr e)):noM (R.bind k r):=by
 cases r with
 | go fr e=>exact hk fr e
 | _=>exact h
theorem noM.after {d:Option Pth} {fr:Fr} {r:CR} (h:noMC r):noM (after d fr r):=by
 cases r with
 | pan v e=>exact h
 | _=>trivial
variable (H:∀ k,k < cap→∀ f args W e,noMC (c f args W (child g k) e))
include H
theorem EO.noM (o:EO) {d:Option Pth} {fr:Fr} {e:E}:noM (o.ev c g W d fr e):=by
 have hc:∀ f args W e,Abs.noM (cond (room fr.cnt) (after d fr (c f args W (child g fr.cnt) e)) .bad):=fun f args W e=>by
  cases hr:room fr.cnt with
  | false=>trivial
  | true=>exact noM.after (H _ (z1k.1 hr) f args W e)
 by_cases hp:∃ x,o=.pan x
 ·obtain⟨x,rfl⟩:=hp
  show Abs.noM (panV fr e (x.ev fr.s))
  cases x.ev fr.s with
  | ifc t v=>exact fun l h=>by cases h
  | _=>trivial
 by_cases hcl:o.isCall=true
 ·cases o with
  | call f args=>exact hc f (evs fr.s args) W e
  | callv f args =>
   show Abs.noM (z30 (evs fr.s args) c g W d fr e (f.ev fr.s))
   cases f.ev fr.s with
   | fn h a b=>exact hc h (a++evs fr.s args++b) W e
   | _=>trivial
  | _=>cases hcl
 ·have:=EO.np o (by simpa using hcl) (fun x h=>hp ⟨x,h⟩) (c:=c) (g:=g) (W:=W) (d:=d) (fr:=fr) (e:=e)
  revert this
  cases o.ev c g W d fr e with
  | pan v fr e=>exact fun h=>h.elim
  | _=>exact fun _=>trivial
theorem AO.noM (o:AO) {fr:Fr} {e:E}:noM (o.ev c g W fr e):=by
 obtain⟨d,gd,o⟩:=o
 have key:Abs.noM (o.ev c g W d fr e):=by
  cases o with
  | p o=>show Abs.noM (optV d fr e (o.ev fr.s)); cases o.ev fr.s<;>trivial
  | r o=>show Abs.noM (optV d fr e (o.ev fr.s e)); cases o.ev fr.s e<;>trivial
  | e o ws =>
   show Abs.noM (chkR fr.s e ws (o.ev c g (z0o fr.s W ws) d fr e))
   have:=EO.noM (W:=z0o fr.s W ws) H o (d:=d) (fr:=fr) (e:=e)
   revert this
   cases o.ev c g (z0o fr.s W ws) d fr e with
   | go fr' e'=>intro _; show Abs.noM (cond (z6c fr.s e e' ws) (.go fr' e') .bad); cases z6c fr.s e e' ws<;>trivial
   | _=>exact fun h=>h
 cases gd with
 | none=>exact key
 | some q =>
  obtain⟨t,w⟩:=q
  show Abs.noM (z1n w d fr e (o.ev c g W d fr e) (fr.s.get t))
  cases fr.s.get t with
  | bool b=>show Abs.noM (cond (b==w) (o.ev c g W d fr e) _); cases b==w<;>first | exact key | trivial
  | _=>trivial
theorem zk7:∀ (k:List AO) (fr:Fr) (e:E),noM (z0j c g W k fr e)
 | [],fr,e=>trivial
 | o::k,fr,e=>noM.bind (k:=z0j c g W k) (AO.noM H o) fun fr e=>zk7 k fr e
theorem zf5:∀ (k:AC) (fr:Fr) (e:E),noM (run c n g W k fr e):=by
 intro k
 induction k with
 | skip=>intro fr e; trivial
 | reg k=>intro fr e; exact zk7 H k fr e
 | seq a b iha ihb=>intro fr e; exact noM.bind (k:=run c n g W b) (iha fr e) ihb
 | cond x a b iha ihb =>
  intro fr e
  show noM (z3w (run c n g W a) (run c n g W b) fr e (x.ev fr.s))
  cases x.ev fr.s with
  | bool t =>
   cases t with
   | true=>exact iha fr e
   | false=>exact ihb fr e
  | _=>trivial
 | blk id k ih =>
  intro fr e
  show noM (R.leave id (run c n g W k fr e))
  have:=ih fr e
  revert this
  cases run c n g W k fr e with
  | exit j fr e=>intro _; show noM (cond (Nat.beq j id) (.go fr e) (.exit j fr e)); cases Nat.beq j id<;>trivial
  | _=>exact fun h=>h
 | loop k ih =>
  intro fr e
  show noM (iter (run c n g W k) n fr e)
  have key:∀ (j:Nat) (fr:Fr) (e:E),noM (iter (run c n g W k) j fr e):=by
   intro j
   induction j with
   | zero=>intro fr e; trivial
   | succ j ihj=>intro fr e; exact noM.bind (k:=iter (run c n g W k) j) (ih fr e) ihj
  exact key n fr e
 | exit id=>intro fr e; trivial
 | ret=>intro fr e; trivial
omit H in
theorem zci {o:Option (List AV × E)}:noMC (finR o):=by
 cases o with
 | none=>trivial
 | some q=>obtain⟨vs,e⟩:=q; unfold finR; split<;>trivial
end
def tupP (e:E):AV→CR
 | .tup l=>.pan (.tup l) (pop e)
 | _=>.bad
def prP:R→CR
 | .pan v _ e=>tupP e v
 | _=>.bad
def prS (c:z06) (n:Nat) (d:DF) (W:List Lo) (fid:Nat) (e:E):Fr→CR
 | ⟨s,cnt⟩=>prP (run c n fid W d.post ⟨s.set d.t (.fn d.g [] (evs s d.caps)),cnt⟩ e)
def prQ (c:z06) (n:Nat) (fi:FI) (d:DF) (W:List Lo) (fid:Nat):R→CR
 | .go fr e=>prS c n d W fid e fr
 | .ret fr e=>finR (z12 fid fr.s fi.res e)
 | .pan v _ e=>.pan v (pop e)
 | _=>.bad
def prX (c:z06) (n:Nat) (fi:FI) (W:List Lo) (fid:Nat):Option DF→R→CR
 | none=>z2m fi fid
 | some d=>prQ c n fi d W fid
def zga (c:z06) (n:Nat) (fi:FI) (args:List AV) (W:List Lo) (fid:Nat):E→CR
 | ⟨stk,glo,gl⟩=>prX c n fi W fid fi.df (run c n fid W fi.code ⟨params args 0 .nil,0⟩ ⟨⟨fid,List.replicate fi.na (0,.none,.none),[]⟩::stk,glo,gl⟩)
def prO (c:z06) (n:Nat) (args:List AV) (W:List Lo) (fid:Nat) (e:E):Option FI→CR
 | some fi=>zga c n fi args W fid e
 | none=>.bad
def z5n (c:z06) (n:Nat) (P:FuncId→Option FI) (f:FuncId) (args:List AV) (W:List Lo) (fid:Nat) (e:E):Option z07→CR
 | some g=>intrR (prO c n args W fid e (P f)) (g args W fid e)
 | none=>prO c n args W fid e (P f)
def z1g (X:XT) (P:FuncId→Option FI) (I:FuncId→Option z07):Nat→z06
 | 0=>fun _ _ _ _ _=>.bad
 | n+1=>fun f args W fid e=>orX (z5n (z1g X P I n) n P f args W fid e (I f)) (X f args W fid e)
theorem tupP_no {e:E} {v:AV} (h:∀ l,v≠.tup l):tupP e v=.bad:=by
 cases v with
 | tup l=>exact absurd rfl (h l)
 | _=>rfl
theorem prP_no {r:R} (h:noM r):prP r=.bad:=by
 cases r with
 | pan v fr e=>exact tupP_no h
 | _=>rfl
theorem tupP_or {e:E} {v:AV}:tupP e v=.bad∨tupP e v=.pan v (pop e):=by cases v<;>first | exact .inr rfl | exact .inl rfl
def Lk (m₀:AV) (c:Nat) (p r r':R):Prop:=p=.bad∨(∃ m fr e,p=.pan m fr e∧(m=m₀→r=r'∧cntR c r))∨(p=r∧r=r')
def LkC (m₀:AV) (p r r':CR):Prop:=p=.bad∨(∃ m e,p=.pan m e∧(m=m₀→r=r'))∨(p=r∧r=r')
section
variable {cp c1 c0:z06} {m₀:AV} {g k₀ n:Nat} {W:List Lo}
theorem Lk.bind {kp k k':Fr→E→R} {p r r':R} (h:Lk m₀ (k₀+1) p r r') (hk:∀ fr e,Lk m₀ (k₀+1) (kp fr e) (k fr e) (k' fr e)) (hp:∀ fr e,k₀+1≤fr.cnt→Past (k₀+1) (k fr e) (k' fr e)):Lk m₀ (k₀+1) (R.bind kp p) (R.bind k r) (R.bind k' r'):=by
 rcases h with rfl | ⟨m,fr,e,rfl,h⟩ | ⟨rfl,rfl⟩
 ·exact .inl rfl
 ·exact .inr (.inl ⟨m,fr,e,rfl,fun hm=>(Past.bind (h hm) hp)⟩)
 ·cases p with
  | go fr e=>exact hk fr e
  | _=>exact .inr (.inr ⟨rfl,rfl⟩)
theorem LkC.after {d:Option Pth} {fr:Fr} {p r r':CR} (h:LkC m₀ p r r') (hc:fr.cnt=k₀):Lk m₀ (k₀+1) (after d fr p) (after d fr r) (after d fr r'):=by
 rcases h with rfl | ⟨m,e,rfl,h⟩ | ⟨rfl,rfl⟩
 ·exact .inl rfl
 ·exact .inr (.inl ⟨m,fr.tick,e,rfl,fun hm=>by rw[h hm]; exact⟨rfl,hc ▸ za0⟩⟩)
 ·exact .inr (.inr ⟨rfl,rfl⟩)
structure Trio (m₀:AV) (g k₀:Nat) (cp c1 c0:z06):Prop where
 at':∀ f args W e,LkC m₀ (cp f args W (child g k₀) e) (c1 f args W (child g k₀) e) (c0 f args W (child g k₀) e)
 nm:∀ k,k < cap→∀ f args W e,noMC (c1 f args W (child g k) e)
 ds:∀ j,j < cap→j≠k₀→∀ k,k < cap→∀ f args W e,c1 f args W (child (child g j) k) e=c0 f args W (child (child g j) k) e
 ne:∀ k,k≠k₀→k < cap→∀ f args W e,(cp f args W (child g k) e=.bad∨cp f args W (child g k) e=c1 f args W (child g k) e)∧c1 f args W (child g k) e=c0 f args W (child g k) e
variable (H:Trio m₀ g k₀ cp c1 c0)
include H
theorem Trio.past:∀ k,k₀+1≤k→k < cap→∀ f args W e,c1 f args W (child g k) e=c0 f args W (child g k) e:=fun k h hc f args W e=>(H.ne k (by omega) hc f args W e).2
theorem zk8 {d:Option Pth} {fr:Fr} (f:FuncId) (args:List AV) (e:E):Lk m₀ (k₀+1) (cond (room fr.cnt) (after d fr (cp f args W (child g fr.cnt) e)) .bad) (cond (room fr.cnt) (after d fr (c1 f args W (child g fr.cnt) e)) .bad) (cond (room fr.cnt) (after d fr (c0 f args W (child g fr.cnt) e)) .bad):=by
 cases hr:room fr.cnt with
 | false=>exact .inl rfl
 | true =>
  by_cases hk:fr.cnt=k₀
  ·have:=H.at' f args W e
   rw[← hk] at this
   exact LkC.after this hk
  ·obtain⟨h1,h2⟩:=H.ne fr.cnt hk (z1k.1 hr) f args W e
   rcases h1 with h1 | h1
   ·exact .inl (by rw[h1]; rfl)
   ·exact .inr (.inr ⟨by rw[h1],by rw[h2]⟩)
theorem EO.lk (o:EO) {d:Option Pth} {fr:Fr} {e:E}:Lk m₀ (k₀+1) (o.ev cp g W d fr e) (o.ev c1 g W d fr e) (o.ev c0 g W d fr e):=by
 cases o with
 | call f args=>exact zk8 H f (evs fr.s args) e
 | callv f args =>
  show Lk m₀ (k₀+1) (z30 (evs fr.s args) cp g W d fr e (f.ev fr.s)) (z30 (evs fr.s args) c1 g W d fr e (f.ev fr.s)) (z30 (evs fr.s args) c0 g W d fr e (f.ev fr.s))
  cases f.ev fr.s with
  | fn h a b=>exact zk8 H h (a++evs fr.s args++b) e
  | _=>exact .inl rfl
 | _=>exact .inr (.inr ⟨rfl,rfl⟩)
omit H in
theorem Lk.chk {s:Tm} {e:E} {ws:List WX} {p r r':R} (h:Lk m₀ (k₀+1) p r r'):Lk m₀ (k₀+1) (chkR s e ws p) (chkR s e ws r) (chkR s e ws r'):=by
 rcases h with rfl | ⟨m,fr,e1,rfl,h⟩ | ⟨rfl,rfl⟩
 ·exact .inl rfl
 ·refine .inr (.inl ⟨m,fr,e1,rfl,fun hm=>?_⟩)
  obtain⟨rfl,h2⟩:=h hm
  exact⟨rfl,zk5 h2⟩
 ·exact .inr (.inr ⟨rfl,rfl⟩)
theorem AO.lk (o:AO) {fr:Fr} {e:E}:Lk m₀ (k₀+1) (o.ev cp g W fr e) (o.ev c1 g W fr e) (o.ev c0 g W fr e):=by
 obtain⟨d,gd,o⟩:=o
 have key:Lk m₀ (k₀+1) (o.ev cp g W d fr e) (o.ev c1 g W d fr e) (o.ev c0 g W d fr e):=by
  cases o with
  | p o=>exact .inr (.inr ⟨rfl,rfl⟩)
  | r o=>exact .inr (.inr ⟨rfl,rfl⟩)
  | e o ws=>exact Lk.chk (EO.lk H o)
 cases gd with
 | none=>exact key
 | some q =>
  obtain⟨t,w⟩:=q
  show Lk m₀ (k₀+1) (z1n w d fr e (o.ev cp g W d fr e) (fr.s.get t)) (z1n w d fr e (o.ev c1 g W d fr e) (fr.s.get t)) (z1n w d fr e (o.ev c0 g W d fr e) (fr.s.get t))
  cases fr.s.get t with
  | bool b =>
   show Lk m₀ (k₀+1) (cond (b==w) (o.ev cp g W d fr e) _) (cond (b==w) (o.ev c1 g W d fr e) _) (cond (b==w) (o.ev c0 g W d fr e) _)
   cases b==w with
   | true=>exact key
   | false=>exact .inr (.inr ⟨rfl,rfl⟩)
  | _=>exact .inr (.inr ⟨rfl,rfl⟩)
theorem ops_lk:∀ (l:List AO) (fr:Fr) (e:E),Lk m₀ (k₀+1) (z0j cp g W l fr e) (z0j c1 g W l fr e) (z0j c0 g W l fr e)
 | [],fr,e=>.inr (.inr ⟨rfl,rfl⟩)
 | o::l,fr,e=>Lk.bind (kp:=z0j cp g W l) (k:=z0j c1 g W l) (k':=z0j c0 g W l) (AO.lk H o) (fun fr e=>ops_lk l fr e) fun fr e h=>zch H.past l fr e h
theorem run_lk:∀ (k:AC) (fr:Fr) (e:E),Lk m₀ (k₀+1) (run cp n g W k fr e) (run c1 n g W k fr e) (run c0 n g W k fr e):=by
 intro k
 induction k with
 | skip=>intro fr e; exact .inr (.inr ⟨rfl,rfl⟩)
 | reg l=>intro fr e; exact ops_lk H l fr e
 | seq a b iha ihb=>intro fr e; exact Lk.bind (kp:=run cp n g W b) (k:=run c1 n g W b) (k':=run c0 n g W b) (iha fr e) ihb fun fr e h=>z4x H.past b fr e h
 | cond x a b iha ihb =>
  intro fr e
  show Lk m₀ (k₀+1) (z3w (run cp n g W a) (run cp n g W b) fr e (x.ev fr.s)) (z3w (run c1 n g W a) (run c1 n g W b) fr e (x.ev fr.s)) (z3w (run c0 n g W a) (run c0 n g W b) fr e (x.ev fr.s))
  cases x.ev fr.s with
  | bool t =>
   cases t with
   | true=>exact iha fr e
   | false=>exact ihb fr e
  | _=>exact .inl rfl
 | blk id k ih =>
  intro fr e
  show Lk m₀ (k₀+1) (R.leave id (run cp n g W k fr e)) (R.leave id (run c1 n g W k fr e)) (R.leave id (run c0 n g W k fr e))
  rcases ih fr e with h | ⟨m,fr1,e1,h,h2⟩ | ⟨h,h2⟩
  ·exact .inl (by rw[h]; rfl)
  ·refine .inr (.inl ⟨m,fr1,e1,by rw[h]; rfl,fun hm=>?_⟩)
   obtain⟨h3,h4⟩:=h2 hm
   refine⟨by rw[h3],?_⟩
   revert h4
   cases run c1 n g W k fr e with
   | exit j fr e=>intro h2; show cntR (k₀+1) (cond (Nat.beq j id) (.go fr e) (.exit j fr e)); cases Nat.beq j id<;>exact h2
   | _=>exact fun h=>h
  ·exact .inr (.inr ⟨by rw[h],by rw[h2]⟩)
 | loop k ih =>
  intro fr e
  show Lk m₀ (k₀+1) (iter (run cp n g W k) n fr e) (iter (run c1 n g W k) n fr e) (iter (run c0 n g W k) n fr e)
  have keyP:∀ (j:Nat) (fr:Fr) (e:E),k₀+1≤fr.cnt→Past (k₀+1) (iter (run c1 n g W k) j fr e) (iter (run c0 n g W k) j fr e):=by
   intro j
   induction j with
   | zero=>intro fr e _; exact⟨rfl,trivial⟩
   | succ j ihj=>intro fr e h; exact Past.bind (k:=iter (run c1 n g W k) j) (k':=iter (run c0 n g W k) j) (z4x H.past k fr e h) ihj
  have key:∀ (j:Nat) (fr:Fr) (e:E),Lk m₀ (k₀+1) (iter (run cp n g W k) j fr e) (iter (run c1 n g W k) j fr e) (iter (run c0 n g W k) j fr e):=by
   intro j
   induction j with
   | zero=>intro fr e; exact .inl rfl
   | succ j ihj=>intro fr e; exact Lk.bind (kp:=iter (run cp n g W k) j) (k:=iter (run c1 n g W k) j) (k':=iter (run c0 n g W k) j) (ih fr e) ihj (keyP j)
  exact key n fr e
 | exit id=>intro fr e; exact .inr (.inr ⟨rfl,rfl⟩)
 | ret=>intro fr e; exact .inr (.inr ⟨rfl,rfl⟩)
theorem zcj {fi:FI} {d:DF} {s:Tm} {caps:List AV} {v:AV} {cnt:Nat} {e:E} (hc:k₀+1≤cnt):z1t c1 n fi d W g s caps v cnt e=z1t c0 n fi d W g s caps v cnt e:=by
 obtain⟨stk,glo,gl⟩:=e
 show cond (room cnt) (z1j fi g s (run c1 n (child g cnt) W d.code _ _)) .bad=cond (room cnt) (z1j fi g s (run c0 n (child g cnt) W d.code _ _)) .bad
 cases hr:room cnt with
 | false=>rfl
 | true=>rw[(z4x (c:=0) (fun k _ hk f args W e=>H.ds cnt (z1k.1 hr) (by omega) k hk f args W e) d.code _ _ (Nat.zero_le _)).1]
theorem zbe {fi:FI} {d:DF} {s:Tm} {caps:List AV} {r:R} (hc:cntR (k₀+1) r):z3x c1 n fi d W g s caps r=z3x c0 n fi d W g s caps r:=by
 cases r with
 | go fr e=>exact zcj H hc
 | ret fr e=>exact zcj H hc
 | pan v fr e=>exact zcj H hc
 | _=>rfl
theorem zhp {fi:FI} {r:R} (hc:cntR (k₀+1) r):∀ (o:Option DF),z31 c1 n fi W g o r=z31 c0 n fi W g o r
 | none=>rfl
 | some d=>by
  show z45 c1 n fi d W g r=z45 c0 n fi d W g r
  cases r with
  | go fr e =>
   obtain⟨s,cnt⟩:=fr
   show z3x c1 n fi d W g s (evs s d.caps) (run c1 n g W d.post ⟨s.set d.t (.fn d.g [] (evs s d.caps)),cnt⟩ e)=z3x c0 n fi d W g s (evs s d.caps) (run c0 n g W d.post ⟨s.set d.t (.fn d.g [] (evs s d.caps)),cnt⟩ e)
   obtain⟨h1,h2⟩:=z4x (n:=n) (W:=W) H.past d.post ⟨s.set d.t (.fn d.g [] (evs s d.caps)),cnt⟩ e hc
   rw[← h1]
   exact zbe H h2
  | _=>rfl
theorem zk9 {fi:FI} {args:List AV} {e:E}:LkC m₀ (zga cp n fi args W g e) (body c1 n fi args W g e) (body c0 n fi args W g e):=by
 obtain⟨stk,glo,gl⟩:=e
 have h:=run_lk (n:=n) (W:=W) H fi.code ⟨params args 0 .nil,0⟩ ⟨⟨g,List.replicate fi.na (0,.none,.none),[]⟩::stk,glo,gl⟩
 show LkC m₀ (prX cp n fi W g fi.df (run cp n g W fi.code ⟨params args 0 .nil,0⟩ ⟨⟨g,List.replicate fi.na (0,.none,.none),[]⟩::stk,glo,gl⟩)) (z31 c1 n fi W g fi.df (run c1 n g W fi.code ⟨params args 0 .nil,0⟩ ⟨⟨g,List.replicate fi.na (0,.none,.none),[]⟩::stk,glo,gl⟩)) (z31 c0 n fi W g fi.df (run c0 n g W fi.code ⟨params args 0 .nil,0⟩ ⟨⟨g,List.replicate fi.na (0,.none,.none),[]⟩::stk,glo,gl⟩))
 rcases h with h | ⟨m,fr1,e1,h,h2⟩ | ⟨h,h2⟩
 ·rw[h]; exact .inl (by cases fi.df<;>rfl)
 ·rw[h]
  refine .inr (.inl ⟨m,pop e1,by cases fi.df<;>rfl,fun hm=>?_⟩)
  obtain⟨h3,h4⟩:=h2 hm
  rw[← h3]
  exact zhp H h4 fi.df
 ·rw[h,← h2]
  generalize run c1 n g W fi.code ⟨params args 0 .nil,0⟩ ⟨⟨g,List.replicate fi.na (0,.none,.none),[]⟩::stk,glo,gl⟩=x
  cases fi.df with
  | none=>exact .inr (.inr ⟨rfl,rfl⟩)
  | some d =>
   show LkC m₀ (prQ cp n fi d W g x) (z45 c1 n fi d W g x) (z45 c0 n fi d W g x)
   cases x with
   | go fr e =>
    obtain⟨s,cnt⟩:=fr
    show LkC m₀ (prP (run cp n g W d.post ⟨s.set d.t (.fn d.g [] (evs s d.caps)),cnt⟩ e)) (z3x c1 n fi d W g s (evs s d.caps) (run c1 n g W d.post ⟨s.set d.t (.fn d.g [] (evs s d.caps)),cnt⟩ e)) (z3x c0 n fi d W g s (evs s d.caps) (run c0 n g W d.post ⟨s.set d.t (.fn d.g [] (evs s d.caps)),cnt⟩ e))
    have hn:=zf5 (n:=n) (W:=W) H.nm d.post ⟨s.set d.t (.fn d.g [] (evs s d.caps)),cnt⟩ e
    rcases run_lk (n:=n) (W:=W) H d.post ⟨s.set d.t (.fn d.g [] (evs s d.caps)),cnt⟩ e with h | ⟨m,fr1,e1,h,h2⟩ | ⟨h,h2⟩
    ·rw[h]; exact .inl rfl
    ·rw[h]
     rcases tupP_or (e:=e1) (v:=m) with h3 | h3
     ·exact .inl h3
     ·refine .inr (.inl ⟨m,pop e1,h3,fun hm=>?_⟩)
      obtain⟨h4,h5⟩:=h2 hm
      rw[← h4]
      exact zbe H h5
    ·rw[h]; exact .inl (prP_no hn)
   | _=>exact .inr (.inr ⟨rfl,rfl⟩)
end
theorem Sub.down {x F:Nat} (h:Sub x F) (hne:F≠x):∃ k,k < cap∧Sub (child x k) F:=by
 induction h with
 | refl=>exact absurd rfl hne
 | @step y c h hc ih =>
  by_cases hy:y=x
  ·subst hy; exact⟨c,hc,.refl⟩
  ·obtain⟨k,h1,h2⟩:=ih hy; exact⟨k,h1,.step h2 hc⟩
theorem zbf {c c':z06} {x n:Nat} {fi:FI} {args:List AV} {W:List Lo} {e:E} (H:∀ y,Sub x y→y≠x→∀ f args W e,c f args W y e=c' f args W y e):body c n fi args W x e=body c' n fi args W x e:=by
 have hrun:∀ (k:AC) (fr:Fr) (e:E),run c n x W k fr e=run c' n x W k fr e:=fun k fr e =>
  (z4x (c:=0) (fun k _ hc f args W e=>H _ (.step .refl hc) (zna x k) f args W e) k fr e (Nat.zero_le _)).1
 have hrun2:∀ (j:Nat),j < cap→∀ (k:AC) (fr:Fr) (e:E),run c n (child x j) W k fr e=run c' n (child x j) W k fr e:=fun j hj k fr e =>
  (z4x (c:=0) (fun k _ hc f args W e=>H _ (.step (.step .refl hj) hc) (by have:=z29 x j; have:=z29 (child x j) k; omega) f args W e) k fr e (Nat.zero_le _)).1
 have hd:∀ (d:DF) (s:Tm) (caps:List AV) (v:AV) (cnt:Nat) (e:E),z1t c n fi d W x s caps v cnt e=z1t c' n fi d W x s caps v cnt e:=by
  intro d s caps v cnt e
  obtain⟨stk,glo,gl⟩:=e
  show cond (room cnt) (z1j fi x s (run c n (child x cnt) W d.code _ _)) .bad=cond (room cnt) (z1j fi x s (run c' n (child x cnt) W d.code _ _)) .bad
  cases hr:room cnt with
  | false=>rfl
  | true=>rw[hrun2 cnt (z1k.1 hr)]
 obtain⟨stk,glo,gl⟩:=e
 show z31 c n fi W x fi.df (run c n x W fi.code _ _)=z31 c' n fi W x fi.df (run c' n x W fi.code _ _)
 rw[hrun]
 cases fi.df with
 | none=>rfl
 | some d =>
  show z45 c n fi d W x _=z45 c' n fi d W x _
  cases run c' n x W fi.code ⟨params args 0 .nil,0⟩ ⟨⟨x,List.replicate fi.na (0,.none,.none),[]⟩::stk,glo,gl⟩ with
  | go fr e =>
   obtain⟨s,cnt⟩:=fr
   show z3x c n fi d W x s (evs s d.caps) (run c n x W d.post ⟨s.set d.t (.fn d.g [] (evs s d.caps)),cnt⟩ e)=z3x c' n fi d W x s (evs s d.caps) (run c' n x W d.post ⟨s.set d.t (.fn d.g [] (evs s d.caps)),cnt⟩ e)
   rw[hrun]
   cases run c' n x W d.post ⟨s.set d.t (.fn d.g [] (evs s d.caps)),cnt⟩ e with
   | go fr e=>exact hd ..
   | ret fr e=>exact hd ..
   | pan v fr e=>exact hd ..
   | _=>rfl
  | _=>rfl
theorem zgb {cp c1:z06} {x n:Nat} {W:List Lo} (H:∀ k,k < cap→∀ f args W e,cp f args W (child x k) e=.bad∨cp f args W (child x k) e=c1 f args W (child x k) e) (k:AC) (fr:Fr) (e:E) :
  run cp n x W k fr e=.bad∨run cp n x W k fr e=run c1 n x W k fr e:=by
 classical
 let cq:z06:=fun f args W y e=>if ∃ k,k < cap∧y=child x k then cp f args W y e else .bad
 have h1:∀ (k:AC) (fr:Fr) (e:E),run cp n x W k fr e=run cq n x W k fr e:=fun k fr e =>
  (z4x (c:=0) (fun k _ hc f args W e=>by show _=if _ then _ else _; rw[if_pos ⟨k,hc,rfl⟩]) k fr e (Nat.zero_le _)).1
 have h2:CLe cq c1:=fun f args W y e hb=>by
  by_cases hy:∃ k,k < cap∧y=child x k
  ·have h3:cq f args W y e=cp f args W y e:=if_pos hy
   rw[h3] at hb ⊢
   obtain⟨k,hk,rfl⟩:=hy
   rcases H k hk f args W e with h | h
   ·exact absurd h hb
   ·exact h.symm
  ·exact absurd (if_neg hy) hb
 rw[h1]
 by_cases hb:run cq n x W k fr e=.bad
 ·exact .inl hb
 ·exact .inr (z8t h2 (Nat.le_refl n) k hb).symm
theorem zdz {cp c1:z06} {x n:Nat} {fi:FI} {args:List AV} {W:List Lo} {e:E} (H:∀ k,k < cap→∀ f args W e,cp f args W (child x k) e=.bad∨cp f args W (child x k) e=c1 f args W (child x k) e) (hn:∀ k,k < cap→∀ f args W e,noMC (c1 f args W (child x k) e)) :
  zga cp n fi args W x e=.bad∨zga cp n fi args W x e=body c1 n fi args W x e:=by
 obtain⟨stk,glo,gl⟩:=e
 show prX cp n fi W x fi.df (run cp n x W fi.code ⟨params args 0 .nil,0⟩ ⟨⟨x,List.replicate fi.na (0,.none,.none),[]⟩::stk,glo,gl⟩)=.bad∨prX cp n fi W x fi.df (run cp n x W fi.code ⟨params args 0 .nil,0⟩ ⟨⟨x,List.replicate fi.na (0,.none,.none),[]⟩::stk,glo,gl⟩)=z31 c1 n fi W x fi.df (run c1 n x W fi.code ⟨params args 0 .nil,0⟩ ⟨⟨x,List.replicate fi.na (0,.none,.none),[]⟩::stk,glo,gl⟩)
 rcases zgb (n:=n) (W:=W) H fi.code ⟨params args 0 .nil,0⟩ ⟨⟨x,List.replicate fi.na (0,.none,.none),[]⟩::stk,glo,gl⟩ with h | h
 ·rw[h]; exact .inl (by cases fi.df<;>rfl)
 ·rw[h]
  generalize run c1 n x W fi.code ⟨params args 0 .nil,0⟩ ⟨⟨x,List.replicate fi.na (0,.none,.none),[]⟩::stk,glo,gl⟩=y
  cases fi.df with
  | none=>exact .inr rfl
  | some d =>
   cases y with
   | go fr e =>
    obtain⟨s,cnt⟩:=fr
    refine .inl ?_
    show prP (run cp n x W d.post ⟨s.set d.t (.fn d.g [] (evs s d.caps)),cnt⟩ e)=.bad
    rcases zgb (n:=n) (W:=W) H d.post ⟨s.set d.t (.fn d.g [] (evs s d.caps)),cnt⟩ e with h | h
    ·rw[h]; rfl
    ·rw[h]; exact prP_no (zf5 hn d.post _ e)
   | _=>exact .inr rfl
def mark (f:FuncId) (args:List AV) (W:List Lo):AV:=.tup (.int .i64 (.ofNat f)::.agg (W.map fun l=>.ptr l 0)::args)
theorem zgc:∀ {W W':List Lo},(W.map fun l=>AV.ptr l 0)=W'.map (fun l=>AV.ptr l 0)→W=W'
 | [],[],_=>rfl
 | [],_::_,h=>by cases h
 | _::_,[],h=>by cases h
 | a::W,b::W',h=>by
  simp only[List.map_cons,List.cons.injEq,AV.ptr.injEq,and_true] at h
  rw[h.1,zgc h.2]
def ansX (F:Nat) (v:AV) (X:XT):XT:=fun f args W fid e=>cond (Nat.beq fid F) (some (.ret v e)) (X f args W fid e)
def z1d (F:Nat) (X:XT):XT:=fun f args W fid e=>cond (Nat.beq fid F) (some (.pan (mark f args W) e)) (X f args W fid e)
open Classical in
def z2l (F:Nat) (m₀ v:AV) (X:XT):XT:=fun f args W fid e=>cond (Nat.beq fid F) (if mark f args W=m₀ then some (.ret v e) else none) (X f args W fid e)
def XnoM (X:XT):Prop:=∀ f args W fid e r,X f args W fid e=some r→noMC r
theorem znb {c:z06} {g n:Nat} {W:List Lo} (H:∀ k,k < cap→∀ f args W e,noMC (c f args W (child g k) e)) {fi:FI} {args:List AV} {e:E}:noMC (body c n fi args W g e):=by
 obtain⟨stk,glo,gl⟩:=e
 have h:=zf5 (n:=n) (W:=W) H fi.code ⟨params args 0 .nil,0⟩ ⟨⟨g,List.replicate fi.na (0,.none,.none),[]⟩::stk,glo,gl⟩
 show noMC (z31 c n fi W g fi.df (run c n g W fi.code ⟨params args 0 .nil,0⟩ ⟨⟨g,List.replicate fi.na (0,.none,.none),[]⟩::stk,glo,gl⟩))
 generalize run c n g W fi.code ⟨params args 0 .nil,0⟩ ⟨⟨g,List.replicate fi.na (0,.none,.none),[]⟩::stk,glo,gl⟩=x at h
 cases fi.df with
 | none=>cases x<;>first | exact zci | exact h | trivial
 | some d =>
  show noMC (z45 c n fi d W g x)
  cases x with
  | go fr e =>
   obtain⟨s,cnt⟩:=fr
   show noMC (z3x c n fi d W g s (evs s d.caps) (run c n g W d.post ⟨s.set d.t (.fn d.g [] (evs s d.caps)),cnt⟩ e))
   have hd:∀ v cnt e,noMC (z1t c n fi d W g s (evs s d.caps) v cnt e):=fun v cnt e=>by
    obtain⟨stk,glo,gl⟩:=e
    show noMC (cond (room cnt) (z1j fi g s (run c n (child g cnt) W d.code _ _)) .bad)
    cases room cnt with
    | false=>trivial
    | true =>
     show noMC (z1j fi g s _)
     cases run c n (child g cnt) W d.code ⟨z26 d.rc v (params (evs s d.caps) 0 .nil),0⟩ ⟨⟨child g cnt,List.replicate d.na (0,.none,.none),[]⟩::stk,glo,gl⟩<;>first | exact zci | trivial
   cases run c n g W d.post ⟨s.set d.t (.fn d.g [] (evs s d.caps)),cnt⟩ e<;>first | exact hd .. | trivial
  | ret fr e=>exact zci
  | pan v fr e=>exact h
  | _=>trivial
theorem z5o {X:XT} (hX:XnoM X) {P:FuncId→Option FI} {I:FuncId→Option z07}:∀ (n:Nat) f args W x e,noMC (z0w X P I n f args W x e)
 | 0,_,_,_,_,_=>trivial
 | n+1,f,args,W,x,e=>by
  show noMC (orX (z1u (z0w X P I n) n P f args W x e (I f)) (X f args W x e))
  cases hx:X f args W x e with
  | some r=>exact hX f args W x e r hx
  | none =>
   show noMC (z1u (z0w X P I n) n P f args W x e (I f))
   have key:noMC (z2j (z0w X P I n) n args W x e (P f)):=by
    cases P f with
    | none=>trivial
    | some fi=>exact znb fun k _ f args W e=>z5o hX n f args W _ e
   cases I f with
   | none=>exact key
   | some g =>
    show noMC (intrR _ (g args W x e))
    cases g args W x e with
    | none=>exact key
    | some q=>trivial
theorem z64 {X:XT} (hX:XnoM X) {F:Nat} {v:AV}:XnoM (ansX F v X):=fun f args W fid e r hr=>by
 unfold ansX at hr
 cases hb:Nat.beq fid F with
 | true=>rw[hb] at hr; cases hr; trivial
 | false=>rw[hb] at hr; exact hX f args W fid e r hr
section
variable {P:FuncId→Option FI} {I:FuncId→Option z07} {X:XT} {F:Nat} {m₀ v:AV}
theorem za2 (hX:XnoM X):∀ (n x:Nat),¬ Sub x F→∀ f args W e,
  (z1g (z1d F X) P I n f args W x e=.bad∨z1g (z1d F X) P I n f args W x e=z0w (ansX F v X) P I n f args W x e)∧z0w (ansX F v X) P I n f args W x e=z0w (z2l F m₀ v X) P I n f args W x e
 | 0,_,_,_,_,_,_=>⟨.inl rfl,rfl⟩
 | n+1,x,hx,f,args,W,e=>by
  have hne:Nat.beq x F=false:=by
   cases hb:Nat.beq x F with
   | false=>rfl
   | true=>rw[Nat.eq_of_beq_eq_true hb] at hx; exact absurd .refl hx
  have IH:=za2 hX n
  show (orX (z5n _ n P f args W x e (I f)) (cond (Nat.beq x F) _ _)=.bad∨orX (z5n _ n P f args W x e (I f)) (cond (Nat.beq x F) _ _)=orX (z1u _ n P f args W x e (I f)) (cond (Nat.beq x F) _ _))∧orX (z1u _ n P f args W x e (I f)) (cond (Nat.beq x F) _ _)=orX (z1u _ n P f args W x e (I f)) (cond (Nat.beq x F) _ _)
  rw[hne]
  simp only[cond_false]
  cases X f args W x e with
  | some r=>exact⟨.inr rfl,rfl⟩
  | none =>
   simp only[orX]
   have key:(prO (z1g (z1d F X) P I n) n args W x e (P f)=.bad∨prO (z1g (z1d F X) P I n) n args W x e (P f)=z2j (z0w (ansX F v X) P I n) n args W x e (P f)) ∧
     z2j (z0w (ansX F v X) P I n) n args W x e (P f)=z2j (z0w (z2l F m₀ v X) P I n) n args W x e (P f):=by
    cases hP:P f with
    | none=>exact⟨.inl rfl,rfl⟩
    | some fi =>
     exact⟨zdz (fun k hk f args W e=>(IH _ (fun h=>hx ((Sub.step .refl hk).trans h)) f args W e).1) (fun k _ f args W e=>z5o (z64 hX) n f args W _ e),zbf fun y hy _ f args W e=>(IH y (fun h=>hx (hy.trans h)) f args W e).2⟩
   cases hI:I f with
   | none=>exact key
   | some g =>
    simp only[z1u,z5n]
    cases g args W x e with
    | none=>exact key
    | some q=>exact⟨.inr rfl,rfl⟩
open Classical in
theorem zgd (hX:XnoM X):∀ (n x:Nat),Sub x F→∀ f args W e,
  LkC m₀ (z1g (z1d F X) P I n f args W x e) (z0w (ansX F v X) P I n f args W x e) (z0w (z2l F m₀ v X) P I n f args W x e)
 | 0,_,_,_,_,_,_=>.inl rfl
 | n+1,x,hx,f,args,W,e=>by
  have IH:=zgd hX n
  by_cases hxF:x=F
  ·subst hxF
   have hb:Nat.beq x x=true:=by simp
   show LkC m₀ (orX _ (cond (Nat.beq x x) _ _)) (orX _ (cond (Nat.beq x x) _ _)) (orX _ (cond (Nat.beq x x) _ _))
   rw[hb]
   refine .inr (.inl ⟨mark f args W,e,rfl,fun hm=>?_⟩)
   show _=orX _ (if mark f args W=m₀ then some (.ret v e) else none)
   rw[if_pos hm]; rfl
  ·have hne:Nat.beq x F=false:=by
    cases hb:Nat.beq x F with
    | false=>rfl
    | true=>exact absurd (Nat.eq_of_beq_eq_true hb) hxF
   obtain⟨k₀,hk₀,hs⟩:=hx.down (Ne.symm hxF)
   have T:Trio m₀ x k₀ (z1g (z1d F X) P I n) (z0w (ansX F v X) P I n) (z0w (z2l F m₀ v X) P I n) :=
    ⟨fun f args W e=>IH _ hs f args W e,fun k _ f args W e=>z5o (z64 hX) n f args W _ e,fun j hj hne k hk f args W e=>(za2 hX n _ (fun h=>hne (Sub.child_eq hj hk₀ ((Sub.step .refl hk).trans h) hs)) f args W e).2,fun k hk hc f args W e=>za2 hX n _ (fun h=>hk (Sub.child_eq hc hk₀ h hs)) f args W e⟩
   show LkC m₀ (orX (z5n _ n P f args W x e (I f)) (cond (Nat.beq x F) _ _)) (orX (z1u _ n P f args W x e (I f)) (cond (Nat.beq x F) _ _)) (orX (z1u _ n P f args W x e (I f)) (cond (Nat.beq x F) _ _))
   rw[hne]
   simp only[cond_false]
   cases X f args W x e with
   | some r=>exact .inr (.inr ⟨rfl,rfl⟩)
   | none =>
    simp only[orX]
    have key:LkC m₀ (prO (z1g (z1d F X) P I n) n args W x e (P f)) (z2j (z0w (ansX F v X) P I n) n args W x e (P f)) (z2j (z0w (z2l F m₀ v X) P I n) n args W x e (P f)):=by
     cases hP:P f with
     | none=>exact .inl rfl
     | some fi =>
      exact zk9 T
    cases hI:I f with
    | none=>exact key
    | some g =>
     simp only[z1u,z5n]
     cases g args W x e with
     | none=>exact key
     | some q=>exact .inr (.inr ⟨rfl,rfl⟩)
theorem orc (hX:XnoM X) {n x:Nat} {f:FuncId} {args:List AV} {W:List Lo} {e e':E} (hx:Sub x F) (hp:z1g (z1d F X) P I n f args W x e=.pan m₀ e') :
  z0w (z2l F m₀ v X) P I n f args W x e=z0w (ansX F v X) P I n f args W x e:=by
 rcases zgd (P:=P) (I:=I) (m₀:=m₀) (v:=v) hX n x hx f args W e with h | ⟨m,e1,h,h2⟩ | ⟨h,h2⟩
 ·rw[hp] at h; cases h
 ·rw[hp] at h; cases h; exact(h2 rfl).symm
 ·exact h2.symm
end
section
variable {P:FuncId→Option FI} {I:FuncId→Option z07} {c:z06} {n:Nat} {W:List Lo} {fid:Nat}
theorem zck (h:CLe c (cal P I)) {k:AC} {fr:Fr} {e:E} (hb:run c n fid W k fr e≠.bad):∃ N,∀ m,N≤m→run (z09 P I m) m fid W k fr e=run c n fid W k fr e :=
 z9v k (zjp h k hb) hb
theorem zcl (h:CLe c (cal P I)) {fi:FI} {d:DF} {s:Tm} {caps:List AV} {v:AV} {cnt:Nat} {e:E} (hb:z1t c n fi d W fid s caps v cnt e≠.bad):∃ N,∀ m,N≤m→z1t (z09 P I m) m fi d W fid s caps v cnt e=z1t c n fi d W fid s caps v cnt e:=by
 obtain⟨stk,glo,gl⟩:=e
 change cond (room cnt) (z1j fi fid s (run c n (child fid cnt) W d.code _ _)) .bad≠.bad at hb
 show ∃ N,∀ m,N≤m→cond (room cnt) (z1j fi fid s (run (z09 P I m) m (child fid cnt) W d.code _ _)) .bad=cond (room cnt) (z1j fi fid s (run c n (child fid cnt) W d.code _ _)) .bad
 cases hr:room cnt with
 | false=>exact⟨0,fun _ _=>rfl⟩
 | true =>
  rw[hr] at hb
  have hx:run c n (child fid cnt) W d.code ⟨z26 d.rc v (params caps 0 .nil),0⟩ ⟨⟨child fid cnt,List.replicate d.na (0,.none,.none),[]⟩::stk,glo,gl⟩≠.bad:=by
   intro h'; rw[h'] at hb; exact hb rfl
  obtain⟨N,hN⟩:=zck h hx
  exact⟨N,fun m hm=>by rw[hN m hm]⟩
theorem zka (h:CLe c (cal P I)) {fi:FI} {args:List AV} {e:E} (hb:body c n fi args W fid e≠.bad):∃ N,∀ m,N≤m→body (z09 P I m) m fi args W fid e=body c n fi args W fid e:=by
 obtain⟨stk,glo,gl⟩:=e
 change z31 c n fi W fid fi.df (run c n fid W fi.code ⟨params args 0 .nil,0⟩ ⟨⟨fid,List.replicate fi.na (0,.none,.none),[]⟩::stk,glo,gl⟩)≠.bad at hb
 show ∃ N,∀ m,N≤m→z31 (z09 P I m) m fi W fid fi.df (run (z09 P I m) m fid W fi.code ⟨params args 0 .nil,0⟩ ⟨⟨fid,List.replicate fi.na (0,.none,.none),[]⟩::stk,glo,gl⟩)=z31 c n fi W fid fi.df (run c n fid W fi.code ⟨params args 0 .nil,0⟩ ⟨⟨fid,List.replicate fi.na (0,.none,.none),[]⟩::stk,glo,gl⟩)
 have hx:run c n fid W fi.code ⟨params args 0 .nil,0⟩ ⟨⟨fid,List.replicate fi.na (0,.none,.none),[]⟩::stk,glo,gl⟩≠.bad:=by
  intro h'; rw[h'] at hb
  cases hd:fi.df with
  | none=>rw[hd] at hb; exact hb rfl
  | some d=>rw[hd] at hb; exact hb rfl
 obtain⟨N,hN⟩:=zck h hx
 generalize run c n fid W fi.code ⟨params args 0 .nil,0⟩ ⟨⟨fid,List.replicate fi.na (0,.none,.none),[]⟩::stk,glo,gl⟩=x at hb hN hx
 cases hd:fi.df with
 | none=>exact⟨N,fun m hm=>by rw[hN m hm]; rfl⟩
 | some d =>
  rw[hd] at hb
  have key:∃ N',∀ m,N'≤m→z45 (z09 P I m) m fi d W fid x=z45 c n fi d W fid x:=by
   change z45 c n fi d W fid x≠.bad at hb
   cases x with
   | go fr e =>
    obtain⟨s,cnt⟩:=fr
    change z3x c n fi d W fid s (evs s d.caps) (run c n fid W d.post ⟨s.set d.t (.fn d.g [] (evs s d.caps)),cnt⟩ e)≠.bad at hb
    show ∃ N',∀ m,N'≤m→z3x (z09 P I m) m fi d W fid s (evs s d.caps) (run (z09 P I m) m fid W d.post ⟨s.set d.t (.fn d.g [] (evs s d.caps)),cnt⟩ e)=z3x c n fi d W fid s (evs s d.caps) (run c n fid W d.post ⟨s.set d.t (.fn d.g [] (evs s d.caps)),cnt⟩ e)
    have hy:run c n fid W d.post ⟨s.set d.t (.fn d.g [] (evs s d.caps)),cnt⟩ e≠.bad:=by intro h'; rw[h'] at hb; exact hb rfl
    obtain⟨N1,hN1⟩:=zck h hy
    generalize run c n fid W d.post ⟨s.set d.t (.fn d.g [] (evs s d.caps)),cnt⟩ e=y at hb hN1 hy
    have k2:∃ N2,∀ m,N2≤m→z3x (z09 P I m) m fi d W fid s (evs s d.caps) y=z3x c n fi d W fid s (evs s d.caps) y:=by
     cases y with
     | go fr e=>exact zcl h hb
     | ret fr e=>exact zcl h hb
     | pan v fr e=>exact zcl h hb
     | _=>exact⟨0,fun _ _=>rfl⟩
    obtain⟨N2,hN2⟩:=k2
    exact⟨max N1 N2,fun m hm=>by rw[hN1 m (by omega)]; exact hN2 m (by omega)⟩
   | _=>exact⟨0,fun _ _=>rfl⟩
  obtain⟨N',hN'⟩:=key
  exact⟨max N N',fun m hm=>by rw[hN m (by omega)]; exact hN' m (by omega)⟩
theorem z70 {X:XT} (hX:∀ f args W fid e r,X f args W fid e=some r→r≠.bad→cal P I f args W fid e=r):∀ n,CLe (z0w X P I n) (cal P I)
 | 0=>fun f args W fid e hb=>absurd rfl hb
 | n+1=>fun f args W fid e hb=>by
  have IH:=z70 hX n
  change orX (z1u (z0w X P I n) n P f args W fid e (I f)) (X f args W fid e)≠.bad at hb
  show cal P I f args W fid e=orX (z1u (z0w X P I n) n P f args W fid e (I f)) (X f args W fid e)
  cases hx:X f args W fid e with
  | some r=>rw[hx] at hb; exact hX f args W fid e r hx hb
  | none =>
   rw[hx] at hb
   simp only[orX] at hb ⊢
   have key:∀ fi,P f=some fi→body (z0w X P I n) n fi args W fid e≠.bad→(I f=none∨∃ g,I f=some g∧g args W fid e=none)→cal P I f args W fid e=body (z0w X P I n) n fi args W fid e:=by
    intro fi hP hb hI
    obtain⟨N,hN⟩:=zka IH hb
    refine zb6 ⟨hb,N+1,fun m hm=>?_⟩
    obtain⟨m,rfl⟩:∃ k,m=k+1:=⟨m - 1,by omega⟩
    show z1u (z09 P I m) m P f args W fid e (I f)=_
    have:z1u (z09 P I m) m P f args W fid e (I f)=z2j (z09 P I m) m args W fid e (P f):=by
     rcases hI with h | ⟨g,h,h2⟩
     ·rw[h]; rfl
     ·rw[h]; show intrR _ (g args W fid e)=_; rw[h2]; rfl
    rw[this,hP]
    exact hN m (by omega)
   have kb:z2j (z0w X P I n) n args W fid e (P f)≠.bad→(I f=none∨∃ g,I f=some g∧g args W fid e=none)→cal P I f args W fid e=z2j (z0w X P I n) n args W fid e (P f):=by
    intro hb hI
    cases hP:P f with
    | none=>rw[hP] at hb; exact absurd rfl hb
    | some fi=>rw[hP] at hb; exact key fi hP hb hI
   cases hI:I f with
   | none=>rw[hI] at hb; exact kb hb (.inl hI)
   | some g =>
    rw[hI] at hb
    simp only[z1u] at hb ⊢
    cases hg:g args W fid e with
    | none=>rw[hg] at hb; exact kb hb (.inr ⟨g,hI,hg⟩)
    | some q=>obtain⟨v,e'⟩:=q; exact z3z hI hg
def noX:XT:=fun _ _ _ _ _=>none
theorem z71 {F:Nat} {f₀:FuncId} {as₀:List AV} {W₀:List Lo} {v:AV} {X:XT} (hX:∀ f args W fid e r,X f args W fid e=some r→r≠.bad→cal P I f args W fid e=r) (hF:∀ e,cal P I f₀ as₀ W₀ F e=.ret v e) :
  ∀ f args W fid e r,z2l F (mark f₀ as₀ W₀) v X f args W fid e=some r→r≠.bad→cal P I f args W fid e=r:=by
 intro f args W fid e r hr hb
 unfold z2l at hr
 cases h1:Nat.beq fid F with
 | false=>rw[h1] at hr; exact hX f args W fid e r hr hb
 | true =>
  rw[h1] at hr
  simp only[cond_true] at hr
  split at hr
  ·next hm =>
   cases hr
   have:=Nat.eq_of_beq_eq_true h1
   subst this
   simp only[mark,AV.tup.injEq,List.cons.injEq,AV.int.injEq,AV.agg.injEq,true_and] at hm
   obtain⟨h2,hw,rfl⟩:=hm
   obtain rfl:=zgc hw
   have h3:f=f₀:=Int.ofNat.inj h2
   subst h3
   exact hF e
  ·cases hr
theorem zf6 {F:Nat} {f₀:FuncId} {as₀:List AV} {W₀:List Lo} {v:AV} {n x:Nat} {f:FuncId} {args:List AV} {e e':E} {r:CR} (hx:Sub x F) (hF:∀ e,cal P I f₀ as₀ W₀ F e=.ret v e)
  (hp:z1g (z1d F noX) P I n f args W x e=.pan (mark f₀ as₀ W₀) e') (hr:z0w (ansX F v noX) P I n f args W x e=r) (hb:r≠.bad):cal P I f args W x e=r:=by
 have h1:=orc (v:=v) (fun _ _ _ _ _ _ h=>by cases h) hx hp
 rw[hr] at h1
 rw[← h1]
 exact z70 (z71 (fun _ _ _ _ _ _ h=>by cases h) hF) n f args W x e (by rw[h1]; exact hb)
end
end
end Go.Abs
namespace Go.Abs
open Go
theorem zhq {X:XT} (hX:XnoM X) {F:Nat} {m v:AV}:XnoM (z2l F m v X):=fun f args W fid e r hr=>by
 unfold z2l at hr
 cases hb:Nat.beq fid F with
 | true =>
  rw[hb] at hr
  simp only[cond_true] at hr
  split at hr
  ·cases hr; trivial
  ·cases hr
 | false=>rw[hb] at hr; exact hX f args W fid e r hr
theorem zkb {X:XT} {F1 F2:Nat} {m v1 v2:AV} (h:F1≠F2):z2l F2 m v2 (ansX F1 v1 X)=ansX F1 v1 (z2l F2 m v2 X):=by
 funext f args W fid e
 unfold z2l ansX
 cases h1:Nat.beq fid F1 with
 | false=>rfl
 | true =>
  have:Nat.beq fid F2=false:=by
   cases h2:Nat.beq fid F2 with
   | false=>rfl
   | true=>exact absurd ((Nat.eq_of_beq_eq_true h1).symm.trans (Nat.eq_of_beq_eq_true h2)) h
  rw[this]; rfl
section
variable {P:FuncId→Option FI} {I:FuncId→Option z07}
theorem zcm:XnoM noX:=fun _ _ _ _ _ _ h=>by cases h
theorem znc {F1 F2 f1 f2:Nat} {as1 as2:List AV} {W1 W2:List Lo} {v1 v2:AV} {n x:Nat} {f:FuncId} {args:List AV} {W:List Lo} {e e1 e2:E} {r:CR} (hne:F1≠F2) (hx1:Sub x F1) (hx2:Sub x F2)
  (h1:∀ e,cal P I f1 as1 W1 F1 e=.ret v1 e) (h2:∀ e,cal P I f2 as2 W2 F2 e=.ret v2 e)
  (p1:z1g (z1d F1 (z2l F2 (mark f2 as2 W2) v2 noX)) P I n f args W x e=.pan (mark f1 as1 W1) e1)
  (p2:z1g (z1d F2 (ansX F1 v1 noX)) P I n f args W x e=.pan (mark f2 as2 W2) e2)
  (hr:z0w (ansX F2 v2 (ansX F1 v1 noX)) P I n f args W x e=r) (hb:r≠.bad):cal P I f args W x e=r:=by
 have s2:=orc (v:=v2) (z64 zcm (F:=F1) (v:=v1)) hx2 p2
 rw[hr,zkb hne] at s2
 have s1:=orc (v:=v1) (zhq zcm (F:=F2) (m:=mark f2 as2 W2) (v:=v2)) hx1 p1
 rw[s2] at s1
 rw[← s1]
 exact z70 (z71 (z71 (fun _ _ _ _ _ _ h=>by cases h) h2) h1) n f args W x e (by rw[s1]; exact hb)
end
end Go.Abs
namespace Go.Abs
open Go
def isMk:AV→Bool
 | .int .i64 (.negSucc 4241)=>true
 | _=>false
mutual
noncomputable def avM:AV→AV→List AV→Option (List AV)
 | .int k n,x,acc=>cond (isMk (.int k n)) (some (x::acc)) (cond (avEq (.int k n) x) (some acc) none)
 | .sl k z xs,.sl k' z' ys,acc=>cond (Nat.beq k k' && Nat.beq z z') (avsM xs ys acc) none
 | .agg xs,.agg ys,acc=>avsM xs ys acc
 | .tup xs,.tup ys,acc=>avsM xs ys acc
 | p,x,acc=>cond (avEq p x) (some acc) none
noncomputable def avsM:List AV→List AV→List AV→Option (List AV)
 | [],[],acc=>some acc
 | a::x,b::y,acc=>(avM a b acc).bind (avsM x y)
 | _,_,_=>none
end
mutual
def subA (v:AV):AV→AV
 | .int k n=>cond (isMk (.int k n)) v (.int k n)
 | .sl k z xs=>.sl k z (subL v xs)
 | .agg xs=>.agg (subL v xs)
 | .tup xs=>.tup (subL v xs)
 | p=>p
def subL (v:AV):List AV→List AV
 | []=>[]
 | a::x=>subA v a::subL v x
end
mutual
theorem avM_ok {v:AV}:∀ (p x:AV) (acc l:List AV),avM p x acc=some l→(∀ y∈l,y=v)→x=subA v p∧∀ y∈acc,y=v:=by
 intro p x acc l h hl
 cases p
 case int k n =>
  simp only[avM] at h
  simp only[subA]
  cases hm:isMk (.int k n) with
  | true=>rw[hm] at h; cases h; exact⟨hl x (by simp),fun y hy=>hl y (by simp[hy])⟩
  | false =>
   rw[hm] at h
   obtain⟨h1,h2⟩:=z00 h
   cases h2
   exact⟨(z1 _ _ h1).symm,hl⟩
 case sl k z xs =>
  cases x
  case sl k' z' ys =>
   simp only[avM] at h
   obtain⟨h1,h2⟩:=z00 h
   simp only[Bool.and_eq_true,Nat.beq_eq] at h1
   obtain⟨h3,h4⟩:=z7m xs ys acc l h2 hl
   exact⟨by rw[h3,h1.1,h1.2]; rfl,h4⟩
  all_goals (simp only[avM] at h; obtain⟨h1,h2⟩:=z00 h; cases z1 _ _ h1)
 case agg xs =>
  cases x
  case agg ys =>
   simp only[avM] at h
   obtain⟨h3,h4⟩:=z7m xs ys acc l h hl
   exact⟨by rw[h3]; rfl,h4⟩
  all_goals (simp only[avM] at h; obtain⟨h1,h2⟩:=z00 h; cases z1 _ _ h1)
 case tup xs =>
  cases x
  case tup ys =>
   simp only[avM] at h
   obtain⟨h3,h4⟩:=z7m xs ys acc l h hl
   exact⟨by rw[h3]; rfl,h4⟩
  all_goals (simp only[avM] at h; obtain⟨h1,h2⟩:=z00 h; cases z1 _ _ h1)
 all_goals
  simp only[avM] at h
  obtain⟨h1,h2⟩:=z00 h
  cases h2
  exact⟨(z1 _ _ h1).symm,hl⟩
theorem z7m {v:AV}:∀ (p x:List AV) (acc l:List AV),avsM p x acc=some l→(∀ y∈l,y=v)→x=subL v p∧∀ y∈acc,y=v:=by
 intro p x acc l h hl
 cases p<;>cases x
 ·simp only[avsM] at h; cases h; exact⟨rfl,hl⟩
 ·cases h
 ·cases h
 ·simp only[avsM,Option.bind_eq_some_iff] at h
  obtain⟨m,h1,h2⟩:=h
  obtain⟨h3,h4⟩:=z7m _ _ _ _ h2 hl
  obtain⟨h5,h6⟩:=avM_ok _ _ _ _ h1 h4
  exact⟨by rw[h3,h5]; rfl,h6⟩
end
noncomputable def obM:Ob→Ob→List AV→Option (List AV)
 | .cells t a,.cells t' b,acc=>cond (Nat.beq t t') (avsM a b acc) none
 | .vec t a,.vec t' b,acc=>cond (Nat.beq t t') (avsM a b acc) none
 | a,b,acc=>cond (obEq a b) (some acc) none
def subO (v:AV):Ob→Ob
 | .cells t a=>.cells t (subL v a)
 | .vec t a=>.vec t (subL v a)
 | o=>o
theorem obM_ok {v:AV} (p x:Ob) (acc l:List AV) (h:obM p x acc=some l) (hl:∀ y∈l,y=v):x=subO v p∧∀ y∈acc,y=v:=by
 cases p
 case cells t a =>
  cases x
  case cells t' b =>
   obtain⟨h1,h2⟩:=z00 h
   obtain⟨h3,h4⟩:=z7m a b acc l h2 hl
   exact⟨by rw[h3,Nat.eq_of_beq_eq_true h1]; rfl,h4⟩
  all_goals (simp only[obM] at h; obtain⟨h1,h2⟩:=z00 h; cases z3f h1)
 case vec t a =>
  cases x
  case vec t' b =>
   obtain⟨h1,h2⟩:=z00 h
   obtain⟨h3,h4⟩:=z7m a b acc l h2 hl
   exact⟨by rw[h3,Nat.eq_of_beq_eq_true h1]; rfl,h4⟩
  all_goals (simp only[obM] at h; obtain⟨h1,h2⟩:=z00 h; cases z3f h1)
 all_goals
  simp only[obM] at h
  obtain⟨h1,h2⟩:=z00 h
  cases h2
  exact⟨(z3f h1).symm,hl⟩
noncomputable def oblM:List Ob→List Ob→List AV→Option (List AV)
 | [],[],acc=>some acc
 | a::x,b::y,acc=>(obM a b acc).bind (oblM x y)
 | _,_,_=>none
theorem zkc {v:AV}:∀ (p x:List Ob) (acc l:List AV),oblM p x acc=some l→(∀ y∈l,y=v)→x=p.map (subO v)∧∀ y∈acc,y=v
 | [],[],acc,l,h,hl=>by cases h; exact⟨rfl,hl⟩
 | [],_::_,_,_,h,_=>by cases h
 | _::_,[],_,_,h,_=>by cases h
 | a::p,b::x,acc,l,h,hl=>by
  simp only[oblM,Option.bind_eq_some_iff] at h
  obtain⟨m,h1,h2⟩:=h
  obtain⟨h3,h4⟩:=zkc _ _ _ _ h2 hl
  obtain⟨h5,h6⟩:=obM_ok _ _ _ _ h1 h4
  exact⟨by rw[h3,h5]; rfl,h6⟩
noncomputable def subE (v:AV):E→E
 | ⟨stk,glo,gl⟩=>⟨stk,glo.map (subO v),gl⟩
noncomputable def matE:E→CR→Option (AV × List AV)
 | ⟨stk,glo,gl⟩,.ret v ⟨stk',glo',gl'⟩=>cond (fsEq stk stk' && z25 gl gl') (match oblM glo glo' [] with | some l=>some (v,l) | none=>none) none
 | _,_=>none
theorem zge {X:E} {r:CR} {w v:AV} {l:List AV} (h:matE X r=some (w,l)) (hl:∀ y∈l,y=v):r=.ret w (subE v X):=by
 obtain⟨stk,glo,gl⟩:=X
 cases r
 case ret w' e =>
  obtain⟨stk',glo',gl'⟩:=e
  obtain⟨h1,h2⟩:=z00 h
  simp only[Bool.and_eq_true] at h1
  cases hx:oblM glo glo' [] with
  | none=>rw[hx] at h2; cases h2
  | some l' =>
   rw[hx] at h2
   cases h2
   obtain⟨h3,_⟩:=zkc _ _ _ _ hx hl
   rw[z7j h1.1,z1z h1.2,h3]; rfl
 all_goals cases h
end Go.Abs
namespace Go.Abs
open Go Go.RowKit
theorem z4y (u:AV) (l:List AV):subL u l=l.map (subA u):=by induction l with | nil=>rfl | cons a l ih=>simp only[subL,ih,List.map_cons]
theorem za3 {u:AV} (hu:u.cells=[u]) (x:AV):(subA u x).cells=x.cells.map (subA u):=by
 cases x
 case int k n =>
  show (cond (isMk (.int k n)) u (.int k n)).cells=[cond (isMk (.int k n)) u (.int k n)]
  cases isMk (.int k n)
  ·rfl
  ·exact hu
 case agg cs=>show subL u cs=_; rw[z4y]; rfl
 all_goals rfl
theorem zbg {k:IntKind} {n:Int} {a b:AV} (h:Fg a b):Fg (subA (.int k n) a) (subA (.int k n) b):=by
 induction h with
 | int k' m =>
  show Fg (cond (isMk (.int k' m)) _ _) (cond (isMk (.int k' m)) _ _)
  cases isMk (.int k' m)<;>exact .int _ _
 | @sl k' z xs ys hl hc h ih =>
  show Fg (.sl k' z (subL _ xs)) (.sl _ z (subL _ ys))
  rw[z4y,z4y]
  refine .sl (by simpa using hl) (fun i x y hx hy=>?_) fun i x y j c d hx hy hcj hdj=>?_
  ·rw[List.getElem?_map,Option.map_eq_some_iff] at hx hy
   obtain⟨x0,hx0,rfl⟩:=hx
   obtain⟨y0,hy0,rfl⟩:=hy
   rw[za3 rfl,za3 rfl,List.length_map,List.length_map]
   exact hc i x0 y0 hx0 hy0
  ·rw[List.getElem?_map,Option.map_eq_some_iff] at hx hy
   obtain⟨x0,hx0,rfl⟩:=hx
   obtain⟨y0,hy0,rfl⟩:=hy
   rw[za3 rfl,List.getElem?_map,Option.map_eq_some_iff] at hcj hdj
   obtain⟨c0,hc0,rfl⟩:=hcj
   obtain⟨d0,hd0,rfl⟩:=hdj
   exact ih i x0 y0 j c0 d0 hx0 hy0 hc0 hd0
 | agg hl h ih =>
  show Fg (.agg (subL _ _)) (.agg (subL _ _))
  rw[z4y,z4y]
  refine .agg (by simpa using hl) fun i c d hc hd=>?_
  rw[List.getElem?_map,Option.map_eq_some_iff] at hc hd
  obtain⟨c0,hc0,rfl⟩:=hc
  obtain⟨d0,hd0,rfl⟩:=hd
  exact ih i c0 d0 hc0 hd0
 | tup hl h ih =>
  show Fg (.tup (subL _ _)) (.tup (subL _ _))
  rw[z4y,z4y]
  refine .tup (by simpa using hl) fun i c d hc hd=>?_
  rw[List.getElem?_map,Option.map_eq_some_iff] at hc hd
  obtain⟨c0,hc0,rfl⟩:=hc
  obtain⟨d0,hd0,rfl⟩:=hd
  exact ih i c0 d0 hc0 hd0
 | undef=>exact .undef
 | bool b=>exact .bool b
 | str s=>exact .str s
 | nilp=>exact .nilp
 | nilm=>exact .nilm
 | nilf=>exact .nilf
 | nili=>exact .nili
 | ptr l o=>exact .ptr l o
 | vpd cs o=>exact .vpd cs o
 | ep l a b c=>exact .ep l a b c
 | dp k xs=>exact .dp k xs
 | ifc h ih=>exact .ifc h
 | fn hl hm h h' ih ih'=>exact .fn hl hm h h'
section
variable [Glob] [GPlain] {P:Program} [GOK P] {T:FuncId→Option FI} {I:FuncId→Option z07} {f:FuncId}
def z4i (T:FuncId→Option FI) (I:FuncId→Option z07) (f:FuncId) (args:List AV) (v:AV):Prop:=∃ e',cal T I f args [] 1 ⟨[],[],[]⟩=.ret v e'
open Classical in
noncomputable def anyR (T:FuncId→Option FI) (I:FuncId→Option z07) (f:FuncId) (args:List AV):Option AV :=
 if h:∃ v,z4i T I f args v∧Fg v v∧∀ a∈args,Fg a a then some (Classical.choose h) else none
theorem zcn (hT:zam P T) (hI:z0v P I∧z0d I) (hm:P.follows .mixedOrders=true):IOK P f (z0q (anyR T I f)) :=
 zjs hT hI hm fun args v h=>by
  unfold anyR at h
  split at h
  ·next hx =>
   cases h
   obtain⟨⟨e',h1⟩,h2,h3⟩:=Classical.choose_spec hx
   exact⟨_,h2,args,e',rfl,fun i a a' ha ha'=>by rw[ha] at ha'; cases ha'; exact h3 a (List.mem_of_getElem? ha),h1⟩
  ·cases h
theorem zf7 {args:List AV} {v:AV} (h:z4i T I f args v) (hv:Fg v v) (ha:∀ a∈args,Fg a a):anyR T I f args=some v:=by
 have hx:∃ v,z4i T I f args v∧Fg v v∧∀ a∈args,Fg a a:=⟨v,h,hv,ha⟩
 unfold anyR
 rw[dif_pos hx]
 obtain⟨e1,h1⟩:=h
 obtain⟨⟨e2,h2⟩,_⟩:=Classical.choose_spec hx
 rw[h1] at h2
 cases h2
 rfl
open Classical in
noncomputable def oneC (bs:List AV) (v:AV) (args:List AV):Option AV:=if args=bs then some v else none
theorem z4j (bs:List AV) (v:AV):oneC bs v bs=some v:=by unfold oneC; rw[if_pos rfl]
theorem z8v (hT:zam P T) (hI:z0v P I∧z0d I) (hm:P.follows .mixedOrders=true) {bs:List AV} {v w:AV} (h:z4i T I f bs w) (hv:Fg w v) (ha:∀ a∈bs,Fg a a):IOK P f (z0q (oneC bs v)) :=
 zjs hT hI hm fun args v' h'=>by
  unfold oneC at h'
  split at h'
  ·next hx =>
   cases h'; subst hx
   obtain⟨e',h1⟩:=h
   exact⟨w,hv,args,e',rfl,fun i a a' hi hi'=>by rw[hi] at hi'; cases hi'; exact ha a (List.mem_of_getElem? hi),h1⟩
  ·cases h'
theorem z2y {g:List AV→Option AV} {args:List AV} {v:AV} (hI:I f=some (z0q g)) (hg:g args=some v) (W:List Lo) (fid:Nat) (e:E):cal T I f args W fid e=.ret v e :=
 z3z hI (by unfold z0q; rw[hg])
end
noncomputable def zkd:CR→Option AV
 | .ret v _=>some v
 | _=>none
theorem za4 {r:CR} {v:AV} (h:zkd r=some v):∃ e,r=.ret v e:=by
 cases r<;>simp[zkd] at h
 subst h; exact⟨_,rfl⟩
noncomputable def z2d:CR→Option AV
 | .pan v _=>some v
 | _=>none
theorem z1a {r:CR} {v:AV} (h:z2d r=some v):∃ e,r=.pan v e:=by
 cases r<;>simp[z2d] at h
 subst h; exact⟨_,rfl⟩
noncomputable def matR (p:AV):CR→Option (List AV)
 | .ret v _=>avM p v []
 | _=>none
theorem zco {p:AV} {r:CR} {v:AV} {l:List AV} (h:matR p r=some l) (hl:∀ y∈l,y=v):∃ e,r=.ret (subA v p) e:=by
 cases r
 case ret w e=>exact⟨e,by rw[(avM_ok p w [] l h hl).1]⟩
 all_goals cases h
end Go.Abs
namespace Go.Abs
open Go Go.RowKit
variable [Glob]
theorem iok_of {P:Program} {f:FuncId} {g:List AV→Option AV} (he:∀ vals w,(callFunc f vals).run P w=.ok (.enter f vals) w)
  (h:∀ (κ:K) (e:E) (B:Nat) (w₀ w:World) (args:List AV) (vals:Array Value) (v:AV),g args=some v→St κ e B w₀ w→vals.size=args.length→(∀ (i:Nat) (c:AV) (u:Value),args[i]?=some c→vals[i]?=some u→VR κ c u) →
   Calls P f vals w fun en w'=>∃ u,en=.returned u∧VR κ v u∧Below w.heap.size w w'):IOK P f (z0q g):=by
 constructor
 ·intro κ e B fid w₀ w args vals W v e' hg hst hent hl hv
  unfold z0q at hg
  cases hga:g args with
  | none=>rw[hga] at hg; cases hg
  | some x =>
   rw[hga] at hg
   cases hg
   unfold Nx
   rw[he]
   refine(h κ e B w₀ w args vals v hga hst hl hv).mono ?_
   rintro en w' ⟨u,rfl,h1,h2⟩
   exact⟨κ,h1,K.le.refl κ,Gr.refl ..,hst.beyond h2⟩
 ·intro args W fid e v e' hg _
  unfold z0q at hg
  cases hga:g args with
  | none=>rw[hga] at hg; cases hg
  | some x=>rw[hga] at hg; cases hg; exact⟨rfl,Nat.le_refl _,fun _ _ _=>rfl⟩
theorem arg1 {vals:Array Value} (h:vals.size=1):∃ x,vals=#[x]:=by
 rcases vals with⟨l⟩
 match l,h with
 | [x],_=>exact⟨x,rfl⟩
theorem tab_is {P:Program} {κ:K} {e:E} {B:Nat} {w₀ w:World} (hst:St κ e B w₀ w) {g:Nat} {name:String} {k:IntKind} {l:List Nat} (hn:P.globalNamed name=some g) (hg:Glob.gv g=some (l.map fun m=>.int k (.ofNat m))) :
  Lib.TabIs P w name k (l.map fun m:Nat=>(m:Int)):=by
 obtain⟨h1,arr,t,f,h2,h3⟩:=hst.gs g _ hg
 have hh:w.heap[g]?=some (.cells arr t f):=by rw[hst.below.block g h1]; exact h2
 unfold Lib.TabIs World.var?
 rw[hn]
 simp only[Option.bind_some,hh]
 congr 1
 have hv:=hst.glob g _ hg
 generalize hx:(l.map fun m=>AV.int k (.ofNat m))=cs at hv h3
 cases hv with
 | vp gg hf hgg hone =>
  have hr:κ.role g=.val∨cs=[]:=by
   cases cs with
   | nil=>exact .inr rfl
   | cons c cs=>exact .inl (hst.rf g _ _ (hf 0 c rfl))
  apply Array.ext'
  rw[List.map_map]
  apply List.ext_getElem?
  intro i
  rw[Array.getElem?_toList]
  by_cases hi:i < l.length
  ·have hc:cs[i]?=some (.int k (.ofNat (l[i]'hi))):=by rw[← hx,List.getElem?_map,List.getElem?_eq_getElem hi]; rfl
   have hne:cs≠[]:=by rintro rfl; cases hc
   have hfz:=hf i _ hc
   have hvr:=hgg i _ hc
   have hblk:=hst.blk g
   rw[hr.resolve_right hne] at hblk
   obtain⟨arr',t',f',h4,h5,_⟩:=hblk
   rw[hh] at h4
   cases h4
   have:=h5 _ _ hfz
   simp only[Nat.zero_add] at this
   rw[this]
   have hu:gg i=Value.int k (Int.ofNat (l[i]'hi)):=by
    generalize gg i=u at hvr
    cases hvr; rfl
   rw[hu]
   simp[List.getElem?_eq_getElem hi]
  ·have:arr.size=l.length:=by rw[h3,← hx,List.length_map]
   rw[Array.getElem?_eq_none (by omega),List.getElem?_eq_none (by simp; omega)]
def z8h:Nat→Nat→List Nat→List Nat
 | 0,_,acc=>acc
 | f+1,n,acc=>cond (Nat.blt n 10) ((48+n)::acc) (z8h f (n / 10) ((48+n % 10)::acc))
theorem zcp:∀ (f n:Nat) (acc:List Nat),n < 10 ^ (f+1)→z8h (f+1) n acc=(Lib.decDigits n).map UInt8.toNat++acc
 | f,n,acc,h=>by
  rw[Lib.decDigits]
  by_cases hn:n < 10
  ·have hb:Nat.blt n 10=true:=by rw[Nat.blt_eq]; exact hn
   simp only[z8h,hb,cond_true,dif_pos hn,List.map_cons,List.map_nil,List.cons_append,List.nil_append]
   congr 1
   simp[UInt8.toNat_ofNat']; omega
  ·have hb:Nat.blt n 10=false:=by rw[Bool.eq_false_iff]; intro h'; exact hn (Nat.le_of_ble_eq_true h')
   cases f with
   | zero=>simp at h; omega
   | succ f =>
    have:=zcp f (n / 10) ((48+n % 10)::acc) (by rw[Nat.pow_succ] at h; omega)
    rw[z8h,hb,cond_false,this,dif_neg hn]
    simp only[List.map_append,List.map_cons,List.map_nil,List.append_assoc,List.cons_append,List.nil_append]
    congr 2
    simp[UInt8.toNat_ofNat']; omega
def itoaL:Int→List Nat
 | .ofNat m=>z8h 20 m []
 | .negSucc m=>45::z8h 20 (m+1) []
def itoaR:Int→Bool
 | .ofNat m=>Nat.blt m 9223372036854775808
 | .negSucc m=>Nat.blt m 9223372036854775808
theorem znd {n:Int} (h:itoaR n=true):itoaL n=(Lib.itoa n).map UInt8.toNat:=by
 cases n with
 | ofNat m =>
  have:m < 9223372036854775808:=Nat.le_of_ble_eq_true h
  rw[Lib.itoa,if_neg (by simp)]
  show z8h 20 m []=_
  rw[zcp 19 m [] (by omega),List.append_nil]
  rfl
 | negSucc m =>
  have:m < 9223372036854775808:=Nat.le_of_ble_eq_true h
  rw[Lib.itoa,if_pos (by omega)]
  show 45::z8h 20 (m+1) []=_
  rw[zcp 19 (m+1) [] (by omega),List.append_nil]
  rfl
def z7n (args:List AV):Option AV:=match args with
 | [.int .i64 n]=>cond (itoaR n) (some (.str (itoaL n))) none
 | _=>none
theorem itoa_iok {P:Program} {f:FuncId} {g:Nat} {l:List Nat} {name:String} (he:∀ vals w,(callFunc f vals).run P w=.ok (.enter f vals) w) (hl:(l.map fun m:Nat=>(m:Int))=Lib.pow10Tab)
  (hn:P.globalNamed name=some g) (hg:Glob.gv g=some (l.map fun m=>.int .u64 (.ofNat m)))
  (h:∀ (n:Int),-9223372036854775808≤n→n≤9223372036854775807→∀ w,Lib.TabIs P w name .u64 Lib.pow10Tab →
   Calls P f #[.int .i64 n] w fun e w'=>e=.returned (.string ⟨(Lib.itoa n).toArray⟩)∧∃ k os,w'=Sort.grow (w.drewN k) os):IOK P f (z0q z7n) :=
 iok_of he fun κ e B w₀ w args vals v hga hst hlen hv=>by
  unfold z7n at hga
  split at hga
  case h_2=>cases hga
  case h_1 n =>
  obtain⟨h0,h2⟩:=z00 hga
  cases h2
  have h1:-9223372036854775808≤n∧n≤9223372036854775807:=by
   cases n with
   | ofNat m=>have:m < 9223372036854775808:=Nat.le_of_ble_eq_true h0; constructor<;>simp<;>omega
   | negSucc m=>have:m < 9223372036854775808:=Nat.le_of_ble_eq_true h0; constructor<;>omega
  obtain⟨x,rfl⟩:=arg1 hlen
  cases hv 0 _ _ rfl rfl
  refine(h n h1.1 h1.2 w (hl ▸ tab_is hst hn hg)).mono ?_
  rintro en w' ⟨rfl,k,os,rfl⟩
  refine⟨_,rfl,?_,⟨rfl,rfl,rfl,by simp[World.drewN],fun b hb=>(Sort.heap_grow_old _ _ (show b < (w.drewN k).heap.size from hb)).trans rfl⟩⟩
  have:=VR.str (κ:=κ) ⟨(Lib.itoa n).toArray⟩
  rw[znd h0]
  simpa using this
end Go.Abs
namespace Go.Abs
open Go
noncomputable def z56 (g:FuncId→List AV→List Lo→E→List AV) (F:Nat) (X:XT):XT:=fun f args W fid e=>cond (Nat.beq fid F) (some (.pan (.tup (g f args W e)) e)) (X f args W fid e)
open Classical in
noncomputable def z35 (g:FuncId→List AV→List Lo→E→List AV) (F:Nat) (m₀ v:AV) (X:XT):XT:=fun f args W fid e=>cond (Nat.beq fid F) (if AV.tup (g f args W e)=m₀ then some (.ret v e) else none) (X f args W fid e)
section
variable {P:FuncId→Option FI} {I:FuncId→Option z07} {X:XT} {F:Nat} {m₀ v:AV} {g:FuncId→List AV→List Lo→E→List AV}
theorem z7o (hX:XnoM X):∀ (n x:Nat),¬ Sub x F→∀ f args W e,
  (z1g (z56 g F X) P I n f args W x e=.bad∨z1g (z56 g F X) P I n f args W x e=z0w (ansX F v X) P I n f args W x e)∧z0w (ansX F v X) P I n f args W x e=z0w (z35 g F m₀ v X) P I n f args W x e
 | 0,_,_,_,_,_,_=>⟨.inl rfl,rfl⟩
 | n+1,x,hx,f,args,W,e=>by
  have hne:Nat.beq x F=false:=by
   cases hb:Nat.beq x F with
   | false=>rfl
   | true=>rw[Nat.eq_of_beq_eq_true hb] at hx; exact absurd .refl hx
  have IH:=z7o hX n
  show (orX (z5n _ n P f args W x e (I f)) (cond (Nat.beq x F) _ _)=.bad∨orX (z5n _ n P f args W x e (I f)) (cond (Nat.beq x F) _ _)=orX (z1u _ n P f args W x e (I f)) (cond (Nat.beq x F) _ _))∧orX (z1u _ n P f args W x e (I f)) (cond (Nat.beq x F) _ _)=orX (z1u _ n P f args W x e (I f)) (cond (Nat.beq x F) _ _)
  rw[hne]
  simp only[cond_false]
  cases X f args W x e with
  | some r=>exact⟨.inr rfl,rfl⟩
  | none =>
   simp only[orX]
   have key:(prO (z1g (z56 g F X) P I n) n args W x e (P f)=.bad∨prO (z1g (z56 g F X) P I n) n args W x e (P f)=z2j (z0w (ansX F v X) P I n) n args W x e (P f)) ∧
     z2j (z0w (ansX F v X) P I n) n args W x e (P f)=z2j (z0w (z35 g F m₀ v X) P I n) n args W x e (P f):=by
    cases hP:P f with
    | none=>exact⟨.inl rfl,rfl⟩
    | some fi =>
     exact⟨zdz (fun k hk f args W e=>(IH _ (fun h=>hx ((Sub.step .refl hk).trans h)) f args W e).1) (fun k _ f args W e=>z5o (z64 hX) n f args W _ e),zbf fun y hy _ f args W e=>(IH y (fun h=>hx (hy.trans h)) f args W e).2⟩
   cases hI:I f with
   | none=>exact key
   | some gi =>
    simp only[z1u,z5n]
    cases gi args W x e with
    | none=>exact key
    | some q=>exact⟨.inr rfl,rfl⟩
open Classical in
theorem ze0 (hX:XnoM X):∀ (n x:Nat),Sub x F→∀ f args W e,
  LkC m₀ (z1g (z56 g F X) P I n f args W x e) (z0w (ansX F v X) P I n f args W x e) (z0w (z35 g F m₀ v X) P I n f args W x e)
 | 0,_,_,_,_,_,_=>.inl rfl
 | n+1,x,hx,f,args,W,e=>by
  have IH:=ze0 hX n
  by_cases hxF:x=F
  ·subst hxF
   have hb:Nat.beq x x=true:=by simp
   show LkC m₀ (orX _ (cond (Nat.beq x x) _ _)) (orX _ (cond (Nat.beq x x) _ _)) (orX _ (cond (Nat.beq x x) _ _))
   rw[hb]
   refine .inr (.inl ⟨AV.tup (g f args W e),e,rfl,fun hm=>?_⟩)
   show _=orX _ (if AV.tup (g f args W e)=m₀ then some (.ret v e) else none)
   rw[if_pos hm]; rfl
  ·have hne:Nat.beq x F=false:=by
    cases hb:Nat.beq x F with
    | false=>rfl
    | true=>exact absurd (Nat.eq_of_beq_eq_true hb) hxF
   obtain⟨k₀,hk₀,hs⟩:=hx.down (Ne.symm hxF)
   have T:Trio m₀ x k₀ (z1g (z56 g F X) P I n) (z0w (ansX F v X) P I n) (z0w (z35 g F m₀ v X) P I n) :=
    ⟨fun f args W e=>IH _ hs f args W e,fun k _ f args W e=>z5o (z64 hX) n f args W _ e,fun j hj hne k hk f args W e=>(z7o hX n _ (fun h=>hne (Sub.child_eq hj hk₀ ((Sub.step .refl hk).trans h) hs)) f args W e).2,fun k hk hc f args W e=>z7o hX n _ (fun h=>hk (Sub.child_eq hc hk₀ h hs)) f args W e⟩
   show LkC m₀ (orX (z5n _ n P f args W x e (I f)) (cond (Nat.beq x F) _ _)) (orX (z1u _ n P f args W x e (I f)) (cond (Nat.beq x F) _ _)) (orX (z1u _ n P f args W x e (I f)) (cond (Nat.beq x F) _ _))
   rw[hne]
   simp only[cond_false]
   cases X f args W x e with
   | some r=>exact .inr (.inr ⟨rfl,rfl⟩)
   | none =>
    simp only[orX]
    have key:LkC m₀ (prO (z1g (z56 g F X) P I n) n args W x e (P f)) (z2j (z0w (ansX F v X) P I n) n args W x e (P f)) (z2j (z0w (z35 g F m₀ v X) P I n) n args W x e (P f)):=by
     cases hP:P f with
     | none=>exact .inl rfl
     | some fi =>
      exact zk9 T
    cases hI:I f with
    | none=>exact key
    | some gi =>
     simp only[z1u,z5n]
     cases gi args W x e with
     | none=>exact key
     | some q=>exact .inr (.inr ⟨rfl,rfl⟩)
theorem orcM (hX:XnoM X) {n x:Nat} {f:FuncId} {args:List AV} {W:List Lo} {e e':E} (hx:Sub x F) (hp:z1g (z56 g F X) P I n f args W x e=.pan m₀ e') :
  z0w (z35 g F m₀ v X) P I n f args W x e=z0w (ansX F v X) P I n f args W x e:=by
 rcases ze0 (P:=P) (I:=I) (m₀:=m₀) (v:=v) hX n x hx f args W e with h | ⟨m,e1,h,h2⟩ | ⟨h,h2⟩
 ·rw[hp] at h; cases h
 ·rw[hp] at h; cases h; exact(h2 rfl).symm
 ·exact h2.symm
end
theorem zhr {X:XT} (hX:XnoM X) {g:FuncId→List AV→List Lo→E→List AV} {F:Nat} {m v:AV}:XnoM (z35 g F m v X):=fun f args W fid e r hr=>by
 unfold z35 at hr
 cases hb:Nat.beq fid F with
 | true =>
  rw[hb] at hr
  simp only[cond_true] at hr
  split at hr
  ·cases hr; trivial
  ·cases hr
 | false=>rw[hb] at hr; exact hX f args W fid e r hr
theorem zhs {X:XT} {g:FuncId→List AV→List Lo→E→List AV} {F1 F2:Nat} {m v1 v2:AV} (h:F1≠F2):z35 g F2 m v2 (ansX F1 v1 X)=ansX F1 v1 (z35 g F2 m v2 X):=by
 funext f args W fid e
 unfold z35 ansX
 cases h1:Nat.beq fid F1 with
 | false=>rfl
 | true =>
  have:Nat.beq fid F2=false:=by
   cases h2:Nat.beq fid F2 with
   | false=>rfl
   | true=>exact absurd ((Nat.eq_of_beq_eq_true h1).symm.trans (Nat.eq_of_beq_eq_true h2)) h
  rw[this]; rfl
section
variable {P:FuncId→Option FI} {I:FuncId→Option z07}
theorem zke {g:FuncId→List AV→List Lo→E→List AV} {F:Nat} {m v:AV} {X:XT} (hX:∀ f args W fid e r,X f args W fid e=some r→r≠.bad→cal P I f args W fid e=r) (hF:∀ f args W e,AV.tup (g f args W e)=m→cal P I f args W F e=.ret v e) :
  ∀ f args W fid e r,z35 g F m v X f args W fid e=some r→r≠.bad→cal P I f args W fid e=r:=by
 intro f args W fid e r hr hb
 unfold z35 at hr
 cases h1:Nat.beq fid F with
 | false=>rw[h1] at hr; exact hX f args W fid e r hr hb
 | true =>
  rw[h1] at hr
  simp only[cond_true] at hr
  split at hr
  ·next hm =>
   cases hr
   have:=Nat.eq_of_beq_eq_true h1
   subst this
   exact hF f args W e hm
  ·cases hr
theorem zcq {g:FuncId→List AV→List Lo→E→List AV} {F1 F2 f1:Nat} {as1:List AV} {W1:List Lo} {v1 v2 m2:AV} {n x:Nat} {f:FuncId} {args:List AV} {W:List Lo} {e e1 e2:E} {r:CR} (hne:F1≠F2) (hx1:Sub x F1) (hx2:Sub x F2)
  (h1:∀ e,cal P I f1 as1 W1 F1 e=.ret v1 e) (h2:∀ f args W e,AV.tup (g f args W e)=m2→cal P I f args W F2 e=.ret v2 e)
  (p1:z1g (z1d F1 (z35 g F2 m2 v2 noX)) P I n f args W x e=.pan (mark f1 as1 W1) e1)
  (p2:z1g (z56 g F2 (ansX F1 v1 noX)) P I n f args W x e=.pan m2 e2)
  (hr:z0w (ansX F2 v2 (ansX F1 v1 noX)) P I n f args W x e=r) (hb:r≠.bad):cal P I f args W x e=r:=by
 have s2:=orcM (v:=v2) (z64 zcm (F:=F1) (v:=v1)) hx2 p2
 rw[hr,zhs hne] at s2
 have s1:=orc (v:=v1) (zhr zcm (g:=g) (F:=F2) (m:=m2) (v:=v2)) hx1 p1
 rw[s2] at s1
 rw[← s1]
 exact z70 (z71 (zke (fun _ _ _ _ _ _ h=>by cases h) h2) h1) n f args W x e (by rw[s1]; exact hb)
end
end Go.Abs
