/- On the way to: InterpDown returns true; its listed variables read as the text lays them. -/
import Derived.Test.YtheeljbogjbplaaGreatDoorB3
import Derived.ChangeArms
import Derived.Carry
import GoSem.ClaimJoined
set_option autoImplicit false
set_option linter.unusedSectionVars false
set_option linter.unusedSimpArgs false
set_option linter.unusedVariables false
namespace Go.Abs
open Go Go.RowKit
def gsW (w:World) (b:Nat):Option (List Value):=match w.heap[b]? with | some (.cells arr _ _)=>some arr.toList | _=>none
theorem gsW_ok {w:World} {g:Nat} {us:List Value} (h:gsW w g=some us):∃ arr t f,w.heap[g]?=some (.cells arr t f)∧arr.toList=us:=by
 unfold gsW at h
 split at h
 ·next arr t f he=>cases h; exact⟨arr,t,f,he,rfl⟩
 ·cases h
abbrev KW (w:World):K:=K0 (gsW w)
theorem zha {w:World} {g:Nat} {arr:Array Value} {t:TypeId} {f:Nat × Nat} (h:w.heap[g]?=some (.cells arr t f)):gsW w g=some arr.toList:=by
 unfold gsW; rw[h]
theorem fzW {w:World} {b o:Nat} {u:Value} (h:w.cell? ⟨b,o,none⟩=some u):(KW w).fz b o=some u:=by
 unfold World.cell? at h
 split at h
 ·next c t f he =>
  simp only[Option.isSome_none,Bool.false_eq_true,if_false] at h
  show ((gsW w b).bind fun l=>l[o]?)=some u
  rw[zha he]
  simpa using h
 ·cases h
section
variable [Glob] {H:Type} {enc:TypeId × Value→H} {P:Program} {w:World}
def Rd (enc:TypeId × Value→H) (P:Program) (w:World) (t:TypeId) (Q:AV→Prop) (n:Nat):Prop :=
 ∀ fuel,fuel≤n→∀ cs x,DataW.trod enc P w 0 (fun _=>true) true fuel t cs=some x→(∀ m∈x.1.weights P t,m≤reachBytes)→∃ a,Q a∧VRs (KW w) a.cells cs
theorem z4b {t:TypeId} {d:DataW H} {m:Nat} (hm:m∈d.weights P t):∀ {l:List (DataW H)},d∈l→m∈DataW.weightsAll P t l
 | e::r,h=>by
  unfold DataW.weightsAll
  rcases List.mem_cons.1 h with rfl | h
  ·exact List.mem_append_left _ hm
  ·exact List.mem_append_right _ (z4b hm h)
theorem z4 {t:TypeId} {d:DataW H} {m:Nat} (hm:m∈d.weights P t):∀ {ts:List TypeId} {l:List (DataW H)} {i:Nat},ts[i]?=some t→l[i]?=some d→m∈DataW.weightsEach P ts l
 | t'::ts,e::r,i,h,h'=>by
  unfold DataW.weightsEach
  cases i with
  | zero=>simp at h h'; subst h h'; exact List.mem_append_left _ hm
  | succ i=>exact List.mem_append_right _ (z4 hm (i:=i) (by simpa using h) (by simpa using h'))
 | [],_,_,h,_=>by simp at h
 | _::_,[],_,_,h'=>by simp at h'
theorem VRs.one {κ:K} {a:AV} {u:Value} (h:VR κ a u) (h1:u.oneCell'=true):VRs κ a.cells [u]:=by
 rw[h.cells1 h1]
 refine⟨rfl,fun i c v hc hv=>?_,fun i v hv=>?_⟩
 ·cases i with
  | zero=>simp at hc hv; subst hc; subst hv; exact h
  | succ i=>simp at hc
 ·cases i with
  | zero=>simp at hv; subst hv; exact h1
  | succ i=>simp at hv
theorem Rd.mono {t:TypeId} {Q Q':AV→Prop} {n m:Nat} (h:Rd enc P w t Q n) (hm:m≤n) (hQ:∀ a,Q a→Q' a):Rd enc P w t Q' m:=fun fuel hf cs x hx hw=>by
 obtain⟨a,h1,h2⟩:=h fuel (by omega) cs x hx hw
 exact⟨a,hQ a h1,h2⟩
theorem Rd.int {t:TypeId} {k:IntKind} {n:Nat} (ht:P.underlying t=some (.int k)):Rd enc P w t (fun a=>∃ m,a=.int k m∧(Lit.int k m).wf=true) n:=fun fuel _ cs x hx _=>by
 obtain⟨m,rfl,_,h⟩:=DataW.trod_int ht hx
 exact⟨_,⟨m,rfl,h⟩,.one (.int k m) rfl⟩
theorem Rd.bool {t:TypeId} {n:Nat} (ht:P.underlying t=some .bool):Rd enc P w t (fun a=>∃ b,a=.bool b) n:=fun fuel _ cs x hx _=>by
 obtain⟨b,rfl,_⟩:=DataW.trod_bool ht hx
 exact⟨_,⟨b,rfl⟩,.one (.bool b) rfl⟩
def TextV (a:AV):Prop:=∃ s:List Nat,a=.str s∧s.length≤reachBytes∧∀ b∈s,b < 256
theorem Rd.str {t:TypeId} {n:Nat} (ht:P.underlying t=some .string):Rd enc P w t TextV n:=fun fuel _ cs x hx hw=>by
 obtain⟨s,rfl,rfl,h⟩:=DataW.trod_string ht hx
 refine⟨_,⟨_,rfl,?_,?_⟩,.one (.str s) rfl⟩
 ·simp only[List.length_map]
  exact hw _ (by simp[DataW.weights])
 ·intro b hb
  obtain⟨c,_,rfl⟩:=List.mem_map.1 hb
  exact c.toNat_lt
def zak (z:Nat) (Q:AV→Prop) (a:AV):Prop:=∃ (z':Nat) (xs:List AV),a=.sl 0 z' xs∧(z'=z∨z'=0∧xs=[])∧xs.length≤reachBytes∧∀ x∈xs,Q x
theorem z8i {base:Nat} {a:Addr} {n:Nat} {cs:List Value} (h:w.cells? base a n=some cs):cs.length=n∧∀ i,i < n→w.cell? (a.add i)=cs[i]?:=by
 unfold World.cells? at h
 split at h
 ·refine⟨by simpa using mapM_some_length h,fun i hi=>?_⟩
  have:=mapM_some_get h i i (by simp[hi])
  exact this
 ·cases h
theorem Rd.slice {t e:TypeId} {z n:Nat} {Q:AV→Prop} (ht:P.underlying t=some (.slice e)) (hz:P.cellsOf e=z) (hz1:1≤z) (hbe:1≤P.bytesOf e) (h:∀ m,n=m+1→Rd enc P w e Q m):Rd enc P w t (zak z Q) n:=fun fuel hf cs x hx hw=>by
 rcases DataW.trod_slice ht hx with⟨rfl,_⟩ | ⟨a,len,cap,elems,rest,m,rfl,rfl,rfl,_,hle,hcap,hlen,h1,h2,_⟩
 ·exact⟨.sl 0 0 [],⟨0,[],rfl,.inr ⟨rfl,rfl⟩,by simp,by simp⟩,.one (.slnil 0) rfl⟩
 ·obtain⟨n,rfl⟩:∃ k,n=k+1:=⟨n - 1,by omega⟩
  have hRd:=h n rfl
  have hwl:elems.length≤reachBytes:=by
   have:=hw ((elems.length+rest.length) * P.bytesOf e) (by unfold DataW.weights; rw[ht]; simp)
   have h2:elems.length * 1≤(elems.length+rest.length) * P.bytesOf e:=Nat.mul_le_mul (by omega) hbe
   omega
  have hwe:∀ (i:Nat) (y:DataW H × List MemPlace),elems[i]?=some y→∀ m∈y.1.weights P e,m≤reachBytes:=fun i y hy m hm =>
   hw m (by
    unfold DataW.weights
    rw[ht]
    refine List.mem_cons_of_mem _ (List.mem_append_left _ (z4b hm ?_))
    exact List.mem_map.2 ⟨y,List.mem_of_getElem? hy,rfl⟩)
  rw[hz] at h1 h2
  by_cases hc0:cap=0
  ·subst hc0
   have:len=0:=by omega
   subst this
   exact⟨.sl 0 z [],⟨z,[],rfl,.inl rfl,by simp,by simp⟩,.one (.sle a hz1) rfl⟩
  ·have hspot:a.spot=none:=by
    have key:∀ y:DataW H × List MemPlace,(w.cells? 0 (a.add (0 * z)) z).bind (DataW.trod enc P w 0 (fun _=>true) true m e)=some y→a.spot=none:=by
     intro y hy
     simp only[Nat.zero_mul,Option.bind_eq_some_iff] at hy
     obtain⟨cs,hcs,_⟩:=hy
     obtain⟨hl,hg⟩:=z8i hcs
     have:=hg 0 (by omega)
     obtain⟨u,hu⟩:∃ u,cs[0]?=some u:=⟨_,List.getElem?_eq_getElem (by omega)⟩
     rw[hu] at this
     simpa [Addr.add] using World.cell?_spot this
    by_cases hl0:len=0
    ·subst hl0
     obtain⟨hr,hj⟩:=h2 rfl
     have:=hj 0 (by omega)
     rw[List.getElem?_eq_getElem (by omega)] at this
     exact key _ (by simpa using this)
    ·have:=h1 0 (by omega)
     rw[List.getElem?_eq_getElem (by omega)] at this
     exact key _ this
   obtain⟨b,o,sp⟩:=a
   simp only at hspot
   subst hspot
   have hadd:∀ m,(⟨b,o,none⟩:Addr).add m=⟨b,o+m,none⟩:=by
    intro m
    unfold Addr.add
    split
    ·rename_i h0; subst h0; rfl
    ·rfl
   have hadd2:∀ m k,(⟨b,o+m,none⟩:Addr).add k=⟨b,o+m+k,none⟩:=by
    intro m k
    unfold Addr.add
    split
    ·rename_i h0; subst h0; rfl
    ·rfl
   have hel:∀ i,i < len→∃ (a:AV) (us:List Value),Q a∧VRs (KW w) a.cells us∧us.length=z∧∀ j u,us[j]?=some u→w.cell? ⟨b,o+i * z+j,none⟩=some u:=by
    intro i hi
    have:=h1 i hi
    have hel:=List.getElem?_eq_getElem (l:=elems) (i:=i) (by omega)
    rw[hel] at this
    simp only[Option.bind_eq_some_iff] at this
    obtain⟨us,hus,hd⟩:=this
    obtain⟨hl,hg⟩:=z8i hus
    obtain⟨a,ha,hv⟩:=hRd m (by omega) us _ hd (hwe i _ hel)
    refine⟨a,us,ha,hv,hl,fun j u hu=>?_⟩
    have hj:=(List.getElem?_eq_some_iff.1 hu).1
    have:=hg j (by omega)
    rw[hadd,hadd2] at this
    rw[this,hu]
   have hch:∀ i,∃ (p:AV × List Value),i < len→Q p.1∧VRs (KW w) p.1.cells p.2∧p.2.length=z∧∀ j u,p.2[j]?=some u→w.cell? ⟨b,o+i * z+j,none⟩=some u:=by
    intro i
    by_cases hi:i < len
    ·obtain⟨a,us,h⟩:=hel i hi
     exact⟨(a,us),fun _=>h⟩
    ·exact⟨(.undef,[]),fun h=>absurd h hi⟩
   obtain⟨f,hf⟩:=Classical.axiomOfChoice hch
   have hget:∀ (i:Nat) (x:AV),((List.range len).map fun i=>(f i).1)[i]?=some x→i < len∧x=(f i).1:=by
    intro i x hx
    have hi:=(List.getElem?_eq_some_iff.1 hx).1
    simp only[List.length_map,List.length_range] at hi
    simp only[List.getElem?_map,List.getElem?_range hi,Option.map_some,Option.some.injEq] at hx
    exact⟨hi,hx.symm⟩
   refine⟨.sl 0 z ((List.range len).map fun i=>(f i).1),⟨z,_,rfl,.inl rfl,by simp; omega,fun x hx=>?_⟩,?_⟩
   ·obtain⟨i,hi,rfl⟩:=List.mem_map.1 hx
    exact(hf i (by simpa using hi)).1
   ·have hlen':((List.range len).map fun i=>(f i).1).length=len:=by simp
    have hsl:VR (KW w) (.sl 0 z ((List.range len).map fun i=>(f i).1)) (.slice (some ⟨b,o,none⟩) ((List.range len).map fun i=>(f i).1).length cap):=by
     have hgg:∀ (i:Nat) (x:AV) (j:Nat) (c:AV),((List.range len).map fun i=>(f i).1)[i]?=some x→x.cells[j]?=some c→∃ u,(f i).2[j]?=some u∧VR (KW w) c u:=by
      intro i x j c hx hc
      obtain⟨hi,rfl⟩:=hget i x hx
      have hv:=(hf i hi).2.1
      have hj:=(List.getElem?_eq_some_iff.1 hc).1
      obtain⟨u,hu⟩:∃ u,(f i).2[j]?=some u:=⟨_,List.getElem?_eq_getElem (by rw[hv.1]; exact hj)⟩
      exact⟨u,hu,hv.2.1 j c u hc hu⟩
     refine .sl (fun i j=>if i < len then ((f i).2[j]?).getD .nilFunc else .nilFunc) (by rw[hlen']; exact hle) (fun i x hx=>?_) (fun i x j c hx hc=>?_) (fun i x j c hx hc=>?_) (fun i j=>?_) (fun h=>by omega) (fun h=>by omega) hz1
     ·obtain⟨hi,rfl⟩:=hget i x hx
      have:=(hf i hi).2.1.1
      rw[(hf i hi).2.2.1] at this
      exact this.symm
     ·obtain⟨u,hu,_⟩:=hgg i x j c hx hc
      obtain⟨hi,_⟩:=hget i x hx
      simp only[hi,if_true,hu,Option.getD_some]
      exact fzW ((hf i hi).2.2.2 j u hu)
     ·obtain⟨u,hu,hv⟩:=hgg i x j c hx hc
      obtain⟨hi,_⟩:=hget i x hx
      simp only[hi,if_true,hu,Option.getD_some]
      exact hv
     ·by_cases hi:i < len
      ·simp only[hi,if_true]
       cases hu:(f i).2[j]? with
       | none=>rfl
       | some u=>exact(hf i hi).2.1.2.2 j u hu
      ·simp only[hi,if_false]; rfl
    rw[hlen'] at hsl
    exact .one hsl rfl
def zbp:List (AV→Prop)→List AV→Prop
 | [],cs=>cs=[]
 | Q::Qs,cs=>∃ a r,cs=a.cells++r∧Q a∧zbp Qs r
def z7f (Qs:List (AV→Prop)) (a:AV):Prop:=∃ cs,a=.agg cs∧zbp Qs cs
theorem VRs.append {κ:K} {as bs:List AV} {us vs:List Value} (h:VRs κ as us) (h':VRs κ bs vs):VRs κ (as++bs) (us++vs):=by
 obtain⟨l,p,q⟩:=h
 obtain⟨l',p',q'⟩:=h'
 refine⟨by simp[l,l'],fun i c u hc hu=>?_,fun i u hu=>?_⟩
 ·by_cases hi:i < as.length
  ·rw[List.getElem?_append_left hi] at hc
   rw[List.getElem?_append_left (by omega)] at hu
   exact p i c u hc hu
  ·rw[List.getElem?_append_right (by omega)] at hc
   rw[List.getElem?_append_right (by omega),l] at hu
   exact p' _ c u hc hu
 ·by_cases hi:i < us.length
  ·rw[List.getElem?_append_left hi] at hu
   exact q i u hu
  ·rw[List.getElem?_append_right (by omega)] at hu
   exact q' _ u hu
inductive FsOK (enc:TypeId × Value→H) (P:Program) (w:World) (n:Nat):Nat→List Field→List (AV→Prop)→Nat→Prop
 | nil (o:Nat):FsOK enc P w n o [] [] o
 | cons {o e:Nat} {f:Field} {fs:List Field} {Q:AV→Prop} {Qs:List (AV→Prop)} (ho:f.offset=o) (h:Rd enc P w f.type Q n) (hr:FsOK enc P w n (o+P.cellsOf f.type) fs Qs e):FsOK enc P w n o (f::fs) (Q::Qs) e
theorem FsOK.le {n o e:Nat} {fs:List Field} {Qs:List (AV→Prop)} (h:FsOK enc P w n o fs Qs e):o≤e:=by
 induction h with
 | nil=>exact Nat.le_refl _
 | cons ho h hr ih=>omega
theorem FsOK.read {n o e m:Nat} {fs:List Field} {Qs:List (AV→Prop)} (h:FsOK enc P w n o fs Qs e) (hm:m≤n) {cs:List Value} (hcs:cs.length=e) (hr:∀ (i:Nat) (f:Field),fs[i]?=some f→∃ y,DataW.trod enc P w 0 (fun _=>true) true m f.type ((cs.drop f.offset).take (P.cellsOf f.type))=some y∧∀ k∈y.1.weights P f.type,k≤reachBytes) :
  ∃ as,zbp Qs as∧VRs (KW w) as (cs.drop o):=by
 induction h with
 | nil o=>exact⟨[],rfl,by rw[List.drop_eq_nil_of_le (by omega)]; exact⟨rfl,by simp,by simp⟩⟩
 | @cons o e f fs Q Qs ho hf hrest ih =>
  obtain⟨as,h1,h2⟩:=ih hcs (fun i g hg=>hr (i+1) g (by simpa using hg))
  obtain⟨y,hy,hyw⟩:=hr 0 f rfl
  obtain⟨a,ha,hv⟩:=hf m hm _ _ hy hyw
  refine⟨a.cells++as,⟨a,as,rfl,ha,h1⟩,?_⟩
  have hd:cs.drop o=(cs.drop f.offset).take (P.cellsOf f.type)++cs.drop (o+P.cellsOf f.type):=by
   rw[ho]
   have:=(List.take_append_drop (P.cellsOf f.type) (cs.drop o)).symm
   rwa [List.drop_drop] at this
  rw[hd]
  exact hv.append h2
theorem Rd.struct {t:TypeId} {fs:Array Field} {Qs:List (AV→Prop)} {n:Nat} (ht:P.underlying t=some (.struct fs)) (h:∀ m,n=m+1→FsOK enc P w m 0 fs.toList Qs (P.cellsOf t)):Rd enc P w t (z7f Qs) n:=fun fuel hf cs x hx hw=>by
 obtain⟨xs,m,rfl,rfl,hl,hxl,hg⟩:=DataW.trod_struct ht hx
 obtain⟨n,rfl⟩:∃ k,n=k+1:=⟨n - 1,by omega⟩
 obtain⟨as,h1,h2⟩:=(h n rfl).read (m:=m) (by omega) hl (fun i f hf=>by
  have hi:=(List.getElem?_eq_some_iff.1 hf).1
  have:=hg i f (by simpa using hf)
  have hxi:=List.getElem?_eq_getElem (l:=xs) (i:=i) (by rw[hxl]; simpa using hi)
  rw[hxi] at this
  refine⟨_,this,fun k hk=>hw k ?_⟩
  unfold DataW.weights
  rw[ht]
  exact z4 hk (i:=i) (by rw[List.getElem?_map,hf]; rfl) (by rw[List.getElem?_map,hxi]; rfl))
 exact⟨.agg as,⟨as,rfl,h1⟩,h2⟩
theorem zek {t:TypeId} {fs:Array Field} {Qs:List (AV→Prop)} {v:Value} {d:DataW H} {ps:List MemPlace} {r:Reach} {base:Nat} (ht:P.underlying t=some (.struct fs)) (h:∀ n,Rd enc P w t (z7f Qs) n) (hok:Value.okWide P w r base t v) (hv:DataW.Trod enc P w 0 (fun _=>true) true t v d ps) (hw:∀ m∈d.weights P t,m≤reachBytes) :
  ∃ a,z7f Qs a∧VR (KW w) a v:=by
 unfold Value.okWide at hok
 rw[ht] at hok
 obtain⟨A,rfl,_,_⟩:=hok
 obtain⟨fuel,hx⟩:=hv
 obtain⟨a,ha,hl,hc,h1⟩:=h fuel fuel (Nat.le_refl _) _ _ hx hw
 refine⟨a,ha,?_⟩
 obtain⟨cs,rfl,_⟩:=ha
 simp only[AV.cells,Value.cells] at hl hc h1
 exact .agg (by simpa using hl) (fun i c u hi hu=>hc i c u hi (by simpa using hu)) (fun i u hu=>h1 i u (by simpa using hu))
theorem z65 {t:TypeId} {Q:AV→Prop} {v:Value} {d:DataW H} {ps:List MemPlace} (h:∀ n,Rd enc P w t Q n) (h1:v.oneCell'=true) (hc:∀ a,Q a→a.cells=[a]) (hv:DataW.Trod enc P w 0 (fun _=>true) true t v d ps) (hw:∀ m∈d.weights P t,m≤reachBytes):∃ a,Q a∧VR (KW w) a v:=by
 obtain⟨fuel,hx⟩:=hv
 obtain⟨a,ha,hl,hr,_⟩:=h fuel fuel (Nat.le_refl _) _ _ hx hw
 refine⟨a,ha,?_⟩
 have hcells:v.cells.toList=[v]:=by cases v<;>first | rfl | (simp[Value.oneCell'] at h1)
 rw[hc a ha,hcells] at hr
 exact hr 0 a v rfl rfl
theorem zel {t:TypeId} {k:IntKind} {v:Value} {r:Reach} {base:Nat} (ht:P.underlying t=some (.int k)) (hok:Value.okWide P w r base t v):v.oneCell'=true:=by
 unfold Value.okWide at hok
 simp only[ht,Cell.okWide,Cell.ok] at hok
 cases v<;>first | rfl | simp at hok
theorem zem {t:TypeId} {v:Value} {r:Reach} {base:Nat} (ht:P.underlying t=some .string) (hok:Value.okWide P w r base t v):v.oneCell'=true:=by
 unfold Value.okWide at hok
 simp only[ht,Cell.okWide,Cell.ok] at hok
 cases v<;>first | rfl | simp at hok
theorem zbq {t:TypeId} {v:Value} {r:Reach} {base:Nat} (ht:P.underlying t=some .bool) (hok:Value.okWide P w r base t v):v.oneCell'=true:=by
 unfold Value.okWide at hok
 simp only[ht,Cell.okWide,Cell.ok] at hok
 cases v<;>first | rfl | simp at hok
theorem zal {t e:TypeId} {v:Value} {r:Reach} {base:Nat} (ht:P.underlying t=some (.slice e)) (hok:Value.okWide P w r base t v):v.oneCell'=true:=by
 unfold Value.okWide at hok
 simp only[ht,Cell.okWide,Cell.ok] at hok
 cases v<;>first | rfl | simp at hok
theorem arg_int {t:TypeId} {k:IntKind} {v:Value} {d:DataW H} {ps:List MemPlace} {r:Reach} {base:Nat} (ht:P.underlying t=some (.int k)) (hok:Value.okWide P w r base t v) (hv:DataW.Trod enc P w 0 (fun _=>true) true t v d ps) (hw:∀ m∈d.weights P t,m≤reachBytes):∃ m,VR (KW w) (.int k m) v∧(Lit.int k m).wf=true:=by
 obtain⟨a,⟨m,rfl,h1⟩,h2⟩:=z65 (Q:=fun a=>∃ m,a=.int k m∧(Lit.int k m).wf=true) (fun _=>Rd.int ht) (zel ht hok) (fun a ⟨m,e,_⟩=>by subst e; rfl) hv hw
 exact⟨m,h2,h1⟩
theorem arg_str {t:TypeId} {v:Value} {d:DataW H} {ps:List MemPlace} {r:Reach} {base:Nat} (ht:P.underlying t=some .string) (hok:Value.okWide P w r base t v) (hv:DataW.Trod enc P w 0 (fun _=>true) true t v d ps) (hw:∀ m∈d.weights P t,m≤reachBytes):∃ a,TextV a∧VR (KW w) a v :=
 z65 (fun _=>Rd.str ht) (zem ht hok) (fun a ⟨m,e,_⟩=>by subst e; rfl) hv hw
theorem zhb {t e:TypeId} {z:Nat} {Q:AV→Prop} {v:Value} {d:DataW H} {ps:List MemPlace} {r:Reach} {base:Nat} (ht:P.underlying t=some (.slice e)) (h:∀ n,Rd enc P w t (zak z Q) n) (hok:Value.okWide P w r base t v) (hv:DataW.Trod enc P w 0 (fun _=>true) true t v d ps) (hw:∀ m∈d.weights P t,m≤reachBytes):∃ a,zak z Q a∧VR (KW w) a v :=
 z65 h (zal ht hok) (fun a ⟨z',xs,e,_⟩=>by subst e; rfl) hv hw
def RdA (enc:TypeId × Value→H) (P:Program) (w:World) (base:Nat) (t:TypeId) (Q:AV→Prop):Prop :=
 ∀ v d ps,Value.okWide P w .any base t v→DataW.Trod enc P w 0 (fun _=>true) true t v d ps→(∀ m∈d.weights P t,m≤reachBytes)→∃ a,Q a∧VR (KW w) a v
theorem RdA.struct {base:Nat} {t:TypeId} {fs:Array Field} {Q:AV→Prop} {Qs:List (AV→Prop)} (ht:P.underlying t=some (.struct fs)) (h:∀ n,Rd enc P w t (z7f Qs) n) (hQ:∀ a,z7f Qs a→Q a):RdA enc P w base t Q:=fun v d ps h1 h2 h3=>by
 obtain⟨a,ha,hv⟩:=zek ht h h1 h2 h3
 exact⟨a,hQ a ha,hv⟩
theorem RdA.int {base:Nat} {t:TypeId} {k:IntKind} (ht:P.underlying t=some (.int k)):RdA enc P w base t (fun a=>∃ m,a=.int k m∧(Lit.int k m).wf=true):=fun v d ps h1 h2 h3=>by
 obtain⟨m,h4,h5⟩:=arg_int ht h1 h2 h3
 exact⟨_,⟨m,rfl,h5⟩,h4⟩
def BoolV (a:AV):Prop:=∃ b,a=.bool b
theorem RdA.bool {base:Nat} {t:TypeId} (ht:P.underlying t=some .bool):RdA enc P w base t BoolV:=fun _ _ _ h1 h2 h3 =>
 z65 (fun _=>Rd.bool ht) (zbq ht h1) (fun a ⟨b,e⟩=>by subst e; rfl) h2 h3
theorem RdA.str {base:Nat} {t:TypeId} (ht:P.underlying t=some .string):RdA enc P w base t TextV:=fun _ _ _ h1 h2 h3=>arg_str ht h1 h2 h3
theorem RdA.slice {base:Nat} {t e:TypeId} {z:Nat} {Q:AV→Prop} (ht:P.underlying t=some (.slice e)) (h:∀ n,Rd enc P w t (zak z Q) n):RdA enc P w base t (zak z Q):=fun _ _ _ h1 h2 h3=>zhb ht h h1 h2 h3
def zhc (enc:TypeId × Value→H) (P:Program) (w:World) (base:Nat):List TypeId→List (AV→Prop)→Prop
 | [],[]=>True
 | t::ts,Q::Qs=>RdA enc P w base t Q∧zhc enc P w base ts Qs
 | _,_=>False
def AsOK:List (AV→Prop)→List AV→Prop
 | [],[]=>True
 | Q::Qs,a::as=>Q a∧AsOK Qs as
 | _,_=>False
theorem zam {base:Nat}:∀ {ts:List TypeId} {Qs:List (AV→Prop)} {vs:List Value} {ds:List (DataW H)} {ps:List MemPlace},zhc enc P w base ts Qs→DataW.TrodAll enc P w 0 (fun _=>true) true ts vs ds ps →
  (∀ (j:Nat) t v,ts[j]?=some t→vs[j]?=some v→Value.okWide P w .any base t v)→(∀ m∈DataW.weightsEach P ts ds,m≤reachBytes) →
  ∃ as,AsOK Qs as∧vs.length=as.length∧∀ (i:Nat) (c:AV) (u:Value),as[i]?=some c→vs[i]?=some u→VR (KW w) c u
 | [],[],[],[],_,_,_,_,_=>⟨[],trivial,rfl,by simp⟩
 | t::ts,Q::Qs,v::vs,d::ds,ps,hr,hA,ho,hw=>by
  obtain⟨p,q,h1,h2,_⟩:=hA
  obtain⟨a,ha,hv⟩:=hr.1 v d p (ho 0 t v rfl rfl) h1 (fun m hm=>hw m (by unfold DataW.weightsEach; exact List.mem_append_left _ hm))
  obtain⟨as,h3,h4,h5⟩:=zam hr.2 h2 (fun j t v h h'=>ho (j+1) t v (by simpa using h) (by simpa using h')) (fun m hm=>hw m (by unfold DataW.weightsEach; exact List.mem_append_right _ hm))
  refine⟨a::as,⟨ha,h3⟩,by simp[h4],fun i c u hc hu=>?_⟩
  cases i with
  | zero=>simp at hc hu; subst hc hu; exact hv
  | succ i=>exact h5 i c u (by simpa using hc) (by simpa using hu)
 | [],[],_::_,_,_,_,hA,_,_=>hA.elim
 | [],[],[],_::_,_,_,hA,_,_=>hA.elim
 | [],_::_,_,_,_,hr,_,_,_=>hr.elim
 | _::_,[],_,_,_,hr,_,_,_=>hr.elim
 | _::_,_::_,[],_,_,_,hA,_,_=>hA.elim
 | _::_,_::_,_::_,[],_,_,hA,_,_=>hA.elim
theorem z5 (hl:laidOutB P=true) {W W':World} (hb:Below W.heap.size W W'):∀ {ts:List TypeId} {vs:List Value} {ds:List (DataW H)} {ps:List MemPlace},(ts.all fun t=>P.readableRec t && decide (t < P.types.size))=true →
  DataW.TrodAll enc P W 0 (fun _=>true) true ts vs ds ps→(∀ x∈ps,x.block < W.heap.size)→DataW.TrodAll enc P W' 0 (fun b=>decide (b < W.heap.size)) true ts vs ds ps
 | [],[],[],_,_,h,_=>h
 | t::ts,v::vs,d::ds,ps,ht,h,hlt=>by
  obtain⟨p,q,h1,h2,rfl⟩:=h
  simp only[List.all_cons,Bool.and_eq_true,decide_eq_true_eq] at ht
  exact⟨p,q,Below.trod hl ht.1.1 ht.1.2 h1 hb (fun x hx=>hlt x (List.mem_append_left _ hx)),z5 hl hb (by simpa using ht.2) h2 (fun x hx=>hlt x (List.mem_append_right _ hx)),rfl⟩
 | [],_::_,_,_,_,h,_=>h.elim
 | [],[],_::_,_,_,h,_=>h.elim
 | _::_,[],_,_,_,h,_=>h.elim
 | _::_,_::_,[],_,_,h,_=>h.elim
theorem zen [GOK P] {T:FuncId→Option FI} {I:FuncId→Option z0c} {f:FuncId} {fi:FI} {n:Nat} {as:List AV} {args:Array Value} (hT:zbl P T) (hI:z0f P I∧z06 I) (hm:P.follows .mixedOrders=true)
  (hf:T f=some fi) (hl:args.size=as.length) (ha:∀ (i:Nat) (c:AV) (u:Value),as[i]?=some c→args[i]?=some u→VR (KW w) c u) (hr:z4m (z04 T I n f as [] 1 ⟨[],[],[]⟩)=true)
  (hg:∀ g cs,Glob.gv g=some cs→VR (KW w) (.vp cs 0) (.pointer (some ⟨g,0,none⟩))) :
  Calls P f args w fun e w'=>e=.returned (.bool true)∧Below w.heap.size w w':=by
 have hb:z04 T I n f as [] 1 ⟨[],[],[]⟩≠.bad:=by intro hx; rw[hx] at hr; cases hr
 have:=z49 hT hI.1 hI.2 hm n (KW w) ⟨[],[],[]⟩ w.heap.size 1 w w f as args [] hb (St0 (fun g us h=>gsW_ok h) hg) (Ent0 (gsW w)) hl ha
 unfold Nx at this
 rw[(hT f fi hf).2 args w] at this
 refine this.mono fun en w' hx=>?_
 cases en with
 | returned v =>
  obtain⟨κ',v',e',h1,h2,_,_,h5⟩:=hx
  rw[h1] at hr
  unfold z4m at hr
  split at hr
  ·next heq=>cases heq; cases h2; exact⟨rfl,h5.below⟩
  ·cases hr
 | panicked ch =>
  obtain⟨κ',v',e',val,h1,_⟩:=hx
  rw[h1] at hr; cases hr
 | outgrown=>exact hx.elim
end
end Go.Abs
