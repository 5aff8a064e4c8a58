/- On the way to: InterpLoops returns true; its listed variables read as the text lays them. -/
import Derived.Test.YthncagamgiogjaaGreatDoorA3
import Derived.Test.YthncagamgiogjaaGreatDoorA1
import Derived.Laws.Entries
import Derived.Laws.Cells
import Derived.Laws.Small
import Derived.ChangeKeysEq
import Derived.Laws.StructEq
import GoSem.Instr.MapEntry
set_option autoImplicit false
set_option linter.unusedSectionVars false
set_option linter.unusedSimpArgs false
set_option linter.unusedVariables false
namespace Go.Abs
open Go Go.RowKit
variable [Glob]
theorem zft {v:Value} {a:AV} (h:cv v=some a) (κ:K):VR κ a v∧v.oneCell'=true:=by
 unfold cv at h
 split at h
 ·cases h; exact⟨.bool _,rfl⟩
 ·cases h; exact⟨.int _ _,rfl⟩
 ·cases h; exact⟨.str _,rfl⟩
 ·cases h; exact⟨.nilp,rfl⟩
 ·cases h; exact⟨.slnil 1,rfl⟩
 ·cases h; exact⟨.nilm,rfl⟩
 ·cases h; exact⟨.nilf,rfl⟩
 ·cases h; exact⟨.nili,rfl⟩
 ·rename_i f F C
  obtain⟨hs,h⟩:=z00 h
  cases h
  simp only[Bool.and_eq_true,z03] at hs
  exact⟨.fn hs.1 hs.2 (by simp) (by simp),rfl⟩
 ·cases h
theorem zd7 {vs:List Value} (κ:K):∀ {as:List AV},cvs vs=some as→VRs κ as vs:=by
 induction vs with
 | nil=>intro as h; cases h; exact⟨rfl,by simp,by simp⟩
 | cons v rest ih =>
  intro as h
  simp only[cvs] at h
  split at h
  ·rename_i a l h1 h2
   cases h
   obtain⟨p,q,r⟩:=ih h2
   obtain⟨s,t⟩:=zft h1 κ
   refine⟨by simp[p],fun i c u hc hu=>?_,fun i u hu=>?_⟩
   ·cases i with
    | zero=>simp at hc hu; subst hc; subst hu; exact s
    | succ i=>simp at hc hu; exact q i c u hc hu
   ·cases i with
    | zero=>simp at hu; subst hu; exact t
    | succ i=>simp at hu; exact r i u hu
  ·cases h
theorem z3i {v:Value} {a:AV} (h:cva v=some a) (κ:K):VR κ a v:=by
 unfold cva at h
 split at h
 ·rename_i cs
  cases hc:cvs cs.toList with
  | none=>simp[hc] at h
  | some l =>
   simp[hc] at h
   subst h
   obtain⟨p,q,r⟩:=zd7 κ hc
   exact .agg (by simpa using p) (fun i c u hc hu=>q i c u hc (by simpa using hu)) (fun i u hu=>r i u (by simpa using hu))
 ·exact(zft h κ).1
theorem zby {κ:K} {s:Tm} {a:Act} {x:Operand} {ax:AX} (hgl:∀ g cs,Glob.gv g=some cs→VR κ (.vp cs 0) (.pointer (some ⟨g,0,none⟩))) (h:cx x=some ax) (ht:∀ t,x=.tmp t→VR κ (s.get (pth t)) (a.tmps.getD t undef)):VR κ (ax.ev s) (a.eval x):=by
 cases x with
 | tmp t=>cases h; exact ht t rfl
 | const v =>
  simp only[cx] at h
  cases hc:cva v with
  | none=>simp[hc] at h
  | some b=>simp[hc] at h; subst h; exact z3i hc κ
 | global g =>
  simp only[cx,Option.map_eq_some_iff] at h
  obtain⟨cs,h1,rfl⟩:=h
  exact hgl g cs h1
 | func f=>cases h; exact .fn rfl rfl (by simp) (by simp)
def Opd (κ:K) (s:Tm) (ρ:Operand→Value) (xs:List Operand):Prop:=∀ x∈xs,∀ ax,cx x=some ax→VR κ (ax.ev s) (ρ x)
section
variable {P:Program} (w:World)
theorem z0t {t:TypeId} {n:Nat} (h:z13 P t=some n):(sizeOf t).run P w=.ok n w:=by
 unfold z13 at h
 cases hi:P.info? t with
 | none=>simp[hi] at h
 | some i=>simp[hi] at h; simp[sizeOf,typeInfo,hi,h]
theorem z22 {P:Program} {t:TypeId} {n:Nat} (h:z6d P t=some n):z13 P t=some n∧1≤n:=by
 unfold z6d at h
 split at h
 ·rename_i m hm
  obtain⟨hc,h⟩:=z00 h
  cases h
  exact⟨hm,Nat.le_of_ble_eq_true hc⟩
 ·cases h
theorem z4c {t:TypeId} {b:Bool} (h:aggB P t=some b):(isAgg t).run P w=.ok b w:=by
 unfold aggB at h
 split at h
 ·rename_i h1; cases h; simp[isAgg,run_underlying h1]
 ·rename_i h1; cases h; simp[isAgg,run_underlying h1]
 ·rename_i d h1 h2 h3
  cases h
  simp only[isAgg,Sem.run_bind,run_underlying h3,Result.andThen_ok]
  first | rfl | (split<;>first | rfl | exact(h1 _ rfl).elim | exact(h2 _ _ rfl).elim)
 ·cases h
theorem z17 {t:TypeId} {z:Value} (h:(P.info? t).bind (·.zero)=some z):(zeroValue t).run P w=.ok z w:=by
 cases hi:P.info? t with
 | none=>simp[hi] at h
 | some i=>simp[hi] at h; simp[zeroValue,typeInfo,hi,h]
end
theorem z3d {P:Program} {t:TypeId} {a:AV} (h:z79 P t=some a):∃ z,(P.info? t).bind (·.zero)=some z∧cva z=some a:=by
 unfold z79 at h
 exact Option.bind_eq_some_iff.1 h
theorem strEq_iff {a b:List Nat}:z25 a b=decide (a=b):=by
 induction a generalizing b with
 | nil=>cases b<;>simp[z25]
 | cons x a ih =>
  cases b with
  | nil=>simp[z25]
  | cons y b =>
   simp only[z25]
   cases h:Nat.beq x y with
   | true=>simp[z03.1 h,ih]
   | false =>
    have:¬ x=y:=fun e=>by rw[z03.2 e] at h; cases h
    simp[this]
theorem zq {a b:ByteArray} (h:a.data.toList.map UInt8.toNat=b.data.toList.map UInt8.toNat):a=b:=by
 have h1:a.data.toList=b.data.toList:=by
  apply List.map_inj_right (f:=UInt8.toNat) (fun x y hxy=>UInt8.toNat_inj.1 hxy) |>.1 h
 cases a; cases b
 simp at h1 ⊢
 exact h1
theorem z9a (a b:ByteArray):z25 (a.data.toList.map UInt8.toNat) (b.data.toList.map UInt8.toNat)=decide (a=b):=by
 rw[strEq_iff]
 by_cases h:a=b
 ·simp[h]
 ·have:¬ (a.data.toList.map UInt8.toNat=b.data.toList.map UInt8.toNat):=fun e=>h (zq e)
  simp[h,this]
noncomputable def eqv:List CK→List Value→List Value→Option Bool
 | [],[],[]=>some true
 | .b::ks,.bool a::xs,.bool b::ys=>andO (a==b) (eqv ks xs ys)
 | .i::ks,.int k a::xs,.int k' b::ys=>zcv k k' a b (eqv ks xs ys)
 | .s::ks,.string a::xs,.string b::ys=>andO (decide (a=b)) (eqv ks xs ys)
 | _,_,_=>none
theorem VRs.tail {κ:K} {c:AV} {cs:List AV} {u:Value} {us:List Value} (h:VRs κ (c::cs) (u::us)):VR κ c u∧VRs κ cs us :=
 ⟨h.2.1 0 c u rfl rfl,by have:=h.1; simpa using this,fun i c u a b=>h.2.1 (i+1) c u a b,fun i u a=>h.2.2 (i+1) u a⟩
theorem zbz {κ:K} (ks:List CK):∀ {xs ys:List AV} {us vs:List Value} {b:Bool},eqk ks xs ys=some b→VRs κ xs us→VRs κ ys vs→eqv ks us vs=some b:=by
 induction ks with
 | nil =>
  intro xs ys us vs b h hx hy
  unfold eqk at h
  split at h<;>first | (cases h; done) | skip
  ·have h1:us=[]:=by have:=hx.1; simpa using this
   have h2:vs=[]:=by have:=hy.1; simpa using this
   subst h1; subst h2; simpa [eqv] using h
  all_goals simp_all
 | cons k ks ih =>
  intro xs ys us vs b h hx hy
  cases xs with
  | nil=>cases k<;>simp[eqk] at h
  | cons x xs =>
   cases ys with
   | nil=>cases k<;>cases x<;>simp[eqk] at h
   | cons y ys =>
    cases us with
    | nil=>have:=hx.1; simp at this
    | cons u us =>
     cases vs with
     | nil=>have:=hy.1; simp at this
     | cons v vs =>
      obtain⟨hx1,hx2⟩:=hx.tail
      obtain⟨hy1,hy2⟩:=hy.tail
      cases k with
      | b =>
       cases x<;>cases y<;>simp only[eqk,reduceCtorEq] at h
       cases hx1; cases hy1
       simp only[eqv]
       unfold andO at h
       split at h
       ·rename_i b' hb; rw[ih hb hx2 hy2]; exact h
       ·cases h
      | i =>
       cases x<;>cases y<;>simp only[eqk,reduceCtorEq] at h
       cases hx1; cases hy1
       simp only[eqv]
       unfold zcv at h ⊢
       split at h
       ·rename_i hk
        rw[if_pos hk]
        unfold andO at h
        split at h
        ·rename_i b' hb; rw[ih hb hx2 hy2]; exact h
        ·cases h
       ·cases h
      | s =>
       cases x<;>cases y<;>simp only[eqk,reduceCtorEq] at h
       cases hx1; cases hy1
       simp only[eqv]
       rw[z9a] at h
       unfold andO at h
       split at h
       ·rename_i b' hb; rw[ih hb hx2 hy2]; exact h
       ·cases h
end Go.Abs
namespace Go.Abs
open Go Go.RowKit
variable [Glob]
theorem z6u (a b:ByteArray):(a==b)=decide (a=b):=by
 rw[beq_toListBytes,ByteArray.toList_eq,ByteArray.toList_eq]
 by_cases h:a=b
 ·simp[h]
 ·have:¬ a.data.toList=b.data.toList:=fun e=>h (by cases a; cases b; simp at e ⊢; exact e)
  simp[h]
  intro e
  exact h (by cases a; cases b; simp at e ⊢; exact e)
theorem z0e {a:Bool} {o:Option Bool} {b:Bool} (h:andO a o=some b):∃ c,o=some c∧b=(a && c):=by
 cases o with
 | none=>cases h
 | some c=>refine⟨c,rfl,?_⟩; cases a<;>simp[andO] at h<;>simp[h]
theorem z23 {k k':IntKind} {a b:Int} {o:Option Bool} {r:Bool} (h:zcv k k' a b o=some r):k=k'∧andO (decide (a=b)) o=some r:=by
 unfold zcv at h
 split at h
 ·exact⟨by assumption,h⟩
 ·cases h
theorem z7c (ks:List CK):∀ {xs ys:List Value} {b:Bool},eqv ks xs ys=some b→xs.length=ks.length∧ys.length=ks.length:=by
 induction ks with
 | nil =>
  intro xs ys b h
  cases xs<;>cases ys<;>simp[eqv] at h ⊢
 | cons k ks ih =>
  intro xs ys b h
  cases xs with
  | nil=>cases k<;>simp[eqv] at h
  | cons x xs =>
   cases ys with
   | nil=>cases k<;>cases x<;>simp[eqv] at h
   | cons y ys =>
    cases k<;>cases x<;>cases y<;>simp only[eqv,reduceCtorEq] at h
    ·obtain⟨c,hc,_⟩:=z0e h; have:=ih hc; simp[this.1,this.2]
    ·obtain⟨_,h'⟩:=z23 h; obtain⟨c,hc,_⟩:=z0e h'; have:=ih hc; simp[this.1,this.2]
    ·obtain⟨c,hc,_⟩:=z0e h; have:=ih hc; simp[this.1,this.2]
theorem zd8 (as:List CK) (bs:List CK):∀ {xs ys:List Value} {r:Bool},eqv (as++bs) xs ys=some r →
  ∃ p q,eqv as (xs.take as.length) (ys.take as.length)=some p∧eqv bs (xs.drop as.length) (ys.drop as.length)=some q∧r=(p && q):=by
 induction as with
 | nil=>intro xs ys r h; exact⟨true,r,by simp[eqv],by simpa using h,by simp⟩
 | cons k as ih =>
  intro xs ys r h
  cases xs with
  | nil=>cases k<;>simp[eqv] at h
  | cons x xs =>
   cases ys with
   | nil=>cases k<;>cases x<;>simp[eqv] at h
   | cons y ys =>
    cases k<;>cases x<;>cases y<;>simp only[List.cons_append,eqv,reduceCtorEq] at h
    ·obtain⟨c,hc,rfl⟩:=z0e h
     obtain⟨p,q,h1,h2,rfl⟩:=ih hc
     exact⟨_,q,by simp only[List.length_cons,List.take_succ_cons,eqv,h1,andO]; rfl,by simpa using h2,by cases p<;>cases q<;>simp⟩
    ·obtain⟨rfl,h'⟩:=z23 h
     obtain⟨c,hc,rfl⟩:=z0e h'
     obtain⟨p,q,h1,h2,rfl⟩:=ih hc
     exact⟨_,q,by simp only[List.length_cons,List.take_succ_cons,eqv,h1,zcv,if_true,andO]; rfl,by simpa using h2,by cases p<;>cases q<;>simp⟩
    ·obtain⟨c,hc,rfl⟩:=z0e h
     obtain⟨p,q,h1,h2,rfl⟩:=ih hc
     exact⟨_,q,by simp only[List.length_cons,List.take_succ_cons,eqv,h1,andO]; rfl,by simpa using h2,by cases p<;>cases q<;>simp⟩
def Shp (P:Program) (t:TypeId) (x:Value):Prop:=∃ ag,aggB P t=some ag∧if ag then ∃ cs,x=.agg cs else x.cells=#[x]
theorem zio {P:Program} {t:TypeId} {ag:Bool} (h:aggB P t=some ag):∃ d,P.underlying t=some d:=by
 unfold aggB at h
 split at h
 ·exact⟨_,by assumption⟩
 ·exact⟨_,by assumption⟩
 ·exact⟨_,by assumption⟩
 ·cases h
theorem z5y {P:Program} (w:World) {t:TypeId} {ag:Bool} {n off:Nat} {xs:Array Value} (ha:aggB P t=some ag) (hs:z13 P t=some n) (hl:off+n≤xs.size∨n=0) (hn:ag=false→n=1)
  (h1:∀ u∈xs.toList,u.oneCell'=true):∃ a,(part t xs off).run P w=.ok a w∧Shp P t a∧a.cells.toList=(xs.toList.drop off).take n:=by
 cases ag with
 | true =>
  refine⟨.agg (xs.extract off (off+n)),by simp[part,z4c w ha,z0t w hs],⟨true,ha,⟨_,rfl⟩⟩,?_⟩
  simp[Value.cells,List.extract]
 | false =>
  have hn1:=hn rfl
  subst hn1
  have hlt:off < xs.size:=by omega
  refine⟨xs[off],by simp[part,z4c w ha,hlt],⟨false,ha,?_⟩,?_⟩
  ·have:=h1 xs[off] (by simp)
   simp only[Bool.false_eq_true,if_false]
   cases hx:xs[off]<;>first | rfl | (rw[hx] at this; simp[Value.oneCell'] at this)
  ·have:=h1 xs[off] (by simp)
   have hc:xs[off].cells=#[xs[off]]:=by cases hx:xs[off]<;>first | rfl | (rw[hx] at this; simp[Value.oneCell'] at this)
   rw[hc]
   apply List.ext_getElem?
   intro i
   cases i with
   | zero=>simp[hlt]
   | succ i=>simp[List.getElem?_take]
theorem z4d {P:Program} {n:Nat} {t:TypeId} {ks:List CK} (h:z1l P n t=some ks):∃ ag,aggB P t=some ag∧(ag=false→ks.length=1):=by
 cases n with
 | zero=>cases h
 | succ n =>
  unfold z1l at h
  split at h
  ·rename_i h1; cases h; exact⟨false,by simp[aggB,h1],fun _=>rfl⟩
  ·rename_i h1; cases h; exact⟨false,by simp[aggB,h1],fun _=>rfl⟩
  ·rename_i h1; cases h; exact⟨false,by simp[aggB,h1],fun _=>rfl⟩
  ·rename_i h1; exact⟨true,by simp[aggB,h1],fun h=>by cases h⟩
  ·rename_i h1; exact⟨true,by simp[aggB,h1],fun h=>by cases h⟩
  ·cases h
theorem ziq (ks:List CK):∀ {xs ys:List Value} {b:Bool},eqv ks xs ys=some b→(∀ u∈xs,u.oneCell'=true)∧∀ u∈ys,u.oneCell'=true:=by
 induction ks with
 | nil =>
  intro xs ys b h
  cases xs<;>cases ys<;>simp[eqv] at h ⊢
 | cons k ks ih =>
  intro xs ys b h
  cases xs with
  | nil=>cases k<;>simp[eqv] at h
  | cons x xs =>
   cases ys with
   | nil=>cases k<;>cases x<;>simp[eqv] at h
   | cons y ys =>
    cases k<;>cases x<;>cases y<;>simp only[eqv,reduceCtorEq] at h
    ·obtain⟨c,hc,_⟩:=z0e h; have:=ih hc; simp only[List.mem_cons,forall_eq_or_imp]; exact⟨⟨rfl,this.1⟩,rfl,this.2⟩
    ·obtain⟨_,h'⟩:=z23 h; obtain⟨c,hc,_⟩:=z0e h'; have:=ih hc; simp only[List.mem_cons,forall_eq_or_imp]; exact⟨⟨rfl,this.1⟩,rfl,this.2⟩
    ·obtain⟨c,hc,_⟩:=z0e h; have:=ih hc; simp only[List.mem_cons,forall_eq_or_imp]; exact⟨⟨rfl,this.1⟩,rfl,this.2⟩
def EqF (P:Program) (d:Nat) (t:TypeId) (ks:List CK):Prop :=
 ∀ (w:World) (x y:Value) (b:Bool),Shp P t x→Shp P t y→eqv ks x.cells.toList y.cells.toList=some b→(Op.equalIn d t x y).run P w=.ok b w
theorem z83 {P:Program} {d:Nat} {kt:TypeId→Option (List CK)} (hkt:∀ t ks,kt t=some ks→EqF P d t ks∧∃ ag,aggB P t=some ag∧(ag=false→ks.length=1)) (xs ys:Array Value) :
  ∀ (fs:List Field) (off:Nat) (ks:List CK) (b:Bool) (w:World),z8e P kt fs off=some ks→eqv ks (xs.toList.drop off) (ys.toList.drop off)=some b →
   (∀ u∈xs.toList,u.oneCell'=true)→(∀ u∈ys.toList,u.oneCell'=true)→(Op.eqFields d xs ys fs).run P w=.ok b w
 | [],off,ks,b,w,hf,he,_,_=>by
  simp only[z8e,Option.some.injEq] at hf
  subst hf
  have:b=true:=by
   cases h1:xs.toList.drop off<;>cases h2:ys.toList.drop off<;>simp[h1,h2,eqv] at he
   first | exact he | exact he.symm
  simp[Op.eqFields,this]
 | f::fs,off,ks,b,w,hf,he,hx,hy=>by
  simp only[z8e] at hf
  split at hf
  ·rename_i a c h1 h2
   obtain⟨hc,hf⟩:=z00 hf
   cases hf
   simp only[Bool.and_eq_true,z03,bne_iff_ne,ne_eq,beq_iff_eq] at hc
   obtain⟨⟨hn,ho⟩,hsz⟩:=hc
   obtain⟨hE,ag,hag,hag1⟩:=hkt _ _ h1
   obtain⟨p,q,e1,e2,rfl⟩:=zd8 a c he
   have l1:=z7c _ e1
   have l1x:off+a.length≤xs.size∨a.length=0:=by have:=l1.1; simp at this; omega
   have l1y:off+a.length≤ys.size∨a.length=0:=by have:=l1.2; simp at this; omega
   obtain⟨u,pu,su,cu⟩:=z5y w hag hsz l1x hag1 hx
   obtain⟨v,pv,sv,cv⟩:=z5y w hag hsz l1y hag1 hy
   have hr:=hE w u v p su sv (by rw[cu,cv]; exact e1)
   subst ho
   simp only[Op.eqFields,hn,ne_eq,not_false_eq_true,if_true,Sem.run_bind,pu,pv,Result.andThen_ok,hr]
   cases p with
   | false=>simp
   | true =>
    simp only[Bool.not_true,Bool.false_eq_true,if_false,Bool.true_and]
    refine z83 hkt xs ys fs (f.offset+(z13 P f.type).getD 0) c q w h2 ?_ hx hy
    rw[hsz]
    simpa [List.drop_drop] using e2
  ·cases hf
theorem z9b {P:Program} {d:Nat} {e:TypeId} {ks:List CK} (hE:EqF P d e ks) {ag:Bool} (hag:aggB P e=some ag) (hag1:ag=false→ks.length=1) (hsz:z13 P e=some ks.length) (xs ys:Array Value) :
  ∀ (n i:Nat) (b:Bool) (w:World),eqv (List.replicate n ks).flatten (xs.toList.drop (i * ks.length)) (ys.toList.drop (i * ks.length))=some b →
   (∀ u∈xs.toList,u.oneCell'=true)→(∀ u∈ys.toList,u.oneCell'=true)→(Op.eqItems d e ks.length xs ys (List.range' i n)).run P w=.ok b w
 | 0,i,b,w,he,_,_=>by
  have:b=true:=by
   cases h1:xs.toList.drop (i * ks.length)<;>cases h2:ys.toList.drop (i * ks.length)<;>simp[h1,h2,eqv] at he
   first | exact he | exact he.symm
  simp[Op.eqItems,this]
 | n+1,i,b,w,he,hx,hy=>by
  simp only[List.replicate_succ,List.flatten_cons] at he
  obtain⟨p,q,e1,e2,rfl⟩:=zd8 ks _ he
  have l1:=z7c _ e1
  have l1x:i * ks.length+ks.length≤xs.size∨ks.length=0:=by have:=l1.1; simp at this; omega
  have l1y:i * ks.length+ks.length≤ys.size∨ks.length=0:=by have:=l1.2; simp at this; omega
  obtain⟨u,pu,su,cu⟩:=z5y w hag hsz l1x hag1 hx
  obtain⟨v,pv,sv,cv⟩:=z5y w hag hsz l1y hag1 hy
  have hr:=hE w u v p su sv (by rw[cu,cv]; exact e1)
  simp only[List.range'_succ,Op.eqItems,Sem.run_bind,pu,pv,Result.andThen_ok,hr]
  cases p with
  | false=>simp
  | true =>
   simp only[Bool.not_true,Bool.false_eq_true,if_false,Bool.true_and]
   refine z9b hE hag hag1 hsz xs ys n (i+1) q w ?_ hx hy
   simpa [List.drop_drop,Nat.add_mul] using e2
theorem z1h {P:Program}:∀ (n:Nat) (t:TypeId) (ks:List CK),z1l P n t=some ks→∀ d,n≤d→EqF P d t ks
 | 0,_,_,h,_,_=>by cases h
 | n+1,t,ks,h,d,hd=>by
  obtain⟨d,rfl⟩:∃ d',d=d'+1:=⟨d - 1,by omega⟩
  intro w x y b hx hy he
  have ho:=ziq _ he
  unfold z1l at h
  split at h
  ·rename_i hu
   cases h
   obtain⟨ag,ha,hx⟩:=hx
   obtain⟨ag',ha',hy⟩:=hy
   simp only[aggB,hu,Option.some.injEq] at ha ha'
   subst ha; subst ha'
   simp only[Bool.false_eq_true,if_false] at hx hy
   rw[hx,hy] at he
   cases x<;>cases y<;>simp only[eqv,reduceCtorEq] at he
   rw[run_equalIn_bool w d t _ _ hu]
   obtain⟨c,hc,rfl⟩:=z0e he
   simp only[eqv,Option.some.injEq] at hc
   subst hc; simp
  ·rename_i k hu
   cases h
   obtain⟨ag,ha,hx⟩:=hx
   obtain⟨ag',ha',hy⟩:=hy
   simp only[aggB,hu,Option.some.injEq] at ha ha'
   subst ha; subst ha'
   simp only[Bool.false_eq_true,if_false] at hx hy
   rw[hx,hy] at he
   cases x<;>cases y<;>simp only[eqv,reduceCtorEq] at he
   obtain⟨rfl,he'⟩:=z23 he
   rw[run_equalIn_int w d t _ _ _ _ hu]
   obtain⟨c,hc,rfl⟩:=z0e he'
   simp only[eqv,Option.some.injEq] at hc
   subst hc; simp[BEq.beq]
  ·rename_i hu
   cases h
   obtain⟨ag,ha,hx⟩:=hx
   obtain⟨ag',ha',hy⟩:=hy
   simp only[aggB,hu,Option.some.injEq] at ha ha'
   subst ha; subst ha'
   simp only[Bool.false_eq_true,if_false] at hx hy
   rw[hx,hy] at he
   cases x<;>cases y<;>simp only[eqv,reduceCtorEq] at he
   rw[run_equalIn_string w d t _ _ hu]
   obtain⟨c,hc,rfl⟩:=z0e he
   simp only[eqv,Option.some.injEq] at hc
   subst hc
   rw[← beq_toListBytes,z6u]
   simp
  ·rename_i fs hu
   obtain⟨hst,h⟩:P.stoodInHeld t=false∧z8e P (z1l P n) fs.toList 0=some ks:=by
    cases hst:P.stoodInHeld t<;>simp[hst] at h
    exact⟨rfl,h⟩
   obtain⟨ag,ha,hx⟩:=hx
   obtain⟨ag',ha',hy⟩:=hy
   simp only[aggB,hu,Option.some.injEq] at ha ha'
   subst ha; subst ha'
   obtain⟨X,rfl⟩:=hx
   obtain⟨Y,rfl⟩:=hy
   have hfs:P.fieldsOf t=fs:=by simp[Program.fieldsOf,hu]
   rw[run_equalIn_struct w d t X Y (by rw[hfs]; exact hu) hst,hfs]
   exact z83 (fun t' ks' hk=>⟨z1h n t' ks' hk d (by omega),z4d hk⟩) X Y fs.toList 0 ks b w h (by simpa [Value.cells] using he) ho.1 ho.2
  ·rename_i len e hu
   split at h
   ·rename_i ks' hk
    obtain⟨hs,h⟩:=z00 h
    cases h
    simp only[beq_iff_eq] at hs
    obtain⟨ag,ha,hx⟩:=hx
    obtain⟨ag',ha',hy⟩:=hy
    simp only[aggB,hu,Option.some.injEq] at ha ha'
    subst ha; subst ha'
    obtain⟨X,rfl⟩:=hx
    obtain⟨Y,rfl⟩:=hy
    obtain⟨ag,hag,hag1⟩:=z4d hk
    obtain⟨i,hi,his⟩:∃ i,P.info? e=some i∧i.size=ks'.length:=by
     unfold z13 at hs
     cases hi:P.info? e with
     | none=>simp[hi] at hs
     | some i=>simp[hi] at hs; exact⟨i,rfl,hs⟩
    have hc:P.cellsOf e=ks'.length:=by simp[Program.cellsOf,hi,his]
    rw[run_equalIn_array w d X Y hu hi,hc,List.range_eq_range']
    exact z9b (z1h n e ks' hk d (by omega)) hag hag1 hs X Y len 0 b w (by simpa [Value.cells] using he) ho.1 ho.2
   ·cases h
  ·cases h
end Go.Abs
namespace Go.Abs
open Go Go.RowKit
variable [Glob]
def CkF (P:Program) (em:Bool) (d:Nat) (t:TypeId) (n:Nat):Prop :=
 ∀ (w:World) (x:Value),Shp P t x→x.cells.size=n→(∀ u∈x.cells.toList,u.oneCell'=true)→(Instr.checkKey em d t x).run P w=.ok () w
theorem z84 {P:Program} {em:Bool} {d:Nat} {kt:TypeId→Option (List CK)} (hkt:∀ t ks,kt t=some ks→CkF P em d t ks.length∧∃ ag,aggB P t=some ag∧(ag=false→ks.length=1)) (xs:Array Value)
  (hx:∀ u∈xs.toList,u.oneCell'=true) (g:Field→PUnit→Sem (ForInStep PUnit)) (hg:∀ f,f.name ≠ "_" → ∀ (w:World) a,(part f.type xs f.offset).run P w=.ok a w→(Instr.checkKey em d f.type a).run P w=.ok () w→(g f ⟨⟩).run P w=.ok (.yield ⟨⟩) w) :
  ∀ (fs:List Field) (off:Nat) (ks:List CK) (w:World),z8e P kt fs off=some ks→off+ks.length≤xs.size→(forIn fs ⟨⟩ g).run P w=.ok ⟨⟩ w
 | [],off,ks,w,_,_=>by simp
 | f::fs,off,ks,w,hf,hl=>by
  simp only[z8e] at hf
  split at hf
  ·rename_i a c h1 h2
   obtain⟨hc,hf⟩:=z00 hf
   cases hf
   simp only[Bool.and_eq_true,z03,bne_iff_ne,ne_eq,beq_iff_eq] at hc
   obtain⟨⟨hn,ho⟩,hsz⟩:=hc
   obtain⟨hE,ag,hag,hag1⟩:=hkt _ _ h1
   simp only[List.length_append] at hl
   obtain⟨u,pu,su,cu⟩:=z5y (off:=off) w hag hsz (.inl (by omega)) hag1 hx
   have hcu:u.cells.size=a.length:=by
    have:=congrArg List.length cu
    simp at this
    omega
   have hr:=hE w u su hcu (by rw[cu]; exact fun v hv=>hx v (List.mem_of_mem_drop (List.mem_of_mem_take hv)))
   subst ho
   have hgr:=hg f hn w u pu hr
   rw[List.forIn_cons,Sem.run_bind,hgr,Result.andThen_ok]
   refine z84 hkt xs hx g hg fs (f.offset+(z13 P f.type).getD 0) c w h2 ?_
   rw[hsz]
   simp only[Option.getD_some]
   omega
  ·cases hf
theorem z2s {P:Program} {em:Bool}:∀ (n:Nat) (t:TypeId) (ks:List CK),z1l P n t=some ks→∀ d,n≤d→CkF P em d t ks.length
 | 0,_,_,h,_,_=>by cases h
 | n+1,t,ks,h,d,hd=>by
  obtain⟨d,rfl⟩:∃ d',d=d'+1:=⟨d - 1,by omega⟩
  intro w x hx hsz ho
  unfold z1l at h
  split at h
  ·rename_i hu; simp[Instr.checkKey,run_underlying hu]
  ·rename_i k hu; simp[Instr.checkKey,run_underlying hu]
  ·rename_i hu; simp[Instr.checkKey,run_underlying hu]
  ·rename_i fs hu
   obtain⟨hst,h⟩:P.stoodInHeld t=false∧z8e P (z1l P n) fs.toList 0=some ks:=by
    cases hst:P.stoodInHeld t<;>simp[hst] at h
    exact⟨rfl,h⟩
   obtain⟨ag,ha,hx⟩:=hx
   simp only[aggB,hu,Option.some.injEq] at ha
   subst ha
   obtain⟨X,rfl⟩:=hx
   simp only[Value.cells] at hsz ho
   simp only[Instr.checkKey,Sem.run_bind,run_underlying hu,Result.andThen_ok]
   rw[← Array.forIn_toList]
   rw[z84 (fun t' ks' hk=>⟨z2s (em:=em) n t' ks' hk d (by omega),z4d hk⟩) X ho _ ?_ fs.toList 0 ks w h (by omega)]
   ·rfl
   intro f hn w a p1 p2
   simp only[hn,ne_eq,not_false_eq_true,if_true,Sem.run_bind,Result.andThen_ok,p1,p2,Sem.run_pure]
  ·rename_i len e hu
   split at h
   ·rename_i ks' hk
    obtain⟨hs,h⟩:=z00 h
    cases h
    simp only[beq_iff_eq] at hs
    obtain⟨ag,ha,hx⟩:=hx
    simp only[aggB,hu,Option.some.injEq] at ha
    subst ha
    obtain⟨X,rfl⟩:=hx
    obtain⟨ag,hag,hag1⟩:=z4d hk
    simp only[Value.cells] at hsz ho
    have hE:=z2s (em:=em) n e ks' hk d (by omega)
    simp only[Instr.checkKey,Sem.run_bind,run_underlying hu,Result.andThen_ok]
    simp only[Std.Legacy.Range.forIn_eq_forIn_range',Std.Legacy.Range.size,Nat.sub_zero,Nat.add_one_sub_one,Nat.div_one]
    have hlen:X.size=len * ks'.length:=by simpa using hsz
    have key:∀ (m i:Nat) (w:World),i+m≤len→(forIn (List.range' i m) PUnit.unit fun i (_:PUnit)=>do
      let a ← sizeOf e
      let b ← part e X (i * a)
      Instr.checkKey em d e b
      pure (ForInStep.yield PUnit.unit)).run P w=.ok ⟨⟩ w:=by
     intro m
     induction m with
     | zero=>intro i w _; simp
     | succ m ih =>
      intro i w hi
      have hb:i * ks'.length+ks'.length≤X.size:=by
       rw[hlen]
       calc i * ks'.length+ks'.length=(i+1) * ks'.length:=by rw[Nat.add_mul,Nat.one_mul]
        _≤len * ks'.length:=Nat.mul_le_mul_right _ (by omega)
      obtain⟨u,pu,su,cu⟩:=z5y w hag hs (.inl hb) hag1 ho
      have hcu:u.cells.size=ks'.length:=by
       have:=congrArg List.length cu
       simp at this
       omega
      have hr:=hE w u su hcu (by rw[cu]; exact fun v hv=>ho v (List.mem_of_mem_drop (List.mem_of_mem_take hv)))
      simp only[List.range'_succ,List.forIn_cons,Sem.run_bind,z0t w hs,Result.andThen_ok,pu,hr,Sem.run_pure]
      exact ih (i+1) w (by omega)
    rw[key len 0 w (by omega)]
    rfl
   ·cases h
  ·cases h
inductive FndR (P:Program) (kt:TypeId) (ks:List CK) (k:Value):List MapEntry→Nat→Option (Nat × Value)→Prop
 | nil {i:Nat}:FndR P kt ks k [] i none
 | hit {e:MapEntry} {es:List MapEntry} {i:Nat} (hs:Shp P kt e.key) (h:eqv ks k.cells.toList e.key.cells.toList=some true):FndR P kt ks k (e::es) i (some (i,e.val))
 | miss {e:MapEntry} {es:List MapEntry} {i:Nat} {r:Option (Nat × Value)} (hs:Shp P kt e.key) (h:eqv ks k.cells.toList e.key.cells.toList=some false) (hr:FndR P kt ks k es (i+1) r):FndR P kt ks k (e::es) i r
theorem zep {P:Program} {kt:TypeId} {d:TypeDesc} {ks:List CK} {k:Value} (hs:∀ y b b',Instr.sameNow d k y=some b→eqv ks k.cells.toList y.cells.toList=some b'→b=b')
  {es:List MapEntry} {i:Nat} {r r':Option (Nat × Value)} (h':FndR P kt ks k es i r') (h:Instr.findNow d k es i=some r):r=r':=by
 induction h' with
 | nil=>simp only[Instr.findNow,Option.some.injEq] at h; exact h.symm
 | hit _ h2 =>
  rename_i e es i _
  simp only[Instr.findNow] at h
  cases h1:Instr.sameNow d k e.key with
  | none=>simp[h1] at h
  | some b =>
   have:=hs e.key b _ h1 h2
   subst this
   rw[h1] at h
   simp only[Option.some.injEq] at h
   exact h.symm
 | miss _ h2 _ ih =>
  rename_i e es i r _ _
  simp only[Instr.findNow] at h
  cases h1:Instr.sameNow d k e.key with
  | none=>simp[h1] at h
  | some b =>
   have:=hs e.key b _ h1 h2
   subst this
   rw[h1] at h
   exact ih h
theorem zaj {P:Program} {kt:TypeId} {ks:List CK} {k:Value} (hE:EqF P 10000 kt ks) (hk:Shp P kt k) {es:List MapEntry} {i:Nat} {r:Option (Nat × Value)} (h:FndR P kt ks k es i r) (w:World) :
  (Instr.findAsking kt k es i).run P w=.ok r w:=by
 induction h with
 | nil=>simp[Instr.findAsking]
 | hit hs h2 =>
  rename_i e es i
  have hr:=hE w k e.key true hk hs h2
  simp only[Instr.findAsking,Op.equal,Op.maxDepth,Sem.run_bind,hr,Result.andThen_ok,if_true,Sem.run_pure]
 | miss hs h2 _ ih =>
  rename_i e es i r _
  have hr:=hE w k e.key false hk hs h2
  simp only[Instr.findAsking,Op.equal,Op.maxDepth,Sem.run_bind,hr,Result.andThen_ok,Bool.false_eq_true,if_false]
  exact ih
theorem zd9 {P:Program} {n:Nat} {kt:TypeId} {ks:List CK} {d:TypeDesc} (hf:z1l P n kt=some ks) (hu:P.underlying kt=some d) {x y:Value} {b b':Bool}
  (h:Instr.sameNow d x y=some b) (h':eqv ks x.cells.toList y.cells.toList=some b'):b=b':=by
 cases n with
 | zero=>cases hf
 | succ n =>
  unfold z1l at hf
  rw[hu] at hf
  unfold Instr.sameNow at h
  split at h
  ·cases hf
   rename_i k a k' c
   split at h
   ·rename_i hk
    cases h
    simp only[Value.cells,eqv,zcv,hk,if_true] at h'
    obtain⟨c,hc,rfl⟩:=z0e h'
    simp only[Option.some.injEq] at hc
    subst hc
    simp[BEq.beq]
   ·cases h
  ·cases hf
   rename_i a c
   cases h
   simp only[Value.cells,eqv] at h'
   obtain⟨c,hc,rfl⟩:=z0e h'
   simp only[Option.some.injEq] at hc
   subst hc
   rw[z6u]; simp
  ·cases hf
   rename_i a c
   cases h
   simp only[Value.cells,eqv] at h'
   obtain⟨c,hc,rfl⟩:=z0e h'
   simp only[Option.some.injEq] at hc
   subst hc
   simp
  ·cases h
theorem z55 {P:Program} {n:Nat} (hn:n≤10000) {kt:TypeId} {ks:List CK} (hf:z1l P n kt=some ks) {k:Value} (hk:Shp P kt k) {es:List MapEntry} {r:Option (Nat × Value)} (h:FndR P kt ks k es 0 r) (w:World) :
  (Instr.findKey kt k es).run P w=.ok r w:=by
 obtain⟨ag,hag,_⟩:=z4d hf
 obtain⟨d,hu⟩:=zio hag
 simp only[Instr.findKey,Sem.run_bind,run_underlying hu,Result.andThen_ok]
 cases h1:Instr.findNow d k es 0 with
 | none=>exact zaj (z1h n kt ks hf 10000 hn) hk h w
 | some r' =>
  have:=zep (fun y b b'=>zd9 hf hu) h h1
  subst this; rfl
theorem zmd (ks:List CK):∀ {xs ys:List Value},eqv ks xs ys=some true→xs=ys:=by
 induction ks with
 | nil=>intro xs ys h; cases xs<;>cases ys<;>simp[eqv] at h ⊢
 | cons k ks ih =>
  intro xs ys h
  cases xs with
  | nil=>cases k<;>simp[eqv] at h
  | cons x xs =>
   cases ys with
   | nil=>cases k<;>cases x<;>simp[eqv] at h
   | cons y ys =>
    cases k<;>cases x<;>cases y<;>simp only[eqv,reduceCtorEq] at h
    ·obtain⟨c,hc,h'⟩:=z0e h; simp at h'; rw[h'.2] at hc; rw[ih hc,h'.1]
    ·obtain⟨rfl,h'⟩:=z23 h; obtain⟨c,hc,h'⟩:=z0e h'; simp at h'; rw[h'.2] at hc; rw[ih hc,h'.1]
    ·obtain⟨c,hc,h'⟩:=z0e h; simp at h'; rw[h'.2] at hc; rw[ih hc,h'.1]
theorem Shp.eq {P:Program} {t:TypeId} {ks:List CK} {x y:Value} (hx:Shp P t x) (hy:Shp P t y) (h:eqv ks x.cells.toList y.cells.toList=some true):x=y:=by
 have he:=zmd ks h
 obtain⟨ag,ha,hx⟩:=hx
 obtain⟨ag',ha',hy⟩:=hy
 rw[ha] at ha'
 cases ha'
 cases ag with
 | true =>
  obtain⟨X,rfl⟩:=hx
  obtain⟨Y,rfl⟩:=hy
  simp only[Value.cells] at he
  rw[Array.toList_inj.1 he]
 | false =>
  simp only[Bool.false_eq_true,if_false] at hx hy
  rw[hx,hy] at he
  simpa using he
theorem zc0 {P:Program} {t:TypeId} {ks:List CK} {x:Value} (hx:Shp P t x) (h:eqv ks x.cells.toList x.cells.toList=some true):Instr.sameBits 10000 x x=true:=by
 have base:∀ (ks:List CK) (xs:List Value),eqv ks xs xs=some true→∀ u∈xs,∀ n,Instr.sameBits n u u=true:=by
  intro ks
  induction ks with
  | nil=>intro xs h; cases xs<;>simp[eqv] at h ⊢
  | cons k ks ih =>
   intro xs h
   cases xs with
   | nil=>simp
   | cons x xs =>
    intro u hu n
    cases k<;>cases x<;>simp only[eqv,reduceCtorEq] at h
    ·obtain⟨c,hc,h'⟩:=z0e h
     simp at h'; subst h'
     cases hu with
     | head=>simp[Instr.sameBits]
     | tail _ hu=>exact ih xs hc u hu n
    ·obtain⟨_,h'⟩:=z23 h
     obtain⟨c,hc,h'⟩:=z0e h'
     simp at h'; subst h'
     cases hu with
     | head=>simp[Instr.sameBits]
     | tail _ hu=>exact ih xs hc u hu n
    ·obtain⟨c,hc,h'⟩:=z0e h
     simp at h'; subst h'
     cases hu with
     | head=>simp[Instr.sameBits,z6u]
     | tail _ hu=>exact ih xs hc u hu n
 obtain⟨ag,ha,hx⟩:=hx
 have hb:=base ks _ h
 cases ag with
 | true =>
  obtain⟨X,rfl⟩:=hx
  simp only[Value.cells] at hb
  have:∀ (l:List Value),(∀ u∈l,∀ n,Instr.sameBits n u u=true)→((l.zip l).all fun(x,y)=>Instr.sameBits 9999 x y)=true:=by
   intro l
   induction l with
   | nil=>simp
   | cons a l ih=>intro hl; simp only[List.zip_cons_cons,List.all_cons,hl a (by simp) 9999,Bool.true_and]; exact ih fun u hu=>hl u (by simp[hu])
  rw[show (10000:Nat)=9999+1 from rfl]
  simp only[Instr.sameBits,this X.toList hb,beq_self_eq_true,Bool.and_self]
 | false =>
  simp only[Bool.false_eq_true,if_false] at hx
  rw[hx] at hb
  exact hb x (by simp) 10000
theorem zda {P:Program} {kt:TypeId→Option (List CK)}:∀ (fs:List Field) (off:Nat) (ks:List CK),z8e P kt fs off=some ks→∀ f∈fs,∃ ks',kt f.type=some ks'
 | [],_,_,_=>by simp
 | f::fs,off,ks,h=>by
  simp only[z8e] at h
  split at h
  ·rename_i a c h1 h2
   intro g hg
   cases hg with
   | head=>exact⟨a,h1⟩
   | tail _ hg=>exact zda fs _ c h2 g hg
  ·cases h
theorem z36 {P:Program}:∀ (n:Nat) (t:TypeId) (ks:List CK),z1l P n t=some ks→∀ d,n≤d→P.eqGuardType d t=false
 | 0,_,_,h,_,_=>by cases h
 | n+1,t,ks,h,d,hd=>by
  obtain⟨d,rfl⟩:∃ d',d=d'+1:=⟨d - 1,by omega⟩
  unfold z1l at h
  unfold Program.eqGuardType
  split at h
  ·rename_i hu; simp[hu]
  ·rename_i k hu; simp[hu]
  ·rename_i hu; simp[hu]
  ·rename_i fs hu
   rw[hu]
   obtain⟨hst,h⟩:P.stoodInHeld t=false∧z8e P (z1l P n) fs.toList 0=some ks:=by
    cases hst:P.stoodInHeld t<;>simp[hst] at h
    exact⟨rfl,h⟩
   simp only
   rw[Array.any_eq_false']
   intro f hf
   obtain⟨ks',hk⟩:=zda _ _ _ h f (Array.mem_toList_iff.2 hf)
   simp[z36 n f.type ks' hk d (by omega)]
  ·rename_i len e hu
   rw[hu]
   split at h
   ·rename_i ks' hk
    exact z36 n e ks' hk d (by omega)
   ·cases h
  ·cases h
end Go.Abs
