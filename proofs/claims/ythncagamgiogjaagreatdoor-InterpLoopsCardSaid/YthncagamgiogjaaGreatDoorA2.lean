/- On the way to: InterpLoops returns true; its listed variables read as the text lays them. -/
import Derived.Test.YthncagamgiogjaaGreatDoorA1
import Derived.Calls
import Derived.Laws.CopyRow
import Derived.Laws.Rows
import Derived.Lib.FrozenHead
import Derived.Below
set_option autoImplicit false
set_option linter.unusedSectionVars false
set_option linter.unusedSimpArgs false
set_option linter.unusedVariables false
namespace Go.Abs
open Go
theorem z00 {α:Type} {b:Bool} {x:Option α} {y:α} (h:cond b x none=some y):b=true∧x=some y:=by
 cases b<;>simp_all
theorem z08 {α:Type} {b:Bool} {x:Option α} {y:α}:cond b x none=some y↔b=true∧x=some y:=by cases b<;>simp
theorem z03 {a b:Nat}:Nat.beq a b=true↔a=b:=Nat.beq_eq ▸ Iff.rfl
@[simp] theorem zef {α:Type} (l:List α):∀ n,lenK l n=n+l.length:=by
 induction l with
 | nil=>intro n; cases n<;>rfl
 | cons a l ih =>
  intro n
  cases n with
  | zero=>simp only[lenK,ih,List.length_cons]; omega
  | succ n=>simp only[lenK,ih,List.length_cons]; omega
theorem zd:∀ (l:List AV) (acc:List Nat),z6r acc l=(bytesOf l).map fun q=>acc.reverse++q
 | [],acc=>by simp[z6r,bytesOf]
 | v::l,acc=>by
  unfold z6r
  split
  ·next h=>cases h
  ·next n rest h =>
   cases h
   rw[zd l]
   simp only[bytesOf,zbp,zcx]
   cases hb:bytesOf l with
   | none=>simp[zcw]
   | some q=>simp only[zcw,Option.map_some]; cases Nat.blt n 256<;>simp
  ·next h1 hn =>
   have:zbp v=none:=by
    unfold zbp
    split
    ·next n=>exact absurd rfl (hn n l)
    ·rfl
   simp[bytesOf,this,zcx]
@[simp] theorem zap (l:List AV):z6r [] l=bytesOf l:=by rw[zd]; cases bytesOf l<;>simp
@[simp] theorem Tm.get_nil (p:Pth):Tm.nil.get p=.undef:=rfl
@[simp] theorem Tm.get_node_e (v:AV) (l r:Tm):(Tm.node v l r).get .e=v:=rfl
@[simp] theorem Tm.get_node_l (v:AV) (l r:Tm) (p:Pth):(Tm.node v l r).get (.l p)=l.get p:=rfl
@[simp] theorem Tm.get_node_r (v:AV) (l r:Tm) (p:Pth):(Tm.node v l r).get (.r p)=r.get p:=rfl
@[simp] theorem Tm.set_nil_e (x:AV):Tm.nil.set .e x=.node x .nil .nil:=rfl
@[simp] theorem Tm.set_nil_l (p:Pth) (x:AV):Tm.nil.set (.l p) x=.node .undef (Tm.nil.set p x) .nil:=rfl
@[simp] theorem Tm.set_nil_r (p:Pth) (x:AV):Tm.nil.set (.r p) x=.node .undef .nil (Tm.nil.set p x):=rfl
@[simp] theorem Tm.set_node_e (v:AV) (l r:Tm) (x:AV):(Tm.node v l r).set .e x=.node x l r:=rfl
@[simp] theorem Tm.set_node_l (v:AV) (l r:Tm) (p:Pth) (x:AV):(Tm.node v l r).set (.l p) x=.node v (l.set p x) r:=rfl
@[simp] theorem Tm.set_node_r (v:AV) (l r:Tm) (p:Pth) (x:AV):(Tm.node v l r).set (.r p) x=.node v l (r.set p x):=rfl
theorem Tm.get_set_same (t:Tm) (p:Pth) (x:AV):(t.set p x).get p=x:=by
 induction p generalizing t with
 | e=>cases t<;>simp
 | l p ih=>cases t<;>simp[ih]
 | r p ih=>cases t<;>simp[ih]
theorem Tm.get_set_ne (t:Tm) (p q:Pth) (x:AV) (h:p≠q):(t.set p x).get q=t.get q:=by
 induction p generalizing t q with
 | e=>cases t<;>cases q<;>simp_all
 | l p ih=>cases t<;>cases q<;>simp_all
 | r p ih=>cases t<;>cases q<;>simp_all
theorem zm5 (f g:Nat):∀ (n m:Nat),n≤f→m≤g→pthF f n=pthF g m→n=m:=by
 induction f generalizing g with
 | zero =>
  intro n m hn hm h
  have:n=0:=by omega
  subst this
  cases g with
  | zero=>omega
  | succ g =>
   simp only[pthF] at h
   split at h
   ·omega
   ·split at h<;>simp at h
 | succ f ih =>
  intro n m hn hm h
  cases g with
  | zero =>
   have:m=0:=by omega
   subst this
   simp only[pthF] at h
   split at h
   ·omega
   ·split at h<;>simp at h
  | succ g =>
   simp only[pthF] at h
   split at h
   ·split at h
    ·omega
    ·split at h<;>simp at h
   ·split at h
    ·split at h
     ·simp at h
     ·split at h
      ·simp at h
       have:=ih g (n / 2) (m / 2) (by omega) (by omega) h
       omega
      ·simp at h
    ·split at h
     ·simp at h
     ·split at h
      ·simp at h
      ·simp at h
       have:=ih g (n / 2 - 1) (m / 2 - 1) (by omega) (by omega) h
       omega
theorem zeg {n m:Nat} (h:pth n=pth m):n=m:=zm5 n m n m (Nat.le_refl _) (Nat.le_refl _) h
theorem zah (f:FS) (a inst:Nat) (o:Ob) (h:z40 f a inst≠.none):z40 (z2i f a inst o) a inst=o:=by
 unfold z40 at h
 unfold z2i
 cases he:f.objs[a]? with
 | none=>simp[he] at h
 | some x =>
  obtain⟨i,cur,prev⟩:=x
  have ha:a < f.objs.length:=(List.getElem?_eq_some_iff.1 he).1
  simp only[he] at h ⊢
  cases h1:Nat.beq i inst with
  | true=>simp[h1,z40,ha]
  | false =>
   simp only[h1,cond_false] at h ⊢
   cases h2:Nat.beq i (inst+1) with
   | true=>simp[h2,z40,ha,h1]
   | false=>simp[h2] at h
theorem zd0 (f:FS) (a inst b jnst:Nat) (o:Ob) (h:¬ (a=b∧inst=jnst)):z40 (z2i f a inst o) b jnst=z40 f b jnst:=by
 unfold z2i
 cases he:f.objs[a]? with
 | none=>rfl
 | some x =>
  obtain⟨i,cur,prev⟩:=x
  have ha:a < f.objs.length:=(List.getElem?_eq_some_iff.1 he).1
  simp only
  cases h1:Nat.beq i inst with
  | true =>
   simp only[cond_true]
   by_cases hab:a=b
   ·subst hab
    have hi:i=inst:=z03.1 h1
    subst hi
    have hj:i≠jnst:=fun e=>h ⟨rfl,e⟩
    have:Nat.beq i jnst=false:=by rw[Bool.eq_false_iff]; exact fun e=>hj (z03.1 e)
    simp only[z40,he,List.getElem?_set_self ha,this,cond_false]
   ·simp only[z40,List.getElem?_set_ne hab]
  | false =>
   simp only[cond_false]
   cases h2:Nat.beq i (inst+1) with
   | false=>rfl
   | true =>
    simp only[cond_true]
    by_cases hab:a=b
    ·subst hab
     have hi:i=inst+1:=z03.1 h2
     subst hi
     have hj:inst≠jnst:=fun e=>h ⟨rfl,e⟩
     have:Nat.beq (inst+1) (jnst+1)=false:=by rw[Bool.eq_false_iff]; exact fun e=>hj (by have:=z03.1 e; omega)
     simp only[z40,he,List.getElem?_set_self ha,this,cond_false]
    ·simp only[z40,List.getElem?_set_ne hab]
@[simp] theorem z92 (f:FS) (a inst:Nat) (o:Ob):(z2i f a inst o).fid=f.fid:=by
 unfold z2i; split
 ·rename_i i cur prev _
  cases Nat.beq i inst<;>cases Nat.beq i (inst+1)<;>rfl
 ·rfl
@[simp] theorem z7b (f:FS) (a inst:Nat) (o:Ob):(z2i f a inst o).live=f.live:=by
 unfold z2i; split
 ·rename_i i cur prev _
  cases Nat.beq i inst<;>cases Nat.beq i (inst+1)<;>rfl
 ·rfl
def zij (f:FS) (a:Nat):Option Nat:=(f.objs[a]?).map (·.1)
@[simp] theorem fsSet_inst (f:FS) (a inst b:Nat) (o:Ob):zij (z2i f a inst o) b=zij f b:=by
 unfold z2i zij
 split
 ·rename_i i cur prev he
  have ha:a < f.objs.length:=(List.getElem?_eq_some_iff.1 he).1
  by_cases hab:a=b
  ·subst hab
   cases Nat.beq i inst<;>cases Nat.beq i (inst+1)<;>simp only[cond_true,cond_false,he,List.getElem?_set_self ha,Option.map_some]
  ·cases Nat.beq i inst<;>cases Nat.beq i (inst+1)<;>simp only[cond_true,cond_false,List.getElem?_set_ne hab]
 ·rfl
theorem z93 (stk:List FS) (fid a inst:Nat) (o:Ob) (h:z0z stk fid a inst≠.none):z0z (z18 stk fid a inst o) fid a inst=o:=by
 induction stk with
 | nil=>simp[z0z] at h
 | cons f rest ih =>
  simp only[z0z,z18] at h ⊢
  cases hf:Nat.beq f.fid fid with
  | true=>simp only[hf,cond_true] at h ⊢; simp[z0z,hf,zah f a inst o h]
  | false=>simp only[hf,cond_false] at h ⊢; simp[z0z,hf,ih h]
theorem zbt (stk:List FS) (fid a inst gid b jnst:Nat) (o:Ob) (h:¬ (fid=gid∧a=b∧inst=jnst)) :
  z0z (z18 stk fid a inst o) gid b jnst=z0z stk gid b jnst:=by
 induction stk with
 | nil=>rfl
 | cons f rest ih =>
  simp only[z0z,z18]
  cases hf:Nat.beq f.fid fid with
  | true =>
   simp only[cond_true,z0z,z92]
   cases hg:Nat.beq f.fid gid with
   | true =>
    simp only[cond_true]
    have:fid=gid:=by rw[← z03.1 hf,← z03.1 hg]
    exact zd0 f a inst b jnst o (fun e=>h ⟨this,e.1,e.2⟩)
   | false=>simp
  | false =>
   simp only[cond_false,z0z]
   cases hg:Nat.beq f.fid gid with
   | true=>rfl
   | false=>simp only[cond_false]; exact ih
theorem E.get_set_same (e:E) (l:Lo) (o:Ob) (h:e.get l≠.none):(e.set l o).get l=o:=by
 obtain⟨stk,glo,gl⟩:=e
 cases l with
 | lo fid a inst=>exact z93 stk fid a inst o h
 | gl i =>
  simp only[E.get,E.set] at h ⊢
  cases hi:glo[i]? with
  | none=>simp[hi] at h
  | some x=>simp[(List.getElem?_eq_some_iff.1 hi).1]
theorem E.get_set_ne (e:E) (l l':Lo) (o:Ob) (h:l≠l'):(e.set l o).get l'=e.get l':=by
 obtain⟨stk,glo,gl⟩:=e
 cases l with
 | lo fid a inst =>
  cases l' with
  | lo gid b jnst=>exact zbt stk fid a inst gid b jnst o (fun⟨h1,h2,h3⟩=>h (by rw[h1,h2,h3]))
  | gl j=>rfl
 | gl i =>
  cases l' with
  | lo gid b jnst=>rfl
  | gl j =>
   have:i≠j:=fun e=>h (by rw[e])
   simp[E.get,E.set,this]
theorem z2n {l:List Nat} {k:Nat}:z0f l k=true↔k∈l:=by
 induction l with
 | nil=>simp[z0f]
 | cons j l ih =>
  simp only[z0f]
  cases h:Nat.beq j k with
  | true=>simp[z03.1 h]
  | false =>
   have:¬ j=k:=fun e=>by rw[z03.2 e] at h; cases h
   simp[ih,Ne.symm this]
theorem zd1 {l:List Nat} {k j:Nat}:j∈z3b l k↔j∈l∧j≠k:=by
 induction l with
 | nil=>simp[z3b]
 | cons i l ih =>
  simp only[z3b]
  cases h:Nat.beq i k with
  | true =>
   have:=z03.1 h
   subst this
   simp[ih]
   intro h1 h2
   exact absurd h2 h1
  | false =>
   have hne:¬ i=k:=fun e=>by rw[z03.2 e] at h; cases h
   simp[ih]
   constructor
   ·rintro(rfl | ⟨h1,h2⟩)
    ·exact⟨Or.inl rfl,hne⟩
    ·exact⟨Or.inr h1,h2⟩
   ·rintro⟨rfl | h1,h2⟩
    ·exact Or.inl rfl
    ·exact Or.inr ⟨h1,h2⟩
theorem z1y {stk:List FS} {k:Nat}:z0u stk k=true↔∃ f∈stk,k∈f.live:=by
 induction stk with
 | nil=>simp[z0u]
 | cons f rest ih =>
  simp only[z0u]
  cases h:z0f f.live k with
  | true=>simp[z2n.1 h]
  | false =>
   have:¬ k∈f.live:=fun e=>by rw[z2n.2 e] at h; cases h
   simp[ih,this]
theorem E.live_iff {e:E} {k:Nat}:e.live k=true↔(∃ f∈e.stk,k∈f.live)∨k∈e.gl:=by
 obtain⟨stk,glo,gl⟩:=e
 simp only[E.live]
 cases h:z0u stk k with
 | true=>simp[z1y.1 h]
 | false =>
  have:¬ ∃ f∈stk,k∈f.live:=fun e=>by rw[z1y.2 e] at h; cases h
  simp[z2n]
  intro f hf hk
  exact absurd ⟨f,hf,hk⟩ this
theorem zeh {stk:List FS} {fid a inst k:Nat} {o:Ob}:z0u (z18 stk fid a inst o) k=z0u stk k:=by
 induction stk with
 | nil=>rfl
 | cons f rest ih =>
  simp only[z18]
  cases Nat.beq f.fid fid with
  | true=>simp[z0u]
  | false=>simp[z0u,ih]
@[simp] theorem E.live_set (e:E) (l:Lo) (o:Ob) (k:Nat):(e.set l o).live k=e.live k:=by
 obtain⟨stk,glo,gl⟩:=e
 cases l with
 | lo fid a inst=>simp[E.set,E.live,zeh]
 | gl i=>rfl
theorem zd2 {stk:List FS} {k j:Nat}:z0u (z10 stk k) j=true↔z0u stk j=true∧j≠k:=by
 rw[z1y,z1y]
 induction stk with
 | nil=>simp[z10]
 | cons f rest ih =>
  simp only[z10]
  have hf:∀ g:FS,g.live=z3b f.live k→((∃ f'∈g::z10 rest k,j∈f'.live)↔(∃ f'∈f::rest,j∈f'.live)∧j≠k):=by
   intro g hg
   simp only[List.mem_cons,exists_eq_or_imp,hg,zd1]
   rw[ih]
   constructor
   ·rintro(⟨h1,h2⟩ | ⟨h1,h2⟩)
    ·exact⟨Or.inl h1,h2⟩
    ·exact⟨Or.inr h1,h2⟩
   ·rintro⟨h1 | h1,h2⟩
    ·exact Or.inl ⟨h1,h2⟩
    ·exact Or.inr ⟨h1,h2⟩
  cases h:z0f f.live k with
  | true=>exact hf _ rfl
  | false =>
   have hn:¬ k∈f.live:=fun e=>by rw[z2n.2 e] at h; cases h
   simp only[cond_false,List.mem_cons,exists_eq_or_imp]
   rw[ih]
   constructor
   ·rintro(h1 | ⟨h1,h2⟩)
    ·exact⟨Or.inl h1,fun e=>hn (e ▸ h1)⟩
    ·exact⟨Or.inr h1,h2⟩
   ·rintro⟨h1 | h1,h2⟩
    ·exact Or.inl h1
    ·exact Or.inr ⟨h1,h2⟩
theorem E.live_kill {e:E} {k j:Nat}:(e.kill k).live j=true↔e.live j=true∧j≠k:=by
 obtain⟨stk,glo,gl⟩:=e
 simp only[E.kill,E.live]
 have h1:=@zd2 stk k j
 cases ha:z0u (z10 stk k) j with
 | true=>simp[h1.1 ha]
 | false =>
  simp only[cond_false,z2n,zd1]
  cases hb:z0u stk j with
  | true =>
   simp only[cond_true,true_and]
   constructor
   ·exact fun h=>h.2
   ·intro h
    rw[h1.2 ⟨hb,h⟩] at ha
    cases ha
  | false=>simp[z2n]
theorem zei {stk:List FS} {k fid a inst:Nat}:z0z (z10 stk k) fid a inst=z0z stk fid a inst:=by
 induction stk with
 | nil=>rfl
 | cons f rest ih =>
  simp only[z10]
  cases z0f f.live k with
  | true=>simp only[cond_true,z0z]; rw[ih]; rfl
  | false=>simp only[cond_false,z0z]; rw[ih]
@[simp] theorem E.get_kill (e:E) (k:Nat) (l:Lo):(e.kill k).get l=e.get l:=by
 obtain⟨stk,glo,gl⟩:=e
 cases l with
 | lo fid a inst=>exact zei
 | gl i=>rfl
theorem E.live_born {e:E} {k j:Nat}:(e.born k).live j=true↔e.live j=true∨j=k:=by
 rw[E.live_iff,E.live_iff]
 obtain⟨stk,glo,gl⟩:=e
 cases stk with
 | nil=>simp[E.born,or_comm]
 | cons f rest =>
  simp only[E.born,List.mem_cons,exists_eq_or_imp]
  constructor
  ·rintro(((h | h) | h) | h)
   ·exact Or.inr h
   ·exact Or.inl (Or.inl (Or.inl h))
   ·exact Or.inl (Or.inl (Or.inr h))
   ·exact Or.inl (Or.inr h)
  ·rintro(((h | h) | h) | h)
   ·exact Or.inl (Or.inl (Or.inr h))
   ·exact Or.inl (Or.inr h)
   ·exact Or.inr h
   ·exact Or.inl (Or.inl (Or.inl h))
@[simp] theorem E.get_born (e:E) (k:Nat) (l:Lo):(e.born k).get l=e.get l:=by
 obtain⟨stk,glo,gl⟩:=e
 cases stk with
 | nil=>cases l<;>rfl
 | cons f rest=>cases l<;>rfl
theorem zd3 {stk:List FS} {fid k j:Nat} (h:z0u (z4l stk fid k) j=true):z0u stk j=true∨j=k:=by
 rw[z1y] at h ⊢
 induction stk with
 | nil=>simp[z4l] at h
 | cons f rest ih =>
  simp only[z4l] at h
  cases hf:Nat.beq f.fid fid with
  | true =>
   simp only[hf,cond_true,List.mem_cons,exists_eq_or_imp] at h ⊢
   rcases h with(h | h) | h
   ·exact Or.inr h
   ·exact Or.inl (Or.inl h)
   ·exact Or.inl (Or.inr h)
  | false =>
   simp only[hf,cond_false,List.mem_cons,exists_eq_or_imp] at h ⊢
   rcases h with h | h
   ·exact Or.inl (Or.inl h)
   ·rcases ih h with h | h
    ·exact Or.inl (Or.inr h)
    ·exact Or.inr h
theorem zej {stk:List FS} {gid k fid a inst:Nat}:z0z (z4l stk gid k) fid a inst=z0z stk fid a inst:=by
 induction stk with
 | nil=>rfl
 | cons f rest ih =>
  simp only[z4l]
  cases Nat.beq f.fid gid with
  | true=>rfl
  | false=>simp only[cond_false,z0z]; rw[ih]
theorem E.live_bear {e:E} {k j:Nat} {l:Lo} (h:(e.bear k l).live j=true):e.live j=true∨j=k:=by
 obtain⟨stk,glo,gl⟩:=e
 rw[E.live_iff] at h ⊢
 cases l with
 | lo fid a inst =>
  simp only[E.bear] at h
  rcases h with h | h
  ·rcases zd3 (z1y.2 h) with h1 | h1
   ·exact Or.inl (Or.inl (z1y.1 h1))
   ·exact Or.inr h1
  ·exact Or.inl (Or.inr h)
 | gl i =>
  simp only[E.bear,List.mem_cons] at h
  rcases h with h | h | h
  ·exact Or.inl (Or.inl h)
  ·exact Or.inr h
  ·exact Or.inl (Or.inr h)
@[simp] theorem E.get_bear (e:E) (k:Nat) (l l':Lo):(e.bear k l).get l'=e.get l':=by
 obtain⟨stk,glo,gl⟩:=e
 cases l with
 | lo fid a inst=>cases l' with
  | lo gid b jnst=>exact zej
  | gl j=>rfl
 | gl i=>cases l'<;>rfl
theorem E.live_move {e:E} {k j:Nat} {l:Lo} (h:(e.move k l).live j=true):e.live j=true:=by
 unfold E.move at h
 cases hk:e.live k with
 | false=>simpa [hk] using h
 | true =>
  simp only[hk,cond_true] at h
  rcases E.live_bear h with h1 | h1
  ·exact(E.live_kill.1 h1).1
  ·rw[h1]; exact hk
@[simp] theorem E.get_move (e:E) (k:Nat) (l l':Lo):(e.move k l).get l'=e.get l':=by
 unfold E.move
 cases e.live k<;>simp
@[simp] theorem E.get_moves (vs:List AV) (e:E) (l l':Lo):(e.moves vs l).get l'=e.get l':=by
 induction vs generalizing e with
 | nil=>simp[E.moves]
 | cons v rest ih =>
  cases v<;>simp only[E.moves,ih]
  rename_i k z xs
  cases Nat.ble 2 k<;>simp
theorem E.live_moves {vs:List AV} {e:E} {l:Lo} {j:Nat} (h:(e.moves vs l).live j=true):e.live j=true:=by
 induction vs generalizing e with
 | nil=>simpa [E.moves] using h
 | cons v rest ih =>
  cases v<;>simp only[E.moves] at h
  case sl k z xs =>
   have:=ih h
   cases hb:Nat.ble 2 k with
   | false=>simpa [hb] using this
   | true=>simp only[hb,cond_true] at this; exact E.live_move this
  all_goals exact ih h
theorem z2x {W:List Lo} {l:Lo}:free W l=true↔l∉W:=by
 induction W with
 | nil=>simp[free]
 | cons m W ih =>
  simp only[free]
  by_cases h:m=l
  ·simp[h]
  ·simp[h,ih,Ne.symm h]
end Go.Abs
namespace Go.Abs
open Go
inductive Role where
 | no
 | ob (l:Lo)
 | vec (l:Lo)
 | val
structure K where
 role:Nat→Role
 ob:Lo→Option Nat
 vb:Lo→Nat→Option (Nat × Nat × Nat)
 fz:Nat→Nat→Option Value
 tk:Nat→Option (Nat × Nat × Nat)
 bs:Lo→Nat→Option Value
 old:Nat→Nat→Value→Prop
structure K.le (κ κ':K):Prop where
 ob:∀ {l b},κ.ob l=some b→κ'.ob l=some b
 vb:∀ {l n b},κ.vb l n=some b→κ'.vb l n=some b
 fz:∀ {b o u},κ.fz b o=some u→κ'.fz b o=some u
 tk:∀ {k b},κ.tk k=some b→κ'.tk k=some b
 bs:∀ {l n v},κ.bs l n=some v→κ'.bs l n=some v
 old:κ'.old=κ.old:=by rfl
theorem K.le.refl (κ:K):κ.le κ:=⟨id,id,id,id,id,rfl⟩
theorem K.le.trans {a b c:K} (h:a.le b) (h':b.le c):a.le c :=
 ⟨fun x=>h'.ob (h.ob x),fun x=>h'.vb (h.vb x),fun x=>h'.fz (h.fz x),fun x=>h'.tk (h.tk x),fun x=>h'.bs (h.bs x),h'.old.trans h.old⟩
inductive VR (κ:K):AV→Value→Prop
 | undef:VR κ .undef Go.undef
 | bool (b:Bool):VR κ (.bool b) (.bool b)
 | int (k:IntKind) (n:Int):VR κ (.int k n) (.int k n)
 | str (b:ByteArray):VR κ (.str (b.data.toList.map UInt8.toNat)) (.string b)
 | nilp:VR κ .nilp (.pointer none)
 | ptr {l:Lo} {off b:Nat} (h:κ.ob l=some b):VR κ (.ptr l off) (.pointer (some ⟨b,off,none⟩))
 | vp {cs:List AV} {off b o:Nat} (g:Nat→Value) (hf:∀ (j:Nat) (c:AV),cs[j]?=some c→κ.fz b (o+j)=some (g j))
   (hg:∀ (j:Nat) (c:AV),cs[j]?=some c→VR κ c (g j)) (h1:∀ j,(g j).oneCell'=true):VR κ (.vp cs off) (.pointer (some ⟨b,o+off,none⟩))
 | ep {l:Lo} {size idx off b z c:Nat} (h:κ.vb l size=some (b,z,c)):VR κ (.ep l size idx off) (.pointer (some ⟨b,idx * z+off,none⟩))
 | slnil (k:Nat):VR κ (.sl k 0 []) (.slice none 0 0)
 | sle {k z:Nat} (a:Addr) (hz1:1≤z):VR κ (.sl k z []) (.slice (some a) 0 0)
 | sl {k z:Nat} {xs:List AV} {b o cap:Nat} (g:Nat→Nat→Value) (hcap:xs.length≤cap) (hz:∀ (i:Nat) (x:AV),xs[i]?=some x→x.cells.length=z)
   (hf:∀ (i:Nat) (x:AV) (j:Nat) (c:AV),xs[i]?=some x→x.cells[j]?=some c→κ.fz b (o+i * z+j)=some (g i j))
   (hg:∀ (i:Nat) (x:AV) (j:Nat) (c:AV),xs[i]?=some x→x.cells[j]?=some c→VR κ c (g i j)) (h1:∀ i j,(g i j).oneCell'=true)
   (hk1:k=1→cap=xs.length) (hk:2≤k→κ.tk k=some (b,o+xs.length * z,o+cap * z)) (hz1:1≤z) :
   VR κ (.sl k z xs) (.slice (some ⟨b,o,none⟩) xs.length cap)
 | hs {l:Lo} {size off len b z c cap:Nat} {ex:Bool} (h:κ.vb l size=some (b,z,c)) (hin:off+len≤size) (hsz:size≤c)
   (hcap:cap=if ex then len else c - off) (hz1:1≤z):VR κ (.hs l z size off len ex) (.slice (some ⟨b,off * z,none⟩) len cap)
 | hsnil {l:Lo} {size off b z c o:Nat} (h:κ.vb l size=some (b,z,c)) (hz1:1≤z):VR κ (.hs l z size off 0 true) (.slice (some ⟨b,o,none⟩) 0 0)
 | as {l:Lo} {off n b o cap:Nat} (h:κ.ob l=some b) (ho:n=0∨o=off) (hcap:n≤cap):VR κ (.as l off n) (.slice (some ⟨b,o,none⟩) n cap)
 | nilm:VR κ .nilm (.map none)
 | map {l:Lo} {b:Nat} (h:κ.ob l=some b):VR κ (.map l) (.map (some b))
 | fn {f:FuncId} {first captured:List AV} {F C:Array Value} (hF:F.size=first.length) (hC:C.size=captured.length)
   (h1:∀ (i:Nat) (c:AV) (u:Value),first[i]?=some c→F[i]?=some u→VR κ c u) (h2:∀ (i:Nat) (c:AV) (u:Value),captured[i]?=some c→C[i]?=some u→VR κ c u) :
   VR κ (.fn f first captured) (.func (.func f) F C)
 | nilf:VR κ .nilf .nilFunc
 | ifc {t:TypeId} {v:AV} {u:Value} (h:VR κ v u):VR κ (.ifc t v) (.iface t u)
 | nili:VR κ .nili .nilIface
 | agg {cs:List AV} {A:Array Value} (hl:A.size=cs.length) (h:∀ (i:Nat) (c:AV) (u:Value),cs[i]?=some c→A[i]?=some u→VR κ c u)
   (h1:∀ (i:Nat) (u:Value),A[i]?=some u→u.oneCell'=true):VR κ (.agg cs) (.agg A)
 | tup {vs:List AV} {A:Array Value} (hl:A.size=vs.length) (h:∀ (i:Nat) (c:AV) (u:Value),vs[i]?=some c→A[i]?=some u→VR κ c u):VR κ (.tup vs) (.tuple A)
 | stamp {l:Lo} {k:AV} {n:Nat} {u:Value} (h:κ.bs l n=some u) (hu:VR κ k u):VR κ (.stamp l k) (.int .i64 n)
 | dpnil (k:Nat) (v:Option Addr):VR κ (.dp k []) (.pointer v)
 | dp {k:Nat} {xs:List AV} {b o n cap:Nat} (h:VR κ (.sl k 1 xs) (.slice (some ⟨b,o,none⟩) n cap)):VR κ (.dp k xs) (.pointer (some ⟨b,o,none⟩))
theorem VR.mono {κ κ':K} (hle:κ.le κ') {a:AV} {v:Value} (h:VR κ a v):VR κ' a v:=by
 induction h with
 | undef=>exact .undef
 | bool b=>exact .bool b
 | int k n=>exact .int k n
 | str b=>exact .str b
 | nilp=>exact .nilp
 | ptr h=>exact .ptr (hle.ob h)
 | vp g hf hg h1 ih=>exact .vp g (fun j c e=>hle.fz (hf j c e)) ih h1
 | ep h=>exact .ep (hle.vb h)
 | slnil k=>exact .slnil k
 | sle a h=>exact .sle a h
 | sl g hcap hz hf hg h1 hk1 hk hz1 ih=>exact .sl g hcap hz (fun i x j c a b=>hle.fz (hf i x j c a b)) ih h1 hk1 (fun h=>hle.tk (hk h)) hz1
 | hs h hin hsz hcap hz1=>exact .hs (hle.vb h) hin hsz hcap hz1
 | hsnil h hz1=>exact .hsnil (hle.vb h) hz1
 | as h ho hcap=>exact .as (hle.ob h) ho hcap
 | nilm=>exact .nilm
 | map h=>exact .map (hle.ob h)
 | fn hF hC h1 h2 ih1 ih2=>exact .fn hF hC ih1 ih2
 | nilf=>exact .nilf
 | ifc h ih=>exact .ifc ih
 | nili=>exact .nili
 | agg hl h h1 ih=>exact .agg hl ih h1
 | tup hl h ih=>exact .tup hl ih
 | stamp h hu ih=>exact .stamp (hle.bs h) ih
 | dpnil k v=>exact .dpnil k v
 | dp h ih=>exact .dp ih
theorem VR.cells1 {κ:K} {a:AV} {v:Value} (h:VR κ a v) (h1:v.oneCell'=true):a.cells=[a]:=by
 cases h
 case undef=>exact absurd h1 (by decide)
 all_goals first | rfl | (simp[Value.oneCell'] at h1; done)
def VRs (κ:K) (cs:List AV) (us:List Value):Prop :=
 us.length=cs.length∧(∀ (i:Nat) (c:AV) (u:Value),cs[i]?=some c→us[i]?=some u→VR κ c u)∧∀ (i:Nat) (u:Value),us[i]?=some u→u.oneCell'=true
theorem VRs.mono {κ κ':K} (hle:κ.le κ') {cs:List AV} {us:List Value} (h:VRs κ cs us):VRs κ' cs us :=
 ⟨h.1,fun i c u a b=>(h.2.1 i c u a b).mono hle,h.2.2⟩
theorem VR.one {κ:K} {a:AV} {v:Value} (h:VR κ a v) (ha:∀ cs,a≠.agg cs) (ht:∀ cs,a≠.tup cs) (hu:a≠.undef):v.oneCell'=true:=by
 cases h<;>first | rfl | (exact absurd rfl (ha _)) | (exact absurd rfl (ht _)) | (exact absurd rfl hu)
theorem VR.cells {κ:K} {a:AV} {v:Value} (h:VR κ a v) (hf:a.cells≠[]):VRs κ a.cells v.cells.toList:=by
 by_cases hag:∃ cs,a=.agg cs
 ·obtain⟨cs,rfl⟩:=hag
  cases h with
  | agg hl h h1 =>
   refine⟨by simpa [AV.cells,Value.cells] using hl,fun i c u hc hu=>h i c u (by simpa [AV.cells] using hc) (by simpa [Value.cells] using hu),fun i u hu=>h1 i u (by simpa [Value.cells] using hu)⟩
 ·have hna:∀ cs,a≠.agg cs:=fun cs e=>hag ⟨cs,e⟩
  have hnt:∀ cs,a≠.tup cs:=by rintro cs rfl; exact hf rfl
  have hnu:a≠.undef:=by rintro rfl; exact hf rfl
  have ha:a.cells=[a]:=by cases a<;>first | rfl | exact absurd rfl (hna _) | exact absurd rfl (hnt _) | exact absurd rfl hnu
  have h1:v.oneCell'=true:=h.one hna hnt hnu
  have hv:v.cells=#[v]:=by cases v<;>first | rfl | simp[Value.oneCell'] at h1
  rw[ha,hv]
  refine⟨rfl,?_,?_⟩
  ·intro i c u hc hu
   cases i with
   | zero=>simp at hc hu; subst hc; subst hu; exact h
   | succ i=>simp at hc
  ·intro i u hu
   cases i with
   | zero=>simp at hu; subst hu; exact h1
   | succ i=>simp at hu
end Go.Abs
namespace Go.Abs
open Go Go.RowKit
variable [Glob]
def MapR (κ:K) (l:Lo) (es:List (AV × AV)) (ens:Array MapEntry) (clock:Nat):Prop :=
 ens.size=es.length ∧
 (∀ (i:Nat) (k v:AV) (en:MapEntry),es[i]?=some (k,v)→ens[i]?=some en→VR κ k en.key∧VR κ v en.val∧κ.bs l en.born=some en.key∧en.born < clock) ∧
 (∀ (i j:Nat) (en en':MapEntry),ens[i]?=some en→ens[j]?=some en'→en.born=en'.born∨en.key=en'.key→i=j) ∧
 (∀ n,clock≤n→κ.bs l n=none)∧∀ n u,κ.bs l n=some u→∃ (i:Nat) (en:MapEntry),ens[i]?=some en∧en.born=n
def ObR (κ:K) (l:Lo):Ob→Option Obj→Prop
 | .none,_=>True
 | .cells t cs,o=>∃ arr,o=some (.cells arr t (0,0))∧VRs κ cs arr.toList
 | .map es,o=>∃ ens clock,o=some (.map ens clock)∧MapR κ l es ens clock
 | .vec _ _,_=>False
def VecR (κ:K) (z c:Nat) (es:List AV) (o:Option Obj):Prop :=
 ∃ arr t,o=some (.cells arr t (0,0))∧arr.size=c * z∧es.length≤c ∧
  ∀ (i:Nat) (x:AV),es[i]?=some x→x.cells.length=z∧∀ (j:Nat) (y:AV),x.cells[j]?=some y→∃ u,arr[i * z+j]?=some u∧VR κ y u∧u.oneCell'=true
def ValR (κ:K) (e:E) (b:Nat) (o:Option Obj):Prop :=
 ∃ arr t f,o=some (.cells arr t f)∧(∀ i u,κ.fz b i=some u→arr[i]?=some u) ∧
  ∀ k i c,e.live k=true→κ.tk k=some (b,i,c)→(∀ j,i≤j→κ.fz b j=none)∧c≤arr.size∧f.2≤i
def BlkR (κ:K) (e:E) (b:Nat) (o:Option Obj):Role→Prop
 | .no=>True
 | .ob l=>ObR κ l (e.get l) o
 | .vec l=>∀ z es c,e.get l=.vec z es→κ.vb l es.length=some (b,z,c)→VecR κ z c es o
 | .val=>ValR κ e b o
structure St (κ:K) (e:E) (B:Nat) (w₀ w:World):Prop where
 below:Below B w₀ w
 size:B≤w.heap.size
 rl:∀ b,κ.role b≠.no→(κ.role b≠.val→B≤b)∧b < w.heap.size
 ro:∀ l b,κ.ob l=some b→κ.role b=.ob l
 oo:∀ l b,κ.role b=.ob l→κ.ob l=some b
 rv:∀ l z es b z' c,e.get l=.vec z es→κ.vb l es.length=some (b,z',c)→κ.role b=.vec l∧z'=z
 rf:∀ b i u,κ.fz b i=some u→κ.role b=.val
 rt:∀ k b i c,e.live k=true→κ.tk k=some (b,i,c)→κ.role b=.val
 tb:∀ k b i c,κ.tk k=some (b,i,c)→B≤b
 td:∀ k k' b i c i' c',e.live k=true→e.live k'=true→κ.tk k=some (b,i,c)→κ.tk k'=some (b,i',c')→k=k'
 vn:∀ l z es n,e.get l=.vec z es→es.length < n→κ.vb l n=none
 blk:∀ b,BlkR κ e b w.heap[b]? (κ.role b)
 glob:∀ g cs,Glob.gv g=some cs→VR κ (.vp cs 0) (.pointer (some ⟨g,0,none⟩))
 fo:∀ b i u,κ.fz b i=some u→b < B→κ.old b i u
 tu:∀ k b i c,k % 2=1→κ.tk k=some (b,i,c)→∃ arr t f,w.heap[b]?=some (.cells arr t f)∧Glob.u8 t
 gs:∀ g cs,Glob.gv g=some cs→g < B∧∃ arr t f,w₀.heap[g]?=some (.cells arr t f)∧arr.size=cs.length
theorem MapR.mono {κ κ':K} {l:Lo} {es:List (AV × AV)} {ens:Array MapEntry} {clock:Nat} (hle:κ.le κ') (hbs:κ'.bs l=κ.bs l) (h:MapR κ l es ens clock):MapR κ' l es ens clock:=by
 obtain⟨h1,h2,h3,h4⟩:=h
 refine⟨h1,fun i k v en a b=>?_,h3,by rw[hbs]; exact h4.1,by rw[hbs]; exact h4.2⟩
 obtain⟨p,q,r,s⟩:=h2 i k v en a b
 exact⟨p.mono hle,q.mono hle,hle.bs r,s⟩
theorem ObR.mono {κ κ':K} {l:Lo} {o:Ob} {x:Option Obj} (hle:κ.le κ') (hbs:κ'.bs l=κ.bs l) (h:ObR κ l o x):ObR κ' l o x:=by
 cases o with
 | none=>trivial
 | cells t cs=>obtain⟨arr,h1,h2⟩:=h; exact⟨arr,h1,h2.mono hle⟩
 | map es=>obtain⟨ens,clock,h1,h2⟩:=h; exact⟨ens,clock,h1,h2.mono hle hbs⟩
 | vec z es=>exact h.elim
theorem VecR.mono {κ κ':K} {z c:Nat} {es:List AV} {x:Option Obj} (hle:κ.le κ') (h:VecR κ z c es x):VecR κ' z c es x:=by
 obtain⟨arr,t,h1,h2,h2',h3⟩:=h
 refine⟨arr,t,h1,h2,h2',fun i x hx=>⟨(h3 i x hx).1,fun j y hy=>?_⟩⟩
 obtain⟨u,p,q,r⟩:=(h3 i x hx).2 j y hy
 exact⟨u,p,q.mono hle,r⟩
theorem St.step {κ κ':K} {e e':E} {B:Nat} {w₀ w w':World} (h:St κ e B w₀ w) (hle:κ.le κ') (b₀:Nat)
  (hos:w'.os=w.os) (htape:w'.tape=w.tape) (hout:w'.output=w.output) (hsize:w.heap.size≤w'.heap.size) (hb:B≤b₀)
  (hheap:∀ b,b < w.heap.size→b≠b₀→w'.heap[b]?=w.heap[b]?)
  (hrole:∀ b,b≠b₀→κ'.role b=κ.role b) (hrole₀:κ'.role b₀≠.no→b₀ < w'.heap.size)
  (hro:∀ l b,κ'.ob l=some b→κ'.role b=.ob l) (hoo:∀ l b,κ'.role b=.ob l→κ'.ob l=some b)
  (hrv:∀ l z es b z' c,e'.get l=.vec z es→κ'.vb l es.length=some (b,z',c)→κ'.role b=.vec l∧z'=z)
  (hfz:∀ b i,b≠b₀→κ'.fz b i=κ.fz b i) (hfz₀:∀ i u,κ'.fz b₀ i=some u→κ'.role b₀=.val)
  (htk:∀ k b i c,e'.live k=true→κ'.tk k=some (b,i,c)→(b≠b₀∧e.live k=true∧κ.tk k=some (b,i,c))∨(b=b₀∧κ'.role b₀=.val))
  (htd:∀ k k' i c i' c',e'.live k=true→e'.live k'=true→κ'.tk k=some (b₀,i,c)→κ'.tk k'=some (b₀,i',c')→k=k')
  (hvn:∀ l z es n,e'.get l=.vec z es→es.length < n→κ'.vb l n=none)
  (hob:∀ l b,b≠b₀→κ.role b=.ob l→(e'.get l=e.get l∧κ'.bs l=κ.bs l)∨e'.get l=.none)
  (hvec:∀ l b z es c,b≠b₀→κ.role b=.vec l→e'.get l=.vec z es→κ'.vb l es.length=some (b,z,c)→e.get l=.vec z es∧κ.vb l es.length=some (b,z,c))
  (hblk:BlkR κ' e' b₀ w'.heap[b₀]? (κ'.role b₀))
  (hkeep:∀ arr t f,w.heap[b₀]?=some (.cells arr t f)→∃ arr' f',w'.heap[b₀]?=some (.cells arr' t f'))
  (htu:∀ k b i c,κ'.tk k=some (b,i,c)→κ.tk k=some (b,i,c)∨(b=b₀∧(k % 2=1→∃ arr t f,w'.heap[b₀]?=some (.cells arr t f)∧Glob.u8 t))):St κ' e' B w₀ w' where
 below:=h.below.trans ⟨hos,htape,hout,hsize,fun k hk=>hheap k (by have:=h.size; omega) (by omega)⟩
 size:=Nat.le_trans h.size hsize
 rl:=fun b hr=>by
  by_cases hbb:b=b₀
  ·subst hbb; exact⟨fun _=>hb,hrole₀ hr⟩
  ·rw[hrole b hbb] at hr ⊢
   have:=h.rl b hr
   exact⟨this.1,by omega⟩
 ro:=hro
 oo:=hoo
 rv:=hrv
 rf:=fun b i u hu=>by
  by_cases hbb:b=b₀
  ·subst hbb; exact hfz₀ i u hu
  ·rw[hfz b i hbb] at hu; rw[hrole b hbb]; exact h.rf b i u hu
 rt:=fun k b i c hl hk=>by
  rcases htk k b i c hl hk with⟨h1,h2,h3⟩ | ⟨h1,h2⟩
  ·rw[hrole b h1]; exact h.rt k b i c h2 h3
  ·subst h1; exact h2
 td:=fun k k' b i c i' c' hl hl' hk hk'=>by
  rcases htk k b i c hl hk with⟨h1,h2,h3⟩ | ⟨h1,h2⟩
  ·rcases htk k' b i' c' hl' hk' with⟨h1',h2',h3'⟩ | ⟨h1',h2'⟩
   ·exact h.td k k' b i c i' c' h2 h2' h3 h3'
   ·exact absurd h1' h1
  ·subst h1; exact htd k k' i c i' c' hl hl' hk hk'
 tb:=fun k b i c ht=>by
  rcases htu k b i c ht with h1 | ⟨rfl,_⟩
  ·exact h.tb k b i c h1
  ·exact hb
 vn:=hvn
 fo:=fun b i u hu hlt=>by
  rw[hfz b i (by omega)] at hu
  rw[hle.old]; exact h.fo b i u hu hlt
 glob:=fun g cs hg=>(h.glob g cs hg).mono hle
 gs:=h.gs
 tu:=fun k b i c hk ht=>by
  rcases htu k b i c ht with h1 | ⟨rfl,h2⟩
  ·obtain⟨arr,t,f,h2,h3⟩:=h.tu k b i c hk h1
   by_cases hbb:b=b₀
   ·subst hbb
    obtain⟨arr',f',h4⟩:=hkeep arr t f h2
    exact⟨arr',t,f',h4,h3⟩
   ·refine⟨arr,t,f,?_,h3⟩
    rw[hheap b ?_ hbb]
    ·exact h2
    ·rcases Nat.lt_or_ge b w.heap.size with h5 | h5
     ·exact h5
     ·rw[Array.getElem?_eq_none h5] at h2; cases h2
  ·exact h2 hk
 blk:=fun b=>by
  by_cases hbb:b=b₀
  ·subst hbb; exact hblk
  ·have hr:=hrole b hbb
   have hB:=h.blk b
   rw[hr]
   cases hrl:κ.role b with
   | no=>trivial
   | ob l =>
    rw[hrl] at hB
    have hlt:=(h.rl b (by rw[hrl]; simp)).2
    rw[hheap b hlt hbb]
    simp only[BlkR] at hB ⊢
    rcases hob l b hbb hrl with⟨h1,h2⟩ | h1
    ·rw[h1]; exact hB.mono hle h2
    ·rw[h1]; trivial
   | vec l =>
    rw[hrl] at hB
    have hlt:=(h.rl b (by rw[hrl]; simp)).2
    rw[hheap b hlt hbb]
    simp only[BlkR] at hB ⊢
    intro z es c hg hv
    obtain⟨h1,h2⟩:=hvec l b z es c hbb hrl hg hv
    exact(hB z es c h1 h2).mono hle
   | val =>
    rw[hrl] at hB
    have hlt:=(h.rl b (by rw[hrl]; simp)).2
    rw[hheap b hlt hbb]
    simp only[BlkR] at hB ⊢
    obtain⟨arr,t,f,h1,h2,h3⟩:=hB
    refine⟨arr,t,f,h1,fun i u hu=>h2 i u (by rw[← hfz b i hbb]; exact hu),fun k i c hl hk=>?_⟩
    rcases htk k b i c hl hk with⟨_,h5,h6⟩ | ⟨h4,_⟩
    ·obtain⟨p,q,r⟩:=h3 k i c h5 h6
     exact⟨fun j hj=>by rw[hfz b j hbb]; exact p j hj,q,r⟩
    ·exact absurd h4 hbb
end Go.Abs
namespace Go.Abs
open Go Go.RowKit
variable [Glob]
def z0a (κ:K) (l:Lo):Prop:=κ.ob l=none∧(∀ n,κ.vb l n=none)∧∀ n,κ.bs l n=none
theorem St.env {κ:K} {e e':E} {B:Nat} {w₀ w:World} (h:St κ e B w₀ w) (hl:∀ k,e'.live k=true→e.live k=true∨κ.tk k=none)
  (hg:∀ l,e'.get l=e.get l∨e'.get l=.none∨z0a κ l):St κ e' B w₀ w where
 below:=h.below
 size:=h.size
 rl:=h.rl
 ro:=h.ro
 oo:=h.oo
 rv:=fun l z es b z' c hge hv=>by
  rcases hg l with h1 | h1 | h1
  ·rw[h1] at hge; exact h.rv l z es b z' c hge hv
  ·rw[h1] at hge; cases hge
  ·rw[h1.2.1] at hv; cases hv
 rf:=h.rf
 rt:=fun k b i c hk ht=>by
  rcases hl k hk with h1 | h1
  ·exact h.rt k b i c h1 ht
  ·rw[h1] at ht; cases ht
 td:=fun k k' b i c i' c' hk hk' ht ht'=>by
  rcases hl k hk with h1 | h1
  ·rcases hl k' hk' with h2 | h2
   ·exact h.td k k' b i c i' c' h1 h2 ht ht'
   ·rw[h2] at ht'; cases ht'
  ·rw[h1] at ht; cases ht
 vn:=fun l z es n hge hn=>by
  rcases hg l with h1 | h1 | h1
  ·rw[h1] at hge; exact h.vn l z es n hge hn
  ·rw[h1] at hge; cases hge
  ·exact h1.2.1 n
 glob:=h.glob
 tb:=h.tb
 fo:=h.fo
 tu:=h.tu
 gs:=h.gs
 blk:=fun b=>by
  have hB:=h.blk b
  cases hrl:κ.role b with
  | no=>trivial
  | ob l =>
   rw[hrl] at hB
   simp only[BlkR] at hB ⊢
   rcases hg l with h1 | h1 | h1
   ·rw[h1]; exact hB
   ·rw[h1]; trivial
   ·have:=h.oo l b hrl
    rw[h1.1] at this; cases this
  | vec l =>
   rw[hrl] at hB
   simp only[BlkR] at hB ⊢
   intro z es c hge hv
   rcases hg l with h1 | h1 | h1
   ·rw[h1] at hge; exact hB z es c hge hv
   ·rw[h1] at hge; cases hge
   ·rw[h1.2.1] at hv; cases hv
  | val =>
   rw[hrl] at hB
   simp only[BlkR] at hB ⊢
   obtain⟨arr,t,f,h1,h2,h3⟩:=hB
   refine⟨arr,t,f,h1,h2,fun k i c hk ht=>?_⟩
   rcases hl k hk with h4 | h4
   ·exact h3 k i c h4 ht
   ·rw[h4] at ht; cases ht
theorem St.drew {κ:K} {e:E} {B:Nat} {w₀ w:World} (h:St κ e B w₀ w):St κ e B w₀ w.drew where
 below:=h.below.drew
 size:=h.size
 rl:=h.rl
 ro:=h.ro
 oo:=h.oo
 rv:=h.rv
 rf:=h.rf
 rt:=h.rt
 td:=h.td
 vn:=h.vn
 blk:=h.blk
 glob:=h.glob
 tb:=h.tb
 fo:=h.fo
 tu:=h.tu
 gs:=h.gs
theorem St.new_role {κ:K} {e:E} {B:Nat} {w₀ w:World} (h:St κ e B w₀ w):κ.role w.heap.size=.no:=by
 cases hr:κ.role w.heap.size with
 | no=>rfl
 | _=>have:=(h.rl w.heap.size (by rw[hr]; simp)).2; omega
def K.addOb (κ:K) (l:Lo) (b:Nat):K :=
 { κ with role:=fun b'=>if b'=b then .ob l else κ.role b',ob:=fun l'=>if l'=l then some b else κ.ob l' }
theorem K.le_addOb {κ:K} {l:Lo} {b:Nat} (h:κ.ob l=none):κ.le (κ.addOb l b) where
 ob:=fun {l' b'} hl=>by
  simp only[K.addOb]
  by_cases hll:l'=l
  ·subst hll; rw[h] at hl; cases hl
  ·simp[hll,hl]
 vb:=id
 fz:=id
 tk:=id
 bs:=id
theorem z28 {w:World} {o:Obj} {b:Nat} (h:b < w.heap.size):(w.alloc o).heap[b]?=w.heap[b]?:=heap_alloc_old w o b h
theorem St.allocOb {κ:K} {e:E} {B:Nat} {w₀ w:World} {l:Lo} {o:Obj} (h:St κ e B w₀ w) (hn:z0a κ l)
  (ho:ObR (κ.addOb l w.heap.size) l (e.get l) (some o)):St (κ.addOb l w.heap.size) e B w₀ (w.alloc o):=by
 have hnr:=h.new_role
 refine h.step (K.le_addOb hn.1) w.heap.size rfl rfl rfl (by simp) h.size (fun b hb _=>z28 hb) ?_ ?_ ?_ ?_ ?_ ?_ ?_ ?_ ?_ ?_ ?_ ?_ ?_ (fun _ _ _ hx=>by simp at hx) (fun _ _ _ _ ht=>.inl ht)
 ·intro b hb; simp[K.addOb,hb]
 ·intro _; simp
 ·intro l' b' hl
  simp only[K.addOb] at hl ⊢
  by_cases hll:l'=l
  ·subst hll; simp at hl; simp[hl]
  ·simp[hll] at hl
   have:=h.ro l' b' hl
   have hne:b'≠w.heap.size:=by intro e; rw[e,hnr] at this; cases this
   simp[hne,this]
 ·intro l' b' hl
  simp only[K.addOb] at hl ⊢
  by_cases hb:b'=w.heap.size
  ·simp[hb] at hl; subst hl; simp[hb]
  ·simp[hb] at hl
   have:=h.oo l' b' hl
   have hne:l'≠l:=by intro e; rw[e,hn.1] at this; cases this
   simp[hne,this]
 ·intro l' z es b z' c hg hv
  have:=h.rv l' z es b z' c hg hv
  have hne:b≠w.heap.size:=by intro e; rw[e,hnr] at this; cases this.1
  simp[K.addOb,hne,this]
 ·intro b i _; rfl
 ·intro i u hu
  have:=h.rf _ i u hu
  rw[hnr] at this; cases this
 ·intro k b i c hk ht
  have:=h.rt k b i c hk ht
  have hne:b≠w.heap.size:=by intro e; rw[e,hnr] at this; cases this
  exact .inl ⟨hne,hk,ht⟩
 ·intro k k' i c i' c' hk _ ht _
  have:=h.rt k _ i c hk ht
  rw[hnr] at this; cases this
 ·exact h.vn
 ·intro l' b _ _; exact .inl ⟨rfl,rfl⟩
 ·intro l' b z es c _ _ hg hv; exact⟨hg,hv⟩
 ·simp only[K.addOb,if_true,BlkR,heap_alloc_new]
  exact ho
theorem zai {w:World} {b b':Nat} {o:Obj} (h:b'≠b):({ w with heap:=w.heap.setIfInBounds b o }:World).heap[b']?=w.heap[b']?:=by
 simp[Ne.symm h]
theorem zbu {w:World} {b:Nat} {o:Obj} (h:b < w.heap.size):({ w with heap:=w.heap.setIfInBounds b o }:World).heap[b]?=some o:=by
 simp[h]
theorem St.setOb {κ κ':K} {e e':E} {B:Nat} {w₀ w w':World} {l:Lo} {b:Nat} (h:St κ e B w₀ w) (hb:κ.ob l=some b)
  (hκ:κ'={ κ with bs:=κ'.bs }) (hbs:∀ l',l'≠l→κ'.bs l'=κ.bs l') (hbl:∀ n v,κ.bs l n=some v→κ'.bs l n=some v)
  (hos:w'.os=w.os) (htape:w'.tape=w.tape) (hout:w'.output=w.output) (hsize:w.heap.size=w'.heap.size)
  (hheap:∀ b',b'≠b→w'.heap[b']?=w.heap[b']?)
  (hg:∀ l',l'≠l→e'.get l'=e.get l') (hgl:∀ z es,e'.get l≠.vec z es) (hl:∀ k,e'.live k=true→e.live k=true) (ho:ObR κ' l (e'.get l) w'.heap[b]?)
  (hkeep:∀ arr t f,w.heap[b]?=some (.cells arr t f)→∃ arr' f',w'.heap[b]?=some (.cells arr' t f')):St κ' e' B w₀ w':=by
 have hr:=h.ro l b hb
 have hlt':=h.rl b (by rw[hr]; simp)
 have hlt:B≤b∧b < w.heap.size:=⟨hlt'.1 (by rw[hr]; simp),hlt'.2⟩
 have hle:κ.le κ':=by
  rw[hκ]
  refine⟨id,id,id,id,fun {l' n v} hv=>?_,rfl⟩
  by_cases hll:l'=l
  ·subst hll; exact hbl n v hv
  ·show κ'.bs l' n=_; rw[hbs l' hll]; exact hv
 have e1:κ'.role=κ.role:=by rw[hκ]
 have e2:κ'.ob=κ.ob:=by rw[hκ]
 have e3:κ'.vb=κ.vb:=by rw[hκ]
 have e4:κ'.fz=κ.fz:=by rw[hκ]
 have e5:κ'.tk=κ.tk:=by rw[hκ]
 refine h.step hle b hos htape hout (by omega) hlt.1 (fun b' _ hne=>hheap b' hne) ?_ ?_ ?_ ?_ ?_ ?_ ?_ ?_ ?_ ?_ ?_ ?_ ?_ hkeep (fun _ _ _ _ ht=>.inl (by rw[e5] at ht; exact ht))
 ·intro b' _; rw[e1]
 ·intro _; omega
 ·rw[e1,e2]; exact h.ro
 ·rw[e1,e2]; exact h.oo
 ·intro l' z es b' z' c hge hv
  have hne:l'≠l:=by rintro rfl; exact hgl _ _ hge
  rw[hg l' hne] at hge
  rw[e1]; rw[e3] at hv; exact h.rv l' z es b' z' c hge hv
 ·intro b' i _; rw[e4]
 ·intro i u hu; rw[e1]; rw[e4] at hu; exact h.rf b i u hu
 ·intro k b' i c hk ht
  rw[e5] at ht
  have:=h.rt k b' i c (hl k hk) ht
  by_cases hbb:b'=b
  ·rw[hbb,hr] at this; cases this
  ·exact .inl ⟨hbb,hl k hk,ht⟩
 ·intro k k' i c i' c' hk _ ht _
  rw[e5] at ht
  have:=h.rt k b i c (hl k hk) ht
  rw[hr] at this; cases this
 ·intro l' z es n hge hn
  have hne:l'≠l:=by rintro rfl; exact hgl _ _ hge
  rw[hg l' hne] at hge
  rw[e3]; exact h.vn l' z es n hge hn
 ·intro l' b' hbb hrl
  have hne:l'≠l:=by
   rintro rfl
   have:=h.oo _ _ hrl
   rw[hb] at this; cases this; exact hbb rfl
  exact .inl ⟨hg l' hne,hbs l' hne⟩
 ·intro l' b' z es c _ _ hge hv
  have hne:l'≠l:=by rintro rfl; exact hgl _ _ hge
  rw[hg l' hne] at hge
  rw[e3] at hv; exact⟨hge,hv⟩
 ·rw[e1,hr]; exact ho
def K.addVal (κ:K) (b:Nat) (g:Nat→Option Value):K :=
 { κ with role:=fun b'=>if b'=b then .val else κ.role b',fz:=fun b' i=>if b'=b then g i else κ.fz b' i }
def K.addTk (κ:K) (k:Nat) (x:Nat × Nat × Nat):K:={ κ with tk:=fun k'=>if k'=k then some x else κ.tk k' }
theorem K.le_addVal {κ:K} {b:Nat} {g:Nat→Option Value} (h:∀ i u,κ.fz b i=some u→g i=some u):κ.le (κ.addVal b g) where
 ob:=id
 vb:=id
 fz:=fun {b' i u} hu=>by
  simp only[K.addVal]
  by_cases hb:b'=b
  ·subst hb; simp[h i u hu]
  ·simp[hb,hu]
 tk:=id
 bs:=id
theorem K.le_addTk {κ:K} {k:Nat} {x:Nat × Nat × Nat} (h:κ.tk k=none):κ.le (κ.addTk k x) where
 ob:=id
 vb:=id
 fz:=id
 tk:=fun {k' y} hk=>by
  simp only[K.addTk]
  by_cases hb:k'=k
  ·subst hb; rw[h] at hk; cases hk
  ·simp[hb,hk]
 bs:=id
theorem St.setVal {κ:K} {e e':E} {B:Nat} {w₀ w w':World} {b₀ k₀ i₀ c₀:Nat} {g:Nat→Option Value} (h:St κ e B w₀ w)
  (hr:κ.role b₀=.no∨κ.role b₀=.val∨∃ l,κ.role b₀=.vec l∧e'.get l=.none) (hk₀:κ.tk k₀=none) (hgf:∀ i u,κ.fz b₀ i=some u→g i=some u)
  (hos:w'.os=w.os) (htape:w'.tape=w.tape) (hout:w'.output=w.output) (hsize:w.heap.size≤w'.heap.size) (hb:B≤b₀) (hb':b₀ < w'.heap.size)
  (hheap:∀ b,b < w.heap.size→b≠b₀→w'.heap[b]?=w.heap[b]?)
  (hg:∀ l,e'.get l=e.get l∨e'.get l=.none)
  (hl:∀ k,e'.live k=true→(e.live k=true∧∀ i c,κ.tk k≠some (b₀,i,c))∨k=k₀)
  (hblk:∃ arr t f,w'.heap[b₀]?=some (.cells arr t f)∧(∀ i u,g i=some u→arr[i]?=some u)∧(∀ j,i₀≤j→g j=none)∧c₀≤arr.size∧f.2≤i₀)
  (hkeep:∀ arr t f,w.heap[b₀]?=some (.cells arr t f)→∃ arr' f',w'.heap[b₀]?=some (.cells arr' t f'))
  (hu8:k₀ % 2=1→∃ arr t f,w'.heap[b₀]?=some (.cells arr t f)∧Glob.u8 t) :
  St ((κ.addVal b₀ g).addTk k₀ (b₀,i₀,c₀)) e' B w₀ w':=by
 have hle:κ.le ((κ.addVal b₀ g).addTk k₀ (b₀,i₀,c₀)):=(K.le_addVal hgf).trans (K.le_addTk hk₀)
 have hrob:∀ l,κ.role b₀≠.ob l:=by
  intro l hl; rcases hr with h1 | h1 | ⟨l',h1,_⟩<;>rw[h1] at hl<;>cases hl
 refine h.step hle b₀ hos htape hout hsize hb hheap ?_ ?_ ?_ ?_ ?_ ?_ ?_ ?_ ?_ ?_ ?_ ?_ ?_ hkeep (fun k b i c ht=>by
  simp only[K.addTk] at ht
  by_cases hkk:k=k₀
  ·subst hkk; simp at ht; exact .inr ⟨ht.1.symm,hu8⟩
  ·simp only[hkk,if_false] at ht; exact .inl ht)
 ·intro b hbb; simp[K.addVal,K.addTk,hbb]
 ·intro _; exact hb'
 ·intro l b hl
  have:=h.ro l b hl
  have hne:b≠b₀:=by rintro rfl; exact hrob l this
  simpa [K.addVal,K.addTk,hne] using this
 ·intro l b hl
  by_cases hne:b=b₀
  ·subst hne; simp[K.addVal,K.addTk] at hl
  ·simp[K.addVal,K.addTk,hne] at hl; exact h.oo l b hl
 ·intro l z es b z' c hge hv
  rcases hg l with h1 | h1
  ·rw[h1] at hge
   have:=h.rv l z es b z' c hge hv
   have hne:b≠b₀:=by
    rintro rfl
    rcases hr with h2 | h2 | ⟨l',h2,h3⟩
    ·rw[h2] at this; cases this.1
    ·rw[h2] at this; cases this.1
    ·rw[h2] at this; cases this.1; rw[h1,hge] at h3; cases h3
   simpa [K.addVal,K.addTk,hne] using this
  ·rw[h1] at hge; cases hge
 ·intro b i hbb; simp[K.addVal,K.addTk,hbb]
 ·intro i u _; simp[K.addVal,K.addTk]
 ·intro k b i c hk ht
  simp only[K.addTk] at ht
  by_cases hkk:k=k₀
  ·subst hkk; simp at ht; exact .inr ⟨ht.1.symm,by simp[K.addVal,K.addTk]⟩
  ·simp only[hkk,if_false] at ht
   rcases hl k hk with⟨h1,h2⟩ | h1
   ·exact .inl ⟨by rintro rfl; exact h2 _ _ ht,h1,ht⟩
   ·exact absurd h1 hkk
 ·intro k k' i c i' c' hk hk' ht ht'
  simp only[K.addTk] at ht ht'
  by_cases hkk:k=k₀
  ·by_cases hkk':k'=k₀
   ·rw[hkk,hkk']
   ·simp only[hkk',if_false] at ht'
    rcases hl k' hk' with⟨_,h2⟩ | h1
    ·exact absurd ht' (h2 _ _)
    ·exact absurd h1 hkk'
  ·simp only[hkk,if_false] at ht
   rcases hl k hk with⟨_,h2⟩ | h1
   ·exact absurd ht (h2 _ _)
   ·exact absurd h1 hkk
 ·intro l z es n hge hn
  rcases hg l with h1 | h1
  ·rw[h1] at hge; exact h.vn l z es n hge hn
  ·rw[h1] at hge; cases hge
 ·intro l b _ _
  rcases hg l with h1 | h1
  ·exact .inl ⟨h1,rfl⟩
  ·exact .inr h1
 ·intro l b z es c _ _ hge hv
  rcases hg l with h1 | h1
  ·rw[h1] at hge; exact⟨hge,hv⟩
  ·rw[h1] at hge; cases hge
 ·obtain⟨arr,t,f,h1,h2,h3,h4,h5⟩:=hblk
  have hrl:((κ.addVal b₀ g).addTk k₀ (b₀,i₀,c₀)).role b₀=.val:=by simp[K.addVal,K.addTk]
  rw[hrl]
  refine⟨arr,t,f,h1,fun i u hu=>h2 i u (by simpa [K.addVal,K.addTk] using hu),fun k i c hk ht=>?_⟩
  simp only[K.addTk] at ht
  by_cases hkk:k=k₀
  ·simp[hkk] at ht
   obtain⟨rfl,rfl⟩:=ht
   exact⟨fun j hj=>by simpa [K.addVal,K.addTk] using h3 j hj,h4,h5⟩
  ·simp only[hkk,if_false] at ht
   rcases hl k hk with⟨_,h6⟩ | h6
   ·exact absurd ht (h6 _ _)
   ·exact absurd h6 hkk
def K.addVec (κ:K) (l:Lo) (n b z c:Nat):K :=
 { κ with role:=fun b'=>if b'=b then .vec l else κ.role b',vb:=fun l' n'=>if l'=l∧n'=n then some (b,z,c) else κ.vb l' n' }
theorem K.le_addVec {κ:K} {l:Lo} {n b z c:Nat} (h:κ.vb l n=none∨κ.vb l n=some (b,z,c)):κ.le (κ.addVec l n b z c) where
 ob:=id
 vb:=fun {l' n' x} hx=>by
  simp only[K.addVec]
  by_cases hb:l'=l∧n'=n
  ·obtain⟨rfl,rfl⟩:=hb
   rcases h with h | h
   ·rw[h] at hx; cases hx
   ·rw[h] at hx; simpa using hx
  ·simp[hb,hx]
 fz:=id
 tk:=id
 bs:=id
theorem St.setVec {κ:K} {e e':E} {B:Nat} {w₀ w w':World} {l:Lo} {b₀ z c:Nat} {es:List AV} (h:St κ e B w₀ w)
  (hob:κ.ob l=none) (hr:κ.role b₀=.no∨κ.role b₀=.vec l) (hv:κ.vb l es.length=none∨κ.vb l es.length=some (b₀,z,c)) (hgt:∀ n,es.length < n→κ.vb l n=none)
  (hos:w'.os=w.os) (htape:w'.tape=w.tape) (hout:w'.output=w.output) (hsize:w.heap.size≤w'.heap.size) (hb:B≤b₀) (hb':b₀ < w'.heap.size)
  (hheap:∀ b,b < w.heap.size→b≠b₀→w'.heap[b]?=w.heap[b]?)
  (hg:∀ l',l'≠l→e'.get l'=e.get l') (hgl:e'.get l=.vec z es) (hl:∀ k,e'.live k=true→e.live k=true)
  (hblk:VecR κ z c es w'.heap[b₀]?)
  (hkeep:∀ arr t f,w.heap[b₀]?=some (.cells arr t f)→∃ arr' f',w'.heap[b₀]?=some (.cells arr' t f')):St (κ.addVec l es.length b₀ z c) e' B w₀ w':=by
 have hle:=K.le_addVec hv
 have hrob:∀ l,κ.role b₀≠.ob l:=by
  intro l hl; rcases hr with h1 | h1<;>rw[h1] at hl<;>cases hl
 have hrv:κ.role b₀≠.val:=by
  intro hl; rcases hr with h1 | h1<;>rw[h1] at hl<;>cases hl
 have hcur:∀ b z' c',(κ.addVec l es.length b₀ z c).vb l es.length=some (b,z',c')→b=b₀∧z'=z∧c'=c:=by
  intro b z' c' hx; simp[K.addVec] at hx; exact⟨hx.1.symm,hx.2.1.symm,hx.2.2.symm⟩
 have hoth:∀ l' n,l'≠l→(κ.addVec l es.length b₀ z c).vb l' n=κ.vb l' n:=by
  intro l' n hne; simp[K.addVec,hne]
 refine h.step hle b₀ hos htape hout hsize hb hheap ?_ ?_ ?_ ?_ ?_ ?_ ?_ ?_ ?_ ?_ ?_ ?_ ?_ hkeep (fun _ _ _ _ ht=>.inl ht)
 ·intro b hbb; simp[K.addVec,hbb]
 ·intro _; exact hb'
 ·intro l' b hl
  have:=h.ro l' b hl
  have hne:b≠b₀:=by rintro rfl; exact hrob l' this
  simpa [K.addVec,hne] using this
 ·intro l' b hl
  by_cases hne:b=b₀
  ·subst hne; simp[K.addVec] at hl
  ·simp[K.addVec,hne] at hl; exact h.oo l' b hl
 ·intro l' z' es' b z'' c' hge hx
  by_cases hll:l'=l
  ·subst hll
   rw[hgl] at hge; cases hge
   obtain⟨rfl,rfl,rfl⟩:=hcur _ _ _ hx
   simp[K.addVec]
  ·rw[hg l' hll] at hge
   rw[hoth l' _ hll] at hx
   have:=h.rv l' z' es' b z'' c' hge hx
   have hne:b≠b₀:=by
    rintro rfl
    rcases hr with h2 | h2<;>rw[h2] at this
    ·cases this.1
    ·cases this.1; exact hll rfl
   simpa [K.addVec,hne] using this
 ·intro b i _; rfl
 ·intro i u hu; exact absurd (h.rf b₀ i u hu) hrv
 ·intro k b i c' hk ht
  have:=h.rt k b i c' (hl k hk) ht
  exact .inl ⟨by rintro rfl; exact hrv this,hl k hk,ht⟩
 ·intro k k' i c' i' c'' hk _ ht _
  exact absurd (h.rt k b₀ i c' (hl k hk) ht) hrv
 ·intro l' z' es' n hge hn
  by_cases hll:l'=l
  ·subst hll
   rw[hgl] at hge; cases hge
   have:¬ n=es.length:=by omega
   simp[K.addVec,this,hgt n hn]
  ·rw[hg l' hll] at hge
   rw[hoth l' _ hll]; exact h.vn l' z' es' n hge hn
 ·intro l' b hbb hrl
  have hne:l'≠l:=by
   rintro rfl
   have:=h.oo _ _ hrl
   rw[hob] at this; cases this
  exact .inl ⟨hg l' hne,rfl⟩
 ·intro l' b z' es' c' hbb hrl hge hx
  by_cases hll:l'=l
  ·subst hll
   rw[hgl] at hge; cases hge
   exact absurd (hcur _ _ _ hx).1 hbb
  ·rw[hg l' hll] at hge
   rw[hoth l' _ hll] at hx; exact⟨hge,hx⟩
 ·have hrl:(κ.addVec l es.length b₀ z c).role b₀=.vec l:=by simp[K.addVec]
  rw[hrl]
  intro z' es' c' hge hx
  rw[hgl] at hge; cases hge
  obtain⟨_,_,rfl⟩:=hcur _ _ _ hx
  exact hblk.mono hle
end Go.Abs
