/- On the way to: InterpLoops returns true; its listed variables read as the text lays them. -/
import Derived.Test.YthncagamgiogjaaGreatDoorA2
set_option autoImplicit false
set_option linter.unusedSectionVars false
set_option linter.unusedSimpArgs false
set_option linter.unusedVariables false
namespace Go.Abs
open Go
def cap:Nat:=1048000
theorem z1k {c:Nat}:room c=true↔c < cap:=by simp[room,cap,Nat.blt_eq]
theorem z94 {x y c d:Nat} (hc:c < cap) (hd:d < cap) (h:child x c=child y d):x=y∧c=d:=by
 simp only[child,base,cap] at *; omega
theorem z47 {x y c d:Nat} (hc:c < cap) (hd:d < cap) (h:z0k x c=z0k y d):x=y∧c=d:=by
 simp only[z0k,base,cap] at *; omega
theorem z29 (x c:Nat):x < child x c:=by simp only[child,base]; omega
theorem z2a (x c:Nat):2≤z0k x c:=by simp only[z0k]; omega
inductive Sub (f:Nat):Nat→Prop
 | refl:Sub f f
 | step {x c:Nat} (h:Sub f x) (hc:c < cap):Sub f (child x c)
theorem Sub.trans {f g x:Nat} (h:Sub f g) (h':Sub g x):Sub f x:=by
 induction h' with
 | refl=>exact h
 | step _ hc ih=>exact .step ih hc
theorem Sub.le {f x:Nat} (h:Sub f x):f≤x:=by
 induction h with
 | refl=>exact Nat.le_refl _
 | step _ _ ih=>rename_i x c _ _; have:=z29 x c; omega
theorem Sub.child_not {f c:Nat}:¬ Sub (child f c) f:=fun h=>by have:=h.le; have:=z29 f c; omega
theorem Sub.lin {f g x:Nat} (h:Sub f x) (h':Sub g x):Sub f g∨Sub g f:=by
 induction h with
 | refl=>exact .inr h'
 | step hx hc ih =>
  rename_i x c
  generalize hy:child x c=y at h'
  cases h' with
  | refl=>subst hy; exact .inl (.step hx hc)
  | step hx' hc' =>
   obtain⟨rfl,rfl⟩:=z94 hc hc' hy
   exact ih hx'
theorem Sub.child_eq {f c d x:Nat} (hc:c < cap) (hd:d < cap) (h:Sub (child f c) x) (h':Sub (child f d) x):c=d:=by
 have key:∀ {c d:Nat},c < cap→d < cap→Sub (child f c) (child f d)→c=d:=by
  intro c d hc hd h
  generalize hy:child f d=y at h
  cases h with
  | refl=>exact(z94 hd hc hy).2.symm
  | step h1 hc' =>
   obtain⟨rfl,rfl⟩:=z94 hd hc' hy
   exact absurd h1 Sub.child_not
 rcases h.lin h' with h1 | h1
 ·exact key hc hd h1
 ·exact(key hd hc h1).symm
def shp (e:E):List (Nat × List Nat):=e.stk.map fun f=>(f.fid,f.objs.map (·.1))
def fids (e:E):List Nat:=e.stk.map (·.fid)
theorem z1q {e e':E} (h:shp e'=shp e):fids e'=fids e:=by
 have:∀ e:E,fids e=(shp e).map (·.1):=fun e=>by simp[fids,shp]
 rw[this,this,h]
theorem zgu (f:FS) (a inst:Nat) (o:Ob):(z2i f a inst o).objs.map (·.1)=f.objs.map (·.1):=by
 unfold z2i
 split
 ·rename_i i cur prev he
  obtain⟨ha,hv⟩:=List.getElem?_eq_some_iff.1 he
  have key:∀ x:Nat × Ob × Ob,x.1=i→(f.objs.set a x).map (·.1)=f.objs.map (·.1):=by
   intro x hx
   apply List.ext_getElem?
   intro j
   simp only[List.map_set]
   by_cases hj:a=j
   ·subst hj; simp[ha,hx,hv]
   ·simp[hj]
  cases Nat.beq i inst<;>cases Nat.beq i (inst+1)<;>simp[key]
 ·rfl
theorem z2o (e:E) (l:Lo) (o:Ob):shp (e.set l o)=shp e:=by
 obtain⟨stk,glo,gl⟩:=e
 cases l with
 | gl i=>rfl
 | lo fid a inst =>
  simp only[E.set,shp]
  induction stk with
  | nil=>rfl
  | cons f rest ih =>
   simp only[z18]
   cases Nat.beq f.fid fid with
   | true=>simp[zgu]
   | false=>simp[ih]
theorem z8l (e:E) (k:Nat):shp (e.kill k)=shp e:=by
 obtain⟨stk,glo,gl⟩:=e
 simp only[E.kill,shp]
 induction stk with
 | nil=>rfl
 | cons f rest ih =>
  simp only[z10]
  cases z0f f.live k<;>simp[ih]
theorem zbv (e:E) (k:Nat):shp (e.born k)=shp e:=by
 obtain⟨stk,glo,gl⟩:=e
 cases stk<;>rfl
theorem zfn (e:E) (k:Nat) (l:Lo):shp (e.bear k l)=shp e:=by
 obtain⟨stk,glo,gl⟩:=e
 cases l with
 | gl i=>rfl
 | lo fid a inst =>
  simp only[E.bear,shp]
  induction stk with
  | nil=>rfl
  | cons f rest ih =>
   simp only[z4l]
   cases Nat.beq f.fid fid<;>simp[ih]
theorem zm6 (e:E) (k:Nat) (l:Lo):shp (e.move k l)=shp e:=by
 unfold E.move
 cases e.live k<;>simp[zfn,z8l]
theorem z5a (vs:List AV) (e:E) (l:Lo):shp (e.moves vs l)=shp e:=by
 induction vs generalizing e with
 | nil=>rfl
 | cons v rest ih =>
  cases v<;>simp only[E.moves,ih]
  rename_i k z xs
  cases Nat.ble 2 k<;>simp[zm6]
theorem z2p (e:E) (l:Lo) (o:Ob):(e.set l o).glo.length=e.glo.length:=by
 obtain⟨stk,glo,gl⟩:=e
 cases l<;>simp[E.set]
theorem zm7 (e:E) (k:Nat):(e.kill k).glo=e.glo:=rfl
theorem zbw (e:E) (k:Nat):(e.born k).glo=e.glo:=by obtain⟨stk,glo,gl⟩:=e; cases stk<;>rfl
theorem zfo (e:E) (k:Nat) (l:Lo):(e.bear k l).glo=e.glo:=by obtain⟨stk,glo,gl⟩:=e; cases l<;>rfl
theorem zm8 (e:E) (k:Nat) (l:Lo):(e.move k l).glo=e.glo:=by
 unfold E.move
 cases e.live k<;>simp[zfo,zm7]
theorem z48 (vs:List AV) (e:E) (l:Lo):(e.moves vs l).glo=e.glo:=by
 induction vs generalizing e with
 | nil=>rfl
 | cons v rest ih =>
  cases v<;>simp only[E.moves,ih]
  rename_i k z xs
  cases Nat.ble 2 k<;>simp[zm8]
structure Keep (W:List Lo) (e e':E):Prop where
 fids:fids e'=fids e
 rest:(shp e').tail=(shp e).tail
 glo:e.glo.length≤e'.glo.length
 w:∀ l∈W,e.get l≠.none→e'.get l=e.get l
theorem Keep.refl (W:List Lo) (e:E):Keep W e e:=⟨rfl,rfl,Nat.le_refl _,fun _ _ _=>rfl⟩
theorem Keep.trans {W:List Lo} {a b c:E} (h:Keep W a b) (h':Keep W b c):Keep W a c :=
 ⟨h'.fids.trans h.fids,h'.rest.trans h.rest,Nat.le_trans h.glo h'.glo,fun l hl hn=>by
  have h1:=h.w l hl hn
  rw[h'.w l hl (by rw[h1]; exact hn),h1]⟩
theorem Keep.mono {W W':List Lo} {e e':E} (h:Keep W e e') (hs:∀ l∈W',l∈W):Keep W' e e':=⟨h.fids,h.rest,h.glo,fun l hl=>h.w l (hs l hl)⟩
theorem Keep.of_same {W:List Lo} {e e':E} (hs:shp e'=shp e) (hg:e'.glo.length=e.glo.length) (hw:∀ l∈W,e'.get l=e.get l):Keep W e e' :=
 ⟨z1q hs,by rw[hs],by omega,fun l hl _=>hw l hl⟩
theorem Keep.set {W:List Lo} {e:E} {l:Lo} {o:Ob} (h:l∉W):Keep W e (e.set l o) :=
 .of_same (z2o e l o) (z2p e l o) fun l' hl=>E.get_set_ne e l l' o (by rintro rfl; exact h hl)
theorem Keep.kill {W:List Lo} {e:E} {k:Nat}:Keep W e (e.kill k):=.of_same (z8l e k) rfl fun l _=>E.get_kill e k l
theorem Keep.born {W:List Lo} {e:E} {k:Nat}:Keep W e (e.born k):=.of_same (zbv e k) (by rw[zbw]) fun l _=>E.get_born e k l
theorem Keep.bear {W:List Lo} {e:E} {k:Nat} {l:Lo}:Keep W e (e.bear k l):=.of_same (zfn e k l) (by rw[zfo]) fun l' _=>E.get_bear e k l l'
theorem Keep.moves {W:List Lo} {e:E} {vs:List AV} {l:Lo}:Keep W e (e.moves vs l):=.of_same (z5a vs e l) (by rw[z48]) fun l' _=>E.get_moves vs e l l'
theorem z2q {e e':E} {W:List Lo} {a:Nat} {g:Bool} {o:Ob} {l:Lo} (h:newAt e W a g o=some (l,e')) :
  e.get l=.none∧(∀ k,e'.live k=e.live k)∧e'.get l=o∧(∀ l',l'≠l→(e'.get l'=e.get l'∨(e'.get l'=.none∧l'∉W)))∧e.glo.length≤e'.glo.length∧fids e'=fids e∧(shp e').tail=(shp e).tail ∧
  ((l=.gl e.glo.length∧e.glo.length < e'.glo.length∧shp e'=shp e) ∨
   ∃ fid objs live rest i cur prev,e.stk=⟨fid,objs,live⟩::rest∧objs[a]?=some (i,cur,prev)∧l=.lo fid a (i+1)∧e'.stk=⟨fid,objs.set a (i+1,o,cur),live⟩::rest∧e'.glo=e.glo):=by
 obtain⟨stk,glo,gl⟩:=e
 simp only[newAt] at h
 cases g with
 | true =>
  simp only[cond_true,Option.some.injEq,Prod.mk.injEq] at h
  obtain⟨rfl,rfl⟩:=h
  refine⟨by simp[E.get],fun k=>rfl,by simp[E.get],?_,by simp,rfl,rfl,.inl ⟨rfl,by simp,rfl⟩⟩
  intro l' hl'
  left
  cases l' with
  | lo=>rfl
  | gl i =>
   have:i≠glo.length:=fun e=>hl' (by rw[e])
   simp only[E.get]
   by_cases hi:i < glo.length
   ·simp[List.getElem?_append,hi]
   ·have:glo.length+1≤i:=by omega
    simp[List.getElem?_eq_none (l:=glo) (i:=i) (by omega),List.getElem?_eq_none (l:=glo++[o]) (i:=i) (by simpa using this)]
 | false =>
  simp only[cond_false] at h
  cases stk with
  | nil=>simp[naF] at h
  | cons f rest =>
   obtain⟨fid,objs,live⟩:=f
   simp only[naF] at h
   cases hob:objs[a]? with
   | none=>simp[hob,naO] at h
   | some x =>
    obtain⟨i,cur,prev⟩:=x
    simp only[hob,naO] at h
    obtain⟨hf,h⟩:=z00 h
    simp only[Option.some.injEq,Prod.mk.injEq] at h
    obtain⟨rfl,rfl⟩:=h
    have ha:a < objs.length:=(List.getElem?_eq_some_iff.1 hob).1
    have b1:Nat.beq fid fid=true:=z03.2 rfl
    have b2:∀ n,Nat.beq n n=true:=fun n=>z03.2 rfl
    refine⟨?_,fun k=>rfl,?_,?_,Nat.le_refl _,rfl,rfl,.inr ⟨fid,objs,live,rest,i,cur,prev,rfl,hob,rfl,rfl,rfl⟩⟩
    ·have h1:Nat.beq i (i+1)=false:=by rw[Bool.eq_false_iff]; exact fun e=>by have:=z03.1 e; omega
     have h2:Nat.beq i (i+1+1)=false:=by rw[Bool.eq_false_iff]; exact fun e=>by have:=z03.1 e; omega
     simp only[E.get,z0z,b1,cond_true,z40,hob,h1,h2,cond_false]
    ·simp[E.get,z0z,z40,ha]
    ·intro l' hl'
     cases l' with
     | gl j=>exact .inl rfl
     | lo gid b j =>
      simp only[E.get,z0z]
      cases hg:Nat.beq fid gid with
      | false=>exact .inl rfl
      | true =>
       simp only[cond_true]
       have:=z03.1 hg
       subst this
       by_cases hab:a=b
       ·subst hab
        have hj:j≠i+1:=fun e=>hl' (by rw[e])
        simp only[z40,List.getElem?_set_self ha,hob]
        have h1:Nat.beq (i+1) j=false:=by rw[Bool.eq_false_iff]; exact fun e=>hj (z03.1 e).symm
        simp only[h1,cond_false]
        cases h2:Nat.beq (i+1) (j+1) with
        | true =>
         have:i=j:=by have:=z03.1 h2; omega
         subst this
         left; simp
        | false =>
         have h3:Nat.beq i j=false:=by rw[Bool.eq_false_iff]; exact fun e=>by rw[z03.1 e,b2] at h2; cases h2
         simp only[cond_false,h3]
         cases h4:Nat.beq i (j+1) with
         | false=>exact .inl rfl
         | true =>
          right
          have:i=j+1:=z03.1 h4
          subst this
          exact⟨by simp,by simpa using z2x.1 hf⟩
       ·left; simp only[z40,List.getElem?_set_ne hab]
theorem Keep.newAt {e e':E} {W:List Lo} {a:Nat} {g:Bool} {o:Ob} {l:Lo} (h:Abs.newAt e W a g o=some (l,e')):Keep W e e':=by
 obtain⟨hl,_,_,h3,h4,h5,h6,_⟩:=z2q h
 refine⟨h5,h6,h4,fun l' hl' hn=>?_⟩
 by_cases hll:l'=l
 ·subst hll; exact absurd hl hn
 ·rcases h3 l' hll with h7 | ⟨_,h7⟩
  ·exact h7
  ·exact absurd hl' h7
end Go.Abs
namespace Go.Abs
open Go
noncomputable def putS (d:Option Pth) (s:Tm) (v:AV):Tm:=match d with | some p=>s.set p v | none=>s
theorem zd4 (d:Option Pth) (fr:Fr) (v:AV):(Fr.put d fr v).s=putS d fr.s v:=by
 cases d<;>obtain⟨s,cnt⟩:=fr<;>rfl
theorem z4n (d:Option Pth) (fr:Fr) (v:AV):(Fr.put d fr v).cnt=fr.cnt:=by
 cases d<;>obtain⟨s,cnt⟩:=fr<;>rfl
def FrOK (e:E) (fid cnt:Nat):Prop:=∀ c x,cnt≤c→c < cap→Sub (child fid c) x→x∉fids e
theorem FrOK.keep {W:List Lo} {e e':E} {fid cnt cnt':Nat} (h:FrOK e fid cnt) (hk:Keep W e e') (hc:cnt≤cnt'):FrOK e' fid cnt' :=
 fun c x h1 h2 h3=>by rw[hk.fids]; exact h c x (by omega) h2 h3
def z0n (call:z06):Prop :=
 ∀ f args W fid e v e',(call f args W fid e=.ret v e'∨call f args W fid e=.pan v e')→(∀ x,Sub fid x→x∉fids e) →
  shp e'=shp e∧e.glo.length≤e'.glo.length∧∀ l∈W,e.get l≠.none→e'.get l=e.get l
theorem Keep.of_call {W:List Lo} {e e':E} (h:shp e'=shp e∧e.glo.length≤e'.glo.length∧∀ l∈W,e.get l≠.none→e'.get l=e.get l):Keep W e e' :=
 ⟨z1q h.1,by rw[h.1],h.2.1,h.2.2⟩
def GoOK (W:List Lo) (d:Option Pth) (fr:Fr) (e:E):R→Prop
 | .go fr' e'=>Keep W e e'∧fr.cnt≤fr'.cnt∧∃ v,fr'.s=putS d fr.s v
 | .pan _ fr' e'=>Keep W e e'∧fr.cnt≤fr'.cnt∧fr'.s=fr.s
 | .bad=>True
 | _=>False
theorem GoOK.put {W:List Lo} {d:Option Pth} {fr:Fr} {e e':E} {v:AV} (h:Keep W e e'):GoOK W d fr e (.go (Fr.put d fr v) e') :=
 ⟨h,by rw[z4n]; exact Nat.le_refl _,v,zd4 d fr v⟩
theorem GoOK.cond {W:List Lo} {d:Option Pth} {fr:Fr} {e:E} {b:Bool} {x y:R} (hx:b=true→GoOK W d fr e x) (hy:b=false→GoOK W d fr e y):GoOK W d fr e (cond b x y):=by
 cases b
 ·exact hy rfl
 ·exact hx rfl
theorem GoOK.bad {W:List Lo} {d:Option Pth} {fr:Fr} {e:E}:GoOK W d fr e .bad:=trivial
theorem zek {W:List Lo} {e e':E} {l:Lo} {z i off:Nat} {es:List AV} {v:AV} {o:Option AV} (hl:l∉W) (h:z8z e l z i off es v o=some e'):Keep W e e':=by
 unfold z8z at h
 split at h
 ·obtain⟨_,h⟩:=z00 h; cases h; exact .set hl
 ·obtain⟨_,h⟩:=z00 h
  split at h
  ·cases h
  ·cases h; exact .set hl
 ·cases h
theorem zel {W:List Lo} {e e':E} {v a:AV} (h:z6s e W v a=some e'):Keep W e e':=by
 unfold z6s at h
 split at h
 ·obtain⟨hf,h⟩:=z00 h
  unfold z8y at h
  split at h
  ·obtain⟨_,h⟩:=z00 h
   cases h
   exact Keep.moves.trans (.set (z2x.1 hf))
  ·cases h
 ·obtain⟨hf,h⟩:=z00 h
  unfold zlt at h
  split at h
  ·obtain⟨_,h⟩:=z00 h
   exact zek (z2x.1 hf) h
  ·cases h
 ·cases h
theorem z95 {W:List Lo} {e e':E} {n:Nat} {a v:AV} (h:z80 e W n a v=some e'):Keep W e e':=zel (z00 h).2
theorem zem (b8:Bool) (cnt:Nat):cnt≤tick b8 cnt:=by
 unfold tick
 cases Nat.beq (cnt % 2) (cond b8 1 0)
 ·exact Nat.le_succ _
 ·exact Nat.le_refl _
theorem z96 {W:List Lo} {d:Option Pth} {fr:Fr} {e e₁:E} {fid:Nat} {z:Nat} {xs:List AV} {b8:Bool} (h:Keep W e e₁):GoOK W d fr e (ticket b8 fid e₁ (fun k'=>putK d (.sl k' z xs)) fr):=by
 obtain⟨s,cnt⟩:=fr
 simp only[ticket,z1x]
 refine .cond (fun _=>⟨h.trans .born,?_,_,zd4 d _ _⟩) fun _=>.bad
 rw[z4n]
 have:=zem b8 cnt
 simp only; omega
theorem zik {W:List Lo} {d:Option Pth} {fr:Fr} {e:E} {v:AV} {o:Option E} (h:∀ e',o=some e'→Keep W e e'):GoOK W d fr e (optE d v fr o):=by
 cases o with
 | none=>trivial
 | some e'=>exact .put (h e' rfl)
theorem boxO_ok {W:List Lo} {d:Option Pth} {fr:Fr} {e:E} {vs:List AV} {o:Option (Lo × E)} (h:∀ l e',o=some (l,e')→Keep W e e'):GoOK W d fr e (boxO d fr vs o):=by
 cases o with
 | none=>trivial
 | some x=>exact .put ((h x.1 x.2 rfl).trans .moves)
theorem zfp {W:List Lo} {z n:Nat} {ex:Bool} {d:Option Pth} {fr:Fr} {e:E} {o:Option (Lo × E)} (h:∀ l e',o=some (l,e')→Keep W e e'):GoOK W d fr e (hsO z n ex d fr o):=by
 cases o with
 | none=>trivial
 | some x=>exact .put (h x.1 x.2 rfl)
theorem newO_ok {W:List Lo} {m:Bool} {d:Option Pth} {fr:Fr} {e:E} {o:Option (Lo × E)} (h:∀ l e',o=some (l,e')→Keep W e e'):GoOK W d fr e (newO m d fr o):=by
 cases o with
 | none=>trivial
 | some x=>exact .put (h x.1 x.2 rfl)
theorem nat2_ok {W:List Lo} {d:Option Pth} {fr:Fr} {e:E} {k:Nat→Nat→R} {x y:AV} (h:∀ a b,GoOK W d fr e (k a b)):GoOK W d fr e (nat2 k x y):=by
 unfold nat2; split
 ·exact h _ _
 ·trivial
theorem zm9 {W:List Lo} {a kind z bytes z':Nat} {new:List AV} {d:Option Pth} {fr:Fr} {e:E} {l:Lo} {sz off n:Nat} {ex:Bool} {o:Ob}:GoOK W d fr e (zgr W a kind z bytes z' new d fr e l sz off n ex o):=by
 unfold zgr
 split
 ·refine .cond (fun _=>.cond (fun _=>zfp fun _ _=>Keep.newAt) fun _=>.cond (fun hf=>.cond (fun _=>.put (.set (z2x.1 hf))) fun _=>.cond (fun _=>.put (.set (z2x.1 hf))) fun _=>.bad) fun _=>.bad) fun _=>.bad
 ·trivial
theorem appV_ok {W:List Lo} {b8:Bool} {fid a kind z bytes z':Nat} {new:List AV} {d:Option Pth} {fr:Fr} {e:E} {v:AV}:GoOK W d fr e (appV b8 fid W a kind z bytes z' new d fr e v):=by
 unfold appV
 split
 ·refine .cond (fun _=>?_) fun _=>.bad
  unfold z8d
  exact .cond (fun _=>.cond (fun _=>z96 (.refl _ _)) fun _=>.cond (fun _=>z96 .kill) fun _=>.bad) fun _=>.cond (fun _=>zfp fun _ _=>Keep.newAt) fun _=>.bad
 ·exact zm9
 ·trivial
theorem mupO_ok {ag:Bool} {ks:List CK} {W:List Lo} {d:Option Pth} {fr:Fr} {e:E} {l:Lo} {k v:AV} {o:Ob}:GoOK W d fr e (mupO ag ks W d fr e l k v o):=by
 unfold mupO; split
 ·unfold mupF; split
  ·exact .cond (fun hf=>.put (Keep.moves.trans (.set (z2x.1 hf)))) fun _=>.bad
  ·trivial
 ·trivial
theorem menO_ok {ag:Bool} {ks:List CK} {W:List Lo} {d:Option Pth} {fr:Fr} {e:E} {l:Lo} {k v:AV} {o:Ob}:GoOK W d fr e (menO ag ks W d fr e l k v o):=by
 unfold menO; split
 ·unfold menF; split
  ·exact .cond (fun hf=>.put (.refl _ _)) fun _=>.bad
  ·exact .cond (fun hf=>.put (.set (z2x.1 hf))) fun _=>.bad
  ·trivial
 ·trivial
theorem estO_ok {ag:Bool} {ks:List CK} {W:List Lo} {d:Option Pth} {fr:Fr} {e:E} {l:Lo} {k v:AV} {o:Ob}:GoOK W d fr e (estO ag ks W d fr e l k v o):=by
 unfold estO; split
 ·unfold estF; split
  ·exact .cond (fun hf=>.put (Keep.moves.trans (.set (z2x.1 hf)))) fun _=>.bad
  ·trivial
 ·trivial
theorem zfq {call:z06} (hc:z0n call) {W:List Lo} {d:Option Pth} {fr:Fr} {e:E} {f:FuncId} {args:List AV} {fid:Nat} (hf:FrOK e fid fr.cnt) (hr:room fr.cnt=true) :
  GoOK W d fr e (after d fr (call f args W (child fid fr.cnt) e)):=by
 have hs:∀ x,Sub (child fid fr.cnt) x→x∉fids e:=fun x hx=>hf _ x (Nat.le_refl _) (z1k.1 hr) hx
 obtain⟨s,cnt⟩:=fr
 cases hcr:call f args W (child fid cnt) e with
 | bad=>trivial
 | ret v e' =>
  refine⟨.of_call (hc f args W _ e v e' (.inl hcr) hs),?_,v,zd4 d _ _⟩
  rw[z4n]; exact Nat.le_succ _
 | pan v e'=>exact⟨.of_call (hc f args W _ e v e' (.inr hcr) hs),Nat.le_succ _,rfl⟩
def EO.isCall:EO→Bool
 | .call _ _=>true
 | .callv _ _=>true
 | _=>false
theorem EO.pure' {call:z06} (hc:z0n call) (o:EO) {W:List Lo} {d:Option Pth} {fr:Fr} {e:E} {fid:Nat} (hf:o.isCall=true→FrOK e fid fr.cnt):GoOK W d fr e (o.ev call fid W d fr e):=by
 cases o with
 | new a g m o=>exact newO_ok fun _ _=>Keep.newAt
 | st n a x=>exact zik fun _=>z95
 | stx v n a x=>exact .cond (fun _=>zik fun _=>z95) fun _=>.bad
 | box a g t n x=>exact .cond (fun _=>boxO_ok fun _ _=>Keep.newAt) fun _=>.bad
 | mks a g hs ex z zero bytes l c =>
  exact nat2_ok fun _ _=>.cond (fun _=>.cond (fun _=>zfp fun _ _=>Keep.newAt) fun _=>z96 (.refl _ _)) fun _=>.bad
 | app a kind z zero bytes s x =>
  simp only[EO.ev,zlv,appE]
  split
  ·refine .cond (fun _=>?_) fun _=>appV_ok
   unfold appN
   split
   ·exact .put (.refl _ _)
   ·exact .put (.refl _ _)
   ·trivial
  ·trivial
 | apz a g z zero bytes s n =>
  simp only[EO.ev,zlw,apzS]
  split
  ·exact .cond (fun _=>.cond (fun _=>zfp fun _ _=>Keep.newAt) fun _=>.bad) fun _=>.bad
  ·trivial
 | clr z zero x =>
  simp only[EO.ev,zlx,clrV]
  split
  ·exact .put (.refl _ _)
  ·refine .cond (fun _=>.put (.refl _ _)) fun _=>?_
   unfold clrO
   split
   ·refine .cond (fun h=>?_) fun _=>.bad
    simp only[Bool.and_eq_true] at h
    exact .put (.set (z2x.1 h.2.2))
   ·trivial
  ·trivial
 | cpy z x y =>
  simp only[EO.ev,zly,cpyV]
  split
  ·unfold cpyE
   split
   ·refine .cond (fun _=>.put (.refl _ _)) fun _=>?_
    unfold cpyO
    split
    ·refine .cond (fun h=>?_) fun _=>.bad
     simp only[Bool.and_eq_true] at h
     exact .put (.set (z2x.1 h.2.2.2))
    ·trivial
   ·trivial
  ·trivial
 | s2b x =>
  simp only[EO.ev,zlz,s2bV]
  split
  ·exact .put (.refl _ _)
  ·trivial
 | mup ag ks m k x =>
  simp only[EO.ev,zm,mupV]
  split
  ·exact mupO_ok
  ·trivial
 | men ag ks zero m k =>
  simp only[EO.ev,zm0,menV]
  split
  ·exact menO_ok
  ·trivial
 | est ag ks m s x =>
  simp only[EO.ev,zm1,estV]
  split
  ·exact .cond (fun _=>estO_ok) fun _=>.bad
  ·trivial
 | call f args=>exact .cond (fun hr=>zfq hc (hf rfl) hr) fun _=>.bad
 | callv f args =>
  simp only[EO.ev,zbq,z30]
  split
  ·exact .cond (fun hr=>zfq hc (hf rfl) hr) fun _=>.bad
  ·trivial
 | pan x =>
  simp only[EO.ev,evPan,panV]
  split
  ·exact⟨.refl _ _,Nat.le_refl _,rfl⟩
  ·trivial
theorem EO.pure {call:z06} (hc:z0n call) (o:EO) {W:List Lo} {d:Option Pth} {fr:Fr} {e:E} {fid:Nat} (hf:FrOK e fid fr.cnt):GoOK W d fr e (o.ev call fid W d fr e):=EO.pure' hc o fun _=>hf
theorem z2r {s:Tm} {W:List Lo} {ws:List WX} {l:Lo} (h:l∈W):l∈z0o s W ws:=by
 induction ws with
 | nil=>exact h
 | cons x rest ih =>
  cases x with
  | l x=>exact List.mem_append_right _ ih
  | c x=>exact ih
theorem z82 {s:Tm} {W:List Lo} {ws:List WX} {l:Lo} {x:AX} (hx:.l x∈ws) (h:l∈z24 (x.ev s)):l∈z0o s W ws:=by
 induction ws with
 | nil=>cases hx
 | cons y rest ih =>
  cases hx with
  | head=>exact List.mem_append_left _ h
  | tail _ hx =>
   cases y with
   | l y=>exact List.mem_append_right _ (ih hx)
   | c y=>exact ih hx
theorem zbx {s:Tm} {e:E} {ws:List WX} {r:R} (h:chkR s e ws r≠.bad):chkR s e ws r=r∧∀ fr' e',r=.go fr' e'→z6c s e e' ws=true:=by
 unfold chkR at h ⊢
 split
 ·rename_i fr' e'
  simp only at h
  cases hc:z6c s e e' ws with
  | false=>rw[hc] at h; exact absurd rfl h
  | true=>exact⟨rfl,fun _ _ he=>by cases he; exact hc⟩
 ·rename_i h'
  exact⟨rfl,fun _ _ he=>absurd he (h' _ _)⟩
theorem GoOK.chk {W:List Lo} {d:Option Pth} {fr:Fr} {e:E} {s:Tm} {e₀:E} {ws:List WX} {r:R} (h:GoOK W d fr e r):GoOK W d fr e (chkR s e₀ ws r):=by
 unfold chkR
 split
 ·exact .cond (fun _=>h) fun _=>.bad
 ·exact h
theorem zil {s:Tm} {e e':E} {ws:List WX} {a:AX} (h:z6c s e e' ws=true) (hm:.c a∈ws):simO (z19 e false 1 (a.ev s)) (z19 e' false 1 (a.ev s))=true:=by
 induction ws with
 | nil=>cases hm
 | cons x rest ih =>
  cases x with
  | l x =>
   cases hm with
   | tail _ hm=>exact ih h hm
  | c x =>
   simp only[z6c] at h
   cases hs:simO (z19 e false 1 (x.ev s)) (z19 e' false 1 (x.ev s)) with
   | false=>rw[hs] at h; cases h
   | true =>
    rw[hs] at h
    cases hm with
    | head=>exact hs
    | tail _ hm=>exact ih h hm
theorem GoOK.mono {W W':List Lo} {d:Option Pth} {fr:Fr} {e:E} {r:R} (h:GoOK W d fr e r) (hs:∀ l∈W',l∈W):GoOK W' d fr e r:=by
 cases r with
 | go fr' e'=>exact⟨h.1.mono hs,h.2⟩
 | pan v fr' e'=>exact⟨h.1.mono hs,h.2⟩
 | bad=>trivial
 | _=>exact h.elim
theorem AO.pure {call:z06} (hc:z0n call) (o:AO) {W:List Lo} {fr:Fr} {e:E} {fid:Nat} (hf:FrOK e fid fr.cnt):GoOK W o.d fr e (o.ev call fid W fr e):=by
 obtain⟨d,g,o⟩:=o
 have key:GoOK W d fr e (o.ev call fid W d fr e):=by
  cases o with
  | p o =>
   simp only[OP.ev,opP,optV]
   split
   ·exact .put (.refl _ _)
   ·trivial
  | r o =>
   simp only[OP.ev,opR,optV]
   split
   ·exact .put (.refl _ _)
   ·trivial
  | e o watch=>exact(EO.pure hc o hf).chk.mono fun l hl=>z2r hl
 simp only[AO.ev,aoG]
 split
 ·exact key
 ·unfold z1n
  split
  ·exact .cond (fun _=>key) fun _=>.put (.refl _ _)
  ·exact .put (.refl _ _)
  ·trivial
def z49 (W:List Lo) (fr:Fr) (e:E):R→Prop
 | .bad=>True
 | .go fr' e' | .exit _ fr' e' | .ret fr' e' | .pan _ fr' e'=>Keep W e e'∧fr.cnt≤fr'.cnt
theorem z49.of {W:List Lo} {d:Option Pth} {fr:Fr} {e:E} {r:R} (h:GoOK W d fr e r):z49 W fr e r:=by
 cases r with
 | go fr' e'=>exact⟨h.1,h.2.1⟩
 | pan v fr' e'=>exact⟨h.1,h.2.1⟩
 | bad=>trivial
 | _=>exact h.elim
theorem z49.bind {W:List Lo} {fr:Fr} {e:E} {r:R} {k:Fr→E→R} (h:z49 W fr e r) (hk:∀ fr' e',Keep W e e'→fr.cnt≤fr'.cnt→z49 W fr' e' (k fr' e')):z49 W fr e (R.bind k r):=by
 cases r with
 | go fr' e' =>
  have h2:=hk fr' e' h.1 h.2
  simp only[R.bind]
  revert h2
  cases k fr' e'<;>simp only[z49]<;>first | (intro _; trivial) | exact fun h2=>⟨h.1.trans h2.1,Nat.le_trans h.2 h2.2⟩
 | bad=>trivial
 | exit id fr' e'=>exact h
 | ret fr' e'=>exact h
 | pan v fr' e'=>exact h
theorem z49.leave {W:List Lo} {fr:Fr} {e:E} {r:R} {id:Nat} (h:z49 W fr e r):z49 W fr e (R.leave id r):=by
 cases r with
 | exit j fr' e' =>
  simp only[R.leave]
  cases Nat.beq j id<;>exact h
 | _=>exact h
theorem z97 {call:z06} (hc:z0n call) {W:List Lo} {fid:Nat} (l:List AO):∀ (fr:Fr) (e:E),FrOK e fid fr.cnt→z49 W fr e (z0j call fid W l fr e):=by
 induction l with
 | nil=>exact fun fr e _=>⟨.refl _ _,Nat.le_refl _⟩
 | cons o rest ih =>
  intro fr e hf
  show z49 W fr e (R.bind (z0j call fid W rest) (o.ev call fid W fr e))
  exact(z49.of (AO.pure hc o hf)).bind fun fr' e' hk hcnt=>ih fr' e' (hf.keep hk hcnt)
theorem zd5 {W:List Lo} {fid:Nat} {f:Fr→E→R} (hf:∀ fr e,FrOK e fid fr.cnt→z49 W fr e (f fr e)):∀ (n:Nat) (fr:Fr) (e:E),FrOK e fid fr.cnt→z49 W fr e (iter f n fr e)
 | 0,_,_,_=>trivial
 | n+1,fr,e,h=>(hf fr e h).bind fun fr' e' hk hcnt=>zd5 hf n fr' e' (h.keep hk hcnt)
theorem run_pure {call:z06} (hc:z0n call) {W:List Lo} {fid fuel:Nat} (c:AC):∀ (fr:Fr) (e:E),FrOK e fid fr.cnt→z49 W fr e (run call fuel fid W c fr e):=by
 induction c with
 | skip=>exact fun fr e _=>⟨.refl _ _,Nat.le_refl _⟩
 | reg ops=>exact z97 hc ops
 | seq a b iha ihb =>
  intro fr e hf
  exact(iha fr e hf).bind fun fr' e' hk hcnt=>ihb fr' e' (hf.keep hk hcnt)
 | cond c a b iha ihb =>
  intro fr e hf
  show z49 W fr e (z3w (run call fuel fid W a) (run call fuel fid W b) fr e (c.ev fr.s))
  unfold z3w
  split
  ·rename_i t _
   cases t
   ·exact ihb fr e hf
   ·exact iha fr e hf
  ·trivial
 | blk id c ih=>exact fun fr e hf=>(ih fr e hf).leave
 | loop c ih=>exact fun fr e hf=>zd5 ih fuel fr e hf
 | exit id=>exact fun fr e _=>⟨.refl _ _,Nat.le_refl _⟩
 | ret=>exact fun fr e _=>⟨.refl _ _,Nat.le_refl _⟩
end Go.Abs
namespace Go.Abs
open Go
def Lo.of (fid:Nat):Lo→Prop
 | .lo g _ _=>g=fid
 | .gl _=>False
theorem zen {stk:List FS} {g a i:Nat} (h:g∉stk.map (·.fid)):z0z stk g a i=.none:=by
 induction stk with
 | nil=>rfl
 | cons f rest ih =>
  simp only[List.map_cons,List.mem_cons,not_or] at h
  have:Nat.beq f.fid g=false:=by rw[Bool.eq_false_iff]; exact fun e=>h.1 (z03.1 e).symm
  simp only[z0z,this,cond_false]
  exact ih h.2
theorem z8m {e:E} {g a i:Nat} (h:g∉fids e):e.get (.lo g a i)=.none:=by
 obtain⟨stk,glo,gl⟩:=e
 exact zen h
theorem zfr {f:FS} {stk:List FS} {glo:List Ob} {gl:List Nat} {l:Lo} (h:¬ l.of f.fid):(E.mk (f::stk) glo gl).get l=(E.mk stk glo gl).get l:=by
 cases l with
 | gl i=>rfl
 | lo g a i =>
  have:Nat.beq f.fid g=false:=by rw[Bool.eq_false_iff]; exact fun e=>h (z03.1 e).symm
  simp only[E.get,z0z,this,cond_false]
theorem zim {e:E} {l:Lo} {fid:Nat} {rest:List Nat} (hf:fids e=fid::rest) (h:¬ l.of fid):(pop e).get l=e.get l:=by
 obtain⟨stk,glo,gl⟩:=e
 cases stk with
 | nil=>simp[fids] at hf
 | cons f stk =>
  simp only[fids,List.map_cons,List.cons.injEq] at hf
  exact(zfr (hf.1 ▸ h)).symm
theorem upK_shp (k:Nat) (e:E):shp (upK k e)=shp e:=by
 unfold upK
 split
 ·rename_i f g rest glo gl
  cases z0f f.live k<;>rfl
 ·rfl
theorem upK_glo (k:Nat) (e:E):(upK k e).glo=e.glo:=by
 unfold upK
 split
 ·rename_i f g rest glo gl
  cases z0f f.live k<;>rfl
 ·rfl
theorem upK_get (k:Nat) (e:E) (l:Lo):(upK k e).get l=e.get l:=by
 unfold upK
 split
 ·rename_i f g rest glo gl
  cases z0f f.live k
  ·rfl
  ·cases l<;>rfl
 ·rfl
theorem zma (k j:Nat) (e:E):(upK k e).live j=true→e.live j=true:=by
 unfold upK
 split
 ·rename_i f g rest glo gl
  cases h:z0f f.live k
  ·exact id
  ·intro hj
   rw[E.live_iff] at hj ⊢
   rcases hj with⟨f',hf',hj⟩ | hj
   ·simp only[cond_true,List.mem_cons] at hf'
    rcases hf' with rfl | rfl | hf'
    ·exact .inl ⟨f',by simp,hj⟩
    ·simp only[List.mem_cons] at hj
     rcases hj with rfl | hj
     ·exact .inl ⟨f,by simp,z2n.1 h⟩
     ·exact .inl ⟨g,by simp,hj⟩
    ·exact .inl ⟨f',by simp[hf'],hj⟩
   ·exact .inr hj
 ·exact id
structure Up (e e':E):Prop where
 shp:shp e'=shp e
 glo:e'.glo=e.glo
 get:∀ l,e'.get l=e.get l
 live:∀ j,e'.live j=true→e.live j=true
theorem Up.refl (e:E):Up e e:=⟨rfl,rfl,fun _=>rfl,fun _=>id⟩
theorem Up.trans {a b c:E} (h:Up a b) (h':Up b c):Up a c:=⟨h'.shp.trans h.shp,h'.glo.trans h.glo,fun l=>(h'.get l).trans (h.get l),fun j hj=>h.live j (h'.live j hj)⟩
theorem Up.upK (k:Nat) (e:E):Up e (upK k e):=⟨upK_shp k e,upK_glo k e,upK_get k e,fun j=>zma k j e⟩
theorem Up.ups (vs:List AV):∀ e,Up e (ups vs e):=by
 induction vs with
 | nil=>exact Up.refl
 | cons v rest ih =>
  intro e
  cases v<;>simp only[Abs.ups]<;>try exact ih e
  rename_i k z xs
  cases Nat.ble 2 k
  ·exact ih e
  ·exact(Up.upK k e).trans (ih _)
theorem Up.upAll (vs:List AV):∀ e,Up e (upAll vs e):=by
 induction vs with
 | nil=>exact Up.refl
 | cons v rest ih=>exact fun e=>(Up.ups _ e).trans (ih _)
structure Res (fid:Nat) (e e':E):Prop where
 shp:shp e'=shp e
 glo:e'.glo.length=e.glo.length
 get:∀ l,e'.get l=e.get l∨(l.of fid∧e'.get l=.none)
 live:∀ j,e'.live j=true→e.live j=true
theorem Res.refl (fid:Nat) (e:E):Res fid e e:=⟨rfl,rfl,fun _=>.inl rfl,fun _=>id⟩
theorem Res.trans {fid:Nat} {a b c:E} (h:Res fid a b) (h':Res fid b c):Res fid a c :=
 ⟨h'.shp.trans h.shp,h'.glo.trans h.glo,fun l=>by
  rcases h'.get l with h1 | h1
  ·rcases h.get l with h2 | h2
   ·exact .inl (h1.trans h2)
   ·exact .inr ⟨h2.1,h1.trans h2.2⟩
  ·exact .inr h1,fun j hj=>h.live j (h'.live j hj)⟩
theorem zfs {fid:Nat} {e e':E} {v v':AV} (h:resV fid e v=some (v',e')):Res fid e e':=by
 unfold resV at h
 split at h
 ·unfold zm2 at h
  split at h
  ·rename_i f a i
   cases hb:Nat.beq f fid with
   | false=>simp only[hb,cond_false,Option.some.injEq,Prod.mk.injEq] at h; rw[← h.2]; exact .refl _ _
   | true =>
    simp only[hb,cond_true] at h
    unfold zid at h
    split at h
    ·rename_i z es heq
     obtain⟨_,h⟩:=z00 h
     simp only[Option.some.injEq,Prod.mk.injEq] at h
     rw[← h.2]
     refine⟨z2o _ _ _,z2p _ _ _,fun l=>?_,fun j=>by simp⟩
     by_cases hl:l=.lo f a i
     ·subst hl; exact .inr ⟨z03.1 hb,E.get_set_same _ _ _ (by rw[heq]; simp)⟩
     ·exact .inl (E.get_set_ne _ _ _ _ (Ne.symm hl))
    ·cases h
  ·simp only[Option.some.injEq,Prod.mk.injEq] at h; rw[← h.2]; exact .refl _ _
 ·simp only[Option.some.injEq,Prod.mk.injEq] at h; rw[← h.2]; exact .refl _ _
theorem zin {fid:Nat} {e e':E} {s:Tm} {r:RV} {v:AV} (h:zgs fid e s r=some (v,e')):Res fid e e':=by
 cases r with
 | t p=>exact zfs h
 | c ag size p =>
  simp only[zgs,resL] at h
  split at h
  ·exact zfs h
  ·cases h
theorem zaq {fid:Nat} {s:Tm} (rs:List RV):∀ {e e':E} {vs:List AV},z12 fid s rs e=some (vs,e')→Res fid e e':=by
 induction rs with
 | nil=>intro e e' vs h; simp only[z12,Option.some.injEq,Prod.mk.injEq] at h; rw[← h.2]; exact .refl _ _
 | cons r rest ih =>
  intro e e' vs h
  simp only[z12,resB] at h
  split at h
  ·rename_i v e₁ h1
   unfold resC at h
   split at h
   ·rename_i vs' e₂ h2
    simp only[Option.some.injEq,Prod.mk.injEq] at h
    rw[← h.2]
    exact(zin h1).trans (ih h2)
   ·cases h
  ·cases h
theorem shp_pop (e:E):shp (pop e)=(shp e).tail:=by obtain⟨stk,glo,gl⟩:=e; cases stk<;>rfl
def zmb (fi:FI) (fid:Nat):FS:=⟨fid,List.replicate fi.na (0,.none,.none),[]⟩
def push (fi:FI) (fid:Nat) (e:E):E:=⟨zmb fi fid::e.stk,e.glo,e.gl⟩
theorem z98 {fi:FI} {fid:Nat} {e:E} {l:Lo} (h:¬ l.of fid):(push fi fid e).get l=e.get l:=zfr (f:=zmb fi fid) h
theorem FrOK.push {fi:FI} {fid:Nat} {e:E} (h:∀ x,Sub fid x→x∉fids e):FrOK (push fi fid e) fid 0:=by
 intro c x _ hc hx hm
 simp only[Abs.push,fids,List.map_cons,List.mem_cons,zmb] at hm
 rcases hm with rfl | hm
 ·exact Sub.child_not hx
 ·exact h x ((Sub.step .refl hc).trans hx) hm
theorem z4a {W:List Lo} {fid:Nat} {fi:FI} {e e₂ e₃:E} (hs:fid∉fids e) (hk:Keep W (push fi fid e) e₂) (hr:Res fid e₂ e₃) :
  shp (pop e₃)=shp e∧e.glo.length≤(pop e₃).glo.length∧∀ l∈W,e.get l≠.none→(pop e₃).get l=e.get l:=by
 have hf:fids e₃=fid::fids e:=by rw[z1q hr.shp,hk.fids]; rfl
 refine⟨?_,?_,fun l hl hn=>?_⟩
 ·rw[shp_pop,hr.shp,hk.rest]; rfl
 ·have h1:=hk.glo
  have h2:=hr.glo
  simp only[push] at h1
  show e.glo.length≤e₃.glo.length
  omega
 ·have hlf:¬ l.of fid:=by
   intro h
   cases l with
   | gl i=>exact h
   | lo g a i=>simp only[Lo.of] at h; subst h; exact hn (z8m hs)
  rw[zim hf hlf]
  have h1:(push fi fid e).get l=e.get l:=z98 hlf
  have h2:=hk.w l hl (by rw[h1]; exact hn)
  rcases hr.get l with h3 | h3
  ·rw[h3,h2,h1]
  ·exact absurd h3.1 hlf
theorem z99 {W:List Lo} {fid:Nat} {fi:FI} {e:E} {v:AV} {e':E} (hs:fid∉fids e) (s:Tm) (e₂:E) (hk:Keep W (push fi fid e) e₂) (h:finR (z12 fid s fi.res e₂)=.ret v e'∨finR (z12 fid s fi.res e₂)=.pan v e') :
  shp e'=shp e∧e.glo.length≤e'.glo.length∧∀ l∈W,e.get l≠.none→e'.get l=e.get l:=by
 cases hra:z12 fid s fi.res e₂ with
 | none=>simp[hra,finR] at h
 | some x =>
  obtain⟨vs,e₃⟩:=x
  simp only[hra,finR,CR.ret.injEq,reduceCtorEq,or_false] at h
  rw[← h.2]
  have hu:=Up.upAll vs e₃
  have h1:=zaq _ hra
  exact z4a hs hk (h1.trans ⟨hu.shp,by rw[hu.glo],fun l=>.inl (hu.get l),hu.live⟩)
theorem zgv {W:List Lo} {fid:Nat} {fi:FI} {e:E} {fr:Fr} {r:R} {v:AV} {e':E} (hs:fid∉fids e) (hr:z49 W fr (push fi fid e) r)
  (h:z2m fi fid r=.ret v e'∨z2m fi fid r=.pan v e'):shp e'=shp e∧e.glo.length≤e'.glo.length∧∀ l∈W,e.get l≠.none→e'.get l=e.get l:=by
 have fin:∀ (fr':Fr) (e₂:E),Keep W (push fi fid e) e₂→(finR (z12 fid fr'.s fi.res e₂)=.ret v e'∨finR (z12 fid fr'.s fi.res e₂)=.pan v e') →
   shp e'=shp e∧e.glo.length≤e'.glo.length∧∀ l∈W,e.get l≠.none→e'.get l=e.get l:=fun fr' e₂ hk h=>z99 hs fr'.s e₂ hk h
 cases r with
 | bad=>simp[z2m] at h
 | exit id fr' e₂=>simp[z2m] at h
 | go fr' e₂=>exact fin fr' e₂ hr.1 h
 | ret fr' e₂=>exact fin fr' e₂ hr.1 h
 | pan u fr' e₂ =>
  simp only[z2m,reduceCtorEq,false_or,CR.pan.injEq] at h
  rw[← h.2]
  exact z4a hs hr.1 (.refl _ _)
def z0d (I:FuncId→Option z07):Prop :=
 ∀ f g args W fid e v e',I f=some g→g args W fid e=some (v,e')→(∀ x,Sub fid x→x∉fids e) →
  shp e'=shp e∧e.glo.length≤e'.glo.length∧∀ l∈W,e.get l≠.none→e'.get l=e.get l
theorem zeo (call:z06) (fuel:Nat) (fi:FI) (args:List AV) (W:List Lo) (fid:Nat) (e:E) :
  body call fuel fi args W fid e=z31 call fuel fi W fid fi.df (run call fuel fid W fi.code ⟨params args 0 .nil,0⟩ (push fi fid e)):=by
 obtain⟨stk,glo,gl⟩:=e; rfl
def dfi (d:DF):FI:={ code:=d.code,na:=d.na,res:=[] }
theorem zd6 (call:z06) (fuel:Nat) (fi:FI) (d:DF) (W:List Lo) (fid:Nat) (s:Tm) (caps:List AV) (v:AV) (cnt:Nat) (e:E) :
  z1t call fuel fi d W fid s caps v cnt e=cond (room cnt) (z1j fi fid s (run call fuel (child fid cnt) W d.code ⟨z26 d.rc v (params caps 0 .nil),0⟩ (push (dfi d) (child fid cnt) e))) .bad:=by
 obtain⟨stk,glo,gl⟩:=e; rfl
theorem zgw {call:z06} (hc:z0n call) {fuel:Nat} {W:List Lo} {fid:Nat} {fi:FI} {o:Option DF} {e:E} {fr:Fr} {r:R} {v:AV} {e':E} (hs:∀ x,Sub fid x→x∉fids e) (hr:z49 W fr (push fi fid e) r)
  (h:z31 call fuel fi W fid o r=.ret v e'∨z31 call fuel fi W fid o r=.pan v e'):shp e'=shp e∧e.glo.length≤e'.glo.length∧∀ l∈W,e.get l≠.none→e'.get l=e.get l:=by
 cases o with
 | none=>exact zgv (hs fid .refl) hr h
 | some d =>
  simp only[z31] at h
  have hs0:=hs fid .refl
  cases r with
  | bad=>simp[z45] at h
  | exit id fr' e₂=>simp[z45] at h
  | ret fr' e₂=>exact z99 hs0 fr'.s e₂ hr.1 h
  | pan u fr' e₂ =>
   simp only[z45,reduceCtorEq,false_or,CR.pan.injEq] at h
   rw[← h.2]
   exact z4a hs0 hr.1 (.refl _ _)
  | go fr₁ e₁ =>
   obtain⟨s,cnt⟩:=fr₁
   simp only[z45,bodyS] at h
   have hf0:FrOK (push fi fid e) fid 0:=.push hs
   have hf1:FrOK e₁ fid cnt:=hf0.keep hr.1 (Nat.zero_le _)
   have hp:=run_pure hc (W:=W) (fid:=fid) (fuel:=fuel) d.post ⟨s.set d.t (.fn d.g [] (evs s d.caps)),cnt⟩ e₁ hf1
   revert h hp
   generalize run call fuel fid W d.post ⟨s.set d.t (.fn d.g [] (evs s d.caps)),cnt⟩ e₁=r₂
   intro h hp
   have dfr:∀ (u:AV) (cnt₂:Nat) (e₂:E),Keep W e₁ e₂→cnt≤cnt₂→(z1t call fuel fi d W fid s (evs s d.caps) u cnt₂ e₂=.ret v e'∨z1t call fuel fi d W fid s (evs s d.caps) u cnt₂ e₂=.pan v e') →
     shp e'=shp e∧e.glo.length≤e'.glo.length∧∀ l∈W,e.get l≠.none→e'.get l=e.get l:=by
    intro u cnt₂ e₂ hk hcnt h
    rw[zd6] at h
    cases hroom:room cnt₂ with
    | false=>simp[hroom] at h
    | true =>
     simp only[hroom,cond_true] at h
     have hf2:FrOK e₂ fid cnt₂:=hf1.keep hk hcnt
     have hsub:∀ x,Sub (child fid cnt₂) x→x∉fids e₂:=fun x hx=>hf2 cnt₂ x (Nat.le_refl _) (z1k.1 hroom) hx
     have hq:=run_pure hc (W:=W) (fid:=child fid cnt₂) (fuel:=fuel) d.code ⟨z26 d.rc u (params (evs s d.caps) 0 .nil),0⟩ (push (dfi d) (child fid cnt₂) e₂) (.push hsub)
     revert h hq
     generalize run call fuel (child fid cnt₂) W d.code ⟨z26 d.rc u (params (evs s d.caps) 0 .nil),0⟩ (push (dfi d) (child fid cnt₂) e₂)=r₃
     intro h hq
     have fin:∀ e₃,Keep W (push (dfi d) (child fid cnt₂) e₂) e₃→(finR (z12 fid s fi.res (pop e₃))=.ret v e'∨finR (z12 fid s fi.res (pop e₃))=.pan v e') →
       shp e'=shp e∧e.glo.length≤e'.glo.length∧∀ l∈W,e.get l≠.none→e'.get l=e.get l:=fun e₃ hk3 h =>
      z99 hs0 s (pop e₃) ((hr.1.trans hk).trans (.of_call (z4a (hsub _ .refl) hk3 (.refl _ _)))) h
     cases r₃ with
     | go fr₃ e₃=>exact fin e₃ hq.1 h
     | ret fr₃ e₃=>exact fin e₃ hq.1 h
     | bad=>simp[z1j] at h
     | exit id fr₃ e₃=>simp[z1j] at h
     | pan u' fr₃ e₃=>simp[z1j] at h
   cases r₂ with
   | bad=>simp[z3x] at h
   | exit id fr₂ e₂=>simp[z3x] at h
   | go fr₂ e₂=>exact dfr .nili fr₂.cnt e₂ hp.1 hp.2 h
   | ret fr₂ e₂=>exact dfr .nili fr₂.cnt e₂ hp.1 hp.2 h
   | pan u fr₂ e₂=>exact dfr u fr₂.cnt e₂ hp.1 hp.2 h
theorem z4b {P:FuncId→Option FI} {I:FuncId→Option z07} (hI:z0d I):∀ n,z0n (z09 P I n)
 | 0=>fun f args W fid e v e' h=>by simp[z09] at h
 | n+1=>fun f args W fid e v e' h hs=>by
  have hb:(z2j (z09 P I n) n args W fid e (P f)=.ret v e'∨z2j (z09 P I n) n args W fid e (P f)=.pan v e')→shp e'=shp e∧e.glo.length≤e'.glo.length∧∀ l∈W,e.get l≠.none→e'.get l=e.get l:=by
   intro h
   simp only[z2j] at h
   split at h
   ·rename_i fi hfi
    rw[zeo] at h
    exact zgw (z4b hI n) hs (run_pure (z4b hI n) fi.code _ _ (.push hs)) h
   ·simp at h
  simp only[z09,z1u] at h
  split at h
  ·rename_i g hg
   cases hr:g args W fid e with
   | none=>rw[hr] at h; exact hb h
   | some x =>
    obtain⟨u,e₁⟩:=x
    simp only[hr,intrR,CR.ret.injEq,reduceCtorEq,or_false] at h
    rw[← h.2]
    exact hI f g args W fid e u e₁ hg hr hs
  ·exact hb h
end Go.Abs
namespace Go.Abs
open Go Go.RowKit
variable [Glob]
def z6t (e:E) (a:Nat):Option Nat:=match shp e with | (_,l)::_=>l[a]? | []=>none
structure Free (κ:K) (fid:Nat):Prop where
 names:∀ x,Sub fid x→∀ a i,z0a κ (.lo x a i)
 tks:∀ x,Sub fid x→∀ d,d < cap→κ.tk (z0k x d)=none
structure Ent (κ:K) (e:E) (fid:Nat):Prop where
 free:Free κ fid
 out:∀ x,Sub fid x→x∉fids e
 glo:∀ i,e.glo.length≤i→z0a κ (.gl i)
structure In (κ:K) (e:E) (fid cnt:Nat):Prop where
 top:∃ rest,fids e=fid::rest∧fid∉rest
 fut:FrOK e fid cnt
 free:∀ c,cnt≤c→c < cap→Free κ (child fid c)
 own:∀ c,cnt≤c→c < cap→κ.tk (z0k fid c)=none
 objs:∀ a i,z6t e a=some i→∀ j,i < j→z0a κ (.lo fid a j)
 glo:∀ i,e.glo.length≤i→z0a κ (.gl i)
theorem In.weaken {κ:K} {e:E} {fid cnt cnt':Nat} (h:In κ e fid cnt) (hc:cnt≤cnt'):In κ e fid cnt' :=
 ⟨h.top,fun c x h1 h2 h3=>h.fut c x (by omega) h2 h3,fun c h1 h2=>h.free c (by omega) h2,fun c h1 h2=>h.own c (by omega) h2,h.objs,h.glo⟩
structure Gr (W:List Lo) (e:E) (κ κ':K) (fid n:Nat):Prop where
 nm:∀ l,z0a κ l→z0a κ' l∨((l∈W→e.get l=.none)∧((∃ x a i,l=.lo x a i∧Sub fid x)∨∃ i,l=.gl i∧i < n))
 tk:∀ k,κ.tk k=none→κ'.tk k=none∨∃ x d,Sub fid x∧d < cap∧k=z0k x d
theorem Gr.refl (W:List Lo) (e:E) (κ:K) (fid n:Nat):Gr W e κ κ fid n:=⟨fun _ h=>.inl h,fun _ h=>.inl h⟩
theorem Gr.trans {W:List Lo} {e e':E} {a b c:K} {fid n m:Nat} (h:Gr W e a b fid n) (h':Gr W e' b c fid m) (hk:Keep W e e') (hnm:n≤m):Gr W e a c fid m :=
 ⟨fun l hl=>by
  rcases h.nm l hl with h1 | ⟨h0,h1 | ⟨i,h1,h2⟩⟩
  ·rcases h'.nm l h1 with h2 | ⟨h2,h3⟩
   ·exact .inl h2
   ·refine .inr ⟨fun hw=>?_,h3⟩
    cases hg:e.get l with
    | none=>rfl
    | _=>rw[hk.w l hw (by rw[hg]; simp),hg] at h2; cases h2 hw
  ·exact .inr ⟨h0,.inl h1⟩
  ·exact .inr ⟨h0,.inr ⟨i,h1,by omega⟩⟩,
  fun k hk=>by
   rcases h.tk k hk with h1 | h1
   ·exact h'.tk k h1
   ·exact .inr h1⟩
theorem Gr.mono {W W':List Lo} {e:E} {κ κ':K} {f n:Nat} (h:Gr W e κ κ' f n) (hs:∀ l∈W',l∈W):Gr W' e κ κ' f n :=
 ⟨fun l hl=>(h.nm l hl).imp id fun h=>⟨fun hw=>h.1 (hs l hw),h.2⟩,h.tk⟩
theorem Gr.kept {W:List Lo} {e:E} {κ κ':K} {f n:Nat} (h:Gr W e κ κ' f n) {l:Lo} (hw:l∈W) (he:e.get l≠.none) (hl:z0a κ l):z0a κ' l:=by
 rcases h.nm l hl with h1 | ⟨h1,_⟩
 ·exact h1
 ·exact absurd (h1 hw) he
theorem Gr.up {W:List Lo} {e:E} {κ κ':K} {f g n:Nat} (h:Gr W e κ κ' g n) (hs:Sub f g):Gr W e κ κ' f n :=
 ⟨fun l hl=>by
  rcases h.nm l hl with h1 | ⟨h0,⟨x,a,i,h1,h2⟩ | h1⟩
  ·exact .inl h1
  ·exact .inr ⟨h0,.inl ⟨x,a,i,h1,hs.trans h2⟩⟩
  ·exact .inr ⟨h0,.inr h1⟩,
  fun k hk=>by
   rcases h.tk k hk with h1 | ⟨x,d,h1,h2⟩
   ·exact .inl h1
   ·exact .inr ⟨x,d,hs.trans h1,h2⟩⟩
structure Same (κ κ':K):Prop where
 ob:κ'.ob=κ.ob
 vb:κ'.vb=κ.vb
 bs:κ'.bs=κ.bs
 tk:κ'.tk=κ.tk
theorem Same.refl (κ:K):Same κ κ:=⟨rfl,rfl,rfl,rfl⟩
theorem Same.trans {a b c:K} (h:Same a b) (h':Same b c):Same a c:=⟨h'.ob.trans h.ob,h'.vb.trans h.vb,h'.bs.trans h.bs,h'.tk.trans h.tk⟩
theorem Same.name {κ κ':K} (h:Same κ κ') {l:Lo} (hl:z0a κ l):z0a κ' l:=by
 obtain⟨h1,h2,h3⟩:=hl
 exact⟨by rw[h.ob]; exact h1,by rw[h.vb]; exact h2,by rw[h.bs]; exact h3⟩
theorem Same.gr {W:List Lo} {e:E} {κ κ':K} (h:Same κ κ') (fid n:Nat):Gr W e κ κ' fid n:=⟨fun _ hl=>.inl (h.name hl),fun k hk=>.inl (by rw[h.tk]; exact hk)⟩
theorem Free.same {κ κ':K} {fid:Nat} (h:Free κ fid) (hs:Same κ κ'):Free κ' fid :=
 ⟨fun x hx a i=>hs.name (h.names x hx a i),fun x hx d hd=>by rw[hs.tk]; exact h.tks x hx d hd⟩
theorem In.same {κ κ':K} {e e':E} {fid cnt cnt':Nat} (h:In κ e fid cnt) (hs:Same κ κ') (hsh:shp e'=shp e) (hg:e'.glo.length=e.glo.length) (hc:cnt≤cnt'):In κ' e' fid cnt' where
 top:=by rw[z1q hsh]; exact h.top
 fut:=fun c x h1 h2 h3=>by rw[z1q hsh]; exact h.fut c x (by omega) h2 h3
 free:=fun c h1 h2=>(h.free c (by omega) h2).same hs
 own:=fun c h1 h2=>by rw[hs.tk]; exact h.own c (by omega) h2
 objs:=fun a i hi j hj=>hs.name (h.objs a i (by simpa [z6t,hsh] using hi) j hj)
 glo:=fun i hi=>hs.name (h.glo i (by omega))
theorem Free.gr {W:List Lo} {e:E} {κ κ':K} {f g n:Nat} (h:Free κ f) (hg:Gr W e κ κ' g n) (hd:∀ x,Sub f x→¬ Sub g x):Free κ' f where
 names:=fun x hx a i=>by
  rcases hg.nm _ (h.names x hx a i) with h1 | ⟨_,⟨x',a',i',h1,h2⟩ | ⟨i',h1,_⟩⟩
  ·exact h1
  ·cases h1; exact absurd h2 (hd _ hx)
  ·cases h1
 tks:=fun x hx d hdc=>by
  rcases hg.tk _ (h.tks x hx d hdc) with h1 | ⟨x',d',h1,h2,h3⟩
  ·exact h1
  ·obtain⟨rfl,rfl⟩:=z47 hdc h2 h3; exact absurd h1 (hd _ hx)
theorem In.ent {κ:K} {e:E} {fid cnt:Nat} (h:In κ e fid cnt) (hc:cnt < cap):Ent κ e (child fid cnt) :=
 ⟨h.free cnt (Nat.le_refl _) hc,fun x hx=>h.fut cnt x (Nat.le_refl _) hc hx,h.glo⟩
theorem In.called {W:List Lo} {κ κ':K} {e₀ e e':E} {fid cnt:Nat} (h:In κ e fid cnt) (hc:cnt < cap) (hg:Gr W e₀ κ κ' (child fid cnt) e'.glo.length) (hs:shp e'=shp e) (hle:e.glo.length≤e'.glo.length):In κ' e' fid (cnt+1) where
 top:=by rw[z1q hs]; exact h.top
 fut:=fun c x h1 h2 h3=>by rw[z1q hs]; exact h.fut c x (by omega) h2 h3
 free:=fun c h1 h2=>(h.free c (by omega) h2).gr hg fun x hx hx'=>by
  have:=Sub.child_eq h2 hc hx hx'
  omega
 own:=fun c h1 h2=>by
  rcases hg.tk _ (h.own c (by omega) h2) with h3 | ⟨x,d,h3,h4,h5⟩
  ·exact h3
  ·obtain⟨rfl,rfl⟩:=z47 h2 h4 h5
   exact absurd h3 Sub.child_not
 objs:=fun a i hi j hj=>by
  rcases hg.nm _ (h.objs a i (by simpa [z6t,hs] using hi) j hj) with h1 | ⟨_,⟨x,a',i',h1,h2⟩ | ⟨i',h1,_⟩⟩
  ·exact h1
  ·cases h1; exact absurd h2 Sub.child_not
  ·cases h1
 glo:=fun i hi=>by
  rcases hg.nm _ (h.glo i (by omega)) with h1 | ⟨_,⟨x,a',i',h1,h2⟩ | ⟨i',h1,h2⟩⟩
  ·exact h1
  ·cases h1
  ·cases h1; omega
theorem Ent.push {κ:K} {e:E} {fid:Nat} (h:Ent κ e fid) (fi:FI):In κ (Abs.push fi fid e) fid 0 where
 top:=⟨fids e,rfl,h.out fid .refl⟩
 fut:=.push h.out
 free:=fun c _ hc=>⟨fun x hx=>h.free.names x ((Sub.step .refl hc).trans hx),fun x hx=>h.free.tks x ((Sub.step .refl hc).trans hx)⟩
 own:=fun c _ hc=>h.free.tks fid .refl c hc
 objs:=fun a i _ j _=>h.free.names fid .refl a j
 glo:=h.glo
theorem St.push {κ:K} {e:E} {fid B:Nat} {w₀ w:World} (h:St κ e B w₀ w) (he:Ent κ e fid) (fi:FI):St κ (Abs.push fi fid e) B w₀ w:=by
 refine h.env (fun k hk=>.inl ?_) fun l=>?_
 ·rw[E.live_iff] at hk ⊢
  simpa [Abs.push,zmb] using hk
 ·by_cases hl:l.of fid
  ·cases l with
   | gl i=>exact hl.elim
   | lo g a i =>
    have:g=fid:=hl
    subst this
    exact .inr (.inr (he.free.names g .refl a i))
  ·exact .inl (z98 hl)
theorem zmc {e:E} {k:Nat} (h:(pop e).live k=true):e.live k=true:=by
 rw[E.live_iff] at h ⊢
 rcases h with⟨f,hf,hk⟩ | h
 ·exact .inl ⟨f,List.mem_of_mem_tail hf,hk⟩
 ·exact .inr h
theorem St.leave {κ:K} {e₃:E} {fid B:Nat} {rest:List Nat} {w₀ w:World} (h:St κ e₃ B w₀ w) (hf:fids e₃=fid::rest) (hn:fid∉rest):St κ (pop e₃) B w₀ w:=by
 refine h.env (fun k hk=>.inl (zmc hk)) fun l=>?_
 by_cases hl:l.of fid
 ·cases l with
  | gl i=>exact hl.elim
  | lo g a i =>
   have:g=fid:=hl
   subst this
   refine .inr (.inl (z8m ?_))
   have:fids (pop e₃)=rest:=by
    have:fids (pop e₃)=(fids e₃).tail:=by simp[fids,pop]
    rw[this,hf]; rfl
   rw[this]; exact hn
 ·exact .inl (zim hf hl)
theorem z8n {e:E} {fid:Nat} {objs:List (Nat × Ob × Ob)} {live:List Nat} {rest:List FS} (h:e.stk=⟨fid,objs,live⟩::rest) (a:Nat):z6t e a=(objs[a]?).map (·.1):=by
 simp[z6t,shp,h]
theorem In.newAt {κ κ':K} {e e':E} {fid cnt:Nat} {W:List Lo} {a:Nat} {g:Bool} {o:Ob} {l:Lo} (h:In κ e fid cnt) (hn:Abs.newAt e W a g o=some (l,e'))
  (hκ:∀ l',l'≠l→z0a κ l'→z0a κ' l') (htk:κ'.tk=κ.tk):z0a κ l∧Gr W e κ κ' fid e'.glo.length∧In κ' e' fid cnt:=by
 obtain⟨h0,h1,h2,h3,h4,h5,h6,h7⟩:=z2q hn
 obtain⟨rs,ht,htn⟩:=h.top
 have hfree:z0a κ l:=by
  rcases h7 with⟨rfl,_,_⟩ | ⟨f,objs,live,rest,i,cur,prev,hs,hob,rfl,_,_⟩
  ·exact h.glo _ (Nat.le_refl _)
  ·have:f=fid:=by simp only[fids,hs,List.map_cons,List.cons.injEq] at ht; exact ht.1
   subst this
   exact h.objs a i (by rw[z8n hs,hob]; rfl) (i+1) (Nat.lt_succ_self _)
 have hname:(∃ b i,l=.lo fid b i)∨∃ i,l=.gl i∧i < e'.glo.length:=by
  rcases h7 with⟨rfl,h8,_⟩ | ⟨f,objs,live,rest,i,cur,prev,hs,hob,rfl,_,_⟩
  ·exact .inr ⟨_,rfl,h8⟩
  ·have:f=fid:=by simp only[fids,hs,List.map_cons,List.cons.injEq] at ht; exact ht.1
   subst this
   exact .inl ⟨_,_,rfl⟩
 have hcond:∀ l',z0a κ l'→l'≠l→z0a κ' l':=fun l' a b=>hκ l' b a
 have hsub:∀ c,c < cap→∀ x,Sub (child fid c) x→∀ b i,Lo.lo x b i≠l:=by
  intro c hc x hx b i he
  rcases hname with⟨b',i',h8⟩ | ⟨i',h8,_⟩
  ·rw[h8] at he; cases he; exact Sub.child_not hx
  ·rw[h8] at he; cases he
 refine⟨hfree,⟨fun l' hl'=>?_,fun k hk=>.inl (by rw[htk]; exact hk)⟩,?_⟩
 ·by_cases hll:l'=l
  ·subst hll
   rcases hname with⟨b,i,h8⟩ | h8
   ·exact .inr ⟨fun _=>h0,.inl ⟨fid,b,i,h8,.refl⟩⟩
   ·exact .inr ⟨fun _=>h0,.inr h8⟩
  ·exact .inl (hκ l' hll hl')
 ·refine⟨by rw[h5]; exact h.top,fun c x c1 c2 c3=>by rw[h5]; exact h.fut c x c1 c2 c3,
   fun c c1 c2=>⟨fun x hx b i=>hcond _ ((h.free c c1 c2).names x hx b i) (hsub c c2 x hx b i),fun x hx d hd=>by rw[htk]; exact(h.free c c1 c2).tks x hx d hd⟩,
   fun c c1 c2=>by rw[htk]; exact h.own c c1 c2,fun b i hi j hj=>?_,fun i hi=>?_⟩
  ·rcases h7 with⟨h8,_,h9⟩ | ⟨f,objs,live,rest,i',cur,prev,hs,hob,h8,hs',_⟩
   ·exact hcond _ (h.objs b i (by simpa [z6t,h9] using hi) j hj) (by rw[h8]; simp)
   ·have:f=fid:=by simp only[fids,hs,List.map_cons,List.cons.injEq] at ht; exact ht.1
    subst this
    rw[z8n hs'] at hi
    by_cases hab:a=b
    ·subst hab
     have ha:a < objs.length:=(List.getElem?_eq_some_iff.1 hob).1
     simp[ha] at hi
     subst hi
     refine hcond _ (h.objs a i' (by rw[z8n hs,hob]; rfl) j (by omega)) ?_
     rw[h8]; simp; omega
    ·rw[List.getElem?_set_ne hab] at hi
     refine hcond _ (h.objs b i (by rw[z8n hs]; exact hi) j hj) ?_
     rw[h8]; simp; intro e; exact absurd e.symm hab
  ·refine hcond _ (h.glo i (by omega)) ?_
   rcases hname with⟨b,i',h8⟩ | ⟨i',h8,h9⟩
   ·rw[h8]; simp
   ·rw[h8]; simp; omega
theorem St.newAt {κ:K} {e e':E} {B:Nat} {w₀ w:World} {W:List Lo} {a:Nat} {g:Bool} {o:Ob} {l:Lo} (h:St κ e B w₀ w) (hn:Abs.newAt e W a g o=some (l,e')) (hl:z0a κ l):St κ e' B w₀ w:=by
 obtain⟨h0,h1,h2,h3,h4,h5,h6,h7⟩:=z2q hn
 refine h.env (fun k hk=>.inl (by rw[← h1]; exact hk)) fun l'=>?_
 by_cases hll:l'=l
 ·subst hll; exact .inr (.inr hl)
 ·rcases h3 l' hll with h8 | ⟨h8,_⟩
  ·exact .inl h8
  ·exact .inr (.inl h8)
theorem In.born {W:List Lo} {κ κ':K} {e e':E} {fid cnt:Nat} (h:In κ e fid cnt) (hc:cnt < cap) (hκ:∀ l,z0a κ l→z0a κ' l) (htk:∀ k,k≠Abs.z0k fid cnt→κ'.tk k=κ.tk k) (hs:shp e'=shp e) (hg:e'.glo.length=e.glo.length) :
  κ.tk (Abs.z0k fid cnt)=none∧Gr W e κ κ' fid e'.glo.length∧In κ' e' fid (cnt+1):=by
 refine⟨h.own cnt (Nat.le_refl _) hc,⟨fun l hl=>.inl (hκ l hl),fun k hk=>?_⟩,?_⟩
 ·by_cases hkk:k=Abs.z0k fid cnt
  ·exact .inr ⟨fid,cnt,.refl,hc,hkk⟩
  ·exact .inl (by rw[htk k hkk]; exact hk)
 ·refine⟨by rw[z1q hs]; exact h.top,fun c x h1 h2 h3=>by rw[z1q hs]; exact h.fut c x (by omega) h2 h3,fun c h1 h2=>⟨fun x hx a i=>hκ _ ((h.free c (by omega) h2).names x hx a i),fun x hx d hd=>?_⟩,
   fun c h1 h2=>?_,fun a i hi j hj=>hκ _ (h.objs a i (by simpa [z6t,hs] using hi) j hj),fun i hi=>hκ _ (h.glo i (by omega))⟩
  ·rw[htk]
   ·exact(h.free c (by omega) h2).tks x hx d hd
   ·intro e1
    obtain⟨rfl,_⟩:=z47 hd hc e1
    exact Sub.child_not hx
  ·rw[htk]
   ·exact h.own c (by omega) h2
   ·intro e1
    have:=(z47 h2 hc e1).2
    omega
end Go.Abs
