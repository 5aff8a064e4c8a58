/- On the way to: InterpLoops returns true; its listed variables read as the text lays them. -/
import Derived.Test.YthncagamgiogjaaGreatDoorB1
import Derived.Test.YthncagamgiogjaaGreatDoorB3
set_option autoImplicit false
set_option linter.unusedSectionVars false
set_option linter.unusedSimpArgs false
set_option linter.unusedVariables false
namespace Go.Abs
open Go
noncomputable section
def Ev {α:Type} (bad:α) (s:Nat→α) (r:α):Prop:=r≠bad∧∃ n,∀ m,n≤m→s m=r
theorem Ev.uniq {α:Type} {bad:α} {s:Nat→α} {r r':α} (h:Ev bad s r) (h':Ev bad s r'):r=r':=by
 obtain⟨_,n,hn⟩:=h
 obtain⟨_,m,hm⟩:=h'
 rw[← hn (max n m) (Nat.le_max_left ..),← hm (max n m) (Nat.le_max_right ..)]
open Classical in
def lim {α:Type} (bad:α) (s:Nat→α):α:=if h:∃ r,Ev bad s r then Classical.choose h else bad
theorem zb6 {α:Type} {bad:α} {s:Nat→α} {r:α} (h:Ev bad s r):lim bad s=r:=by
 unfold lim
 rw[dif_pos ⟨r,h⟩]
 exact(Classical.choose_spec ⟨r,h⟩:Ev bad s _).uniq h
theorem zg6 {α:Type} {bad:α} {s:Nat→α} (h:lim bad s≠bad):Ev bad s (lim bad s):=by
 unfold lim at h ⊢
 split
 ·next hx=>exact Classical.choose_spec hx
 ·next hx=>rw[dif_neg hx] at h; exact absurd rfl h
variable (P:FuncId→Option FI) (I:FuncId→Option z07)
def cal:z06:=fun f args W fid e=>lim .bad fun n=>z09 P I n f args W fid e
theorem z6x {f:Fr→E→R}:∀ {n m:Nat} {fr:Fr} {e:E},iter f n fr e≠.bad→n≤m→iter f m fr e=iter f n fr e
 | 0,_,_,_,h,_=>absurd rfl h
 | n+1,m+1,fr,e,h,hm=>by
  show R.bind (iter f m) (f fr e)=R.bind (iter f n) (f fr e)
  have h:R.bind (iter f n) (f fr e)≠.bad:=h
  cases hf:f fr e with
  | go fr' e' =>
   rw[hf] at h
   exact z6x (f:=f) h (by omega)
  | _=>rfl
def lp (f:Fr→E→R) (fr:Fr) (e:E):R:=lim .bad fun n=>iter f n fr e
theorem zn1 {f:Fr→E→R} {n:Nat} {fr:Fr} {e:E} {r:R} (h:iter f n fr e=r) (hr:r≠.bad):lp f fr e=r :=
 zb6 ⟨hr,n,fun m hm=>by show iter f m fr e=r; rw[z6x (by rw[h]; exact hr) hm,h]⟩
theorem z3c (f:Fr→E→R) (fr:Fr) (e:E):lp f fr e=R.bind (lp f) (f fr e):=by
 by_cases hb:R.bind (lp f) (f fr e)=.bad
 ·rw[hb]
  apply Classical.byContradiction
  intro h
  obtain⟨h1,n,hn⟩:=zg6 h
  have h2:=hn (n+1) (by omega)
  change R.bind (iter f n) (f fr e)=lp f fr e at h2
  cases hf:f fr e with
  | go fr' e' =>
   rw[hf] at h2 hb
   change iter f n fr' e'=_ at h2
   change lp f fr' e'=_ at hb
   rw[zn1 (n:=n) h2 h1] at hb
   exact h1 hb
  | bad=>rw[hf] at h2; exact h1 h2.symm
  | exit id fr' e'=>rw[hf] at hb; cases hb
  | ret fr' e'=>rw[hf] at hb; cases hb
  | pan v fr' e'=>rw[hf] at hb; cases hb
 ·cases hf:f fr e with
  | go fr' e' =>
   rw[hf] at hb
   change lp f fr' e'≠.bad at hb
   obtain⟨h1,n,hn⟩:=zg6 hb
   refine zn1 (n:=n+1) ?_ hb
   change R.bind (iter f n) (f fr e)=_
   rw[hf]
   exact hn n (Nat.le_refl n)
  | bad=>rw[hf] at hb; exact absurd rfl hb
  | _=>exact zn1 (n:=1) (by change R.bind _ (f fr e)=_; rw[hf]; rfl) (by simp[R.bind])
def runW (call:z06) (fid:Nat) (W:List Lo) (c:AC):Fr→E→R :=
 AC.rec (motive:=fun _=>Fr→E→R)
  (fun fr e=>.go fr e)
  (fun ops fr e=>z0j call fid W ops fr e)
  (fun _ _ ra rb fr e=>R.bind rb (ra fr e))
  (fun c _ _ ra rb fr e=>z3w ra rb fr e (c.ev fr.s))
  (fun id _ rc fr e=>R.leave id (rc fr e))
  (fun _ rc fr e=>lp rc fr e)
  (fun id fr e=>.exit id fr e)
  (fun fr e=>.ret fr e) c
section
variable (call:z06) (fid:Nat) (W:List Lo)
theorem zjk (fr:Fr) (e:E):runW call fid W .skip fr e=.go fr e:=rfl
theorem zn2 (l:List AO) (fr:Fr) (e:E):runW call fid W (.reg l) fr e=z0j call fid W l fr e:=rfl
theorem zn3 (a b:AC) (fr:Fr) (e:E):runW call fid W (.seq a b) fr e=R.bind (runW call fid W b) (runW call fid W a fr e):=rfl
theorem zjl (c:AX) (a b:AC) (fr:Fr) (e:E):runW call fid W (.cond c a b) fr e=z3w (runW call fid W a) (runW call fid W b) fr e (c.ev fr.s):=rfl
theorem zn4 (i:Nat) (c:AC) (fr:Fr) (e:E):runW call fid W (.blk i c) fr e=R.leave i (runW call fid W c fr e):=rfl
theorem zjm (c:AC) (fr:Fr) (e:E):runW call fid W (.loop c) fr e=lp (runW call fid W c) fr e:=rfl
theorem zjn (i:Nat) (fr:Fr) (e:E):runW call fid W (.exit i) fr e=.exit i fr e:=rfl
theorem zn5 (fr:Fr) (e:E):runW call fid W .ret fr e=.ret fr e:=rfl
end
def bodyW (call:z06) (fi:FI) (args:List AV) (W:List Lo) (fid:Nat):E→CR
 | ⟨stk,glo,gl⟩=>z2m fi fid (runW call fid W fi.code ⟨params args 0 .nil,0⟩ ⟨⟨fid,List.replicate fi.na (0,.none,.none),[]⟩::stk,glo,gl⟩)
variable {P I}
theorem z6k {f:FuncId} {args:List AV} {W:List Lo} {fid:Nat} {e:E} {r:CR} (h:cal P I f args W fid e=r) (hr:r≠.bad):∃ n,∀ m,n≤m→z09 P I m f args W fid e=r:=by
 subst h
 exact(zg6 hr).2
theorem zds {f:FuncId} {args:List AV} {W:List Lo} {fid:Nat} {e:E} {d:Option Pth} {fr:Fr} {r:R} (h:after d fr (cal P I f args W fid e)=r) (hr:r≠.bad) :
  ∃ n,∀ m,n≤m→after d fr (z09 P I m f args W fid e)=r:=by
 cases hc:cal P I f args W fid e with
 | bad=>rw[hc] at h; exact absurd h.symm hr
 | ret v e' =>
  obtain⟨n,hn⟩:=z6k hc (by simp)
  exact⟨n,fun m hm=>by rw[hn m hm,← hc,h]⟩
 | pan v e' =>
  obtain⟨n,hn⟩:=z6k hc (by simp)
  exact⟨n,fun m hm=>by rw[hn m hm,← hc,h]⟩
theorem zg7 {b:Bool} {x:R} {s:Nat→R} {r:R} (h:cond b x .bad=r) (hr:r≠.bad) (hx:x=r→∃ n,∀ m,n≤m→s m=r):∃ n,∀ m,n≤m→cond b (s m) .bad=r:=by
 cases b with
 | true=>exact hx h
 | false=>exact absurd h.symm hr
theorem EO.fin (o:EO) {W:List Lo} {d:Option Pth} {fr:Fr} {e:E} {fid:Nat} {r:R} (h:o.ev (cal P I) fid W d fr e=r) (hr:r≠.bad):∃ n,∀ m,n≤m→o.ev (z09 P I m) fid W d fr e=r:=by
 cases o with
 | call f args=>exact zg7 h hr fun h=>zds h hr
 | callv f args =>
  change z30 (evs fr.s args) (cal P I) fid W d fr e (f.ev fr.s)=r at h
  show ∃ n,∀ m,n≤m→z30 (evs fr.s args) (z09 P I m) fid W d fr e (f.ev fr.s)=r
  cases hf:f.ev fr.s with
  | fn g a b=>rw[hf] at h; exact zg7 h hr fun h=>zds h hr
  | _=>rw[hf] at h; exact absurd h.symm hr
 | _=>exact⟨0,fun m _=>h⟩
theorem chk_fin {s:Tm} {e:E} {ws:List WX} {x r:R} {t:Nat→R} (h:chkR s e ws x=r) (hr:r≠.bad) (hx:x≠.bad→∃ n,∀ m,n≤m→t m=x):∃ n,∀ m,n≤m→chkR s e ws (t m)=r:=by
 have:x≠.bad:=by intro h'; rw[h'] at h; exact hr h.symm
 obtain⟨n,hn⟩:=hx this
 exact⟨n,fun m hm=>by rw[hn m hm,h]⟩
theorem OP.fin (o:OP) {W:List Lo} {d:Option Pth} {fr:Fr} {e:E} {fid:Nat} {r:R} (h:o.ev (cal P I) fid W d fr e=r) (hr:r≠.bad):∃ n,∀ m,n≤m→o.ev (z09 P I m) fid W d fr e=r:=by
 cases o with
 | p o=>exact⟨0,fun m _=>h⟩
 | r o=>exact⟨0,fun m _=>h⟩
 | e o ws=>exact chk_fin h hr fun hx=>EO.fin o rfl hx
theorem AO.fin (o:AO) {W:List Lo} {fr:Fr} {e:E} {fid:Nat} {r:R} (h:o.ev (cal P I) fid W fr e=r) (hr:r≠.bad):∃ n,∀ m,n≤m→o.ev (z09 P I m) fid W fr e=r:=by
 obtain⟨d,g,o⟩:=o
 cases g with
 | none=>exact OP.fin o h hr
 | some g =>
  obtain⟨t,want⟩:=g
  change z1n want d fr e (o.ev (cal P I) fid W d fr e) (fr.s.get t)=r at h
  show ∃ n,∀ m,n≤m→z1n want d fr e (o.ev (z09 P I m) fid W d fr e) (fr.s.get t)=r
  cases ht:fr.s.get t with
  | bool b =>
   rw[ht] at h
   simp only[z1n] at h ⊢
   cases hb:b==want with
   | true=>rw[hb] at h; exact OP.fin o h hr
   | false=>rw[hb] at h; exact⟨0,fun _ _=>h⟩
  | undef=>rw[ht] at h; exact⟨0,fun _ _=>h⟩
  | _=>rw[ht] at h; exact absurd h.symm hr
theorem zcc {k:Fr→E→R} {x r:R} {s:Nat→R} {t:Nat→Fr→E→R} (h:R.bind k x=r) (hr:r≠.bad) (hx:x≠.bad→∃ n,∀ m,n≤m→s m=x)
  (hk:∀ fr e,k fr e=r→∃ n,∀ m,n≤m→t m fr e=r):∃ n,∀ m,n≤m→R.bind (t m) (s m)=r:=by
 have hxb:x≠.bad:=by intro h'; rw[h'] at h; exact hr h.symm
 obtain⟨n,hn⟩:=hx hxb
 cases hxx:x with
 | go fr e =>
  rw[hxx] at h hn
  obtain⟨n',hn'⟩:=hk fr e h
  exact⟨max n n',fun m hm=>by rw[hn m (by omega)]; exact hn' m (by omega)⟩
 | bad=>exact absurd hxx hxb
 | _=>rw[hxx] at h hn; exact⟨n,fun m hm=>by rw[hn m hm]; exact h⟩
theorem zb7 {fid:Nat} {W:List Lo}:∀ (l:List AO) {fr:Fr} {e:E} {r:R},z0j (cal P I) fid W l fr e=r→r≠.bad→∃ n,∀ m,n≤m→z0j (z09 P I m) fid W l fr e=r
 | [],fr,e,r,h,_=>⟨0,fun _ _=>h⟩
 | o::l,fr,e,r,h,hr=>zcc (t:=fun m=>z0j (z09 P I m) fid W l) h hr (fun hx=>AO.fin o rfl hx) fun fr e h=>zb7 l h hr
theorem z9v {fid:Nat} {W:List Lo}:∀ (c:AC) {fr:Fr} {e:E} {r:R},runW (cal P I) fid W c fr e=r→r≠.bad→∃ n,∀ m,n≤m→run (z09 P I m) m fid W c fr e=r:=by
 intro c
 induction c with
 | skip=>intro fr e r h _; exact⟨0,fun _ _=>h⟩
 | reg l=>intro fr e r h hr; exact zb7 l h hr
 | seq a b iha ihb=>intro fr e r h hr; exact zcc (t:=fun m=>run (z09 P I m) m fid W b) h hr (fun hx=>iha rfl hx) fun fr e h=>ihb h hr
 | cond c a b iha ihb =>
  intro fr e r h hr
  change z3w (runW (cal P I) fid W a) (runW (cal P I) fid W b) fr e (c.ev fr.s)=r at h
  show ∃ n,∀ m,n≤m→z3w (run (z09 P I m) m fid W a) (run (z09 P I m) m fid W b) fr e (c.ev fr.s)=r
  cases hc:c.ev fr.s with
  | bool t =>
   rw[hc] at h
   cases t with
   | true=>exact iha h hr
   | false=>exact ihb h hr
  | _=>rw[hc] at h; exact absurd h.symm hr
 | blk id c ih =>
  intro fr e r h hr
  have hx:runW (cal P I) fid W c fr e≠.bad:=by intro h'; change R.leave id (runW (cal P I) fid W c fr e)=r at h; rw[h'] at h; exact hr h.symm
  obtain⟨n,hn⟩:=ih rfl hx
  exact⟨n,fun m hm=>by show R.leave id (run _ m fid W c fr e)=r; rw[hn m hm]; exact h⟩
 | loop c ih =>
  intro fr e r h hr
  change lp (runW (cal P I) fid W c) fr e=r at h
  obtain⟨_,n,hn⟩:=zg6 (s:=fun n=>iter (runW (cal P I) fid W c) n fr e) (bad:=.bad) (by change lp _ _ _≠_; rw[h]; exact hr)
  have h1:iter (runW (cal P I) fid W c) n fr e=r:=(hn n (Nat.le_refl n)).trans h
  have key:∀ (n:Nat) (fr:Fr) (e:E),iter (runW (cal P I) fid W c) n fr e=r→∃ N,∀ m,N≤m→iter (run (z09 P I m) m fid W c) n fr e=r:=by
   intro n
   induction n with
   | zero=>intro fr e h; exact absurd h.symm hr
   | succ n ihn =>
    intro fr e h
    exact zcc (t:=fun m=>iter (run (z09 P I m) m fid W c) n) h hr (fun hx=>ih rfl hx) fun fr e h=>ihn fr e h
  obtain⟨N,hN⟩:=key n fr e h1
  refine⟨max n N,fun m hm=>?_⟩
  show iter (run (z09 P I m) m fid W c) m fr e=r
  have h2:=hN m (by omega)
  rw[z6x (by rw[h2]; exact hr) (by omega),h2]
 | exit id=>intro fr e r h _; exact⟨0,fun _ _=>h⟩
 | ret=>intro fr e r h _; exact⟨0,fun _ _=>h⟩
theorem zjo {fi:FI} {fid:Nat} {r:CR} {x:R} (h:z2m fi fid x=r) (hr:r≠.bad):x≠.bad:=by
 intro h'; rw[h'] at h; exact hr h.symm
theorem z2c {f:FuncId} {fi:FI} {args:List AV} {W:List Lo} {fid:Nat} {e:E} {r:CR} (hI:I f=none) (hP:P f=some fi) (hdf:fi.df=none) (hr:r≠.bad) (h:bodyW (cal P I) fi args W fid e=r):cal P I f args W fid e=r:=by
 obtain⟨stk,glo,gl⟩:=e
 obtain⟨n,hn⟩:=z9v (P:=P) (I:=I) fi.code rfl (zjo h hr)
 refine zb6 ⟨hr,n+1,fun m hm=>?_⟩
 obtain⟨m,rfl⟩:∃ k,m=k+1:=⟨m - 1,by omega⟩
 show z1u (z09 P I m) m P f args W fid _ (I f)=r
 rw[hI]
 show z2j (z09 P I m) m args W fid _ (P f)=r
 rw[hP]
 show z31 (z09 P I m) m fi W fid fi.df _=r
 rw[hdf]
 show z2m fi fid _=r
 rw[hn m (by omega)]
 exact h
theorem z3z {f:FuncId} {g:z07} {args:List AV} {W:List Lo} {fid:Nat} {e:E} {v:AV} {e':E} (hI:I f=some g) (h:g args W fid e=some (v,e')):cal P I f args W fid e=.ret v e':=by
 refine zb6 ⟨by simp,1,fun m hm=>?_⟩
 obtain⟨m,rfl⟩:∃ k,m=k+1:=⟨m - 1,by omega⟩
 show z1u (z09 P I m) m P f args W fid _ (I f)=_
 rw[hI]
 show intrR _ (g args W fid e)=_
 rw[h]; rfl
end
end Go.Abs
namespace Go.Abs
open Go
noncomputable section
def CLe (c c':z06):Prop:=∀ f args W fid e,c f args W fid e≠.bad→c' f args W fid e=c f args W fid e
theorem zb8 {c c':z06} (h:CLe c c') {f:FuncId} {args:List AV} {W:List Lo} {fid:Nat} {e:E} {d:Option Pth} {fr:Fr} (hb:after d fr (c f args W fid e)≠.bad) :
  after d fr (c' f args W fid e)=after d fr (c f args W fid e):=by
 rw[h]
 intro h'; rw[h'] at hb; exact hb rfl
theorem zb9 {b:Bool} {x y:R} (hb:cond b x .bad≠.bad) (h:x≠.bad→y=x):cond b y .bad=cond b x .bad:=by
 cases b with
 | true=>exact h hb
 | false=>rfl
theorem EO.mono {c c':z06} (h:CLe c c') (o:EO) {fid:Nat} {W:List Lo} {d:Option Pth} {fr:Fr} {e:E} (hb:o.ev c fid W d fr e≠.bad):o.ev c' fid W d fr e=o.ev c fid W d fr e:=by
 cases o with
 | call f args=>exact zb9 hb fun hb=>zb8 h hb
 | callv f args =>
  change z30 (evs fr.s args) c fid W d fr e (f.ev fr.s)≠.bad at hb
  show z30 (evs fr.s args) c' fid W d fr e (f.ev fr.s)=z30 (evs fr.s args) c fid W d fr e (f.ev fr.s)
  cases hf:f.ev fr.s with
  | fn g a b=>rw[hf] at hb; exact zb9 hb fun hb=>zb8 h hb
  | _=>rfl
 | _=>rfl
theorem AO.mono {c c':z06} (h:CLe c c') (o:AO) {fid:Nat} {W:List Lo} {fr:Fr} {e:E} (hb:o.ev c fid W fr e≠.bad):o.ev c' fid W fr e=o.ev c fid W fr e:=by
 obtain⟨d,g,o⟩:=o
 have key:o.ev c fid W d fr e≠.bad→o.ev c' fid W d fr e=o.ev c fid W d fr e:=by
  intro hb
  cases o with
  | p o=>rfl
  | r o=>rfl
  | e o ws =>
   change chkR fr.s e ws (o.ev c fid (z0o fr.s W ws) d fr e)≠.bad at hb
   show chkR fr.s e ws (o.ev c' fid (z0o fr.s W ws) d fr e)=chkR fr.s e ws (o.ev c fid (z0o fr.s W ws) d fr e)
   rw[EO.mono h o]
   intro h'; rw[h'] at hb; exact hb rfl
 cases g with
 | none=>exact key hb
 | some g =>
  obtain⟨t,want⟩:=g
  change z1n want d fr e (o.ev c fid W d fr e) (fr.s.get t)≠.bad at hb
  show z1n want d fr e (o.ev c' fid W d fr e) (fr.s.get t)=z1n want d fr e (o.ev c fid W d fr e) (fr.s.get t)
  cases ht:fr.s.get t with
  | bool b =>
   rw[ht] at hb
   simp only[z1n] at hb ⊢
   cases hbb:b==want with
   | true=>rw[hbb] at hb; exact key hb
   | false=>rfl
  | _=>rfl
theorem z5h {k k':Fr→E→R} {x x':R} (hb:R.bind k x≠.bad) (hx:x≠.bad→x'=x) (hk:∀ fr e,k fr e≠.bad→k' fr e=k fr e):R.bind k' x'=R.bind k x:=by
 have:x≠.bad:=by intro h'; rw[h'] at hb; exact hb rfl
 rw[hx this]
 cases x with
 | go fr e=>exact hk fr e hb
 | _=>rfl
theorem z6l {c c':z06} (h:CLe c c') {fid:Nat} {W:List Lo}:∀ (l:List AO) {fr:Fr} {e:E},z0j c fid W l fr e≠.bad→z0j c' fid W l fr e=z0j c fid W l fr e
 | [],_,_,_=>rfl
 | o::l,_,_,hb=>z5h (k:=z0j c fid W l) hb (fun hx=>AO.mono h o hx) fun _ _ hb=>z6l h l hb
theorem zba {a a' b b':Fr→E→R} {fr:Fr} {e:E} {v:AV} (hb:z3w a b fr e v≠.bad) (h1:a fr e≠.bad→a' fr e=a fr e) (h2:b fr e≠.bad→b' fr e=b fr e):z3w a' b' fr e v=z3w a b fr e v:=by
 cases v with
 | bool t =>
  cases t with
  | true=>exact h1 hb
  | false=>exact h2 hb
 | _=>rfl
theorem z8t {c c':z06} (h:CLe c c') {n m:Nat} (hnm:n≤m) {fid:Nat} {W:List Lo}:∀ (k:AC) {fr:Fr} {e:E},run c n fid W k fr e≠.bad→run c' m fid W k fr e=run c n fid W k fr e:=by
 intro k
 induction k with
 | skip=>intro fr e _; rfl
 | reg l=>intro fr e hb; exact z6l h l hb
 | seq a b iha ihb=>intro fr e hb; exact z5h (k:=run c n fid W b) hb (fun hx=>iha hx) fun fr e hb=>ihb hb
 | cond x a b iha ihb=>intro fr e hb; exact zba (a:=run c n fid W a) (b:=run c n fid W b) hb (fun hb=>iha hb) fun hb=>ihb hb
 | blk id k ih =>
  intro fr e hb
  show R.leave id (run c' m fid W k fr e)=R.leave id (run c n fid W k fr e)
  rw[ih]
  intro h'; change R.leave id (run c n fid W k fr e)≠.bad at hb; rw[h'] at hb; exact hb rfl
 | loop k ih =>
  intro fr e hb
  change iter (run c n fid W k) n fr e≠.bad at hb
  show iter (run c' m fid W k) m fr e=iter (run c n fid W k) n fr e
  have key:∀ (j:Nat) (fr:Fr) (e:E),iter (run c n fid W k) j fr e≠.bad→iter (run c' m fid W k) j fr e=iter (run c n fid W k) j fr e:=by
   intro j
   induction j with
   | zero=>intro fr e hb; exact absurd rfl hb
   | succ j ihj=>intro fr e hb; exact z5h (k:=iter (run c n fid W k) j) hb (fun hx=>ih hx) fun fr e hb=>ihj fr e hb
  have h1:=key n fr e hb
  rw[z6x (by rw[h1]; exact hb) hnm,h1]
 | exit id=>intro fr e _; rfl
 | ret=>intro fr e _; rfl
theorem zjp {c c':z06} (h:CLe c c') {n:Nat} {fid:Nat} {W:List Lo}:∀ (k:AC) {fr:Fr} {e:E},run c n fid W k fr e≠.bad→runW c' fid W k fr e=run c n fid W k fr e:=by
 intro k
 induction k with
 | skip=>intro fr e _; rfl
 | reg l=>intro fr e hb; exact z6l h l hb
 | seq a b iha ihb=>intro fr e hb; exact z5h (k:=run c n fid W b) hb (fun hx=>iha hx) fun fr e hb=>ihb hb
 | cond x a b iha ihb=>intro fr e hb; exact zba (a:=run c n fid W a) (b:=run c n fid W b) hb (fun hb=>iha hb) fun hb=>ihb hb
 | blk id k ih =>
  intro fr e hb
  show R.leave id (runW c' fid W k fr e)=R.leave id (run c n fid W k fr e)
  rw[ih]
  intro h'; change R.leave id (run c n fid W k fr e)≠.bad at hb; rw[h'] at hb; exact hb rfl
 | loop k ih =>
  intro fr e hb
  change iter (run c n fid W k) n fr e≠.bad at hb
  show lp (runW c' fid W k) fr e=iter (run c n fid W k) n fr e
  have key:∀ (j:Nat) (fr:Fr) (e:E),iter (run c n fid W k) j fr e≠.bad→iter (runW c' fid W k) j fr e=iter (run c n fid W k) j fr e:=by
   intro j
   induction j with
   | zero=>intro fr e hb; exact absurd rfl hb
   | succ j ihj=>intro fr e hb; exact z5h (k:=iter (run c n fid W k) j) hb (fun hx=>ih hx) fun fr e hb=>ihj fr e hb
  exact zn1 (key n fr e hb) hb
 | exit id=>intro fr e _; rfl
 | ret=>intro fr e _; rfl
theorem z6m {c c':z06} (h:CLe c c') {n m:Nat} (hnm:n≤m) {fi:FI} {d:DF} {W:List Lo} {fid:Nat} {s:Tm} {caps:List AV} {v:AV} {cnt:Nat} {e:E} (hb:z1t c n fi d W fid s caps v cnt e≠.bad) :
  z1t c' m fi d W fid s caps v cnt e=z1t c n fi d W fid s caps v cnt e:=by
 obtain⟨stk,glo,gl⟩:=e
 unfold z1t at hb ⊢
 cases hr:room cnt with
 | false=>rfl
 | true =>
  rw[hr] at hb
  simp only[cond_true] at hb ⊢
  rw[z8t h hnm d.code]
  intro h'; rw[h'] at hb; exact hb rfl
theorem zhc {c c':z06} (h:CLe c c') {n m:Nat} (hnm:n≤m) {fi:FI} {W:List Lo} {fid:Nat} {x:R}:∀ {o:Option DF},z31 c n fi W fid o x≠.bad→z31 c' m fi W fid o x=z31 c n fi W fid o x
 | none,_=>rfl
 | some d,hb=>by
  change z45 c n fi d W fid x≠.bad at hb
  show z45 c' m fi d W fid x=z45 c n fi d W fid x
  cases x with
  | go fr e =>
   obtain⟨s,cnt⟩:=fr
   change z3x c n fi d W fid s (evs s d.caps) (run c n fid W d.post ⟨s.set d.t (.fn d.g [] (evs s d.caps)),cnt⟩ e)≠.bad at hb
   show z3x c' m fi d W fid s (evs s d.caps) (run c' m fid W d.post ⟨s.set d.t (.fn d.g [] (evs s d.caps)),cnt⟩ e)=z3x c n fi d W fid s (evs s d.caps) (run c n fid W d.post ⟨s.set d.t (.fn d.g [] (evs s d.caps)),cnt⟩ e)
   have hx:run c n fid W d.post ⟨s.set d.t (.fn d.g [] (evs s d.caps)),cnt⟩ e≠.bad:=by intro h'; rw[h'] at hb; exact hb rfl
   rw[z8t h hnm d.post hx]
   cases hr:run c n fid W d.post ⟨s.set d.t (.fn d.g [] (evs s d.caps)),cnt⟩ e with
   | go fr e=>rw[hr] at hb; exact z6m h hnm hb
   | ret fr e=>rw[hr] at hb; exact z6m h hnm hb
   | pan v fr e=>rw[hr] at hb; exact z6m h hnm hb
   | _=>rfl
  | _=>rfl
theorem zjq {c c':z06} (h:CLe c c') {n m:Nat} (hnm:n≤m) {fi:FI} {args:List AV} {W:List Lo} {fid:Nat} {e:E} (hb:body c n fi args W fid e≠.bad):body c' m fi args W fid e=body c n fi args W fid e:=by
 obtain⟨stk,glo,gl⟩:=e
 change z31 c n fi W fid fi.df (run c n fid W fi.code ⟨params args 0 .nil,0⟩ ⟨⟨fid,List.replicate fi.na (0,.none,.none),[]⟩::stk,glo,gl⟩)≠.bad at hb
 show z31 c' m fi W fid fi.df (run c' m fid W fi.code ⟨params args 0 .nil,0⟩ ⟨⟨fid,List.replicate fi.na (0,.none,.none),[]⟩::stk,glo,gl⟩)=z31 c n fi W fid fi.df (run c n fid W fi.code ⟨params args 0 .nil,0⟩ ⟨⟨fid,List.replicate fi.na (0,.none,.none),[]⟩::stk,glo,gl⟩)
 have hx:run c n fid W fi.code ⟨params args 0 .nil,0⟩ ⟨⟨fid,List.replicate fi.na (0,.none,.none),[]⟩::stk,glo,gl⟩≠.bad:=by
  intro h'; rw[h'] at hb
  cases hd:fi.df with
  | none=>rw[hd] at hb; exact hb rfl
  | some d=>rw[hd] at hb; exact hb rfl
 rw[z8t h hnm fi.code hx]
 exact zhc h hnm hb
theorem zbb {P:FuncId→Option FI} {I:FuncId→Option z07}:∀ n,CLe (z09 P I n) (z09 P I (n+1))
 | 0=>fun f args W fid e hb=>absurd rfl hb
 | n+1=>fun f args W fid e hb=>by
  change z1u (z09 P I n) n P f args W fid e (I f)≠.bad at hb
  show z1u (z09 P I (n+1)) (n+1) P f args W fid e (I f)=z1u (z09 P I n) n P f args W fid e (I f)
  have main:z2j (z09 P I n) n args W fid e (P f)≠.bad→z2j (z09 P I (n+1)) (n+1) args W fid e (P f)=z2j (z09 P I n) n args W fid e (P f):=by
   intro hb
   cases hP:P f with
   | none=>rfl
   | some fi=>rw[hP] at hb; exact zjq (zbb n) (by omega) hb
  cases hI:I f with
  | none=>rw[hI] at hb; exact main hb
  | some g =>
   rw[hI] at hb
   simp only[z1u] at hb ⊢
   cases hg:g args W fid e with
   | none=>rw[hg] at hb; exact main hb
   | some q=>rfl
theorem zhd {P:FuncId→Option FI} {I:FuncId→Option z07} {n m:Nat} (h:n≤m):CLe (z09 P I n) (z09 P I m):=by
 induction h with
 | refl=>exact fun _ _ _ _ _ _=>rfl
 | step h ih=>exact fun f args W fid e hb=>by rw[zbb _ _ _ _ _ _ (by rw[ih _ _ _ _ _ hb]; exact hb),ih _ _ _ _ _ hb]
theorem z6y {P:FuncId→Option FI} {I:FuncId→Option z07} (n:Nat):CLe (z09 P I n) (cal P I):=fun f args W fid e hb =>
 zb6 ⟨hb,n,fun m hm=>zhd hm _ _ _ _ _ hb⟩
end
end Go.Abs
namespace Go.Abs
open Go
noncomputable section
def pthEq:Pth→Pth→Bool
 | .e,.e=>true
 | .l a,.l b=>pthEq a b
 | .r a,.r b=>pthEq a b
 | _,_=>false
def tmEq:Tm→Tm→Bool
 | .nil,.nil=>true
 | .node v l r,.node v' l' r'=>avEq v v' && (tmEq l l' && tmEq r r')
 | _,_=>false
def goAns (s:Tm) (cnt:Nat) (e:E):R→Bool
 | .go ⟨s',cnt'⟩ e'=>tmEq s' s && (Nat.beq cnt' cnt && eEq e' e)
 | _=>false
def retTrue (p:Pth):R→Bool
 | .ret ⟨s,_⟩ _=>match s.get p with | .bool b=>b | _=>false
 | _=>false
def catA:List AC→AC→AC
 | [],q=>q
 | a::l,q=>.seq a (catA l q)
def runL (call:z06) (fid:Nat) (W:List Lo):List AC→Fr→E→R
 | [],fr,e=>.go fr e
 | a::l,fr,e=>R.bind (runL call fid W l) (runW call fid W a fr e)
end
end Go.Abs
namespace Go.Abs
open Go Go.RowKit
variable [Glob]
inductive Fg:AV→AV→Prop
 | undef:Fg .undef .undef
 | bool (b:Bool):Fg (.bool b) (.bool b)
 | int (k:IntKind) (n:Int):Fg (.int k n) (.int k n)
 | str (s:List Nat):Fg (.str s) (.str s)
 | nilp:Fg .nilp .nilp
 | nilm:Fg .nilm .nilm
 | nilf:Fg .nilf .nilf
 | nili:Fg .nili .nili
 | ptr (l:Lo) (o:Nat):Fg (.ptr l o) (.dp 0 [])
 | vpd (cs:List AV) (o:Nat):Fg (.vp cs o) (.dp 0 [])
 | ep (l:Lo) (a b c:Nat):Fg (.ep l a b c) (.dp 0 [])
 | dp (k:Nat) (xs:List AV):Fg (.dp k xs) (.dp 0 [])
 | sl {k z:Nat} {xs ys:List AV} (hl:ys.length=xs.length) (hc:∀ (i:Nat) (x y:AV),xs[i]?=some x→ys[i]?=some y→y.cells.length=x.cells.length)
   (h:∀ (i:Nat) (x y:AV) (j:Nat) (c d:AV),xs[i]?=some x→ys[i]?=some y→x.cells[j]?=some c→y.cells[j]?=some d→Fg c d):Fg (.sl k z xs) (.sl (cond (Nat.beq k 1) 1 0) z ys)
 | agg {cs ds:List AV} (hl:ds.length=cs.length) (h:∀ (i:Nat) (c d:AV),cs[i]?=some c→ds[i]?=some d→Fg c d):Fg (.agg cs) (.agg ds)
 | tup {cs ds:List AV} (hl:ds.length=cs.length) (h:∀ (i:Nat) (c d:AV),cs[i]?=some c→ds[i]?=some d→Fg c d):Fg (.tup cs) (.tup ds)
 | ifc {t:TypeId} {v u:AV} (h:Fg v u):Fg (.ifc t v) (.ifc t u)
 | fn {f:FuncId} {as bs cs ds:List AV} (hl:bs.length=as.length) (hm:ds.length=cs.length) (h:∀ (i:Nat) (c d:AV),as[i]?=some c→bs[i]?=some d→Fg c d)
   (h':∀ (i:Nat) (c d:AV),cs[i]?=some c→ds[i]?=some d→Fg c d):Fg (.fn f as cs) (.fn f bs ds)
def K.vals (κ:K):K where
 role:=fun b=>match κ.role b with | .val=>.val | _=>.no
 ob:=fun _=>none
 vb:=fun _ _=>none
 fz:=κ.fz
 tk:=fun _=>none
 bs:=fun _ _=>none
 old:=fun b i u=>κ.fz b i=some u
theorem z32 {l m:List AV} (hl:m.length=l.length) {i:Nat} {d:AV} (h:m[i]?=some d):∃ c,l[i]?=some c:=by
 have:=(List.getElem?_eq_some_iff.1 h).1
 exact⟨l[i]'(by omega),List.getElem?_eq_getElem _⟩
theorem Fg.vr' {κ κ₂:K} (hz':∀ b i u,κ.fz b i=some u→κ₂.fz b i=some u) {a a':AV} (h:Fg a a'):∀ {v:Value},VR κ a v→VR κ₂ a' v:=by
 induction h with
 | undef=>intro v hv; cases hv; exact .undef
 | bool b=>intro v hv; cases hv; exact .bool _
 | int k n=>intro v hv; cases hv; exact .int _ _
 | str s =>
  intro v hv
  generalize hx:AV.str s=x at hv
  cases hv with
  | str b=>exact .str b
  | _=>cases hx
 | nilp=>intro v hv; cases hv; exact .nilp
 | nilm=>intro v hv; cases hv; exact .nilm
 | nilf=>intro v hv; cases hv; exact .nilf
 | nili=>intro v hv; cases hv; exact .nili
 | ptr l o=>intro v hv; cases hv; exact .dpnil _ _
 | vpd cs o=>intro v hv; cases hv; exact .dpnil _ _
 | ep l a b c=>intro v hv; cases hv; exact .dpnil _ _
 | dp k xs=>intro v hv; cases hv<;>exact .dpnil _ _
 | sl hl hc h ih =>
  intro v hv
  cases hv with
  | slnil =>
   have:=List.eq_nil_of_length_eq_zero (by simpa using hl)
   subst this
   exact .slnil _
  | sle a hz1 =>
   have:=List.eq_nil_of_length_eq_zero (by simpa using hl)
   subst this
   exact .sle a hz1
  | sl g hcap hz hf hg h1 hk1 hk hz1 =>
   rename_i k z xs ys b o cap
   have key:∀ (i:Nat) (y:AV),ys[i]?=some y→∃ x,xs[i]?=some x∧y.cells.length=x.cells.length:=fun i y hy=>by
    obtain⟨x,hx⟩:=z32 hl hy
    exact⟨x,hx,hc i x y hx hy⟩
   have hcell:∀ (i:Nat) (y:AV) (j:Nat) (d:AV),ys[i]?=some y→y.cells[j]?=some d→∃ x c,xs[i]?=some x∧x.cells[j]?=some c:=fun i y j d hy hd=>by
    obtain⟨x,hx,hxl⟩:=key i y hy
    obtain⟨c,hc'⟩:=z32 hxl hd
    exact⟨x,c,hx,hc'⟩
   rw[← hl]
   refine .sl (b:=b) (o:=o) g (by omega) (fun i y hy=>?_) (fun i y j d hy hd=>?_) (fun i y j d hy hd=>?_) h1 (fun hk'=>?_) (fun hk'=>?_) hz1
   ·obtain⟨x,hx,hxl⟩:=key i y hy
    rw[hxl]; exact hz i x hx
   ·obtain⟨x,c,hx,hc'⟩:=hcell i y j d hy hd
    exact hz' _ _ _ (hf i x j c hx hc')
   ·obtain⟨x,c,hx,hc'⟩:=hcell i y j d hy hd
    exact ih i x y j c d hx hy hc' hd (hg i x j c hx hc')
   ·rw[hl]
    refine hk1 ?_
    cases hb:Nat.beq k 1 with
    | true=>exact Nat.eq_of_beq_eq_true hb
    | false=>rw[hb] at hk'; cases hk'
   ·cases hb:Nat.beq k 1 with
    | true=>rw[hb] at hk'; simp at hk'
    | false=>rw[hb] at hk'; simp at hk'
 | agg hl h ih =>
  intro v hv
  cases hv with
  | agg hA h2 h1 =>
   refine .agg (by rw[hA,hl]) (fun i d u hd hu=>?_) h1
   obtain⟨c,hc⟩:=z32 hl hd
   exact ih i c d hc hd (h2 i c u hc hu)
 | tup hl h ih =>
  intro v hv
  cases hv with
  | tup hA h2 =>
   refine .tup (by rw[hA,hl]) (fun i d u hd hu=>?_)
   obtain⟨c,hc⟩:=z32 hl hd
   exact ih i c d hc hd (h2 i c u hc hu)
 | ifc h ih=>intro v hv; cases hv with | ifc hu=>exact .ifc (ih hu)
 | fn hl hm h h' ih ih' =>
  intro v hv
  cases hv with
  | fn hF hC h1 h2 =>
   refine .fn (by rw[hF,hl]) (by rw[hC,hm]) (fun i d u hd hu=>?_) (fun i d u hd hu=>?_)
   ·obtain⟨c,hc⟩:=z32 hl hd
    exact ih i c d hc hd (h1 i c u hc hu)
   ·obtain⟨c,hc⟩:=z32 hm hd
    exact ih' i c d hc hd (h2 i c u hc hu)
theorem Fg.vr {κ:K} {a a':AV} (h:Fg a a') {v:Value} (hv:VR κ a v):VR κ.vals a' v:=h.vr' (κ:=κ) (κ₂:=κ.vals) (fun _ _ _ h=>h) hv
inductive Rf:AV→Prop
 | bool (b:Bool):Rf (.bool b)
 | int (k:IntKind) (n:Int):Rf (.int k n)
 | str (s:List Nat):Rf (.str s)
 | nilp:Rf .nilp
 | nilm:Rf .nilm
 | nilf:Rf .nilf
 | nili:Rf .nili
 | slnil (k:Nat):Rf (.sl k 0 [])
 | agg {cs:List AV} (h:∀ c∈cs,Rf c):Rf (.agg cs)
 | tup {cs:List AV} (h:∀ c∈cs,Rf c):Rf (.tup cs)
 | ifc {t:TypeId} {v:AV} (h:Rf v):Rf (.ifc t v)
theorem Rf.vr {κ κ':K} {a:AV} (h:Rf a):∀ {v:Value},VR κ a v→VR κ' a v:=by
 induction h with
 | bool b=>intro v hv; cases hv; exact .bool _
 | int k n=>intro v hv; cases hv; exact .int _ _
 | str s =>
  intro v hv
  generalize hx:AV.str s=x at hv
  cases hv with
  | str b=>exact .str b
  | _=>cases hx
 | nilp=>intro v hv; cases hv; exact .nilp
 | nilm=>intro v hv; cases hv; exact .nilm
 | nilf=>intro v hv; cases hv; exact .nilf
 | nili=>intro v hv; cases hv; exact .nili
 | slnil k =>
  intro v hv
  cases hv with
  | slnil=>exact .slnil _
  | sle a hz1=>omega
  | sl g hcap hz hf hg h1 hk1 hk hz1=>omega
 | agg h ih =>
  intro v hv
  cases hv with
  | agg hA h2 h1=>exact .agg hA (fun i d u hd hu=>ih d (List.mem_of_getElem? hd) (h2 i d u hd hu)) h1
 | tup h ih =>
  intro v hv
  cases hv with
  | tup hA h2=>exact .tup hA (fun i d u hd hu=>ih d (List.mem_of_getElem? hd) (h2 i d u hd hu))
 | ifc h ih=>intro v hv; cases hv with | ifc hu=>exact .ifc (ih hu)
theorem z9w {κ:K} {b:Nat}:κ.vals.role b=.val↔κ.role b=.val:=by
 simp only[K.vals]
 cases κ.role b<;>simp
theorem z5i {κ:K} {b:Nat}:κ.vals.role b=.val∨κ.vals.role b=.no:=by
 simp only[K.vals]
 cases κ.role b<;>simp
class GPlain:Prop where
 fg:∀ g cs,Glob.gv g=some cs→Fg (.agg cs) (.agg cs)
theorem Fg.vp {κ:K} {cs:List AV} {off:Nat} {v:Value} (h:Fg (.agg cs) (.agg cs)) (hv:VR κ (.vp cs off) v):VR κ.vals (.vp cs off) v:=by
 cases hv with
 | vp g hf hg h1 =>
  refine .vp g hf (fun j c hc=>?_) h1
  cases h with
  | agg hl h=>exact(h j c c hc hc).vr (hg j c hc)
theorem St.vals [GPlain] {κ:K} {e:E} {B:Nat} {w₀ w:World} (h:St κ e B w₀ w):St κ.vals ⟨[],[],[]⟩ w.heap.size w w where
 below:=.refl _ _
 size:=Nat.le_refl _
 rl:=fun b hr=>by
  rcases z5i (κ:=κ) (b:=b) with h1 | h1
  ·rw[h1]; exact⟨fun h=>absurd rfl h,(h.rl b (by rw[z9w.1 h1]; simp)).2⟩
  ·exact absurd h1 hr
 ro:=fun l b hl=>by cases hl
 oo:=fun l b hl=>by rcases z5i (κ:=κ) (b:=b) with h1 | h1<;>rw[h1] at hl<;>cases hl
 rv:=fun l z es b z' c hg _=>by simp[E.get,z0z] at hg; cases l<;>simp[z0z] at hg
 rf:=fun b i u hu=>z9w.2 (h.rf b i u hu)
 rt:=fun k b i c _ ht=>by cases ht
 tb:=fun k b i c ht=>by cases ht
 td:=fun k k' b i c i' c' _ _ ht=>by cases ht
 vn:=fun l z es n _ _=>rfl
 blk:=fun b=>by
  rcases z5i (κ:=κ) (b:=b) with h1 | h1
  ·rw[h1]
   have hb:=h.blk b
   rw[z9w.1 h1] at hb
   obtain⟨arr,t,f,h2,h3,_⟩:=hb
   exact⟨arr,t,f,h2,h3,fun k i c _ ht=>by cases ht⟩
  ·rw[h1]; trivial
 fo:=fun _ _ _ hu _=>hu
 glob:=fun g cs hg=>(GPlain.fg g cs hg).vp (h.glob g cs hg)
 gs:=fun g cs hg=>by
  obtain⟨h1,arr,t,f,h2,h3⟩:=h.gs g cs hg
  exact⟨Nat.lt_of_lt_of_le h1 h.size,arr,t,f,by rw[h.below.block g h1]; exact h2,h3⟩
 tu:=fun k b i c _ ht=>by cases ht
theorem Ent.vals (κ:K):Ent κ.vals ⟨[],[],[]⟩ 1 where
 free:=⟨fun _ _ _ _=>⟨rfl,fun _=>rfl,fun _=>rfl⟩,fun _ _ _ _=>rfl⟩
 out:=fun _ _ h=>by simp[fids] at h
 glo:=fun _ _=>⟨rfl,fun _=>rfl,fun _=>rfl⟩
theorem St.beyond {κ:K} {e:E} {B:Nat} {w₀ w w':World} (h:St κ e B w₀ w) (hb:Below w.heap.size w w'):St κ e B w₀ w' where
 below:=h.below.trans (hb.mono h.size)
 size:=Nat.le_trans h.size hb.size
 rl:=fun b hr=>⟨(h.rl b hr).1,Nat.lt_of_lt_of_le (h.rl b hr).2 hb.size⟩
 ro:=h.ro
 oo:=h.oo
 rv:=h.rv
 rf:=h.rf
 rt:=h.rt
 tb:=h.tb
 td:=h.td
 vn:=h.vn
 blk:=fun b=>by
  by_cases hr:κ.role b=.no
  ·rw[hr]; trivial
  ·rw[hb.block b (h.rl b hr).2]; exact h.blk b
 fo:=h.fo
 gs:=h.gs
 glob:=h.glob
 tu:=fun k b i c hk ht=>by
  obtain⟨arr,t,f,h1,h2⟩:=h.tu k b i c hk ht
  refine⟨arr,t,f,?_,h2⟩
  rw[hb.block b]; exact h1
  rcases Nat.lt_or_ge b w.heap.size with h5 | h5
  ·exact h5
  ·rw[Array.getElem?_eq_none h5] at h1; cases h1
noncomputable def K.with(κ κ':K) (n:Nat):K where
 role:=fun b=>if b < n then κ.role b else match κ'.role b with | .val=>.val | _=>.no
 ob:=κ.ob
 vb:=κ.vb
 fz:=κ'.fz
 tk:=κ.tk
 bs:=κ.bs
 old:=κ.old
theorem z9x {κ κ':K} {n b:Nat} (h:b < n):(κ.with κ' n).role b=κ.role b:=by simp[K.with,h]
theorem zez {κ κ':K} {n b:Nat} (h:¬ b < n):((κ.with κ' n).role b=.val∧κ'.role b=.val)∨(κ.with κ' n).role b=.no:=by
 simp only[K.with,h,if_false]
 cases κ'.role b<;>simp
theorem K.le_with {κ κ':K} {n:Nat} (h:κ.vals.le κ'):κ.le (κ.with κ' n):=⟨id,id,fun hf=>h.fz hf,id,id,rfl⟩
theorem St.with {κ κ':K} {e e₁:E} {B:Nat} {w₀ w w':World} (h:St κ e B w₀ w) (hle:κ.vals.le κ') (h5:St κ' e₁ w.heap.size w w'):St (κ.with κ' w.heap.size) e B w₀ w':=by
 have hold:∀ b i u,κ'.fz b i=some u→b < w.heap.size→κ.fz b i=some u:=fun b i u hr hlt=>by
  have:=h5.fo b i u hr hlt
  rw[hle.old] at this
  exact this
 have hrole:∀ b,κ.role b≠.no→(κ.with κ' w.heap.size).role b=κ.role b:=fun b hr=>z9x (h.rl b hr).2
 have hle2:κ.le (κ.with κ' w.heap.size):=K.le_with hle
 exact {
  below:=h.below.trans (h5.below.mono h.size)
  size:=Nat.le_trans h.size h5.below.size
  rl:=fun b hr=>by
   by_cases hb:b < w.heap.size
   ·rw[z9x hb] at hr ⊢
    exact⟨(h.rl b hr).1,Nat.lt_of_lt_of_le (h.rl b hr).2 h5.below.size⟩
   ·rcases zez (κ:=κ) (κ':=κ') hb with⟨h1,h2⟩ | h1
    ·exact⟨fun h3=>absurd h1 h3,(h5.rl b (by rw[h2]; simp)).2⟩
    ·exact absurd h1 hr
  ro:=fun l b hl=>by
   have:=h.ro l b hl
   rw[hrole b (by rw[this]; simp)]; exact this
  oo:=fun l b hl=>by
   by_cases hb:b < w.heap.size
   ·rw[z9x hb] at hl; exact h.oo l b hl
   ·rcases zez (κ:=κ) (κ':=κ') hb with⟨h1,_⟩ | h1<;>rw[h1] at hl<;>cases hl
  rv:=fun l z es b z' c hg hv=>by
   obtain⟨h1,h2⟩:=h.rv l z es b z' c hg hv
   exact⟨by rw[hrole b (by rw[h1]; simp)]; exact h1,h2⟩
  rf:=fun b i u hu=>by
   have hr:=h5.rf b i u hu
   by_cases hb:b < w.heap.size
   ·rw[z9x hb]; exact h.rf b i u (hold b i u hu hb)
   ·simp only[K.with,hb,if_false,hr]
  rt:=fun k b i c hk ht=>by
   have:=h.rt k b i c hk ht
   rw[hrole b (by rw[this]; simp)]; exact this
  tb:=h.tb
  td:=h.td
  vn:=h.vn
  fo:=fun b i u hu hlt=>h.fo b i u (hold b i u hu (Nat.lt_of_lt_of_le hlt h.size)) hlt
  glob:=fun g cs hg=>(h.glob g cs hg).mono hle2
  gs:=h.gs
  tu:=fun k b i c hk ht=>by
   obtain⟨arr,t,f,h1,h2⟩:=h.tu k b i c hk ht
   refine⟨arr,t,f,?_,h2⟩
   rw[h5.below.block b]; exact h1
   rcases Nat.lt_or_ge b w.heap.size with h6 | h6
   ·exact h6
   ·rw[Array.getElem?_eq_none h6] at h1; cases h1
  blk:=fun b=>by
   by_cases hb:b < w.heap.size
   ·rw[z9x hb,h5.below.block b hb]
    have hB:=h.blk b
    cases hr:κ.role b with
    | no=>trivial
    | ob l=>rw[hr] at hB; exact ObR.mono hle2 rfl hB
    | vec l =>
     rw[hr] at hB
     intro z es c hg hv
     exact(hB z es c hg hv).mono hle2
    | val =>
     rw[hr] at hB
     obtain⟨arr,t,f,h1,h2,h3⟩:=hB
     refine⟨arr,t,f,h1,fun i u hu=>h2 i u (hold b i u hu hb),fun k i c hk ht=>?_⟩
     obtain⟨h4,h6,h7⟩:=h3 k i c hk ht
     refine⟨fun j hj=>?_,h6,h7⟩
     show κ'.fz b j=none
     cases hx:κ'.fz b j with
     | none=>rfl
     | some u=>rw[← hold b j u hx hb,h4 j hj]
   ·rcases zez (κ:=κ) (κ':=κ') hb with⟨h1,h2⟩ | h1
    ·rw[h1]
     have hB':=h5.blk b
     rw[h2] at hB'
     obtain⟨arr,t,f,h4,h6,_⟩:=hB'
     refine⟨arr,t,f,h4,h6,fun k i c hk ht=>?_⟩
     have hr:=h.rt k b i c hk ht
     exact absurd (h.rl b (by rw[hr]; simp)).2 hb
    ·rw[h1]; trivial }
def z0q (g:List AV→Option AV):z07:=fun args _ _ e=>match g args with | some v=>some (v,e) | none=>none
theorem zjr [GPlain] {P:Program} [GOK P] {T:FuncId→Option FI} {I:FuncId→Option z07} {f:FuncId} {g:List AV→Option AV} (hT:zam P T) (hI:z0v P I∧z0d I) (hm:P.follows .mixedOrders=true)
  (h:∀ args v,g args=some v→Rf v∧∃ args' e',args'.length=args.length∧(∀ (i:Nat) (a a':AV),args[i]?=some a→args'[i]?=some a'→Fg a a')∧cal T I f args' [] 1 ⟨[],[],[]⟩=.ret v e'):IOK P f (z0q g):=by
 constructor
 ·intro κ e B fid w₀ w args vals W v e' hg hst hent hl hv
  unfold z0q at hg
  cases hgg:g args with
  | none=>rw[hgg] at hg; cases hg
  | some v' =>
   rw[hgg] at hg
   cases hg
   obtain⟨hrf,args',e₁,hlen,hfg,hcal⟩:=h args v hgg
   obtain⟨n,hn⟩:=z6k hcal (by simp)
   have hn:=hn n (Nat.le_refl n)
   have:=z63 hT hI.1 hI.2 hm n κ.vals ⟨[],[],[]⟩ w.heap.size 1 w w f args' vals [] (by rw[hn]; simp) hst.vals (Ent.vals κ) (by rw[hl,hlen]) (fun i c u hc hu=>by
    obtain⟨a,ha⟩:=z32 hlen hc
    exact(hfg i a c ha hc).vr (hv i a u ha hu))
   rw[hn] at this
   refine this.mono (fun val w' h=>?_) fun _ _ h=>?_
   ·obtain⟨κ',v'',e'',h1,h2,_,_,h5⟩:=h
    cases h1
    exact⟨κ,hrf.vr h2,.refl κ,Gr.refl ..,hst.beyond h5.below⟩
   ·obtain⟨κ',v'',e'',val,h1,_⟩:=h
    cases h1
 ·intro args W fid e v e' hg _
  unfold z0q at hg
  cases hgg:g args with
  | none=>rw[hgg] at hg; cases hg
  | some v'=>rw[hgg] at hg; cases hg; exact⟨rfl,Nat.le_refl _,fun _ _ _=>rfl⟩
theorem zjs [GPlain] {P:Program} [GOK P] {T:FuncId→Option FI} {I:FuncId→Option z07} {f:FuncId} {g:List AV→Option AV} (hT:zam P T) (hI:z0v P I∧z0d I) (hm:P.follows .mixedOrders=true)
  (h:∀ args v₀,g args=some v₀→∃ v,Fg v v₀∧∃ args' e',args'.length=args.length∧(∀ (i:Nat) (a a':AV),args[i]?=some a→args'[i]?=some a'→Fg a a')∧cal T I f args' [] 1 ⟨[],[],[]⟩=.ret v e'):IOK P f (z0q g):=by
 constructor
 ·intro κ e B fid w₀ w args vals W v e' hg hst hent hl hv
  unfold z0q at hg
  cases hgg:g args with
  | none=>rw[hgg] at hg; cases hg
  | some v' =>
   rw[hgg] at hg
   cases hg
   obtain⟨v₁,hvf,args',e₁,hlen,hfg,hcal⟩:=h args v hgg
   obtain⟨n,hn⟩:=z6k hcal (by simp)
   have hn:=hn n (Nat.le_refl n)
   have:=z63 hT hI.1 hI.2 hm n κ.vals ⟨[],[],[]⟩ w.heap.size 1 w w f args' vals [] (by rw[hn]; simp) hst.vals (Ent.vals κ) (by rw[hl,hlen]) (fun i c u hc hu=>by
    obtain⟨a,ha⟩:=z32 hlen hc
    exact(hfg i a c ha hc).vr (hv i a u ha hu))
   rw[hn] at this
   refine this.mono (fun val w' h=>?_) fun _ _ h=>?_
   ·obtain⟨κ',v'',e'',h1,h2,h3,_,h5⟩:=h
    cases h1
    exact⟨κ.with κ' w.heap.size,hvf.vr' (κ:=κ') (κ₂:=κ.with κ' w.heap.size) (fun _ _ _ h=>h) h2,K.le_with h3,⟨fun _ h=>.inl h,fun _ h=>.inl h⟩,hst.with h3 h5⟩
   ·obtain⟨κ',v'',e'',val,h1,_⟩:=h
    cases h1
 ·intro args W fid e v e' hg _
  unfold z0q at hg
  cases hgg:g args with
  | none=>rw[hgg] at hg; cases hg
  | some v'=>rw[hgg] at hg; cases hg; exact⟨rfl,Nat.le_refl _,fun _ _ _=>rfl⟩
def addI (I:FuncId→Option z07) (f:FuncId) (g:z07):FuncId→Option z07:=fun x=>cond (Nat.beq x f) (some g) (I x)
theorem z3o {P:Program} {I:FuncId→Option z07} {f:FuncId} {g:z07} (hI:z0v P I∧z0d I) (hg:IOK P f g):z0v P (addI I f g)∧z0d (addI I f g):=by
 have key:∀ x h,addI I f g x=some h→(x=f∧h=g)∨I x=some h:=by
  intro x h hx
  unfold addI at hx
  cases h1:Nat.beq x f with
  | true=>rw[h1] at hx; cases hx; exact .inl ⟨Nat.eq_of_beq_eq_true h1,rfl⟩
  | false=>rw[h1] at hx; exact .inr hx
 constructor
 ·intro κ e B fid w₀ w x h args vals W v e' hx hh hst hent hl hv
  rcases key x h hx with⟨rfl,rfl⟩ | h1
  ·exact hg.1 κ e B fid w₀ w args vals W v e' hh hst hent hl hv
  ·exact hI.1 κ e B fid w₀ w x h args vals W v e' h1 hh hst hent hl hv
 ·intro x h args W fid e v e' hx hh hs
  rcases key x h hx with⟨rfl,rfl⟩ | h1
  ·exact hg.2 args W fid e v e' hh hs
  ·exact hI.2 x h args W fid e v e' h1 hh hs
end Go.Abs
namespace Go.Abs
open Go
noncomputable section
mutual
def fgB:AV→AV→Bool
 | .undef,.undef=>true
 | .bool a,.bool b=>bEq a b
 | .int k a,.int l b=>kEq k l && iEq a b
 | .str a,.str b=>z25 a b
 | .nilp,.nilp=>true
 | .nilm,.nilm=>true
 | .nilf,.nilf=>true
 | .nili,.nili=>true
 | .sl k z xs,.sl k' z' ys=>Nat.beq k' (cond (Nat.beq k 1) 1 0) && (Nat.beq z z' && fgsB xs ys)
 | .ifc t a,.ifc u b=>Nat.beq t u && fgB a b
 | .agg a,.agg b=>fgsB a b
 | .tup a,.tup b=>fgsB a b
 | _,_=>false
def fgsB:List AV→List AV→Bool
 | [],[]=>true
 | a::x,b::y=>fgB a b && fgsB x y
 | _,_=>false
end
def FgL (x y:List AV):Prop:=y.length=x.length∧∀ (i:Nat) (c d:AV),x[i]?=some c→y[i]?=some d→Fg c d
theorem Fg.cells {x y:AV} (h:Fg x y):y.cells.length=x.cells.length∧∀ (j:Nat) (c d:AV),x.cells[j]?=some c→y.cells[j]?=some d→Fg c d:=by
 have one:∀ {x y:AV},Fg x y→x.cells=[x]→y.cells=[y]→y.cells.length=x.cells.length∧∀ (j:Nat) (c d:AV),x.cells[j]?=some c→y.cells[j]?=some d→Fg c d:=fun h h1 h2=>by
  rw[h1,h2]
  refine⟨rfl,fun j c d hc hd=>?_⟩
  cases j with
  | zero=>cases hc; cases hd; exact h
  | succ j=>cases hc
 cases h with
 | undef=>exact⟨rfl,fun j c d hc _=>by cases hc⟩
 | agg hl h=>exact⟨hl,h⟩
 | tup hl h=>exact⟨rfl,fun j c d hc _=>by cases hc⟩
 | bool b=>exact one (.bool b) rfl rfl
 | int k n=>exact one (.int k n) rfl rfl
 | str s=>exact one (.str s) rfl rfl
 | nilp=>exact one .nilp rfl rfl
 | nilm=>exact one .nilm rfl rfl
 | nilf=>exact one .nilf rfl rfl
 | nili=>exact one .nili rfl rfl
 | ptr l o=>exact one (.ptr l o) rfl rfl
 | vpd cs o=>exact one (.vpd cs o) rfl rfl
 | ep l a b c=>exact one (.ep l a b c) rfl rfl
 | dp k xs=>exact one (.dp k xs) rfl rfl
 | sl hl hc h=>exact one (.sl hl hc h) rfl rfl
 | ifc h=>exact one (.ifc h) rfl rfl
 | fn hl hm h h'=>exact one (.fn hl hm h h') rfl rfl
theorem FgL.sl {k z:Nat} {xs ys:List AV} (h:FgL xs ys):Fg (.sl k z xs) (.sl (cond (Nat.beq k 1) 1 0) z ys) :=
 .sl h.1 (fun i x y hx hy=>(h.2 i x y hx hy).cells.1) fun i x y j c d hx hy hc hd=>(h.2 i x y hx hy).cells.2 j c d hc hd
set_option maxHeartbeats 1000000 in
mutual
theorem z33:∀ (a b:AV),fgB a b=true→Fg a b:=by
 intro a b h
 cases a<;>cases b<;>first | (simp[fgB] at h; done) | skip
 case undef.undef=>exact .undef
 case bool.bool=>simp only[fgB] at h; rw[z9s h]; exact .bool _
 case int.int=>simp only[fgB,Bool.and_eq_true] at h; rw[zdp h.1,z9r h.2]; exact .int _ _
 case str.str=>simp only[fgB] at h; rw[z1z h]; exact .str _
 case nilp.nilp=>exact .nilp
 case nilm.nilm=>exact .nilm
 case nilf.nilf=>exact .nilf
 case nili.nili=>exact .nili
 case sl.sl=>simp only[fgB,Bool.and_eq_true,Nat.beq_eq] at h; rw[h.1,← h.2.1]; exact(z3g _ _ h.2.2).sl
 case ifc.ifc=>simp only[fgB,Bool.and_eq_true,Nat.beq_eq] at h; rw[h.1]; exact .ifc (z33 _ _ h.2)
 case agg.agg=>simp only[fgB] at h; exact .agg (z3g _ _ h).1 (z3g _ _ h).2
 case tup.tup=>simp only[fgB] at h; exact .tup (z3g _ _ h).1 (z3g _ _ h).2
theorem z3g:∀ (a b:List AV),fgsB a b=true→FgL a b:=by
 intro a b h
 cases a<;>cases b
 ·exact⟨rfl,fun i c d hc=>by cases hc⟩
 ·cases h
 ·cases h
 ·rename_i x l y m
  simp only[fgsB,Bool.and_eq_true] at h
  obtain⟨h1,h2⟩:=z3g _ _ h.2
  have h3:=z33 _ _ h.1
  refine⟨by simp[h1],fun i c d hc hd=>?_⟩
  cases i with
  | zero=>cases hc; cases hd; exact h3
  | succ i=>exact h2 i c d hc hd
end
end
end Go.Abs
namespace Go.Abs
open Go Go.RowKit
noncomputable section
variable [Glob]
def LawOK (P:Program) (T:FuncId→Option FI) (f:FuncId) (g:z07):Prop :=
 ∀ args W fid e v e',g args W fid e=some (v,e')→∃ I,z0v P I∧z0d I∧cal T I f args W fid e=.ret v e'
theorem addL_ok {P:Program} [GOK P] {T:FuncId→Option FI} {I:FuncId→Option z07} {f:FuncId} {g:z07} (hT:zam P T) (hm:P.follows .mixedOrders=true)
  (hI:z0v P I∧z0d I) (hg:LawOK P T f g):z0v P (addI I f g)∧z0d (addI I f g):=by
 have key:∀ x h,addI I f g x=some h→(x=f∧h=g)∨I x=some h:=by
  intro x h hx
  unfold addI at hx
  cases h1:Nat.beq x f with
  | true=>rw[h1] at hx; cases hx; exact .inl ⟨Nat.eq_of_beq_eq_true h1,rfl⟩
  | false=>rw[h1] at hx; exact .inr hx
 constructor
 ·intro κ e B fid w₀ w x h args vals W v e' hx hh hst hent hl hv
  rcases key x h hx with⟨rfl,rfl⟩ | h1
  ·obtain⟨J,hJ,hJp,hc⟩:=hg args W fid e v e' hh
   obtain⟨n,hn⟩:=z6k hc (by simp)
   have hc:=hn n (Nat.le_refl n)
   have:=z63 hT hJ hJp hm n κ e B fid w₀ w x args vals W (by rw[hc]; intro h; cases h) hst hent hl hv
   rw[hc] at this
   refine this.mono (fun val w' h=>?_) fun _ _ h=>?_
   ·obtain⟨κ',v,e',h0,h1,h2,h3,h4⟩:=h
    cases h0
    exact⟨κ',h1,h2,h3,h4⟩
   ·obtain⟨κ',v,e',_,h0,_⟩:=h
    cases h0
  ·exact hI.1 κ e B fid w₀ w x h args vals W v e' h1 hh hst hent hl hv
 ·intro x h args W fid e v e' hx hh hs
  rcases key x h hx with⟨rfl,rfl⟩ | h1
  ·obtain⟨J,hJ,hJp,hc⟩:=hg args W fid e v e' hh
   obtain⟨n,hn⟩:=z6k hc (by simp)
   exact z4b hJp n x args W fid e v e' (.inl (hn n (Nat.le_refl n))) hs
  ·exact hI.2 x h args W fid e v e' h1 hh hs
end
noncomputable def anc:Nat→Nat→Nat→Bool
 | 0,_,_=>false
 | n+1,f,y=>cond (Nat.beq y f) true (cond (Nat.blt f y) (anc n f ((y - 1) / base)) false)
theorem anc_of {f y:Nat} (h:Sub f y):∀ n,y < n→anc n f y=true:=by
 induction h with
 | refl =>
  intro n hn
  obtain⟨n,rfl⟩:∃ k,n=k+1:=⟨n - 1,by omega⟩
  simp[anc]
 | @step x c h hc ih =>
  intro n hn
  obtain⟨n,rfl⟩:∃ k,n=k+1:=⟨n - 1,by omega⟩
  have h1:=h.le
  have h2:=z29 x c
  have h3:(child x c - 1) / base=x:=by
   unfold child base cap at *
   omega
  have h4:¬ child x c=f:=by omega
  have h5:Nat.beq (child x c) f=false:=by
   cases hb:Nat.beq (child x c) f with
   | false=>rfl
   | true=>exact absurd (Nat.eq_of_beq_eq_true hb) h4
  have h6:Nat.blt f (child x c)=true:=Nat.ble_eq_true_of_le (by omega)
  show cond (Nat.beq (child x c) f) true (cond (Nat.blt f (child x c)) (anc n f ((child x c - 1) / base)) false)=true
  rw[h5,h6,h3]
  exact ih n (by omega)
noncomputable def famK (f k:Nat):Bool:=anc ((k - 2) / base+1) f ((k - 2) / base)
noncomputable def zhe (f:Nat):List Nat→Bool
 | []=>true
 | k::l=>cond (famK f k) false (zhe f l)
noncomputable def zdt (f:Nat):List FS→Bool
 | []=>true
 | s::l=>cond (zhe f s.live) (zdt f l) false
noncomputable def zg8 (f:Nat):E→Bool
 | ⟨stk,_,gl⟩=>cond (zdt f stk) (zhe f gl) false
theorem zr {f y d:Nat} (h:Sub f y) (hd:d < cap):famK f (z0k y d)=true:=by
 have:(z0k y d - 2) / base=y:=by unfold z0k base cap at *; omega
 unfold famK
 rw[this]
 exact anc_of h _ (by omega)
theorem z9y {f k:Nat} (hk:famK f k=true):∀ {l:List Nat},zhe f l=true→z3b l k=l
 | [],_=>rfl
 | j::l,h=>by
  simp only[zhe] at h
  cases hj:famK f j with
  | true=>rw[hj] at h; cases h
  | false =>
   rw[hj] at h
   have hne:Nat.beq j k=false:=by
    cases hb:Nat.beq j k with
    | false=>rfl
    | true=>rw[Nat.eq_of_beq_eq_true hb,hk] at hj; cases hj
   simp only[z3b,hne,cond_false,z9y hk (l:=l) h]
theorem zn6 {f k:Nat} {e:E} (hk:famK f k=true) (h:zg8 f e=true):e.kill k=e:=by
 obtain⟨stk,glo,gl⟩:=e
 simp only[zg8] at h
 cases hs:zdt f stk with
 | false=>rw[hs] at h; cases h
 | true =>
  rw[hs] at h
  have key:∀ stk,zdt f stk=true→z10 stk k=stk:=by
   intro stk
   induction stk with
   | nil=>intro _; rfl
   | cons s l ih =>
    intro h
    simp only[zdt] at h
    cases hs:zhe f s.live with
    | false=>rw[hs] at h; cases h
    | true =>
     rw[hs] at h
     simp only[z10,ih h,z9y hk hs]
     cases z0f s.live k<;>rfl
  simp only[E.kill,key stk hs,z9y hk h]
end Go.Abs
