/- On the way to: InterpLoops returns true; its listed variables read as the text lays them. -/
import Derived.Test.YthncagamgiogjaaGreatDoorA9
import Derived.Orders
set_option autoImplicit false
set_option linter.unusedSectionVars false
set_option linter.unusedSimpArgs false
set_option linter.unusedVariables false
namespace Go.Abs
open Go Go.RowKit
variable [Glob]
section
variable {P:Program} [hG:GOK P] {κ:K} {e:E} {B fid:Nat} {w₀ w:World} {fr:Fr} {d:Option Pth}
theorem s2b_sim {W:List Lo} {src dst el:TypeId} {v:AV} {x:Value} {r:R} (hs:P.underlying src=some .string) (hd:P.underlying dst=some (.slice el)) (he:P.underlying el=some (.int .u8)) (hx:VR κ v x) (hst:St κ e B w₀ w) (hin:In κ e fid fr.cnt)
  (hr:r=s2bV d fr e v) (hrb:r≠.bad):∃ val w',(convert src dst x).run P w=.ok val w'∧z1w W e κ fid B w₀ fr d r val w':=by
 unfold s2bV at hr
 split at hr
 ·cases hx with
  | str s =>
   subst hr
   obtain⟨h1,h2,h3⟩:=hst.drew.allocValF (arr:=bytesRow s (grownCap w s.size 0 el)) (t:=el) ((bytesRow s (grownCap w s.size 0 el)).size,(bytesRow s (grownCap w s.size 0 el)).size+1)
   refine⟨_,_,run_bytes_of_string w src dst el s hs hd he,.put ?_ h1 (h2.gr _ _) h3 (hin.same h2 rfl rfl (Nat.le_refl _))⟩
   have hl:(z0c (s.data.toList.map UInt8.toNat)).length=s.size:=by rw[byteVs_length]; simp
   have key:∀ (i:Nat) (y:AV) (j:Nat) (c:AV),(z0c (s.data.toList.map UInt8.toNat))[i]?=some y→y.cells[j]?=some c→j=0∧c=y∧∃ b,s.data[i]?=some b∧y=AV.int .u8 (b.toNat:Int):=by
    intro i y j c hy hc
    rw[z7f] at hy
    simp only[List.getElem?_map,Option.map_map,Option.map_eq_some_iff] at hy
    obtain⟨b,hb,rfl⟩:=hy
    cases j with
    | zero=>simp[AV.cells] at hc; exact⟨rfl,hc.symm,b,by simpa using hb,rfl⟩
    | succ j=>simp[AV.cells] at hc
   have hcell:∀ (i:Nat) (b:UInt8),s.data[i]?=some b→(bytesRow s (grownCap w s.size 0 el))[i]?=some (Value.int .u8 (b.toNat:Int)):=by
    intro i b hb
    have hi:i < s.data.size:=(Array.getElem?_eq_some_iff.1 hb).1
    unfold bytesRow
    rw[Array.getElem?_append_left (by simpa using hi)]
    simp[hb]
   rw[← hl]
   refine .sl (fun i _=>((s.data[i]?).map fun(b:UInt8)=>Value.int .u8 (b.toNat:Int)).getD (.bool true)) ?_ (fun i y hy=>?_) (fun i y j c hy hc=>?_) (fun i y j c hy hc=>?_) (fun i _=>?_) (fun h=>by cases h) (fun h=>by omega) (Nat.le_refl _)
   ·rw[hl]; exact grownCap_ge _ _ _ _
   ·rw[z7f] at hy
    simp only[List.getElem?_map,Option.map_map,Option.map_eq_some_iff] at hy
    obtain⟨b,hb,rfl⟩:=hy
    rfl
   ·obtain⟨rfl,rfl,b,hb,rfl⟩:=key i y j c hy hc
    simp only[K.addVal,hb,Option.map_some,Option.getD_some]
    have:=hcell i b hb
    rw[hl]
    simpa using this
   ·obtain⟨rfl,rfl,b,hb,rfl⟩:=key i y j c hy hc
    simp only[hb,Option.map_some,Option.getD_some]
    exact .int _ _
   ·cases s.data[i]?<;>rfl
 ·exact absurd hr hrb
theorem st_sim {t:TypeId} {n:Nat} {a v:AV} {x val:Value} {W:List Lo} {r:R} (hn:z6d P t=some n) (hx:VR κ a x) (hv:VR κ v val) (hst:St κ e B w₀ w) (hin:In κ e fid fr.cnt)
  (hr:r=optE d .undef fr (z80 e W n a v)) (hrb:r≠.bad):∃ w',(Instr.storeAt t x val).run P w=.ok () w'∧z1w W e κ fid B w₀ fr d r undef w':=by
 obtain⟨hn',hn1⟩:=z22 hn
 cases hs:z80 e W n a v with
 | none=>rw[hs] at hr; exact absurd hr hrb
 | some e' =>
  rw[hs] at hr
  subst hr
  simp only[optE]
  obtain⟨hvn,hs⟩:=z00 hs
  have hvn:=z03.1 hvn
  cases a with
  | ptr l off =>
   simp only[z6s] at hs
   obtain⟨_,hs⟩:=z00 hs
   unfold z8y at hs
   split at hs
   ·rename_i t' cs hg
    obtain⟨hfit,hs⟩:=z00 hs
    cases hs
    obtain⟨w',h1,h2⟩:=zdh hn' hn1 hvn hx hv hst hg (Nat.le_of_ble_eq_true hfit) rfl
    exact⟨w',h1,.put .undef (.refl _) (.refl _ _ _ _ _) h2 (hin.set (by rw[z2o,z5a]) (by rw[z2p,z48]))⟩
   ·cases hs
  | ep l m i off =>
   simp only[z6s] at hs
   obtain⟨_,hs⟩:=z00 hs
   unfold zlt at hs
   split at hs
   ·rename_i z es hg
    obtain⟨hm,hs'⟩:=z00 hs
    clear hs
    have hm:=z03.1 hm
    subst hm
    have hs:=hs'
    clear hs'
    unfold z8z at hs
    split at hs
    ·rename_i cs hy
     obtain⟨hfit,hs⟩:=z00 hs
     cases hs
     have hfit:=Nat.le_of_ble_eq_true hfit
     have hz:cs.length=z:=by
      have:∃ b c,κ.vb l es.length=some (b,z,c):=by
       cases hx with
       | ep h=>obtain⟨_,rfl⟩:=hst.rv l z es _ _ _ hg h; exact⟨_,_,h⟩
      obtain⟨b,c,h⟩:=this
      have hb:=hst.blk b
      rw[(hst.rv l z es b z c hg h).1] at hb
      obtain⟨arr,t',_,_,_,h4⟩:=hb z es c hg h
      exact(h4 _ _ hy).1
     obtain⟨w',h1,κ',h2,h3,h4⟩:=z9h (y':=.agg (z39 cs off v.cells)) hn' hn1 hvn hx hv hst hg hy (by omega) rfl rfl
     exact⟨w',h1,.put .undef h2 (h3.gr _ _) h4 (hin.same h3 (z2o _ _ _) (z2p _ _ _) (Nat.le_refl _))⟩
    ·rename_i y hna hy
     obtain⟨hoz,hs⟩:=z00 hs
     simp only[Bool.and_eq_true] at hoz
     have ho:=z03.1 hoz.1
     have hz:=z03.1 hoz.2
     subst ho hz
     have hvne:∀ cs,v≠.agg cs:=by
      rintro cs rfl
      cases hs
     have hs':e'=e.set l (.vec 1 (es.set i v)):=by
      cases v<;>first | (exact absurd rfl (hvne _)) | (cases hs; rfl)
     subst hs'
     have hy1:y.cells.length=1:=by
      have:∃ b c,κ.vb l es.length=some (b,1,c):=by
       cases hx with
       | ep h=>obtain⟨_,rfl⟩:=hst.rv l 1 es _ _ _ hg h; exact⟨_,_,h⟩
      obtain⟨b,c,h⟩:=this
      have hb:=hst.blk b
      rw[(hst.rv l 1 es b 1 c hg h).1] at hb
      obtain⟨arr,t',_,_,_,h4⟩:=hb 1 es c hg h
      exact(h4 _ _ hy).1
     have hvc:v.cells=[v]:=by
      cases v<;>first | rfl | (exact absurd rfl (hvne _)) | (simp[AV.cells] at hvn; omega)
     have hn1':n=1:=by rw[hvc] at hvn; simpa using hvn.symm
     obtain⟨w',h1,κ',h2,h3,h4⟩:=z9h (y':=v) hn' hn1 hvn hx hv hst hg hy (by omega) (by
      rw[hvc]
      cases hyc:y.cells with
      | nil=>rw[hyc] at hy1; simp at hy1
      | cons a rest =>
       have:rest=[]:=by rw[hyc] at hy1; simpa using hy1
       subst this
       rfl) rfl
     exact⟨w',h1,.put .undef h2 (h3.gr _ _) h4 (hin.same h3 (z2o _ _ _) (z2p _ _ _) (Nat.le_refl _))⟩
    ·cases hs
   ·cases hs
  | _=>simp only[z6s,reduceCtorEq] at hs
def z3l (P:Program) (call:z06):Prop :=
 ∀ (κ:K) (e:E) (B fid:Nat) (w₀ w:World) (f:FuncId) (args:List AV) (vals:Array Value) (W:List Lo),call f args W fid e≠.bad→St κ e B w₀ w→Ent κ e fid →
  vals.size=args.length→(∀ (i:Nat) (c:AV) (u:Value),args[i]?=some c→vals[i]?=some u→VR κ c u) →
  Nx P (callFunc f vals) w
   (fun val w'=>∃ κ' v e',call f args W fid e=.ret v e'∧VR κ' v val∧κ.le κ'∧Gr W e κ κ' fid e'.glo.length∧St κ' e' B w₀ w')
   (fun ch w'=>∃ κ' v e' val,call f args W fid e=.pan v e'∧ch=[{ v:=val,recovered:=false }]∧VR κ' v val∧κ.le κ'∧Gr W e κ κ' fid e'.glo.length∧St κ' e' B w₀ w')
theorem Nx.mono {s:Sem Next} {N N':Value→World→Prop} {Pn Pn':List PanicEntry→World→Prop} (h:Nx P s w N Pn) (hN:∀ v w',N v w'→N' v w') (hP:∀ ch w',Pn ch w'→Pn' ch w'):Nx P s w N' Pn':=by
 unfold Nx at *
 split at h
 ·exact hN _ _ h
 ·exact hN _ _ h
 ·refine h.mono fun en w' hx=>?_
  cases en with
  | returned v=>exact hN _ _ hx
  | panicked ch=>exact hP _ _ hx
  | outgrown=>exact hx
 ·exact hP _ _ h
 ·exact h.elim
theorem zj1 {call:z06} (hp:z0n call) (hok:z3l P call) {f:FuncId} {args:List AV} {vals:Array Value} {W:List Lo} {r:R}
  (hl:vals.size=args.length) (hv:∀ (i:Nat) (c:AV) (u:Value),args[i]?=some c→vals[i]?=some u→VR κ c u) (hst:St κ e B w₀ w) (hin:In κ e fid fr.cnt)
  (hroom:room fr.cnt=true) (hr:r=after d fr (call f args W (child fid fr.cnt) e)) (hrb:r≠.bad):Nx P (callFunc f vals) w (z1w W e κ fid B w₀ fr d r) (z7e W e κ fid B w₀ r):=by
 have hc:=z1k.1 hroom
 have hent:=hin.ent hc
 have hcb:call f args W (child fid fr.cnt) e≠.bad:=by intro h; rw[h] at hr; exact hrb hr
 have hgu:∀ {κ':K} {n:Nat},Gr W e κ κ' (child fid fr.cnt) n→Gr W e κ κ' fid n:=fun h=>h.up (.step .refl hc)
 refine(hok κ e B (child fid fr.cnt) w₀ w f args vals W hcb hst hent hl hv).mono (fun val w' h=>?_) fun ch w' h=>?_
 ·obtain⟨κ',v,e',h1,h2,h3,h4,h5⟩:=h
  obtain⟨g1,g2,_⟩:=hp f args W _ e v e' (.inl h1) hent.out
  rw[h1] at hr
  subst hr
  refine⟨κ',_,e',v,rfl,by rw[zd4]; rfl,h2,h3,hgu h4,h5,?_⟩
  rw[z4n]
  exact hin.called hc h4 g1 g2
 ·obtain⟨κ',v,e',val,h1,h2,h3,h4,h5,h6⟩:=h
  obtain⟨g1,g2,_⟩:=hp f args W _ e v e' (.inr h1) hent.out
  rw[h1] at hr
  subst hr
  exact⟨κ',_,e',v,val,rfl,h2,h3,h4,hgu h5,h6,hin.called hc h5 g1 g2⟩
theorem Nx.of {s s':Sem Next} {N:Value→World→Prop} {Pn:List PanicEntry→World→Prop} (h:Nx P s' w N Pn) (hs:s.run P w=s'.run P w):Nx P s w N Pn:=by
 unfold Nx at *; rw[hs]; exact h
theorem Nx.val {s:Sem Next} {f:Sem Value} {N:Value→World→Prop} {Pn:List PanicEntry→World→Prop} (hs:s=(do pure (Next.value (← f)))) (h:∃ val w',f.run P w=.ok val w'∧N val w'):Nx P s w N Pn:=by
 obtain⟨val,w',h1,h2⟩:=h
 refine .value (v:=val) (w':=w') ?_ h2
 rw[hs]; simp[h1]
theorem Nx.unit {s:Sem Next} {f:Sem Unit} {N:Value→World→Prop} {Pn:List PanicEntry→World→Prop} (hs:s=(do f; pure Next.skip)) (h:∃ w',f.run P w=.ok () w'∧N undef w'):Nx P s w N Pn:=by
 obtain⟨w',h1,h2⟩:=h
 refine .skip (w':=w') ?_ h2
 rw[hs]; simp[h1]
theorem zj2 {W:List Lo} {x:Value} {v:AV} {r:R} {f:Sem Next} (hf:f=(do pure (Next.value (← Instr.panic x)))) (hx:VR κ v x) (hst:St κ e B w₀ w) (hin:In κ e fid fr.cnt) (hr:r=panV fr e v) (hrb:r≠.bad) (N:Value→World→Prop):Nx P f w N (z7e W e κ fid B w₀ r):=by
 unfold panV at hr
 split at hr
 ·cases hx with
  | ifc h =>
   rename_i t v u
   subst hr
   have:f.run P w=.halt (.panic (.iface t u)) w:=by rw[hf]; simp[Instr.panic,goPanic,Sem.run]
   unfold Nx
   rw[this]
   exact⟨κ,fr,e,_,.iface t u,rfl,rfl,.ifc h,.refl _,.refl _ _ _ _ _,hst,hin⟩
 ·exact absurd hr hrb
def EO.isNew:EO→Bool
 | .new ..=>true
 | _=>false
theorem zc7 {s:Tm} {ρ:Operand→Value} {l:Array Operand} {axs:List AX} (h:cxs l.toList=some axs) (hx:Opd κ s ρ l.toList):(l.map ρ).size=(evs s axs).length∧∀ (i:Nat) (c:AV) (u:Value),(evs s axs)[i]?=some c→(l.map ρ)[i]?=some u→VR κ c u:=by
 obtain⟨h1,h2⟩:=zc3 h hx
 refine⟨by rw[z7d,h1]; simp,fun i c u hc hu=>h2 i c u hc (by simpa using hu)⟩
theorem zau {a b:List AV} {A C:Array Value} (h1:A.size=a.length) (h2:C.size=b.length) (h3:∀ (i:Nat) (c:AV) (u:Value),a[i]?=some c→A[i]?=some u→VR κ c u) (h4:∀ (i:Nat) (c:AV) (u:Value),b[i]?=some c→C[i]?=some u→VR κ c u) :
  (A++C).size=(a++b).length∧∀ (i:Nat) (c:AV) (u:Value),(a++b)[i]?=some c→(A++C)[i]?=some u→VR κ c u:=by
 refine⟨by simp[h1,h2],fun i c u hc hu=>?_⟩
 by_cases hi:i < a.length
 ·rw[List.getElem?_append_left hi] at hc
  rw[Array.getElem?_append_left (by omega)] at hu
  exact h3 i c u hc hu
 ·rw[List.getElem?_append_right (by omega)] at hc
  rw[Array.getElem?_append_right (by omega),h1] at hu
  exact h4 _ c u hc hu
theorem zdk {call:z06} (hp:z0n call) (hok:z3l P call) {oper:Oper} {f:FuncId} {first captured avs:List AV} {x:Operand} {args:Array Operand} {argTypes:Array TypeId} {ρ:Operand→Value} {W:List Lo} {r:R} (ho:oper.op=.call { callee:=.value x,args,argTypes })
  (hx:VR κ (.fn f first captured) (ρ x)) (ha:(args.map ρ).size=avs.length∧∀ (i:Nat) (c:AV) (u:Value),avs[i]?=some c→(args.map ρ)[i]?=some u→VR κ c u) (hst:St κ e B w₀ w) (hin:In κ e fid fr.cnt)
  (hr:r=cond (room fr.cnt) (after d fr (call f (first++avs++captured) W (child fid fr.cnt) e)) .bad) (hrb:r≠.bad):Nx P (execOp ρ oper) w (z1w W e κ fid B w₀ fr d r) (z7e W e κ fid B w₀ r):=by
 cases hroom:room fr.cnt with
 | false=>rw[hroom] at hr; exact absurd hr hrb
 | true =>
  rw[hroom] at hr
  generalize hfx:ρ x=fv at hx
  cases hx with
  | fn hF hC h1 h2 =>
   rename_i F C
   obtain⟨a1,a2⟩:=zau hF ha.1 h1 ha.2
   obtain⟨b1,b2⟩:=zau a1 hC a2 h2
   refine(zj1 hp hok b1 b2 hst hin hroom hr hrb).of ?_
   simp only[execOp,ho,resolve,hfx,Deferred.ofValue]
   rfl
theorem EO.sim {call:z06} (hp:z0n call) (hok:z3l P call) {dec a:Nat} {oper:Oper} {op:Op} {o:EO} {ws:List WX} (ho:oper.op=op) (hc:z05 P dec a op=some (.e o ws)) (hnew:o.isNew=false) {ρ:Operand→Value} {W:List Lo} {r:R}
  (hx:Opd κ fr.s ρ op.operands.toList) (hst:St κ e B w₀ w) (hin:In κ e fid fr.cnt) (hr:r=o.ev call fid W d fr e) (hrb:r≠.bad) :
  Nx P (execOp ρ oper) w (z1w W e κ fid B w₀ fr d r) (z7e W e κ fid B w₀ r):=by
 cases op
 case alloc t =>
  simp only[z05,Option.bind_eq_bind,Option.bind_eq_some_iff,Option.some.injEq,OP.e.injEq] at hc
  obtain⟨z,_,rfl,_⟩:=hc
  cases hnew
 case makeMap t rsv =>
  simp only[z05] at hc
  split at hc
  ·simp only[Option.some.injEq,OP.e.injEq] at hc; obtain⟨rfl,_⟩:=hc; cases hnew
  ·simp only[Option.some.injEq,OP.e.injEq] at hc; obtain⟨rfl,_⟩:=hc; cases hnew
  ·cases hc
 case box t x =>
  simp only[z05,Option.bind_eq_bind,Option.bind_eq_some_iff,Option.some.injEq,OP.e.injEq] at hc
  obtain⟨n,h1,ax,h2,rfl,_⟩:=hc
  obtain⟨_,hn1⟩:=z22 h1
  simp only[EO.ev,evBox] at hr
  cases hb:Nat.beq (ax.ev fr.s).cells.length n with
  | false=>rw[hb] at hr; exact absurd hr hrb
  | true =>
   rw[hb] at hr
   exact box_sim ho hn1 (z03.1 hb) (hx x (by simp[Op.operands]) ax h2) hst hin hr hrb _
 case store t x y =>
  simp only[z05,Option.bind_eq_bind,Option.bind_eq_some_iff,Option.some.injEq,OP.e.injEq] at hc
  obtain⟨n,h1,ax,h2,ay,h3,rfl,_⟩:=hc
  have key:∀ o:EO,(∃ v,o=.stx v n ax ay)∨o=.st n ax ay→r=o.ev call fid W d fr e→r=evSt n ax ay call fid W d fr e:=by
   rintro o (⟨v,rfl⟩ | rfl) hr
   ·simp only[EO.ev,evStx] at hr
    cases hc:zic v (ay.ev fr.s) (ax.ev fr.s) with
    | true=>rw[hc] at hr; exact hr
    | false=>rw[hc] at hr; exact absurd hr hrb
   ·exact hr
  have hr:=key _ (by unfold stOp; cases Nat.beq dec 1<;>cases Nat.beq dec 2<;>simp) hr
  exact .unit (by simp only[execOp,ho]) (st_sim h1 (hx x (by simp[Op.operands]) ax h2) (hx y (by simp[Op.operands]) ay h3) hst hin hr hrb)
 case convert src dst x =>
  simp only[z05] at hc
  split at hc
  ·simp only[Option.bind_eq_bind,Option.bind_eq_some_iff,Option.some.injEq,reduceCtorEq,and_false,exists_false] at hc
  ·simp only[Option.bind_eq_bind,Option.bind_eq_some_iff,Option.some.injEq,reduceCtorEq,and_false,exists_false] at hc
  ·rename_i el h1 h3
   split at hc
   ·rename_i h2
    simp only[Option.bind_eq_bind,Option.bind_eq_some_iff,Option.some.injEq,OP.e.injEq] at hc
    obtain⟨ax,h4,rfl,_⟩:=hc
    exact .val (by simp only[execOp,ho]) (s2b_sim h1 h3 h2 (hx x (by simp[Op.operands]) ax h4) hst hin hr hrb)
   ·cases hc
  ·split at hc
   ·simp only[Option.bind_eq_bind,Option.bind_eq_some_iff,Option.some.injEq,reduceCtorEq,and_false,exists_false] at hc
   ·cases hc
  ·simp only[Option.bind_eq_bind,Option.bind_eq_some_iff,Option.some.injEq,reduceCtorEq,and_false,exists_false] at hc
  ·simp only[Option.bind_eq_bind,Option.bind_eq_some_iff,z08,Option.some.injEq,reduceCtorEq,and_false,exists_false] at hc
  ·cases hc
 case makeSlice t l c =>
  simp only[z05,Option.bind_eq_bind] at hc
  split at hc
  ·rename_i el hu
   simp only[Option.bind_eq_some_iff,z08,Option.some.injEq,OP.e.injEq,Prod.exists] at hc
   obtain⟨it,h1,n,z,h2,h8,al,h3,ac,h4,rfl,_⟩:=hc
   exact .val (by simp only[execOp,ho]) (mks_sim hu h1 h2 (fun h=>(hG.u8 _).2 (by rw[h] at h8; simpa using h8)) (hx l (by simp[Op.operands]) al h3) (hx c (by simp[Op.operands]) ac h4) hst hin hr hrb)
  ·cases hc
 case mapUpdate t m k x =>
  simp only[z05,Option.bind_eq_bind] at hc
  split at hc
  ·rename_i kt el hu
   simp only[Option.bind_eq_some_iff,Option.some.injEq,OP.e.injEq] at hc
   obtain⟨ag,h1,ks,h2,am,h3,ak,h4,ax,h5,rfl,_⟩:=hc
   exact .unit (by simp only[execOp,ho]) (zj0 hu h1 h2 (hx m (by simp[Op.operands]) am h3) (hx k (by simp[Op.operands]) ak h4) (hx x (by simp[Op.operands]) ax h5) hst hin hr hrb)
  ·cases hc
 case insert t m k x =>
  simp only[z05,Option.bind_eq_bind] at hc
  split at hc
  ·rename_i kt el hu
   simp only[Option.bind_eq_some_iff,Option.some.injEq,OP.e.injEq] at hc
   obtain⟨ag,h1,ks,h2,am,h3,ak,h4,ax,h5,rfl,_⟩:=hc
   exact .unit (by simp only[execOp,ho]) (zj0 hu h1 h2 (hx m (by simp[Op.operands]) am h3) (hx k (by simp[Op.operands]) ak h4) (hx x (by simp[Op.operands]) ax h5) hst hin hr hrb)
  ·cases hc
 case mapEntry t m k =>
  simp only[z05,Option.bind_eq_bind] at hc
  split at hc
  ·rename_i kt el hu
   simp only[Option.bind_eq_some_iff,Option.some.injEq,OP.e.injEq] at hc
   obtain⟨ag,h1,ks,h2,z,h3,am,h4,ak,h5,rfl,_⟩:=hc
   exact .val (by simp only[execOp,ho]) (men_sim hu h1 h2 h3 (hx m (by simp[Op.operands]) am h4) (hx k (by simp[Op.operands]) ak h5) hst hin hr hrb)
  ·cases hc
 case entryStore t m k x =>
  simp only[z05,Option.bind_eq_bind] at hc
  split at hc
  ·rename_i kt el hu
   simp only[Option.bind_eq_some_iff,Option.some.injEq,OP.e.injEq] at hc
   obtain⟨ag,h1,ks,h2,am,h3,ak,h4,ax,h5,rfl,_⟩:=hc
   exact .unit (by simp only[execOp,ho]) (est_sim (t:=t) h1 h2 (hx m (by simp[Op.operands]) am h3) (hx k (by simp[Op.operands]) ak h4) (hx x (by simp[Op.operands]) ax h5) hst hin hr hrb)
  ·cases hc
 case panic x =>
  simp only[z05,Option.bind_eq_bind,Option.bind_eq_some_iff,Option.some.injEq,OP.e.injEq] at hc
  obtain⟨ax,h1,rfl,_⟩:=hc
  exact zj2 (by simp only[execOp,ho]) (hx x (by simp[Op.operands]) ax h1) hst hin hr hrb _
 case buildSlice t len ps =>
  simp only[z05,Option.bind_eq_bind] at hc
  split at hc
  ·simp only[Option.bind_eq_some_iff] at hc
   obtain⟨⟨n,z⟩,hz,hc⟩:=hc
   obtain⟨_,hc⟩:=z00 hc
   simp only[Option.bind_eq_some_iff,Option.some.injEq,reduceCtorEq,and_false,exists_false] at hc
  ·cases hc
 case makeFunc fn first captured =>
  cases fn<;>simp only[z05,Option.bind_eq_bind,Option.bind_eq_some_iff,Option.some.injEq,reduceCtorEq,and_false,exists_false] at hc
 case slice t x lo hi mx =>
  simp only[z05] at hc
  split at hc
  ·simp only[Option.bind_eq_bind,Option.bind_eq_some_iff,Option.some.injEq,reduceCtorEq,and_false,exists_false] at hc
  ·obtain⟨_,hc⟩:=z00 hc
   simp only[Option.bind_eq_bind,Option.bind_eq_some_iff,Option.some.injEq,reduceCtorEq,and_false,exists_false] at hc
  ·obtain⟨_,hc⟩:=z00 hc
   simp only[Option.bind_eq_bind,Option.bind_eq_some_iff,Option.some.injEq,reduceCtorEq,and_false,exists_false] at hc
  ·cases hc
 case fieldAddr t x f =>
  simp only[z05,Option.bind_eq_bind] at hc
  split at hc
  ·simp only[Option.bind_eq_some_iff] at hc
   obtain⟨fd,_,n,_,hc⟩:=hc
   split at hc
   ·cases hc
   ·simp only[Option.bind_eq_some_iff,Option.some.injEq,reduceCtorEq,and_false,exists_false] at hc
  ·cases hc
 case call c =>
  obtain⟨callee,args,argTypes⟩:=c
  simp only[z05] at hc
  split at hc
  ·simp only[Option.bind_eq_bind,Option.bind_eq_some_iff] at hc
   obtain⟨t,hat,hc⟩:=hc
   split at hc<;>simp only[Option.bind_eq_some_iff,Option.some.injEq,reduceCtorEq,and_false,exists_false] at hc
  ·rename_i s x har
   have hargs:args=#[s,x]:=by apply Array.toList_inj.1; simpa using har
   subst hargs
   simp only[Option.bind_eq_bind,Option.bind_eq_some_iff] at hc
   obtain⟨t,hat,hc⟩:=hc
   split at hc
   ·rename_i el hu
    simp only[Option.bind_eq_some_iff] at hc
    obtain⟨u,h1,dd,h2,hc⟩:=hc
    split at hc
    ·split at hc
     ·rename_i ik
      simp only[Option.bind_eq_some_iff,Option.some.injEq,OP.e.injEq,Prod.exists] at hc
      obtain⟨it,h3,n,z,h4,ax,h5,ay,h6,rfl,_⟩:=hc
      obtain⟨val,w',q1,q2⟩:=apz_sim (T:=oper.type) hat hu h1 h2 h3 h4 (hx s (by simp[Op.operands,Call.operands]) ax h5) (hx x (by simp[Op.operands,Call.operands]) ay h6) hst hin hr hrb
      exact .value (v:=val) (w':=w') (by simp only[execOp,ho,resolve]; simp[invoke,builtin,q1]) q2
     ·cases hc
    ·rename_i hsl
     simp only[Option.bind_eq_some_iff,z08,Option.some.injEq,OP.e.injEq,Prod.exists] at hc
     obtain⟨it,h3,n,z,h4,h8,ax,h5,ay,h6,rfl,_⟩:=hc
     obtain⟨it',zv,g1,g2,g3,g4,g5,g6⟩:=z3e h4 κ
     rw[h3] at g1; cases g1
     subst g2
     obtain⟨val,w',q1,q2⟩:=app_sim (T:=oper.type) (b8:=is8 z) g6 (fun h=>(hG.u8 _).2 (by rw[h] at h8; simpa using h8)) hat hu h1 h2 (by simpa using hsl) h3 g3 g4 g5 (hx s (by simp[Op.operands,Call.operands]) ax h5) (hx x (by simp[Op.operands,Call.operands]) ay h6) hst hin hr hrb
     exact .value (v:=val) (w':=w') (by simp only[execOp,ho,resolve]; simp[invoke,builtin,q1]) q2
   ·cases hc
  ·simp only[Option.bind_eq_bind,Option.bind_eq_some_iff,Option.some.injEq,reduceCtorEq,and_false,exists_false] at hc
  ·simp only[Option.bind_eq_bind,Option.bind_eq_some_iff] at hc
   obtain⟨t,hat,hc⟩:=hc
   split at hc
   ·simp only[Option.bind_eq_some_iff,z08,Option.some.injEq,reduceCtorEq,and_false,exists_false] at hc
   ·cases hc
  ·simp only[Option.bind_eq_bind,Option.bind_eq_some_iff,Option.some.injEq,reduceCtorEq,and_false,exists_false] at hc
  ·simp only[Option.bind_eq_bind,Option.bind_eq_some_iff,Option.some.injEq,reduceCtorEq,and_false,exists_false] at hc
  ·rename_i x har
   have hargs:args=#[x]:=by apply Array.toList_inj.1; simpa using har
   subst hargs
   simp only[Option.bind_eq_bind,Option.bind_eq_some_iff,Option.some.injEq,OP.e.injEq] at hc
   obtain⟨ax,h1,rfl,_⟩:=hc
   refine zj2 (f:=execOp ρ oper) (x:=ρ x) ?_ (hx x (by simp[Op.operands,Call.operands]) ax h1) hst hin hr hrb _
   simp only[execOp,ho,resolve]
   simp[invoke,builtin]
  ·simp only[Option.bind_eq_bind,Option.bind_eq_some_iff] at hc
   obtain⟨t,hat,hc⟩:=hc
   split at hc
   ·simp only[Option.bind_eq_some_iff,Option.some.injEq,reduceCtorEq,and_false,exists_false] at hc
   ·cases hc
  ·rename_i x har
   have hargs:args=#[x]:=by apply Array.toList_inj.1; simpa using har
   subst hargs
   simp only[Option.bind_eq_bind,Option.bind_eq_some_iff] at hc
   obtain⟨t,hat,hc⟩:=hc
   split at hc
   ·rename_i el hu
    simp only[Option.bind_eq_some_iff,Option.some.injEq,OP.e.injEq,Prod.exists] at hc
    obtain⟨n,z,h4,ax,h5,rfl,_⟩:=hc
    obtain⟨val,w',q1,q2⟩:=clr_sim (T:=oper.type) hat hu h4 (hx x (by simp[Op.operands,Call.operands]) ax h5) hst hin hr hrb
    exact .value (v:=val) (w':=w') (by simp only[execOp,ho,resolve]; simp[invoke,builtin,q1]) q2
   ·cases hc
  ·rename_i x y har
   have hargs:args=#[x,y]:=by apply Array.toList_inj.1; simpa using har
   subst hargs
   simp only[Option.bind_eq_bind,Option.bind_eq_some_iff] at hc
   obtain⟨t,hat,hc⟩:=hc
   split at hc
   ·rename_i el hu
    simp only[Option.bind_eq_some_iff] at hc
    obtain⟨u,hau,hc⟩:=hc
    split at hc
    ·simp only[Option.bind_eq_some_iff,Option.some.injEq,OP.e.injEq,Prod.exists] at hc
     obtain⟨n,z,h4,ax,h5,ay,h6,rfl,_⟩:=hc
     obtain⟨val,w',q1,q2⟩:=cpy_sim (T:=oper.type) hat hu h4 (hx x (by simp[Op.operands,Call.operands]) ax h5) (hx y (by simp[Op.operands,Call.operands]) ay h6) hst hin hr hrb
     exact .value (v:=val) (w':=w') (by simp only[execOp,ho,resolve]; simp[invoke,builtin,q1]) q2
    ·cases hc
   ·cases hc
  ·rename_i f
   simp only[Option.bind_eq_bind,Option.bind_eq_some_iff,Option.some.injEq,OP.e.injEq] at hc
   obtain⟨axs,h1,rfl,_⟩:=hc
   have hargs:=zc7 h1 (fun y hy=>hx y (by simp only[Op.operands,Call.operands]; simp at hy ⊢; exact .inr hy))
   exact zdk (first:=[]) (captured:=[]) hp hok ho (hx (.func f) (by simp[Op.operands,Call.operands]) _ rfl) hargs hst hin (by simpa [EO.ev,evCall] using hr) hrb
  ·rename_i f _
   simp only[Option.bind_eq_bind,Option.bind_eq_some_iff,Option.some.injEq,OP.e.injEq] at hc
   obtain⟨af,h0,axs,h1,rfl,_⟩:=hc
   have hargs:=zc7 h1 (fun y hy=>hx y (by simp only[Op.operands,Call.operands]; simp at hy ⊢; exact .inr hy))
   have hf:=hx f (by simp[Op.operands,Call.operands]) af h0
   simp only[EO.ev,zbq,z30] at hr
   split at hr
   ·rename_i g first captured heq
    rw[heq] at hf
    exact zdk hp hok ho hf hargs hst hin hr hrb
   ·exact absurd hr hrb
  ·cases hc
 all_goals first
  | (simp only[z05] at hc; done)
  | (simp only[z05,Option.bind_eq_bind,Option.bind_eq_some_iff,Option.some.injEq,reduceCtorEq,and_false,exists_false] at hc; done)
  | (simp only[z05] at hc; split at hc<;>simp only[Option.bind_eq_bind,Option.bind_eq_some_iff,Option.some.injEq,reduceCtorEq,and_false,exists_false,Prod.exists] at hc; done)
  | (simp only[z05,Option.bind_eq_bind,Option.bind_eq_some_iff] at hc; obtain⟨_,_,hc⟩:=hc; split at hc<;>first | (cases hc; done) | (split at hc<;>first | (cases hc; done) | (obtain⟨_,hc⟩:=z00 hc; simp only[Option.bind_eq_some_iff,Option.some.injEq,reduceCtorEq,and_false,exists_false] at hc; done) | (simp only[Option.bind_eq_some_iff,Option.some.injEq,reduceCtorEq,and_false,exists_false] at hc; done)))
  | skip
end
end Go.Abs
namespace Go.Abs
open Go Go.RowKit
variable [Glob]
section
variable {P:Program} [hG:GOK P] {κ:K} {e:E} {B fid:Nat} {w₀ w:World} {fr:Fr} {d:Option Pth} {W:List Lo}
theorem z1w.mono {W':List Lo} {r:R} {val:Value} {w':World} (h:z1w W e κ fid B w₀ fr d r val w') (hs:∀ l∈W',l∈W):z1w W' e κ fid B w₀ fr d r val w':=by
 obtain⟨κ',fr',e',v,h1,h2,h3,h4,h5,h6,h7⟩:=h
 exact⟨κ',fr',e',v,h1,h2,h3,h4,h5.mono hs,h6,h7⟩
theorem z7e.mono {W':List Lo} {r:R} {ch:List PanicEntry} {w':World} (h:z7e W e κ fid B w₀ r ch w') (hs:∀ l∈W',l∈W):z7e W' e κ fid B w₀ r ch w':=by
 obtain⟨κ',fr',e',v,val,h1,h2,h3,h4,h5,h6,h7⟩:=h
 exact⟨κ',fr',e',v,val,h1,h2,h3,h4,h5.mono hs,h6,h7⟩
theorem Get1.nx {s:Sem Next} {v:AV} {o:Option AV} {r:R} (h:Get1 P κ e B w₀ w s v) (hin:In κ e fid fr.cnt) (ho:o=some v) (hr:r=optV d fr e o) (Pn:List PanicEntry→World→Prop):Nx P s w (z1w W e κ fid B w₀ fr d r) Pn:=by
 obtain⟨val,w',κ',h1,h2,h3,h4,h5⟩:=h
 subst ho hr
 exact .value h1 (.put h2 h3 (h4.gr _ _) h5 (hin.same h4 rfl rfl (Nat.le_refl _)))
theorem zj3 {v:Value} {a:AV} (h:cva v=some a) (κ:K):VRs κ a.cells v.cells.toList:=by
 by_cases hc:a.cells=[]
 ·unfold cva at h
  split at h
  ·rename_i cs
   cases hcs:cvs cs.toList with
   | none=>simp[hcs] at h
   | some l =>
    simp[hcs] at h
    subst h
    have:=zd7 κ hcs
    simpa [AV.cells,Value.cells] using this
  ·rename_i hna
   unfold cv at h
   split at h<;>first
    | (cases h; simp[AV.cells] at hc; done)
    | (obtain⟨_,h⟩:=z00 h; cases h; simp[AV.cells] at hc; done)
    | (cases h; done)
 ·exact(z3i h κ).cells hc
theorem zj4 {dec a:Nat} {oper:Oper} {op:Op} {a':Nat} {g m:Bool} {ob:Ob} {ws:List WX} (ho:oper.op=op) (hc:z05 P dec a op=some (.e (.new a' g m ob) ws)) :
  ∃ obj,(∀ (ρ:Operand→Value) (w:World),(∀ v,ρ (.const v)=v)→(execOp ρ oper).run P w=.ok (.value (if m then .map (some w.heap.size) else .pointer (some ⟨w.heap.size,0,none⟩))) (w.alloc obj))∧∀ (κ:K) l,z0a κ l→ObR κ l ob (some obj):=by
 cases op
 case alloc t =>
  simp only[z05,Option.bind_eq_bind,Option.bind_eq_some_iff,Option.some.injEq,OP.e.injEq,EO.new.injEq] at hc
  obtain⟨z,h1,⟨rfl,rfl,rfl,rfl⟩,_⟩:=hc
  obtain⟨zv,h2,h3⟩:=z3d h1
  refine⟨.cells zv.cells t,fun ρ w _=>?_,fun κ l _=>⟨zv.cells,rfl,?_⟩⟩
  ·simp only[execOp,ho]
   simp[Instr.alloc,z17 w h2,newVar,newRow]
  ·exact zj3 h3 κ
 case makeMap t rsv =>
  have key:∀ (ρ:Operand→Value) (w:World),(∀ v,ρ (.const v)=v)→(execOp ρ oper).run P w=.ok (.value (.map (some w.heap.size))) (w.alloc (.map #[] 0)):=by
   intro ρ w hρ
   simp only[z05] at hc
   split at hc
   ·simp only[execOp,ho]; simp[Instr.makeMap,newObj,Sem.run]
   ·rename_i k n kt el hu
    simp only[execOp,ho]; simp[Instr.makeMap,newObj,Sem.run,run_underlying hu,hρ,asInt,asIntOf]
   ·cases hc
  have hm:m=true∧ob=.map []:=by
   simp only[z05] at hc
   split at hc<;>simp only[Option.some.injEq,OP.e.injEq,EO.new.injEq,reduceCtorEq] at hc<;>exact⟨hc.1.2.2.1.symm,hc.1.2.2.2.symm⟩
  obtain⟨rfl,rfl⟩:=hm
  refine⟨.map #[] 0,by simpa using key,fun κ l hl=>⟨#[],0,rfl,rfl,by simp,by simp,fun n _=>hl.2.2 n,fun n u hn=>?_⟩⟩
  rw[hl.2.2 n] at hn; cases hn
 case buildSlice t len ps =>
  simp only[z05,Option.bind_eq_bind] at hc
  split at hc
  ·simp only[Option.bind_eq_some_iff] at hc
   obtain⟨⟨n,z⟩,hz,hc⟩:=hc
   obtain⟨_,hc⟩:=z00 hc
   simp only[Option.bind_eq_some_iff,Option.some.injEq,reduceCtorEq,and_false,exists_false] at hc
  ·cases hc
 case makeFunc fn first captured =>
  cases fn<;>simp only[z05,Option.bind_eq_bind,Option.bind_eq_some_iff,Option.some.injEq,reduceCtorEq,and_false,exists_false] at hc
 case slice t x lo hi mx =>
  simp only[z05] at hc
  split at hc
  ·simp only[Option.bind_eq_bind,Option.bind_eq_some_iff,Option.some.injEq,reduceCtorEq,and_false,exists_false] at hc
  ·obtain⟨_,hc⟩:=z00 hc
   simp only[Option.bind_eq_bind,Option.bind_eq_some_iff,Option.some.injEq,reduceCtorEq,and_false,exists_false] at hc
  ·obtain⟨_,hc⟩:=z00 hc
   simp only[Option.bind_eq_bind,Option.bind_eq_some_iff,Option.some.injEq,reduceCtorEq,and_false,exists_false] at hc
  ·cases hc
 case fieldAddr t x f =>
  simp only[z05,Option.bind_eq_bind] at hc
  split at hc
  ·simp only[Option.bind_eq_some_iff] at hc
   obtain⟨fd,_,n,_,hc⟩:=hc
   split at hc
   ·cases hc
   ·simp only[Option.bind_eq_some_iff,Option.some.injEq,reduceCtorEq,and_false,exists_false] at hc
  ·cases hc
 case convert src dst x =>
  simp only[z05] at hc
  split at hc
  ·simp only[Option.bind_eq_bind,Option.bind_eq_some_iff,Option.some.injEq,reduceCtorEq,and_false,exists_false] at hc
  ·simp only[Option.bind_eq_bind,Option.bind_eq_some_iff,Option.some.injEq,reduceCtorEq,and_false,exists_false] at hc
  ·split at hc
   ·simp only[Option.bind_eq_bind,Option.bind_eq_some_iff,Option.some.injEq,OP.e.injEq,reduceCtorEq,false_and,and_false,exists_false] at hc
   ·cases hc
  ·split at hc
   ·simp only[Option.bind_eq_bind,Option.bind_eq_some_iff,Option.some.injEq,reduceCtorEq,and_false,exists_false] at hc
   ·cases hc
  ·simp only[Option.bind_eq_bind,Option.bind_eq_some_iff,Option.some.injEq,reduceCtorEq,and_false,exists_false] at hc
  ·simp only[Option.bind_eq_bind,Option.bind_eq_some_iff,z08,Option.some.injEq,reduceCtorEq,and_false,exists_false] at hc
  ·cases hc
 case store t x y =>
  simp only[z05,Option.bind_eq_bind,Option.bind_eq_some_iff,Option.some.injEq,OP.e.injEq] at hc
  obtain⟨n,_,ax,_,ay,_,h,_⟩:=hc
  unfold stOp at h
  cases h1:Nat.beq dec 1<;>cases h2:Nat.beq dec 2<;>simp[h1,h2] at h
 case call c =>
  obtain⟨callee,args,argTypes⟩:=c
  simp only[z05] at hc
  split at hc
  ·simp only[Option.bind_eq_bind,Option.bind_eq_some_iff] at hc
   obtain⟨t,hat,hc⟩:=hc
   split at hc<;>simp only[Option.bind_eq_some_iff,Option.some.injEq,reduceCtorEq,and_false,exists_false] at hc
  ·simp only[Option.bind_eq_bind,Option.bind_eq_some_iff] at hc
   obtain⟨t,hat,hc⟩:=hc
   split at hc
   ·simp only[Option.bind_eq_some_iff] at hc
    obtain⟨u,h1,dd,h2,hc⟩:=hc
    split at hc
    ·split at hc
     ·simp only[Option.bind_eq_some_iff,z08,Option.some.injEq,OP.e.injEq,Prod.exists,reduceCtorEq,false_and,and_false,exists_false] at hc
     ·cases hc
    ·simp only[Option.bind_eq_some_iff,z08,Option.some.injEq,OP.e.injEq,Prod.exists,reduceCtorEq,false_and,and_false,exists_false] at hc
   ·cases hc
  ·simp only[Option.bind_eq_bind,Option.bind_eq_some_iff,Option.some.injEq,reduceCtorEq,and_false,exists_false] at hc
  ·simp only[Option.bind_eq_bind,Option.bind_eq_some_iff] at hc
   obtain⟨t,hat,hc⟩:=hc
   split at hc
   ·simp only[Option.bind_eq_some_iff,z08,Option.some.injEq,reduceCtorEq,and_false,exists_false] at hc
   ·cases hc
  all_goals first
   | (simp only[Option.bind_eq_bind,Option.bind_eq_some_iff,Option.some.injEq,OP.e.injEq,reduceCtorEq,false_and,and_false,exists_false] at hc; done)
   | (cases hc; done)
   | (simp only[Option.bind_eq_bind,Option.bind_eq_some_iff] at hc; obtain⟨_,_,hc⟩:=hc; split at hc<;>first | (cases hc; done) | (simp only[Option.bind_eq_some_iff,Option.some.injEq,OP.e.injEq,Prod.exists,reduceCtorEq,false_and,and_false,exists_false] at hc; done) | (simp only[Option.bind_eq_some_iff] at hc; obtain⟨_,_,hc⟩:=hc; split at hc<;>first | (cases hc; done) | (simp only[Option.bind_eq_some_iff,Option.some.injEq,OP.e.injEq,Prod.exists,reduceCtorEq,false_and,and_false,exists_false] at hc; done)))
 all_goals first
  | (simp only[z05] at hc; done)
  | (simp only[z05,Option.bind_eq_bind,Option.bind_eq_some_iff,Option.some.injEq,reduceCtorEq,and_false,exists_false,OP.e.injEq,false_and] at hc; done)
  | (simp only[z05] at hc; split at hc<;>simp only[Option.bind_eq_bind,Option.bind_eq_some_iff,z08,Option.some.injEq,reduceCtorEq,and_false,exists_false,Prod.exists,OP.e.injEq,false_and] at hc; done)
  | (simp only[z05,Option.bind_eq_bind] at hc; split at hc<;>simp only[Option.bind_eq_some_iff,z08,Option.some.injEq,reduceCtorEq,and_false,exists_false,Prod.exists,OP.e.injEq,false_and] at hc; done)
  | (simp only[z05,Option.bind_eq_bind,Option.bind_eq_some_iff] at hc; obtain⟨_,_,hc⟩:=hc; split at hc<;>first | (cases hc; done) | (split at hc<;>first | (cases hc; done) | (obtain⟨_,hc⟩:=z00 hc; simp only[Option.bind_eq_some_iff,Option.some.injEq,reduceCtorEq,and_false,exists_false] at hc; done) | (simp only[Option.bind_eq_some_iff,Option.some.injEq,reduceCtorEq,and_false,exists_false] at hc; done)))
  | skip
theorem op_sim {call:z06} (hp:z0n call) (hok:z3l P call) {dec a:Nat} {oper:Oper} {p:OP} {ws:List WX} {ρ:Operand→Value} {r:R} (hc:z05 P dec a oper.op=some p) (hρ:∀ v,ρ (.const v)=v)
  (hx:Opd κ fr.s ρ oper.op.operands.toList) (hst:St κ e B w₀ w) (hin:In κ e fid fr.cnt) (hr:r=(z16 p ws).ev call fid W d fr e) (hrb:r≠.bad) :
  Nx P (execOp ρ oper) w (z1w (z0o fr.s W ws) e κ fid B w₀ fr d r) (z7e (z0o fr.s W ws) e κ fid B w₀ r):=by
 cases p with
 | p o =>
  simp only[z16,OP.ev,opP] at hr
  cases hv:o.ev fr.s with
  | none=>rw[hv] at hr; exact absurd hr hrb
  | some v=>exact(PO.sim rfl hc hx hv hst).nx hin hv hr _
 | r o =>
  simp only[z16,OP.ev,opR] at hr
  cases hv:o.ev fr.s e with
  | none=>rw[hv] at hr; exact absurd hr hrb
  | some v=>exact(RO.sim rfl hc hx hv hst).nx hin hv hr _
 | e o ws0 =>
  simp only[z16,OP.ev,opE] at hr
  rw[(zbx (by rw[← hr]; exact hrb)).1] at hr
  by_cases hnew:o.isNew=true
  ·cases o<;>simp only[EO.isNew,Bool.false_eq_true] at hnew
   rename_i a' g m ob
   simp only[EO.ev,zlu] at hr
   cases hn:newAt e (z0o fr.s W ws) a' g ob with
   | none=>rw[hn] at hr; exact absurd hr hrb
   | some q =>
    obtain⟨l,e₁⟩:=q
    rw[hn] at hr
    subst hr
    obtain⟨obj,h1,h2⟩:=zj4 (P:=P) (oper:=oper) rfl hc
    obtain⟨h3,h4,h5⟩:=hin.newAt (κ':=κ.addOb l w.heap.size) hn (fun l' hl' hf=>hf.addOb hl') rfl
    have hs:=(hst.newAt hn h3).allocOb (o:=obj) h3 (by
     rw[(z2q hn).2.2.1]
     exact(h2 κ l h3).mono (K.le_addOb h3.1) rfl)
    refine .value (h1 ρ w hρ) (.put ?_ (K.le_addOb h3.1) h4 hs h5)
    cases m
    ·exact .ptr (by simp[K.addOb])
    ·exact .map (by simp[K.addOb])
  ·have hnew:o.isNew=false:=by simpa using hnew
   exact EO.sim hp hok (oper:=oper) rfl hc hnew hx hst hin hr hrb
end
end Go.Abs
namespace Go.Abs
open Go Go.RowKit
variable [Glob]
def Sl (X:Nat→Prop) (κ:K) (s:Tm) (a:Act):Prop:=∀ t,¬ X t→VR κ (s.get (pth t)) (a.tmps.getD t undef)
theorem zfz (a:Act) (d:Nat) (v:Value) (t:Nat) (h:d < a.tmps.size):(a.put (some d) v).tmps.getD t undef=if t=d then v else a.tmps.getD t undef:=by
 simp only[Act.put,Array.getD_eq_getD_getElem?,Array.getElem?_setIfInBounds]
 by_cases htd:d=t
 ·subst htd; simp[h]
 ·have:¬ t=d:=Ne.symm htd
  simp[htd,this]
theorem Sl.put {X:Nat→Prop} {κ κ':K} {s:Tm} {a:Act} {dst:Option Tmp} {v:AV} {val:Value} (h:Sl X κ s a) (hle:κ.le κ') (hd:∀ d,dst=some d→d < a.tmps.size) (hv:VR κ' v val):Sl X κ' (putS (dst.map pth) s v) (a.put dst val):=by
 intro t ht
 cases dst with
 | none=>exact(h t ht).mono hle
 | some d =>
  rw[zfz a d val t (hd d rfl)]
  simp only[putS,Option.map_some]
  by_cases htd:t=d
  ·subst htd; rw[if_pos rfl,Tm.get_set_same]; exact hv
  ·rw[if_neg htd,Tm.get_set_ne _ _ _ _ (fun e=>htd (zeg e).symm)]; exact(h t ht).mono hle
theorem z4s (a:Act) (dst:Option Tmp) (v:Value):(a.put dst v).tmps.size=a.tmps.size:=by cases dst<;>simp[Act.put]
theorem zet (a:Act) (dst:Option Tmp) (v:Value):(a.put dst v).defers=a.defers:=by cases dst<;>rfl
class Dfs where
 ds:List Deferred
 kv:Nat→Option Value
def DfOK [Dfs] (a:Act):Prop:=a.defers=Dfs.ds∧∀ t u,Dfs.kv t=some u→a.tmps.getD t undef=u
theorem DfOK.put [Dfs] {a:Act} {dst:Option Tmp} {v:Value} (h:DfOK a) (hn:∀ d,dst=some d→Dfs.kv d=none):DfOK (a.put dst v):=by
 refine⟨by rw[zet]; exact h.1,fun t u hu=>?_⟩
 rw[← h.2 t u hu]
 cases dst with
 | none=>rfl
 | some d =>
  have:d≠t:=by rintro rfl; rw[hn d rfl] at hu; cases hu
  simp[Act.put,Array.getD_eq_getD_getElem?,Array.getElem?_setIfInBounds_ne this]
theorem zc8 {ops:Array Oper} {o:Oper} {t:Nat} (h:Operand.tmp t∈o.op.operands.toList):t∈reads ops o:=by
 unfold reads
 exact List.mem_append_left _ (List.mem_filterMap.2 ⟨.tmp t,h,rfl⟩)
theorem Sl.opd {X:Nat→Prop} {κ:K} {s:Tm} {a:Act} {ops:Array Oper} {o:Oper} (h:Sl X κ s a) (hgl:∀ g cs,Glob.gv g=some cs→VR κ (.vp cs 0) (.pointer (some ⟨g,0,none⟩))) (hX:∀ t∈reads ops o,¬ X t):Opd κ s a.eval o.op.operands.toList:=by
 intro x hx ax hc
 refine zby hgl hc fun t ht=>h t (hX t (zc8 ?_))
 rw[← ht]; exact hx
section
variable {P:Program} [hG:GOK P] {κ:K} {e:E} {B fid nt:Nat} {w₀ w:World} {fr:Fr} {W:List Lo} {a:Act}
theorem bad_ev {call:z06} {d:Option Pth} {ws:List WX}:(z16 bad ws).ev call fid W d fr e=.bad:=rfl
theorem z7g {ops:Array Oper} {i:Nat} {o:Oper} {p:OP} (hi:ops[i]?=some o):mkAO ops i p=⟨o.dst.map pth,mkG ops o,p⟩:=by
 have:ops.getD i default=o:=by simp[hi]
 unfold mkAO
 rw[this]
theorem zj5 {call:z06} (hp:z0n call) (hok:z3l P call) {X:Nat→Prop} {ops:Array Oper} {i:Nat} {o:Oper} {dec a0:Nat} {p:OP} {ws:List WX} {r:R} {Kn:Act→World→Prop} {Q:Exit→Act→World→Prop}
  (hi:ops[i]?=some o) (hc:p=(z05 P dec a0 o.op).getD bad) (hg:z27 ops o=true) (hsl:Sl X κ fr.s a) (hX:∀ t∈reads ops o,¬ X t)
  (hst:St κ e B w₀ w) (hin:In κ e fid fr.cnt) (hr:r=(mkAO ops i (z16 p ws)).ev call fid W fr e) (hrb:r≠.bad)
  (hK:∀ val w',z1w (z0o fr.s W ws) e κ fid B w₀ fr (o.dst.map pth) r val w'→Kn (a.put o.dst val) w') (hQ:∀ ch w',z7e (z0o fr.s W ws) e κ fid B w₀ r ch w'→Q (.panic ch) a w'):wpOp P ops Q i Kn a w:=by
 rw[z7g hi] at hr
 simp only[AO.ev] at hr
 have main:r=(z16 p ws).ev call fid W (o.dst.map pth) fr e→o.wp P a w Kn Q:=by
  intro hr
  cases hco:z05 P dec a0 o.op with
  | none =>
   rw[hco] at hc
   simp only[Option.getD_none] at hc
   subst hc
   rw[bad_ev] at hr
   exact absurd hr hrb
  | some q =>
   rw[hco] at hc
   simp only[Option.getD_some] at hc
   subst hc
   exact Nx.wp ((op_sim hp hok hco (fun _=>rfl) (hsl.opd hst.glob hX) hst hin hr hrb).mono hK hQ)
 unfold wpOp
 simp only[hi]
 cases hgd:o.guard with
 | none =>
  have hw:Region.wanted o (yielded ops a.tmps)=true:=by unfold Region.wanted; rw[hgd]
  rw[if_pos hw]
  refine .inl (main ?_)
  rw[hr]; simp only[mkG,hgd,aoG]
 | some jw =>
  obtain⟨j,want⟩:=jw
  unfold z27 at hg
  rw[hgd] at hg
  simp only[Option.isSome_iff_exists] at hg
  obtain⟨t,ht⟩:=hg
  have hmem:t∈reads ops o:=by
   unfold reads
   rw[hgd]
   exact List.mem_append_right _ (by simp[ht])
  have hv:=hsl t (hX t hmem)
  have hmk:mkG ops o=some (pth t,want):=by simp[mkG,hgd,ht]
  rw[hmk] at hr
  simp only[aoG] at hr
  have hyd:yielded ops a.tmps j=match a.tmps[t]? with | some (.bool b)=>some b | _=>none:=by
   unfold yielded
   rw[ht]; rfl
  cases hs:fr.s.get (pth t) with
  | bool b =>
   rw[hs] at hr hv
   generalize hx:a.tmps.getD t undef=x at hv
   cases hv
   have hx':a.tmps[t]?=some (.bool b):=by
    simp only[Array.getD_eq_getD_getElem?] at hx
    cases hq:a.tmps[t]? with
    | none=>rw[hq] at hx; cases hx
    | some y=>rw[hq] at hx; simp at hx; rw[hx]
   have hw:Region.wanted o (yielded ops a.tmps)=(b==want):=by
    unfold Region.wanted
    rw[hgd]
    simp only[hyd,hx']
    cases b<;>cases want<;>rfl
   simp only[z1n] at hr
   cases hbw:b==want with
   | true =>
    rw[hbw] at hr hw
    rw[if_pos hw]
    exact .inl (main hr)
   | false =>
    rw[hbw] at hr hw
    rw[hw]
    simp only[Bool.false_eq_true,if_false]
    refine hK _ _ ?_
    rw[hr]
    exact .put .undef (.refl _) (.refl _ _ _ _ _) hst hin
  | undef =>
   rw[hs] at hr hv
   generalize hx:a.tmps.getD t undef=x at hv
   cases hv
   have hw:Region.wanted o (yielded ops a.tmps)=false:=by
    unfold Region.wanted
    rw[hgd]
    simp only[hyd]
    simp only[Array.getD_eq_getD_getElem?] at hx
    cases hq:a.tmps[t]? with
    | none=>rfl
    | some y=>rw[hq] at hx; simp at hx; rw[hx]; rfl
   rw[hw]
   simp only[Bool.false_eq_true,if_false]
   refine hK _ _ ?_
   rw[hr]
   exact .put .undef (.refl _) (.refl _ _ _ _ _) hst hin
  | _=>rw[hs] at hr; exact absurd hr hrb
section
variable [Dfs]
def Told (W:List Lo) (e:E) (κ:K) (fid B nt:Nat) (w₀:World) (fr':Fr) (e':E) (a:Act) (w:World):Prop :=
 ∃ κ',κ.le κ'∧Gr W e κ κ' fid e'.glo.length∧St κ' e' B w₀ w∧In κ' e' fid fr'.cnt∧Sl (fun _=>False) κ' fr'.s a∧nt≤a.tmps.size∧DfOK a
def z5e (W:List Lo) (e:E) (κ:K) (fid B nt:Nat) (w₀:World) (r:R):Exit→Act→World→Prop
 | .normal,a,w=>∃ fr' e',r=.go fr' e'∧Told W e κ fid B nt w₀ fr' e' a w
 | .exit id,a,w=>∃ fr' e',r=.exit id fr' e'∧Told W e κ fid B nt w₀ fr' e' a w
 | .ret,a,w=>∃ fr' e',r=.ret fr' e'∧Told W e κ fid B nt w₀ fr' e' a w
 | .panic ch,a,w=>z7e W e κ fid B w₀ r ch w∧DfOK a
 | _,_,_=>False
theorem Told.trans {W:List Lo} {e e₁:E} {κ κ₁:K} {fr':Fr} {e':E} {a:Act} {w:World} (hle:κ.le κ₁) (hg:Gr W e κ κ₁ fid e₁.glo.length) (hk:Keep W e e₁) (hn:e₁.glo.length≤e'.glo.length) (h:Told W e₁ κ₁ fid B nt w₀ fr' e' a w):Told W e κ fid B nt w₀ fr' e' a w:=by
 obtain⟨κ',h1,h2,h3⟩:=h
 exact⟨κ',hle.trans h1,hg.trans h2 hk hn,h3⟩
theorem z7e.trans {e₁:E} {κ₁:K} {r:R} {ch:List PanicEntry} {w:World} (hle:κ.le κ₁) (hg:Gr W e κ κ₁ fid e₁.glo.length) (hk:Keep W e e₁) (hn:∀ v fr' e',r=.pan v fr' e'→e₁.glo.length≤e'.glo.length) (h:z7e W e₁ κ₁ fid B w₀ r ch w):z7e W e κ fid B w₀ r ch w:=by
 obtain⟨κ',fr',e',v,val,h1,h2,h3,h4,h5,h6⟩:=h
 exact⟨κ',fr',e',v,val,h1,h2,h3,hle.trans h4,hg.trans h5 hk (hn _ _ _ h1),h6⟩
theorem z5e.trans {e₁:E} {κ₁:K} {fr₁:Fr} {r:R} (hle:κ.le κ₁) (hg:Gr W e κ κ₁ fid e₁.glo.length) (hk:Keep W e e₁) (hrun:z49 W fr₁ e₁ r) {x:Exit} {a:Act} {w:World} (h:z5e W e₁ κ₁ fid B nt w₀ r x a w):z5e W e κ fid B nt w₀ r x a w:=by
 cases x with
 | normal=>obtain⟨fr',e',rfl,h2⟩:=h; exact⟨fr',e',rfl,h2.trans hle hg hk hrun.1.glo⟩
 | exit id=>obtain⟨fr',e',rfl,h2⟩:=h; exact⟨fr',e',rfl,h2.trans hle hg hk hrun.1.glo⟩
 | ret=>obtain⟨fr',e',rfl,h2⟩:=h; exact⟨fr',e',rfl,h2.trans hle hg hk hrun.1.glo⟩
 | panic ch=>exact⟨h.1.trans hle hg hk (fun v fr' e' he=>by subst he; exact hrun.1.glo),h.2⟩
 | _=>exact h.elim
theorem z1w.told {o:Oper} {r:R} {val:Value} {w':World} (h:z1w W e κ fid B w₀ fr (o.dst.map pth) r val w') (hsl:Sl (fun _=>False) κ fr.s a) (hsz:nt≤a.tmps.size) (hd:dstB nt o=true) (hkv:∀ d,o.dst=some d→Dfs.kv d=none) (hdf:DfOK a) :
  ∃ fr' e',r=.go fr' e'∧Told W e κ fid B nt w₀ fr' e' (a.put o.dst val) w':=by
 obtain⟨κ',fr',e',v,h1,h2,h3,h4,h5,h6,h7⟩:=h
 refine⟨fr',e',h1,κ',h4,h5,h6,h7,?_,by rw[z4s]; exact hsz,hdf.put hkv⟩
 rw[h2]
 refine hsl.put h4 (fun d hd'=>?_) h3
 simp only[dstB,hd',Nat.blt_eq] at hd
 exact Nat.lt_of_lt_of_le hd hsz
theorem zh4 {ops:Array Oper} {Q Q':Exit→Act→World→Prop} (hQ:∀ x a w,Q x a w→Q' x a w) {i:Nat} {Kn Kn':Act→World→Prop} (hK:∀ a w,Kn a w→Kn' a w) {a:Act} {w:World} (h:wpOp P ops Q i Kn a w):wpOp P ops Q' i Kn' a w:=by
 have hL:LetsOut Q→LetsOut Q':=fun⟨a,w,h⟩=>⟨a,w,hQ _ _ _ h⟩
 unfold wpOp at *
 split
 ·rename_i ho; rw[ho] at h; exact hK _ _ h
 ·rename_i o ho
  rw[ho] at h
  simp only at h
  split
  ·rename_i hw
   rw[if_pos hw] at h
   refine h.imp (fun h=>?_) fun h=>⟨h.1,hL h.2⟩
   unfold Oper.wp at *
   revert h
   generalize (execOp a.eval o).run P w=r
   intro h
   cases r with
   | ok n w' =>
    cases n<;>simp only[Oper.upon] at h ⊢ <;>
     first
      | exact hK _ _ h
      | exact Calls.mono h (fun e w'' he=>by cases e<;>first | exact hK _ _ he | exact hQ _ _ _ he | exact hL he)
      | exact Rows.mono h (fun _ _ he=>hK _ _ he)
   | halt x w'=>cases x<;>simp only[Oper.upon] at h ⊢<;>exact hQ _ _ _ h
  ·rename_i hw
   rw[if_neg hw] at h
   exact hK _ _ h
theorem zav {ops:Array Oper} {Q Q':Exit→Act→World→Prop} (hQ:∀ x a w,Q x a w→Q' x a w):∀ (l:List Nat) (a:Act) (w:World),wpOps P ops Q l a w→wpOps P ops Q' l a w
 | [],_,_,h=>hQ _ _ _ h
 | i::rest,a,w,h=>by
  rw[wpOps_cons] at *
  exact zh4 hQ (fun a w=>zav hQ rest a w) h
theorem zdl {call:z06} (hp:z0n call) (hok:z3l P call) {ops:Array Oper} (hpl:z90 nt ops=true) (hkv:∀ o∈ops.toList,∀ d,o.dst=some d→Dfs.kv d=none) :
  ∀ (l:List (OP × Nat)),(∀ q∈l,∃ o dec a0,ops[q.2]?=some o∧q.1=(z05 P dec a0 o.op).getD bad)→∀ {κ:K} {e:E} {w:World} {fr:Fr} {a:Act} {r:R},
   Sl (fun _=>False) κ fr.s a→nt≤a.tmps.size→DfOK a→St κ e B w₀ w→In κ e fid fr.cnt→r=z0j call fid W (l.map fun q=>mkAO ops q.2 q.1) fr e→r≠.bad →
   wpOps P ops (z5e W e κ fid B nt w₀ r) (l.map (·.2)) a w
 | [],_,κ,e,w,fr,a,r,hsl,hsz,hdf,hst,hin,hr,_=>by
  have hr:r=.go fr e:=hr
  subst hr
  exact⟨fr,e,rfl,κ,.refl _,.refl _ _ _ _ _,hst,hin,hsl,hsz,hdf⟩
 | q::l,hl,κ,e,w,fr,a,r,hsl,hsz,hdf,hst,hin,hr,hrb=>by
  obtain⟨o,dec,a0,hi,hc⟩:=hl q (List.mem_cons_self ..)
  simp only[List.map_cons] at hr ⊢
  rw[wpOps_cons]
  have hww:z16 q.1 []=q.1∨∃ eo ws,q.1=.e eo ws:=by
   cases q.1 with
   | p _=>exact .inl rfl
   | r _=>exact .inl rfl
   | e eo ws=>exact .inr ⟨eo,ws,rfl⟩
  have hwp:∃ ws,q.1=z16 q.1 ws:=by
   rcases hww with h | ⟨eo,ws,h⟩
   ·exact⟨[],h.symm⟩
   ·exact⟨ws,by rw[h]; rfl⟩
  obtain⟨ws,hws⟩:=hwp
  have hr':r=R.bind (z0j call fid W (l.map fun q=>mkAO ops q.2 q.1)) ((mkAO ops q.2 q.1).ev call fid W fr e):=hr
  have hop:∀ o'∈ops.toList,dstB nt o'=true∧z27 ops o'=true:=by
   intro o' ho'
   have:=List.all_eq_true.1 hpl o' ho'
   simpa using this
  have ho:=hop o (Array.mem_toList_iff.2 (Array.mem_of_getElem? hi))
  have hrb1:(mkAO ops q.2 q.1).ev call fid W fr e≠.bad:=by
   intro h; rw[h] at hr'; exact hrb hr'
  have hgo:=AO.pure hp (mkAO ops q.2 q.1) (W:=W) (fr:=fr) (e:=e) hin.fut
  refine zj5 hp hok (W:=W) (fr:=fr) (e:=e) (κ:=κ) (B:=B) (fid:=fid) (w₀:=w₀) (ws:=ws) (X:=fun _=>False) (r:=(mkAO ops q.2 q.1).ev call fid W fr e) hi hc ho.2 hsl (fun _ _=>id) hst hin (by rw[← hws]) hrb1 (fun val w' h=>?_) fun ch w' h=>?_
  ·obtain⟨fr',e',h1,κ',g1,g2,g3,g4,g5,g6,g7⟩:=(h.mono (W':=W) fun l hl=>z2r hl).told hsl hsz ho.1 (hkv o (Array.mem_toList_iff.2 (Array.mem_of_getElem? hi))) hdf
   rw[h1] at hr' hgo
   have hr2:r=z0j call fid W (l.map fun q=>mkAO ops q.2 q.1) fr' e':=hr'
   have:=zdl hp hok hpl hkv l (fun q' hq'=>hl q' (List.mem_cons_of_mem _ hq')) g5 g6 g7 g3 g4 hr2 hrb
   refine zav (fun x a w hx=>?_) _ _ _ this
   refine z5e.trans g1 g2 hgo.1 (fr₁:=fr') ?_ hx
   rw[hr2]
   exact z97 hp _ fr' e' g4.fut
  ·refine⟨?_,hdf⟩
   obtain⟨κ',fr',e',v,val,h1,h2⟩:=h.mono (W':=W) fun l hl=>z2r hl
   rw[h1] at hr'
   exact⟨κ',fr',e',v,val,hr',h2⟩
end
end
end Go.Abs
namespace Go.Abs
open Go Go.RowKit
variable [Glob]
section
variable {s s':Tm} {e e':E}
theorem AX.congr {x:AX} (h:∀ p∈x.sl,s.get p=s'.get p):x.ev s=x.ev s':=by
 cases x with
 | t p=>exact h p (by simp[AX.sl])
 | c v=>rfl
theorem z9k:∀ {l:List AX},(∀ p∈axsl l,s.get p=s'.get p)→evs s l=evs s' l
 | [],_=>rfl
 | x::l,h=>by
  simp only[axsl,List.mem_append] at h
  simp only[evs]
  rw[AX.congr fun p hp=>h p (.inl hp),z9k fun p hp=>h p (.inr hp)]
theorem zaw:∀ {ps:List (Nat × Nat × AX)} {cs:List AV},(∀ p∈axsl (ps.map (·.2.2)),s.get p=s'.get p)→bldA s cs ps=bldA s' cs ps
 | [],_,_=>rfl
 | (o,n,x)::ps,cs,h=>by
  simp only[List.map_cons,axsl,List.mem_append] at h
  simp only[bldA]
  rw[AX.congr fun p hp=>h p (.inl hp),zaw fun p hp=>h p (.inr hp)]
theorem zax {z:Nat}:∀ {ps:List (Nat × AX)} {cs:List AV},(∀ p∈axsl (ps.map (·.2)),s.get p=s'.get p)→bslA s z cs ps=bslA s' z cs ps
 | [],_,_=>rfl
 | (i,x)::ps,cs,h=>by
  simp only[List.map_cons,axsl,List.mem_append] at h
  simp only[bslA]
  rw[AX.congr fun p hp=>h p (.inl hp),zax fun p hp=>h p (.inr hp)]
theorem z3m {d:Nat} {x:Option AX} (h:∀ p∈slO' x,s.get p=s'.get p):z1m s d x=z1m s' d x:=by
 cases x with
 | none=>rfl
 | some x =>
  simp only[z1m]
  rw[AX.congr h]
theorem PO.congr {o:PO} (h:∀ p∈o.sl,s.get p=s'.get p):o.ev s=o.ev s':=by
 cases o with
 | mov x=>simp only[PO.ev,evMov]; rw[AX.congr h]
 | nilc x=>simp only[PO.ev,zi8]; rw[AX.congr h]
 | un o x=>simp only[PO.ev,evUn]; rw[AX.congr h]
 | cvi k x=>simp only[PO.ev,zlm]; rw[AX.congr h]
 | cvs x=>simp only[PO.ev,zln]; rw[AX.congr h]
 | ifc t x=>simp only[PO.ev,evIfc]; rw[AX.congr h]
 | fad o x=>simp only[PO.ev,evFad]; rw[AX.congr h]
 | fld a o n x=>simp only[PO.ev,evFld]; rw[AX.congr h]
 | ext x i=>simp only[PO.ev,zlo]; rw[AX.congr h]
 | tas t ok z x=>simp only[PO.ev,evTas]; rw[AX.congr h]
 | len st x=>simp only[PO.ev,evLen]; rw[AX.congr h]
 | usd x=>simp only[PO.ev,evUsd]; rw[AX.congr h]
 | ust x y =>
  simp only[PO.sl,List.mem_append] at h
  simp only[PO.ev,evUst]; rw[AX.congr (x:=x) fun p hp=>h p (.inl hp),AX.congr (x:=y) fun p hp=>h p (.inr hp)]
 | pick c a b =>
  simp only[PO.sl,List.mem_append] at h
  simp only[PO.ev,zi7]
  rw[AX.congr (x:=c) fun p hp=>h p (.inl hp)]
  have ha:a.ev s=a.ev s':=AX.congr fun p hp=>h p (.inr (.inl hp))
  have hb:b.ev s=b.ev s':=AX.congr fun p hp=>h p (.inr (.inr hp))
  cases c.ev s'<;>simp only[zi6,ha,hb]
 | bin op k x y =>
  simp only[PO.sl,List.mem_append] at h
  simp only[PO.ev,evBin]; rw[AX.congr (x:=x) fun p hp=>h p (.inl hp),AX.congr (x:=y) fun p hp=>h p (.inr hp)]
 | iad z x y =>
  simp only[PO.sl,List.mem_append] at h
  simp only[PO.ev,evIad]; rw[AX.congr (x:=x) fun p hp=>h p (.inl hp),AX.congr (x:=y) fun p hp=>h p (.inr hp)]
 | iaa n z x y =>
  simp only[PO.sl,List.mem_append] at h
  simp only[PO.ev,evIaa]; rw[AX.congr (x:=x) fun p hp=>h p (.inl hp),AX.congr (x:=y) fun p hp=>h p (.inr hp)]
 | ixs x y =>
  simp only[PO.sl,List.mem_append] at h
  simp only[PO.ev,evIxs]; rw[AX.congr (x:=x) fun p hp=>h p (.inl hp),AX.congr (x:=y) fun p hp=>h p (.inr hp)]
 | ixa n z a x y =>
  simp only[PO.sl,List.mem_append] at h
  simp only[PO.ev,evIxa]; rw[AX.congr (x:=x) fun p hp=>h p (.inl hp),AX.congr (x:=y) fun p hp=>h p (.inr hp)]
 | mm m x y =>
  simp only[PO.sl,List.mem_append] at h
  simp only[PO.ev,evMm]; rw[AX.congr (x:=x) fun p hp=>h p (.inl hp),AX.congr (x:=y) fun p hp=>h p (.inr hp)]
 | mkf f a b =>
  simp only[PO.sl,List.mem_append] at h
  simp only[PO.ev,evMkf]; rw[z9k fun p hp=>h p (.inl hp),z9k fun p hp=>h p (.inr hp)]
 | bld z ps=>simp only[PO.ev,zi9]; rw[zaw h]
 | bsl n z zero ps=>simp only[PO.ev,evBsl]; rw[zax h]
 | cap x=>simp only[PO.ev,evCap]; rw[AX.congr h]
 | sla m x lo hi =>
  simp only[PO.sl,List.mem_append] at h
  simp only[PO.ev,evSla]
  rw[AX.congr (x:=x) fun p hp=>h p (.inl hp)]
  have h1:∀ d,z1m s d lo=z1m s' d lo:=fun d=>z3m fun p hp=>h p (.inr (.inl hp))
  have h2:∀ d,z1m s d hi=z1m s' d hi:=fun d=>z3m fun p hp=>h p (.inr (.inr hp))
  unfold slaA
  split<;>simp only[h1,h2]
 | sls st z x lo hi mx =>
  simp only[PO.sl,List.mem_append] at h
  simp only[PO.ev,evSls]
  rw[AX.congr (x:=x) fun p hp=>h p (.inl hp)]
  have h1:∀ d,z1m s d lo=z1m s' d lo:=fun d=>z3m fun p hp=>h p (.inr (.inl hp))
  have h2:∀ d,z1m s d hi=z1m s' d hi:=fun d=>z3m fun p hp=>h p (.inr (.inr (.inl hp)))
  have h3:∀ d,z1m s d mx=z1m s' d mx:=fun d=>z3m fun p hp=>h p (.inr (.inr (.inr hp)))
  unfold slsA
  have e1:∀ v,slsS s v lo hi mx=slsS s' v lo hi mx:=by intro v; unfold slsS; split<;>simp only[h1,h2]
  have e2:∀ v,slsL s z v lo hi mx=slsL s' z v lo hi mx:=by
   intro v
   unfold slsL
   split
   ·simp only[h1,h2]
    cases mx with
    | none=>rfl
    | some m=>simp only[h3]
   ·simp only[h1,h2]
    cases mx with
    | none=>rfl
    | some m=>simp only[h3]
   ·rfl
  rw[e1,e2]
theorem z9l {ag:Bool} {n:Nat} {v:AV} (h:∀ l∈z24 v,e.get l=e'.get l):z19 e ag n v=z19 e' ag n v:=by
 cases v<;>simp only[z19]
 ·rw[h _ (by simp[z24])]
 ·rw[h _ (by simp[z24])]
theorem z9m {v:AV} (h:∀ l∈z24 v,e.get l=e'.get l):z3v e v=z3v e' v:=by
 cases v<;>simp only[z3v]
 rw[h _ (by simp[z24])]
theorem zdm {v:AV} (h:∀ l∈z24 v,e.get l=e'.get l):z15 e v=z15 e' v:=by
 cases v<;>simp only[z15]
 all_goals rw[h _ (by simp[z24])]
theorem zh5 {v:AV} (h:∀ l∈z24 v,e.get l=e'.get l):cvuA e v=cvuA e' v:=by
 cases v<;>simp only[cvuA]
 rw[h _ (by simp[z24])]
theorem zh6 {ok:List (Nat × Nat × Nat)} {v:AV} (h:∀ l∈z24 v,e.get l=e'.get l):cvpA e ok v=cvpA e' ok v:=by
 cases v<;>simp only[cvpA]
 rw[h _ (by simp[z24])]
theorem zg {a b:AV} (h:zed a b=true):a=b:=by
 unfold zed at h
 split at h
 ·simp only[Bool.and_eq_true,decide_eq_true_eq] at h; rw[h.1,h.2]
 ·rw[eq_of_beq h]
 ·rfl
 ·rfl
 ·simp only[Bool.and_eq_true,decide_eq_true_eq] at h; rw[h.1,z03.1 h.2]
 ·simp only[decide_eq_true_eq] at h; rw[h]
 ·cases h
theorem zj6:∀ {x y:List AV},simL x y=true→x=y
 | [],[],_=>rfl
 | a::x,b::y,h=>by
  simp only[simL] at h
  cases hs:zed a b with
  | false=>rw[hs] at h; cases h
  | true=>rw[hs] at h; rw[zg hs,zj6 h]
 | [],_::_,h=>by cases h
 | _::_,[],h=>by cases h
theorem simE_eq {a b:AV} (h:simE a b=true):a=b:=by
 unfold simE at h
 split at h
 ·simp only[Bool.and_eq_true] at h; rw[z03.1 h.1,z03.1 h.2.1,zj6 h.2.2]
 ·simp only[Bool.and_eq_true,decide_eq_true_eq] at h
  rw[h.1,z03.1 h.2.1,z03.1 h.2.2.1,z03.1 h.2.2.2.1,z03.1 h.2.2.2.2.1,eq_of_beq h.2.2.2.2.2]
 ·exact zg h
theorem simO_eq {a b:Option AV} {v:AV} (h:simO a b=true) (ha:a=some v):b=some v:=by
 subst ha
 cases b with
 | none=>cases h
 | some w=>rw[simE_eq h]
theorem RO.congr {o:RO} (h:∀ p∈o.sl,s.get p=s'.get p) (hl:∀ x∈o.looks,∀ l∈z24 (x.ev s),e.get l=e'.get l):o.ev s e=o.ev s' e':=by
 cases o with
 | ld ag n a =>
  simp only[RO.ev,evLd]
  rw[z9l (hl a (by simp[RO.looks])),AX.congr h]
 | ldc a =>
  simp only[RO.ev,zib]
  rw[z9l (hl a (by simp[RO.looks])),AX.congr h]
 | lku ag ks ok z m k =>
  simp only[RO.sl,List.mem_append] at h
  simp only[RO.ev,zlr]
  rw[z9m (hl m (by simp[RO.looks])),AX.congr (x:=m) fun p hp=>h p (.inl hp),AX.congr (x:=k) fun p hp=>h p (.inr hp)]
 | mlen m =>
  simp only[RO.ev,zfj]
  rw[z9m (hl m (by simp[RO.looks])),AX.congr h]
 | b2s x =>
  simp only[RO.ev,zls]
  rw[zdm (hl x (by simp[RO.looks])),AX.congr h]
 | cvu x =>
  simp only[RO.ev,zlp]
  rw[zh5 (hl x (by simp[RO.looks])),AX.congr h]
 | cvp ok x =>
  simp only[RO.ev,zlq]
  rw[zh6 (hl x (by simp[RO.looks])),AX.congr h]
theorem RO.there {o:RO} {v:AV} (h:o.ev s e=some v):∀ x∈o.looks,∀ l∈z24 (x.ev s),e.get l≠.none:=by
 intro x hx l hl hn
 cases o with
 | ld ag n a =>
  simp only[RO.looks,List.mem_singleton] at hx
  subst hx
  simp only[RO.ev,evLd] at h
  revert h hl
  generalize x.ev s=y
  intro hl h
  cases y<;>simp only[z24,List.mem_singleton,List.not_mem_nil] at hl<;>first | (subst hl; simp[z19,hn,z78] at h; done) | (subst hl; simp[z19,hn,zgp] at h; done) | (simp[z19] at h; done)
 | ldc a =>
  simp only[RO.looks,List.mem_singleton] at hx
  subst hx
  simp only[RO.ev,zib] at h
  revert h hl
  generalize x.ev s=y
  intro hl h
  cases y<;>simp only[z24,List.mem_singleton,List.not_mem_nil] at hl<;>first | (subst hl; simp[z19,hn,z78] at h; done) | (subst hl; simp[z19,hn,zgp] at h; done) | (simp[z19] at h; done)
 | lku ag ks ok z m k =>
  simp only[RO.looks,List.mem_singleton] at hx
  subst hx
  simp only[RO.ev,zlr] at h
  revert h hl
  generalize x.ev s=y
  intro hl h
  cases y<;>simp only[z24,List.mem_singleton,List.not_mem_nil] at hl<;>first | (subst hl; simp[z3v,hn,z8,lkuM] at h; done) | (simp[z3v,lkuM] at h; done)
 | mlen m =>
  simp only[RO.looks,List.mem_singleton] at hx
  subst hx
  simp only[RO.ev,zfj] at h
  revert h hl
  generalize x.ev s=y
  intro hl h
  cases y<;>simp only[z24,List.mem_singleton,List.not_mem_nil] at hl<;>first | (subst hl; simp[z3v,hn,z8,zgq] at h; done) | (simp[z3v,zgq] at h; done)
 | b2s x' =>
  simp only[RO.looks,List.mem_singleton] at hx
  subst hx
  simp only[RO.ev,zls] at h
  revert h hl
  generalize x.ev s=y
  intro hl h
  cases y<;>simp only[z24,List.mem_singleton,List.not_mem_nil] at hl<;>first | (subst hl; simp[z15,hn,z8x,zec,b2sE] at h; done) | (simp[z15,b2sE] at h; done)
 | cvu x' =>
  simp only[RO.looks,List.mem_singleton] at hx
  subst hx
  simp only[RO.ev,zlp] at h
  revert h hl
  generalize x.ev s=y
  intro hl h
  cases y<;>simp only[z24,List.mem_singleton,List.not_mem_nil] at hl<;>first | (subst hl; simp[cvuA,hn,cvuO] at h; done) | (simp[cvuA] at h; done)
 | cvp ok x' =>
  simp only[RO.looks,List.mem_singleton] at hx
  subst hx
  simp only[RO.ev,zlq] at h
  revert h hl
  generalize x.ev s=y
  intro hl h
  cases y<;>simp only[z24,List.mem_singleton,List.not_mem_nil] at hl<;>first
   | (subst hl; simp[cvpA,hn,cvpO] at h; done)
   | (simp[cvpA] at h; done)
theorem zg0 (ks:List CK):∀ {xs:List AV} {b:Bool},eqk ks xs xs=some b→b=true:=by
 induction ks with
 | nil =>
  intro xs b h
  cases xs with
  | nil=>simpa [eqk] using h.symm
  | cons=>simp[eqk] at h
 | cons c ks ih =>
  intro xs b h
  cases xs with
  | nil=>cases c<;>simp[eqk] at h
  | cons x xs =>
   cases c<;>cases x<;>simp only[eqk,reduceCtorEq] at h
   ·obtain⟨r,h1,rfl⟩:=z0e h
    rw[ih h1]; simp
   ·obtain⟨_,h⟩:=z23 h
    obtain⟨r,h1,rfl⟩:=z0e h
    rw[ih h1]; simp
   ·obtain⟨r,h1,rfl⟩:=z0e h
    rw[ih h1,strEq_iff]; simp
theorem zms {ag:Bool} {ks:List CK} {k:AV} {b:Bool} (h:eqT ag ks k k=some b):b=true:=by
 unfold eqT at h
 split at h
 ·exact zg0 _ h
 ·exact zg0 _ h
 ·cases h
theorem zg1 {ag:Bool} {ks:List CK} {k z:AV}:∀ {es:List (AV × AV)},find ag ks k es=some none→find ag ks k (put ag ks k z es)=some (some z)
 | [],h=>by
  simp only[find] at h
  cases he:eqT ag ks k k with
  | none=>simp[he,zaf] at h
  | some b =>
   have:=zms he
   subst this
   simp[put,find,he,z8c]
 | (a,v)::es,h=>by
  simp only[find] at h
  cases he:eqT ag ks k a with
  | none=>simp[he,z8c] at h
  | some b =>
   cases b with
   | true=>simp[he,z8c] at h
   | false =>
    simp only[he,z8c] at h
    simp only[put,he,putB,find,z8c]
    exact zg1 h
theorem lku_men {ag:Bool} {ks:List CK} {z k m v:AV} {W:List Lo} {d:Option Pth} {fr fr':Fr} (h:lkuM ag ks false z k (z3v e m)=some v) (hm:menV ag ks W d fr e k z m=.go fr' e'):lkuM ag ks false z k (z3v e' m)=some v:=by
 cases m<;>simp only[menV,reduceCtorEq] at hm
 case map l =>
  cases hg:e.get l<;>rw[hg] at hm<;>simp only[menO,reduceCtorEq] at hm
  rename_i es
  cases hfd:find ag ks k es<;>rw[hfd] at hm<;>simp only[menF,reduceCtorEq] at hm
  rename_i fo
  cases fo<;>simp only[menF] at hm<;>cases hfr:free W l<;>simp only[hfr,cond_false,cond_true,reduceCtorEq,R.go.injEq] at hm
  ·obtain⟨_,rfl⟩:=hm
   simp only[z3v,hg,z8,lkuM,hfd,lkuF,cond_false] at h
   have hgs:(e.set l (.map (put ag ks k z es))).get l=.map (put ag ks k z es):=E.get_set_same _ _ _ (by rw[hg]; simp)
   simp only[z3v,hgs,z8,lkuM,zg1 hfd,lkuF,cond_false]
   exact h
  ·obtain⟨_,rfl⟩:=hm; exact h
theorem zeq_eq {a b:AV} (h:zeq a b=true):a=b:=by
 unfold zeq at h
 split at h<;>simp only[Bool.and_eq_true,decide_eq_true_eq,beq_iff_eq,Bool.false_eq_true] at h
 all_goals first
  | rfl
  | (subst h; rfl)
  | (obtain⟨rfl,rfl⟩:=h; rfl)
  | (rw[z03.1 h.1,z03.1 h.2])
theorem zc9 {a b:AX} (h:axEq a b=true):a=b:=by
 unfold axEq at h
 split at h
 ·simp at h; rw[h]
 ·cases h
end
end Go.Abs
