/- On the way to: InterpLoops returns true; its listed variables read as the text lays them. -/
import Derived.Test.YthncagamgiogjaaGreatDoorL2
import Derived.Test.YthncagamgiogjaaGreatDoorV1
import Derived.Test.YthncagamgiogjaaGreatDoorL1
import Derived.Test.YthncagamgiogjaaGreatDoorB6
import Derived.KernelRfl
namespace Go.Abs.Run
open Go Go.Abs Go.Proofs
noncomputable def z0l:Nat→Option z07:=addI intr 111 (z0q z7n)
theorem z3r:z0v Tryz.prog z0l∧z0d z0l:=z3o zf8 itoa_ok
noncomputable def z3a:Nat→Option z07:=addI (addI z0l 65 (z0q (anyR tab z0l 65))) 63 (z0q (anyR tab z0l 63))
theorem ze3:z0v Tryz.prog z3a∧z0d z3a:=z3o (z3o z3r (zcn z2e z3r mixed)) (zcn z2e z3r mixed)
theorem zhv:LNum tab z0l:=by constructor<;>rfl
theorem lTok1:LTok tab z3a:=by constructor<;>rfl
theorem lBG:LBuilder tab z0l:=by constructor<;>rfl
theorem lTKG:LToldK tab z0l:={ lBG with p58:=rfl,i58:=rfl,p32:=rfl,i32:=rfl }
theorem znh:IOK Tryz.prog 32 (z0q zea):=zli z2e z3r mixed lTKG rfl
theorem fg_si {S:List Nat} {p:Int}:∀ a∈[AV.str S,AV.int .i64 p],Fg a a:=by
 intro a ha
 simp at ha
 rcases ha with rfl | rfl
 ·exact .str _
 ·exact .int _ _
theorem fg_cut (t:TokK):Fg t.cut t.cut:=.agg rfl fun i c d h1 h2=>by
 rw[h1] at h2; cases h2
 match i,h1 with
 | 0,h1=>cases h1; exact .int _ _
 | 1,h1=>cases h1; exact .int _ _
 | 2,h1=>cases h1; exact .str _
 | 3,h1=>cases h1; exact .int _ _
 | 4,h1=>cases h1; exact .int _ _
 | 5,h1=>cases h1; exact .int _ _
 | 6,h1=>cases h1; exact .int _ _
 | i+7,h1=>simp at h1
theorem z6n {S:List Nat} {p:Nat} {t:TokK} (h:z4i tab z0l 65 [.str S,.int .i64 p] t.cut) (fid:Nat) (e:E):cal tab z3a 65 [.str S,.int .i64 p] [] fid e=.ret t.cut e:=z2y (g:=anyR tab z0l 65) rfl (zf7 h (fg_cut t) fg_si) [] fid e
theorem z2z {S:List Nat} {p q:Nat} (h:z4i tab z0l 63 [.str S,.int .i64 p] (.int .i64 q)) (fid:Nat) (e:E):cal tab z3a 63 [.str S,.int .i64 p] [] fid e=.ret (.int .i64 q) e:=z2y (g:=anyR tab z0l 63) rfl (zf7 h (.int _ _) fg_si) [] fid e
noncomputable def z8j (v:AV):CR→Bool
 | .ret v' _=>avEq v' v
 | _=>false
theorem z2f {f:Nat} {args:List AV} {v:AV} (h:z8j v (z09 tab z0l 300 f args [] 1 ⟨[],[],[]⟩)=true):z4i tab z0l f args v:=by
 cases hc:z09 tab z0l 300 f args [] 1 ⟨[],[],[]⟩ with
 | ret w e' =>
  rw[hc] at h
  rw[← z1 _ _ h]
  exact⟨e',(z6y 300 f args [] 1 ⟨[],[],[]⟩ (by rw[hc]; simp)).trans hc⟩
 | _=>rw[hc] at h; cases h
noncomputable def z88 (S:List Nat):Nat→List (TokK × Nat)→Option Nat
 | p,[]=>some p
 | p,(t,q)::l=>cond (Nat.blt p (lenK S 0) && (z8j t.cut (z09 tab z0l 300 65 [.str S,.int .i64 (.ofNat p)] [] 1 ⟨[],[],[]⟩) && z8j (.int .i64 (.ofNat q)) (z09 tab z0l 300 63 [.str S,.int .i64 (.ofNat t.q)] [] 1 ⟨[],[],[]⟩))) (z88 S q l) none
theorem zcr {α:Type}:∀ (c:List α) (k:Nat),lenK c k=k+c.length
 | [],k=>by cases k<;>rfl
 | a::c,0=>by show lenK c 1=_; rw[zcr c 1,List.length_cons]; omega
 | a::c,k+1=>by show lenK c (k+2)=_; rw[zcr c (k+2),List.length_cons]; omega
theorem z2v {S:List Nat} {r:Nat} {rest:List TokK}:∀ (l:List (TokK × Nat)) (p:Nat),z88 S p l=some r→Cuts tab z3a S r rest→Cuts tab z3a S p (l.map (·.1)++rest)
 | [],p,h,hr=>by cases h; exact hr
 | (t,q)::l,p,h,hr=>by
  obtain⟨h1,h2⟩:=z00 h
  simp only[Bool.and_eq_true] at h1
  obtain⟨h3,h4,h5⟩:=h1
  rw[zcr,Nat.blt_eq] at h3
  exact .cons (by omega) (z6n (z2f h4)) (z2z (z2f h5)) (z2v l q h2 hr)
def vq (k b:Nat):AV:=.int .i64 (.ofNat (Nat.add b k))
noncomputable def astP (k:Nat):AV:=(.tup [(.agg [vz,vz,vz,(vi 0),(.str []),(.str []),vz,(vi 1),(.str []),vz,vz,vz,(.sl 0 7 [(.agg [(vi 11),(vi 1),(.str [105]),vz,(.sl 1 7 [(.agg [(vi 19),(vi 1),(vi 0),(.str []),vz,vz,vz])]),vz,vz]),(.agg [(vi 22),(vi 5),(.str []),vz,(.sl 1 7 [(.agg [(vi 30),(vi 19),(vi 0),(.str []),vz,vz,(.sl 1 7 [(.agg [(vi 28),(vi 4),(vi 0),(.str [105]),vz,vz,vz]),(.agg [(vi 32),(vi 1),(.int .i64 (.negSucc 4241)),(.str []),vz,vz,vz])])])]),(.sl 0 7 [(.agg [(vq k 35),(vi 3),(.str []),vz,(.sl 1 7 [(.agg [(vq k 41),(vi 4),(vi 0),(.str [105]),vz,vz,vz])]),vz,vz]),(.agg [(vq k 44),(vi 2),(.str [105]),vz,(.sl 1 7 [(.agg [(vq k 50),(vi 16),(vi 0),(.str []),vz,vz,(.sl 1 7 [(.agg [(vq k 48),(vi 4),(vi 0),(.str [105]),vz,vz,vz]),(.agg [(vq k 52),(vi 1),(vi 1),(.str []),vz,vz,vz])])])]),vz,vz])]),vz]),(.agg [(vq k 57),(vi 6),(.str []),vz,(.sl 1 7 [(.agg [(vq k 64),(vi 4),(vi 0),(.str [105]),vz,vz,vz])]),vz,vz])])]),(vi 0),(vi 0)])
noncomputable def za7 (k:Nat):AV:=(.tup [(.agg [vz,vz,vz,(vi 0),(.str []),(.str []),vz,(vi 1),(.str []),vz,vz,vz,(.sl 1208931584224351238488078 7 [(.agg [(vi 11),(vi 1),(.str [105]),vz,(.sl 1 7 [(.agg [(vi 19),(vi 1),(vi 0),(.str []),vz,vz,vz])]),vz,vz]),(.agg [(vi 22),(vi 5),(.str []),vz,(.sl 1 7 [(.agg [(vi 30),(vi 19),(vi 0),(.str []),vz,vz,(.sl 1 7 [(.agg [(vi 28),(vi 4),(vi 0),(.str [105]),vz,vz,vz]),(.agg [(vi 32),(vi 1),(.int .i64 (.negSucc 4241)),(.str []),vz,vz,vz])])])]),(.sl 1329234334040334872607580526379794442 7 [(.agg [(vq k 35),(vi 3),(.str []),vz,(.sl 1 7 [(.agg [(vq k 41),(vi 4),(vi 0),(.str [105]),vz,vz,vz])]),vz,vz]),(.agg [(vq k 44),(vi 2),(.str [105]),vz,(.sl 1 7 [(.agg [(vq k 50),(vi 16),(vi 0),(.str []),vz,vz,(.sl 1 7 [(.agg [(vq k 48),(vi 4),(vi 0),(.str [105]),vz,vz,vz]),(.agg [(vq k 52),(vi 1),(vi 1),(.str []),vz,vz,vz])])])]),vz,vz])]),vz]),(.agg [(vq k 57),(vi 6),(.str []),vz,(.sl 1 7 [(.agg [(vq k 64),(vi 4),(vi 0),(.str [105]),vz,vz,vz])]),vz,vz])])]),(vi 0),(vi 0)])
theorem fg_tok (t:TokK):Fg t.tok t.tok:=.agg rfl fun i c d h1 h2=>by
 rw[h1] at h2; cases h2
 match i,h1 with
 | 0,h1=>cases h1; exact .int _ _
 | 1,h1=>cases h1; exact .int _ _
 | 2,h1=>cases h1; exact .str _
 | 3,h1=>cases h1; exact .int _ _
 | i+4,h1=>simp at h1
noncomputable def tokV (l:List TokK):AV:=.tup [.sl 0 4 (l.map TokK.tok),.int .i64 0,.int .i64 0]
theorem tokV_fg {kk:Nat} {l:List TokK} (hk:¬ kk=1):Fg (.tup [.sl kk 4 (l.map TokK.tok),.int .i64 0,.int .i64 0]) (tokV l):=.tup rfl fun i c d h1 h2=>by
 match i,h1,h2 with
 | 0,h1,h2 =>
  cases h1; cases h2
  have h0:0=cond (Nat.beq kk 1) 1 0:=by rw[z3p]; simp[hk]
  have key:Fg (.sl kk 4 (l.map TokK.tok)) (.sl (cond (Nat.beq kk 1) 1 0) 4 (l.map TokK.tok)):=.sl rfl (fun i x y hx hy=>by rw[hx] at hy; cases hy; rfl) fun i x y j c d hx hy hc hd=>by
   rw[hx] at hy; cases hy
   rw[hc] at hd; cases hd
   rw[List.getElem?_map,Option.map_eq_some_iff] at hx
   obtain⟨t,_,rfl⟩:=hx
   have:=fg_tok t
   unfold TokK.tok at this hc
   cases this with
   | agg _ h=>exact h j c c hc hc
  rw[← h0] at key
  exact key
 | 1,h1,h2=>cases h1; cases h2; exact .int _ _
 | 2,h1,h2=>cases h1; cases h2; exact .int _ _
 | i+3,h1,_=>simp at h1
noncomputable def z4k (S:List Nat) (tv:AV):Nat→Option z07:=addI z3a 34 (z0q (oneC [.str S] tv))
theorem fg_s1 {S:List Nat}:∀ a∈[AV.str S],Fg a a:=by intro a ha; simp at ha; subst ha; exact .str _
theorem ze4 {S:List Nat} {l:List TokK} (h:∃ kk z,z4i tab z3a 34 [.str S] (.tup [.sl kk z (l.map TokK.tok),.int .i64 0,.int .i64 0])∧z=4∧¬ kk=1):z0v Tryz.prog (z4k S (tokV l))∧z0d (z4k S (tokV l)):=by
 obtain⟨kk,z,h1,rfl,h2⟩:=h
 exact z3o ze3 (z8v z2e ze3 mixed h1 (tokV_fg h2) fg_s1)
noncomputable def z1e (S:List Nat) (tv av qa qv:AV):Nat→Option z07:=addI (addI (addI (z4k S tv) 13 (z0q (oneC [.str S] av))) 42 (z0q (oneC [qa] qv))) 32 (z0q zea)
theorem lI4 (S:List Nat) (tv av qa qv:AV):LInterp tab (z1e S tv av qa qv):=by constructor<;>rfl
theorem lT4 (S:List Nat) (tv av qa qv:AV):LTop tab (z1e S tv av qa qv):={ lI4 S tv av qa qv with p18:=rfl,i18:=rfl,p17:=rfl,i17:=rfl }
theorem lP4 (S:List Nat) (tv av qa qv:AV):LPrint tab (z1e S tv av qa qv):={ lT4 S tv av qa qv with p62:=rfl,i62:=rfl }
theorem lR4 (S:List Nat) (tv av qa qv:AV):LRunI tab (z1e S tv av qa qv):=by constructor<;>rfl
def X1p (k:Nat):E:=⟨[],[(.cells 78 [(.ptr (.gl 8) 0),(.ptr (.gl 13) 0),(.hs (.gl 17) 3 9 0 9 false),(vi 0),(vi 0),(vi 14),vz,vz,(.ptr (.gl 15) 0)]),(.cells 99 [(.ptr (.gl 0) 0),vz,vz,vz,(vi 0),(.str []),(.str []),vz,(vi 1),(.str []),vz,vz,vz,(.sl 0 7 [(.agg [(vi 11),(vi 1),(.str [105]),vz,(.sl 1 7 [(.agg [(vi 19),(vi 1),(vi 0),(.str []),vz,vz,vz])]),vz,vz]),(.agg [(vi 22),(vi 5),(.str []),vz,(.sl 1 7 [(.agg [(vi 30),(vi 19),(vi 0),(.str []),vz,vz,(.sl 1 7 [(.agg [(vi 28),(vi 4),(vi 0),(.str [105]),vz,vz,vz]),(.agg [(vi 32),(vi 1),(.int .i64 (.negSucc 4241)),(.str []),vz,vz,vz])])])]),(.sl 0 7 [(.agg [(vq k 35),(vi 3),(.str []),vz,(.sl 1 7 [(.agg [(vq k 41),(vi 4),(vi 0),(.str [105]),vz,vz,vz])]),vz,vz]),(.agg [(vq k 44),(vi 2),(.str [105]),vz,(.sl 1 7 [(.agg [(vq k 50),(vi 16),(vi 0),(.str []),vz,vz,(.sl 1 7 [(.agg [(vq k 48),(vi 4),(vi 0),(.str [105]),vz,vz,vz]),(.agg [(vq k 52),(vi 1),(vi 1),(.str []),vz,vz,vz])])])]),vz,vz])]),vz]),(.agg [(vq k 57),(vi 6),(.str []),vz,(.sl 1 7 [(.agg [(vq k 64),(vi 4),(vi 0),(.str [105]),vz,vz,vz])]),vz,vz])]),(.ptr (.gl 3) 0),vz,(vi 0),(.map (.gl 14)),(vi 0),(vi 1),(vi 2)]),(.map []),(.cells 192 [(.hs (.gl 4) 5 4 0 4 false),vz,vz]),(.vec 5 [(.agg [(vi 1),vz,vz,vz,(.str [])]),(.agg [(vi 1),vz,vz,vz,(.str [])]),(.agg [(vi 2),vz,vz,vz,(.str [])]),(.agg [(vi 3),vz,vz,vz,(.str [])])]),(.vec 5 [(.agg [(vi 1),vz,vz,vz,(.str [])]),(.agg [(vi 1),vz,vz,vz,(.str [])]),(.agg [(vi 2),vz,vz,vz,(.str [])]),(.agg [(vi 3),vz,vz,vz,(.str [])])]),(.cells 192 [(.hs (.gl 5) 5 4 0 4 false),vz,vz]),(.vec 4 [(.agg [(vi 0),(.str [105,110,116]),(.sl 1 1 []),(.sl 1 1 [])]),(.agg [(vi 2),(.str [98,111,111,108]),(.sl 1 1 []),(.sl 1 1 [])]),(.agg [(vi 3),(.str [116,101,120,116]),(.sl 1 1 []),(.sl 1 1 [])])]),(.cells 227 [(.ptr (.gl 6) 0),(.sl 1267651809156354860234608476178 1 [(vi 0),(vi 0),(vi 1),(vi 2)]),(.hs (.gl 7) 4 3 0 3 true)]),(.vec 5 [(.agg [(vi 1),vz,vz,vz,(.str [])]),(.agg [(vi 1),vz,vz,vz,(.str [])]),(.agg [(vi 2),vz,vz,vz,(.str [])]),(.agg [(vi 3),vz,vz,vz,(.str [])])]),(.cells 192 [(.hs (.gl 9) 5 4 0 4 false),vz,vz]),(.map [((.agg [(vi 0),(vi 0)]),(vi 1))]),(.map []),(.cells 238 [(.ptr (.gl 8) 0),(.ptr (.gl 10) 0),(.map (.gl 11)),(.map (.gl 12))]),(.map []),(.cells 71 [(.str []),(.str []),vz,vz,(vi 0),(vi 0),(.sl 1329229263437933953925370315058184200 1 [(.ptr (.gl 16) 0),(.ptr (.gl 19) 0),(.ptr (.gl 29) 0)])]),(.cells 156 [(vi 1),(.str [105]),(.ptr (.gl 18) 0),vz,vz]),(.vec 3 [(.agg [(vi 19),(vi 1),(vi 0)]),(.agg [(vi 30),(vi 19),(vi 1)]),(.agg [(vi 28),(vi 4),(vi 0)]),(.agg [(vi 32),(vi 1),(vi 0)]),(.agg [(vq k 41),(vi 4),(vi 0)]),(.agg [(vq k 50),(vi 16),(vi 0)]),(.agg [(vq k 48),(vi 4),(vi 0)]),(.agg [(vq k 52),(vi 1),(vi 0)]),(.agg [(vq k 64),(vi 4),(vi 0)])]),(.cells 262 [(vi 19),(vi 1),(vi 0),(.str []),vz,vz,vz,(vi 0),(vi 0),vz,(vi 0),(.str []),(.str []),(vi 0),(.bool false),(.bool false),vz]),(.cells 156 [(vi 5),(.str []),(.ptr (.gl 20) 0),(.sl 1461503031130136283626863699933214069494800973830 1 [(.ptr (.gl 23) 0),(.ptr (.gl 25) 0)]),vz]),(.cells 262 [(vi 30),(vi 19),(vi 0),(.str []),vz,vz,vz,(vi 1),(vi 0),vz,(vi 0),(.str []),(.str []),(vi 0),(.bool false),(.bool false),(.sl 1461503031130136283626863699933214069494799925254 1 [(.ptr (.gl 21) 0),(.ptr (.gl 22) 0)])]),(.cells 262 [(vi 28),(vi 4),(vi 0),(.str [105]),vz,vz,vz,(vi 0),(vi 0),vz,(vi 0),(.str []),(.str []),(vi 0),(.bool false),(.bool false),vz]),(.cells 262 [(vi 32),(vi 1),(.int .i64 (.negSucc 4241)),(.str []),vz,vz,vz,(vi 0),(vi 0),vz,(vi 0),(.str []),(.str []),(vi 0),(.bool false),(.bool false),vz]),(.cells 156 [(vi 3),(.str []),(.ptr (.gl 24) 0),vz,vz]),(.cells 262 [(vq k 41),(vi 4),(vi 0),(.str [105]),vz,vz,vz,(vi 0),(vi 0),vz,(vi 0),(.str []),(.str []),(vi 0),(.bool false),(.bool false),vz]),(.cells 156 [(vi 2),(.str [105]),(.ptr (.gl 26) 0),vz,vz]),(.cells 262 [(vq k 50),(vi 16),(vi 0),(.str []),vz,vz,vz,(vi 0),(vi 0),vz,(vi 0),(.str []),(.str []),(vi 0),(.bool false),(.bool false),(.sl 1606939576757454146099292123715254224037693804702774255943686 1 [(.ptr (.gl 27) 0),(.ptr (.gl 28) 0)])]),(.cells 262 [(vq k 48),(vi 4),(vi 0),(.str [105]),vz,vz,vz,(vi 0),(vi 0),vz,(vi 0),(.str []),(.str []),(vi 0),(.bool false),(.bool false),vz]),(.cells 262 [(vq k 52),(vi 1),(vi 1),(.str []),vz,vz,vz,(vi 0),(vi 0),vz,(vi 0),(.str []),(.str []),(vi 0),(.bool false),(.bool false),vz]),(.cells 156 [(vi 6),(.str []),(.ptr (.gl 30) 0),vz,vz]),(.cells 262 [(vq k 64),(vi 4),(vi 0),(.str [105]),vz,vz,vz,(vi 0),(vi 0),vz,(vi 0),(.str []),(.str []),(vi 0),(.bool false),(.bool false),vz])],[1329229263437933953925370315058184200,1461503031130136283626863699933214069494800973830,1606939576757454146099292123715254224037693804702774255943686,1461503031130136283626863699933214069494799925254,1267651809156354860234608476178]⟩
def E1p (k:Nat):E:=psh fRs (X1p k)
def X2q (k:Nat):E:=⟨[],[(.cells 78 [(.ptr (.gl 8) 0),(.ptr (.gl 13) 0),(.hs (.gl 17) 3 9 0 9 false),(vi 0),(vi 0),(vi 14),vz,vz,(.ptr (.gl 15) 0)]),(.cells 99 [(.ptr (.gl 0) 0),vz,vz,vz,(vi 0),(.str []),(.str []),vz,(vi 1),(.str []),vz,vz,vz,(.sl 0 7 [(.agg [(vi 11),(vi 1),(.str [105]),vz,(.sl 1 7 [(.agg [(vi 19),(vi 1),(vi 0),(.str []),vz,vz,vz])]),vz,vz]),(.agg [(vi 22),(vi 5),(.str []),vz,(.sl 1 7 [(.agg [(vi 30),(vi 19),(vi 0),(.str []),vz,vz,(.sl 1 7 [(.agg [(vi 28),(vi 4),(vi 0),(.str [105]),vz,vz,vz]),(.agg [(vi 32),(vi 1),(.int .i64 (.negSucc 4241)),(.str []),vz,vz,vz])])])]),(.sl 0 7 [(.agg [(vq k 35),(vi 3),(.str []),vz,(.sl 1 7 [(.agg [(vq k 41),(vi 4),(vi 0),(.str [105]),vz,vz,vz])]),vz,vz]),(.agg [(vq k 44),(vi 2),(.str [105]),vz,(.sl 1 7 [(.agg [(vq k 50),(vi 16),(vi 0),(.str []),vz,vz,(.sl 1 7 [(.agg [(vq k 48),(vi 4),(vi 0),(.str [105]),vz,vz,vz]),(.agg [(vq k 52),(vi 1),(vi 1),(.str []),vz,vz,vz])])])]),vz,vz])]),vz]),(.agg [(vq k 57),(vi 6),(.str []),vz,(.sl 1 7 [(.agg [(vq k 64),(vi 4),(vi 0),(.str [105]),vz,vz,vz])]),vz,vz])]),(.ptr (.gl 3) 0),vz,(vi 0),(.map (.gl 14)),(vi 0),(vi 1),(vi 2)]),(.map []),(.cells 192 [(.hs (.gl 4) 5 4 0 4 false),vz,vz]),(.vec 5 [(.agg [(vi 1),vz,vz,vz,(.str [])]),(.agg [(vi 1),vz,vz,vz,(.str [])]),(.agg [(vi 2),vz,vz,vz,(.str [])]),(.agg [(vi 3),vz,vz,vz,(.str [])])]),(.vec 5 [(.agg [(vi 1),vz,vz,vz,(.str [])]),(.agg [(vi 1),vz,vz,vz,(.str [])]),(.agg [(vi 2),vz,vz,vz,(.str [])]),(.agg [(vi 3),vz,vz,vz,(.str [])])]),(.cells 192 [(.hs (.gl 5) 5 4 0 4 false),vz,vz]),(.vec 4 [(.agg [(vi 0),(.str [105,110,116]),(.sl 1 1 []),(.sl 1 1 [])]),(.agg [(vi 2),(.str [98,111,111,108]),(.sl 1 1 []),(.sl 1 1 [])]),(.agg [(vi 3),(.str [116,101,120,116]),(.sl 1 1 []),(.sl 1 1 [])])]),(.cells 227 [(.ptr (.gl 6) 0),(.sl 1267651809156354860234608476178 1 [(vi 0),(vi 0),(vi 1),(vi 2)]),(.hs (.gl 7) 4 3 0 3 true)]),(.vec 5 [(.agg [(vi 1),vz,vz,vz,(.str [])]),(.agg [(vi 1),vz,vz,vz,(.str [])]),(.agg [(vi 2),vz,vz,vz,(.str [])]),(.agg [(vi 3),vz,vz,vz,(.str [])])]),(.cells 192 [(.hs (.gl 9) 5 4 0 4 false),vz,vz]),(.map [((.agg [(vi 0),(vi 0)]),(vi 1))]),(.map []),(.cells 238 [(.ptr (.gl 8) 0),(.ptr (.gl 10) 0),(.map (.gl 11)),(.map (.gl 12))]),(.map []),(.cells 71 [(.str []),(.str []),vz,vz,(vi 0),(vi 0),(.sl 1329229263437933953925370315058184200 1 [(.ptr (.gl 16) 0),(.ptr (.gl 19) 0),(.ptr (.gl 29) 0)])]),(.cells 156 [(vi 1),(.str [105]),(.ptr (.gl 18) 0),vz,vz]),(.vec 3 [(.agg [(vi 19),(vi 1),(vi 0)]),(.agg [(vi 30),(vi 19),(vi 1)]),(.agg [(vi 28),(vi 4),(vi 0)]),(.agg [(vi 32),(vi 1),(vi 0)]),(.agg [(vq k 41),(vi 4),(vi 0)]),(.agg [(vq k 50),(vi 16),(vi 0)]),(.agg [(vq k 48),(vi 4),(vi 0)]),(.agg [(vq k 52),(vi 1),(vi 0)]),(.agg [(vq k 64),(vi 4),(vi 0)])]),(.cells 262 [(vi 19),(vi 1),(vi 0),(.str []),vz,vz,vz,(vi 0),(vi 0),vz,(vi 0),(.str []),(.str []),(vi 0),(.bool false),(.bool false),vz]),(.cells 156 [(vi 5),(.str []),(.ptr (.gl 20) 0),(.sl 1461503031130136283626863699933214069494800973830 1 [(.ptr (.gl 23) 0),(.ptr (.gl 25) 0)]),vz]),(.cells 262 [(vi 30),(vi 19),(vi 0),(.str []),vz,vz,vz,(vi 1),(vi 0),vz,(vi 0),(.str []),(.str []),(vi 0),(.bool false),(.bool false),(.sl 1461503031130136283626863699933214069494799925254 1 [(.ptr (.gl 21) 0),(.ptr (.gl 22) 0)])]),(.cells 262 [(vi 28),(vi 4),(vi 0),(.str [105]),vz,vz,vz,(vi 0),(vi 0),vz,(vi 0),(.str []),(.str []),(vi 0),(.bool false),(.bool false),vz]),(.cells 262 [(vi 32),(vi 1),(.int .i64 (.negSucc 4241)),(.str []),vz,vz,vz,(vi 0),(vi 0),vz,(vi 0),(.str []),(.str []),(vi 0),(.bool false),(.bool false),vz]),(.cells 156 [(vi 3),(.str []),(.ptr (.gl 24) 0),vz,vz]),(.cells 262 [(vq k 41),(vi 4),(vi 0),(.str [105]),vz,vz,vz,(vi 0),(vi 0),vz,(vi 0),(.str []),(.str []),(vi 0),(.bool false),(.bool false),vz]),(.cells 156 [(vi 2),(.str [105]),(.ptr (.gl 26) 0),vz,vz]),(.cells 262 [(vq k 50),(vi 16),(vi 0),(.str []),vz,vz,vz,(vi 0),(vi 0),vz,(vi 0),(.str []),(.str []),(vi 0),(.bool false),(.bool false),(.sl 1606939576757454146099292123715254224037693804702774255943686 1 [(.ptr (.gl 27) 0),(.ptr (.gl 28) 0)])]),(.cells 262 [(vq k 48),(vi 4),(vi 0),(.str [105]),vz,vz,vz,(vi 0),(vi 0),vz,(vi 0),(.str []),(.str []),(vi 0),(.bool false),(.bool false),vz]),(.cells 262 [(vq k 52),(vi 1),(vi 1),(.str []),vz,vz,vz,(vi 0),(vi 0),vz,(vi 0),(.str []),(.str []),(vi 0),(.bool false),(.bool false),vz]),(.cells 156 [(vi 6),(.str []),(.ptr (.gl 30) 0),vz,vz]),(.cells 262 [(vq k 64),(vi 4),(vi 0),(.str [105]),vz,vz,vz,(vi 0),(vi 0),vz,(vi 0),(.str []),(.str []),(vi 0),(.bool false),(.bool false),vz]),(.cells 144 [(.ptr (.gl 8) 0),(.sl 1208928125459837413752850 1 [(vi 1),(vi 2),(vi 3)]),(.sl 1208928125459837413752852 1 [(.sl 1 1 []),(.sl 1 1 []),(.sl 1 1 [])])]),(.vec 5 [(.agg [(vi 1),vz,vz,vz,(.str [])]),(.agg [(vi 1),vz,vz,vz,(.str [])]),(.agg [(vi 2),vz,vz,vz,(.str [])]),(.agg [(vi 3),vz,vz,vz,(.str [])])]),(.cells 192 [(.hs (.gl 32) 5 4 0 4 false),vz,vz]),(.map []),(.cells 105 [(.ptr (.gl 0) 0),(.ptr (.gl 31) 0),(vi 100000),(vi 0),(vi 0),vz,(vi 0),(.map (.gl 34))])],[1208928125459837413752852,1208928125459837413752850,1329229263437933953925370315058184200,1461503031130136283626863699933214069494800973830,1606939576757454146099292123715254224037693804702774255943686,1461503031130136283626863699933214069494799925254,1267651809156354860234608476178]⟩
def X2p (k:Nat):E:=psh fRs (X2q k)
def E2p (k:Nat):E:=psh (fR1 1048578 (.gl 0)) (X2p k)
noncomputable def nV (m:Nat):AV:=.int .i64 (.ofNat m)
noncomputable def astV (k m:Nat):AV:=subA (nV m) (astP k)
end Go.Abs.Run
namespace Go.Abs.Run
open Go Go.Abs Go.Proofs
def tA:List Nat:=[109,97,105,110,32,105,110,116,32,123,32,108,101,116,32,105,32,61,32,48,32,59,32,119,104,105,108,101,32,105,32,60,32]
def tB:List Nat:=[32,123,32,112,114,105,110,116,32,105,32,59,32,105,32,61,32,105,32,43,32,49,32,59,32,125,32,114,101,116,117,114,110,32,105,32,59,32,125]
noncomputable def astPQ (k:Nat):AV:=(.agg [vz,vz,vz,(vi 0),(.str []),(.str []),vz,(vi 1),(.str []),vz,vz,vz,(.sl 0 7 [(.agg [(vi 11),(vi 1),(.str [105]),vz,(.sl 1 7 [(.agg [(vi 19),(vi 1),(vi 0),(.str []),vz,vz,vz])]),vz,vz]),(.agg [(vi 22),(vi 5),(.str []),vz,(.sl 1 7 [(.agg [(vi 30),(vi 19),(vi 0),(.str []),vz,vz,(.sl 1 7 [(.agg [(vi 28),(vi 4),(vi 0),(.str [105]),vz,vz,vz]),(.agg [(vi 32),(vi 1),(.int .i64 (.negSucc 4241)),(.str []),vz,vz,vz])])])]),(.sl 0 7 [(.agg [(vq k 35),(vi 3),(.str []),vz,(.sl 1 7 [(.agg [(vq k 41),(vi 4),(vi 0),(.str [105]),vz,vz,vz])]),vz,vz]),(.agg [(vq k 44),(vi 2),(.str [105]),vz,(.sl 1 7 [(.agg [(vq k 50),(vi 16),(vi 0),(.str []),vz,vz,(.sl 1 7 [(.agg [(vq k 48),(vi 4),(vi 0),(.str [105]),vz,vz,vz]),(.agg [(vq k 52),(vi 1),(vi 1),(.str []),vz,vz,vz])])])]),vz,vz])]),vz]),(.agg [(vq k 57),(vi 6),(.str []),vz,(.sl 1 7 [(.agg [(vq k 64),(vi 4),(vi 0),(.str [105]),vz,vz,vz])]),vz,vz])])])
noncomputable def astQ (k m:Nat):AV:=subA (nV m) (astPQ k)
end Go.Abs.Run
