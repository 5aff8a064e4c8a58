/- On the way to: InterpLoops returns true; its listed variables read as the text lays them. -/
import GoSem.Core.Program
import GoSem.Core.View
import GoSem.Core.Region
import GoSem.Core.Layout
set_option autoImplicit false
set_option linter.unusedSectionVars false
set_option linter.unusedSimpArgs false
set_option linter.unusedVariables false
namespace Go.Abs
open Go
inductive Lo where
 | lo (fid a inst:Nat)
 | gl (id:Nat)
 deriving DecidableEq,Inhabited
inductive Pth where
 | e
 | l (p:Pth)
 | r (p:Pth)
 deriving DecidableEq,Inhabited
def pthF:Nat→Nat→Pth
 | 0,_=>.e
 | f+1,n=>if n=0 then .e else if n % 2=1 then .l (pthF f (n / 2)) else .r (pthF f (n / 2 - 1))
def pth (n:Nat):Pth:=pthF n n
inductive AV where
 | undef
 | bool (b:Bool)
 | int (k:IntKind) (n:Int)
 | str (s:List Nat)
 | nilp
 | ptr (l:Lo) (off:Nat)
 | vp (cs:List AV) (off:Nat)
 | ep (l:Lo) (size idx off:Nat)
 | sl (k z:Nat) (xs:List AV)
 | hs (l:Lo) (z size off len:Nat) (ex:Bool)
 | as (l:Lo) (off n:Nat)
 | nilm
 | map (l:Lo)
 | fn (f:FuncId) (first captured:List AV)
 | nilf
 | ifc (t:TypeId) (v:AV)
 | nili
 | agg (cs:List AV)
 | tup (vs:List AV)
 | stamp (l:Lo) (k:AV)
 | dp (k:Nat) (xs:List AV)
 deriving Inhabited
class Glob where
 gv:Nat→Option (List AV)
 u8:TypeId→Prop
inductive Ob where
 | none
 | cells (t:TypeId) (cs:List AV)
 | vec (z:Nat) (es:List AV)
 | map (es:List (AV × AV))
 deriving Inhabited
def AV.cells:AV→List AV
 | .agg cs=>cs
 | .tup _=>[]
 | .undef=>[]
 | v=>[v]
inductive Tm where
 | nil
 | node (v:AV) (l r:Tm)
 deriving Inhabited
noncomputable def Tm.get (t:Tm):Pth→AV :=
 Tm.rec (motive:=fun _=>Pth→AV) (fun _=>.undef) (fun v _ _ gl gr p=>Pth.rec (motive:=fun _=>AV) v (fun q _=>gl q) (fun q _=>gr q) p) t
noncomputable def Tm.set (t:Tm) (p:Pth):AV→Tm :=
 Pth.rec (motive:=fun _=>Tm→AV→Tm)
  (fun t x=>Tm.rec (motive:=fun _=>Tm) (.node x .nil .nil) (fun _ l r _ _=>.node x l r) t)
  (fun _ ih t x=>Tm.rec (motive:=fun _=>Tm) (.node .undef (ih .nil x) .nil) (fun v l r _ _=>.node v (ih l x) r) t)
  (fun _ ih t x=>Tm.rec (motive:=fun _=>Tm) (.node .undef .nil (ih .nil x)) (fun v l r _ _=>.node v l (ih r x)) t) p t
structure FS where
 fid:Nat
 objs:List (Nat × Ob × Ob)
 live:List Nat
 deriving Inhabited
structure E where
 stk:List FS
 glo:List Ob
 gl:List Nat
 deriving Inhabited
noncomputable def z40 (f:FS) (a inst:Nat):Ob :=
 match f.objs[a]? with
 | some (i,cur,prev)=>cond (Nat.beq i inst) cur (cond (Nat.beq i (inst+1)) prev .none)
 | none=>.none
noncomputable def z2i (f:FS) (a inst:Nat) (o:Ob):FS :=
 match f.objs[a]? with
 | some (i,cur,prev) =>
  cond (Nat.beq i inst) ⟨f.fid,f.objs.set a (i,o,prev),f.live⟩
   (cond (Nat.beq i (inst+1)) ⟨f.fid,f.objs.set a (i,cur,o),f.live⟩ f)
 | none=>f
noncomputable def z0z:List FS→Nat→Nat→Nat→Ob
 | [],_,_,_=>.none
 | f::rest,fid,a,inst=>cond (Nat.beq f.fid fid) (z40 f a inst) (z0z rest fid a inst)
noncomputable def z18:List FS→Nat→Nat→Nat→Ob→List FS
 | [],_,_,_,_=>[]
 | f::rest,fid,a,inst,o=>cond (Nat.beq f.fid fid) (z2i f a inst o::rest) (f::z18 rest fid a inst o)
noncomputable def E.get:E→Lo→Ob
 | ⟨stk,_,_⟩,.lo fid a inst=>z0z stk fid a inst
 | ⟨_,glo,_⟩,.gl i=>match glo[i]? with | some o=>o | none=>.none
noncomputable def E.set:E→Lo→Ob→E
 | ⟨stk,glo,gl⟩,.lo fid a inst,o=>⟨z18 stk fid a inst o,glo,gl⟩
 | ⟨stk,glo,gl⟩,.gl i,o=>⟨stk,glo.set i o,gl⟩
noncomputable def z0f:List Nat→Nat→Bool
 | [],_=>false
 | j::l,k=>cond (Nat.beq j k) true (z0f l k)
noncomputable def z3b:List Nat→Nat→List Nat
 | [],_=>[]
 | j::l,k=>cond (Nat.beq j k) (z3b l k) (j::z3b l k)
noncomputable def z0u:List FS→Nat→Bool
 | [],_=>false
 | f::rest,k=>cond (z0f f.live k) true (z0u rest k)
noncomputable def z10:List FS→Nat→List FS
 | [],_=>[]
 | f::rest,k=>cond (z0f f.live k) (⟨f.fid,f.objs,z3b f.live k⟩::z10 rest k) (f::z10 rest k)
noncomputable def E.live:E→Nat→Bool
 | ⟨stk,_,gl⟩,k=>cond (z0u stk k) true (z0f gl k)
noncomputable def E.kill:E→Nat→E
 | ⟨stk,glo,gl⟩,k=>⟨z10 stk k,glo,z3b gl k⟩
noncomputable def E.born:E→Nat→E
 | ⟨f::rest,glo,gl⟩,k=>⟨⟨f.fid,f.objs,k::f.live⟩::rest,glo,gl⟩
 | ⟨[],glo,gl⟩,k=>⟨[],glo,k::gl⟩
noncomputable def z4l:List FS→Nat→Nat→List FS
 | [],_,_=>[]
 | f::rest,fid,k=>cond (Nat.beq f.fid fid) (⟨f.fid,f.objs,k::f.live⟩::rest) (f::z4l rest fid k)
noncomputable def E.bear:E→Nat→Lo→E
 | ⟨stk,glo,gl⟩,k,.lo fid _ _=>⟨z4l stk fid k,glo,gl⟩
 | ⟨stk,glo,gl⟩,k,.gl _=>⟨stk,glo,k::gl⟩
noncomputable def E.move (e:E) (k:Nat) (l:Lo):E:=cond (e.live k) ((e.kill k).bear k l) e
noncomputable def E.moves:E→List AV→Lo→E
 | e,[],_=>e
 | e,.sl k _ _::rest,l=>(cond (Nat.ble 2 k) (e.move k l) e).moves rest l
 | e,_::rest,l=>e.moves rest l
inductive AX where
 | t (p:Pth)
 | c (v:AV)
 deriving Inhabited
noncomputable def AX.ev:AX→Tm→AV
 | .t p=>fun s=>s.get p
 | .c v=>fun _=>v
inductive CK where
 | b | i | s
 deriving DecidableEq,Inhabited
inductive EqK where
 | cells (ag:Bool) (ks:List CK) | ptr | ifc | fn | map | sl
 deriving Inhabited
inductive PO where
 | mov (x:AX)
 | pick (c a b:AX)
 | nilc (x:AX)
 | bin (op:BinOp) (e:EqK) (x y:AX)
 | un (op:UnOp) (x:AX)
 | cvi (k:IntKind) (x:AX)
 | cvs (x:AX)
 | ifc (t:TypeId) (x:AX)
 | mkf (f:FuncId) (first captured:List AX)
 | bld (zero:List AV) (parts:List (Nat × Nat × AX))
 | bsl (len z:Nat) (zero:AV) (parts:List (Nat × AX))
 | fad (off:Nat) (x:AX)
 | fld (ag:Bool) (off size:Nat) (x:AX)
 | iad (z:Nat) (x i:AX)
 | iaa (len z:Nat) (x i:AX)
 | ixs (x i:AX)
 | ixa (len z:Nat) (ag:Bool) (x i:AX)
 | sls (st:Bool) (z:Nat) (x:AX) (lo hi mx:Option AX)
 | sla (m:Nat) (x:AX) (lo hi:Option AX)
 | ext (x:AX) (i:Nat)
 | tas (t:TypeId) (ok:Bool) (zero:AV) (x:AX)
 | len (st:Bool) (x:AX)
 | cap (x:AX)
 | mm (mx:Bool) (x y:AX)
 | usd (x:AX)
 | ust (x n:AX)
 deriving Inhabited
inductive RO where
 | ld (ag:Bool) (size:Nat) (a:AX)
 | ldc (a:AX)
 | lku (ag:Bool) (ks:List CK) (ok:Bool) (zero:AV) (m k:AX)
 | mlen (m:AX)
 | b2s (x:AX)
 | cvu (x:AX)
 | cvp (ok:List (Nat × Nat × Nat)) (x:AX)
 deriving Inhabited
inductive EO where
 | new (a:Nat) (g m:Bool) (o:Ob)
 | st (size:Nat) (a x:AX)
 | stx (v:Bool) (size:Nat) (a x:AX)
 | box (a:Nat) (g:Bool) (t:TypeId) (n:Nat) (x:AX)
 | mks (a:Nat) (g hs ex:Bool) (z:Nat) (zero:AV) (bytes:Nat) (l c:AX)
 | app (a kind z:Nat) (zero:AV) (bytes:Nat) (s x:AX)
 | apz (a:Nat) (g:Bool) (z:Nat) (zero:AV) (bytes:Nat) (s n:AX)
 | clr (z:Nat) (zero:AV) (x:AX)
 | cpy (z:Nat) (x y:AX)
 | s2b (x:AX)
 | mup (ag:Bool) (ks:List CK) (m k x:AX)
 | men (ag:Bool) (ks:List CK) (zero:AV) (m k:AX)
 | est (ag:Bool) (ks:List CK) (m s x:AX)
 | call (f:FuncId) (args:List AX)
 | callv (f:AX) (args:List AX)
 | pan (x:AX)
 deriving Inhabited
inductive WX where
 | l (x:AX)
 | c (a:AX)
 deriving Inhabited
inductive OP where
 | p (o:PO)
 | r (o:RO)
 | e (o:EO) (watch:List WX)
 deriving Inhabited
structure AO where
 d:Option Pth
 g:Option (Pth × Bool)
 o:OP
 deriving Inhabited
inductive AC where
 | skip
 | reg (ops:List AO)
 | seq (a b:AC)
 | cond (c:AX) (a b:AC)
 | blk (id:Nat) (c:AC)
 | loop (c:AC)
 | exit (id:Nat)
 | ret
 deriving Inhabited
noncomputable def z25:List Nat→List Nat→Bool
 | [],[]=>true
 | a::x,b::y=>cond (Nat.beq a b) (z25 x y) false
 | _,_=>false
noncomputable def z1r:List Nat→List Nat→Bool
 | _,[]=>false
 | [],_::_=>true
 | a::x,b::y=>cond (Nat.blt a b) true (cond (Nat.beq a b) (z1r x y) false)
noncomputable def andO (a:Bool):Option Bool→Option Bool
 | some b=>some (cond a b false)
 | none=>none
noncomputable def zcv (k k':IntKind) (a b:Int) (r:Option Bool):Option Bool:=if k=k' then andO (decide (a=b)) r else none
noncomputable def eqk:List CK→List AV→List AV→Option Bool
 | [],[],[]=>some true
 | .b::ks,.bool a::xs,.bool b::ys=>andO (a==b) (eqk ks xs ys)
 | .i::ks,.int k a::xs,.int k' b::ys=>zcv k k' a b (eqk ks xs ys)
 | .s::ks,.str a::xs,.str b::ys=>andO (z25 a b) (eqk ks xs ys)
 | _,_,_=>none
noncomputable def eqT (ag:Bool) (ks:List CK) (x y:AV):Option Bool :=
 match ag,x,y with
 | true,.agg a,.agg b=>eqk ks a b
 | false,x,y=>eqk ks [x] [y]
 | _,_,_=>none
noncomputable def z57:AV→Option Bool
 | .sl _ z _=>some (Nat.beq z 0)
 | .hs ..=>some false
 | _=>none
noncomputable def eqS:Option Bool→Option Bool→Option Bool
 | some a,some b=>cond (a || b) (some (a && b)) none
 | _,_=>none
noncomputable def eqK:EqK→AV→AV→Option Bool
 | .cells ag ks,a,b=>eqT ag ks a b
 | .ptr,.nilp,.nilp=>some true
 | .ptr,.nilp,.ptr .. | .ptr,.nilp,.vp .. | .ptr,.nilp,.ep ..=>some false
 | .ptr,.ptr ..,.nilp | .ptr,.vp ..,.nilp | .ptr,.ep ..,.nilp=>some false
 | .ptr,.ptr l o,.ptr l' o'=>cond (decide (l=l')) (some (Nat.beq o o')) none
 | .ifc,.nili,.nili=>some true
 | .ifc,.nili,.ifc .. | .ifc,.ifc ..,.nili=>some false
 | .fn,.nilf,.nilf=>some true
 | .fn,.nilf,.fn .. | .fn,.fn ..,.nilf=>some false
 | .sl,a,b=>eqS (z57 a) (z57 b)
 | .map,.nilm,.nilm=>some true
 | .map,.nilm,.map _ | .map,.map _,.nilm=>some false
 | _,_,_=>none
noncomputable def big:Nat:=4294967296
noncomputable def binI (op:BinOp) (k:IntKind) (a b:Int):Option AV :=
 match op with
 | .add=>some (.int k (k.wrap (a+b)))
 | .sub=>some (.int k (k.wrap (a - b)))
 | .mul=>some (.int k (k.wrap (a * b)))
 | .quo=>if b=0 then none else some (.int k (k.wrap (a.tdiv b)))
 | .rem=>if b=0 then none else some (.int k (a.tmod b))
 | .and=>some (.int k (k.wrap (BitVec.ofInt k.bits a &&& BitVec.ofInt k.bits b).toNat))
 | .or=>some (.int k (k.wrap (BitVec.ofInt k.bits a ||| BitVec.ofInt k.bits b).toNat))
 | .xor=>some (.int k (k.wrap (BitVec.ofInt k.bits a ^^^ BitVec.ofInt k.bits b).toNat))
 | .andNot=>some (.int k (k.wrap (BitVec.ofInt k.bits a &&& ~~~ BitVec.ofInt k.bits b).toNat))
 | .eql=>some (.bool (decide (a=b)))
 | .neq=>some (.bool (!decide (a=b)))
 | .lss=>some (.bool (decide (a < b)))
 | .leq=>some (.bool (decide (a≤b)))
 | .gtr=>some (.bool (decide (b < a)))
 | .geq=>some (.bool (decide (b≤a)))
 | _=>none
noncomputable def binS (op:BinOp) (a b:List Nat):Option AV :=
 match op with
 | .add=>cond (Nat.blt (a.length+b.length) big) (some (.str (a++b))) none
 | .eql=>some (.bool (z25 a b))
 | .neq=>some (.bool (!z25 a b))
 | .lss=>some (.bool (z1r a b))
 | .leq=>some (.bool (z1r a b || z25 a b))
 | .gtr=>some (.bool (!(z1r a b || z25 a b)))
 | .geq=>some (.bool (!z1r a b))
 | _=>none
noncomputable def binA (op:BinOp) (e:EqK) (x y:AV):Option AV :=
 match x,y with
 | .int k a,.int k' b =>
  match op with
  | .shl=>if b < 0 then none else some (.int k (k.wrap (a * 2 ^ (min b.toNat k.bits))))
  | .shr=>if b < 0 then none else some (.int k (a.fdiv (2 ^ (min b.toNat k.bits))))
  | _=>if k=k' then binI op k a b else none
 | .str a,.str b=>binS op a b
 | x,y =>
  match op with
  | .eql=>match eqK e x y with | some b=>some (.bool b) | none=>none
  | .neq=>match eqK e x y with | some b=>some (.bool (!b)) | none=>none
  | _=>none
noncomputable def lenK {α:Type}:List α→Nat→Nat
 | [],n=>n
 | _::l,0=>lenK l 1
 | _::l,n+1=>lenK l (n+2)
noncomputable def z39:List AV→Nat→List AV→List AV
 | cs,_,[]=>cs
 | cs,off,v::rest=>z39 (cs.set off v) (off+1) rest
noncomputable def bldA (s:Tm):List AV→List (Nat × Nat × AX)→Option (List AV)
 | cs,[]=>some cs
 | cs,(off,n,x)::rest =>
  cond (Nat.beq (x.ev s).cells.length n && Nat.ble (off+n) cs.length) (bldA s (z39 cs off (x.ev s).cells) rest) none
noncomputable def bslA (s:Tm) (z:Nat):List AV→List (Nat × AX)→Option (List AV)
 | es,[]=>some es
 | es,(i,x)::rest =>
  cond (Nat.beq (x.ev s).cells.length z && Nat.blt i es.length) (bslA s z (es.set i (x.ev s)) rest) none
noncomputable def z1m (s:Tm) (d:Nat):Option AX→Option Nat
 | none=>some d
 | some x =>
  match x.ev s with
  | .int _ (.ofNat n)=>some n
  | _=>none
noncomputable def slsS (s:Tm) (v:AV) (lo hi mx:Option AX):Option AV :=
 match v with
 | .str b =>
  match z1m s 0 lo,z1m s b.length hi,mx with
  | some l,some h,none=>cond (Nat.ble l h && Nat.ble h b.length) (some (.str ((b.take h).drop l))) none
  | _,_,_=>none
 | _=>none
noncomputable def slsL (s:Tm) (z:Nat) (v:AV) (lo hi mx:Option AX):Option AV :=
 match v with
 | .sl k z0 xs =>
  match z1m s 0 lo,z1m s xs.length hi with
  | some l,some h =>
   cond (Nat.ble l h && (Nat.ble h xs.length && (Nat.beq z z0 || Nat.beq l 0)))
    (match mx with
    | some m =>
     match z1m s 0 (some m) with
     | some m=>cond (Nat.beq m h) (some (.sl 1 z0 ((xs.take h).drop l))) none
     | none=>none
    | none=>some (.sl (cond (Nat.beq h xs.length) (cond (Nat.beq k 1) 1 (cond (Nat.beq l 0) k 0)) 0) z0 ((xs.take h).drop l)))
    none
  | _,_=>none
 | .hs l0 z0 sz off n ex =>
  match z1m s 0 lo,z1m s n hi with
  | some l,some h =>
   cond (Nat.ble l h && (Nat.ble h n && (Nat.beq z z0 || Nat.beq l 0)))
    (match mx with
    | some m =>
     match z1m s 0 (some m) with
     | some m=>cond (Nat.beq m h) (some (.hs l0 z0 sz (off+l) (h - l) true)) none
     | none=>none
    | none =>
     cond (Nat.beq l h && Nat.ble 1 l) (some (.sl 0 z0 []))
      (cond ex (cond (Nat.beq h n) (some (.hs l0 z0 sz (off+l) (h - l) true)) none) (some (.hs l0 z0 sz (off+l) (h - l) false))))
    none
  | _,_=>none
 | _=>none
noncomputable def slsA (st:Bool) (s:Tm) (z:Nat) (v:AV) (lo hi mx:Option AX):Option AV:=cond st (slsS s v lo hi mx) (slsL s z v lo hi mx)
noncomputable def cutA (ag:Bool) (cs:List AV) (off size:Nat):Option AV :=
 cond ag (cond (Nat.ble (off+size) cs.length) (some (.agg ((cs.drop off).take size))) none) cs[off]?
noncomputable def zi6:AV→AX→AX→Tm→Option AV
 | .bool t=>fun a b s=>some (cond t (a.ev s) (b.ev s))
 | _=>fun _ _ _=>none
noncomputable def zll:AV→Option AV
 | .ptr l o=>some (.ptr l o)
 | .vp c o=>some (.vp c o)
 | .ep l a b c=>some (.ep l a b c)
 | _=>none
noncomputable def unNeg:AV→Option AV
 | .int k n=>some (.int k (k.wrap (0 - n)))
 | _=>none
noncomputable def unNot:AV→Option AV
 | .bool b=>some (.bool !b)
 | _=>none
noncomputable def unXor:AV→Option AV
 | .int k n=>binI .xor k (if k.signed then -1 else k.max) n
 | _=>none
noncomputable def unA:UnOp→AV→Option AV
 | .neg=>unNeg
 | .not=>unNot
 | .xor=>unXor
 | _=>fun _=>none
noncomputable def cviA (k:IntKind):AV→Option AV
 | .int _ n=>some (.int k (k.wrap n))
 | _=>none
noncomputable def cvsA:AV→Option AV
 | .str b=>some (.str b)
 | _=>none
noncomputable def aggO:Option (List AV)→Option AV
 | some cs=>some (.agg cs)
 | none=>none
noncomputable def slO (z:Nat):Option (List AV)→Option AV
 | some es=>some (.sl 1 z es)
 | none=>none
noncomputable def fadA (off:Nat):AV→Option AV
 | .ptr l o=>some (.ptr l (o+off))
 | .vp cs o=>some (.vp cs (o+off))
 | .ep l n i o=>some (.ep l n i (o+off))
 | _=>none
noncomputable def fldA (ag:Bool) (off size:Nat):AV→Option AV
 | .agg cs=>cutA ag cs off size
 | _=>none
noncomputable def vpO:Option AV→Option AV
 | some e=>some (.vp e.cells 0)
 | none=>none
noncomputable def iadN (z n:Nat):AV→Option AV
 | .sl _ z' xs=>cond (Nat.beq z z') (vpO xs[n]?) none
 | .hs l z' sz off m _=>cond (Nat.beq z z' && Nat.blt n m) (some (.ep l sz (off+n) 0)) none
 | .as l off m=>cond (Nat.beq z 1 && Nat.blt n m) (some (.ptr l (off+n))) none
 | _=>none
noncomputable def iadA (z:Nat):AV→AV→Option AV
 | .int _ (.ofNat n)=>iadN z n
 | _=>fun _=>none
noncomputable def iaaN (o':Nat):AV→Option AV
 | .ptr l o=>some (.ptr l (o+o'))
 | .vp cs o=>some (.vp cs (o+o'))
 | .ep l sz j o=>some (.ep l sz j (o+o'))
 | _=>none
noncomputable def iaaA (m0 z:Nat):AV→AV→Option AV
 | .int _ (.ofNat n)=>fun x=>cond (Nat.blt n m0) (iaaN (n * z) x) none
 | _=>fun _=>none
noncomputable def byteO:Option Nat→Option AV
 | some c=>some (.int .u8 (.ofNat c))
 | none=>none
noncomputable def ixsN (n:Nat):AV→Option AV
 | .str b=>byteO b[n]?
 | _=>none
noncomputable def ixsA:AV→AV→Option AV
 | .int _ (.ofNat n)=>ixsN n
 | _=>fun _=>none
noncomputable def ixaN (ag:Bool) (o z:Nat):AV→Option AV
 | .agg cs=>cutA ag cs o z
 | _=>none
noncomputable def ixaA (m0 z:Nat) (ag:Bool):AV→AV→Option AV
 | .int _ (.ofNat n)=>fun x=>cond (Nat.blt n m0) (ixaN ag (n * z) z x) none
 | _=>fun _=>none
noncomputable def extA (i:Nat):AV→Option AV
 | .tup vs=>vs[i]?
 | _=>none
noncomputable def tasA (t:TypeId) (ok:Bool) (zero:AV):AV→Option AV
 | .ifc u v=>cond (Nat.beq u t) (some (cond ok (.tup [v,.bool true]) v)) (cond ok (some (.tup [zero,.bool false])) none)
 | .nili=>cond ok (some (.tup [zero,.bool false])) none
 | _=>none
noncomputable def lenL:AV→Option AV
 | .sl _ _ xs=>some (.int .i64 (.ofNat (lenK xs 0)))
 | .hs _ _ _ _ n _=>some (.int .i64 (.ofNat n))
 | .as _ _ n=>some (.int .i64 (.ofNat n))
 | _=>none
noncomputable def lenS:AV→Option AV
 | .str b=>some (.int .i64 (.ofNat (lenK b 0)))
 | _=>none
noncomputable def capA:AV→Option AV
 | .sl k _ xs=>cond (Nat.beq k 1) (some (.int .i64 (.ofNat xs.length))) none
 | _=>none
noncomputable def lenA (st:Bool):AV→Option AV:=cond st lenS lenL
noncomputable def mmA (mx:Bool):AV→AV→Option AV
 | .int k a,.int k' b=>if k=k' then some (.int k (cond mx (max a b) (min a b))) else none
 | _,_=>none
noncomputable def zcw (n:Nat):Option (List Nat)→Option (List Nat)
 | some l=>cond (Nat.blt n 256) (some (n::l)) none
 | none=>none
noncomputable def zbp:AV→Option Nat
 | .int .u8 (.ofNat n)=>some n
 | _=>none
noncomputable def zcx:Option Nat→Option (List Nat)→Option (List Nat)
 | some n=>zcw n
 | none=>fun _=>none
noncomputable def bytesOf:List AV→Option (List Nat)
 | []=>some []
 | v::rest=>zcx (zbp v) (bytesOf rest)
noncomputable def z6r (acc:List Nat):List AV→Option (List Nat)
 | []=>some acc.reverse
 | .int .u8 (.ofNat n)::rest=>cond (Nat.blt n 256) (z6r (n::acc) rest) none
 | _=>none
noncomputable def strO:Option (List Nat)→Option AV
 | some b=>some (.str b)
 | none=>none
noncomputable def usdA:AV→Option AV
 | .sl k z xs=>cond (Nat.beq z 0) (some (.dp 1 [])) (cond (Nat.beq z 1 && (Nat.blt 0 xs.length && (Nat.ble 2 k && Nat.beq (k % 2) 1))) (some (.dp k xs)) none)
 | _=>none
noncomputable def ustD (n:Nat):AV→Option AV
 | .dp k xs=>cond (Nat.beq n xs.length && Nat.blt n 4294967296 && (xs.isEmpty || (Nat.ble 2 k && Nat.beq (k % 2) 1))) (strO (z6r [] xs)) none
 | _=>none
noncomputable def ustA:AV→AV→Option AV
 | .int _ (.ofNat n)=>ustD n
 | _=>fun _=>none
noncomputable def evs (s:Tm):List AX→List AV
 | []=>[]
 | x::rest=>x.ev s::evs s rest
noncomputable def evMov (x:AX) (s:Tm):Option AV:=some (x.ev s)
noncomputable def zi7 (c a b:AX) (s:Tm):Option AV:=zi6 (c.ev s) a b s
noncomputable def zi8 (x:AX) (s:Tm):Option AV:=zll (x.ev s)
noncomputable def evBin (op:BinOp) (e:EqK) (x y:AX) (s:Tm):Option AV:=binA op e (x.ev s) (y.ev s)
noncomputable def evUn (op:UnOp) (x:AX) (s:Tm):Option AV:=unA op (x.ev s)
noncomputable def zlm (k:IntKind) (x:AX) (s:Tm):Option AV:=cviA k (x.ev s)
noncomputable def zln (x:AX) (s:Tm):Option AV:=cvsA (x.ev s)
noncomputable def evIfc (t:TypeId) (x:AX) (s:Tm):Option AV:=some (.ifc t (x.ev s))
noncomputable def evMkf (f:FuncId) (a b:List AX) (s:Tm):Option AV:=some (.fn f (evs s a) (evs s b))
noncomputable def zi9 (zero:List AV) (parts:List (Nat × Nat × AX)) (s:Tm):Option AV:=aggO (bldA s zero parts)
noncomputable def evBsl (n z:Nat) (zero:AV) (parts:List (Nat × AX)) (s:Tm):Option AV:=slO z (bslA s z (List.replicate n zero) parts)
noncomputable def evFad (off:Nat) (x:AX) (s:Tm):Option AV:=fadA off (x.ev s)
noncomputable def evFld (ag:Bool) (off size:Nat) (x:AX) (s:Tm):Option AV:=fldA ag off size (x.ev s)
noncomputable def evIad (z:Nat) (x i:AX) (s:Tm):Option AV:=iadA z (i.ev s) (x.ev s)
noncomputable def evIaa (m z:Nat) (x i:AX) (s:Tm):Option AV:=iaaA m z (i.ev s) (x.ev s)
noncomputable def evIxs (x i:AX) (s:Tm):Option AV:=ixsA (i.ev s) (x.ev s)
noncomputable def evIxa (m z:Nat) (ag:Bool) (x i:AX) (s:Tm):Option AV:=ixaA m z ag (i.ev s) (x.ev s)
noncomputable def evSls (st:Bool) (z:Nat) (x:AX) (lo hi mx:Option AX) (s:Tm):Option AV:=slsA st s z (x.ev s) lo hi mx
noncomputable def slaH (l:Lo) (off m:Nat):Option Nat→Option Nat→Option AV
 | some a,some b=>cond (Nat.ble a b && Nat.ble b m) (some (.as l (off+a) (b - a))) none
 | _,_=>none
noncomputable def slaA (s:Tm) (m:Nat) (lo hi:Option AX):AV→Option AV
 | .ptr l off=>slaH l off m (z1m s 0 lo) (z1m s m hi)
 | _=>none
noncomputable def evSla (m:Nat) (x:AX) (lo hi:Option AX) (s:Tm):Option AV:=slaA s m lo hi (x.ev s)
noncomputable def zlo (x:AX) (i:Nat) (s:Tm):Option AV:=extA i (x.ev s)
noncomputable def evTas (t:TypeId) (ok:Bool) (zero:AV) (x:AX) (s:Tm):Option AV:=tasA t ok zero (x.ev s)
noncomputable def evLen (st:Bool) (x:AX) (s:Tm):Option AV:=lenA st (x.ev s)
noncomputable def evCap (x:AX) (s:Tm):Option AV:=capA (x.ev s)
noncomputable def evMm (mx:Bool) (x y:AX) (s:Tm):Option AV:=mmA mx (x.ev s) (y.ev s)
noncomputable def evUsd (x:AX) (s:Tm):Option AV:=usdA (x.ev s)
noncomputable def evUst (x n:AX) (s:Tm):Option AV:=ustA (n.ev s) (x.ev s)
noncomputable def PO.ev:PO→Tm→Option AV
 | .mov x=>evMov x
 | .pick c a b=>zi7 c a b
 | .nilc x=>zi8 x
 | .bin op e x y=>evBin op e x y
 | .un op x=>evUn op x
 | .cvi k x=>zlm k x
 | .cvs x=>zln x
 | .ifc t x=>evIfc t x
 | .mkf f a b=>evMkf f a b
 | .bld zero ps=>zi9 zero ps
 | .bsl n z zero ps=>evBsl n z zero ps
 | .fad off x=>evFad off x
 | .fld ag off size x=>evFld ag off size x
 | .iad z x i=>evIad z x i
 | .iaa m z x i=>evIaa m z x i
 | .ixs x i=>evIxs x i
 | .ixa m z ag x i=>evIxa m z ag x i
 | .sls st z x lo hi mx=>evSls st z x lo hi mx
 | .sla m x lo hi=>evSla m x lo hi
 | .ext x i=>zlo x i
 | .tas t ok zero x=>evTas t ok zero x
 | .len st x=>evLen st x
 | .cap x=>evCap x
 | .mm mx x y=>evMm mx x y
 | .usd x=>evUsd x
 | .ust x n=>evUst x n
noncomputable def z8c (v:AV) (r:Option (Option AV)):Option Bool→Option (Option AV)
 | some true=>some (some v)
 | some false=>r
 | none=>none
noncomputable def zaf:Option Bool→Option (Option AV)
 | some _=>some none
 | none=>none
noncomputable def find (ag:Bool) (ks:List CK) (k:AV):List (AV × AV)→Option (Option AV)
 | []=>zaf (eqT ag ks k k)
 | (a,v)::rest=>z8c v (find ag ks k rest) (eqT ag ks k a)
noncomputable def putB (k v a b:AV) (rest r:List (AV × AV)):Option Bool→List (AV × AV)
 | some true=>(k,v)::rest
 | _=>(a,b)::r
noncomputable def put (ag:Bool) (ks:List CK) (k v:AV):List (AV × AV)→List (AV × AV)
 | []=>[(k,v)]
 | (a,b)::rest=>putB k v a b rest (put ag ks k v rest) (eqT ag ks k a)
noncomputable def z78 (ag:Bool) (size off:Nat):Ob→Option AV
 | .cells _ cs=>cutA ag cs off size
 | _=>none
noncomputable def zia (ag:Bool) (size off:Nat):Option AV→Option AV
 | some x=>cutA ag x.cells off size
 | none=>none
noncomputable def zgp (ag:Bool) (size n i off:Nat):Ob→Option AV
 | .vec _ es=>cond (Nat.beq es.length n) (zia ag size off es[i]?) none
 | _=>none
noncomputable def z19 (e:E) (ag:Bool) (size:Nat):AV→Option AV
 | .vp cs off=>cutA ag cs off size
 | .ptr l off=>z78 ag size off (e.get l)
 | .ep l n i off=>zgp ag size n i off (e.get l)
 | _=>none
noncomputable def z8x (n off len:Nat):Ob→Option (Nat × List AV)
 | .vec z es=>cond (Nat.beq (lenK es 0) n) (some (z,(es.drop off).take len)) none
 | _=>none
noncomputable def zec (off n:Nat):Ob→Option (Nat × List AV)
 | .cells _ cs=>cond (Nat.ble (off+n) cs.length) (some (1,(cs.drop off).take n)) none
 | _=>none
noncomputable def z0c:List Nat→List AV
 | []=>[]
 | c::r=>.int .u8 (.ofNat c)::z0c r
noncomputable def z15 (e:E):AV→Option (Nat × List AV)
 | .sl _ z xs=>some (z,xs)
 | .hs l _ n off len _=>z8x n off len (e.get l)
 | .as l off n=>zec off n (e.get l)
 | _=>none
noncomputable def elems (e:E):AV→Option (Nat × List AV)
 | .str b=>some (1,z0c b)
 | v=>z15 e v
noncomputable def z8:Ob→Option (List (AV × AV))
 | .map es=>some es
 | _=>none
noncomputable def z3v (e:E):AV→Option (List (AV × AV))
 | .nilm=>some []
 | .map l=>z8 (e.get l)
 | _=>none
noncomputable def lkuF (ok:Bool) (zero:AV):Option (Option AV)→Option AV
 | some (some v)=>some (cond ok (.tup [v,.bool true]) v)
 | some none=>some (cond ok (.tup [zero,.bool false]) zero)
 | none=>none
noncomputable def lkuM (ag:Bool) (ks:List CK) (ok:Bool) (zero k:AV):Option (List (AV × AV))→Option AV
 | some es=>lkuF ok zero (find ag ks k es)
 | none=>none
noncomputable def zgq:Option (List (AV × AV))→Option AV
 | some es=>some (.int .i64 (.ofNat es.length))
 | none=>none
noncomputable def b2sE:Option (Nat × List AV)→Option AV
 | some (_,xs)=>strO (z6r [] xs)
 | none=>none
noncomputable def cvuO (l:Lo) (off:Nat):Ob→Option AV
 | .cells _ cs=>cond (Nat.blt off cs.length) (some (.ptr l off)) none
 | _=>none
noncomputable def cvuA (e:E):AV→Option AV
 | .ptr l off=>cvuO l off (e.get l)
 | _=>none
noncomputable def okIn (t n off:Nat):List (Nat × Nat × Nat)→Bool
 | []=>false
 | (a,b,c)::r=>cond (Nat.beq a t && (Nat.beq b n && Nat.beq c off)) true (okIn t n off r)
noncomputable def cvpO (ok:List (Nat × Nat × Nat)) (l:Lo) (off:Nat):Ob→Option AV
 | .cells t cs=>cond (okIn t cs.length off ok) (some (.ptr l off)) none
 | _=>none
noncomputable def cvpA (e:E) (ok:List (Nat × Nat × Nat)):AV→Option AV
 | .ptr l off=>cvpO ok l off (e.get l)
 | _=>none
noncomputable def zlp (x:AX) (s:Tm) (e:E):Option AV:=cvuA e (x.ev s)
noncomputable def zlq (ok:List (Nat × Nat × Nat)) (x:AX) (s:Tm) (e:E):Option AV:=cvpA e ok (x.ev s)
noncomputable def evLd (ag:Bool) (size:Nat) (a:AX) (s:Tm) (e:E):Option AV:=z19 e ag size (a.ev s)
noncomputable def zib (a:AX) (s:Tm) (e:E):Option AV:=z19 e false 1 (a.ev s)
noncomputable def zlr (ag:Bool) (ks:List CK) (ok:Bool) (zero:AV) (m k:AX) (s:Tm) (e:E):Option AV:=lkuM ag ks ok zero (k.ev s) (z3v e (m.ev s))
noncomputable def zfj (m:AX) (s:Tm) (e:E):Option AV:=zgq (z3v e (m.ev s))
noncomputable def zls (x:AX) (s:Tm) (e:E):Option AV:=b2sE (z15 e (x.ev s))
noncomputable def RO.ev:RO→Tm→E→Option AV
 | .ld ag size a=>evLd ag size a
 | .ldc a=>zib a
 | .lku ag ks ok zero m k=>zlr ag ks ok zero m k
 | .mlen m=>zfj m
 | .b2s x=>zls x
 | .cvu x=>zlp x
 | .cvp ok x=>zlq ok x
noncomputable def free:List Lo→Lo→Bool
 | [],_=>true
 | m::W,l=>cond (decide (m=l)) false (free W l)
noncomputable def z8y (e:E) (l:Lo) (off:Nat) (vs:List AV):Ob→Option E
 | .cells t cs=>cond (Nat.ble (off+vs.length) cs.length) (some ((e.moves vs l).set l (.cells t (z39 cs off vs)))) none
 | _=>none
noncomputable def z8z (e:E) (l:Lo) (z i off:Nat) (es:List AV) (v:AV):Option AV→Option E
 | some (.agg cs)=>cond (Nat.ble (off+v.cells.length) cs.length) (some (e.set l (.vec z (es.set i (.agg (z39 cs off v.cells)))))) none
 | some _=>cond (Nat.beq off 0 && Nat.beq z 1) (match v with | .agg _=>none | v=>some (e.set l (.vec z (es.set i v)))) none
 | none=>none
noncomputable def zlt (e:E) (l:Lo) (n i off:Nat) (v:AV):Ob→Option E
 | .vec z es=>cond (Nat.beq es.length n) (z8z e l z i off es v es[i]?) none
 | _=>none
noncomputable def z6s (e:E) (W:List Lo) (v:AV):AV→Option E
 | .ptr l off=>cond (free W l) (z8y e l off v.cells (e.get l)) none
 | .ep l n i off=>cond (free W l) (zlt e l n i off v (e.get l)) none
 | _=>none
noncomputable def z80 (e:E) (W:List Lo) (size:Nat) (a v:AV):Option E :=
 cond (Nat.beq v.cells.length size) (z6s e W v a) none
noncomputable def naO (rest:List FS) (glo:List Ob) (gl:List Nat) (W:List Lo) (a fid:Nat) (objs:List (Nat × Ob × Ob)) (live:List Nat) (o:Ob):Option (Nat × Ob × Ob)→Option (Lo × E)
 | some (i,cur,_)=>cond (free W (.lo fid a (i - 1))) (some (.lo fid a (i+1),⟨⟨fid,objs.set a (i+1,o,cur),live⟩::rest,glo,gl⟩)) none
 | none=>none
noncomputable def naF (glo:List Ob) (gl:List Nat) (W:List Lo) (a:Nat) (o:Ob):List FS→Option (Lo × E)
 | ⟨fid,objs,live⟩::rest=>naO rest glo gl W a fid objs live o objs[a]?
 | []=>none
noncomputable def newAt:E→List Lo→Nat→Bool→Ob→Option (Lo × E)
 | ⟨stk,glo,gl⟩=>fun W a g o=>cond g (some (.gl glo.length,⟨stk,glo++[o],gl⟩)) (naF glo gl W a o stk)
structure Fr where
 s:Tm
 cnt:Nat
 deriving Inhabited
inductive R where
 | bad
 | go (fr:Fr) (e:E)
 | exit (id:Nat) (fr:Fr) (e:E)
 | ret (fr:Fr) (e:E)
 | pan (v:AV) (fr:Fr) (e:E)
 deriving Inhabited
inductive CR where
 | bad
 | ret (v:AV) (e:E)
 | pan (v:AV) (e:E)
 deriving Inhabited
abbrev z06:=FuncId→List AV→List Lo→Nat→E→CR
noncomputable def base:Nat:=1048576
noncomputable def z0k (fid cnt:Nat):Nat:=fid * base+cnt+2
noncomputable def child (fid cnt:Nat):Nat:=fid * base+cnt+1
noncomputable def room (cnt:Nat):Bool:=Nat.blt cnt 1048000
noncomputable def Fr.put:Option Pth→Fr→AV→Fr
 | some p=>fun fr v=>match fr with | ⟨s,cnt⟩=>⟨s.set p v,cnt⟩
 | none=>fun fr _=>fr
noncomputable def Fr.tick:Fr→Fr
 | ⟨s,cnt⟩=>⟨s,cnt+1⟩
noncomputable def tick (b8:Bool) (cnt:Nat):Nat:=cond (Nat.beq (cnt % 2) (cond b8 1 0)) cnt (cnt+1)
def is8:AV→Bool
 | .int .u8 _=>true
 | _=>false
noncomputable def z1x (fid:Nat) (e:E) (k:Nat→Fr→E→R) (s:Tm) (c:Nat):R :=
 cond (room c) (k (z0k fid c) ⟨s,c+1⟩ (e.born (z0k fid c))) .bad
noncomputable def ticket (b8:Bool) (fid:Nat) (e:E) (k:Nat→Fr→E→R):Fr→R
 | ⟨s,cnt⟩=>z1x fid e k s (tick b8 cnt)
noncomputable def putK (d:Option Pth) (v:AV) (fr:Fr) (e:E):R:=.go (Fr.put d fr v) e
noncomputable def after (d:Option Pth) (fr:Fr):CR→R
 | .ret v e=>.go (Fr.put d fr.tick v) e
 | .pan v e=>.pan v fr.tick e
 | .bad=>.bad
noncomputable def z24:AV→List Lo
 | .ptr l _=>[l]
 | .ep l _ _ _=>[l]
 | .map l=>[l]
 | .hs l _ _ _ _ _=>[l]
 | .as l _ _=>[l]
 | _=>[]
noncomputable def z0o (s:Tm) (W:List Lo):List WX→List Lo
 | []=>W
 | .l x::rest=>z24 (x.ev s)++z0o s W rest
 | .c _::rest=>z0o s W rest
noncomputable def zed:AV→AV→Bool
 | .int k a,.int j b=>decide (k=j) && decide (a=b)
 | .bool a,.bool b=>a==b
 | .nilp,.nilp=>true
 | .nilm,.nilm=>true
 | .ptr l o,.ptr l' o'=>decide (l=l') && Nat.beq o o'
 | .map l,.map l'=>decide (l=l')
 | _,_=>false
noncomputable def simL:List AV→List AV→Bool
 | [],[]=>true
 | a::x,b::y=>cond (zed a b) (simL x y) false
 | _,_=>false
noncomputable def simE:AV→AV→Bool
 | .sl k z xs,.sl k' z' ys=>Nat.beq k k' && (Nat.beq z z' && simL xs ys)
 | .hs l z n o m x,.hs l' z' n' o' m' x'=>decide (l=l') && (Nat.beq z z' && (Nat.beq n n' && (Nat.beq o o' && (Nat.beq m m' && (x==x')))))
 | a,b=>zed a b
noncomputable def simO:Option AV→Option AV→Bool
 | none,_=>true
 | some a,some b=>simE a b
 | some _,none=>false
noncomputable def z6c (s:Tm) (e e':E):List WX→Bool
 | []=>true
 | .l _::rest=>z6c s e e' rest
 | .c a::rest=>cond (simO (z19 e false 1 (a.ev s)) (z19 e' false 1 (a.ev s))) (z6c s e e' rest) false
noncomputable def chkR (s:Tm) (e:E) (ws:List WX):R→R
 | .go fr' e'=>cond (z6c s e e' ws) (.go fr' e') .bad
 | r=>r
noncomputable def optE (d:Option Pth) (v:AV) (fr:Fr):Option E→R
 | some e=>.go (Fr.put d fr v) e
 | none=>.bad
noncomputable def evSt (size:Nat) (a x:AX) (_:z06) (_:Nat) (W:List Lo) (d:Option Pth) (fr:Fr) (e:E):R :=
 optE d .undef fr (z80 e W size (a.ev fr.s) (x.ev fr.s))
noncomputable def noTk:List AV→Bool
 | []=>true
 | .sl k _ _::rest=>cond (Nat.ble 2 k) false (noTk rest)
 | _::rest=>noTk rest
noncomputable def zic (v:Bool) (x:AV):AV→Bool
 | .ep (.gl _) _ _ _=>v
 | .ptr (.gl _) _=>cond v false (noTk x.cells)
 | _=>false
noncomputable def evStx (v:Bool) (size:Nat) (a x:AX) (call:z06) (fid:Nat) (W:List Lo) (d:Option Pth) (fr:Fr) (e:E):R :=
 cond (zic v (x.ev fr.s) (a.ev fr.s)) (evSt size a x call fid W d fr e) .bad
noncomputable def boxO (d:Option Pth) (fr:Fr) (vs:List AV):Option (Lo × E)→R
 | some (l,e)=>.go (Fr.put d fr (.ptr l 0)) (e.moves vs l)
 | none=>.bad
noncomputable def evBox (a:Nat) (g:Bool) (t:TypeId) (n:Nat) (x:AX) (_:z06) (_:Nat) (W:List Lo) (d:Option Pth) (fr:Fr) (e:E):R :=
 cond (Nat.beq (x.ev fr.s).cells.length n) (boxO d fr (x.ev fr.s).cells (newAt e W a g (.cells t (x.ev fr.s).cells))) .bad
noncomputable def newO (m:Bool) (d:Option Pth) (fr:Fr):Option (Lo × E)→R
 | some (l,e)=>.go (Fr.put d fr (cond m (.map l) (.ptr l 0))) e
 | none=>.bad
noncomputable def zlu (a:Nat) (g m:Bool) (o:Ob) (_:z06) (_:Nat) (W:List Lo) (d:Option Pth) (fr:Fr) (e:E):R :=
 newO m d fr (newAt e W a g o)
noncomputable def hsO (z n:Nat) (ex:Bool) (d:Option Pth) (fr:Fr):Option (Lo × E)→R
 | some (l,e)=>.go (Fr.put d fr (.hs l z n 0 n ex)) e
 | none=>.bad
noncomputable def mksN (a:Nat) (g hs ex:Bool) (z:Nat) (zero:AV) (bytes l c:Nat) (fid:Nat) (W:List Lo) (d:Option Pth) (fr:Fr) (e:E):R :=
 cond (Nat.ble l c && (Nat.blt (c * bytes) big && Nat.blt c big))
  (cond hs (hsO z l (cond ex (Nat.beq l c) false) d fr (newAt e W a g (.vec z (List.replicate l zero))))
   (ticket (is8 zero) fid e (fun k'=>putK d (.sl k' z (List.replicate l zero))) fr))
  .bad
noncomputable def nat2 (k:Nat→Nat→R):AV→AV→R
 | .int _ (.ofNat l),.int _ (.ofNat c)=>k l c
 | _,_=>.bad
noncomputable def evMks (a:Nat) (g hs ex:Bool) (z:Nat) (zero:AV) (bytes:Nat) (l c:AX) (_:z06) (fid:Nat) (W:List Lo) (d:Option Pth) (fr:Fr) (e:E):R :=
 nat2 (fun l c=>mksN a g hs ex z zero bytes l c fid W d fr e) (l.ev fr.s) (c.ev fr.s)
noncomputable def z8d (b8:Bool) (fid:Nat) (W:List Lo) (a kind z:Nat) (new:List AV) (d:Option Pth) (fr:Fr) (e:E) (k:Nat) (xs:List AV):R :=
 cond (Nat.beq kind 0)
  (cond (Nat.beq k 1) (ticket b8 fid e (fun k'=>putK d (.sl k' z (xs++new))) fr)
   (cond (Nat.ble 2 k && (Nat.beq (k % 2) (cond b8 1 0) && e.live k)) (ticket b8 fid (e.kill k) (fun k'=>putK d (.sl k' z (xs++new))) fr) .bad))
  (cond (Nat.beq k 1) (hsO z (xs.length+new.length) false d fr (newAt e W a (Nat.beq kind 2) (.vec z (xs++new)))) .bad)
noncomputable def zgr (W:List Lo) (a kind z bytes:Nat) (z':Nat) (new:List AV) (d:Option Pth) (fr:Fr) (e:E) (l:Lo) (sz off n:Nat) (ex:Bool):Ob→R
 | .vec w es =>
  cond (Nat.beq es.length sz && (Nat.beq w z && (Nat.beq z' z && (Nat.blt ((n+new.length) * bytes) big && Nat.blt (n+new.length) big))))
   (cond ex
    (hsO z (n+new.length) false d fr (newAt e W a (Nat.beq kind 2) (.vec z ((es.drop off).take n++new))))
    (cond (free W l)
     (cond (Nat.beq (off+n) sz && Nat.beq off 0)
      (.go (Fr.put d fr (.hs l z (sz+new.length) off (n+new.length) false)) (e.set l (.vec w (es++new))))
      (cond (Nat.ble (off+n+new.length) sz)
       (.go (Fr.put d fr (.hs l z sz off (n+new.length) false)) (e.set l (.vec w (es.take (off+n)++new++es.drop (off+n+new.length)))))
       .bad))
     .bad))
   .bad
 | _=>.bad
noncomputable def appV (b8:Bool) (fid:Nat) (W:List Lo) (a kind z bytes:Nat) (z':Nat) (new:List AV) (d:Option Pth) (fr:Fr) (e:E):AV→R
 | .sl k z0 xs =>
  cond (Nat.beq z' z && (((xs.isEmpty && Nat.beq k 1) || Nat.beq z0 z) && (Nat.blt ((xs.length+new.length) * bytes) big && Nat.blt (xs.length+new.length) big)))
   (z8d b8 fid W a kind z new d fr e k xs) .bad
 | .hs l _ sz off n ex=>zgr W a kind z bytes z' new d fr e l sz off n ex (e.get l)
 | _=>.bad
noncomputable def appN (d:Option Pth) (fr:Fr) (e:E):AV→R
 | .sl k z xs=>.go (Fr.put d fr (.sl k z xs)) e
 | .hs l z sz off n ex=>.go (Fr.put d fr (.hs l z sz off n ex)) e
 | _=>.bad
noncomputable def appE (b8:Bool) (fid:Nat) (W:List Lo) (a kind z bytes:Nat) (v:AV) (d:Option Pth) (fr:Fr) (e:E):Option (Nat × List AV)→R
 | some (z',new)=>cond new.isEmpty (appN d fr e v) (appV b8 fid W a kind z bytes z' new d fr e v)
 | none=>.bad
noncomputable def zlv (a kind z:Nat) (zero:AV) (bytes:Nat) (x y:AX) (_:z06) (fid:Nat) (W:List Lo) (d:Option Pth) (fr:Fr) (e:E):R :=
 appE (is8 zero) fid W a kind z bytes (x.ev fr.s) d fr e (elems e (y.ev fr.s))
noncomputable def apzN (a:Nat) (g:Bool) (z:Nat) (zero:AV) (bytes:Nat) (W:List Lo) (d:Option Pth) (fr:Fr) (e:E) (n:Nat):R :=
 cond (Nat.blt 0 n && (Nat.blt (n * bytes) big && Nat.blt n big)) (hsO z n false d fr (newAt e W a g (.vec z (List.replicate n zero)))) .bad
noncomputable def apzS (k:Nat→R):AV→AV→R
 | .sl j _ [],.int _ (.ofNat n)=>cond (Nat.beq j 1) (k n) .bad
 | _,_=>.bad
noncomputable def zlw (a:Nat) (g:Bool) (z:Nat) (zero:AV) (bytes:Nat) (x n:AX) (_:z06) (_:Nat) (W:List Lo) (d:Option Pth) (fr:Fr) (e:E):R :=
 apzS (fun n=>apzN a g z zero bytes W d fr e n) (x.ev fr.s) (n.ev fr.s)
noncomputable def clrO (z:Nat) (zero:AV) (W:List Lo) (d:Option Pth) (fr:Fr) (e:E) (l:Lo) (sz off n:Nat):Ob→R
 | .vec w es=>cond (Nat.beq es.length sz && (Nat.beq w z && free W l)) (.go (Fr.put d fr .undef) (e.set l (.vec w (es.take off++List.replicate n zero++es.drop (off+n))))) .bad
 | _=>.bad
noncomputable def clrV (z:Nat) (zero:AV) (W:List Lo) (d:Option Pth) (fr:Fr) (e:E):AV→R
 | .sl _ _ []=>.go (Fr.put d fr .undef) e
 | .hs l _ sz off n _=>cond (Nat.beq n 0) (.go (Fr.put d fr .undef) e) (clrO z zero W d fr e l sz off n (e.get l))
 | _=>.bad
noncomputable def zlx (z:Nat) (zero:AV) (x:AX) (_:z06) (_:Nat) (W:List Lo) (d:Option Pth) (fr:Fr) (e:E):R:=clrV z zero W d fr e (x.ev fr.s)
noncomputable def cpyO (z z':Nat) (new:List AV) (W:List Lo) (d:Option Pth) (fr:Fr) (e:E) (l:Lo) (sz off:Nat):Ob→R
 | .vec w es=>cond (Nat.beq es.length sz && (Nat.beq w z && (Nat.beq z' z && free W l))) (.go (Fr.put d fr (.int .i64 (.ofNat new.length))) (e.set l (.vec w (es.take off++new++es.drop (off+new.length))))) .bad
 | _=>.bad
noncomputable def cpyE (z n:Nat) (W:List Lo) (d:Option Pth) (fr:Fr) (e:E) (l:Lo) (sz off:Nat):Option (Nat × List AV)→R
 | some (z',new)=>cond (Nat.beq (min n new.length) 0) (.go (Fr.put d fr (.int .i64 (.ofNat 0))) e) (cpyO z z' (new.take n) W d fr e l sz off (e.get l))
 | none=>.bad
noncomputable def cpyV (z:Nat) (W:List Lo) (d:Option Pth) (fr:Fr) (e:E) (y:Option (Nat × List AV)):AV→R
 | .hs l _ sz off n _=>cpyE z n W d fr e l sz off y
 | _=>.bad
noncomputable def zly (z:Nat) (x y:AX) (_:z06) (_:Nat) (W:List Lo) (d:Option Pth) (fr:Fr) (e:E):R:=cpyV z W d fr e (z15 e (y.ev fr.s)) (x.ev fr.s)
noncomputable def s2bV (d:Option Pth) (fr:Fr) (e:E):AV→R
 | .str b=>.go (Fr.put d fr (.sl 0 1 (z0c b))) e
 | _=>.bad
noncomputable def zlz (x:AX) (_:z06) (_:Nat) (_:List Lo) (d:Option Pth) (fr:Fr) (e:E):R:=s2bV d fr e (x.ev fr.s)
noncomputable def mupF (ag:Bool) (ks:List CK) (W:List Lo) (d:Option Pth) (fr:Fr) (e:E) (l:Lo) (k v:AV) (es:List (AV × AV)):Option (Option AV)→R
 | some _=>cond (free W l) (.go (Fr.put d fr .undef) ((e.moves v.cells l).set l (.map (put ag ks k v es)))) .bad
 | none=>.bad
noncomputable def mupO (ag:Bool) (ks:List CK) (W:List Lo) (d:Option Pth) (fr:Fr) (e:E) (l:Lo) (k v:AV):Ob→R
 | .map es=>mupF ag ks W d fr e l k v es (find ag ks k es)
 | _=>.bad
noncomputable def mupV (ag:Bool) (ks:List CK) (W:List Lo) (d:Option Pth) (fr:Fr) (e:E) (k v:AV):AV→R
 | .map l=>mupO ag ks W d fr e l k v (e.get l)
 | _=>.bad
noncomputable def zm (ag:Bool) (ks:List CK) (m k x:AX) (_:z06) (_:Nat) (W:List Lo) (d:Option Pth) (fr:Fr) (e:E):R :=
 mupV ag ks W d fr e (k.ev fr.s) (x.ev fr.s) (m.ev fr.s)
noncomputable def menF (ag:Bool) (ks:List CK) (W:List Lo) (d:Option Pth) (fr:Fr) (e:E) (l:Lo) (k zero:AV) (es:List (AV × AV)):Option (Option AV)→R
 | some (some v)=>cond (free W l) (.go (Fr.put d fr (.tup [v,.stamp l k])) e) .bad
 | some none=>cond (free W l) (.go (Fr.put d fr (.tup [zero,.stamp l k])) (e.set l (.map (put ag ks k zero es)))) .bad
 | none=>.bad
noncomputable def menO (ag:Bool) (ks:List CK) (W:List Lo) (d:Option Pth) (fr:Fr) (e:E) (l:Lo) (k zero:AV):Ob→R
 | .map es=>menF ag ks W d fr e l k zero es (find ag ks k es)
 | _=>.bad
noncomputable def menV (ag:Bool) (ks:List CK) (W:List Lo) (d:Option Pth) (fr:Fr) (e:E) (k zero:AV):AV→R
 | .map l=>menO ag ks W d fr e l k zero (e.get l)
 | _=>.bad
noncomputable def zm0 (ag:Bool) (ks:List CK) (zero:AV) (m k:AX) (_:z06) (_:Nat) (W:List Lo) (d:Option Pth) (fr:Fr) (e:E):R :=
 menV ag ks W d fr e (k.ev fr.s) zero (m.ev fr.s)
noncomputable def estF (ag:Bool) (ks:List CK) (W:List Lo) (d:Option Pth) (fr:Fr) (e:E) (l:Lo) (k v:AV) (es:List (AV × AV)):Option (Option AV)→R
 | some (some _)=>cond (free W l) (.go (Fr.put d fr .undef) ((e.moves v.cells l).set l (.map (put ag ks k v es)))) .bad
 | _=>.bad
noncomputable def estO (ag:Bool) (ks:List CK) (W:List Lo) (d:Option Pth) (fr:Fr) (e:E) (l:Lo) (k v:AV):Ob→R
 | .map es=>estF ag ks W d fr e l k v es (find ag ks k es)
 | _=>.bad
noncomputable def estV (ag:Bool) (ks:List CK) (W:List Lo) (d:Option Pth) (fr:Fr) (e:E) (v:AV):AV→AV→R
 | .map l,.stamp l' k=>cond (decide (l=l')) (estO ag ks W d fr e l k v (e.get l)) .bad
 | _,_=>.bad
noncomputable def zm1 (ag:Bool) (ks:List CK) (m k x:AX) (_:z06) (_:Nat) (W:List Lo) (d:Option Pth) (fr:Fr) (e:E):R :=
 estV ag ks W d fr e (x.ev fr.s) (m.ev fr.s) (k.ev fr.s)
noncomputable def evCall (f:FuncId) (args:List AX) (call:z06) (fid:Nat) (W:List Lo) (d:Option Pth) (fr:Fr) (e:E):R :=
 cond (room fr.cnt) (after d fr (call f (evs fr.s args) W (child fid fr.cnt) e)) .bad
noncomputable def z30 (args:List AV) (call:z06) (fid:Nat) (W:List Lo) (d:Option Pth) (fr:Fr) (e:E):AV→R
 | .fn g first captured=>cond (room fr.cnt) (after d fr (call g (first++args++captured) W (child fid fr.cnt) e)) .bad
 | _=>.bad
noncomputable def zbq (f:AX) (args:List AX) (call:z06) (fid:Nat) (W:List Lo) (d:Option Pth) (fr:Fr) (e:E):R :=
 z30 (evs fr.s args) call fid W d fr e (f.ev fr.s)
noncomputable def panV (fr:Fr) (e:E):AV→R
 | .ifc t v=>.pan (.ifc t v) fr e
 | _=>.bad
noncomputable def evPan (x:AX) (_:z06) (_:Nat) (_:List Lo) (_:Option Pth) (fr:Fr) (e:E):R:=panV fr e (x.ev fr.s)
noncomputable def EO.ev:EO→z06→Nat→List Lo→Option Pth→Fr→E→R
 | .new a g m o=>zlu a g m o
 | .st size a x=>evSt size a x
 | .stx v size a x=>evStx v size a x
 | .box a g t n x=>evBox a g t n x
 | .mks a g hs ex z zero bytes l c=>evMks a g hs ex z zero bytes l c
 | .app a kind z zero bytes x y=>zlv a kind z zero bytes x y
 | .apz a g z zero bytes x n=>zlw a g z zero bytes x n
 | .clr z zero x=>zlx z zero x
 | .cpy z x y=>zly z x y
 | .s2b x=>zlz x
 | .mup ag ks m k x=>zm ag ks m k x
 | .men ag ks zero m k=>zm0 ag ks zero m k
 | .est ag ks m k x=>zm1 ag ks m k x
 | .call f args=>evCall f args
 | .callv f args=>zbq f args
 | .pan x=>evPan x
noncomputable def optV (d:Option Pth) (fr:Fr) (e:E):Option AV→R
 | some v=>.go (Fr.put d fr v) e
 | none=>.bad
noncomputable def opP (o:PO) (_:z06) (_:Nat) (_:List Lo) (d:Option Pth) (fr:Fr) (e:E):R:=optV d fr e (o.ev fr.s)
noncomputable def opR (o:RO) (_:z06) (_:Nat) (_:List Lo) (d:Option Pth) (fr:Fr) (e:E):R:=optV d fr e (o.ev fr.s e)
noncomputable def opE (o:EO) (watch:List WX) (call:z06) (fid:Nat) (W:List Lo) (d:Option Pth) (fr:Fr) (e:E):R :=
 chkR fr.s e watch (o.ev call fid (z0o fr.s W watch) d fr e)
noncomputable def OP.ev:OP→z06→Nat→List Lo→Option Pth→Fr→E→R
 | .p o=>opP o
 | .r o=>opR o
 | .e o watch=>opE o watch
noncomputable def z1n (want:Bool) (d:Option Pth) (fr:Fr) (e:E) (k:R):AV→R
 | .bool b=>cond (b==want) k (.go (Fr.put d fr .undef) e)
 | .undef=>.go (Fr.put d fr .undef) e
 | _=>.bad
noncomputable def aoG (d:Option Pth) (o:OP) (call:z06) (fid:Nat) (W:List Lo) (fr:Fr) (e:E):Option (Pth × Bool)→R
 | none=>o.ev call fid W d fr e
 | some (t,want)=>z1n want d fr e (o.ev call fid W d fr e) (fr.s.get t)
noncomputable def AO.ev:AO→z06→Nat→List Lo→Fr→E→R
 | ⟨d,g,o⟩=>fun call fid W fr e=>aoG d o call fid W fr e g
noncomputable def R.bind (k:Fr→E→R):R→R
 | .go fr e=>k fr e
 | .bad=>.bad
 | .exit id fr e=>.exit id fr e
 | .ret fr e=>.ret fr e
 | .pan v fr e=>.pan v fr e
noncomputable def R.leave (id:Nat):R→R
 | .exit j fr e=>cond (Nat.beq j id) (.go fr e) (.exit j fr e)
 | r=>r
noncomputable def z0j (call:z06) (fid:Nat) (W:List Lo) (l:List AO):Fr→E→R :=
 List.rec (motive:=fun _=>Fr→E→R) (fun fr e=>.go fr e) (fun o _ ih fr e=>R.bind ih (o.ev call fid W fr e)) l
noncomputable def iter (f:Fr→E→R):Nat→Fr→E→R
 | 0,_,_=>.bad
 | n+1,fr,e=>R.bind (iter f n) (f fr e)
noncomputable def z3w (a b:Fr→E→R) (fr:Fr) (e:E):AV→R
 | .bool t=>cond t (a fr e) (b fr e)
 | _=>.bad
noncomputable def run (call:z06) (fuel fid:Nat) (W:List Lo) (c:AC):Fr→E→R :=
 AC.rec (motive:=fun _=>Fr→E→R)
  (fun fr e=>.go fr e)
  (fun ops fr e=>z0j call fid W ops fr e)
  (fun _ _ ra rb fr e=>R.bind rb (ra fr e))
  (fun c _ _ ra rb fr e=>z3w ra rb fr e (c.ev fr.s))
  (fun id _ rc fr e=>R.leave id (rc fr e))
  (fun _ rc fr e=>iter rc fuel fr e)
  (fun id fr e=>.exit id fr e)
  (fun fr e=>.ret fr e) c
inductive RV where
 | t (p:Pth)
 | c (ag:Bool) (size:Nat) (p:Pth)
 deriving Inhabited
structure DF where
 t:Pth
 g:FuncId
 caps:List AX
 post:AC
 code:AC
 na:Nat
 rc:List Pth
 deriving Inhabited
structure FI where
 code:AC
 na:Nat
 res:List RV
 df:Option DF:=none
 deriving Inhabited
noncomputable def zid (e:E) (l:Lo) (sz off len:Nat):Ob→Option (AV × E)
 | .vec z es=>cond (Nat.beq es.length sz) (some (.sl 0 z ((es.drop off).take len),e.set l .none)) none
 | _=>none
noncomputable def zm2 (fid:Nat) (e:E) (z sz off len:Nat) (ex:Bool):Lo→Option (AV × E)
 | .lo f a i=>cond (Nat.beq f fid) (zid e (.lo f a i) sz off len (e.get (.lo f a i))) (some (.hs (.lo f a i) z sz off len ex,e))
 | .gl i=>some (.hs (.gl i) z sz off len ex,e)
noncomputable def resV (fid:Nat) (e:E):AV→Option (AV × E)
 | .hs l z sz off len ex=>zm2 fid e z sz off len ex l
 | v=>some (v,e)
noncomputable def resL (fid:Nat) (e:E):Option AV→Option (AV × E)
 | some v=>resV fid e v
 | none=>none
noncomputable def zgs (fid:Nat) (e:E) (s:Tm):RV→Option (AV × E)
 | .t p=>resV fid e (s.get p)
 | .c ag size p=>resL fid e (z19 e ag size (s.get p))
noncomputable def resC (v:AV):Option (List AV × E)→Option (List AV × E)
 | some (vs,e)=>some (v::vs,e)
 | none=>none
noncomputable def resB (k:E→Option (List AV × E)):Option (AV × E)→Option (List AV × E)
 | some (v,e)=>resC v (k e)
 | none=>none
noncomputable def z12 (fid:Nat) (s:Tm):List RV→E→Option (List AV × E)
 | [],e=>some ([],e)
 | r::rest,e=>resB (z12 fid s rest) (zgs fid e s r)
noncomputable def upK (k:Nat):E→E
 | ⟨f::g::rest,glo,gl⟩=>cond (z0f f.live k) ⟨f::⟨g.fid,g.objs,k::g.live⟩::rest,glo,gl⟩ ⟨f::g::rest,glo,gl⟩
 | e=>e
noncomputable def ups:List AV→E→E
 | [],e=>e
 | .sl k _ _::rest,e=>ups rest (cond (Nat.ble 2 k) (upK k e) e)
 | _::rest,e=>ups rest e
noncomputable def upAll:List AV→E→E
 | [],e=>e
 | v::rest,e=>upAll rest (ups v.cells e)
noncomputable def pop:E→E
 | ⟨stk,glo,gl⟩=>⟨stk.tail,glo,gl⟩
noncomputable def params:List AV→Nat→Tm→Tm
 | [],_,s=>s
 | v::rest,i,s=>params rest (i+1) (s.set (pth i) v)
noncomputable def zgt:List AV→AV
 | [v]=>v
 | vs=>.tup vs
noncomputable def finR:Option (List AV × E)→CR
 | some (vs,e)=>.ret (zgt vs) (pop (upAll vs e))
 | none=>.bad
noncomputable def z2m (fi:FI) (fid:Nat):R→CR
 | .go fr e=>finR (z12 fid fr.s fi.res e)
 | .ret fr e=>finR (z12 fid fr.s fi.res e)
 | .pan v _ e=>.pan v (pop e)
 | _=>.bad
noncomputable def z26:List Pth→AV→Tm→Tm
 | [],_,s=>s
 | p::r,v,s=>z26 r v (s.set p v)
noncomputable def z1j (fi:FI) (fid:Nat) (s:Tm):R→CR
 | .go _ e=>finR (z12 fid s fi.res (pop e))
 | .ret _ e=>finR (z12 fid s fi.res (pop e))
 | _=>.bad
noncomputable def z1t (call:z06) (fuel:Nat) (fi:FI) (d:DF) (W:List Lo) (fid:Nat) (s:Tm) (caps:List AV) (v:AV) (cnt:Nat):E→CR
 | ⟨stk,glo,gl⟩=>cond (room cnt) (z1j fi fid s (run call fuel (child fid cnt) W d.code ⟨z26 d.rc v (params caps 0 .nil),0⟩ ⟨⟨child fid cnt,List.replicate d.na (0,.none,.none),[]⟩::stk,glo,gl⟩)) .bad
noncomputable def z3x (call:z06) (fuel:Nat) (fi:FI) (d:DF) (W:List Lo) (fid:Nat) (s:Tm) (caps:List AV):R→CR
 | .go fr e=>z1t call fuel fi d W fid s caps .nili fr.cnt e
 | .ret fr e=>z1t call fuel fi d W fid s caps .nili fr.cnt e
 | .pan v fr e=>z1t call fuel fi d W fid s caps v fr.cnt e
 | _=>.bad
noncomputable def bodyS (call:z06) (fuel:Nat) (fi:FI) (d:DF) (W:List Lo) (fid:Nat) (caps:List AV) (e:E):Fr→CR
 | ⟨s,cnt⟩=>z3x call fuel fi d W fid s caps (run call fuel fid W d.post ⟨s.set d.t (.fn d.g [] caps),cnt⟩ e)
noncomputable def z45 (call:z06) (fuel:Nat) (fi:FI) (d:DF) (W:List Lo) (fid:Nat):R→CR
 | .go fr e=>bodyS call fuel fi d W fid (evs fr.s d.caps) e fr
 | .ret fr e=>finR (z12 fid fr.s fi.res e)
 | .pan v _ e=>.pan v (pop e)
 | _=>.bad
noncomputable def z31 (call:z06) (fuel:Nat) (fi:FI) (W:List Lo) (fid:Nat):Option DF→R→CR
 | none=>z2m fi fid
 | some d=>z45 call fuel fi d W fid
noncomputable def body (call:z06) (fuel:Nat) (fi:FI) (args:List AV) (W:List Lo) (fid:Nat):E→CR
 | ⟨stk,glo,gl⟩=>z31 call fuel fi W fid fi.df (run call fuel fid W fi.code ⟨params args 0 .nil,0⟩ ⟨⟨fid,List.replicate fi.na (0,.none,.none),[]⟩::stk,glo,gl⟩)
abbrev z07:=List AV→List Lo→Nat→E→Option (AV × E)
noncomputable def z2j (call:z06) (n:Nat) (args:List AV) (W:List Lo) (fid:Nat) (e:E):Option FI→CR
 | some fi=>body call n fi args W fid e
 | none=>.bad
noncomputable def intrR (r:CR):Option (AV × E)→CR
 | some (v,e)=>.ret v e
 | none=>r
noncomputable def z1u (call:z06) (n:Nat) (P:FuncId→Option FI) (f:FuncId) (args:List AV) (W:List Lo) (fid:Nat) (e:E):Option z07→CR
 | some g=>intrR (z2j call n args W fid e (P f)) (g args W fid e)
 | none=>z2j call n args W fid e (P f)
noncomputable def z09 (P:FuncId→Option FI) (I:FuncId→Option z07):Nat→z06
 | 0=>fun _ _ _ _ _=>.bad
 | n+1=>fun f args W fid e=>z1u (z09 P I n) n P f args W fid e (I f)
end Go.Abs
namespace Go.Abs
open Go
variable [Glob]
structure Dec where
 site:List (Nat × Nat)        -- region's number * 1024+operation: what is decided there
def Dec.at (d:Dec) (rid i:Nat):Nat:=((d.site.find? fun p=>Nat.beq p.1 (rid * 1024+i)).map (·.2)).getD 0
def cv:Value→Option AV
 | .bool b=>some (.bool b)
 | .int k n=>some (.int k n)
 | .string s=>some (.str (s.data.toList.map UInt8.toNat))
 | .pointer none=>some .nilp
 | .slice none 0 0=>some (.sl 1 0 [])
 | .map none=>some .nilm
 | .nilFunc=>some .nilf
 | .nilIface=>some .nili
 | .func (.func f) F C=>cond (Nat.beq F.size 0 && Nat.beq C.size 0) (some (.fn f [] [])) none
 | _=>none
def cvs:List Value→Option (List AV)
 | []=>some []
 | v::rest=>match cv v,cvs rest with | some a,some l=>some (a::l) | _,_=>none
def cva:Value→Option AV
 | .agg cs=>(cvs cs.toList).map .agg
 | v=>cv v
def cx:Operand→Option AX
 | .tmp t=>some (.t (pth t))
 | .const v=>(cva v).map .c
 | .func f=>some (.c (.fn f [] []))
 | .global g=>(Glob.gv g).map fun cs=>.c (.vp cs 0)
def cxs:List Operand→Option (List AX)
 | []=>some []
 | x::rest=>match cx x,cxs rest with | some a,some l=>some (a::l) | _,_=>none
def aggB (P:Program) (t:TypeId):Option Bool :=
 match P.underlying t with | some (.struct _) | some (.array ..)=>some true | some _=>some false | none=>none
def z13 (P:Program) (t:TypeId):Option Nat:=(P.info? t).map (·.size)
def z6d (P:Program) (t:TypeId):Option Nat:=match z13 P t with | some n=>cond (Nat.ble 1 n) (some n) none | none=>none
def z79 (P:Program) (t:TypeId):Option AV:=((P.info? t).bind (·.zero)).bind cva
def z7a (P:Program) (t:TypeId):Option (Nat × AV) :=
 match z6d P t,z79 P t with
 | some n,some z=>cond (Nat.beq z.cells.length n) (some (n,z)) none
 | _,_=>none
def zee (P:Program) (fs:List Field):Bool:=(fs.mapM fun f=>(P.info? f.type).map fun i=>(f.offset,i.size)).isSome
def z8e (P:Program) (kt:TypeId→Option (List CK)):List Field→Nat→Option (List CK)
 | [],_=>some []
 | f::fs,off =>
  match kt f.type,z8e P kt fs (off+(z13 P f.type).getD 0) with
  | some a,some b=>cond (f.name != "_" && Nat.beq f.offset off && (z13 P f.type==some a.length)) (some (a++b)) none
  | _,_=>none
def z1l (P:Program):Nat→TypeId→Option (List CK)
 | 0,_=>none
 | n+1,t =>
  match P.underlying t with
  | some .bool=>some [.b]
  | some (.int _)=>some [.i]
  | some .string=>some [.s]
  | some (.struct fs)=>cond (P.stoodInHeld t) none (z8e P (z1l P n) fs.toList 0)
  | some (.array len e) =>
   match z1l P n e with
   | some ks=>cond (z13 P e==some ks.length) (some (List.replicate len ks).flatten) none
   | none=>none
  | _=>none
def zfk (P:Program) (t:TypeId) (cst:Bool):Option EqK :=
 match P.underlying t with
 | some .bool | some (.int _) | some .string=>some (.cells false ((z1l P 1 t).getD []))
 | some (.struct _) | some (.array ..)=>match z1l P 8 t with | some ks=>some (.cells true ks) | none=>none
 | some (.pointer el)=>cond (z6d P el).isSome (some .ptr) none
 | some (.interface _)=>cond cst (some .ifc) none
 | some (.func ..)=>some .fn
 | some (.map ..)=>some .map
 | some (.slice _)=>some .sl
 | _=>none
def bad:OP:=.p (.ext (.c .undef) 0)
def parts (P:Program) (fs:List Field):List (Nat × Operand)→Option (List (Nat × Nat × AX))
 | []=>some []
 | (i,x)::rest =>
  match fs[i]?,cx x,parts P fs rest with
  | some f,some x,some l=>match z6d P f.type with | some n=>some ((f.offset,n,x)::l) | none=>none
  | _,_,_=>none
def zan (n:Nat):List (Nat × Operand)→Option (List (Nat × Nat × AX))
 | []=>some []
 | (i,x)::rest=>match cx x,zan n rest with | some x,some l=>some ((i * n,n,x)::l) | _,_=>none
def zao:List (Nat × Operand)→Option (List (Nat × AX))
 | []=>some []
 | (i,x)::rest=>match cx x,zao rest with | some x,some l=>some ((i,x)::l) | _,_=>none
def optX:Option Operand→Option (Option AX)
 | none=>some none
 | some x=>(cx x).map some
def sited (dec:Nat) (op:Op):Bool :=
 match op with
 | .alloc _ | .makeMap .. | .box ..=>true
 | .makeSlice .. | .call { callee:=.builtin .append,.. }=>!Nat.beq dec 0
 | _=>false
def zbr:TypeDesc→Bool
 | .slice _=>true
 | .string=>true
 | _=>false
def decL:Nat→Nat→List (Nat × Nat)
 | 0,_=>[]
 | f+1,d=>cond (Nat.beq d 0) [] (((d % 4294967296 - 1) / 1024,(d % 4294967296 - 1) % 1024)::decL f (d / 4294967296))
def lays (P:Program) (u:TypeId):List (Nat × Nat)→List (Nat × Nat × Nat)
 | []=>[]
 | (t,off)::r=>match z13 P t with
  | some n=>cond (liesAt P P.depth t (n / P.cellsOf t) off u 1) ((t,n,off)::lays P u r) (lays P u r)
  | none=>lays P u r
def u8B (P:Program) (t:TypeId):Bool:=(match P.underlying t with | some (.int .u8)=>true | _=>false) && (z13 P t==some 1)
def ldOp (P:Program) (dec:Nat) (t:TypeId) (ag:Bool) (n:Nat) (x:AX):RO :=
 cond ((match P.underlying t with | some .bool | some (.int _) | some (.pointer _) | some (.map ..)=>true | some (.slice _)=>Nat.beq dec 1 | _=>false) && (!ag && Nat.beq n 1)) (.ldc x) (.ld ag n x)
def stOp (dec n:Nat) (a x:AX):EO:=cond (Nat.beq dec 1) (.stx true n a x) (cond (Nat.beq dec 2) (.stx false n a x) (.st n a x))
def z05 (P:Program) (dec a:Nat) (op:Op):Option OP :=
 match op with
 | .move x | .assign x=>do some (.p (.mov (← cx x)))
 | .pick c x y=>do some (.p (.pick (← cx c) (← cx x) (← cx y)))
 | .alloc t=>do some (.e (.new a (Nat.beq dec 1) false (.cells t (← z79 P t).cells)) [])
 | .box t x=>do some (.e (.box a (Nat.beq dec 1) t (← z6d P t) (← cx x)) [])
 | .build t ps=>do
  let .agg z ← z79 P t | none
  match P.underlying t with
  | some (.struct fs)=>cond (zee P fs.toList) (do some (.p (.bld z (← parts P fs.toList ps.toList)))) none
  | some (.array _ e)=>some (.p (.bld z (← zan (← z6d P e) ps.toList)))
  | _=>none
 | .buildSlice t len ps=>do
  let some (.slice e):=P.underlying t | none
  let (n,z) ← z7a P e
  cond (Nat.ble (len * n) 16777216) (do some (.p (.bsl len n z (← zao ps.toList)))) none
 | .load t x=>do some (.r (ldOp P dec t (← aggB P t) (← z13 P t) (← cx x)))
 | .store t x y=>do some (.e (stOp dec (← z6d P t) (← cx x) (← cx y)) [])
 | .nilCheck x=>do some (.p (.nilc (← cx x)))
 | .binOp op t x y _=>do some (.p (.bin op (← zfk P t (Region.isConst x || Region.isConst y)) (← cx x) (← cx y)))
 | .unOp op _ x=>do some (.p (.un op (← cx x)))
 | .convert s d x=>do
  match P.underlying s,P.underlying d with
  | some (.int _),some (.int k)=>some (.p (.cvi k (← cx x)))
  | some .string,some .string=>some (.p (.cvs (← cx x)))
  | some .string,some (.slice e)=>match P.underlying e with | some (.int .u8)=>some (.e (.s2b (← cx x)) []) | _=>none
  | some (.slice e),some .string=>match P.underlying e with | some (.int .u8)=>some (.r (.b2s (← cx x))) | _=>none
  | some (.pointer t),some .unsafePointer=>do let _ ← z6d P t; some (.r (.cvu (← cx x)))
  | some .unsafePointer,some (.pointer u)=>do let _ ← z6d P u; some (.r (.cvp (lays P u (decL 8 dec)) (← cx x)))
  | _,_=>none
 | .makeInterface t x=>do
  match P.underlying t with
  | some (.interface _) | none=>none
  | _=>some (.p (.ifc t (← cx x)))
 | .makeFunc (.func f) first captured=>do some (.p (.mkf f (← cxs first.toList) (← cxs captured.toList)))
 | .makeMap t r =>
  match r,P.underlying t with
  | none,_=>some (.e (.new a (Nat.beq dec 1) true (.map [])) [])
  | some (.const (.int ..)),some (.map ..)=>some (.e (.new a (Nat.beq dec 1) true (.map [])) [])
  | _,_=>none
 | .makeSlice t l c=>do
  let some (.slice e):=P.underlying t | none
  let i ← P.info? e
  let (n,z) ← z7a P e
  cond (!is8 z || u8B P e) (do some (.e (.mks a (Nat.beq dec 2) (!Nat.beq dec 0) (!Nat.beq dec 3) n z i.bytes (← cx l) (← cx c)) [])) none
 | .slice t x lo hi mx=>do
  match P.underlying t with
  | some .string=>some (.p (.sls true 0 (← cx x) (← optX lo) (← optX hi) (← optX mx)))
  | some (.array m e)=>cond (mx.isNone && (z13 P e==some 1)) (do some (.p (.sla m (← cx x) (← optX lo) (← optX hi)))) none
  | some (.slice e)=>cond (mx.isNone || hi.isSome) (do some (.p (.sls false (← z13 P e) (← cx x) (← optX lo) (← optX hi) (← optX mx)))) none
  | _=>none
 | .fieldAddr t x f=>do
  let some (.struct fs):=P.underlying t | none
  let fd ← fs[f]?
  let n ← z13 P fd.type
  if Nat.beq n 0 then none else some (.p (.fad fd.offset (← cx x)))
 | .field t x f=>do
  let some (.struct fs):=P.underlying t | none
  let fd ← fs[f]?
  some (.p (.fld (← aggB P fd.type) fd.offset (← z13 P fd.type) (← cx x)))
 | .indexAddr t x i=>do
  match P.underlying t with
  | some (.slice e)=>some (.p (.iad (← z13 P e) (← cx x) (← cx i)))
  | some (.array n e)=>some (.p (.iaa n (← z13 P e) (← cx x) (← cx i)))
  | _=>none
 | .index t x i=>do
  match P.underlying t with
  | some .string=>some (.p (.ixs (← cx x) (← cx i)))
  | some (.array n e)=>some (.p (.ixa n (← z13 P e) (← aggB P e) (← cx x) (← cx i)))
  | _=>none
 | .lookup t x k ok=>do
  let some (.map kt e):=P.underlying t | none
  some (.r (.lku (← aggB P kt) (← z1l P 8 kt) ok (← z79 P e) (← cx x) (← cx k)))
 | .mapUpdate t m k x | .insert t m k x=>do
  let some (.map kt _):=P.underlying t | none
  some (.e (.mup (← aggB P kt) (← z1l P 8 kt) (← cx m) (← cx k) (← cx x)) [])
 | .mapEntry t m k=>do
  let some (.map kt e):=P.underlying t | none
  some (.e (.men (← aggB P kt) (← z1l P 8 kt) (← z79 P e) (← cx m) (← cx k)) [])
 | .entryStore t m s x=>do
  let some (.map kt _):=P.underlying t | none
  some (.e (.est (← aggB P kt) (← z1l P 8 kt) (← cx m) (← cx s) (← cx x)) [])
 | .typeAssert x _ t ok=>do
  match P.underlying t with
  | some (.interface _) | none=>none
  | _=>some (.p (.tas t ok (← cond ok (z79 P t) (some .undef)) (← cx x)))
 | .extract x i=>do some (.p (.ext (← cx x) i))
 | .call c =>
  match c.callee,c.args.toList with
  | .builtin .len,[x]=>do
   let t ← c.argTypes[0]?
   match P.underlying t with
   | some (.map ..)=>some (.r (.mlen (← cx x)))
   | some .string=>some (.p (.len true (← cx x)))
   | some (.slice _)=>some (.p (.len false (← cx x)))
   | _=>none
  | .builtin .append,[s,x]=>do
   let t ← c.argTypes[0]?
   let some (.slice e):=P.underlying t | none
   let u ← c.argTypes[1]?
   let d ← P.underlying u
   if !zbr d then
    (match d with
    | .int _=>do
     let i ← P.info? e
     let (n,z) ← z7a P e
     some (.e (.apz a (Nat.beq dec 2) n z i.bytes (← cx s) (← cx x)) [])
    | _=>none)
   else
   let i ← P.info? e
   let (n,z) ← z7a P e
   cond (!is8 z || u8B P e) (do some (.e (.app a dec n z i.bytes (← cx s) (← cx x)) [])) none
  | .builtin .unsafeSliceData,[x]=>do some (.p (.usd (← cx x)))
  | .builtin .unsafeString,[x,n]=>do
   let t ← c.argTypes[0]?
   match P.underlying t with
   | some (.pointer el)=>cond (u8B P el) (do some (.p (.ust (← cx x) (← cx n)))) none
   | _=>none
  | .builtin .min,[x,y]=>do some (.p (.mm false (← cx x) (← cx y)))
  | .builtin .max,[x,y]=>do some (.p (.mm true (← cx x) (← cx y)))
  | .builtin .panic,[x]=>do some (.e (.pan (← cx x)) [])
  | .builtin .cap,[x]=>do
   let t ← c.argTypes[0]?
   match P.underlying t with
   | some (.slice _)=>some (.p (.cap (← cx x)))
   | _=>none
  | .builtin .clear,[x]=>do
   let t ← c.argTypes[0]?
   match P.underlying t with
   | some (.slice el)=>do
    let (n,z) ← z7a P el
    some (.e (.clr n z (← cx x)) [])
   | _=>none
  | .builtin .copy,[x,y]=>do
   let t ← c.argTypes[0]?
   match P.underlying t with
   | some (.slice el)=>do
    let u ← c.argTypes[1]?
    match P.underlying u with
    | some (.slice _)=>do
     let (n,_) ← z7a P el
     some (.e (.cpy n (← cx x) (← cx y)) [])
    | _=>none
   | _=>none
  | .value (.func f),l=>do some (.e (.call f (← cxs l)) [])
  | .value f,l=>do some (.e (.callv (← cx f) (← cxs l)) [])
  | _,_=>none
 | .panic x=>do some (.e (.pan (← cx x)) [])
 | _=>none
def OP.isNew:OP→Bool
 | .e (.new ..) _=>true
 | _=>false
def OP.isE:OP→Bool
 | .e (.new ..) _=>false
 | .e ..=>true
 | _=>false
def RO.looks:RO→List AX
 | .ld _ _ a=>[a]
 | .ldc a=>[a]
 | .lku _ _ _ _ m _=>[m]
 | .mlen m=>[m]
 | .b2s x=>[x]
 | .cvu x=>[x]
 | .cvp _ x=>[x]
def RO.watch:RO→List WX
 | .ldc a=>[.c a]
 | o=>o.looks.map .l
def OP.looks (d:Option Pth):OP→List WX
 | .r o=>o.watch
 | .e (.new ..) _=>match d with | some q=>[.l (.t q)] | none=>[]
 | _=>[]
def AX.sl:AX→List Pth
 | .t p=>[p]
 | .c _=>[]
def slO':Option AX→List Pth
 | some x=>x.sl
 | none=>[]
def axsl:List AX→List Pth
 | []=>[]
 | x::r=>x.sl++axsl r
def PO.sl:PO→List Pth
 | .mov x | .nilc x | .un _ x | .cvi _ x | .cvs x | .ifc _ x | .fad _ x | .fld _ _ _ x | .ext x _ | .tas _ _ _ x | .len _ x | .cap x | .usd x=>x.sl
 | .pick c a b=>c.sl++(a.sl++b.sl)
 | .ust x y | .bin _ _ x y | .iad _ x y | .iaa _ _ x y | .ixs x y | .ixa _ _ _ x y | .mm _ x y=>x.sl++y.sl
 | .mkf _ a b=>axsl a++axsl b
 | .bld _ ps=>axsl (ps.map (·.2.2))
 | .bsl _ _ _ ps=>axsl (ps.map (·.2))
 | .sls _ _ x lo hi mx=>x.sl++(slO' lo++(slO' hi++slO' mx))
 | .sla _ x lo hi=>x.sl++(slO' lo++slO' hi)
def RO.sl:RO→List Pth
 | .ld _ _ a=>a.sl
 | .ldc a=>a.sl
 | .lku _ _ _ _ m k=>m.sl++k.sl
 | .mlen m=>m.sl
 | .b2s x=>x.sl
 | .cvu x=>x.sl
 | .cvp _ x=>x.sl
def OP.sl:OP→List Pth
 | .p o=>o.sl
 | .r o=>o.sl
 | .e ..=>[]
structure RI where
 idx:Nat
 rd:List Nat
 dst:Option Nat
 bef:Nat
 sync:Bool
 op:OP
 deriving Inhabited
def reads (ops:Array Oper) (o:Oper):List Nat :=
 (o.op.operands.toList.filterMap fun | .tmp t=>some t | _=>none)++(match o.guard with | some (g,_)=>((ops[g]?).bind (·.dst)).toList | none=>[])
def RI.ment (x:RI):List Nat:=x.dst.toList++x.rd
def hasD (d:Option Nat) (l:List Nat):Bool:=match d with | some t=>l.any (Nat.beq t) | none=>false
def zie:List (List Nat × Option Nat)→List (List Nat)→List Bool
 | [],_=>[]
 | (rd,d)::rest,ahead=>(hasD d rd || ahead.any (hasD d))::zie rest ((d.toList++rd)::ahead)
def axEq:AX→AX→Bool
 | .t p,.t q=>decide (p=q)
 | _,_=>false
def noC:AX→Bool
 | .c (.vp ..) | .c .nilp | .c .nilm | .c (.sl ..) | .c (.str _)=>true
 | _=>false
def wxEq:WX→WX→Bool
 | .l a,.l b=>axEq a b || noC a
 | .c a,.c b=>axEq a b || noC a
 | _,_=>false
def zcy (a b:List WX):Bool:=a.all fun x=>b.any (wxEq x)
def zbs (l:List RI):Nat→Nat→List RI
 | 0,_=>[]
 | fuel+1,done =>
  let ready:=l.filter fun x=>!done.testBit x.idx && Nat.beq (x.bef &&& done) x.bef
  match ready.find? (fun x=>!x.sync) with
  | some x=>x::zbs l fuel (done ||| 2 ^ x.idx)
  | none=>match ready with
   | x::_=>x::zbs l fuel (done ||| 2 ^ x.idx)
   | []=>[]
def z16:OP→List WX→OP
 | .e o _,w=>.e o w
 | o,_=>o
def zeq:AV→AV→Bool
 | .bool a,.bool b=>a==b
 | .int k a,.int j b=>decide (k=j) && decide (a=b)
 | .str [],.str []=>true
 | .sl k z [],.sl j y []=>Nat.beq k j && Nat.beq z y
 | .nilp,.nilp=>true
 | .nilm,.nilm=>true
 | .nilf,.nilf=>true
 | .nili,.nili=>true
 | _,_=>false
def z58:OP→OP→Bool
 | .r (.lku ag ks false z m k),.e (.men ag' ks' z' m' k') _=>(ag==ag') && (decide (ks=ks') && (zeq z z' && (axEq m m' && axEq k k')))
 | _,_=>false
def zif (y:RI):List RI→List WX
 | []=>[]
 | x::ahead=>(cond ((y.bef.testBit x.idx && y.sync) || z58 x.op y.op) [] (x.op.looks (x.dst.map pth)))++zif y ahead
def z4m:List RI→List RI→List RI
 | [],_=>[]
 | y::rest,ahead=>{ y with op:=z16 y.op (zif y ahead) }::z4m rest (y::ahead)
def OP.watch:OP→List WX
 | .e _ ws=>ws
 | _=>[]
def wl:WX→Bool
 | .l _=>true
 | .c _=>false
def stxB (v:Bool) (x:RI):Bool:=x.dst.isNone && (match x.op with | .e (.stx u _ _ _) ws=>(u==v) && ws.all wl | _=>false)
def zig (x y:RI):Bool:=(stxB true x && stxB false y) || (stxB false x && stxB true y)
def zag (x y:RI):Bool :=
 !Nat.beq x.idx y.idx && (
 (!hasD x.dst y.ment || y.bef.testBit x.idx) &&
 ((!hasD y.dst x.ment || (y.bef.testBit x.idx && y.sync)) &&
 ((match y.op with
  | .e ..=>((y.bef.testBit x.idx && y.sync) || z58 x.op y.op) || zcy (x.op.looks (x.dst.map pth)) y.op.watch
  | _=>true) &&
 ((!x.sync || (y.bef.testBit x.idx || zig x y)) &&
 !(x.op.isNew && y.op.isNew)))))
def oneB (nt:Nat) (x:RI):Bool :=
 (x.sync || (!hasD x.dst x.rd && (!x.op.isE && x.op.sl.all fun p=>(x.rd.map pth).any fun q=>decide (p=q)))) &&
 ((match x.dst with | some d=>Nat.blt d nt | none=>!x.op.isNew) &&
 (match x.op with | .e (.new _ _ _ .none) _=>false | _=>true))
def zfl (x y:RI):Bool:=x.sync && !y.bef.testBit x.idx
def noGB (ops:Array Oper) (x:RI):Bool:=match ops[x.idx]? with | some o=>o.guard.isNone | none=>false
def z8f (ops:Array Oper):List RI→Bool
 | []=>true
 | x::rest=>(match rest with
  | [y]=>!zfl x y || (noGB ops x && (noGB ops y && zag y x))
  | _=>rest.all fun y=>!zfl x y) && z8f ops rest
def zm3:List RI→Bool
 | []=>true
 | x::rest=>rest.all (zag x) && zm3 rest
def z81 (b:List Nat):List Edge→Nat
 | []=>0
 | e::rest=>cond (Region.binds .any e) (2 ^ e.on ||| b.getD e.on 0 ||| z81 b rest) (z81 b rest)
def zfm (b:List Nat):List Oper→Nat→Bool
 | [],_=>true
 | o::rest,i=>(Nat.beq (b.getD i 0) (z81 b o.after.toList) && o.after.toList.all fun e=>!Region.binds .any e || Nat.blt e.on i) && zfm b rest (i+1)
def z27 (ops:Array Oper) (o:Oper):Bool:=match o.guard with | some (g,_)=>((ops[g]?).bind (·.dst)).isSome | none=>true
def selB (o:Oper):Bool:=match o.op with | .select ..=>false | _=>true
def regB (nt:Nat) (ops:Array Oper) (b:List Nat) (l:List RI):Bool :=
 Nat.beq l.length ops.size && ((List.range ops.size).all (fun i=>l.any fun x=>Nat.beq x.idx i) && (zfm b ops.toList 0 && (ops.toList.all (fun o=>z27 ops o) && (l.all (oneB nt) && (zm3 l && z8f ops l)))))
def z3h (P:Program) (D:Dec) (rid:Nat):List Oper→(i a:Nat)→List OP × Nat
 | [],_,a=>([],a)
 | o::rest,i,a =>
  let dec:=D.at rid i
  let op:=(z05 P dec a o.op).getD bad
  let (ops,a'):=z3h P D rid rest (i+1) (cond (sited dec o.op) (a+1) a)
  (op::ops,a')
def z59 (ops:Array Oper):List Oper→List OP→List Nat→List Bool→Nat→List RI
 | o::os,p::ps,b::bs,an::ans,i=>⟨i,reads ops o,o.dst,b,p.isE || an,p⟩::z59 ops os ps bs ans (i+1)
 | _,_,_,_,_=>[]
def mkG (ops:Array Oper) (o:Oper):Option (Pth × Bool) :=
 match o.guard with
 | none=>none
 | some (j,want)=>some (pth (((ops[j]?).bind (·.dst)).getD 0),want)
def mkAO (ops:Array Oper) (i:Nat) (p:OP):AO:={ d:=(ops.getD i default).dst.map pth,o:=p,g:=mkG ops (ops.getD i default) }
def dstB (nt:Nat) (o:Oper):Bool:=match o.dst with | some d=>Nat.blt d nt | none=>true
def z90 (nt:Nat) (ops:Array Oper):Bool:=ops.toList.all fun o=>dstB nt o && z27 ops o
def regL (P:Program) (D:Dec) (nt id:Nat) (ops:Array Oper) (draw:Bool) (l:List OP):Option (List AO) :=
 cond draw
  (let b:=(Region.before ops).toList
   let inf:=z59 ops ops.toList l b (zie (ops.toList.map fun o=>(reads ops o,o.dst)) []) 0
   let lst:=z4m (zbs inf ops.size 0) []
   cond (regB nt ops b lst) (some (lst.map fun x=>mkAO ops x.idx x.op)) none)
  (cond (z90 nt ops) (some (l.zipIdx.map fun p=>mkAO ops p.2 p.1)) none)
def comp (P:Program) (D:Dec) (nt:Nat):Code→Nat→Option (AC × Nat)
 | .skip,a=>some (.skip,a)
 | .label _,a=>some (.skip,a)
 | .region id ops draw,a =>
  match z3h P D id ops.toList 0 a with
  | (l,a')=>match regL P D nt id ops draw l with | some ao=>some (.reg ao,a') | none=>none
 | .seq x y,a=>do
  let (x,a) ← comp P D nt x a
  let (y,a) ← comp P D nt y a
  some (.seq x y,a)
 | .cond c x y,a=>do
  let c ← cx c
  let (x,a) ← comp P D nt x a
  let (y,a) ← comp P D nt y a
  some (.cond c x y,a)
 | .block id c,a=>do let (c,a) ← comp P D nt c a; some (.blk id c,a)
 | .loop c,a=>do let (c,a) ← comp P D nt c a; some (.loop c,a)
 | .scope c,a=>comp P D nt c a
 | .exit id,a=>some (.exit id,a)
 | .ret,a=>some (.ret,a)
 | .refuse _,a=>some (.reg [⟨none,none,bad⟩],a)
 | _,_=>none
def rvs (P:Program):List ResultVar→Option (List RV)
 | []=>some []
 | .tmp t::rest=>do some (.t (pth t)::(← rvs P rest))
 | .cell x t::rest=>do some (.c (← aggB P t) (← z13 P t) (pth x)::(← rvs P rest))
def dsts:Code→List Nat
 | .region _ ops _=>ops.toList.filterMap (·.dst)
 | .seq x y | .cond _ x y=>dsts x++dsts y
 | .block _ c | .loop c | .scope c=>dsts c
 | _=>[]
def recO:List Oper→Option (Nat × Nat)
 | [o₁,o₂] =>
  match o₁.op,o₁.dst,o₁.guard,o₂.op,o₂.dst,o₂.guard with
  | .call { callee:=.builtin .recover,.. },some r,none,.assign (.tmp r'),some q,none=>cond (Nat.beq r r') (some (r,q)) none
  | _,_,_,_,_,_=>none
 | _=>none
def dfrO:List Oper→Option (Nat × FuncId × Array Operand)
 | [o₁,o₂] =>
  match o₁.op,o₁.dst,o₁.guard,o₂.op,o₂.dst,o₂.guard with
  | .makeFunc (.func g) fi caps,some t,none,.defer { callee:=.value (.tmp t'),args:=as,.. },none,none =>
   cond (Nat.beq fi.size 0 && (Nat.beq as.size 0 && Nat.beq t t')) (some (t,g,caps)) none
  | _,_,_,_,_,_=>none
 | _=>none
def dfrR:Code→Option (Nat × FuncId × Array Operand)
 | .region _ ops false=>dfrO ops.toList
 | _=>none
def zcz:Code→Option (List Code × (Nat × FuncId × Array Operand) × Code)
 | .seq x y =>
  match dfrR x with
  | some d=>some ([],d,y)
  | none=>match zcz y with
   | some (l,d,q)=>some (x::l,d,q)
   | none=>none
 | _=>none
def zih (P:Program) (D:Dec) (nt:Nat):List Code→Nat→Option (AC × Nat)
 | [],a=>some (.skip,a)
 | x::l,a=>do
  let (x,a) ← comp P D nt x a
  let (y,a) ← zih P D nt l a
  some (.seq x y,a)
def zm4 (P:Program) (D:Dec) (f:FuncId):Option (AC × Nat × List Pth):=do
 let fn ← P.funcs[f]?
 let b ← fn.body
 match b with
 | .seq (.region _ ops false) y=>do
  let (r,q) ← recO ops.toList
  let (c,a) ← comp P D fn.ntmps y 0
  cond (fn.results.isEmpty && (Nat.blt r fn.ntmps && (Nat.blt q fn.ntmps && !(fn.name == "runtime.NumGoroutine")))) (some (c,a,[pth r,pth q])) none
 | _=>none
def z91 (l:List Nat):List ResultVar→Bool
 | []=>true
 | .cell x _::r=>!l.any (Nat.beq x) && z91 l r
 | _=>false
def zii (P:Program) (D:Dec) (f:FuncId):Option FI:=do
 let fn ← P.funcs[f]?
 let b ← fn.body
 match zcz b with
 | some (p,(t,g,caps),q)=>do
  let (c,a) ← zih P D fn.ntmps p 0
  let (c',a') ← comp P D fn.ntmps q a
  let (cc,ca,rc) ← zm4 P ⟨[]⟩ g
  cond (z91 (t::dsts q) fn.results.toList && Nat.blt t fn.ntmps) (do some { code:=c,na:=a',res:=← rvs P fn.results.toList,df:=some ⟨pth t,g,← cxs caps.toList,c',cc,ca,rc⟩ }) none
 | none=>do
  let (c,a) ← comp P D fn.ntmps b 0
  some { code:=c,na:=a,res:=← rvs P fn.results.toList }
end Go.Abs
