/- On the way to: InterpLoops returns true; its listed variables read as the text lays them. -/
import Derived.Test.YthncagamgiogjaaGreatDoorF1
import Derived.KernelRfl
namespace Go.Abs.Run
open Go Go.Abs Go.Proofs
def src1 (a:Nat):List Nat:=([109,97,105,110,32,105,110,116,32,123,32,108,101,116,32,105,32,61,32,48,59,32,119,104,105,108,101,32,105,32,60,32,48+a,32,123,32,112,114,105,110,116,32,105,59,32,105,32,61,32,105,32,43,32,49,59,32,125,32,114,101,116,117,114,110,32,105,59,32,125]:List Nat)
noncomputable def lA1:List (TokK × Nat):=[(⟨0,3,[109,97,105,110],0,4⟩,5),(⟨5,3,[105,110,116],0,8⟩,9),(⟨9,6,[123],0,10⟩,11),(⟨11,3,[108,101,116],0,14⟩,15),(⟨15,1,[105],0,16⟩,17),(⟨17,6,[61],0,18⟩,19),(⟨19,4,[],0,20⟩,20),(⟨20,6,[59],0,21⟩,22),(⟨22,3,[119,104,105,108,101],0,27⟩,28),(⟨28,1,[105],0,29⟩,30)]
noncomputable def lB1:List (TokK × Nat):=[(⟨34,6,[123],0,35⟩,36),(⟨36,3,[112,114,105,110,116],0,41⟩,42),(⟨42,1,[105],0,43⟩,43),(⟨43,6,[59],0,44⟩,45),(⟨45,1,[105],0,46⟩,47),(⟨47,6,[61],0,48⟩,49),(⟨49,1,[105],0,50⟩,51),(⟨51,6,[43],0,52⟩,53),(⟨53,4,[],1,54⟩,54),(⟨54,6,[59],0,55⟩,56),(⟨56,6,[125],0,57⟩,58),(⟨58,3,[114,101,116,117,114,110],0,64⟩,65),(⟨65,1,[105],0,66⟩,66),(⟨66,6,[59],0,67⟩,68),(⟨68,6,[125],0,69⟩,69)]
theorem sA1 (a:Nat):z88 (src1 a) 0 lA1=some 30:=by kernel_rfl
theorem sB1 (a:Nat):z88 (src1 a) 34 lB1=some 69:=by kernel_rfl
theorem sP1 (a:Nat):z8j (TokK.cut ⟨30,6,[60],0,31⟩) (z09 tab z0l 300 65 [.str (src1 a),.int .i64 (.ofNat 30)] [] 1 ⟨[],[],[]⟩)=true:=by kernel_rfl
theorem s01 (a:Nat):z8j (.int .i64 (.ofNat 0)) (z09 tab z0l 300 63 [.str (src1 a),.int .i64 (.ofNat 0)] [] 1 ⟨[],[],[]⟩)=true:=by kernel_rfl
theorem sN1 (a:Nat):z8j (.int .i64 (.ofNat 34)) (z09 tab z0l 300 63 [.str (src1 a),.int .i64 (.ofNat 33)] [] 1 ⟨[],[],[]⟩)=true:=by kernel_rfl
noncomputable def tk1 (m:Nat):List TokK:=lA1.map (·.1)++(⟨30,6,[60],0,31⟩::⟨32,4,[],m,33⟩::(lB1.map (·.1)++[]))
theorem cuts1 (a:Nat) (ha:a≤9):Cuts tab z3a (src1 a) 0 (tk1 (a)):=by
 have hlen:(src1 a).length=69:=rfl
 refine z2v lA1 0 (sA1 a) (.cons (by rw[hlen]; decide) (z6n (z2f (sP1 a))) (fun fid e=>z2z ⟨_,z7z (c:=48+a) zhv rfl rfl (by rw[hlen]; decide) (by omega) (by omega) (by omega) (by omega) (by omega)⟩ fid e) ?_)
 have hn:=z7t (fid:=1) (e:=⟨[],[],[]⟩) (S:=src1 a) (p:=32) (n:=1) (d:=fun _=>a) zhv (by rw[hlen]; decide) (by decide) (by decide) (fun i hi=>by
  match i,hi with
  | 0,_=>exact⟨rfl,ha⟩
  ) (.inl rfl) (fun x hx=>by
   have:x=32:=by
    have h2:(src1 a)[33]?=some 32:=rfl
    rw[h2] at hx; exact(Option.some.inj hx).symm
   subst this; decide)
 have hnv:nv (fun _=>a) 1=a:=by simp[nv]
 rw[hnv] at hn
 refine .cons (by rw[hlen]; decide) (z6n (t:=⟨32,4,[],((a:Nat):Int),33⟩) ⟨_,hn⟩) (z2z (z2f (sN1 a))) ?_
 exact z2v lB1 34 (sB1 a) .nil
theorem toks1 (a:Nat) (ha:a≤9):∃ kk z,z4i tab z3a 34 [.str (src1 a)] (.tup [.sl kk z ((tk1 (a)).map TokK.tok),.int .i64 0,.int .i64 0])∧z=4∧¬ kk=1:=by
 obtain⟨kk,z,e',h1,h2⟩:=z7u (S:=src1 a) lTok1 (by show 69≤65536; decide) (z2z (z2f (s01 a))) (cuts1 a ha) (by show 27≤4096; decide)
 exact⟨kk,z,⟨e',h1⟩,h2.resolve_right (by intro h; cases h)⟩
end Go.Abs.Run
namespace Go.Abs.Run
open Go Go.Abs Go.Proofs
def src2 (a b:Nat):List Nat:=([109,97,105,110,32,105,110,116,32,123,32,108,101,116,32,105,32,61,32,48,59,32,119,104,105,108,101,32,105,32,60,32,48+a,48+b,32,123,32,112,114,105,110,116,32,105,59,32,105,32,61,32,105,32,43,32,49,59,32,125,32,114,101,116,117,114,110,32,105,59,32,125]:List Nat)
noncomputable def lA2:List (TokK × Nat):=[(⟨0,3,[109,97,105,110],0,4⟩,5),(⟨5,3,[105,110,116],0,8⟩,9),(⟨9,6,[123],0,10⟩,11),(⟨11,3,[108,101,116],0,14⟩,15),(⟨15,1,[105],0,16⟩,17),(⟨17,6,[61],0,18⟩,19),(⟨19,4,[],0,20⟩,20),(⟨20,6,[59],0,21⟩,22),(⟨22,3,[119,104,105,108,101],0,27⟩,28),(⟨28,1,[105],0,29⟩,30)]
noncomputable def lB2:List (TokK × Nat):=[(⟨35,6,[123],0,36⟩,37),(⟨37,3,[112,114,105,110,116],0,42⟩,43),(⟨43,1,[105],0,44⟩,44),(⟨44,6,[59],0,45⟩,46),(⟨46,1,[105],0,47⟩,48),(⟨48,6,[61],0,49⟩,50),(⟨50,1,[105],0,51⟩,52),(⟨52,6,[43],0,53⟩,54),(⟨54,4,[],1,55⟩,55),(⟨55,6,[59],0,56⟩,57),(⟨57,6,[125],0,58⟩,59),(⟨59,3,[114,101,116,117,114,110],0,65⟩,66),(⟨66,1,[105],0,67⟩,67),(⟨67,6,[59],0,68⟩,69),(⟨69,6,[125],0,70⟩,70)]
theorem sA2 (a b:Nat):z88 (src2 a b) 0 lA2=some 30:=by kernel_rfl
theorem sB2 (a b:Nat):z88 (src2 a b) 35 lB2=some 70:=by kernel_rfl
theorem sP2 (a b:Nat):z8j (TokK.cut ⟨30,6,[60],0,31⟩) (z09 tab z0l 300 65 [.str (src2 a b),.int .i64 (.ofNat 30)] [] 1 ⟨[],[],[]⟩)=true:=by kernel_rfl
theorem s02 (a b:Nat):z8j (.int .i64 (.ofNat 0)) (z09 tab z0l 300 63 [.str (src2 a b),.int .i64 (.ofNat 0)] [] 1 ⟨[],[],[]⟩)=true:=by kernel_rfl
theorem sN2 (a b:Nat):z8j (.int .i64 (.ofNat 35)) (z09 tab z0l 300 63 [.str (src2 a b),.int .i64 (.ofNat 34)] [] 1 ⟨[],[],[]⟩)=true:=by kernel_rfl
noncomputable def tk2 (m:Nat):List TokK:=lA2.map (·.1)++(⟨30,6,[60],0,31⟩::⟨32,4,[],m,34⟩::(lB2.map (·.1)++[]))
theorem cuts2 (a b:Nat) (ha:a≤9) (ha0:a≠0) (hb:b≤9):Cuts tab z3a (src2 a b) 0 (tk2 (a * 10+b)):=by
 have hlen:(src2 a b).length=70:=rfl
 refine z2v lA2 0 (sA2 a b) (.cons (by rw[hlen]; decide) (z6n (z2f (sP2 a b))) (fun fid e=>z2z ⟨_,z7z (c:=48+a) zhv rfl rfl (by rw[hlen]; decide) (by omega) (by omega) (by omega) (by omega) (by omega)⟩ fid e) ?_)
 have hn:=z7t (fid:=1) (e:=⟨[],[],[]⟩) (S:=src2 a b) (p:=32) (n:=2) (d:=fun i=>match i with | 0=>a | _=>b) zhv (by rw[hlen]; decide) (by decide) (by decide) (fun i hi=>by
  match i,hi with
  | 0,_=>exact⟨rfl,ha⟩
  | 1,_=>exact⟨rfl,hb⟩
  ) (.inr ha0) (fun x hx=>by
   have:x=32:=by
    have h2:(src2 a b)[34]?=some 32:=rfl
    rw[h2] at hx; exact(Option.some.inj hx).symm
   subst this; decide)
 have hnv:nv (fun i=>match i with | 0=>a | _=>b) 2=a * 10+b:=by simp[nv]
 rw[hnv] at hn
 refine .cons (by rw[hlen]; decide) (z6n (t:=⟨32,4,[],((a * 10+b:Nat):Int),34⟩) ⟨_,hn⟩) (z2z (z2f (sN2 a b))) ?_
 exact z2v lB2 35 (sB2 a b) .nil
theorem toks2 (a b:Nat) (ha:a≤9) (ha0:a≠0) (hb:b≤9):∃ kk z,z4i tab z3a 34 [.str (src2 a b)] (.tup [.sl kk z ((tk2 (a * 10+b)).map TokK.tok),.int .i64 0,.int .i64 0])∧z=4∧¬ kk=1:=by
 obtain⟨kk,z,e',h1,h2⟩:=z7u (S:=src2 a b) lTok1 (by show 70≤65536; decide) (z2z (z2f (s02 a b))) (cuts2 a b ha ha0 hb) (by show 27≤4096; decide)
 exact⟨kk,z,⟨e',h1⟩,h2.resolve_right (by intro h; cases h)⟩
end Go.Abs.Run
namespace Go.Abs.Run
open Go Go.Abs Go.Proofs
def src3 (a b c:Nat):List Nat:=([109,97,105,110,32,105,110,116,32,123,32,108,101,116,32,105,32,61,32,48,59,32,119,104,105,108,101,32,105,32,60,32,48+a,48+b,48+c,32,123,32,112,114,105,110,116,32,105,59,32,105,32,61,32,105,32,43,32,49,59,32,125,32,114,101,116,117,114,110,32,105,59,32,125]:List Nat)
noncomputable def lA3:List (TokK × Nat):=[(⟨0,3,[109,97,105,110],0,4⟩,5),(⟨5,3,[105,110,116],0,8⟩,9),(⟨9,6,[123],0,10⟩,11),(⟨11,3,[108,101,116],0,14⟩,15),(⟨15,1,[105],0,16⟩,17),(⟨17,6,[61],0,18⟩,19),(⟨19,4,[],0,20⟩,20),(⟨20,6,[59],0,21⟩,22),(⟨22,3,[119,104,105,108,101],0,27⟩,28),(⟨28,1,[105],0,29⟩,30)]
noncomputable def lB3:List (TokK × Nat):=[(⟨36,6,[123],0,37⟩,38),(⟨38,3,[112,114,105,110,116],0,43⟩,44),(⟨44,1,[105],0,45⟩,45),(⟨45,6,[59],0,46⟩,47),(⟨47,1,[105],0,48⟩,49),(⟨49,6,[61],0,50⟩,51),(⟨51,1,[105],0,52⟩,53),(⟨53,6,[43],0,54⟩,55),(⟨55,4,[],1,56⟩,56),(⟨56,6,[59],0,57⟩,58),(⟨58,6,[125],0,59⟩,60),(⟨60,3,[114,101,116,117,114,110],0,66⟩,67),(⟨67,1,[105],0,68⟩,68),(⟨68,6,[59],0,69⟩,70),(⟨70,6,[125],0,71⟩,71)]
theorem sA3 (a b c:Nat):z88 (src3 a b c) 0 lA3=some 30:=by kernel_rfl
theorem sB3 (a b c:Nat):z88 (src3 a b c) 36 lB3=some 71:=by kernel_rfl
theorem sP3 (a b c:Nat):z8j (TokK.cut ⟨30,6,[60],0,31⟩) (z09 tab z0l 300 65 [.str (src3 a b c),.int .i64 (.ofNat 30)] [] 1 ⟨[],[],[]⟩)=true:=by kernel_rfl
theorem s03 (a b c:Nat):z8j (.int .i64 (.ofNat 0)) (z09 tab z0l 300 63 [.str (src3 a b c),.int .i64 (.ofNat 0)] [] 1 ⟨[],[],[]⟩)=true:=by kernel_rfl
theorem sN3 (a b c:Nat):z8j (.int .i64 (.ofNat 36)) (z09 tab z0l 300 63 [.str (src3 a b c),.int .i64 (.ofNat 35)] [] 1 ⟨[],[],[]⟩)=true:=by kernel_rfl
noncomputable def tk3 (m:Nat):List TokK:=lA3.map (·.1)++(⟨30,6,[60],0,31⟩::⟨32,4,[],m,35⟩::(lB3.map (·.1)++[]))
theorem cuts3 (a b c:Nat) (ha:a≤9) (ha0:a≠0) (hb:b≤9) (hc:c≤9):Cuts tab z3a (src3 a b c) 0 (tk3 ((a * 10+b) * 10+c)):=by
 have hlen:(src3 a b c).length=71:=rfl
 refine z2v lA3 0 (sA3 a b c) (.cons (by rw[hlen]; decide) (z6n (z2f (sP3 a b c))) (fun fid e=>z2z ⟨_,z7z (c:=48+a) zhv rfl rfl (by rw[hlen]; decide) (by omega) (by omega) (by omega) (by omega) (by omega)⟩ fid e) ?_)
 have hn:=z7t (fid:=1) (e:=⟨[],[],[]⟩) (S:=src3 a b c) (p:=32) (n:=3) (d:=fun i=>match i with | 0=>a | 1=>b | _=>c) zhv (by rw[hlen]; decide) (by decide) (by decide) (fun i hi=>by
  match i,hi with
  | 0,_=>exact⟨rfl,ha⟩
  | 1,_=>exact⟨rfl,hb⟩
  | 2,_=>exact⟨rfl,hc⟩
  ) (.inr ha0) (fun x hx=>by
   have:x=32:=by
    have h2:(src3 a b c)[35]?=some 32:=rfl
    rw[h2] at hx; exact(Option.some.inj hx).symm
   subst this; decide)
 have hnv:nv (fun i=>match i with | 0=>a | 1=>b | _=>c) 3=(a * 10+b) * 10+c:=by simp[nv]
 rw[hnv] at hn
 refine .cons (by rw[hlen]; decide) (z6n (t:=⟨32,4,[],(((a * 10+b) * 10+c:Nat):Int),35⟩) ⟨_,hn⟩) (z2z (z2f (sN3 a b c))) ?_
 exact z2v lB3 36 (sB3 a b c) .nil
theorem toks3 (a b c:Nat) (ha:a≤9) (ha0:a≠0) (hb:b≤9) (hc:c≤9):∃ kk z,z4i tab z3a 34 [.str (src3 a b c)] (.tup [.sl kk z ((tk3 ((a * 10+b) * 10+c)).map TokK.tok),.int .i64 0,.int .i64 0])∧z=4∧¬ kk=1:=by
 obtain⟨kk,z,e',h1,h2⟩:=z7u (S:=src3 a b c) lTok1 (by show 71≤65536; decide) (z2z (z2f (s03 a b c))) (cuts3 a b c ha ha0 hb hc) (by show 27≤4096; decide)
 exact⟨kk,z,⟨e',h1⟩,h2.resolve_right (by intro h; cases h)⟩
end Go.Abs.Run
namespace Go.Abs.Run
open Go Go.Abs Go.Proofs
theorem bp1 (S:List Nat) (m:Nat):z2d (z1g (z1d 1099512676353 noX) tab (z4k S (tokV (tk1 m))) 3000 13 [.str S] [] 1 ⟨[],[],[]⟩)=some (mark 34 [.str S] []):=by kernel_rfl
theorem br1 (S:List Nat) (m:Nat):matR (za7 1) (z0w (ansX 1099512676353 (tokV (tk1 m)) noX) tab (z4k S (tokV (tk1 m))) 3000 13 [.str S] [] 1 ⟨[],[],[]⟩)=some [nV m]:=by kernel_rfl
theorem ast1 (S:List Nat) (m:Nat):z4i tab (z4k S (tokV (tk1 m))) 13 [.str S] (subA (nV m) (za7 1)):=by
 obtain⟨e1,h1⟩:=z1a (bp1 S m)
 obtain⟨e2,h2⟩:=zco (v:=nV m) (br1 S m) (by simp)
 exact⟨e2,zf6 (x:=1) (F:=1099512676353) (.step (.step .refl (show 0 < cap by decide)) (show 0 < cap by decide)) (fun e=>z2y rfl (z4j _ _) [] _ e) h1 h2 (by simp)⟩
end Go.Abs.Run
namespace Go.Abs.Run
open Go Go.Abs Go.Proofs
theorem bp2 (S:List Nat) (m:Nat):z2d (z1g (z1d 1099512676353 noX) tab (z4k S (tokV (tk2 m))) 3000 13 [.str S] [] 1 ⟨[],[],[]⟩)=some (mark 34 [.str S] []):=by kernel_rfl
theorem br2 (S:List Nat) (m:Nat):matR (za7 2) (z0w (ansX 1099512676353 (tokV (tk2 m)) noX) tab (z4k S (tokV (tk2 m))) 3000 13 [.str S] [] 1 ⟨[],[],[]⟩)=some [nV m]:=by kernel_rfl
theorem ast2 (S:List Nat) (m:Nat):z4i tab (z4k S (tokV (tk2 m))) 13 [.str S] (subA (nV m) (za7 2)):=by
 obtain⟨e1,h1⟩:=z1a (bp2 S m)
 obtain⟨e2,h2⟩:=zco (v:=nV m) (br2 S m) (by simp)
 exact⟨e2,zf6 (x:=1) (F:=1099512676353) (.step (.step .refl (show 0 < cap by decide)) (show 0 < cap by decide)) (fun e=>z2y rfl (z4j _ _) [] _ e) h1 h2 (by simp)⟩
end Go.Abs.Run
namespace Go.Abs.Run
open Go Go.Abs Go.Proofs
theorem bp3 (S:List Nat) (m:Nat):z2d (z1g (z1d 1099512676353 noX) tab (z4k S (tokV (tk3 m))) 3000 13 [.str S] [] 1 ⟨[],[],[]⟩)=some (mark 34 [.str S] []):=by kernel_rfl
theorem br3 (S:List Nat) (m:Nat):matR (za7 3) (z0w (ansX 1099512676353 (tokV (tk3 m)) noX) tab (z4k S (tokV (tk3 m))) 3000 13 [.str S] [] 1 ⟨[],[],[]⟩)=some [nV m]:=by kernel_rfl
theorem ast3 (S:List Nat) (m:Nat):z4i tab (z4k S (tokV (tk3 m))) 13 [.str S] (subA (nV m) (za7 3)):=by
 obtain⟨e1,h1⟩:=z1a (bp3 S m)
 obtain⟨e2,h2⟩:=zco (v:=nV m) (br3 S m) (by simp)
 exact⟨e2,zf6 (x:=1) (F:=1099512676353) (.step (.step .refl (show 0 < cap by decide)) (show 0 < cap by decide)) (fun e=>z2y rfl (z4j _ _) [] _ e) h1 h2 (by simp)⟩
end Go.Abs.Run
