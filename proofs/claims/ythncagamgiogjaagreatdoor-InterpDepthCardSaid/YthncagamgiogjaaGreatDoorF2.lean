/- On the way to: InterpDepth returns true; its listed variables read as the text lays them. -/
import Derived.Test.YthncagamgiogjaaGreatDoorF1
import Derived.KernelRfl
namespace Go.Abs.Run
open Go Go.Abs Go.Proofs
def src1 (a:Nat):List Nat:=([102,117,110,99,32,102,40,110,32,105,110,116,41,32,105,110,116,32,123,32,105,102,32,110,32,60,32,49,32,123,32,114,101,116,117,114,110,32,48,59,32,125,32,114,101,116,117,114,110,32,102,40,110,32,45,32,49,41,32,43,32,49,59,32,125,32,109,97,105,110,32,105,110,116,32,123,32,114,101,116,117,114,110,32,102,40,48+a,41,59,32,125]:List Nat)
noncomputable def lA1:List (TokK × Nat):=[(⟨0,3,[102,117,110,99],0,4⟩,5),(⟨5,1,[102],0,6⟩,6),(⟨6,6,[40],0,7⟩,7),(⟨7,1,[110],0,8⟩,9),(⟨9,3,[105,110,116],0,12⟩,12),(⟨12,6,[41],0,13⟩,14),(⟨14,3,[105,110,116],0,17⟩,18),(⟨18,6,[123],0,19⟩,20),(⟨20,3,[105,102],0,22⟩,23),(⟨23,1,[110],0,24⟩,25),(⟨25,6,[60],0,26⟩,27),(⟨27,4,[],1,28⟩,29),(⟨29,6,[123],0,30⟩,31),(⟨31,3,[114,101,116,117,114,110],0,37⟩,38),(⟨38,4,[],0,39⟩,39),(⟨39,6,[59],0,40⟩,41),(⟨41,6,[125],0,42⟩,43),(⟨43,3,[114,101,116,117,114,110],0,49⟩,50),(⟨50,1,[102],0,51⟩,51),(⟨51,6,[40],0,52⟩,52),(⟨52,1,[110],0,53⟩,54),(⟨54,6,[45],0,55⟩,56),(⟨56,4,[],1,57⟩,57),(⟨57,6,[41],0,58⟩,59),(⟨59,6,[43],0,60⟩,61),(⟨61,4,[],1,62⟩,62),(⟨62,6,[59],0,63⟩,64),(⟨64,6,[125],0,65⟩,66),(⟨66,3,[109,97,105,110],0,70⟩,71),(⟨71,3,[105,110,116],0,74⟩,75),(⟨75,6,[123],0,76⟩,77),(⟨77,3,[114,101,116,117,114,110],0,83⟩,84),(⟨84,1,[102],0,85⟩,85)]
noncomputable def lB1:List (TokK × Nat):=[(⟨87,6,[41],0,88⟩,88),(⟨88,6,[59],0,89⟩,90),(⟨90,6,[125],0,91⟩,91)]
theorem sA1 (a:Nat):z7j (src1 a) 0 lA1=some 85:=by kernel_rfl
theorem sB1 (a:Nat):z7j (src1 a) 87 lB1=some 91:=by kernel_rfl
theorem sP1 (a:Nat):z7q (TokK.cut ⟨85,6,[40],0,86⟩) (z09 tab z0f 300 65 [.str (src1 a),.int .i64 (.ofNat 85)] [] 1 ⟨[],[],[]⟩)=true:=by kernel_rfl
theorem s01 (a:Nat):z7q (.int .i64 (.ofNat 0)) (z09 tab z0f 300 63 [.str (src1 a),.int .i64 (.ofNat 0)] [] 1 ⟨[],[],[]⟩)=true:=by kernel_rfl
theorem sN1 (a:Nat):z7q (.int .i64 (.ofNat 87)) (z09 tab z0f 300 63 [.str (src1 a),.int .i64 (.ofNat 87)] [] 1 ⟨[],[],[]⟩)=true:=by kernel_rfl
noncomputable def tk1 (m:Nat):List TokK:=lA1.map (·.1)++(⟨85,6,[40],0,86⟩::⟨86,4,[],m,87⟩::(lB1.map (·.1)++[]))
theorem cuts1 (a:Nat) (ha:a≤9):Cuts tab z2w (src1 a) 0 (tk1 (a)):=by
 have hlen:(src1 a).length=91:=rfl
 refine z2k lA1 0 (sA1 a) (.cons (by rw[hlen]; decide) (z62 (z25 (sP1 a))) (fun fid e=>z2n ⟨_,zev (c:=48+a) zha rfl (by rw[hlen]; decide) (by omega) (by omega) (by omega) (by omega) (by omega)⟩ fid e) ?_)
 have hn:=z77 (fid:=1) (e:=⟨[],[],[]⟩) (S:=src1 a) (p:=86) (n:=1) (d:=fun _=>a) zha (by rw[hlen]; decide) (by decide) (by decide) (fun i hi=>by
  match i,hi with
  | 0,_=>exact⟨rfl,ha⟩
  ) (.inl rfl) (fun x hx=>by
   have:x=41:=by
    have h2:(src1 a)[87]?=some 41:=rfl
    rw[h2] at hx; exact(Option.some.inj hx).symm
   subst this; decide)
 have hnv:nv (fun _=>a) 1=a:=by simp[nv]
 rw[hnv] at hn
 refine .cons (by rw[hlen]; decide) (z62 (t:=⟨86,4,[],((a:Nat):Int),87⟩) ⟨_,hn⟩) (z2n (z25 (sN1 a))) ?_
 exact z2k lB1 87 (sB1 a) .nil
theorem toks1 (a:Nat) (ha:a≤9):∃ kk z,z40 tab z2w 34 [.str (src1 a)] (.tup [.sl kk z ((tk1 (a)).map TokK.tok),.int .i64 0,.int .i64 0])∧z=4∧¬ kk=1:=by
 obtain⟨kk,z,e',h1,h2⟩:=z78 (S:=src1 a) lTok1 (by show 91≤65536; decide) (z2n (z25 (s01 a))) (cuts1 a ha) (by show 38≤4096; decide)
 exact⟨kk,z,⟨e',h1⟩,h2.resolve_right (by intro h; cases h)⟩
end Go.Abs.Run
namespace Go.Abs.Run
open Go Go.Abs Go.Proofs
def src2 (a b:Nat):List Nat:=([102,117,110,99,32,102,40,110,32,105,110,116,41,32,105,110,116,32,123,32,105,102,32,110,32,60,32,49,32,123,32,114,101,116,117,114,110,32,48,59,32,125,32,114,101,116,117,114,110,32,102,40,110,32,45,32,49,41,32,43,32,49,59,32,125,32,109,97,105,110,32,105,110,116,32,123,32,114,101,116,117,114,110,32,102,40,48+a,48+b,41,59,32,125]:List Nat)
noncomputable def lA2:List (TokK × Nat):=[(⟨0,3,[102,117,110,99],0,4⟩,5),(⟨5,1,[102],0,6⟩,6),(⟨6,6,[40],0,7⟩,7),(⟨7,1,[110],0,8⟩,9),(⟨9,3,[105,110,116],0,12⟩,12),(⟨12,6,[41],0,13⟩,14),(⟨14,3,[105,110,116],0,17⟩,18),(⟨18,6,[123],0,19⟩,20),(⟨20,3,[105,102],0,22⟩,23),(⟨23,1,[110],0,24⟩,25),(⟨25,6,[60],0,26⟩,27),(⟨27,4,[],1,28⟩,29),(⟨29,6,[123],0,30⟩,31),(⟨31,3,[114,101,116,117,114,110],0,37⟩,38),(⟨38,4,[],0,39⟩,39),(⟨39,6,[59],0,40⟩,41),(⟨41,6,[125],0,42⟩,43),(⟨43,3,[114,101,116,117,114,110],0,49⟩,50),(⟨50,1,[102],0,51⟩,51),(⟨51,6,[40],0,52⟩,52),(⟨52,1,[110],0,53⟩,54),(⟨54,6,[45],0,55⟩,56),(⟨56,4,[],1,57⟩,57),(⟨57,6,[41],0,58⟩,59),(⟨59,6,[43],0,60⟩,61),(⟨61,4,[],1,62⟩,62),(⟨62,6,[59],0,63⟩,64),(⟨64,6,[125],0,65⟩,66),(⟨66,3,[109,97,105,110],0,70⟩,71),(⟨71,3,[105,110,116],0,74⟩,75),(⟨75,6,[123],0,76⟩,77),(⟨77,3,[114,101,116,117,114,110],0,83⟩,84),(⟨84,1,[102],0,85⟩,85)]
noncomputable def lB2:List (TokK × Nat):=[(⟨88,6,[41],0,89⟩,89),(⟨89,6,[59],0,90⟩,91),(⟨91,6,[125],0,92⟩,92)]
theorem sA2 (a b:Nat):z7j (src2 a b) 0 lA2=some 85:=by kernel_rfl
theorem sB2 (a b:Nat):z7j (src2 a b) 88 lB2=some 92:=by kernel_rfl
theorem sP2 (a b:Nat):z7q (TokK.cut ⟨85,6,[40],0,86⟩) (z09 tab z0f 300 65 [.str (src2 a b),.int .i64 (.ofNat 85)] [] 1 ⟨[],[],[]⟩)=true:=by kernel_rfl
theorem s02 (a b:Nat):z7q (.int .i64 (.ofNat 0)) (z09 tab z0f 300 63 [.str (src2 a b),.int .i64 (.ofNat 0)] [] 1 ⟨[],[],[]⟩)=true:=by kernel_rfl
theorem sN2 (a b:Nat):z7q (.int .i64 (.ofNat 88)) (z09 tab z0f 300 63 [.str (src2 a b),.int .i64 (.ofNat 88)] [] 1 ⟨[],[],[]⟩)=true:=by kernel_rfl
noncomputable def tk2 (m:Nat):List TokK:=lA2.map (·.1)++(⟨85,6,[40],0,86⟩::⟨86,4,[],m,88⟩::(lB2.map (·.1)++[]))
theorem cuts2 (a b:Nat) (ha:a≤9) (ha0:a≠0) (hb:b≤9):Cuts tab z2w (src2 a b) 0 (tk2 (a * 10+b)):=by
 have hlen:(src2 a b).length=92:=rfl
 refine z2k lA2 0 (sA2 a b) (.cons (by rw[hlen]; decide) (z62 (z25 (sP2 a b))) (fun fid e=>z2n ⟨_,zev (c:=48+a) zha rfl (by rw[hlen]; decide) (by omega) (by omega) (by omega) (by omega) (by omega)⟩ fid e) ?_)
 have hn:=z77 (fid:=1) (e:=⟨[],[],[]⟩) (S:=src2 a b) (p:=86) (n:=2) (d:=fun i=>match i with | 0=>a | _=>b) zha (by rw[hlen]; decide) (by decide) (by decide) (fun i hi=>by
  match i,hi with
  | 0,_=>exact⟨rfl,ha⟩
  | 1,_=>exact⟨rfl,hb⟩
  ) (.inr ha0) (fun x hx=>by
   have:x=41:=by
    have h2:(src2 a b)[88]?=some 41:=rfl
    rw[h2] at hx; exact(Option.some.inj hx).symm
   subst this; decide)
 have hnv:nv (fun i=>match i with | 0=>a | _=>b) 2=a * 10+b:=by simp[nv]
 rw[hnv] at hn
 refine .cons (by rw[hlen]; decide) (z62 (t:=⟨86,4,[],((a * 10+b:Nat):Int),88⟩) ⟨_,hn⟩) (z2n (z25 (sN2 a b))) ?_
 exact z2k lB2 88 (sB2 a b) .nil
theorem toks2 (a b:Nat) (ha:a≤9) (ha0:a≠0) (hb:b≤9):∃ kk z,z40 tab z2w 34 [.str (src2 a b)] (.tup [.sl kk z ((tk2 (a * 10+b)).map TokK.tok),.int .i64 0,.int .i64 0])∧z=4∧¬ kk=1:=by
 obtain⟨kk,z,e',h1,h2⟩:=z78 (S:=src2 a b) lTok1 (by show 92≤65536; decide) (z2n (z25 (s02 a b))) (cuts2 a b ha ha0 hb) (by show 38≤4096; decide)
 exact⟨kk,z,⟨e',h1⟩,h2.resolve_right (by intro h; cases h)⟩
end Go.Abs.Run
namespace Go.Abs.Run
open Go Go.Abs Go.Proofs
def src3 (a b c:Nat):List Nat:=([102,117,110,99,32,102,40,110,32,105,110,116,41,32,105,110,116,32,123,32,105,102,32,110,32,60,32,49,32,123,32,114,101,116,117,114,110,32,48,59,32,125,32,114,101,116,117,114,110,32,102,40,110,32,45,32,49,41,32,43,32,49,59,32,125,32,109,97,105,110,32,105,110,116,32,123,32,114,101,116,117,114,110,32,102,40,48+a,48+b,48+c,41,59,32,125]:List Nat)
noncomputable def lA3:List (TokK × Nat):=[(⟨0,3,[102,117,110,99],0,4⟩,5),(⟨5,1,[102],0,6⟩,6),(⟨6,6,[40],0,7⟩,7),(⟨7,1,[110],0,8⟩,9),(⟨9,3,[105,110,116],0,12⟩,12),(⟨12,6,[41],0,13⟩,14),(⟨14,3,[105,110,116],0,17⟩,18),(⟨18,6,[123],0,19⟩,20),(⟨20,3,[105,102],0,22⟩,23),(⟨23,1,[110],0,24⟩,25),(⟨25,6,[60],0,26⟩,27),(⟨27,4,[],1,28⟩,29),(⟨29,6,[123],0,30⟩,31),(⟨31,3,[114,101,116,117,114,110],0,37⟩,38),(⟨38,4,[],0,39⟩,39),(⟨39,6,[59],0,40⟩,41),(⟨41,6,[125],0,42⟩,43),(⟨43,3,[114,101,116,117,114,110],0,49⟩,50),(⟨50,1,[102],0,51⟩,51),(⟨51,6,[40],0,52⟩,52),(⟨52,1,[110],0,53⟩,54),(⟨54,6,[45],0,55⟩,56),(⟨56,4,[],1,57⟩,57),(⟨57,6,[41],0,58⟩,59),(⟨59,6,[43],0,60⟩,61),(⟨61,4,[],1,62⟩,62),(⟨62,6,[59],0,63⟩,64),(⟨64,6,[125],0,65⟩,66),(⟨66,3,[109,97,105,110],0,70⟩,71),(⟨71,3,[105,110,116],0,74⟩,75),(⟨75,6,[123],0,76⟩,77),(⟨77,3,[114,101,116,117,114,110],0,83⟩,84),(⟨84,1,[102],0,85⟩,85)]
noncomputable def lB3:List (TokK × Nat):=[(⟨89,6,[41],0,90⟩,90),(⟨90,6,[59],0,91⟩,92),(⟨92,6,[125],0,93⟩,93)]
theorem sA3 (a b c:Nat):z7j (src3 a b c) 0 lA3=some 85:=by kernel_rfl
theorem sB3 (a b c:Nat):z7j (src3 a b c) 89 lB3=some 93:=by kernel_rfl
theorem sP3 (a b c:Nat):z7q (TokK.cut ⟨85,6,[40],0,86⟩) (z09 tab z0f 300 65 [.str (src3 a b c),.int .i64 (.ofNat 85)] [] 1 ⟨[],[],[]⟩)=true:=by kernel_rfl
theorem s03 (a b c:Nat):z7q (.int .i64 (.ofNat 0)) (z09 tab z0f 300 63 [.str (src3 a b c),.int .i64 (.ofNat 0)] [] 1 ⟨[],[],[]⟩)=true:=by kernel_rfl
theorem sN3 (a b c:Nat):z7q (.int .i64 (.ofNat 89)) (z09 tab z0f 300 63 [.str (src3 a b c),.int .i64 (.ofNat 89)] [] 1 ⟨[],[],[]⟩)=true:=by kernel_rfl
noncomputable def tk3 (m:Nat):List TokK:=lA3.map (·.1)++(⟨85,6,[40],0,86⟩::⟨86,4,[],m,89⟩::(lB3.map (·.1)++[]))
theorem cuts3 (a b c:Nat) (ha:a≤9) (ha0:a≠0) (hb:b≤9) (hc:c≤9):Cuts tab z2w (src3 a b c) 0 (tk3 ((a * 10+b) * 10+c)):=by
 have hlen:(src3 a b c).length=93:=rfl
 refine z2k lA3 0 (sA3 a b c) (.cons (by rw[hlen]; decide) (z62 (z25 (sP3 a b c))) (fun fid e=>z2n ⟨_,zev (c:=48+a) zha rfl (by rw[hlen]; decide) (by omega) (by omega) (by omega) (by omega) (by omega)⟩ fid e) ?_)
 have hn:=z77 (fid:=1) (e:=⟨[],[],[]⟩) (S:=src3 a b c) (p:=86) (n:=3) (d:=fun i=>match i with | 0=>a | 1=>b | _=>c) zha (by rw[hlen]; decide) (by decide) (by decide) (fun i hi=>by
  match i,hi with
  | 0,_=>exact⟨rfl,ha⟩
  | 1,_=>exact⟨rfl,hb⟩
  | 2,_=>exact⟨rfl,hc⟩
  ) (.inr ha0) (fun x hx=>by
   have:x=41:=by
    have h2:(src3 a b c)[89]?=some 41:=rfl
    rw[h2] at hx; exact(Option.some.inj hx).symm
   subst this; decide)
 have hnv:nv (fun i=>match i with | 0=>a | 1=>b | _=>c) 3=(a * 10+b) * 10+c:=by simp[nv]
 rw[hnv] at hn
 refine .cons (by rw[hlen]; decide) (z62 (t:=⟨86,4,[],(((a * 10+b) * 10+c:Nat):Int),89⟩) ⟨_,hn⟩) (z2n (z25 (sN3 a b c))) ?_
 exact z2k lB3 89 (sB3 a b c) .nil
theorem toks3 (a b c:Nat) (ha:a≤9) (ha0:a≠0) (hb:b≤9) (hc:c≤9):∃ kk z,z40 tab z2w 34 [.str (src3 a b c)] (.tup [.sl kk z ((tk3 ((a * 10+b) * 10+c)).map TokK.tok),.int .i64 0,.int .i64 0])∧z=4∧¬ kk=1:=by
 obtain⟨kk,z,e',h1,h2⟩:=z78 (S:=src3 a b c) lTok1 (by show 93≤65536; decide) (z2n (z25 (s03 a b c))) (cuts3 a b c ha ha0 hb hc) (by show 38≤4096; decide)
 exact⟨kk,z,⟨e',h1⟩,h2.resolve_right (by intro h; cases h)⟩
end Go.Abs.Run
