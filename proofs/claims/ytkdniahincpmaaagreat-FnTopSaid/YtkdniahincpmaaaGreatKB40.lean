/-
  A controller takes a command: take, l08Try, synced; Take and Torn, both.
-/
import Derived.Test.YtkdniahincpmaaaGreatKB39
set_option maxRecDepth 100000
set_option maxHeartbeats 16000000
namespace Go.Proofs.YtkdniahincpmaaaGreat
open Go Go.RowKit Tryz
section
attribute [local irreducible] AWp QI OpOk ACalls ChA QsOk MCalls NCalls EnC PY

noncomputable def Jl (c:Ctl) (x:Cmd):Option Ctl×Int:=match Jw c.state x with
 | (none,k)=>(none,k)
 | (some s,_)=>if addC c.jn (Qq x)=0 then(some ⟨c.first,s,Yq c.jn (Qq x)⟩,0) else(none,21)
theorem QdJ{c:Ctl}{x:Cmd}{k:Int}(h:Jw c.state x=(none,k)):Jl c x=(none,k):=by unfold Jl;rw[h]
theorem Qah{c:Ctl}{x:Cmd}{s:Qb}{k:Int}(h:Jw c.state x=(some s,k))(ha:addC c.jn (Qq x)≠0):Jl c x=(none,21):=by unfold Jl;rw[h];exact if_neg ha
theorem QbU{c:Ctl}{x:Cmd}{s:Qb}{k:Int}(h:Jw c.state x=(some s,k))(ha:addC c.jn (Qq x)=0):Jl c x=(some ⟨c.first,s,Yq c.jn (Qq x)⟩,0):=by unfold Jl;rw[h];exact if_pos ha
def Zj(c:Ctl):Ctl:=⟨c.first,c.state,QaA c.jn⟩
noncomputable def ZR (c:Ctl) (x:Cmd):Option Ctl×Int:=if J9 c=true then((Jl c x).1.map Zj,(Jl c x).2) else(none,20)
noncomputable def Qa5 (c:Ctl) (x:Cmd) (keep:Int):Option (List UInt8)×Int:=if J9 c=true then((Jl c x).1.map fun d=>d.jn.bytes.take (JO d.jn keep),(Jl c x).2) else(none,20)
theorem Qdc{c:Ctl}(h:J9 c=true):jnOk c.jn=true:=by
 unfold J9 at h
 rw[Xab,Xab]at h
 exact h.2.1
theorem Qos{c:Ctl}{x:Cmd}(hs:Yb 1048576 c)(hj:jnOk c.jn=true):zAc 39 [ctlA c,cmdA x] (coR (Jl c x).1 (Jl c x).2) (coB (Jl c x).1):=by
 refine zAC func39 fun w0 Z=>?_
 have e:Qj 100000000 c.first:=hs.first.mono (by omega)
 have f:=QaR x
 have a:=QeO (c:=x) hs.state
 have c3:=Wx (c:=x)
 rcases YJ (s:=c.state) (c:=x)with ⟨s,h2⟩|⟨k,h2,hk⟩
 ·rw[h2]at a
  dsimp only[SO,stR,stB]at a
  by_cases b:addC c.jn (Qq x)=0
  ·rw[QbU h2 b]
   have d:=Qvp b
   have c5:=Q2 e
   repeat'(first|(refine zhm fun hb=>?_;try exact zab)|refine Qd ?_|(apply zch;exact zcg)|exact zhk|refine zg3 ?_ ?_|intro _)
   refine zr [34,1034,2034,3034,4034,5034,14,1014,2014,3014,4014,5014,26] ?_ ?_
   repeat'(first|exact ze3|refine ze2 ?_ ?_|refine ze4 ?_|exact ze5|fail)
   all_goals exact zp rfl
  ·rw[Qah h2 b]
   have d:=QsK hj (Xal f (by omega)) b
   have hz:((addC c.jn (Qq x):Nat):Int)≠0:=by omega
   repeat'(first|(refine zhm fun hb=>?_;try exact zab)|refine Qd ?_|(apply zch;exact zcg)|exact zhk|refine zg3 ?_ ?_|intro _)
   refine zr [] ?_ ?_
   repeat'(first|exact ze3|refine ze2 ?_ ?_|refine ze4 ?_|exact ze5|fail)
   all_goals exact zp rfl
 ·rw[h2]at a
  dsimp only[SO,stR,stB]at a
  rw[QdJ h2]
  repeat'(first|(refine zhm fun hb=>?_;try exact zab)|refine Qd ?_|(apply zch;exact zcg)|exact zhk|refine zg3 ?_ ?_|intro _)
  refine zr [] ?_ ?_
  repeat'(first|exact ze3|refine ze2 ?_ ?_|refine ze4 ?_|exact ze5|fail)
  all_goals exact zp rfl
noncomputable def tryO (c:Ctl) (x:Cmd):Option Ctl×Int:=if J9 c=true then Jl c x else(none,20)
theorem QlD{c:Ctl}{x:Cmd}(hs:Yb 1048576 c):DC Tryz.prog 172 [ctlA c,cmdA x] [Qt ((tryO c x).1.getD zC).state,jnA ((tryO c x).1.getD zC).jn,zI (tryO c x).2]:=by
 refine zMC func172 fun w0 Z O=>?_
 have g:=QaR x
 have e:=Qqg hs
 have hb:=hs.jn
 unfold tryO
 cases d:J9 c with
 | false=>
  rw[d]at e
  rw[if_neg (by decide)]
  repeat'(first|(refine zhm fun hb=>?_;try exact zab)|refine QR ?_|(apply zch;exact zcg)|exact zhk|refine zg3 ?_ ?_|intro _)
  exact zDR
 | true=>
  rw[d]at e
  rw[if_pos rfl]
  have hj:=Qdc d
  have a:=Qrm (c:=x) hs.state
  have c3:=ZC (c:=x)
  rcases YJ (s:=c.state) (c:=x)with ⟨s,h2⟩|⟨k,h2,hk⟩
  ·rw[h2]at a
   dsimp only[SS,Option.getD]at a
   by_cases b:addC c.jn (Qq x)=0
   ·rw[QbU h2 b]
    have f:=dc_a (Qjj b)
    repeat'(first|(refine zhm fun hb=>?_;try exact zab)|refine QR ?_|(apply zch;exact zcg)|exact zhk|refine zg3 ?_ ?_|refine kmu a ?_|(refine km [] (f) rfl rfl (fun i hi=>?_);try dsimp only at hi)|intro _)
    exact zDR
   ·rw[Qah h2 b]
    have f:=QgO (j:=c.jn) (by omega) (Xal g (by omega)) b
    have hz:((addC c.jn (Qq x):Nat):Int)≠0:=by omega
    repeat'(first|(refine zhm fun hb=>?_;try exact zab)|refine QR ?_|(apply zch;exact zcg)|exact zhk|refine zg3 ?_ ?_|refine kmu a ?_|intro _)
    exact zDR
  ·rw[h2]at a
   dsimp only[SS,Option.getD]at a
   rw[QdJ h2]
   repeat'(first|(refine zhm fun hb=>?_;try exact zab)|refine QR ?_|(apply zch;exact zcg)|exact zhk|refine zg3 ?_ ?_|refine kmu a ?_|intro _)
   exact zDR
@[reducible] def Qzb (c:Ctl):List (Nat×AO):=[(500000,.row 3 (intE c.first.topo.parents) true),(500001,.row 62 (Qw c.first.topo.nodes) true),(500002,.row 4 (Qp c.first.up) true),(500003,.row 40 (jobE c.first.queue) true),(500004,.row 66 (runE c.first.runs) true),(500005,.row 123 (endE c.first.ends) true),(500006,.row 3 (intE c.state.topo.parents) true),(500007,.row 62 (Qw c.state.topo.nodes) true),(500008,.row 4 (Qp c.state.up) true),(500009,.row 40 (jobE c.state.queue) true),(500010,.row 66 (runE c.state.runs) true),(500011,.row 123 (endE c.state.ends) true),(500012,.row 5 (QK c.jn.bytes) true)]
theorem Qm6{c:Ctl}(_:c.jn.bytes.length<=1000000000):NCalls Tryz.prog 41 [.agg (stC c.first 500000 500001 500002 500003 500004 500005++(stC c.state 500006 500007 500008 500009 500010 500011++[.row 500012,zI c.jn.synced,zI c.jn.count]))] (Qzb c) (fun _:Unit=>True) (fun _=>[Qs3 (Zj c)]) (fun _=>QvX (Zj c)):=by
 refine W8 tt func41 rfl rfl rfl (fun _ _=>rfl) (fun w0 Z O=>?_)
 have hb:=Qy c.jn.bytes
 repeat'(first|(refine zhm fun hb=>?_;try exact zab)|refine Qd ?_|(apply zch;exact zcg)|exact zhk|refine zg3 ?_ ?_|intro _)
 refine zn () [500000,500001,500002,500003,500004,500005,500006,500007,500008,500009,500010,500011,500012] (by exact trivial) ?_ ?_
 repeat'(first|exact ze3|refine ze2 ?_ ?_|refine ze4 ?_|exact ze5|fail)
 all_goals exact zp (by first|rfl|exact Qy _)
theorem Quh:zAc 41 [ctlA zC] [ctlA zC] []:=by
 refine zAC func41 fun w0 Z=>?_
 repeat'(first|(refine zhm fun hb=>?_;try exact zab)|refine Qd ?_|(apply zch;exact zcg)|exact zhk|refine zg3 ?_ ?_|intro _)
 refine zr [] ?_ ?_
 repeat'(first|exact ze3|refine ze2 ?_ ?_|refine ze4 ?_|exact ze5|fail)
 all_goals exact zp rfl
theorem JU{c d:Ctl}{x:Cmd}(h:(Jl c x).1=some d):∃s,Jw c.state x=(some s,0)/\addC c.jn (Qq x)=0/\d=⟨c.first,s,Yq c.jn (Qq x)⟩/\(Jl c x).2=0:=by
 rcases YJ (s:=c.state) (c:=x)with ⟨s,h2⟩|⟨k,h2,hk⟩
 ·by_cases a:addC c.jn (Qq x)=0
  ·rw[QbU h2 a]at h ⊢
   injection h with h
   exact⟨s,h2,a,h.symm,rfl⟩
  ·rw[Qah h2 a]at h
   cases h
 ·rw[QdJ h2]at h
  cases h
theorem YN{c:Ctl}{x:Cmd}(h:(Jl c x).1=none):(Jl c x).2≠0:=by
 rcases YJ (s:=c.state) (c:=x)with ⟨s,h2⟩|⟨k,h2,hk⟩
 ·by_cases a:addC c.jn (Qq x)=0
  ·rw[QbU h2 a]at h
   cases h
  ·rw[Qah h2 a]
   decide
 ·rw[QdJ h2]
  exact hk
theorem QtX{j:Q7}{s:List UInt8}(h:addC j s=0):(Yq j s).bytes.length<=40000:=by
 have:=(QcF h).2
 exact(Ws.1 this).1
theorem JZ{c d:Ctl}{x:Cmd}(hs:Yb 1048576 c)(h:(Jl c x).1=some d):Yb 1048576 d/\d.jn.bytes.length<=40000/\jnOk d.jn=true:=by
 obtain⟨s,b,a,rfl,_⟩:=JU h
 have e:=QtX a
 exact⟨⟨hs.first,We hs.state s (by rw[b]),by dsimp only;omega⟩,e,(QcF a).2⟩

@[reducible] def tkR (o:Option Ctl) (k:Int):List AV:=match o with
 | none=>[ctlA zC,zI k]
 | some c=>[Qs3 c,zI k]
theorem Qx5{c:Ctl}{x:Cmd}(hs:Yb 1048576 c):zAc 9 [ctlA c,cmdA x] (tkR (ZR c x).1 (ZR c x).2) (coB (ZR c x).1):=by
 refine zAC func9 fun w0 Z=>?_
 have f:=Qhk hs
 unfold ZR
 cases e:J9 c with
 | false=>
  rw[e]at f
  rw[if_neg (by decide)]
  repeat'(first|(refine zhm fun hb=>?_;try exact zab)|refine QR ?_|(apply zch;exact zcg)|exact zhk|refine zg3 ?_ ?_|intro _)
  show AWp _ _ _ _
  refine QA ?_
  apply Qu
  exact zrr
 | true=>
  rw[e]at f
  rw[if_pos rfl]
  have a:=JZ (d:=(Jl c x).1.getD zC) (x:=x) hs
  have b:=Qos (x:=x) hs (Qdc e)
  generalize Jl c x=F at b a ⊢
  obtain⟨_|d,k⟩:=F
  ·dsimp only[coR,coB,tkR,Option.map]at b ⊢
   repeat'(first|(refine zhm fun hb=>?_;try exact zab)|refine Qd ?_|(apply zch;exact zcg)|exact zhk|refine zg3 ?_ ?_|refine zqd Quh ?_|intro _)
   refine zr [] ?_ ?_
   repeat'(first|exact ze3|refine ze2 ?_ ?_|refine ze4 ?_|exact ze5|fail)
   all_goals exact zp rfl
  ·dsimp only[coR,coB,tkR,Option.map,Option.getD]at b a ⊢
   have g:=Qm6 (c:=d) (by have:=(a rfl).2.1;omega)
   repeat'(first|(refine zhm fun hb=>?_;try exact zab)|refine Qd ?_|(apply zch;exact zcg)|exact zhk|refine zg3 ?_ ?_|(refine kn [15,1015,2015,3015,4015,5015,6015,7015,8015,9015,10015,11015,12015] (g) rfl rfl (fun i hi=>?_);try dsimp only at hi)|intro _)
   refine zr [19,1019,2019,3019,4019,5019,6019,7019,8019,9019,10019,11019,12019] ?_ ?_
   repeat'(first|exact ze3|refine ze2 ?_ ?_|refine ze4 ?_|exact ze5|fail)
   all_goals exact zp rfl
theorem Qva{c:Ctl}{x:Cmd}(hs:Yb 1048576 c):DC Tryz.prog 93 [ctlA c,cmdA x] [ctlA ((ZR c x).1.getD zC),zI (ZR c x).2]:=by
 refine zMC func93 fun w0 Z O=>?_
 have n:Qj 100000000 c.first:=hs.first.mono (by omega)
 have a:=QlD (x:=x) hs
 have l:=YX n
 unfold ZR
 unfold tryO at a
 cases h:J9 c with
 | false=>
  rw[h,if_neg (by decide)]at a
  rw[if_neg (by decide)]
  dsimp only[Option.getD,Option.map]at a ⊢
  repeat'(first|(refine zhm fun hb=>?_;try exact zab)|refine QR ?_|(apply zch;exact zcg)|exact zhk|refine zg3 ?_ ?_|refine kmu a ?_|intro _)
  exact zDR
 | true=>
  rw[h,if_pos rfl]at a
  rw[if_pos rfl]
  cases e:(Jl c x).1 with
  | none=>
   have p:=YN e
   rw[e]at a
   generalize (Jl c x).2=k at a p ⊢
   dsimp only[Option.getD,Option.map]at a ⊢
   repeat'(first|(refine zhm fun hb=>?_;try exact zab)|refine QR ?_|(apply zch;exact zcg)|exact zhk|refine zg3 ?_ ?_|refine kmu a ?_|intro _)
   exact zDR
  | some d=>
   obtain⟨s,h1,h2,rfl,g⟩:=JU e
   obtain⟨k1,i,f⟩:=JZ hs e
   rw[e,g]at a
   rw[g]
   dsimp only[Option.getD,Option.map,Zj]at a i f ⊢
   generalize Yq c.jn (Qq x)=j at a i f ⊢
   have m:=dc_a (QhC (j:=j) (by omega) f)
   repeat'(first|(refine zhm fun hb=>?_;try exact zab)|refine QR ?_|(apply zch;exact zcg)|exact zhk|refine zg3 ?_ ?_|refine kmu a ?_|refine kmu l ?_|refine kmu m ?_|intro _)
   exact zDR
@[reducible] def byR (o:Option (List UInt8)) (k:Int):List AV:=match o with
 | none=>[.nil,zI k]
 | some _=>[.row 0,zI k]
@[reducible] def byB (o:Option (List UInt8)):List (Nat×AO):=match o with
 | none=>[]
 | some b=>[(0,.row 5 (QK b) true)]
theorem QxD{c:Ctl}{x:Cmd}{keep:Int}(hs:Yb 1048576 c):zAc 8 [ctlA c,cmdA x,zI keep] (byR (Qa5 c x keep).1 (Qa5 c x keep).2) (byB (Qa5 c x keep).1):=by
 refine Qbf tt func8 rfl rfl rfl (fun w0 Z=>?_)
 have b:=Qhk hs
 unfold Qa5
 cases f:J9 c with
 | false=>
  rw[f]at b
  rw[if_neg (by decide)]
  repeat'(first|refine zst ?_|(refine zhm fun hb=>?_;try exact zab)|refine zdr ?_|(apply zch;exact zcg)|refine VC.mk fun w0 Z O=>?_|exact zhk|refine zg3 ?_ ?_|refine zln fun _=>?_|refine zop ?_|refine kc (b) rfl rfl ?_|refine kq (b) rfl rfl ?_|fail)
  refine zr [] ?_ ?_
  repeat'(first|apply And.intro|exact zes|refine zet ?_|exact ze0|refine ze1 ?_|refine zei ?_ ?_|exact rfl|trivial)
  all_goals exact zp rfl
 | true=>
  rw[f]at b
  rw[if_pos rfl]
  have a:=Qos (x:=x) hs (Qdc f)
  cases e:(Jl c x).1 with
  | none=>
   have n:=YN e
   rw[e]at a
   generalize (Jl c x).2=k at a n ⊢
   dsimp only[coR,coB,Option.map]at a ⊢
   repeat'(first|refine zst ?_|(refine zhm fun hb=>?_;try exact zab)|refine zdr ?_|(apply zch;exact zcg)|refine VC.mk fun w0 Z O=>?_|exact zhk|refine zg3 ?_ ?_|refine zln fun _=>?_|refine zop ?_|refine kc (b) rfl rfl ?_|refine kc (a) rfl rfl ?_|refine kq (b) rfl rfl ?_|refine kq (a) rfl rfl ?_|fail)
   refine zr [] ?_ ?_
   repeat'(first|apply And.intro|exact zes|refine zet ?_|exact ze0|refine ze1 ?_|refine zei ?_ ?_|exact rfl|trivial)
   all_goals exact zp rfl
  | some d=>
   obtain⟨s,h1,h2,rfl,l⟩:=JU e
   obtain⟨k1,m,g⟩:=JZ hs e
   rw[e,l]at a
   have a:=dc_a a
   rw[l]
   dsimp only[coR,coB,Option.map]at a m g ⊢
   generalize Yq c.jn (Qq x)=j at a m g ⊢
   have h:=Qay (j:=j) (keep:=keep) g
   repeat'(first|refine zst ?_|(refine zhm fun hb=>?_;try exact zab)|refine zdr ?_|(apply zch;exact zcg)|refine VC.mk fun w0 Z O=>?_|exact zhk|refine zg3 ?_ ?_|refine zln fun _=>?_|refine zop ?_|refine kc (b) rfl rfl ?_|refine kc (h) rfl rfl ?_|(refine km [] (a) rfl rfl (fun i hi=>?_);(try dsimp only at hi))|refine kq (b) rfl rfl ?_|refine kq (h) rfl rfl ?_|fail)
   refine zr [25] ?_ ?_
   repeat'(first|apply And.intro|exact zes|refine zet ?_|exact ze0|refine ze1 ?_|refine zei ?_ ?_|exact rfl|trivial)
   all_goals exact zp rfl
theorem Qys{c:Ctl}{x:Cmd}{keep:Int}(hs:Yb 1048576 c):DC Tryz.prog 130 [ctlA c,cmdA x,zI keep] [zL (QK ((Qa5 c x keep).1.getD [])),zI (Qa5 c x keep).2]:=by
 refine zMC func130 fun w0 Z O=>?_
 have a:=QlD (x:=x) hs
 unfold Qa5
 unfold tryO at a
 cases g:J9 c with
 | false=>
  rw[g,if_neg (by decide)]at a
  rw[if_neg (by decide)]
  dsimp only[Option.getD,Option.map]at a ⊢
  repeat'(first|(refine zhm fun hb=>?_;try exact zab)|refine QR ?_|(apply zch;exact zcg)|exact zhk|refine zg3 ?_ ?_|refine kmu a ?_|intro _)
  exact zDR
 | true=>
  rw[g,if_pos rfl]at a
  rw[if_pos rfl]
  cases b:(Jl c x).1 with
  | none=>
   have l:=YN b
   rw[b]at a
   generalize (Jl c x).2=k at a l ⊢
   dsimp only[Option.getD,Option.map]at a ⊢
   repeat'(first|(refine zhm fun hb=>?_;try exact zab)|refine QR ?_|(apply zch;exact zcg)|exact zhk|refine zg3 ?_ ?_|refine kmu a ?_|intro _)
   exact zDR
  | some d=>
   obtain⟨s,h1,h2,rfl,f⟩:=JU b
   obtain⟨k1,h,e⟩:=JZ hs b
   rw[b,f]at a
   rw[f]
   dsimp only[Option.getD,Option.map]at a h e ⊢
   generalize Yq c.jn (Qq x)=j at a h e ⊢
   have i:=dc_a (Qfx (j:=j) (keep:=keep) e)
   repeat'(first|(refine zhm fun hb=>?_;try exact zab)|refine QR ?_|(apply zch;exact zcg)|exact zhk|refine zg3 ?_ ?_|refine kmu a ?_|refine kmu i ?_|intro _)
   exact zDR
end
end Go.Proofs.YtkdniahincpmaaaGreat
