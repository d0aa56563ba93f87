/-
  A controller takes a command: take, l08Try, synced; Take and Torn, both.
-/
import Derived.Test.YtkdniahincpmaaaGreatQB37
set_option maxRecDepth 100000
set_option maxHeartbeats 16000000
namespace Go.Proofs.YtkdniahincpmaaaGreat
open Go Go.RowKit Tryz
section
attribute [local irreducible] AWp QM OpOk ACalls ChA QsOk MCalls NCalls EnC PY

noncomputable def JM (c:Ctl) (x:Cmd):Option Ctl×Int:=match Jw c.state x with
 | (none,k)=>(none,k)
 | (some s,_)=>if addC c.jn (QL x)=0 then(some ⟨c.first,s,VC c.jn (QL x)⟩,0) else(none,21)
theorem Qc3{c:Ctl}{x:Cmd}{k:Int}(h:Jw c.state x=(none,k)):JM c x=(none,k):=by unfold JM;rw[h]
theorem X0{c:Ctl}{x:Cmd}{s:Qb}{k:Int}(h:Jw c.state x=(some s,k))(ha:addC c.jn (QL x)≠0):JM c x=(none,21):=by unfold JM;rw[h];exact if_neg ha
theorem QaV{c:Ctl}{x:Cmd}{s:Qb}{k:Int}(h:Jw c.state x=(some s,k))(ha:addC c.jn (QL x)=0):JM c x=(some ⟨c.first,s,VC c.jn (QL x)⟩,0):=by unfold JM;rw[h];exact if_pos ha
def XC(c:Ctl):Ctl:=⟨c.first,c.state,Qbd c.jn⟩
noncomputable def QtF (c:Ctl) (x:Cmd):Option Ctl×Int:=if Y8 c=true then((JM c x).1.map XC,(JM c x).2) else(none,20)
noncomputable def Qsm (c:Ctl) (x:Cmd) (keep:Int):Option (List UInt8)×Int:=if Y8 c=true then((JM c x).1.map fun d=>d.jn.bytes.take (W9 d.jn keep),(JM c x).2) else(none,20)
theorem Qms{c:Ctl}(h:Y8 c=true):jnOk c.jn=true:=by
 unfold Y8 at h
 rw[Xac,Xac]at h
 exact h.2.1
theorem Qxv{c:Ctl}{x:Cmd}(hs:J1 1048576 c)(hj:jnOk c.jn=true):zAc 39 [ctlA c,cmdA x] (coR (JM c x).1 (JM c x).2) (coB (JM c x).1):=by
 refine zAC func39 fun w0 Z=>?_
 have e:Qo 100000000 c.first:=hs.first.mono (by omega)
 have f:=QdY x
 have a:=Qee (c:=x) hs.state
 have c3:=Wu (c:=x)
 rcases YK (s:=c.state) (c:=x)with ⟨s,h2⟩|⟨k,h2,hk⟩
 ·rw[h2]at a
  dsimp only[SO,stR,stB]at a
  by_cases b:addC c.jn (QL x)=0
  ·rw[QaV h2 b]
   have d:=Qvt b
   have c5:=Q4 e
   repeat'(first|(refine zhm fun hb=>?_;try exact zab)|refine Qd ?_|(apply zch;exact zcg)|exact zhk|refine zg3 ?_ ?_|intro _)
   refine zr [34,1034,2034,3034,4034,5034,14,1014,2014,3014,4014,5014,26] ?_ ?_
   repeat'(first|exact ze3|refine ze2 ?_ ?_|refine ze4 ?_|exact ze5|fail)
   all_goals exact zp rfl
  ·rw[X0 h2 b]
   have d:=QsI hj (Xam f (by omega)) b
   have hz:((addC c.jn (QL x):Nat):Int)≠0:=by omega
   repeat'(first|(refine zhm fun hb=>?_;try exact zab)|refine Qd ?_|(apply zch;exact zcg)|exact zhk|refine zg3 ?_ ?_|intro _)
   refine zr [] ?_ ?_
   repeat'(first|exact ze3|refine ze2 ?_ ?_|refine ze4 ?_|exact ze5|fail)
   all_goals exact zp rfl
 ·rw[h2]at a
  dsimp only[SO,stR,stB]at a
  rw[Qc3 h2]
  repeat'(first|(refine zhm fun hb=>?_;try exact zab)|refine Qd ?_|(apply zch;exact zcg)|exact zhk|refine zg3 ?_ ?_|intro _)
  refine zr [] ?_ ?_
  repeat'(first|exact ze3|refine ze2 ?_ ?_|refine ze4 ?_|exact ze5|fail)
  all_goals exact zp rfl
noncomputable def tryO (c:Ctl) (x:Cmd):Option Ctl×Int:=if Y8 c=true then JM c x else(none,20)
theorem QlV{c:Ctl}{x:Cmd}(hs:J1 1048576 c):DC Tryz.prog 172 [ctlA c,cmdA x] [Qz ((tryO c x).1.getD zC).state,jnA ((tryO c x).1.getD zC).jn,zI (tryO c x).2]:=by
 refine zMC func172 fun w0 Z O=>?_
 have g:=QdY x
 have e:=QpI hs
 have hb:=hs.jn
 unfold tryO
 cases d:Y8 c with
 | false=>
  rw[d]at e
  rw[if_neg (by decide)]
  repeat'(first|(refine zhm fun hb=>?_;try exact zab)|refine Q2 ?_|(apply zch;exact zcg)|exact zhk|refine zg3 ?_ ?_|intro _)
  exact zDR
 | true=>
  rw[d]at e
  rw[if_pos rfl]
  have hj:=Qms d
  have a:=Qqp (c:=x) hs.state
  have c3:=XJ (c:=x)
  rcases YK (s:=c.state) (c:=x)with ⟨s,h2⟩|⟨k,h2,hk⟩
  ·rw[h2]at a
   dsimp only[SS,Option.getD]at a
   by_cases b:addC c.jn (QL x)=0
   ·rw[QaV h2 b]
    have f:=dc_a (QiA b)
    repeat'(first|(refine zhm fun hb=>?_;try exact zab)|refine Q2 ?_|(apply zch;exact zcg)|exact zhk|refine zg3 ?_ ?_|refine kmu a ?_|(refine km [] (f) rfl rfl (fun i hi=>?_);try dsimp only at hi)|intro _)
    exact zDR
   ·rw[X0 h2 b]
    have f:=QhF (j:=c.jn) (by omega) (Xam g (by omega)) b
    have hz:((addC c.jn (QL x):Nat):Int)≠0:=by omega
    repeat'(first|(refine zhm fun hb=>?_;try exact zab)|refine Q2 ?_|(apply zch;exact zcg)|exact zhk|refine zg3 ?_ ?_|refine kmu a ?_|intro _)
    exact zDR
  ·rw[h2]at a
   dsimp only[SS,Option.getD]at a
   rw[Qc3 h2]
   repeat'(first|(refine zhm fun hb=>?_;try exact zab)|refine Q2 ?_|(apply zch;exact zcg)|exact zhk|refine zg3 ?_ ?_|refine kmu a ?_|intro _)
   exact zDR
@[reducible] def Qyo (c:Ctl):List (Nat×AO):=[(500000,.row 3 (intE c.first.topo.parents) true),(500001,.row 62 (Qr c.first.topo.nodes) true),(500002,.row 4 (Qk c.first.up) true),(500003,.row 40 (jobE c.first.queue) true),(500004,.row 66 (runE c.first.runs) true),(500005,.row 123 (endE c.first.ends) true),(500006,.row 3 (intE c.state.topo.parents) true),(500007,.row 62 (Qr c.state.topo.nodes) true),(500008,.row 4 (Qk c.state.up) true),(500009,.row 40 (jobE c.state.queue) true),(500010,.row 66 (runE c.state.runs) true),(500011,.row 123 (endE c.state.ends) true),(500012,.row 5 (QC c.jn.bytes) true)]
theorem Qtu{c:Ctl}(_:c.jn.bytes.length<=1000000000):NCalls Tryz.prog 41 [.agg (stC c.first 500000 500001 500002 500003 500004 500005++(stC c.state 500006 500007 500008 500009 500010 500011++[.row 500012,zI c.jn.synced,zI c.jn.count]))] (Qyo c) (fun _:Unit=>True) (fun _=>[Qqq (XC c)]) (fun _=>Qsu (XC c)):=by
 refine Ve tt func41 rfl rfl rfl (fun _ _=>rfl) (fun w0 Z O=>?_)
 have hb:=Qu c.jn.bytes
 repeat'(first|(refine zhm fun hb=>?_;try exact zab)|refine Qd ?_|(apply zch;exact zcg)|exact zhk|refine zg3 ?_ ?_|intro _)
 refine zn () [500000,500001,500002,500003,500004,500005,500006,500007,500008,500009,500010,500011,500012] (by exact trivial) ?_ ?_
 repeat'(first|exact ze3|refine ze2 ?_ ?_|refine ze4 ?_|exact ze5|fail)
 all_goals exact zp (by first|rfl|exact Qu _)
theorem Wk{c d:Ctl}{x:Cmd}(h:(JM c x).1=some d):∃s,Jw c.state x=(some s,0)/\addC c.jn (QL x)=0/\d=⟨c.first,s,VC c.jn (QL x)⟩/\(JM c x).2=0:=by
 rcases YK (s:=c.state) (c:=x)with ⟨s,h2⟩|⟨k,h2,hk⟩
 ·by_cases a:addC c.jn (QL x)=0
  ·rw[QaV h2 a]at h ⊢
   injection h with h
   exact⟨s,h2,a,h.symm,rfl⟩
  ·rw[X0 h2 a]at h
   cases h
 ·rw[Qc3 h2]at h
  cases h
theorem Vr{c:Ctl}{x:Cmd}(h:(JM c x).1=none):(JM c x).2≠0:=by
 rcases YK (s:=c.state) (c:=x)with ⟨s,h2⟩|⟨k,h2,hk⟩
 ·by_cases a:addC c.jn (QL x)=0
  ·rw[QaV h2 a]at h
   cases h
  ·rw[X0 h2 a]
   decide
 ·rw[Qc3 h2]
  exact hk
theorem Qs6{j:QU}{s:List UInt8}(h:addC j s=0):(VC j s).bytes.length<=40000:=by
 have:=(Qb4 h).2
 exact(VY.1 this).1
theorem WE{c d:Ctl}{x:Cmd}(hs:J1 1048576 c)(h:(JM c x).1=some d):J1 1048576 d/\d.jn.bytes.length<=40000/\jnOk d.jn=true:=by
 obtain⟨s,b,a,rfl,_⟩:=Wk h
 have e:=Qs6 a
 exact⟨⟨hs.first,Wm hs.state s (by rw[b]),by dsimp only;omega⟩,e,(Qb4 a).2⟩

@[reducible] def tkR (o:Option Ctl) (k:Int):List AV:=match o with
 | none=>[ctlA zC,zI k]
 | some c=>[Qqq c,zI k]
theorem Qw8{c:Ctl}{x:Cmd}(hs:J1 1048576 c):DC Tryz.prog 93 [ctlA c,cmdA x] [ctlA ((QtF c x).1.getD zC),zI (QtF c x).2]:=by
 refine zMC func93 fun w0 Z O=>?_
 have n:Qo 100000000 c.first:=hs.first.mono (by omega)
 have a:=QlV (x:=x) hs
 have l:=Wv n
 unfold QtF
 unfold tryO at a
 cases h:Y8 c with
 | false=>
  rw[h,if_neg (by decide)]at a
  rw[if_neg (by decide)]
  dsimp only[Option.getD,Option.map]at a ⊢
  repeat'(first|(refine zhm fun hb=>?_;try exact zab)|refine Q2 ?_|(apply zch;exact zcg)|exact zhk|refine zg3 ?_ ?_|refine kmu a ?_|intro _)
  exact zDR
 | true=>
  rw[h,if_pos rfl]at a
  rw[if_pos rfl]
  cases e:(JM c x).1 with
  | none=>
   have p:=Vr e
   rw[e]at a
   generalize (JM c x).2=k at a p ⊢
   dsimp only[Option.getD,Option.map]at a ⊢
   repeat'(first|(refine zhm fun hb=>?_;try exact zab)|refine Q2 ?_|(apply zch;exact zcg)|exact zhk|refine zg3 ?_ ?_|refine kmu a ?_|intro _)
   exact zDR
  | some d=>
   obtain⟨s,h1,h2,rfl,g⟩:=Wk e
   obtain⟨k1,i,f⟩:=WE hs e
   rw[e,g]at a
   rw[g]
   dsimp only[Option.getD,Option.map,XC]at a i f ⊢
   generalize VC c.jn (QL x)=j at a i f ⊢
   have m:=dc_a (Qgu (j:=j) (by omega) f)
   repeat'(first|(refine zhm fun hb=>?_;try exact zab)|refine Q2 ?_|(apply zch;exact zcg)|exact zhk|refine zg3 ?_ ?_|refine kmu a ?_|refine kmu l ?_|refine kmu m ?_|intro _)
   exact zDR
@[reducible] def byR (o:Option (List UInt8)) (k:Int):List AV:=match o with
 | none=>[.nil,zI k]
 | some _=>[.row 0,zI k]
@[reducible] def byB (o:Option (List UInt8)):List (Nat×AO):=match o with
 | none=>[]
 | some b=>[(0,.row 5 (QC b) true)]
theorem Qxo{c:Ctl}{x:Cmd}{keep:Int}(hs:J1 1048576 c):DC Tryz.prog 130 [ctlA c,cmdA x,zI keep] [zL (QC ((Qsm c x keep).1.getD [])),zI (Qsm c x keep).2]:=by
 refine zMC func130 fun w0 Z O=>?_
 have a:=QlV (x:=x) hs
 unfold Qsm
 unfold tryO at a
 cases g:Y8 c with
 | false=>
  rw[g,if_neg (by decide)]at a
  rw[if_neg (by decide)]
  dsimp only[Option.getD,Option.map]at a ⊢
  repeat'(first|(refine zhm fun hb=>?_;try exact zab)|refine Q2 ?_|(apply zch;exact zcg)|exact zhk|refine zg3 ?_ ?_|refine kmu a ?_|intro _)
  exact zDR
 | true=>
  rw[g,if_pos rfl]at a
  rw[if_pos rfl]
  cases b:(JM c x).1 with
  | none=>
   have l:=Vr b
   rw[b]at a
   generalize (JM c x).2=k at a l ⊢
   dsimp only[Option.getD,Option.map]at a ⊢
   repeat'(first|(refine zhm fun hb=>?_;try exact zab)|refine Q2 ?_|(apply zch;exact zcg)|exact zhk|refine zg3 ?_ ?_|refine kmu a ?_|intro _)
   exact zDR
  | some d=>
   obtain⟨s,h1,h2,rfl,f⟩:=Wk b
   obtain⟨k1,h,e⟩:=WE hs b
   rw[b,f]at a
   rw[f]
   dsimp only[Option.getD,Option.map]at a h e ⊢
   generalize VC c.jn (QL x)=j at a h e ⊢
   have i:=dc_a (Qfq (j:=j) (keep:=keep) e)
   repeat'(first|(refine zhm fun hb=>?_;try exact zab)|refine Q2 ?_|(apply zch;exact zcg)|exact zhk|refine zg3 ?_ ?_|refine kmu a ?_|refine kmu i ?_|intro _)
   exact zDR
end
end Go.Proofs.YtkdniahincpmaaaGreat
