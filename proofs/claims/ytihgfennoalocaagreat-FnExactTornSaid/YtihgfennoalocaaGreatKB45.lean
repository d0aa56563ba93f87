/-
  A controller takes a command: take, l08Try, synced; Take and Torn, both.
-/
import Derived.Test.YtihgfennoalocaaGreatKB7
import Derived.Test.YtihgfennoalocaaGreatKB44
import Derived.Test.YtihgfennoalocaaGreatKB40
import Derived.Test.YtihgfennoalocaaGreatKB25
import Derived.Test.YtihgfennoalocaaGreatKB35
set_option maxRecDepth 100000
set_option maxHeartbeats 16000000
namespace Go.Proofs.YtihgfennoalocaaGreat
open Go Go.RowKit Tryz
section
attribute [local irreducible] AWp QJ OpOk ACalls ChA QsOk MCalls NCalls EnC PY

noncomputable def WE (c:Ctl) (x:Cmd):Option Ctl×Int:=match JA c.state x with
 | (none,k)=>(none,k)
 | (some s,_)=>if addC c.jn (Q3 x)=0 then(some ⟨c.first,s,W2 c.jn (Q3 x)⟩,0) else(none,21)
theorem Qcj{c:Ctl}{x:Cmd}{k:Int}(h:JA c.state x=(none,k)):WE c x=(none,k):=by unfold WE;rw[h]
theorem Xb{c:Ctl}{x:Cmd}{s:Qd}{k:Int}(h:JA c.state x=(some s,k))(ha:addC c.jn (Q3 x)≠0):WE c x=(none,21):=by unfold WE;rw[h];exact if_neg ha
theorem QaI{c:Ctl}{x:Cmd}{s:Qd}{k:Int}(h:JA c.state x=(some s,k))(ha:addC c.jn (Q3 x)=0):WE c x=(some ⟨c.first,s,W2 c.jn (Q3 x)⟩,0):=by unfold WE;rw[h];exact if_pos ha
def QsL(c:Ctl):Ctl:=⟨c.first,c.state,QtT c.jn⟩
noncomputable def QvA (c:Ctl) (x:Cmd):Option Ctl×Int:=if Vc c=true then((WE c x).1.map QsL,(WE c x).2) else(none,20)
noncomputable def Qei (c:Ctl) (x:Cmd) (keep:Int):Option (List UInt8)×Int:=if Vc c=true then((WE c x).1.map fun d=>d.jn.bytes.take (QbR d.jn keep),(WE c x).2) else(none,20)
theorem QkB{c:Ctl}(h:Vc c=true):jnOk c.jn=true:=by
 unfold Vc at h
 rw[Xaf,Xaf]at h
 exact h.2.1
theorem Qu3{c:Ctl}{x:Cmd}(hs:JI 1048576 c)(hj:jnOk c.jn=true):zAc 73 [ctlA c,cmdA x] (coR (WE c x).1 (WE c x).2) (coB (WE c x).1):=by
 refine Qmu tt func73 rfl rfl rfl (fun w0 Z=>?_)
 have hf:Ql 100000000 c.first:=hs.first.mono (by omega)
 have hx:=QcY x
 have c1:=QdS (c:=x) hs.state
 have c3:=Y8 (c:=x)
 rcases Yp (s:=c.state) (c:=x)with ⟨s,h2⟩|⟨k,h2,hk⟩
 ·rw[h2]at c1
  dsimp only[SO,stR,stB]at c1
  by_cases ha:addC c.jn (Q3 x)=0
  ·rw[QaI h2 ha]
   have c4:=Qsf ha
   have c5:=Jr hf
   repeat'(first|refine zst ?_|(refine zhm fun hb=>?_;try exact zab)|refine zdr ?_|(apply zch;exact zcg)|refine Qmj.mk fun w0 Z O=>?_|exact zhk|refine zg3 ?_ ?_|refine zln fun _=>?_|refine zop ?_|refine kc (c1) rfl rfl ?_|refine kc (c3) rfl rfl ?_|refine kc (c4) rfl rfl ?_|refine kc (c5) rfl rfl ?_|refine kq (c1) rfl rfl ?_|refine kq (c3) rfl rfl ?_|refine kq (c4) rfl rfl ?_|refine kq (c5) rfl rfl ?_|fail)
   refine zr [34,1034,2034,3034,4034,5034,14,1014,2014,3014,4014,5014,26] ?_ ?_
   repeat'(first|apply And.intro|exact zes|refine zet ?_|exact ze0|refine ze1 ?_|refine zei ?_ ?_|exact rfl|trivial)
   all_goals exact zp rfl
  ·rw[Xb h2 ha]
   have c4:=QpL hj (Xao hx (by omega)) ha
   have hz:((addC c.jn (Q3 x):Nat):Int)≠0:=by omega
   repeat'(first|refine zst ?_|(refine zhm fun hb=>?_;try exact zab)|refine zdr ?_|(apply zch;exact zcg)|refine Qmj.mk fun w0 Z O=>?_|exact zhk|refine zg3 ?_ ?_|refine zln fun _=>?_|refine zop ?_|refine kc (c1) rfl rfl ?_|refine kc (c3) rfl rfl ?_|refine kc (c4) rfl rfl ?_|refine kq (c1) rfl rfl ?_|refine kq (c3) rfl rfl ?_|refine kq (c4) rfl rfl ?_|fail)
   refine zr [] ?_ ?_
   repeat'(first|apply And.intro|exact zes|refine zet ?_|exact ze0|refine ze1 ?_|refine zei ?_ ?_|exact rfl|trivial)
   all_goals exact zp rfl
 ·rw[h2]at c1
  dsimp only[SO,stR,stB]at c1
  rw[Qcj h2]
  repeat'(first|refine zst ?_|(refine zhm fun hb=>?_;try exact zab)|refine zdr ?_|(apply zch;exact zcg)|refine Qmj.mk fun w0 Z O=>?_|exact zhk|refine zg3 ?_ ?_|refine zln fun _=>?_|refine zop ?_|refine kc (c1) rfl rfl ?_|refine kq (c1) rfl rfl ?_|fail)
  refine zr [] ?_ ?_
  repeat'(first|apply And.intro|exact zes|refine zet ?_|exact ze0|refine ze1 ?_|refine zei ?_ ?_|exact rfl|trivial)
  all_goals exact zp rfl
noncomputable def tryO (c:Ctl) (x:Cmd):Option Ctl×Int:=if Vc c=true then WE c x else(none,20)
theorem QpW{c:Ctl}{x:Cmd}(hs:JI 1048576 c):DC Tryz.prog 69 [ctlA c,cmdA x] [Qx ((tryO c x).1.getD zC).state,jnA ((tryO c x).1.getD zC).jn,zI (tryO c x).2]:=by
 refine Ji tt func69 rfl rfl rfl trivial (fun _ _=>⟨trivial,trivial⟩) (fun w0 Z O=>?_)
 have hx:=QcY x
 have c0:=Qi1 hs
 have hb:=hs.jn
 unfold tryO
 cases ho:Vc c with
 | false=>
  rw[ho]at c0
  rw[if_neg (by decide)]
  repeat'(first|refine zsr ?_|(refine zhm fun hb=>?_;try exact zab)|refine zdr ?_|(apply zch;exact zcg)|refine Qmj.mk fun w0 Z O=>?_|exact zhk|refine zg3 ?_ ?_|refine zln fun _=>?_|refine zop ?_|refine kc (c0) rfl rfl ?_|refine kq (c0) rfl rfl ?_|fail)
  show AWp _ _ _ _
  refine QD ?_
  apply Qt
  exact zm () [] trivial zae zae zae
 | true=>
  rw[ho]at c0
  rw[if_pos rfl]
  have hj:=QkB ho
  have c1:=QmO (c:=x) hs.state
  have c3:=ZJ (c:=x)
  rcases Yp (s:=c.state) (c:=x)with ⟨s,h2⟩|⟨k,h2,hk⟩
  ·rw[h2]at c1
   dsimp only[SS,Option.getD]at c1
   by_cases ha:addC c.jn (Q3 x)=0
   ·rw[QaI h2 ha]
    have c4:=dc_a (QgX ha)
    repeat'(first|refine zsr ?_|(refine zhm fun hb=>?_;try exact zab)|refine zdr ?_|(apply zch;exact zcg)|refine Qmj.mk fun w0 Z O=>?_|exact zhk|refine zg3 ?_ ?_|refine zln fun _=>?_|refine zop ?_|refine kc (c0) rfl rfl ?_|refine kc (c3) rfl rfl ?_|(refine km [] (c1) rfl rfl (fun i hi=>?_);(try dsimp only at hi))|(refine km [] (c4) rfl rfl (fun i hi=>?_);(try dsimp only at hi))|refine kq (c0) rfl rfl ?_|refine kq (c3) rfl rfl ?_|fail)
    show AWp _ _ _ _
    refine QD ?_
    apply Qt
    exact zm () [] trivial zae zae zae
   ·rw[Xb h2 ha]
    have c4:=Qfg (j:=c.jn) (by omega) (Xao hx (by omega)) ha
    have hz:((addC c.jn (Q3 x):Nat):Int)≠0:=by omega
    repeat'(first|refine zsr ?_|(refine zhm fun hb=>?_;try exact zab)|refine zdr ?_|(apply zch;exact zcg)|refine Qmj.mk fun w0 Z O=>?_|exact zhk|refine zg3 ?_ ?_|refine zln fun _=>?_|refine zop ?_|refine kc (c0) rfl rfl ?_|refine kc (c3) rfl rfl ?_|refine kc (c4) rfl rfl ?_|(refine km [] (c1) rfl rfl (fun i hi=>?_);(try dsimp only at hi))|refine kq (c0) rfl rfl ?_|refine kq (c3) rfl rfl ?_|refine kq (c4) rfl rfl ?_|fail)
    show AWp _ _ _ _
    refine QD ?_
    apply Qt
    exact zm () [] trivial zae zae zae
  ·rw[h2]at c1
   dsimp only[SS,Option.getD]at c1
   rw[Qcj h2]
   repeat'(first|refine zsr ?_|(refine zhm fun hb=>?_;try exact zab)|refine zdr ?_|(apply zch;exact zcg)|refine Qmj.mk fun w0 Z O=>?_|exact zhk|refine zg3 ?_ ?_|refine zln fun _=>?_|refine zop ?_|refine kc (c0) rfl rfl ?_|(refine km [] (c1) rfl rfl (fun i hi=>?_);(try dsimp only at hi))|refine kq (c0) rfl rfl ?_|fail)
   show AWp _ _ _ _
   refine QD ?_
   apply Qt
   exact zm () [] trivial zae zae zae
@[reducible] def QvE (c:Ctl):List (Nat×AO):=[(500000,.row 3 (intE c.first.topo.parents) true),(500001,.row 225 (Qz c.first.topo.nodes) true),(500002,.row 4 (Qq c.first.up) true),(500003,.row 72 (jobE c.first.queue) true),(500004,.row 170 (runE c.first.runs) true),(500005,.row 172 (endE c.first.ends) true),(500006,.row 3 (intE c.state.topo.parents) true),(500007,.row 225 (Qz c.state.topo.nodes) true),(500008,.row 4 (Qq c.state.up) true),(500009,.row 72 (jobE c.state.queue) true),(500010,.row 170 (runE c.state.runs) true),(500011,.row 172 (endE c.state.ends) true),(500012,.row 5 (QG c.jn.bytes) true)]
theorem Qbm{c d:Ctl}{x:Cmd}(h:(WE c x).1=some d):∃s,JA c.state x=(some s,0)/\addC c.jn (Q3 x)=0/\d=⟨c.first,s,W2 c.jn (Q3 x)⟩/\(WE c x).2=0:=by
 rcases Yp (s:=c.state) (c:=x)with ⟨s,h2⟩|⟨k,h2,hk⟩
 ·by_cases ha:addC c.jn (Q3 x)=0
  ·rw[QaI h2 ha]at h ⊢
   injection h with h
   exact⟨s,h2,ha,h.symm,rfl⟩
  ·rw[Xb h2 ha]at h
   cases h
 ·rw[Qcj h2]at h
  cases h
theorem QeV{c:Ctl}{x:Cmd}(h:(WE c x).1=none):(WE c x).2≠0:=by
 rcases Yp (s:=c.state) (c:=x)with ⟨s,h2⟩|⟨k,h2,hk⟩
 ·by_cases ha:addC c.jn (Q3 x)=0
  ·rw[QaI h2 ha]at h
   cases h
  ·rw[Xb h2 ha]
   decide
 ·rw[Qcj h2]
  exact hk
theorem Qrh{j:QV}{s:List UInt8}(h:addC j s=0):(W2 j s).bytes.length<=40000:=by
 have:=(QeH h).2
 exact(Qfp.1 this).1
theorem XX{c d:Ctl}{x:Cmd}(hs:JI 1048576 c)(h:(WE c x).1=some d):JI 1048576 d/\d.jn.bytes.length<=40000/\jnOk d.jn=true:=by
 obtain⟨s,h1,h2,rfl,_⟩:=Qbm h
 have hl:=Qrh h2
 exact⟨⟨hs.first,Y3 hs.state s (by rw[h1]),by dsimp only;omega⟩,hl,(QeH h2).2⟩

@[reducible] def tkR (o:Option Ctl) (k:Int):List AV:=match o with
 | none=>[ctlA zC,zI k]
 | some c=>[Qtd c,zI k]
@[reducible] def byR (o:Option (List UInt8)) (k:Int):List AV:=match o with
 | none=>[.nil,zI k]
 | some _=>[.row 0,zI k]
@[reducible] def byB (o:Option (List UInt8)):List (Nat×AO):=match o with
 | none=>[]
 | some b=>[(0,.row 5 (QG b) true)]
theorem Quz{c:Ctl}{x:Cmd}{keep:Int}(hs:JI 1048576 c):zAc 23 [ctlA c,cmdA x,zI keep] (byR (Qei c x keep).1 (Qei c x keep).2) (byB (Qei c x keep).1):=by
 refine Qmu tt func23 rfl rfl rfl (fun w0 Z=>?_)
 have c0:=QiO hs
 unfold Qei
 cases ho:Vc c with
 | false=>
  rw[ho]at c0
  rw[if_neg (by decide)]
  repeat'(first|refine zst ?_|(refine zhm fun hb=>?_;try exact zab)|refine zdr ?_|(apply zch;exact zcg)|refine Qmj.mk fun w0 Z O=>?_|exact zhk|refine zg3 ?_ ?_|refine zln fun _=>?_|refine zop ?_|refine kc (c0) rfl rfl ?_|refine kq (c0) rfl rfl ?_|fail)
  refine zr [] ?_ ?_
  repeat'(first|apply And.intro|exact zes|refine zet ?_|exact ze0|refine ze1 ?_|refine zei ?_ ?_|exact rfl|trivial)
  all_goals exact zp rfl
 | true=>
  rw[ho]at c0
  rw[if_pos rfl]
  have c1:=Qu3 (x:=x) hs (QkB ho)
  cases ht:(WE c x).1 with
  | none=>
   have hk:=QeV ht
   rw[ht]at c1
   generalize (WE c x).2=k at c1 hk ⊢
   dsimp only[coR,coB,Option.map]at c1 ⊢
   repeat'(first|refine zst ?_|(refine zhm fun hb=>?_;try exact zab)|refine zdr ?_|(apply zch;exact zcg)|refine Qmj.mk fun w0 Z O=>?_|exact zhk|refine zg3 ?_ ?_|refine zln fun _=>?_|refine zop ?_|refine kc (c0) rfl rfl ?_|refine kc (c1) rfl rfl ?_|refine kq (c0) rfl rfl ?_|refine kq (c1) rfl rfl ?_|fail)
   refine zr [] ?_ ?_
   repeat'(first|apply And.intro|exact zes|refine zet ?_|exact ze0|refine ze1 ?_|refine zei ?_ ?_|exact rfl|trivial)
   all_goals exact zp rfl
  | some d=>
   obtain⟨s,h1,h2,rfl,h3⟩:=Qbm ht
   obtain⟨k1,k2,k3⟩:=XX hs ht
   rw[ht,h3]at c1
   have c1:=dc_a c1
   rw[h3]
   dsimp only[coR,coB,Option.map]at c1 k2 k3 ⊢
   generalize W2 c.jn (Q3 x)=j at c1 k2 k3 ⊢
   have c3:=Qel (j:=j) (keep:=keep) k3
   repeat'(first|refine zst ?_|(refine zhm fun hb=>?_;try exact zab)|refine zdr ?_|(apply zch;exact zcg)|refine Qmj.mk fun w0 Z O=>?_|exact zhk|refine zg3 ?_ ?_|refine zln fun _=>?_|refine zop ?_|refine kc (c0) rfl rfl ?_|refine kc (c3) rfl rfl ?_|(refine km [] (c1) rfl rfl (fun i hi=>?_);(try dsimp only at hi))|refine kq (c0) rfl rfl ?_|refine kq (c3) rfl rfl ?_|fail)
   refine zr [25] ?_ ?_
   repeat'(first|apply And.intro|exact zes|refine zet ?_|exact ze0|refine ze1 ?_|refine zei ?_ ?_|exact rfl|trivial)
   all_goals exact zp rfl
theorem QuL{c:Ctl}{x:Cmd}{keep:Int}(hs:JI 1048576 c):DC Tryz.prog 21 [ctlA c,cmdA x,zI keep] [zL (QG ((Qei c x keep).1.getD [])),zI (Qei c x keep).2]:=by
 refine Ji tt func21 rfl rfl rfl trivial (fun _ _=>⟨trivial,trivial⟩) (fun w0 Z O=>?_)
 have c1:=QpW (x:=x) hs
 unfold Qei
 unfold tryO at c1
 cases ho:Vc c with
 | false=>
  rw[ho,if_neg (by decide)]at c1
  rw[if_neg (by decide)]
  dsimp only[Option.getD,Option.map]at c1 ⊢
  repeat'(first|refine zsr ?_|(refine zhm fun hb=>?_;try exact zab)|refine zdr ?_|(apply zch;exact zcg)|refine Qmj.mk fun w0 Z O=>?_|exact zhk|refine zg3 ?_ ?_|refine zln fun _=>?_|refine zop ?_|(refine km [] (c1) rfl rfl (fun i hi=>?_);(try dsimp only at hi))|fail)
  show AWp _ _ _ _
  refine QD ?_
  apply Qt
  exact zm () [] trivial zae zae zae
 | true=>
  rw[ho,if_pos rfl]at c1
  rw[if_pos rfl]
  cases ht:(WE c x).1 with
  | none=>
   have hk:=QeV ht
   rw[ht]at c1
   generalize (WE c x).2=k at c1 hk ⊢
   dsimp only[Option.getD,Option.map]at c1 ⊢
   repeat'(first|refine zsr ?_|(refine zhm fun hb=>?_;try exact zab)|refine zdr ?_|(apply zch;exact zcg)|refine Qmj.mk fun w0 Z O=>?_|exact zhk|refine zg3 ?_ ?_|refine zln fun _=>?_|refine zop ?_|(refine km [] (c1) rfl rfl (fun i hi=>?_);(try dsimp only at hi))|fail)
   show AWp _ _ _ _
   refine QD ?_
   apply Qt
   exact zm () [] trivial zae zae zae
  | some d=>
   obtain⟨s,h1,h2,rfl,h3⟩:=Qbm ht
   obtain⟨k1,k2,k3⟩:=XX hs ht
   rw[ht,h3]at c1
   rw[h3]
   dsimp only[Option.getD,Option.map]at c1 k2 k3 ⊢
   generalize W2 c.jn (Q3 x)=j at c1 k2 k3 ⊢
   have c3:=dc_a (Qeo (j:=j) (keep:=keep) k3)
   repeat'(first|refine zsr ?_|(refine zhm fun hb=>?_;try exact zab)|refine zdr ?_|(apply zch;exact zcg)|refine Qmj.mk fun w0 Z O=>?_|exact zhk|refine zg3 ?_ ?_|refine zln fun _=>?_|refine zop ?_|(refine km [] (c1) rfl rfl (fun i hi=>?_);(try dsimp only at hi))|(refine km [] (c3) rfl rfl (fun i hi=>?_);(try dsimp only at hi))|fail)
   show AWp _ _ _ _
   refine QD ?_
   apply Qt
   exact zm () [] trivial zae zae zae

theorem Qiu{c:Ctl}{x:Cmd}{keep:Int}(hs:JI 1048576 c):∀b,(Qei c x keep).1=some b->b.length<=40000:=fun b h=>by
 unfold Qei at h
 split at h
 ·cases ht:(WE c x).1 with
  | none=>rw[ht]at h;cases h
  | some e=>
   rw[ht]at h
   injection h with h
   subst h
   exact Xao (Xcr _ _) (XX hs ht).2.1
 ·cases h
theorem lawTorn_e{c:Ctl}{x:Cmd}{n:Int}(h:JI 9223372036854775807 c):zAc 5 [ctlA c,cmdA x,zI n] [.d (.b true)] []:=by
 refine Qmu tt func5 rfl rfl rfl (fun w0 Z=>?_)
 by_cases hS:JI 1048576 c
 ·have c1:=QuL (x:=x) (keep:=n) hS
  have c2:=Quz (x:=x) (keep:=n) hS
  have hO:=Qiu (x:=x) (keep:=n) hS
  generalize Qei c x n=o at c1 c2 hO
  obtain⟨_|b,k⟩:=o
  ·dsimp only[byR,byB,Option.getD]at c1 c2
   repeat'(first|refine zst ?_|(refine zhm fun hb=>?_;try exact zab)|(apply QB 5;kernel_rfl;exact rfl)|(apply QB 7;kernel_rfl;exact rfl)|(apply QB 10;kernel_rfl;exact rfl)|(apply QB 24;kernel_rfl;exact rfl)|refine zdr ?_|(apply zch;exact zcg)|refine Qmj.mk fun w0 Z O=>?_|exact zhk|refine zg3 ?_ ?_|(apply YE;first|(refine km (t:=25) [] (Qa8 hS) rfl rfl (fun i hi=>?_)))|refine zln fun _=>?_|refine zop ?_|refine kc (Qf8 hS) rfl rfl ?_|refine kc (Qod) rfl rfl ?_|refine kc (c2) rfl rfl ?_|refine kc (QnH) rfl rfl ?_|refine kc (WQ (c:=c) (hS.mono (by omega))) rfl rfl ?_|refine kc (XZ (k:=1)) rfl rfl ?_|refine kc (Qdg (k:=1)) rfl rfl ?_|(refine km [] (Qbr (x:=1048576) h (by omega)) rfl rfl (fun i hi=>?_);(try dsimp only at hi))|(refine km [] (Qa8 hS) rfl rfl (fun i hi=>?_);(try dsimp only at hi))|(refine km [] (c1) rfl rfl (fun i hi=>?_);(try dsimp only at hi))|(refine km [33,1033,2033,3033,4033,5033,6033,7033,8033,9033,10033,11033,12033] (Qc3 (k:=1) hS (by omega)) rfl rfl (fun i hi=>?_);(try dsimp only at hi))|refine kq (Qf8 hS) rfl rfl ?_|refine kq (Qod) rfl rfl ?_|refine kq (c2) rfl rfl ?_|refine kq (QnH) rfl rfl ?_|refine kq (WQ (c:=c) (hS.mono (by omega))) rfl rfl ?_|refine kq (XZ (k:=1)) rfl rfl ?_|refine kq (Qdg (k:=1)) rfl rfl ?_|fail)
   all_goals
    refine zr [] ?_ ?_
    repeat'(first|apply And.intro|exact zes|refine zet ?_|exact ze0|refine ze1 ?_|refine zei ?_ ?_|exact rfl|trivial)
    all_goals exact zp rfl
  ·dsimp only[byR,byB,Option.getD]at c1 c2
   have hO:=hO b rfl
   have hbe:=Qj b
   repeat'(first|refine zst ?_|(refine zhm fun hb=>?_;try exact zab)|(apply QB 5;kernel_rfl;exact rfl)|(apply QB 7;kernel_rfl;exact rfl)|(apply QB 10;kernel_rfl;exact rfl)|(apply QB 24;kernel_rfl;exact rfl)|refine zdr ?_|(apply zch;exact zcg)|refine Qmj.mk fun w0 Z O=>?_|exact zhk|refine zg3 ?_ ?_|(apply YE;first|(refine km (t:=25) [] (Qa8 hS) rfl rfl (fun i hi=>?_)))|refine zln fun _=>?_|refine zop ?_|refine kc (Qf8 hS) rfl rfl ?_|refine kc (Qod) rfl rfl ?_|refine kc (c2) rfl rfl ?_|refine kc (Wq (l:=b) (by omega)) rfl rfl ?_|refine kc (WQ (c:=c) (hS.mono (by omega))) rfl rfl ?_|refine kc (XU (n:=b.length) (k:=1) (by omega) (by omega)) rfl rfl ?_|(refine km [] (Qbr (x:=1048576) h (by omega)) rfl rfl (fun i hi=>?_);(try dsimp only at hi))|(refine km [] (Qa8 hS) rfl rfl (fun i hi=>?_);(try dsimp only at hi))|(refine km [] (c1) rfl rfl (fun i hi=>?_);(try dsimp only at hi))|(refine km [33,1033,2033,3033,4033,5033,6033,7033,8033,9033,10033,11033,12033] (Qc3 (k:=1) hS (by omega)) rfl rfl (fun i hi=>?_);(try dsimp only at hi))|(refine km [39] (Za (b:=b) (k:=1) (by omega) (by omega)) rfl rfl (fun i hi=>?_);(try dsimp only at hi))|refine kq (Qf8 hS) rfl rfl ?_|refine kq (Qod) rfl rfl ?_|refine kq (c2) rfl rfl ?_|refine kq (Wq (l:=b) (by omega)) rfl rfl ?_|refine kq (WQ (c:=c) (hS.mono (by omega))) rfl rfl ?_|refine kq (XU (n:=b.length) (k:=1) (by omega) (by omega)) rfl rfl ?_|fail)
   all_goals
    refine zr [] ?_ ?_
    repeat'(first|apply And.intro|exact zes|refine zet ?_|exact ze0|refine ze1 ?_|refine zei ?_ ?_|exact rfl|trivial)
    all_goals exact zp rfl
 ·repeat'(first|refine zst ?_|(refine zhm fun hb=>?_;try exact zab)|refine zdr ?_|(apply zch;exact zcg)|refine Qmj.mk fun w0 Z O=>?_|exact zhk|refine zg3 ?_ ?_|refine zln fun _=>?_|refine zop ?_|(refine km [] (Qbr (x:=1048576) h (by omega)) rfl rfl (fun i hi=>?_);(try dsimp only at hi))|fail)
  all_goals first|(exfalso;exact hS (hi.2 (by omega)))|skip
  refine zr [] ?_ ?_
  repeat'(first|apply And.intro|exact zes|refine zet ?_|exact ze0|refine ze1 ?_|refine zei ?_ ?_|exact rfl|trivial)
  all_goals exact zp rfl
end
end Go.Proofs.YtihgfennoalocaaGreat
