/-
  A controller takes a command: take, l08Try, synced; Take and Torn, both.
-/
import Derived.Test.YtihgfennoalocaaGreatKB44
set_option maxRecDepth 100000
set_option maxHeartbeats 16000000
namespace Go.Proofs.YtihgfennoalocaaGreat
open Go Go.RowKit Tryz
section
attribute [local irreducible] AWp QJ OpOk ACalls ChA QsOk MCalls NCalls EnC PY

noncomputable def WE (c:Ctl) (x:Cmd):Option Ctl×Int:=match JA c.state x with
 | (none,k)=>(none,k)
 | (some s,_)=>if addC c.jn (Q3 x)=0 then(some ⟨c.first,s,W2 c.jn (Q3 x)⟩,0) else(none,21)
theorem Qcj{c:Ctl}{x:Cmd}{k:Int}(h:JA c.state x=(none,k)):WE c x=(none,k):=by unfold WE;rw[h]
theorem Xb{c:Ctl}{x:Cmd}{s:Qd}{k:Int}(h:JA c.state x=(some s,k))(ha:addC c.jn (Q3 x)≠0):WE c x=(none,21):=by unfold WE;rw[h];exact if_neg ha
theorem QaI{c:Ctl}{x:Cmd}{s:Qd}{k:Int}(h:JA c.state x=(some s,k))(ha:addC c.jn (Q3 x)=0):WE c x=(some ⟨c.first,s,W2 c.jn (Q3 x)⟩,0):=by unfold WE;rw[h];exact if_pos ha
def QsL(c:Ctl):Ctl:=⟨c.first,c.state,QtT c.jn⟩
noncomputable def QvA (c:Ctl) (x:Cmd):Option Ctl×Int:=if Vc c=true then((WE c x).1.map QsL,(WE c x).2) else(none,20)
noncomputable def Qei (c:Ctl) (x:Cmd) (keep:Int):Option (List UInt8)×Int:=if Vc c=true then((WE c x).1.map fun d=>d.jn.bytes.take (QbR d.jn keep),(WE c x).2) else(none,20)
theorem QkB{c:Ctl}(h:Vc c=true):jnOk c.jn=true:=by
 unfold Vc at h
 rw[Xaf,Xaf]at h
 exact h.2.1
theorem Qu3{c:Ctl}{x:Cmd}(hs:JI 1048576 c)(hj:jnOk c.jn=true):zAc 73 [ctlA c,cmdA x] (coR (WE c x).1 (WE c x).2) (coB (WE c x).1):=by
 refine zAC func73 fun w0 Z=>?_
 have hf:Ql 100000000 c.first:=hs.first.mono (by omega)
 have hx:=QcY x
 have c1:=QdS (c:=x) hs.state
 have c3:=Y8 (c:=x)
 rcases Yp (s:=c.state) (c:=x)with ⟨s,h2⟩|⟨k,h2,hk⟩
 ·rw[h2]at c1
  dsimp only[SO,stR,stB]at c1
  by_cases ha:addC c.jn (Q3 x)=0
  ·rw[QaI h2 ha]
   have c4:=Qsf ha
   have c5:=Jr hf
   repeat'(first|(refine zhm fun hb=>?_;try exact zab)|refine Qe ?_|(apply zch;exact zcg)|exact zhk|refine zg3 ?_ ?_|intro _|fail)
   refine zr [34,1034,2034,3034,4034,5034,14,1014,2014,3014,4014,5014,26] ?_ ?_
   repeat'(first|exact ze3|refine ze2 ?_ ?_|refine ze4 ?_|exact ze5|fail)
   all_goals exact zp rfl
  ·rw[Xb h2 ha]
   have c4:=QpL hj (Xao hx (by omega)) ha
   have hz:((addC c.jn (Q3 x):Nat):Int)≠0:=by omega
   repeat'(first|(refine zhm fun hb=>?_;try exact zab)|refine Qe ?_|(apply zch;exact zcg)|exact zhk|refine zg3 ?_ ?_|intro _|fail)
   refine zr [] ?_ ?_
   repeat'(first|exact ze3|refine ze2 ?_ ?_|refine ze4 ?_|exact ze5|fail)
   all_goals exact zp rfl
 ·rw[h2]at c1
  dsimp only[SO,stR,stB]at c1
  rw[Qcj h2]
  repeat'(first|(refine zhm fun hb=>?_;try exact zab)|refine Qe ?_|(apply zch;exact zcg)|exact zhk|refine zg3 ?_ ?_|intro _|fail)
  refine zr [] ?_ ?_
  repeat'(first|exact ze3|refine ze2 ?_ ?_|refine ze4 ?_|exact ze5|fail)
  all_goals exact zp rfl
noncomputable def tryO (c:Ctl) (x:Cmd):Option Ctl×Int:=if Vc c=true then WE c x else(none,20)
theorem QpW{c:Ctl}{x:Cmd}(hs:JI 1048576 c):DC Tryz.prog 69 [ctlA c,cmdA x] [Qx ((tryO c x).1.getD zC).state,jnA ((tryO c x).1.getD zC).jn,zI (tryO c x).2]:=by
 refine zMC func69 fun w0 Z O=>?_
 have hx:=QcY x
 have c0:=Qi1 hs
 have hb:=hs.jn
 unfold tryO
 cases ho:Vc c with
 | false=>
  rw[ho]at c0
  rw[if_neg (by decide)]
  repeat'(first|(refine zhm fun hb=>?_;try exact zab)|refine Q7 ?_|(apply zch;exact zcg)|exact zhk|refine zg3 ?_ ?_|intro _|fail)
  exact zDR
 | true=>
  rw[ho]at c0
  rw[if_pos rfl]
  have hj:=QkB ho
  have c1:=QmO (c:=x) hs.state
  have c3:=ZJ (c:=x)
  rcases Yp (s:=c.state) (c:=x)with ⟨s,h2⟩|⟨k,h2,hk⟩
  ·rw[h2]at c1
   dsimp only[SS,Option.getD]at c1
   by_cases ha:addC c.jn (Q3 x)=0
   ·rw[QaI h2 ha]
    have c4:=dc_a (QgX ha)
    repeat'(first|(refine zhm fun hb=>?_;try exact zab)|refine Q7 ?_|(apply zch;exact zcg)|exact zhk|refine zg3 ?_ ?_|refine kmu c1 ?_|(refine km [] (c4) rfl rfl (fun i hi=>?_);try dsimp only at hi)|intro _|fail)
    exact zDR
   ·rw[Xb h2 ha]
    have c4:=Qfg (j:=c.jn) (by omega) (Xao hx (by omega)) ha
    have hz:((addC c.jn (Q3 x):Nat):Int)≠0:=by omega
    repeat'(first|(refine zhm fun hb=>?_;try exact zab)|refine Q7 ?_|(apply zch;exact zcg)|exact zhk|refine zg3 ?_ ?_|refine kmu c1 ?_|intro _|fail)
    exact zDR
  ·rw[h2]at c1
   dsimp only[SS,Option.getD]at c1
   rw[Qcj h2]
   repeat'(first|(refine zhm fun hb=>?_;try exact zab)|refine Q7 ?_|(apply zch;exact zcg)|exact zhk|refine zg3 ?_ ?_|refine kmu c1 ?_|intro _|fail)
   exact zDR
@[reducible] def QvE (c:Ctl):List (Nat×AO):=[(500000,.row 3 (intE c.first.topo.parents) true),(500001,.row 225 (Qz c.first.topo.nodes) true),(500002,.row 4 (Qq c.first.up) true),(500003,.row 72 (jobE c.first.queue) true),(500004,.row 170 (runE c.first.runs) true),(500005,.row 172 (endE c.first.ends) true),(500006,.row 3 (intE c.state.topo.parents) true),(500007,.row 225 (Qz c.state.topo.nodes) true),(500008,.row 4 (Qq c.state.up) true),(500009,.row 72 (jobE c.state.queue) true),(500010,.row 170 (runE c.state.runs) true),(500011,.row 172 (endE c.state.ends) true),(500012,.row 5 (QG c.jn.bytes) true)]
theorem QvJ{c:Ctl}(_:c.jn.bytes.length<=1000000000):NCalls Tryz.prog 104 [.agg (stC c.first 500000 500001 500002 500003 500004 500005++(stC c.state 500006 500007 500008 500009 500010 500011++[.row 500012,zI c.jn.synced,zI c.jn.count]))] (QvE c) (fun _:Unit=>True) (fun _=>[Qtd (QsL c)]) (fun _=>Qvc (QsL c)):=by
 refine Ve tt func104 rfl rfl rfl (fun _ _=>rfl) (fun w0 Z O=>?_)
 have hb:=Qj c.jn.bytes
 repeat'(first|(refine zhm fun hb=>?_;try exact zab)|refine Qe ?_|(apply zch;exact zcg)|exact zhk|refine zg3 ?_ ?_|intro _|fail)
 refine zn () [500000,500001,500002,500003,500004,500005,500006,500007,500008,500009,500010,500011,500012] (by exact trivial) ?_ ?_
 repeat'(first|exact ze3|refine ze2 ?_ ?_|refine ze4 ?_|exact ze5|fail)
 all_goals exact zp (by first|rfl|exact Qj _)
theorem QvI:zAc 104 [ctlA zC] [ctlA zC] []:=by
 refine zAC func104 fun w0 Z=>?_
 repeat'(first|(refine zhm fun hb=>?_;try exact zab)|refine Qe ?_|(apply zch;exact zcg)|exact zhk|refine zg3 ?_ ?_|intro _|fail)
 refine zr [] ?_ ?_
 repeat'(first|exact ze3|refine ze2 ?_ ?_|refine ze4 ?_|exact ze5|fail)
 all_goals exact zp rfl
theorem Qbm{c d:Ctl}{x:Cmd}(h:(WE c x).1=some d):∃s,JA c.state x=(some s,0)/\addC c.jn (Q3 x)=0/\d=⟨c.first,s,W2 c.jn (Q3 x)⟩/\(WE c x).2=0:=by
 rcases Yp (s:=c.state) (c:=x)with ⟨s,h2⟩|⟨k,h2,hk⟩
 ·by_cases ha:addC c.jn (Q3 x)=0
  ·rw[QaI h2 ha]at h ⊢
   injection h with h
   exact⟨s,h2,ha,h.symm,rfl⟩
  ·rw[Xb h2 ha]at h
   cases h
 ·rw[Qcj h2]at h
  cases h
theorem QeV{c:Ctl}{x:Cmd}(h:(WE c x).1=none):(WE c x).2≠0:=by
 rcases Yp (s:=c.state) (c:=x)with ⟨s,h2⟩|⟨k,h2,hk⟩
 ·by_cases ha:addC c.jn (Q3 x)=0
  ·rw[QaI h2 ha]at h
   cases h
  ·rw[Xb h2 ha]
   decide
 ·rw[Qcj h2]
  exact hk
theorem Qrh{j:QV}{s:List UInt8}(h:addC j s=0):(W2 j s).bytes.length<=40000:=by
 have:=(QeH h).2
 exact(Qfp.1 this).1
theorem XX{c d:Ctl}{x:Cmd}(hs:JI 1048576 c)(h:(WE c x).1=some d):JI 1048576 d/\d.jn.bytes.length<=40000/\jnOk d.jn=true:=by
 obtain⟨s,h1,h2,rfl,_⟩:=Qbm h
 have hl:=Qrh h2
 exact⟨⟨hs.first,Y3 hs.state s (by rw[h1]),by dsimp only;omega⟩,hl,(QeH h2).2⟩

@[reducible] def tkR (o:Option Ctl) (k:Int):List AV:=match o with
 | none=>[ctlA zC,zI k]
 | some c=>[Qtd c,zI k]
theorem QvL{c:Ctl}{x:Cmd}(hs:JI 1048576 c):zAc 37 [ctlA c,cmdA x] (tkR (QvA c x).1 (QvA c x).2) (coB (QvA c x).1):=by
 refine zAC func37 fun w0 Z=>?_
 have c0:=QiO hs
 unfold QvA
 cases ho:Vc c with
 | false=>
  rw[ho]at c0
  rw[if_neg (by decide)]
  repeat'(first|(refine zhm fun hb=>?_;try exact zab)|refine Q7 ?_|(apply zch;exact zcg)|exact zhk|refine zg3 ?_ ?_|intro _|fail)
  show AWp _ _ _ _
  refine QD ?_
  apply Qt
  exact zrr
 | true=>
  rw[ho]at c0
  rw[if_pos rfl]
  have hsm:=XX (d:=(WE c x).1.getD zC) (x:=x) hs
  have c1:=Qu3 (x:=x) hs (QkB ho)
  generalize WE c x=F at c1 hsm ⊢
  obtain⟨_|d,k⟩:=F
  ·dsimp only[coR,coB,tkR,Option.map]at c1 ⊢
   repeat'(first|(refine zhm fun hb=>?_;try exact zab)|refine Qe ?_|(apply zch;exact zcg)|exact zhk|refine zg3 ?_ ?_|refine zqd QvI ?_|intro _|fail)
   refine zr [] ?_ ?_
   repeat'(first|exact ze3|refine ze2 ?_ ?_|refine ze4 ?_|exact ze5|fail)
   all_goals exact zp rfl
  ·dsimp only[coR,coB,tkR,Option.map,Option.getD]at c1 hsm ⊢
   have c2:=QvJ (c:=d) (by have:=(hsm rfl).2.1;omega)
   repeat'(first|(refine zhm fun hb=>?_;try exact zab)|refine Qe ?_|(apply zch;exact zcg)|exact zhk|refine zg3 ?_ ?_|(refine kn [15,1015,2015,3015,4015,5015,6015,7015,8015,9015,10015,11015,12015] (c2) rfl rfl (fun i hi=>?_);try dsimp only at hi)|intro _|fail)
   refine zr [19,1019,2019,3019,4019,5019,6019,7019,8019,9019,10019,11019,12019] ?_ ?_
   repeat'(first|exact ze3|refine ze2 ?_ ?_|refine ze4 ?_|exact ze5|fail)
   all_goals exact zp rfl
theorem QvK{c:Ctl}{x:Cmd}(hs:JI 1048576 c):DC Tryz.prog 36 [ctlA c,cmdA x] [ctlA ((QvA c x).1.getD zC),zI (QvA c x).2]:=by
 refine zMC func36 fun w0 Z O=>?_
 have hf:Ql 100000000 c.first:=hs.first.mono (by omega)
 have c1:=QpW (x:=x) hs
 have c2:=QgN hf
 unfold QvA
 unfold tryO at c1
 cases ho:Vc c with
 | false=>
  rw[ho,if_neg (by decide)]at c1
  rw[if_neg (by decide)]
  dsimp only[Option.getD,Option.map]at c1 ⊢
  repeat'(first|(refine zhm fun hb=>?_;try exact zab)|refine Q7 ?_|(apply zch;exact zcg)|exact zhk|refine zg3 ?_ ?_|refine kmu c1 ?_|intro _|fail)
  exact zDR
 | true=>
  rw[ho,if_pos rfl]at c1
  rw[if_pos rfl]
  cases ht:(WE c x).1 with
  | none=>
   have hk:=QeV ht
   rw[ht]at c1
   generalize (WE c x).2=k at c1 hk ⊢
   dsimp only[Option.getD,Option.map]at c1 ⊢
   repeat'(first|(refine zhm fun hb=>?_;try exact zab)|refine Q7 ?_|(apply zch;exact zcg)|exact zhk|refine zg3 ?_ ?_|refine kmu c1 ?_|intro _|fail)
   exact zDR
  | some d=>
   obtain⟨s,h1,h2,rfl,h3⟩:=Qbm ht
   obtain⟨k1,k2,k3⟩:=XX hs ht
   rw[ht,h3]at c1
   rw[h3]
   dsimp only[Option.getD,Option.map,QsL]at c1 k2 k3 ⊢
   generalize W2 c.jn (Q3 x)=j at c1 k2 k3 ⊢
   have c3:=dc_a (QvG (j:=j) (by omega) k3)
   repeat'(first|(refine zhm fun hb=>?_;try exact zab)|refine Q7 ?_|(apply zch;exact zcg)|exact zhk|refine zg3 ?_ ?_|refine kmu c1 ?_|refine kmu c2 ?_|refine kmu c3 ?_|intro _|fail)
   exact zDR
@[reducible] def byR (o:Option (List UInt8)) (k:Int):List AV:=match o with
 | none=>[.nil,zI k]
 | some _=>[.row 0,zI k]
@[reducible] def byB (o:Option (List UInt8)):List (Nat×AO):=match o with
 | none=>[]
 | some b=>[(0,.row 5 (QG b) true)]
theorem QuL{c:Ctl}{x:Cmd}{keep:Int}(hs:JI 1048576 c):DC Tryz.prog 21 [ctlA c,cmdA x,zI keep] [zL (QG ((Qei c x keep).1.getD [])),zI (Qei c x keep).2]:=by
 refine zMC func21 fun w0 Z O=>?_
 have c1:=QpW (x:=x) hs
 unfold Qei
 unfold tryO at c1
 cases ho:Vc c with
 | false=>
  rw[ho,if_neg (by decide)]at c1
  rw[if_neg (by decide)]
  dsimp only[Option.getD,Option.map]at c1 ⊢
  repeat'(first|(refine zhm fun hb=>?_;try exact zab)|refine Q7 ?_|(apply zch;exact zcg)|exact zhk|refine zg3 ?_ ?_|refine kmu c1 ?_|intro _|fail)
  exact zDR
 | true=>
  rw[ho,if_pos rfl]at c1
  rw[if_pos rfl]
  cases ht:(WE c x).1 with
  | none=>
   have hk:=QeV ht
   rw[ht]at c1
   generalize (WE c x).2=k at c1 hk ⊢
   dsimp only[Option.getD,Option.map]at c1 ⊢
   repeat'(first|(refine zhm fun hb=>?_;try exact zab)|refine Q7 ?_|(apply zch;exact zcg)|exact zhk|refine zg3 ?_ ?_|refine kmu c1 ?_|intro _|fail)
   exact zDR
  | some d=>
   obtain⟨s,h1,h2,rfl,h3⟩:=Qbm ht
   obtain⟨k1,k2,k3⟩:=XX hs ht
   rw[ht,h3]at c1
   rw[h3]
   dsimp only[Option.getD,Option.map]at c1 k2 k3 ⊢
   generalize W2 c.jn (Q3 x)=j at c1 k2 k3 ⊢
   have c3:=dc_a (Qeo (j:=j) (keep:=keep) k3)
   repeat'(first|(refine zhm fun hb=>?_;try exact zab)|refine Q7 ?_|(apply zch;exact zcg)|exact zhk|refine zg3 ?_ ?_|refine kmu c1 ?_|refine kmu c3 ?_|intro _|fail)
   exact zDR

theorem QvF(n:Nat):JI n zC:=⟨QjN n,QjN n,Xab _⟩
theorem QvH{c:Ctl}{x:Cmd}(hs:JI 1048576 c):∀d,(QvA c x).1=some d->JI 1048576 d:=fun d h=>by
 unfold QvA at h
 split at h
 ·cases ht:(WE c x).1 with
  | none=>rw[ht]at h;cases h
  | some e=>
   rw[ht]at h
   injection h with h
   subst h
   have hk:=(XX hs ht).1
   exact⟨hk.first,hk.state,hk.jn⟩
 ·cases h
theorem lawTake_0{c:Ctl}{x:Cmd}{k:Int}(h:JI 9223372036854775807 c)(hS:JI 1048576 c)(c1:DC Tryz.prog 36 [ctlA c,cmdA x] [ctlA zC,zI k])(c2:zAc 37 [ctlA c,cmdA x] [ctlA zC,zI k] []):zAc 7 [ctlA c,cmdA x] [.d (.b true)] []:=by
 refine Qmu tt func7 rfl rfl rfl (fun w0 Z=>?_)
 repeat'(first|refine zst ?_|(refine zhm fun hb=>?_;try exact zab)|(apply QB 5;kernel_rfl;exact rfl)|(apply QB 7;kernel_rfl;exact rfl)|(apply QB 10;kernel_rfl;exact rfl)|(apply QB 24;kernel_rfl;exact rfl)|refine zdr ?_|(apply zch;exact zcg)|refine Qmj.mk fun w0 Z O=>?_|exact zhk|refine zg3 ?_ ?_|(apply YE;first|(refine km (t:=23) [] (Qa8 hS) rfl rfl (fun i hi=>?_)))|refine zln fun _=>?_|refine zop ?_|refine kc (Qf8 hS) rfl rfl ?_|refine kc (Qod) rfl rfl ?_|refine kc (c2) rfl rfl ?_|refine kc (WQ (c:=zC) (QvF _)) rfl rfl ?_|refine kc (WQ (c:=c) (hS.mono (by omega))) rfl rfl ?_|refine kc (QgF (k:=1)) rfl rfl ?_|refine kc (QaN (c:=zC) (k:=1) (QvF _) (by omega)) rfl rfl ?_|(refine km [] (Qbr (x:=1048576) h (by omega)) rfl rfl (fun i hi=>?_);(try dsimp only at hi))|(refine km [] (Qa8 hS) rfl rfl (fun i hi=>?_);(try dsimp only at hi))|(refine km [] (c1) rfl rfl (fun i hi=>?_);(try dsimp only at hi))|(refine km [30,1030,2030,3030,4030,5030,6030,7030,8030,9030,10030,11030,12030] (Qc3 (k:=1) hS (by omega)) rfl rfl (fun i hi=>?_);(try dsimp only at hi))|refine kq (Qf8 hS) rfl rfl ?_|refine kq (Qod) rfl rfl ?_|refine kq (c2) rfl rfl ?_|refine kq (WQ (c:=zC) (QvF _)) rfl rfl ?_|refine kq (WQ (c:=c) (hS.mono (by omega))) rfl rfl ?_|refine kq (QgF (k:=1)) rfl rfl ?_|refine kq (QaN (c:=zC) (k:=1) (QvF _) (by omega)) rfl rfl ?_|fail)
 all_goals
  refine zr [] ?_ ?_
  repeat'(first|apply And.intro|exact zes|refine zet ?_|exact ze0|refine ze1 ?_|refine zei ?_ ?_|exact rfl|trivial)
  all_goals exact zp rfl
theorem lawTake_1{c d:Ctl}{x:Cmd}{k:Int}(h:JI 9223372036854775807 c)(hS:JI 1048576 c)(hO:JI 1048576 d)(c1:DC Tryz.prog 36 [ctlA c,cmdA x] [ctlA d,zI k])(c2:zAc 37 [ctlA c,cmdA x] [Qtd d,zI k] (Qvc d)):zAc 7 [ctlA c,cmdA x] [.d (.b true)] []:=by
 refine Qmu tt func7 rfl rfl rfl (fun w0 Z=>?_)
 have c3:DC Tryz.prog 37 [ctlA c,cmdA x] [ctlA d,zI k]:=dc_a c2
 repeat'(first|refine zst ?_|(refine zhm fun hb=>?_;try exact zab)|(apply QB 5;kernel_rfl;exact rfl)|(apply QB 7;kernel_rfl;exact rfl)|(apply QB 10;kernel_rfl;exact rfl)|(apply QB 24;kernel_rfl;exact rfl)|refine zdr ?_|(apply zch;exact zcg)|refine Qmj.mk fun w0 Z O=>?_|exact zhk|refine zg3 ?_ ?_|(apply YE;first|(refine kc (t:=30) (Qf8 hS) rfl rfl ?_)|(refine kc (t:=35) c2 rfl rfl ?_))|refine zln fun _=>?_|refine zop ?_|refine kc (Qod) rfl rfl ?_|refine kc (WQ (c:=d) (hO.mono (by omega))) rfl rfl ?_|refine kc (WQ (c:=c) (hS.mono (by omega))) rfl rfl ?_|refine kc (QaN (c:=d) (k:=1) hO (by omega)) rfl rfl ?_|(refine km [] (Qbr (x:=1048576) h (by omega)) rfl rfl (fun i hi=>?_);(try dsimp only at hi))|(refine km [] (Qa8 hS) rfl rfl (fun i hi=>?_);(try dsimp only at hi))|(refine km [] (c1) rfl rfl (fun i hi=>?_);(try dsimp only at hi))|(refine km [] (c3) rfl rfl (fun i hi=>?_);(try dsimp only at hi))|(refine km [30,1030,2030,3030,4030,5030,6030,7030,8030,9030,10030,11030,12030] (Qc3 (k:=1) hS (by omega)) rfl rfl (fun i hi=>?_);(try dsimp only at hi))|(refine km [35,1035,2035,3035,4035,5035,6035,7035,8035,9035,10035,11035,12035] (Qc3 (k:=1) hO (by omega)) rfl rfl (fun i hi=>?_);(try dsimp only at hi))|refine kq (Qod) rfl rfl ?_|refine kq (WQ (c:=d) (hO.mono (by omega))) rfl rfl ?_|refine kq (WQ (c:=c) (hS.mono (by omega))) rfl rfl ?_|refine kq (QaN (c:=d) (k:=1) hO (by omega)) rfl rfl ?_|fail)
 all_goals
  refine zr [] ?_ ?_
  repeat'(first|apply And.intro|exact zes|refine zet ?_|exact ze0|refine ze1 ?_|refine zei ?_ ?_|exact rfl|trivial)
  all_goals exact zp rfl
theorem lawTake_n{c:Ctl}{x:Cmd}(h:JI 9223372036854775807 c)(hS:¬JI 1048576 c):zAc 7 [ctlA c,cmdA x] [.d (.b true)] []:=by
 refine Qmu tt func7 rfl rfl rfl (fun w0 Z=>?_)
 repeat'(first|refine zst ?_|(refine zhm fun hb=>?_;try exact zab)|refine zdr ?_|(apply zch;exact zcg)|refine Qmj.mk fun w0 Z O=>?_|exact zhk|refine zg3 ?_ ?_|refine zln fun _=>?_|refine zop ?_|(refine km [] (Qbr (x:=1048576) h (by omega)) rfl rfl (fun i hi=>?_);(try dsimp only at hi))|fail)
 all_goals first|(exfalso;exact hS (hi.2 (by omega)))|skip
 refine zr [] ?_ ?_
 repeat'(first|apply And.intro|exact zes|refine zet ?_|exact ze0|refine ze1 ?_|refine zei ?_ ?_|exact rfl|trivial)
 all_goals exact zp rfl
theorem lawTake_e{c:Ctl}{x:Cmd}(h:JI 9223372036854775807 c):zAc 7 [ctlA c,cmdA x] [.d (.b true)] []:=by
 by_cases hS:JI 1048576 c
 ·have c1:=QvK (x:=x) hS
  have c2:=QvL (x:=x) hS
  have hO:=QvH (x:=x) hS
  generalize QvA c x=o at c1 c2 hO
  obtain⟨_|d,k⟩:=o
  ·exact lawTake_0 h hS c1 c2
  ·exact lawTake_1 h hS (hO d rfl) c1 c2
 ·exact lawTake_n h hS
end
end Go.Proofs.YtihgfennoalocaaGreat
