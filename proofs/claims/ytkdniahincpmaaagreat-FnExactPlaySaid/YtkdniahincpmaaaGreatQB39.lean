/-
  A step done in a valid world, of the program: copies, done.
-/
import Derived.Test.YtkdniahincpmaaaGreatQB38
set_option maxRecDepth 100000
set_option maxHeartbeats 16000000
namespace Go.Proofs.YtkdniahincpmaaaGreat
open Go Go.RowKit Tryz
section
attribute [local irreducible] AWp QM OpOk ACalls ChA QsOk MCalls NCalls EnC PY

structure Yo (w:Wld):Prop where
 v:XN w
 codes:w.codes.length<=100000000
@[reducible] def Qnh (w:Wld):AV:=.agg (.d (.b w.up)::(stC w.first 0 1 2 3 4 5++((stC w.ctl.first 6 7 8 9 10 11++(stC w.ctl.state 12 13 14 15 16 17++[.row 18,zI w.ctl.jn.synced,zI w.ctl.jn.count]))++[.row 19,.row 20])))
@[reducible] def QnV (w:Wld):List (Nat×AO):=[(0,.row 3 (intE w.first.topo.parents) true),(1,.row 62 (Qr w.first.topo.nodes) true),(2,.row 4 (Qk w.first.up) true),(3,.row 40 (jobE w.first.queue) true),(4,.row 66 (runE w.first.runs) true),(5,.row 123 (endE w.first.ends) true),(6,.row 3 (intE w.ctl.first.topo.parents) true),(7,.row 62 (Qr w.ctl.first.topo.nodes) true),(8,.row 4 (Qk w.ctl.first.up) true),(9,.row 40 (jobE w.ctl.first.queue) true),(10,.row 66 (runE w.ctl.first.runs) true),(11,.row 123 (endE w.ctl.first.ends) true),(12,.row 3 (intE w.ctl.state.topo.parents) true),(13,.row 62 (Qr w.ctl.state.topo.nodes) true),(14,.row 4 (Qk w.ctl.state.up) true),(15,.row 40 (jobE w.ctl.state.queue) true),(16,.row 66 (runE w.ctl.state.runs) true),(17,.row 123 (endE w.ctl.state.ends) true),(18,.row 5 (QC w.ctl.jn.bytes) true),(19,.row 5 (QC w.bytes) true),(20,.row 3 (intE w.codes) true)]
@[reducible] def QxH (w:Wld):AV:=.agg (.d (.b w.up)::(stC w.first 0 1 2 3 4 5++(ctl00++[.row 6,.row 7])))
@[reducible] def Qxb (w:Wld):List (Nat×AO):=[(0,.row 3 (intE w.first.topo.parents) true),(1,.row 62 (Qr w.first.topo.nodes) true),(2,.row 4 (Qk w.first.up) true),(3,.row 40 (jobE w.first.queue) true),(4,.row 66 (runE w.first.runs) true),(5,.row 123 (endE w.first.ends) true),(6,.row 5 (QC w.bytes) true),(7,.row 3 (intE w.codes) true)]
@[reducible] def QxJ (w:Wld):AV:=.agg (.d (.b w.up)::(stC w.first 0 1 2 3 4 5++((stC w.ctl.first 6 7 8 9 10 11++(stC w.ctl.state 12 13 14 15 16 17++[.row 18,zI w.ctl.jn.synced,zI w.ctl.jn.count]))++[.nil,.row 19])))
@[reducible] def Qx0 (w:Wld):List (Nat×AO):=[(0,.row 3 (intE w.first.topo.parents) true),(1,.row 62 (Qr w.first.topo.nodes) true),(2,.row 4 (Qk w.first.up) true),(3,.row 40 (jobE w.first.queue) true),(4,.row 66 (runE w.first.runs) true),(5,.row 123 (endE w.first.ends) true),(6,.row 3 (intE w.ctl.first.topo.parents) true),(7,.row 62 (Qr w.ctl.first.topo.nodes) true),(8,.row 4 (Qk w.ctl.first.up) true),(9,.row 40 (jobE w.ctl.first.queue) true),(10,.row 66 (runE w.ctl.first.runs) true),(11,.row 123 (endE w.ctl.first.ends) true),(12,.row 3 (intE w.ctl.state.topo.parents) true),(13,.row 62 (Qr w.ctl.state.topo.nodes) true),(14,.row 4 (Qk w.ctl.state.up) true),(15,.row 40 (jobE w.ctl.state.queue) true),(16,.row 66 (runE w.ctl.state.runs) true),(17,.row 123 (endE w.ctl.state.ends) true),(18,.row 5 (QC w.ctl.jn.bytes) true),(19,.row 3 (intE w.codes) true)]
@[reducible] def Qwp:AV:=.agg (.d (.b false)::(ctl0++(ctl00++[.nil,.nil])))
def zW:Wld:=⟨false,zS,zC,[],[]⟩
@[reducible] def Qnx (n:Nat) (w:Wld):List AV:=match n with
 | 0=>[Qnh w]
 | 1=>[QxH w]
 | 2=>[QxJ w]
 | _=>[Qwp]
@[reducible] def Qn0 (n:Nat) (w:Wld):List (Nat×AO):=match n with
 | 0=>QnV w
 | 1=>Qxb w
 | 2=>Qx0 w
 | _=>[]
theorem J1.big{c:Ctl}(h:J1 1048576 c):J1 100000000 c:=h.mono (by omega)
theorem QhO{c:Ctl}(h:J1 100000000 c):zAc 122 [ctlA c] [Qqq c] (Qsu c):=by
 refine zAC func122 fun w0 Z=>?_
 have hj:=h.jn
 repeat'(first|(refine zhm fun hb=>?_;try exact zab)|refine Qd ?_|(apply zch;exact zcg)|exact zhk|refine zg3 ?_ ?_|refine kc (Q4 (s:=c.first) h.first) rfl rfl ?_|refine kc (Q4 (s:=c.state) h.state) rfl rfl ?_|refine kc (Qbk (j:=c.jn) (by omega)) rfl rfl ?_|refine kq (Q4 (s:=c.first) h.first) rfl rfl ?_|refine kq (Q4 (s:=c.state) h.state) rfl rfl ?_|refine kq (Qbk (j:=c.jn) (by omega)) rfl rfl ?_|intro _)
 refine zr [5,1005,2005,3005,4005,5005,8,1008,2008,3008,4008,5008,11] ?_ ?_
 repeat'(first|exact ze3|refine ze2 ?_ ?_|refine ze4 ?_|exact ze5|fail)
 all_goals exact zp rfl
theorem QaC{w:Wld}(h:Yo w):zAc 52 [wldA w] [Qnh w] (QnV w):=by
 refine zAC func52 fun w0 Z=>?_
 have hb:=h.v.bytes
 have hc:=h.codes
 repeat'(first|(refine zhm fun hb=>?_;try exact zab)|refine Qd ?_|(apply zch;exact zcg)|exact zhk|refine zg3 ?_ ?_|refine kc (Q4 (s:=w.first) (h.v.first.mono (by omega))) rfl rfl ?_|refine kc (QhO (c:=w.ctl) h.v.ctl.big) rfl rfl ?_|refine kc (Wy (b:=w.bytes) rfl (by omega)) rfl rfl ?_|refine kc (WM (l:=w.codes) (by omega)) rfl rfl ?_|refine kq (Q4 (s:=w.first) (h.v.first.mono (by omega))) rfl rfl ?_|refine kq (QhO (c:=w.ctl) h.v.ctl.big) rfl rfl ?_|refine kq (Wy (b:=w.bytes) rfl (by omega)) rfl rfl ?_|refine kq (WM (l:=w.codes) (by omega)) rfl rfl ?_|intro _)
 refine zr [7,1007,2007,3007,4007,5007,10,1010,2010,3010,4010,5010,6010,7010,8010,9010,10010,11010,12010,13,16] ?_ ?_
 repeat'(first|exact ze3|refine ze2 ?_ ?_|refine ze4 ?_|exact ze5|fail)
 all_goals exact zp rfl
noncomputable def J3 (w:Wld) (x:Vf):Wld:=
 if w.up=true then
  if x.kind=1 then⟨true,w.first,((JM w.ctl x.cmd).1.map XC).getD w.ctl,w.bytes,w.codes++[(JM w.ctl x.cmd).2]⟩
  else if x.kind=2 then match (JM w.ctl x.cmd).1 with
   | some d=>⟨false,w.first,zC,d.jn.bytes.take (W9 d.jn x.keep),w.codes++[(JM w.ctl x.cmd).2]⟩
   | none=>⟨true,w.first,w.ctl,w.bytes,w.codes++[(JM w.ctl x.cmd).2]⟩
  else if x.kind=3 then⟨false,w.first,zC,w.ctl.jn.bytes,w.codes⟩
  else w
 else if x.kind=4 then⟨true,w.first,(Y6 w.first w.bytes).1.getD zC,[],w.codes⟩else w
noncomputable def Wp (w:Wld) (x:Vf):Nat:=
 if w.up=true then
  if x.kind=1 then 0
  else if x.kind=2 then(if(JM w.ctl x.cmd).1.isSome=true then 1 else 0)
  else if x.kind=3 then 1
  else 0
 else if x.kind=4 then 2 else 0
theorem Qg8{w:Wld}(h:QK w=true)(hu:w.up=true):Y8 w.ctl=true:=by
 unfold QK at h
 rw[hu,Xac,Xac]at h
 exact h.2.1
theorem Qcl{w:Wld}(h:QK w=true)(hu:w.up=false):∃c,Y6 w.first w.bytes=(some c,0):=by
 unfold QK at h
 rw[hu,Xac,Xac,decide_eq_true_eq]at h
 have a:=h.2.2
 unfold Y6 at a ⊢
 split
 ·rename_i b
  rw[if_pos b]at a
  split
  ·rename_i d
   rw[d]at a
   exact absurd a (by intro h;cases h)
  ·exact⟨_,rfl⟩
 ·rename_i b
  rw[if_neg b]at a
  exact absurd a (by intro h;cases h)
theorem Que{w:Wld}{x:Vf}(hs:Yo w)(hw:QK w=true):zAc 53 [wldA w,QkO x] (Qnx (Wp w x) (J3 w x)) (Qn0 (Wp w x) (J3 w x)):=by
 refine zAC func53 fun w0 Z=>?_
 have c0:=QaC hs
 have hb:=hs.v.bytes
 have o:=hs.codes
 have n:=Qc w.codes
 obtain⟨e,a,keep⟩:=x
 obtain⟨up,first,ctl,bytes,codes⟩:=w
 dsimp only at hb o n
 dsimp only[Qnh,QnV]at c0
 cases up with
 | true=>
  have l:=Qg8 hw rfl
  have hj:=Qms l
  have g:=Qxv (x:=a) hs.v.ctl hj
  dsimp only at l hj g
  by_cases q:e=1
  ·subst q
   rw[show Wp ⟨true,first,ctl,bytes,codes⟩ ⟨1,a,keep⟩=0 from rfl,show J3 ⟨true,first,ctl,bytes,codes⟩ ⟨1,a,keep⟩=⟨true,first,((JM ctl a).1.map XC).getD ctl,bytes,codes++[(JM ctl a).2]⟩ from rfl]
   cases f:(JM ctl a).1 with
   | none=>
    have p:=Vr f
    rw[f]at g
    generalize (JM ctl a).2=k at g p ⊢
    dsimp only[coR,coB,Option.map,Option.getD]at g ⊢
    repeat'(first|(refine zhm fun hb=>?_;try exact zab)|refine Qd ?_|(apply zch;exact zcg)|exact zhk|refine zg3 ?_ ?_|intro _)
    all_goals first|(exfalso;omega)|skip
    refine zr [11,1011,2011,3011,4011,5011,6011,7011,8011,9011,10011,11011,12011,13011,14011,15011,16011,17011,18011,19011,20011] ?_ ?_
    repeat'(first|exact ze3|refine ze2 ?_ ?_|refine ze4 ?_|exact ze5|fail)
    all_goals exact zp (by first|rfl|simp[intE])
   | some d=>
    obtain⟨s,h1,h2,_,h⟩:=Wk f
    obtain⟨g1,g2,z⟩:=WE hs.v.ctl f
    rw[f,h]at g
    rw[h]
    have y:=Qtu (c:=d) (by omega)
    dsimp only[coR,coB,Option.map,Option.getD]at g ⊢
    repeat'(first|(refine zhm fun hb=>?_;try exact zab)|refine Qd ?_|(apply zch;exact zcg)|exact zhk|refine zg3 ?_ ?_|(refine kn [25,1025,2025,3025,4025,5025,6025,7025,8025,9025,10025,11025,12025] (y) rfl rfl (fun i hi=>?_);try dsimp only at hi)|intro _)
    refine zr [11,1011,2011,3011,4011,5011,31,1031,2031,3031,4031,5031,6031,7031,8031,9031,10031,11031,12031,19011,20011] ?_ ?_
    repeat'(first|exact ze3|refine ze2 ?_ ?_|refine ze4 ?_|exact ze5|fail)
    all_goals exact zp (by first|rfl|simp[intE])
  by_cases r:e=2
  ·subst r
   cases f:(JM ctl a).1 with
   | none=>
    have p:=Vr f
    rw[show Wp ⟨true,first,ctl,bytes,codes⟩ ⟨2,a,keep⟩=0 by unfold Wp;simp[f],show J3 ⟨true,first,ctl,bytes,codes⟩ ⟨2,a,keep⟩=⟨true,first,ctl,bytes,codes++[(JM ctl a).2]⟩ by unfold J3;simp[f]]
    rw[f]at g
    generalize (JM ctl a).2=k at g p ⊢
    dsimp only[coR,coB,Option.map,Option.getD]at g ⊢
    repeat'(first|(refine zhm fun hb=>?_;try exact zab)|refine Qd ?_|(apply zch;exact zcg)|exact zhk|refine zg3 ?_ ?_|intro _)
    all_goals first|(exfalso;omega)|skip
    refine zr [11,1011,2011,3011,4011,5011,6011,7011,8011,9011,10011,11011,12011,13011,14011,15011,16011,17011,18011,19011,20011] ?_ ?_
    repeat'(first|exact ze3|refine ze2 ?_ ?_|refine ze4 ?_|exact ze5|fail)
    all_goals exact zp (by first|rfl|simp[intE])
   | some d=>
    obtain⟨s,h1,h2,_,h⟩:=Wk f
    obtain⟨g1,g2,z⟩:=WE hs.v.ctl f
    rw[show Wp ⟨true,first,ctl,bytes,codes⟩ ⟨2,a,keep⟩=1 by unfold Wp;simp[f],show J3 ⟨true,first,ctl,bytes,codes⟩ ⟨2,a,keep⟩=⟨false,first,zC,d.jn.bytes.take (W9 d.jn keep),codes++[(JM ctl a).2]⟩ by unfold J3;simp[f]]
    rw[f,h]at g
    rw[h]
    have y:=Qfp (j:=d.jn) (keep:=keep) z
    dsimp only[coR,coB,Option.map,Option.getD]at g ⊢
    repeat'(first|(refine zhm fun hb=>?_;try exact zab)|refine Qd ?_|(apply zch;exact zcg)|exact zhk|refine zg3 ?_ ?_|intro _)
    refine zr [11,1011,2011,3011,4011,5011,64,20011] ?_ ?_
    repeat'(first|exact ze3|refine ze2 ?_ ?_|refine ze4 ?_|exact ze5|fail)
    all_goals exact zp (by first|rfl|simp[intE])
  by_cases t:e=3
  ·subst t
   rw[show Wp ⟨true,first,ctl,bytes,codes⟩ ⟨3,a,keep⟩=1 from rfl,show J3 ⟨true,first,ctl,bytes,codes⟩ ⟨3,a,keep⟩=⟨false,first,zC,ctl.jn.bytes,codes⟩ from rfl]
   repeat'(first|(refine zhm fun hb=>?_;try exact zab)|refine Qd ?_|(apply zch;exact zcg)|exact zhk|refine zg3 ?_ ?_|intro _)
   refine zr [11,1011,2011,3011,4011,5011,18011,20011] ?_ ?_
   repeat'(first|exact ze3|refine ze2 ?_ ?_|refine ze4 ?_|exact ze5|fail)
   all_goals exact zp rfl
  ·rw[show Wp ⟨true,first,ctl,bytes,codes⟩ ⟨e,a,keep⟩=0 by unfold Wp;simp[q,r,t],show J3 ⟨true,first,ctl,bytes,codes⟩ ⟨e,a,keep⟩=⟨true,first,ctl,bytes,codes⟩ by unfold J3;simp[q,r,t]]
   repeat'(first|(refine zhm fun hb=>?_;try exact zab)|refine Qd ?_|(apply zch;exact zcg)|exact zhk|refine zg3 ?_ ?_|intro _)
   all_goals first|(exfalso;omega)|(exfalso;simp_all;done)|skip
   all_goals
    refine zr [11,1011,2011,3011,4011,5011,6011,7011,8011,9011,10011,11011,12011,13011,14011,15011,16011,17011,18011,19011,20011] ?_ ?_
    repeat'(first|exact ze3|refine ze2 ?_ ?_|refine ze4 ?_|exact ze5|fail)
    all_goals exact zp rfl
 | false=>
  obtain⟨c,m⟩:=Qcl hw rfl
  dsimp only at m
  by_cases u:e=4
  ·subst u
   have g:=QoL (s:=first) (b:=bytes) hs.v.first hb
   rw[m]at g
   rw[show Wp ⟨false,first,ctl,bytes,codes⟩ ⟨4,a,keep⟩=2 from rfl,show J3 ⟨false,first,ctl,bytes,codes⟩ ⟨4,a,keep⟩=⟨true,first,(Y6 first bytes).1.getD zC,[],codes⟩ from rfl,m]
   dsimp only[coR,coB,Option.getD]at g ⊢
   repeat'(first|(refine zhm fun hb=>?_;try exact zab)|refine Qd ?_|(apply zch;exact zcg)|exact zhk|refine zg3 ?_ ?_|intro _)
   refine zr [11,1011,2011,3011,4011,5011,103,1103,2103,3103,4103,5103,6103,7103,8103,9103,10103,11103,12103,20011] ?_ ?_
   repeat'(first|exact ze3|refine ze2 ?_ ?_|refine ze4 ?_|exact ze5|fail)
   all_goals exact zp rfl
  ·rw[show Wp ⟨false,first,ctl,bytes,codes⟩ ⟨e,a,keep⟩=0 by unfold Wp;simp[u],show J3 ⟨false,first,ctl,bytes,codes⟩ ⟨e,a,keep⟩=⟨false,first,ctl,bytes,codes⟩ by unfold J3;simp[u]]
   repeat'(first|(refine zhm fun hb=>?_;try exact zab)|refine Qd ?_|(apply zch;exact zcg)|exact zhk|refine zg3 ?_ ?_|intro _)
   all_goals first|(exfalso;omega)|(exfalso;simp_all;done)|skip
   all_goals
    refine zr [11,1011,2011,3011,4011,5011,6011,7011,8011,9011,10011,11011,12011,13011,14011,15011,16011,17011,18011,19011,20011] ?_ ?_
    repeat'(first|exact ze3|refine ze2 ?_ ?_|refine ze4 ?_|exact ze5|fail)
    all_goals exact zp rfl

noncomputable def doO (w:Wld) (x:Vf):Wld:=if QK w=true then J3 w x else zW
noncomputable def doS (w:Wld) (x:Vf):Nat:=if QK w=true then Wp w x else 3
theorem Qda(w:Wld)(x:Vf):Wp w x=0\/Wp w x=1\/Wp w x=2:=by
 unfold Wp
 repeat' split
 all_goals simp
theorem QrL{w:Wld}(h:Yo w):DC Tryz.prog 59 [wldA w] [wldA w]:=by
 refine zMC func59 fun w0 Z O=>?_
 have hb:=h.v.bytes
 have hj:=h.v.ctl.jn
 have hc:=h.codes
 have e1:=Qu w.bytes
 have e2:=Qu w.ctl.jn.bytes
 have e3:=Qc w.codes
 have a:=Wv (s:=w.first) (h.v.first.mono (by omega))
 have b:=Wv (s:=w.ctl.first) (h.v.ctl.first.mono (by omega))
 have c:=Wv (s:=w.ctl.state) (h.v.ctl.state.mono (by omega))
 repeat'(first|(refine zhm fun hb=>?_;try exact zab)|(refine Qi 5 19 rfl ?_)|(refine Qi 6 28 rfl ?_)|(refine Qi 7 33 rfl ?_)|refine Q2 ?_|(apply zch;exact zcg)|exact zhk|refine zg3 ?_ ?_|refine kmu a ?_|refine kmu b ?_|refine kmu c ?_|intro _)
 exact zDR
theorem Qoz{w:Wld}(h:Yo w):MCalls Tryz.prog 59 [wldA w] [] (fun _:Unit=>True) (fun _=>[.agg (.d (.b w.up)::(JI w.first++(ctlC w.ctl++[zL (QC w.bytes),.row 0])))]) (fun _=>[]) (fun _=>[(0,.row 3 (intE w.codes) true)]):=by
 refine zMC func59 fun w0 Z O=>?_
 have hb:=h.v.bytes
 have hj:=h.v.ctl.jn
 have hc:=h.codes
 have e1:=Qu w.bytes
 have e2:=Qu w.ctl.jn.bytes
 have e3:=Qc w.codes
 have a:=Wv (s:=w.first) (h.v.first.mono (by omega))
 have c:=Wv (s:=w.ctl.first) (h.v.ctl.first.mono (by omega))
 have e:=Wv (s:=w.ctl.state) (h.v.ctl.state.mono (by omega))
 repeat'(first|(refine zhm fun hb=>?_;try exact zab)|(refine Qi 5 19 rfl ?_)|(refine Qi 6 28 rfl ?_)|refine Qd ?_|(apply zch;exact zcg)|exact zhk|refine zg3 ?_ ?_|refine kmu a ?_|refine kmu c ?_|refine kmu e ?_|intro _)
 refine zp ?_
 refine Jk () [33] (by exact trivial) rfl ?_ ?_ ?_
 all_goals exact zae
theorem do_s{w:Wld}{x:Vf}(hs:Yo w):DC Tryz.prog 60 [wldA w,QkO x] [wldA (doO w x)]:=by
 refine zMC func60 fun w0 Z O=>?_
 have q:=Qq4 hs.v
 have h:=Qoz hs
 unfold doO
 cases l:QK w with
 | false=>
  rw[l]at q
  rw[if_neg (by decide)]
  repeat'(first|(refine zhm fun hb=>?_;try exact zab)|refine Q2 ?_|(apply zch;exact zcg)|exact zhk|refine zg3 ?_ ?_|intro _)
  exact zDR
 | true=>
  rw[l]at q
  rw[if_pos rfl]
  have hb:=hs.v.bytes
  have o:=hs.codes
  have n:=Qc w.codes
  obtain⟨f,a,keep⟩:=x
  obtain⟨up,first,ctl,bytes,codes⟩:=w
  dsimp only at hb o n
  dsimp only at h
  cases up with
  | true=>
   have i:=Qg8 l rfl
   dsimp only at i
   by_cases r:f=1
   ·subst r
    have e:=Qw8 (x:=a) hs.v.ctl
    unfold QtF at e
    dsimp only at e
    rw[if_pos i]at e
    rw[show J3 ⟨true,first,ctl,bytes,codes⟩ ⟨1,a,keep⟩=⟨true,first,((JM ctl a).1.map XC).getD ctl,bytes,codes++[(JM ctl a).2]⟩ from rfl]
    cases g:(JM ctl a).1 with
    | none=>
     have p:=Vr g
     rw[g]at e
     generalize (JM ctl a).2=k at e p ⊢
     dsimp only[Option.map,Option.getD]at e ⊢
     repeat'(first|(refine zhm fun hb=>?_;try exact zab)|refine Q2 ?_|(apply zch;exact zcg)|exact zhk|refine zg3 ?_ ?_|refine kmu h ?_|refine kmu e ?_|intro _)
     all_goals first|(exfalso;omega)|skip
     show AWp _ _ _ _
     refine Qp 14 rfl ?_
     refine QA ?_
     apply Qs
     refine zm () [] trivial ?_ ?_ ?_
     repeat'(first|exact ze3|refine ze2 ?_ ?_|refine ze4 ?_|exact ze5|fail)
     all_goals exact zp (by first|rfl|simp[intE])
    | some d=>
     obtain⟨s,z,h2,_,j⟩:=Wk g
     rw[g,j]at e
     rw[j]
     dsimp only[Option.map,Option.getD]at e ⊢
     repeat'(first|(refine zhm fun hb=>?_;try exact zab)|refine Q2 ?_|(apply zch;exact zcg)|exact zhk|refine zg3 ?_ ?_|refine kmu h ?_|refine kmu e ?_|intro _)
     show AWp _ _ _ _
     refine Qp 14 rfl ?_
     refine QA ?_
     apply Qs
     refine zm () [] trivial ?_ ?_ ?_
     repeat'(first|exact ze3|refine ze2 ?_ ?_|refine ze4 ?_|exact ze5|fail)
     all_goals exact zp (by first|rfl|simp[intE])
   by_cases t:f=2
   ·subst t
    have e:=Qxo (x:=a) (keep:=keep) hs.v.ctl
    unfold Qsm at e
    dsimp only at e
    rw[if_pos i]at e
    cases g:(JM ctl a).1 with
    | none=>
     have p:=Vr g
     rw[show J3 ⟨true,first,ctl,bytes,codes⟩ ⟨2,a,keep⟩=⟨true,first,ctl,bytes,codes++[(JM ctl a).2]⟩ by unfold J3;simp[g]]
     rw[g]at e
     generalize (JM ctl a).2=k at e p ⊢
     dsimp only[Option.map,Option.getD]at e ⊢
     repeat'(first|(refine zhm fun hb=>?_;try exact zab)|refine Q2 ?_|(apply zch;exact zcg)|exact zhk|refine zg3 ?_ ?_|refine kmu h ?_|refine kmu e ?_|intro _)
     all_goals first|(exfalso;omega)|skip
     show AWp _ _ _ _
     refine Qp 14 rfl ?_
     refine QA ?_
     apply Qs
     refine zm () [] trivial ?_ ?_ ?_
     repeat'(first|exact ze3|refine ze2 ?_ ?_|refine ze4 ?_|exact ze5|fail)
     all_goals exact zp (by first|rfl|simp[intE])
    | some d=>
     obtain⟨s,z,h2,_,j⟩:=Wk g
     rw[show J3 ⟨true,first,ctl,bytes,codes⟩ ⟨2,a,keep⟩=⟨false,first,zC,d.jn.bytes.take (W9 d.jn keep),codes++[(JM ctl a).2]⟩ by unfold J3;simp[g]]
     rw[g,j]at e
     rw[j]
     dsimp only[Option.map,Option.getD]at e ⊢
     generalize d.jn.bytes.take (W9 d.jn keep)=bb at e ⊢
     repeat'(first|(refine zhm fun hb=>?_;try exact zab)|refine Q2 ?_|(apply zch;exact zcg)|exact zhk|refine zg3 ?_ ?_|refine kmu h ?_|refine kmu e ?_|intro _)
     show AWp _ _ _ _
     refine Qp 14 rfl ?_
     refine QA ?_
     apply Qs
     refine zm () [] trivial ?_ ?_ ?_
     repeat'(first|exact ze3|refine ze2 ?_ ?_|refine ze4 ?_|exact ze5|fail)
     all_goals exact zp (by first|rfl|simp[intE])
   by_cases u:f=3
   ·subst u
    rw[show J3 ⟨true,first,ctl,bytes,codes⟩ ⟨3,a,keep⟩=⟨false,first,zC,ctl.jn.bytes,codes⟩ from rfl]
    repeat'(first|(refine zhm fun hb=>?_;try exact zab)|refine Q2 ?_|(apply zch;exact zcg)|exact zhk|refine zg3 ?_ ?_|refine kmu h ?_|intro _)
    show AWp _ _ _ _
    refine Qp 14 rfl ?_
    exact zDR
   ·rw[show J3 ⟨true,first,ctl,bytes,codes⟩ ⟨f,a,keep⟩=⟨true,first,ctl,bytes,codes⟩ by unfold J3;simp[r,t,u]]
    repeat'(first|(refine zhm fun hb=>?_;try exact zab)|refine Q2 ?_|(apply zch;exact zcg)|exact zhk|refine zg3 ?_ ?_|refine kmu h ?_|intro _)
    all_goals first|(exfalso;omega)|(exfalso;simp_all;done)|skip
    all_goals
     show AWp _ _ _ _
     refine Qp 14 rfl ?_
     exact zDR
  | false=>
   obtain⟨c,m⟩:=Qcl l rfl
   dsimp only at m
   by_cases y:f=4
   ·subst y
    have e:=Qof (s:=first) (b:=bytes) hs.v.first hb
    rw[m]at e
    rw[show J3 ⟨false,first,ctl,bytes,codes⟩ ⟨4,a,keep⟩=⟨true,first,(Y6 first bytes).1.getD zC,[],codes⟩ from rfl,m]
    dsimp only[Option.getD]at e ⊢
    repeat'(first|(refine zhm fun hb=>?_;try exact zab)|refine Q2 ?_|(apply zch;exact zcg)|exact zhk|refine zg3 ?_ ?_|refine kmu h ?_|refine kmu e ?_|intro _)
    show AWp _ _ _ _
    refine Qp 14 rfl ?_
    exact zDR
   ·rw[show J3 ⟨false,first,ctl,bytes,codes⟩ ⟨f,a,keep⟩=⟨false,first,ctl,bytes,codes⟩ by unfold J3;simp[y]]
    repeat'(first|(refine zhm fun hb=>?_;try exact zab)|refine Q2 ?_|(apply zch;exact zcg)|exact zhk|refine zg3 ?_ ?_|refine kmu h ?_|intro _)
    all_goals first|(exfalso;omega)|(exfalso;simp_all;done)|skip
    all_goals
     show AWp _ _ _ _
     refine Qp 14 rfl ?_
     exact zDR
end
section
theorem QvA(l:List AV):(one l).den=one (denL l):=by
 match l with
 | []=>rfl
 | [x]=>rfl
 | x::y::zs=>rfl
theorem Qev{P:Program}{f:FuncId}{args:List AV}{rs:List AV}(h:DC P f args rs):DC P f args (denL rs):=by
 obtain⟨a,b⟩:=h
 refine⟨a,fun w Zp eh us hm hk hs=>?_⟩
 obtain⟨c,d⟩:=b w Zp eh us hm hk hs
 refine⟨c,d.mono fun e w' ⟨i,v,en,h5,he,m,hp,hr⟩=>⟨i,v,en,h5,he,m,hp,?_⟩⟩
 rw[<-QvA]
 exact AV.shows_den _ _ hr
attribute [local irreducible] AWp QM OpOk ACalls ChA QsOk MCalls NCalls EnC PY

theorem J6.d{w:Wld}(h:J6 1048576 w):Yo w:=⟨h.v,Xam h.codes (by omega)⟩
theorem Yo.w{w:Wld}(h:Yo w):J6 1000000000 w:=⟨h.v.first.mono (by omega),h.v.ctl.mono (by omega),Xam h.v.bytes (by omega),Xam h.codes (by omega)⟩
theorem Qsj:Yo zW:=⟨⟨Qbf _,⟨Qbf _,Qbf _,Xae _⟩,Xae _⟩,Xae _⟩
theorem QvJ{w:Wld}{x:Vf}(h:XN w):XN (J3 w x):=by
 have b:J1 1048576 zC:=⟨Qbf _,Qbf _,Xae _⟩
 unfold J3
 repeat' split
 ·refine⟨h.first,?_,h.bytes⟩
  cases a:(JM w.ctl x.cmd).1 with
  | none=>exact h.ctl
  | some d=>
   have:=(WE h.ctl a).1
   exact⟨this.first,this.state,this.jn⟩
 ·rename_i d a
  have:=(WE h.ctl a).2.1
  refine⟨h.first,b,?_⟩
  dsimp only
  exact Xam (Xb9 _ _) (by omega)
 ·exact⟨h.first,h.ctl,h.bytes⟩
 ·exact⟨h.first,b,h.ctl.jn⟩
 ·exact h
 ·refine⟨h.first,?_,Xae _⟩
  cases a:(Y6 w.first w.bytes).1 with
  | none=>exact b
  | some c=>exact Qh5 h.first h.bytes c a
 ·exact h
theorem Qke(w:Wld)(x:Vf):(J3 w x).codes.length<=w.codes.length+1:=by
 unfold J3
 repeat' split
 all_goals simp
theorem Qpl{w:Wld}{x:Vf}(h:Wp w x=1):(J3 w x).ctl=zC:=by
 unfold Wp at h
 unfold J3
 repeat' split at h
 all_goals first|cases h|skip
 ·rename_i e a b c
  rw[if_pos e,if_neg a,if_pos b]
  obtain⟨d,f⟩:=XaY.1 c
  rw[f]
 ·rename_i e a b c
  rw[if_pos e,if_neg a,if_neg b,if_pos c]
theorem QqW{w:Wld}{x:Vf}(h:Wp w x=2):(J3 w x).bytes=[]:=by
 unfold Wp at h
 unfold J3
 repeat' split at h
 all_goals first|cases h|skip
 rename_i b a
 rw[if_neg b,if_pos a]
end
end Go.Proofs.YtkdniahincpmaaaGreat
