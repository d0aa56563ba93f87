/-
  A step done in a valid world, of the program: copies, done.
-/
import Derived.Test.YtkdniahincpmaaaGreatKB40
set_option maxRecDepth 100000
set_option maxHeartbeats 16000000
namespace Go.Proofs.YtkdniahincpmaaaGreat
open Go Go.RowKit Tryz
section
attribute [local irreducible] AWp QI OpOk ACalls ChA QsOk MCalls NCalls EnC PY

structure Wz (w:Wld):Prop where
 v:Zh w
 codes:w.codes.length<=100000000
@[reducible] def Qsc (w:Wld):AV:=.agg (.d (.b w.up)::(stC w.first 0 1 2 3 4 5++((stC w.ctl.first 6 7 8 9 10 11++(stC w.ctl.state 12 13 14 15 16 17++[.row 18,zI w.ctl.jn.synced,zI w.ctl.jn.count]))++[.row 19,.row 20])))
@[reducible] def QtJ (w:Wld):List (Nat×AO):=[(0,.row 3 (intE w.first.topo.parents) true),(1,.row 62 (Qw w.first.topo.nodes) true),(2,.row 4 (Qp w.first.up) true),(3,.row 40 (jobE w.first.queue) true),(4,.row 66 (runE w.first.runs) true),(5,.row 123 (endE w.first.ends) true),(6,.row 3 (intE w.ctl.first.topo.parents) true),(7,.row 62 (Qw w.ctl.first.topo.nodes) true),(8,.row 4 (Qp w.ctl.first.up) true),(9,.row 40 (jobE w.ctl.first.queue) true),(10,.row 66 (runE w.ctl.first.runs) true),(11,.row 123 (endE w.ctl.first.ends) true),(12,.row 3 (intE w.ctl.state.topo.parents) true),(13,.row 62 (Qw w.ctl.state.topo.nodes) true),(14,.row 4 (Qp w.ctl.state.up) true),(15,.row 40 (jobE w.ctl.state.queue) true),(16,.row 66 (runE w.ctl.state.runs) true),(17,.row 123 (endE w.ctl.state.ends) true),(18,.row 5 (QK w.ctl.jn.bytes) true),(19,.row 5 (QK w.bytes) true),(20,.row 3 (intE w.codes) true)]
@[reducible] def Qy4 (w:Wld):AV:=.agg (.d (.b w.up)::(stC w.first 0 1 2 3 4 5++(ctl00++[.row 6,.row 7])))
@[reducible] def Qy8 (w:Wld):List (Nat×AO):=[(0,.row 3 (intE w.first.topo.parents) true),(1,.row 62 (Qw w.first.topo.nodes) true),(2,.row 4 (Qp w.first.up) true),(3,.row 40 (jobE w.first.queue) true),(4,.row 66 (runE w.first.runs) true),(5,.row 123 (endE w.first.ends) true),(6,.row 5 (QK w.bytes) true),(7,.row 3 (intE w.codes) true)]
@[reducible] def Qzq (w:Wld):AV:=.agg (.d (.b w.up)::(stC w.first 0 1 2 3 4 5++((stC w.ctl.first 6 7 8 9 10 11++(stC w.ctl.state 12 13 14 15 16 17++[.row 18,zI w.ctl.jn.synced,zI w.ctl.jn.count]))++[.nil,.row 19])))
@[reducible] def QyW (w:Wld):List (Nat×AO):=[(0,.row 3 (intE w.first.topo.parents) true),(1,.row 62 (Qw w.first.topo.nodes) true),(2,.row 4 (Qp w.first.up) true),(3,.row 40 (jobE w.first.queue) true),(4,.row 66 (runE w.first.runs) true),(5,.row 123 (endE w.first.ends) true),(6,.row 3 (intE w.ctl.first.topo.parents) true),(7,.row 62 (Qw w.ctl.first.topo.nodes) true),(8,.row 4 (Qp w.ctl.first.up) true),(9,.row 40 (jobE w.ctl.first.queue) true),(10,.row 66 (runE w.ctl.first.runs) true),(11,.row 123 (endE w.ctl.first.ends) true),(12,.row 3 (intE w.ctl.state.topo.parents) true),(13,.row 62 (Qw w.ctl.state.topo.nodes) true),(14,.row 4 (Qp w.ctl.state.up) true),(15,.row 40 (jobE w.ctl.state.queue) true),(16,.row 66 (runE w.ctl.state.runs) true),(17,.row 123 (endE w.ctl.state.ends) true),(18,.row 5 (QK w.ctl.jn.bytes) true),(19,.row 3 (intE w.codes) true)]
@[reducible] def Qx0:AV:=.agg (.d (.b false)::(ctl0++(ctl00++[.nil,.nil])))
def zW:Wld:=⟨false,zS,zC,[],[]⟩
@[reducible] def Qr1 (n:Nat) (w:Wld):List AV:=match n with
 | 0=>[Qsc w]
 | 1=>[Qy4 w]
 | 2=>[Qzq w]
 | _=>[Qx0]
@[reducible] def Qql (n:Nat) (w:Wld):List (Nat×AO):=match n with
 | 0=>QtJ w
 | 1=>Qy8 w
 | 2=>QyW w
 | _=>[]
theorem Yb.big{c:Ctl}(h:Yb 1048576 c):Yb 100000000 c:=h.mono (by omega)
theorem QiV{c:Ctl}(h:Yb 100000000 c):zAc 122 [ctlA c] [Qs3 c] (QvX c):=by
 refine zAC func122 fun w0 Z=>?_
 have hj:=h.jn
 repeat'(first|(refine zhm fun hb=>?_;try exact zab)|refine Qd ?_|(apply zch;exact zcg)|exact zhk|refine zg3 ?_ ?_|refine kc (Q2 (s:=c.first) h.first) rfl rfl ?_|refine kc (Q2 (s:=c.state) h.state) rfl rfl ?_|refine kc (QbL (j:=c.jn) (by omega)) rfl rfl ?_|refine kq (Q2 (s:=c.first) h.first) rfl rfl ?_|refine kq (Q2 (s:=c.state) h.state) rfl rfl ?_|refine kq (QbL (j:=c.jn) (by omega)) rfl rfl ?_|intro _)
 refine zr [5,1005,2005,3005,4005,5005,8,1008,2008,3008,4008,5008,11] ?_ ?_
 repeat'(first|exact ze3|refine ze2 ?_ ?_|refine ze4 ?_|exact ze5|fail)
 all_goals exact zp rfl
theorem QaH{w:Wld}(h:Wz w):zAc 52 [wldA w] [Qsc w] (QtJ w):=by
 refine zAC func52 fun w0 Z=>?_
 have hb:=h.v.bytes
 have hc:=h.codes
 repeat'(first|(refine zhm fun hb=>?_;try exact zab)|refine Qd ?_|(apply zch;exact zcg)|exact zhk|refine zg3 ?_ ?_|refine kc (Q2 (s:=w.first) (h.v.first.mono (by omega))) rfl rfl ?_|refine kc (QiV (c:=w.ctl) h.v.ctl.big) rfl rfl ?_|refine kc (WQ (b:=w.bytes) rfl (by omega)) rfl rfl ?_|refine kc (WO (l:=w.codes) (by omega)) rfl rfl ?_|refine kq (Q2 (s:=w.first) (h.v.first.mono (by omega))) rfl rfl ?_|refine kq (QiV (c:=w.ctl) h.v.ctl.big) rfl rfl ?_|refine kq (WQ (b:=w.bytes) rfl (by omega)) rfl rfl ?_|refine kq (WO (l:=w.codes) (by omega)) rfl rfl ?_|intro _)
 refine zr [7,1007,2007,3007,4007,5007,10,1010,2010,3010,4010,5010,6010,7010,8010,9010,10010,11010,12010,13,16] ?_ ?_
 repeat'(first|exact ze3|refine ze2 ?_ ?_|refine ze4 ?_|exact ze5|fail)
 all_goals exact zp rfl
noncomputable def J0 (w:Wld) (x:WA):Wld:=
 if w.up=true then
  if x.kind=1 then⟨true,w.first,((Jl w.ctl x.cmd).1.map Zj).getD w.ctl,w.bytes,w.codes++[(Jl w.ctl x.cmd).2]⟩
  else if x.kind=2 then match (Jl w.ctl x.cmd).1 with
   | some d=>⟨false,w.first,zC,d.jn.bytes.take (JO d.jn x.keep),w.codes++[(Jl w.ctl x.cmd).2]⟩
   | none=>⟨true,w.first,w.ctl,w.bytes,w.codes++[(Jl w.ctl x.cmd).2]⟩
  else if x.kind=3 then⟨false,w.first,zC,w.ctl.jn.bytes,w.codes⟩
  else w
 else if x.kind=4 then⟨true,w.first,(Yr w.first w.bytes).1.getD zC,[],w.codes⟩else w
noncomputable def Wo (w:Wld) (x:WA):Nat:=
 if w.up=true then
  if x.kind=1 then 0
  else if x.kind=2 then(if(Jl w.ctl x.cmd).1.isSome=true then 1 else 0)
  else if x.kind=3 then 1
  else 0
 else if x.kind=4 then 2 else 0
theorem QbV{w:Wld}(h:QG w=true)(hu:w.up=true):J9 w.ctl=true:=by
 unfold QG at h
 rw[hu,Xab,Xab]at h
 exact h.2.1
theorem Qb1{w:Wld}(h:QG w=true)(hu:w.up=false):∃c,Yr w.first w.bytes=(some c,0):=by
 unfold QG at h
 rw[hu,Xab,Xab,decide_eq_true_eq]at h
 have a:=h.2.2
 unfold Yr at a ⊢
 split
 ·rename_i b
  rw[if_pos b]at a
  split
  ·rename_i d
   rw[d]at a
   exact absurd a (by intro h;cases h)
  ·exact⟨_,rfl⟩
 ·rename_i b
  rw[if_neg b]at a
  exact absurd a (by intro h;cases h)
theorem QuV{w:Wld}{x:WA}(hs:Wz w)(hw:QG w=true):zAc 53 [wldA w,Qcm x] (Qr1 (Wo w x) (J0 w x)) (Qql (Wo w x) (J0 w x)):=by
 refine zAC func53 fun w0 Z=>?_
 have c0:=QaH hs
 have hb:=hs.v.bytes
 have o:=hs.codes
 have n:=Qc w.codes
 obtain⟨e,a,keep⟩:=x
 obtain⟨up,first,ctl,bytes,codes⟩:=w
 dsimp only at hb o n
 dsimp only[Qsc,QtJ]at c0
 cases up with
 | true=>
  have l:=QbV hw rfl
  have hj:=Qdc l
  have g:=Qos (x:=a) hs.v.ctl hj
  dsimp only at l hj g
  by_cases q:e=1
  ·subst q
   rw[show Wo ⟨true,first,ctl,bytes,codes⟩ ⟨1,a,keep⟩=0 from rfl,show J0 ⟨true,first,ctl,bytes,codes⟩ ⟨1,a,keep⟩=⟨true,first,((Jl ctl a).1.map Zj).getD ctl,bytes,codes++[(Jl ctl a).2]⟩ from rfl]
   cases f:(Jl ctl a).1 with
   | none=>
    have p:=YN f
    rw[f]at g
    generalize (Jl ctl a).2=k at g p ⊢
    dsimp only[coR,coB,Option.map,Option.getD]at g ⊢
    repeat'(first|(refine zhm fun hb=>?_;try exact zab)|refine Qd ?_|(apply zch;exact zcg)|exact zhk|refine zg3 ?_ ?_|intro _)
    all_goals first|(exfalso;omega)|skip
    refine zr [11,1011,2011,3011,4011,5011,6011,7011,8011,9011,10011,11011,12011,13011,14011,15011,16011,17011,18011,19011,20011] ?_ ?_
    repeat'(first|exact ze3|refine ze2 ?_ ?_|refine ze4 ?_|exact ze5|fail)
    all_goals exact zp (by first|rfl|simp[intE])
   | some d=>
    obtain⟨s,h1,h2,_,h⟩:=JU f
    obtain⟨g1,g2,z⟩:=JZ hs.v.ctl f
    rw[f,h]at g
    rw[h]
    have y:=Qm6 (c:=d) (by omega)
    dsimp only[coR,coB,Option.map,Option.getD]at g ⊢
    repeat'(first|(refine zhm fun hb=>?_;try exact zab)|refine Qd ?_|(apply zch;exact zcg)|exact zhk|refine zg3 ?_ ?_|(refine kn [25,1025,2025,3025,4025,5025,6025,7025,8025,9025,10025,11025,12025] (y) rfl rfl (fun i hi=>?_);try dsimp only at hi)|intro _)
    refine zr [11,1011,2011,3011,4011,5011,31,1031,2031,3031,4031,5031,6031,7031,8031,9031,10031,11031,12031,19011,20011] ?_ ?_
    repeat'(first|exact ze3|refine ze2 ?_ ?_|refine ze4 ?_|exact ze5|fail)
    all_goals exact zp (by first|rfl|simp[intE])
  by_cases r:e=2
  ·subst r
   cases f:(Jl ctl a).1 with
   | none=>
    have p:=YN f
    rw[show Wo ⟨true,first,ctl,bytes,codes⟩ ⟨2,a,keep⟩=0 by unfold Wo;simp[f],show J0 ⟨true,first,ctl,bytes,codes⟩ ⟨2,a,keep⟩=⟨true,first,ctl,bytes,codes++[(Jl ctl a).2]⟩ by unfold J0;simp[f]]
    rw[f]at g
    generalize (Jl ctl a).2=k at g p ⊢
    dsimp only[coR,coB,Option.map,Option.getD]at g ⊢
    repeat'(first|(refine zhm fun hb=>?_;try exact zab)|refine Qd ?_|(apply zch;exact zcg)|exact zhk|refine zg3 ?_ ?_|intro _)
    all_goals first|(exfalso;omega)|skip
    refine zr [11,1011,2011,3011,4011,5011,6011,7011,8011,9011,10011,11011,12011,13011,14011,15011,16011,17011,18011,19011,20011] ?_ ?_
    repeat'(first|exact ze3|refine ze2 ?_ ?_|refine ze4 ?_|exact ze5|fail)
    all_goals exact zp (by first|rfl|simp[intE])
   | some d=>
    obtain⟨s,h1,h2,_,h⟩:=JU f
    obtain⟨g1,g2,z⟩:=JZ hs.v.ctl f
    rw[show Wo ⟨true,first,ctl,bytes,codes⟩ ⟨2,a,keep⟩=1 by unfold Wo;simp[f],show J0 ⟨true,first,ctl,bytes,codes⟩ ⟨2,a,keep⟩=⟨false,first,zC,d.jn.bytes.take (JO d.jn keep),codes++[(Jl ctl a).2]⟩ by unfold J0;simp[f]]
    rw[f,h]at g
    rw[h]
    have y:=Qay (j:=d.jn) (keep:=keep) z
    dsimp only[coR,coB,Option.map,Option.getD]at g ⊢
    repeat'(first|(refine zhm fun hb=>?_;try exact zab)|refine Qd ?_|(apply zch;exact zcg)|exact zhk|refine zg3 ?_ ?_|intro _)
    refine zr [11,1011,2011,3011,4011,5011,64,20011] ?_ ?_
    repeat'(first|exact ze3|refine ze2 ?_ ?_|refine ze4 ?_|exact ze5|fail)
    all_goals exact zp (by first|rfl|simp[intE])
  by_cases t:e=3
  ·subst t
   rw[show Wo ⟨true,first,ctl,bytes,codes⟩ ⟨3,a,keep⟩=1 from rfl,show J0 ⟨true,first,ctl,bytes,codes⟩ ⟨3,a,keep⟩=⟨false,first,zC,ctl.jn.bytes,codes⟩ from rfl]
   repeat'(first|(refine zhm fun hb=>?_;try exact zab)|refine Qd ?_|(apply zch;exact zcg)|exact zhk|refine zg3 ?_ ?_|intro _)
   refine zr [11,1011,2011,3011,4011,5011,18011,20011] ?_ ?_
   repeat'(first|exact ze3|refine ze2 ?_ ?_|refine ze4 ?_|exact ze5|fail)
   all_goals exact zp rfl
  ·rw[show Wo ⟨true,first,ctl,bytes,codes⟩ ⟨e,a,keep⟩=0 by unfold Wo;simp[q,r,t],show J0 ⟨true,first,ctl,bytes,codes⟩ ⟨e,a,keep⟩=⟨true,first,ctl,bytes,codes⟩ by unfold J0;simp[q,r,t]]
   repeat'(first|(refine zhm fun hb=>?_;try exact zab)|refine Qd ?_|(apply zch;exact zcg)|exact zhk|refine zg3 ?_ ?_|intro _)
   all_goals first|(exfalso;omega)|(exfalso;simp_all;done)|skip
   all_goals
    refine zr [11,1011,2011,3011,4011,5011,6011,7011,8011,9011,10011,11011,12011,13011,14011,15011,16011,17011,18011,19011,20011] ?_ ?_
    repeat'(first|exact ze3|refine ze2 ?_ ?_|refine ze4 ?_|exact ze5|fail)
    all_goals exact zp rfl
 | false=>
  obtain⟨c,m⟩:=Qb1 hw rfl
  dsimp only at m
  by_cases u:e=4
  ·subst u
   have g:=Qj4 (s:=first) (b:=bytes) hs.v.first hb
   rw[m]at g
   rw[show Wo ⟨false,first,ctl,bytes,codes⟩ ⟨4,a,keep⟩=2 from rfl,show J0 ⟨false,first,ctl,bytes,codes⟩ ⟨4,a,keep⟩=⟨true,first,(Yr first bytes).1.getD zC,[],codes⟩ from rfl,m]
   dsimp only[coR,coB,Option.getD]at g ⊢
   repeat'(first|(refine zhm fun hb=>?_;try exact zab)|refine Qd ?_|(apply zch;exact zcg)|exact zhk|refine zg3 ?_ ?_|intro _)
   refine zr [11,1011,2011,3011,4011,5011,103,1103,2103,3103,4103,5103,6103,7103,8103,9103,10103,11103,12103,20011] ?_ ?_
   repeat'(first|exact ze3|refine ze2 ?_ ?_|refine ze4 ?_|exact ze5|fail)
   all_goals exact zp rfl
  ·rw[show Wo ⟨false,first,ctl,bytes,codes⟩ ⟨e,a,keep⟩=0 by unfold Wo;simp[u],show J0 ⟨false,first,ctl,bytes,codes⟩ ⟨e,a,keep⟩=⟨false,first,ctl,bytes,codes⟩ by unfold J0;simp[u]]
   repeat'(first|(refine zhm fun hb=>?_;try exact zab)|refine Qd ?_|(apply zch;exact zcg)|exact zhk|refine zg3 ?_ ?_|intro _)
   all_goals first|(exfalso;omega)|(exfalso;simp_all;done)|skip
   all_goals
    refine zr [11,1011,2011,3011,4011,5011,6011,7011,8011,9011,10011,11011,12011,13011,14011,15011,16011,17011,18011,19011,20011] ?_ ?_
    repeat'(first|exact ze3|refine ze2 ?_ ?_|refine ze4 ?_|exact ze5|fail)
    all_goals exact zp rfl

noncomputable def doO (w:Wld) (x:WA):Wld:=if QG w=true then J0 w x else zW
noncomputable def doS (w:Wld) (x:WA):Nat:=if QG w=true then Wo w x else 3
theorem QdE(w:Wld)(x:WA):Wo w x=0\/Wo w x=1\/Wo w x=2:=by
 unfold Wo
 repeat' split
 all_goals simp
theorem QpM{w:Wld}(h:Wz w):DC Tryz.prog 59 [wldA w] [wldA w]:=by
 refine zMC func59 fun w0 Z O=>?_
 have hb:=h.v.bytes
 have hj:=h.v.ctl.jn
 have hc:=h.codes
 have e1:=Qy w.bytes
 have e2:=Qy w.ctl.jn.bytes
 have e3:=Qc w.codes
 have a:=YX (s:=w.first) (h.v.first.mono (by omega))
 have b:=YX (s:=w.ctl.first) (h.v.ctl.first.mono (by omega))
 have c:=YX (s:=w.ctl.state) (h.v.ctl.state.mono (by omega))
 repeat'(first|(refine zhm fun hb=>?_;try exact zab)|(refine Qh 5 19 rfl ?_)|(refine Qh 6 28 rfl ?_)|(refine Qh 7 33 rfl ?_)|refine QR ?_|(apply zch;exact zcg)|exact zhk|refine zg3 ?_ ?_|refine kmu a ?_|refine kmu b ?_|refine kmu c ?_|intro _)
 exact zDR
theorem Qp3{w:Wld}(h:Wz w):MCalls Tryz.prog 59 [wldA w] [] (fun _:Unit=>True) (fun _=>[.agg (.d (.b w.up)::(Q3 w.first++(ctlC w.ctl++[zL (QK w.bytes),.row 0])))]) (fun _=>[]) (fun _=>[(0,.row 3 (intE w.codes) true)]):=by
 refine zMC func59 fun w0 Z O=>?_
 have hb:=h.v.bytes
 have hj:=h.v.ctl.jn
 have hc:=h.codes
 have e1:=Qy w.bytes
 have e2:=Qy w.ctl.jn.bytes
 have e3:=Qc w.codes
 have a:=YX (s:=w.first) (h.v.first.mono (by omega))
 have c:=YX (s:=w.ctl.first) (h.v.ctl.first.mono (by omega))
 have e:=YX (s:=w.ctl.state) (h.v.ctl.state.mono (by omega))
 repeat'(first|(refine zhm fun hb=>?_;try exact zab)|(refine Qh 5 19 rfl ?_)|(refine Qh 6 28 rfl ?_)|refine Qd ?_|(apply zch;exact zcg)|exact zhk|refine zg3 ?_ ?_|refine kmu a ?_|refine kmu c ?_|refine kmu e ?_|intro _)
 refine zp ?_
 refine Wf () [33] (by exact trivial) rfl ?_ ?_ ?_
 all_goals exact zae
theorem do_s{w:Wld}{x:WA}(hs:Wz w):DC Tryz.prog 60 [wldA w,Qcm x] [wldA (doO w x)]:=by
 refine zMC func60 fun w0 Z O=>?_
 have q:=QpJ hs.v
 have h:=Qp3 hs
 unfold doO
 cases l:QG w with
 | false=>
  rw[l]at q
  rw[if_neg (by decide)]
  repeat'(first|(refine zhm fun hb=>?_;try exact zab)|refine QR ?_|(apply zch;exact zcg)|exact zhk|refine zg3 ?_ ?_|intro _)
  exact zDR
 | true=>
  rw[l]at q
  rw[if_pos rfl]
  have hb:=hs.v.bytes
  have o:=hs.codes
  have n:=Qc w.codes
  obtain⟨f,a,keep⟩:=x
  obtain⟨up,first,ctl,bytes,codes⟩:=w
  dsimp only at hb o n
  dsimp only at h
  cases up with
  | true=>
   have i:=QbV l rfl
   dsimp only at i
   by_cases r:f=1
   ·subst r
    have e:=Qva (x:=a) hs.v.ctl
    unfold ZR at e
    dsimp only at e
    rw[if_pos i]at e
    rw[show J0 ⟨true,first,ctl,bytes,codes⟩ ⟨1,a,keep⟩=⟨true,first,((Jl ctl a).1.map Zj).getD ctl,bytes,codes++[(Jl ctl a).2]⟩ from rfl]
    cases g:(Jl ctl a).1 with
    | none=>
     have p:=YN g
     rw[g]at e
     generalize (Jl ctl a).2=k at e p ⊢
     dsimp only[Option.map,Option.getD]at e ⊢
     repeat'(first|(refine zhm fun hb=>?_;try exact zab)|refine QR ?_|(apply zch;exact zcg)|exact zhk|refine zg3 ?_ ?_|refine kmu h ?_|refine kmu e ?_|intro _)
     all_goals first|(exfalso;omega)|skip
     show AWp _ _ _ _
     refine Qr 14 rfl ?_
     refine QA ?_
     apply Qu
     refine zm () [] trivial ?_ ?_ ?_
     repeat'(first|exact ze3|refine ze2 ?_ ?_|refine ze4 ?_|exact ze5|fail)
     all_goals exact zp (by first|rfl|simp[intE])
    | some d=>
     obtain⟨s,z,h2,_,j⟩:=JU g
     rw[g,j]at e
     rw[j]
     dsimp only[Option.map,Option.getD]at e ⊢
     repeat'(first|(refine zhm fun hb=>?_;try exact zab)|refine QR ?_|(apply zch;exact zcg)|exact zhk|refine zg3 ?_ ?_|refine kmu h ?_|refine kmu e ?_|intro _)
     show AWp _ _ _ _
     refine Qr 14 rfl ?_
     refine QA ?_
     apply Qu
     refine zm () [] trivial ?_ ?_ ?_
     repeat'(first|exact ze3|refine ze2 ?_ ?_|refine ze4 ?_|exact ze5|fail)
     all_goals exact zp (by first|rfl|simp[intE])
   by_cases t:f=2
   ·subst t
    have e:=Qys (x:=a) (keep:=keep) hs.v.ctl
    unfold Qa5 at e
    dsimp only at e
    rw[if_pos i]at e
    cases g:(Jl ctl a).1 with
    | none=>
     have p:=YN g
     rw[show J0 ⟨true,first,ctl,bytes,codes⟩ ⟨2,a,keep⟩=⟨true,first,ctl,bytes,codes++[(Jl ctl a).2]⟩ by unfold J0;simp[g]]
     rw[g]at e
     generalize (Jl ctl a).2=k at e p ⊢
     dsimp only[Option.map,Option.getD]at e ⊢
     repeat'(first|(refine zhm fun hb=>?_;try exact zab)|refine QR ?_|(apply zch;exact zcg)|exact zhk|refine zg3 ?_ ?_|refine kmu h ?_|refine kmu e ?_|intro _)
     all_goals first|(exfalso;omega)|skip
     show AWp _ _ _ _
     refine Qr 14 rfl ?_
     refine QA ?_
     apply Qu
     refine zm () [] trivial ?_ ?_ ?_
     repeat'(first|exact ze3|refine ze2 ?_ ?_|refine ze4 ?_|exact ze5|fail)
     all_goals exact zp (by first|rfl|simp[intE])
    | some d=>
     obtain⟨s,z,h2,_,j⟩:=JU g
     rw[show J0 ⟨true,first,ctl,bytes,codes⟩ ⟨2,a,keep⟩=⟨false,first,zC,d.jn.bytes.take (JO d.jn keep),codes++[(Jl ctl a).2]⟩ by unfold J0;simp[g]]
     rw[g,j]at e
     rw[j]
     dsimp only[Option.map,Option.getD]at e ⊢
     generalize d.jn.bytes.take (JO d.jn keep)=bb at e ⊢
     repeat'(first|(refine zhm fun hb=>?_;try exact zab)|refine QR ?_|(apply zch;exact zcg)|exact zhk|refine zg3 ?_ ?_|refine kmu h ?_|refine kmu e ?_|intro _)
     show AWp _ _ _ _
     refine Qr 14 rfl ?_
     refine QA ?_
     apply Qu
     refine zm () [] trivial ?_ ?_ ?_
     repeat'(first|exact ze3|refine ze2 ?_ ?_|refine ze4 ?_|exact ze5|fail)
     all_goals exact zp (by first|rfl|simp[intE])
   by_cases u:f=3
   ·subst u
    rw[show J0 ⟨true,first,ctl,bytes,codes⟩ ⟨3,a,keep⟩=⟨false,first,zC,ctl.jn.bytes,codes⟩ from rfl]
    repeat'(first|(refine zhm fun hb=>?_;try exact zab)|refine QR ?_|(apply zch;exact zcg)|exact zhk|refine zg3 ?_ ?_|refine kmu h ?_|intro _)
    show AWp _ _ _ _
    refine Qr 14 rfl ?_
    exact zDR
   ·rw[show J0 ⟨true,first,ctl,bytes,codes⟩ ⟨f,a,keep⟩=⟨true,first,ctl,bytes,codes⟩ by unfold J0;simp[r,t,u]]
    repeat'(first|(refine zhm fun hb=>?_;try exact zab)|refine QR ?_|(apply zch;exact zcg)|exact zhk|refine zg3 ?_ ?_|refine kmu h ?_|intro _)
    all_goals first|(exfalso;omega)|(exfalso;simp_all;done)|skip
    all_goals
     show AWp _ _ _ _
     refine Qr 14 rfl ?_
     exact zDR
  | false=>
   obtain⟨c,m⟩:=Qb1 l rfl
   dsimp only at m
   by_cases y:f=4
   ·subst y
    have e:=Qrp (s:=first) (b:=bytes) hs.v.first hb
    rw[m]at e
    rw[show J0 ⟨false,first,ctl,bytes,codes⟩ ⟨4,a,keep⟩=⟨true,first,(Yr first bytes).1.getD zC,[],codes⟩ from rfl,m]
    dsimp only[Option.getD]at e ⊢
    repeat'(first|(refine zhm fun hb=>?_;try exact zab)|refine QR ?_|(apply zch;exact zcg)|exact zhk|refine zg3 ?_ ?_|refine kmu h ?_|refine kmu e ?_|intro _)
    show AWp _ _ _ _
    refine Qr 14 rfl ?_
    exact zDR
   ·rw[show J0 ⟨false,first,ctl,bytes,codes⟩ ⟨f,a,keep⟩=⟨false,first,ctl,bytes,codes⟩ by unfold J0;simp[y]]
    repeat'(first|(refine zhm fun hb=>?_;try exact zab)|refine QR ?_|(apply zch;exact zcg)|exact zhk|refine zg3 ?_ ?_|refine kmu h ?_|intro _)
    all_goals first|(exfalso;omega)|(exfalso;simp_all;done)|skip
    all_goals
     show AWp _ _ _ _
     refine Qr 14 rfl ?_
     exact zDR
end
section
theorem Qxg(l:List AV):(one l).den=one (denL l):=by
 match l with
 | []=>rfl
 | [x]=>rfl
 | x::y::zs=>rfl
theorem WE{P:Program}{f:FuncId}{args:List AV}{rs:List AV}(h:DC P f args rs):DC P f args (denL rs):=by
 obtain⟨a,b⟩:=h
 refine⟨a,fun w Zp eh us hm hk hs=>?_⟩
 obtain⟨c,d⟩:=b w Zp eh us hm hk hs
 refine⟨c,d.mono fun e w' ⟨i,v,en,h5,he,m,hp,hr⟩=>⟨i,v,en,h5,he,m,hp,?_⟩⟩
 rw[<-Qxg]
 exact AV.shows_den _ _ hr
attribute [local irreducible] AWp QI OpOk ACalls ChA QsOk MCalls NCalls EnC PY

theorem Xb.d{w:Wld}(h:Xb 1048576 w):Wz w:=⟨h.v,Xal h.codes (by omega)⟩
theorem Wz.w{w:Wld}(h:Wz w):Xb 1000000000 w:=⟨h.v.first.mono (by omega),h.v.ctl.mono (by omega),Xal h.v.bytes (by omega),Xal h.codes (by omega)⟩
theorem QlB:Wz zW:=⟨⟨V6 _,⟨V6 _,V6 _,Xad _⟩,Xad _⟩,Xad _⟩
theorem Qw6{w:Wld}{x:WA}(h:Zh w):Zh (J0 w x):=by
 have b:Yb 1048576 zC:=⟨V6 _,V6 _,Xad _⟩
 unfold J0
 repeat' split
 ·refine⟨h.first,?_,h.bytes⟩
  cases a:(Jl w.ctl x.cmd).1 with
  | none=>exact h.ctl
  | some d=>
   have:=(JZ h.ctl a).1
   exact⟨this.first,this.state,this.jn⟩
 ·rename_i d a
  have:=(JZ h.ctl a).2.1
  refine⟨h.first,b,?_⟩
  dsimp only
  exact Xal (Xbg _ _) (by omega)
 ·exact⟨h.first,h.ctl,h.bytes⟩
 ·exact⟨h.first,b,h.ctl.jn⟩
 ·exact h
 ·refine⟨h.first,?_,Xad _⟩
  cases a:(Yr w.first w.bytes).1 with
  | none=>exact b
  | some c=>exact QcU h.first h.bytes c a
 ·exact h
theorem Qkb(w:Wld)(x:WA):(J0 w x).codes.length<=w.codes.length+1:=by
 unfold J0
 repeat' split
 all_goals simp
theorem Qrh{w:Wld}{x:WA}(h:Wo w x=1):(J0 w x).ctl=zC:=by
 unfold Wo at h
 unfold J0
 repeat' split at h
 all_goals first|cases h|skip
 ·rename_i e a b c
  rw[if_pos e,if_neg a,if_pos b]
  obtain⟨d,f⟩:=XaO.1 c
  rw[f]
 ·rename_i e a b c
  rw[if_pos e,if_neg a,if_neg b,if_pos c]
theorem Qqh{w:Wld}{x:WA}(h:Wo w x=2):(J0 w x).bytes=[]:=by
 unfold Wo at h
 unfold J0
 repeat' split at h
 all_goals first|cases h|skip
 rename_i b a
 rw[if_neg b,if_pos a]
end
end Go.Proofs.YtkdniahincpmaaaGreat
