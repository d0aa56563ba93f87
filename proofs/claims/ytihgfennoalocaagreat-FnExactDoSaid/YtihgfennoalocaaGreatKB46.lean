/-
  A step done in a valid world, of the program: copies, done.
-/
import Derived.Test.YtihgfennoalocaaGreatKB45
set_option maxRecDepth 100000
set_option maxHeartbeats 16000000
namespace Go.Proofs.YtihgfennoalocaaGreat
open Go Go.RowKit Tryz
section
attribute [local irreducible] AWp QJ OpOk ACalls ChA QsOk MCalls NCalls EnC PY

structure QvO (w:Wld):Prop where
 v:Qpz w
 codes:w.codes.length<=100000000
@[reducible] def Qv5 (w:Wld):AV:=.agg (.d (.b w.up)::(stC w.first 0 1 2 3 4 5++((stC w.ctl.first 6 7 8 9 10 11++(stC w.ctl.state 12 13 14 15 16 17++[.row 18,zI w.ctl.jn.synced,zI w.ctl.jn.count]))++[.row 19,.row 20])))
@[reducible] def Qwa (w:Wld):List (Nat×AO):=[(0,.row 3 (intE w.first.topo.parents) true),(1,.row 225 (Qz w.first.topo.nodes) true),(2,.row 4 (Qq w.first.up) true),(3,.row 72 (jobE w.first.queue) true),(4,.row 170 (runE w.first.runs) true),(5,.row 172 (endE w.first.ends) true),(6,.row 3 (intE w.ctl.first.topo.parents) true),(7,.row 225 (Qz w.ctl.first.topo.nodes) true),(8,.row 4 (Qq w.ctl.first.up) true),(9,.row 72 (jobE w.ctl.first.queue) true),(10,.row 170 (runE w.ctl.first.runs) true),(11,.row 172 (endE w.ctl.first.ends) true),(12,.row 3 (intE w.ctl.state.topo.parents) true),(13,.row 225 (Qz w.ctl.state.topo.nodes) true),(14,.row 4 (Qq w.ctl.state.up) true),(15,.row 72 (jobE w.ctl.state.queue) true),(16,.row 170 (runE w.ctl.state.runs) true),(17,.row 172 (endE w.ctl.state.ends) true),(18,.row 5 (QG w.ctl.jn.bytes) true),(19,.row 5 (QG w.bytes) true),(20,.row 3 (intE w.codes) true)]
@[reducible] def Qwl (w:Wld):AV:=.agg (.d (.b w.up)::(stC w.first 0 1 2 3 4 5++(ctl00++[.row 6,.row 7])))
@[reducible] def Qwh (w:Wld):List (Nat×AO):=[(0,.row 3 (intE w.first.topo.parents) true),(1,.row 225 (Qz w.first.topo.nodes) true),(2,.row 4 (Qq w.first.up) true),(3,.row 72 (jobE w.first.queue) true),(4,.row 170 (runE w.first.runs) true),(5,.row 172 (endE w.first.ends) true),(6,.row 5 (QG w.bytes) true),(7,.row 3 (intE w.codes) true)]
@[reducible] def Qwk (w:Wld):AV:=.agg (.d (.b w.up)::(stC w.first 0 1 2 3 4 5++((stC w.ctl.first 6 7 8 9 10 11++(stC w.ctl.state 12 13 14 15 16 17++[.row 18,zI w.ctl.jn.synced,zI w.ctl.jn.count]))++[.nil,.row 19])))
@[reducible] def Qwm (w:Wld):List (Nat×AO):=[(0,.row 3 (intE w.first.topo.parents) true),(1,.row 225 (Qz w.first.topo.nodes) true),(2,.row 4 (Qq w.first.up) true),(3,.row 72 (jobE w.first.queue) true),(4,.row 170 (runE w.first.runs) true),(5,.row 172 (endE w.first.ends) true),(6,.row 3 (intE w.ctl.first.topo.parents) true),(7,.row 225 (Qz w.ctl.first.topo.nodes) true),(8,.row 4 (Qq w.ctl.first.up) true),(9,.row 72 (jobE w.ctl.first.queue) true),(10,.row 170 (runE w.ctl.first.runs) true),(11,.row 172 (endE w.ctl.first.ends) true),(12,.row 3 (intE w.ctl.state.topo.parents) true),(13,.row 225 (Qz w.ctl.state.topo.nodes) true),(14,.row 4 (Qq w.ctl.state.up) true),(15,.row 72 (jobE w.ctl.state.queue) true),(16,.row 170 (runE w.ctl.state.runs) true),(17,.row 172 (endE w.ctl.state.ends) true),(18,.row 5 (QG w.ctl.jn.bytes) true),(19,.row 3 (intE w.codes) true)]
@[reducible] def Qwo:AV:=.agg (.d (.b false)::(ctl0++(ctl00++[.nil,.nil])))
def zW:Wld:=⟨false,zS,zC,[],[]⟩
@[reducible] def Qv8 (n:Nat) (w:Wld):List AV:=match n with
 | 0=>[Qv5 w]
 | 1=>[Qwl w]
 | 2=>[Qwk w]
 | _=>[Qwo]
@[reducible] def Qv9 (n:Nat) (w:Wld):List (Nat×AO):=match n with
 | 0=>Qwa w
 | 1=>Qwh w
 | 2=>Qwm w
 | _=>[]
theorem JI.big{c:Ctl}(h:JI 1048576 c):JI 100000000 c:=h.mono (by omega)
theorem QvY{c:Ctl}(h:JI 100000000 c):zAc 169 [ctlA c] [Qtd c] (Qvc c):=by
 refine zAC func169 fun w0 Z=>?_
 have hj:=h.jn
 repeat'(first|(refine zhm fun hb=>?_;try exact zab)|refine Qe ?_|(apply zch;exact zcg)|exact zhk|refine zg3 ?_ ?_|refine kc (Jr (s:=c.first) h.first) rfl rfl ?_|refine kc (Jr (s:=c.state) h.state) rfl rfl ?_|refine kc (QvR (j:=c.jn) (by omega)) rfl rfl ?_|refine kq (Jr (s:=c.first) h.first) rfl rfl ?_|refine kq (Jr (s:=c.state) h.state) rfl rfl ?_|refine kq (QvR (j:=c.jn) (by omega)) rfl rfl ?_|intro _|fail)
 refine zr [5,1005,2005,3005,4005,5005,8,1008,2008,3008,4008,5008,11] ?_ ?_
 repeat'(first|exact ze3|refine ze2 ?_ ?_|refine ze4 ?_|exact ze5|fail)
 all_goals exact zp rfl
theorem Qv1{w:Wld}(h:QvO w):zAc 118 [wldA w] [Qv5 w] (Qwa w):=by
 refine zAC func118 fun w0 Z=>?_
 have hb:=h.v.bytes
 have hc:=h.codes
 repeat'(first|(refine zhm fun hb=>?_;try exact zab)|refine Qe ?_|(apply zch;exact zcg)|exact zhk|refine zg3 ?_ ?_|refine kc (Jr (s:=w.first) (h.v.first.mono (by omega))) rfl rfl ?_|refine kc (QvY (c:=w.ctl) h.v.ctl.big) rfl rfl ?_|refine kc (XJ (b:=w.bytes) rfl (by omega)) rfl rfl ?_|refine kc (VJ (l:=w.codes) (by omega)) rfl rfl ?_|refine kq (Jr (s:=w.first) (h.v.first.mono (by omega))) rfl rfl ?_|refine kq (QvY (c:=w.ctl) h.v.ctl.big) rfl rfl ?_|refine kq (XJ (b:=w.bytes) rfl (by omega)) rfl rfl ?_|refine kq (VJ (l:=w.codes) (by omega)) rfl rfl ?_|intro _|fail)
 refine zr [7,1007,2007,3007,4007,5007,10,1010,2010,3010,4010,5010,6010,7010,8010,9010,10010,11010,12010,13,16] ?_ ?_
 repeat'(first|exact ze3|refine ze2 ?_ ?_|refine ze4 ?_|exact ze5|fail)
 all_goals exact zp rfl
noncomputable def QvN (w:Wld) (x:QvV):Wld:=
 if w.up=true then
  if x.kind=1 then⟨true,w.first,((WE w.ctl x.cmd).1.map QsL).getD w.ctl,w.bytes,w.codes++[(WE w.ctl x.cmd).2]⟩
  else if x.kind=2 then match (WE w.ctl x.cmd).1 with
   | some d=>⟨false,w.first,zC,d.jn.bytes.take (QbR d.jn x.keep),w.codes++[(WE w.ctl x.cmd).2]⟩
   | none=>⟨true,w.first,w.ctl,w.bytes,w.codes++[(WE w.ctl x.cmd).2]⟩
  else if x.kind=3 then⟨false,w.first,zC,w.ctl.jn.bytes,w.codes⟩
  else w
 else if x.kind=4 then⟨true,w.first,(VP w.first w.bytes).1.getD zC,[],w.codes⟩else w
noncomputable def QvQ (w:Wld) (x:QvV):Nat:=
 if w.up=true then
  if x.kind=1 then 0
  else if x.kind=2 then(if(WE w.ctl x.cmd).1.isSome=true then 1 else 0)
  else if x.kind=3 then 1
  else 0
 else if x.kind=4 then 2 else 0
theorem Qv4{w:Wld}(h:Qb8 w=true)(hu:w.up=true):Vc w.ctl=true:=by
 unfold Qb8 at h
 rw[hu,Xaf,Xaf]at h
 exact h.2.1
theorem QvW{w:Wld}(h:Qb8 w=true)(hu:w.up=false):∃c,VP w.first w.bytes=(some c,0):=by
 unfold Qb8 at h
 rw[hu,Xaf,Xaf,decide_eq_true_eq]at h
 have h2:=h.2.2
 unfold VP at h2 ⊢
 split
 ·rename_i hc
  rw[if_pos hc]at h2
  split
  ·rename_i hp
   rw[hp]at h2
   exact absurd h2 (by intro h;cases h)
  ·exact⟨_,rfl⟩
 ·rename_i hc
  rw[if_neg hc]at h2
  exact absurd h2 (by intro h;cases h)
theorem Qwi{w:Wld}{x:QvV}(hs:QvO w)(hw:Qb8 w=true):zAc 106 [wldA w,QvD x] (Qv8 (QvQ w x) (QvN w x)) (Qv9 (QvQ w x) (QvN w x)):=by
 refine zAC func106 fun w0 Z=>?_
 have c0:=Qv1 hs
 have hb:=hs.v.bytes
 have hcl:=hs.codes
 have hce:=Qb w.codes
 obtain⟨kind,cmd,keep⟩:=x
 obtain⟨up,first,ctl,bytes,codes⟩:=w
 dsimp only at hb hcl hce
 dsimp only[Qv5,Qwa]at c0
 cases up with
 | true=>
  have hok:=Qv4 hw rfl
  have hj:=QkB hok
  have c1:=Qu3 (x:=cmd) hs.v.ctl hj
  dsimp only at hok hj c1
  by_cases k1:kind=1
  ·subst k1
   rw[show QvQ ⟨true,first,ctl,bytes,codes⟩ ⟨1,cmd,keep⟩=0 from rfl,show QvN ⟨true,first,ctl,bytes,codes⟩ ⟨1,cmd,keep⟩=⟨true,first,((WE ctl cmd).1.map QsL).getD ctl,bytes,codes++[(WE ctl cmd).2]⟩ from rfl]
   cases ht:(WE ctl cmd).1 with
   | none=>
    have hk:=QeV ht
    rw[ht]at c1
    generalize (WE ctl cmd).2=k at c1 hk ⊢
    dsimp only[coR,coB,Option.map,Option.getD]at c1 ⊢
    repeat'(first|(refine zhm fun hb=>?_;try exact zab)|refine Qe ?_|(apply zch;exact zcg)|exact zhk|refine zg3 ?_ ?_|intro _|fail)
    all_goals first|(exfalso;omega)|skip
    refine zr [11,1011,2011,3011,4011,5011,6011,7011,8011,9011,10011,11011,12011,13011,14011,15011,16011,17011,18011,19011,20011] ?_ ?_
    repeat'(first|exact ze3|refine ze2 ?_ ?_|refine ze4 ?_|exact ze5|fail)
    all_goals exact zp (by first|rfl|simp[intE])
   | some d=>
    obtain⟨s,h1,h2,_,h3⟩:=Qbm ht
    obtain⟨g1,g2,g3⟩:=XX hs.v.ctl ht
    rw[ht,h3]at c1
    rw[h3]
    have c2:=QvJ (c:=d) (by omega)
    dsimp only[coR,coB,Option.map,Option.getD]at c1 ⊢
    repeat'(first|(refine zhm fun hb=>?_;try exact zab)|refine Qe ?_|(apply zch;exact zcg)|exact zhk|refine zg3 ?_ ?_|(refine kn [25,1025,2025,3025,4025,5025,6025,7025,8025,9025,10025,11025,12025] (c2) rfl rfl (fun i hi=>?_);try dsimp only at hi)|intro _|fail)
    refine zr [11,1011,2011,3011,4011,5011,31,1031,2031,3031,4031,5031,6031,7031,8031,9031,10031,11031,12031,19011,20011] ?_ ?_
    repeat'(first|exact ze3|refine ze2 ?_ ?_|refine ze4 ?_|exact ze5|fail)
    all_goals exact zp (by first|rfl|simp[intE])
  by_cases k2:kind=2
  ·subst k2
   cases ht:(WE ctl cmd).1 with
   | none=>
    have hk:=QeV ht
    rw[show QvQ ⟨true,first,ctl,bytes,codes⟩ ⟨2,cmd,keep⟩=0 by unfold QvQ;simp[ht],show QvN ⟨true,first,ctl,bytes,codes⟩ ⟨2,cmd,keep⟩=⟨true,first,ctl,bytes,codes++[(WE ctl cmd).2]⟩ by unfold QvN;simp[ht]]
    rw[ht]at c1
    generalize (WE ctl cmd).2=k at c1 hk ⊢
    dsimp only[coR,coB,Option.map,Option.getD]at c1 ⊢
    repeat'(first|(refine zhm fun hb=>?_;try exact zab)|refine Qe ?_|(apply zch;exact zcg)|exact zhk|refine zg3 ?_ ?_|intro _|fail)
    all_goals first|(exfalso;omega)|skip
    refine zr [11,1011,2011,3011,4011,5011,6011,7011,8011,9011,10011,11011,12011,13011,14011,15011,16011,17011,18011,19011,20011] ?_ ?_
    repeat'(first|exact ze3|refine ze2 ?_ ?_|refine ze4 ?_|exact ze5|fail)
    all_goals exact zp (by first|rfl|simp[intE])
   | some d=>
    obtain⟨s,h1,h2,_,h3⟩:=Qbm ht
    obtain⟨g1,g2,g3⟩:=XX hs.v.ctl ht
    rw[show QvQ ⟨true,first,ctl,bytes,codes⟩ ⟨2,cmd,keep⟩=1 by unfold QvQ;simp[ht],show QvN ⟨true,first,ctl,bytes,codes⟩ ⟨2,cmd,keep⟩=⟨false,first,zC,d.jn.bytes.take (QbR d.jn keep),codes++[(WE ctl cmd).2]⟩ by unfold QvN;simp[ht]]
    rw[ht,h3]at c1
    rw[h3]
    have c2:=Qel (j:=d.jn) (keep:=keep) g3
    dsimp only[coR,coB,Option.map,Option.getD]at c1 ⊢
    repeat'(first|(refine zhm fun hb=>?_;try exact zab)|refine Qe ?_|(apply zch;exact zcg)|exact zhk|refine zg3 ?_ ?_|intro _|fail)
    refine zr [11,1011,2011,3011,4011,5011,64,20011] ?_ ?_
    repeat'(first|exact ze3|refine ze2 ?_ ?_|refine ze4 ?_|exact ze5|fail)
    all_goals exact zp (by first|rfl|simp[intE])
  by_cases k3:kind=3
  ·subst k3
   rw[show QvQ ⟨true,first,ctl,bytes,codes⟩ ⟨3,cmd,keep⟩=1 from rfl,show QvN ⟨true,first,ctl,bytes,codes⟩ ⟨3,cmd,keep⟩=⟨false,first,zC,ctl.jn.bytes,codes⟩ from rfl]
   repeat'(first|(refine zhm fun hb=>?_;try exact zab)|refine Qe ?_|(apply zch;exact zcg)|exact zhk|refine zg3 ?_ ?_|intro _|fail)
   refine zr [11,1011,2011,3011,4011,5011,18011,20011] ?_ ?_
   repeat'(first|exact ze3|refine ze2 ?_ ?_|refine ze4 ?_|exact ze5|fail)
   all_goals exact zp rfl
  ·rw[show QvQ ⟨true,first,ctl,bytes,codes⟩ ⟨kind,cmd,keep⟩=0 by unfold QvQ;simp[k1,k2,k3],show QvN ⟨true,first,ctl,bytes,codes⟩ ⟨kind,cmd,keep⟩=⟨true,first,ctl,bytes,codes⟩ by unfold QvN;simp[k1,k2,k3]]
   repeat'(first|(refine zhm fun hb=>?_;try exact zab)|refine Qe ?_|(apply zch;exact zcg)|exact zhk|refine zg3 ?_ ?_|intro _|fail)
   all_goals first|(exfalso;omega)|(exfalso;simp_all;done)|skip
   all_goals
    refine zr [11,1011,2011,3011,4011,5011,6011,7011,8011,9011,10011,11011,12011,13011,14011,15011,16011,17011,18011,19011,20011] ?_ ?_
    repeat'(first|exact ze3|refine ze2 ?_ ?_|refine ze4 ?_|exact ze5|fail)
    all_goals exact zp rfl
 | false=>
  obtain⟨c,hc⟩:=QvW hw rfl
  dsimp only at hc
  by_cases k4:kind=4
  ·subst k4
   have c1:=QoA (s:=first) (b:=bytes) hs.v.first hb
   rw[hc]at c1
   rw[show QvQ ⟨false,first,ctl,bytes,codes⟩ ⟨4,cmd,keep⟩=2 from rfl,show QvN ⟨false,first,ctl,bytes,codes⟩ ⟨4,cmd,keep⟩=⟨true,first,(VP first bytes).1.getD zC,[],codes⟩ from rfl,hc]
   dsimp only[coR,coB,Option.getD]at c1 ⊢
   repeat'(first|(refine zhm fun hb=>?_;try exact zab)|refine Qe ?_|(apply zch;exact zcg)|exact zhk|refine zg3 ?_ ?_|intro _|fail)
   refine zr [11,1011,2011,3011,4011,5011,103,1103,2103,3103,4103,5103,6103,7103,8103,9103,10103,11103,12103,20011] ?_ ?_
   repeat'(first|exact ze3|refine ze2 ?_ ?_|refine ze4 ?_|exact ze5|fail)
   all_goals exact zp rfl
  ·rw[show QvQ ⟨false,first,ctl,bytes,codes⟩ ⟨kind,cmd,keep⟩=0 by unfold QvQ;simp[k4],show QvN ⟨false,first,ctl,bytes,codes⟩ ⟨kind,cmd,keep⟩=⟨false,first,ctl,bytes,codes⟩ by unfold QvN;simp[k4]]
   repeat'(first|(refine zhm fun hb=>?_;try exact zab)|refine Qe ?_|(apply zch;exact zcg)|exact zhk|refine zg3 ?_ ?_|intro _|fail)
   all_goals first|(exfalso;omega)|(exfalso;simp_all;done)|skip
   all_goals
    refine zr [11,1011,2011,3011,4011,5011,6011,7011,8011,9011,10011,11011,12011,13011,14011,15011,16011,17011,18011,19011,20011] ?_ ?_
    repeat'(first|exact ze3|refine ze2 ?_ ?_|refine ze4 ?_|exact ze5|fail)
    all_goals exact zp rfl

noncomputable def doO (w:Wld) (x:QvV):Wld:=if Qb8 w=true then QvN w x else zW
noncomputable def doS (w:Wld) (x:QvV):Nat:=if Qb8 w=true then QvQ w x else 3
theorem QvX(w:Wld)(x:QvV):QvQ w x=0\/QvQ w x=1\/QvQ w x=2:=by
 unfold QvQ
 repeat' split
 all_goals simp
theorem do_e{w:Wld}{x:QvV}(hs:QvO w):zAc 40 [wldA w,QvD x] (Qv8 (doS w x) (doO w x)) (Qv9 (doS w x) (doO w x)):=by
 refine zAC func40 fun w0 Z=>?_
 have c0:=Qm6 hs.v
 unfold doO doS
 cases hw:Qb8 w with
 | false=>
  rw[hw]at c0
  rw[if_neg (by decide),if_neg (by decide)]
  repeat'(first|(refine zhm fun hb=>?_;try exact zab)|refine Qe ?_|(apply zch;exact zcg)|exact zhk|refine zg3 ?_ ?_|intro _|fail)
  refine zr [] ?_ ?_
  repeat'(first|exact ze3|refine ze2 ?_ ?_|refine ze4 ?_|exact ze5|fail)
  all_goals exact zp rfl
 | true=>
  rw[hw]at c0
  rw[if_pos rfl,if_pos rfl]
  have c1:=Qwi (x:=x) hs hw
  have hS:=QvX w x
  generalize QvQ w x=n at c1 hS ⊢
  generalize QvN w x=r at c1 ⊢
  rcases hS with rfl|rfl|rfl
  ·dsimp only[Qv8,Qv9]at c1 ⊢
   repeat'(first|(refine zhm fun hb=>?_;try exact zab)|refine Qe ?_|(apply zch;exact zcg)|exact zhk|refine zg3 ?_ ?_|intro _|fail)
   refine zr [11,1011,2011,3011,4011,5011,6011,7011,8011,9011,10011,11011,12011,13011,14011,15011,16011,17011,18011,19011,20011] ?_ ?_
   repeat'(first|exact ze3|refine ze2 ?_ ?_|refine ze4 ?_|exact ze5|fail)
   all_goals exact zp rfl
  ·dsimp only[Qv8,Qv9]at c1 ⊢
   repeat'(first|(refine zhm fun hb=>?_;try exact zab)|refine Qe ?_|(apply zch;exact zcg)|exact zhk|refine zg3 ?_ ?_|intro _|fail)
   refine zr [11,1011,2011,3011,4011,5011,6011,7011] ?_ ?_
   repeat'(first|exact ze3|refine ze2 ?_ ?_|refine ze4 ?_|exact ze5|fail)
   all_goals exact zp rfl
  ·dsimp only[Qv8,Qv9]at c1 ⊢
   repeat'(first|(refine zhm fun hb=>?_;try exact zab)|refine Qe ?_|(apply zch;exact zcg)|exact zhk|refine zg3 ?_ ?_|intro _|fail)
   refine zr [11,1011,2011,3011,4011,5011,6011,7011,8011,9011,10011,11011,12011,13011,14011,15011,16011,17011,18011,19011] ?_ ?_
   repeat'(first|exact ze3|refine ze2 ?_ ?_|refine ze4 ?_|exact ze5|fail)
   all_goals exact zp rfl
theorem Qv6{w:Wld}(h:QvO w):MCalls Tryz.prog 105 [wldA w] [] (fun _:Unit=>True) (fun _=>[.agg (.d (.b w.up)::(JB w.first++(ctlC w.ctl++[zL (QG w.bytes),.row 0])))]) (fun _=>[]) (fun _=>[(0,.row 3 (intE w.codes) true)]):=by
 refine zMC func105 fun w0 Z O=>?_
 have hb:=h.v.bytes
 have hj:=h.v.ctl.jn
 have hc:=h.codes
 have e1:=Qj w.bytes
 have e2:=Qj w.ctl.jn.bytes
 have e3:=Qb w.codes
 have c1:=QgN (s:=w.first) (h.v.first.mono (by omega))
 have c2:=QgN (s:=w.ctl.first) (h.v.ctl.first.mono (by omega))
 have c3:=QgN (s:=w.ctl.state) (h.v.ctl.state.mono (by omega))
 repeat'(first|(refine zhm fun hb=>?_;try exact zab)|(refine Qi 5 19 rfl ?_)|(refine Qi 6 28 rfl ?_)|refine Qe ?_|(apply zch;exact zcg)|exact zhk|refine zg3 ?_ ?_|refine kmu c1 ?_|refine kmu c2 ?_|refine kmu c3 ?_|intro _|fail)
 refine zp ?_
 refine YC () [33] (by exact trivial) rfl ?_ ?_ ?_
 all_goals exact zae
theorem do_s{w:Wld}{x:QvV}(hs:QvO w):DC Tryz.prog 38 [wldA w,QvD x] [wldA (doO w x)]:=by
 refine zMC func38 fun w0 Z O=>?_
 have c0:=Qnv hs.v
 have cc:=Qv6 hs
 unfold doO
 cases hw:Qb8 w with
 | false=>
  rw[hw]at c0
  rw[if_neg (by decide)]
  repeat'(first|(refine zhm fun hb=>?_;try exact zab)|refine Q7 ?_|(apply zch;exact zcg)|exact zhk|refine zg3 ?_ ?_|intro _|fail)
  exact zDR
 | true=>
  rw[hw]at c0
  rw[if_pos rfl]
  have hb:=hs.v.bytes
  have hcl:=hs.codes
  have hce:=Qb w.codes
  obtain⟨kind,cmd,keep⟩:=x
  obtain⟨up,first,ctl,bytes,codes⟩:=w
  dsimp only at hb hcl hce
  dsimp only at cc
  cases up with
  | true=>
   have hok:=Qv4 hw rfl
   dsimp only at hok
   by_cases k1:kind=1
   ·subst k1
    have c1:=QvK (x:=cmd) hs.v.ctl
    unfold QvA at c1
    dsimp only at c1
    rw[if_pos hok]at c1
    rw[show QvN ⟨true,first,ctl,bytes,codes⟩ ⟨1,cmd,keep⟩=⟨true,first,((WE ctl cmd).1.map QsL).getD ctl,bytes,codes++[(WE ctl cmd).2]⟩ from rfl]
    cases ht:(WE ctl cmd).1 with
    | none=>
     have hk:=QeV ht
     rw[ht]at c1
     generalize (WE ctl cmd).2=k at c1 hk ⊢
     dsimp only[Option.map,Option.getD]at c1 ⊢
     repeat'(first|(refine zhm fun hb=>?_;try exact zab)|refine Q7 ?_|(apply zch;exact zcg)|exact zhk|refine zg3 ?_ ?_|refine kmu cc ?_|refine kmu c1 ?_|intro _|fail)
     all_goals first|(exfalso;omega)|skip
     show AWp _ _ _ _
     refine Qs 14 rfl ?_
     refine QD ?_
     apply Qt
     refine zm () [] trivial ?_ ?_ ?_
     repeat'(first|exact ze3|refine ze2 ?_ ?_|refine ze4 ?_|exact ze5|fail)
     all_goals exact zp (by first|rfl|simp[intE])
    | some d=>
     obtain⟨s,h1,h2,_,h3⟩:=Qbm ht
     rw[ht,h3]at c1
     rw[h3]
     dsimp only[Option.map,Option.getD]at c1 ⊢
     repeat'(first|(refine zhm fun hb=>?_;try exact zab)|refine Q7 ?_|(apply zch;exact zcg)|exact zhk|refine zg3 ?_ ?_|refine kmu cc ?_|refine kmu c1 ?_|intro _|fail)
     show AWp _ _ _ _
     refine Qs 14 rfl ?_
     refine QD ?_
     apply Qt
     refine zm () [] trivial ?_ ?_ ?_
     repeat'(first|exact ze3|refine ze2 ?_ ?_|refine ze4 ?_|exact ze5|fail)
     all_goals exact zp (by first|rfl|simp[intE])
   by_cases k2:kind=2
   ·subst k2
    have c1:=QuL (x:=cmd) (keep:=keep) hs.v.ctl
    unfold Qei at c1
    dsimp only at c1
    rw[if_pos hok]at c1
    cases ht:(WE ctl cmd).1 with
    | none=>
     have hk:=QeV ht
     rw[show QvN ⟨true,first,ctl,bytes,codes⟩ ⟨2,cmd,keep⟩=⟨true,first,ctl,bytes,codes++[(WE ctl cmd).2]⟩ by unfold QvN;simp[ht]]
     rw[ht]at c1
     generalize (WE ctl cmd).2=k at c1 hk ⊢
     dsimp only[Option.map,Option.getD]at c1 ⊢
     repeat'(first|(refine zhm fun hb=>?_;try exact zab)|refine Q7 ?_|(apply zch;exact zcg)|exact zhk|refine zg3 ?_ ?_|refine kmu cc ?_|refine kmu c1 ?_|intro _|fail)
     all_goals first|(exfalso;omega)|skip
     show AWp _ _ _ _
     refine Qs 14 rfl ?_
     refine QD ?_
     apply Qt
     refine zm () [] trivial ?_ ?_ ?_
     repeat'(first|exact ze3|refine ze2 ?_ ?_|refine ze4 ?_|exact ze5|fail)
     all_goals exact zp (by first|rfl|simp[intE])
    | some d=>
     obtain⟨s,h1,h2,_,h3⟩:=Qbm ht
     rw[show QvN ⟨true,first,ctl,bytes,codes⟩ ⟨2,cmd,keep⟩=⟨false,first,zC,d.jn.bytes.take (QbR d.jn keep),codes++[(WE ctl cmd).2]⟩ by unfold QvN;simp[ht]]
     rw[ht,h3]at c1
     rw[h3]
     dsimp only[Option.map,Option.getD]at c1 ⊢
     generalize d.jn.bytes.take (QbR d.jn keep)=bb at c1 ⊢
     repeat'(first|(refine zhm fun hb=>?_;try exact zab)|refine Q7 ?_|(apply zch;exact zcg)|exact zhk|refine zg3 ?_ ?_|refine kmu cc ?_|refine kmu c1 ?_|intro _|fail)
     show AWp _ _ _ _
     refine Qs 14 rfl ?_
     refine QD ?_
     apply Qt
     refine zm () [] trivial ?_ ?_ ?_
     repeat'(first|exact ze3|refine ze2 ?_ ?_|refine ze4 ?_|exact ze5|fail)
     all_goals exact zp (by first|rfl|simp[intE])
   by_cases k3:kind=3
   ·subst k3
    rw[show QvN ⟨true,first,ctl,bytes,codes⟩ ⟨3,cmd,keep⟩=⟨false,first,zC,ctl.jn.bytes,codes⟩ from rfl]
    repeat'(first|(refine zhm fun hb=>?_;try exact zab)|refine Q7 ?_|(apply zch;exact zcg)|exact zhk|refine zg3 ?_ ?_|refine kmu cc ?_|intro _|fail)
    show AWp _ _ _ _
    refine Qs 14 rfl ?_
    exact zDR
   ·rw[show QvN ⟨true,first,ctl,bytes,codes⟩ ⟨kind,cmd,keep⟩=⟨true,first,ctl,bytes,codes⟩ by unfold QvN;simp[k1,k2,k3]]
    repeat'(first|(refine zhm fun hb=>?_;try exact zab)|refine Q7 ?_|(apply zch;exact zcg)|exact zhk|refine zg3 ?_ ?_|refine kmu cc ?_|intro _|fail)
    all_goals first|(exfalso;omega)|(exfalso;simp_all;done)|skip
    all_goals
     show AWp _ _ _ _
     refine Qs 14 rfl ?_
     exact zDR
  | false=>
   obtain⟨c,hc⟩:=QvW hw rfl
   dsimp only at hc
   by_cases k4:kind=4
   ·subst k4
    have c1:=Qos (s:=first) (b:=bytes) hs.v.first hb
    rw[hc]at c1
    rw[show QvN ⟨false,first,ctl,bytes,codes⟩ ⟨4,cmd,keep⟩=⟨true,first,(VP first bytes).1.getD zC,[],codes⟩ from rfl,hc]
    dsimp only[Option.getD]at c1 ⊢
    repeat'(first|(refine zhm fun hb=>?_;try exact zab)|refine Q7 ?_|(apply zch;exact zcg)|exact zhk|refine zg3 ?_ ?_|refine kmu cc ?_|refine kmu c1 ?_|intro _|fail)
    show AWp _ _ _ _
    refine Qs 14 rfl ?_
    exact zDR
   ·rw[show QvN ⟨false,first,ctl,bytes,codes⟩ ⟨kind,cmd,keep⟩=⟨false,first,ctl,bytes,codes⟩ by unfold QvN;simp[k4]]
    repeat'(first|(refine zhm fun hb=>?_;try exact zab)|refine Q7 ?_|(apply zch;exact zcg)|exact zhk|refine zg3 ?_ ?_|refine kmu cc ?_|intro _|fail)
    all_goals first|(exfalso;omega)|(exfalso;simp_all;done)|skip
    all_goals
     show AWp _ _ _ _
     refine Qs 14 rfl ?_
     exact zDR
end
end Go.Proofs.YtihgfennoalocaaGreat
