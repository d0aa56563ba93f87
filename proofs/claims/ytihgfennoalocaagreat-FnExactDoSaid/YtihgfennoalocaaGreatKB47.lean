/-
  Worlds of a law as rows of the caller's own: copies and marks; steps.
-/
import Derived.Test.YtihgfennoalocaaGreatKB46
set_option maxRecDepth 100000
set_option maxHeartbeats 16000000
namespace Go.Proofs.YtihgfennoalocaaGreat
open Go Go.RowKit Tryz
section
attribute [local irreducible] AWp QJ OpOk ACalls ChA QsOk MCalls EnC PY

theorem QvS{w:Wld}(h:Zm 1048576 w):zAc 18 [wldA w] [Qv5 w] (Qwa w):=by
 refine zAC func18 fun w0 Z=>?_
 repeat'(first|(refine zhm fun hb=>?_;try exact zab)|refine zUto ?_|refine zg2 ?_ ?_|refine kc (VM (s:=w.first) h.first) rfl rfl ?_|refine kc (Qf8 (c:=w.ctl) h.ctl) rfl rfl ?_|refine kc (Zu (l:=w.bytes) h.bytes) rfl rfl ?_|refine kc (QkY (l:=w.codes) h.codes) rfl rfl ?_|intro _|fail)
 refine zr [9,1009,2009,3009,4009,5009,13,1013,2013,3013,4013,5013,6013,7013,8013,9013,10013,11013,12013,17,21] ?_ ?_
 repeat'(first|exact ze3|refine ze2 ?_ ?_|refine ze4 ?_|exact ze5|fail)
 all_goals exact zp rfl
theorem Qv7{c:Ctl}{k:Nat}(h:JI 1048576 c)(hk:k<=50000000000000):k<=kCt k c/\kCt k c<=k+3000000000000:=by
 have h1:=QbV h.first (k:=k) (by omega)
 have h2:=QbV h.state (k:=kSt k c.first) (by omega)
 have h3:=h.jn
 unfold kCt
 omega
def kWd(k:Nat)(w:Wld):Nat:=kCt (kSt k w.first) w.ctl+w.bytes.length+1*w.codes.length
def mWd(k:Nat)(w:Wld):Wld:=⟨w.up,mSt k w.first,mCt (kSt k w.first) w.ctl,JM (gB (kCt (kSt k w.first) w.ctl)) w.bytes.length,JM (gI (kCt (kSt k w.first) w.ctl+w.bytes.length)) w.codes.length⟩
@[reducible] def Qwj (w:Wld):List (Nat×AO):=[(1000000,.row 3 (intE w.first.topo.parents) true),(1000001,.row 225 (Qz w.first.topo.nodes) true),(1000002,.row 4 (Qq w.first.up) true),(1000003,.row 72 (jobE w.first.queue) true),(1000004,.row 170 (runE w.first.runs) true),(1000005,.row 172 (endE w.first.ends) true),(1000006,.row 3 (intE w.ctl.first.topo.parents) true),(1000007,.row 225 (Qz w.ctl.first.topo.nodes) true),(1000008,.row 4 (Qq w.ctl.first.up) true),(1000009,.row 72 (jobE w.ctl.first.queue) true),(1000010,.row 170 (runE w.ctl.first.runs) true),(1000011,.row 172 (endE w.ctl.first.ends) true),(1000012,.row 3 (intE w.ctl.state.topo.parents) true),(1000013,.row 225 (Qz w.ctl.state.topo.nodes) true),(1000014,.row 4 (Qq w.ctl.state.up) true),(1000015,.row 72 (jobE w.ctl.state.queue) true),(1000016,.row 170 (runE w.ctl.state.runs) true),(1000017,.row 172 (endE w.ctl.state.ends) true),(1000018,.row 5 (QG w.ctl.jn.bytes) true),(1000019,.row 5 (QG w.bytes) true),(1000020,.row 3 (intE w.codes) true)]
@[reducible] def Qwn (w:Wld):List (Nat×AO):=[(1000000,.row 3 (intE w.first.topo.parents) true),(1000001,.row 225 (Qz w.first.topo.nodes) true),(1000002,.row 4 (Qq w.first.up) true),(1000003,.row 72 (jobE w.first.queue) true),(1000004,.row 170 (runE w.first.runs) true),(1000005,.row 172 (endE w.first.ends) true),(1000006,.row 5 (QG w.bytes) true),(1000007,.row 3 (intE w.codes) true)]
@[reducible] def Qwp (w:Wld):List (Nat×AO):=[(1000000,.row 3 (intE w.first.topo.parents) true),(1000001,.row 225 (Qz w.first.topo.nodes) true),(1000002,.row 4 (Qq w.first.up) true),(1000003,.row 72 (jobE w.first.queue) true),(1000004,.row 170 (runE w.first.runs) true),(1000005,.row 172 (endE w.first.ends) true),(1000006,.row 3 (intE w.ctl.first.topo.parents) true),(1000007,.row 225 (Qz w.ctl.first.topo.nodes) true),(1000008,.row 4 (Qq w.ctl.first.up) true),(1000009,.row 72 (jobE w.ctl.first.queue) true),(1000010,.row 170 (runE w.ctl.first.runs) true),(1000011,.row 172 (endE w.ctl.first.ends) true),(1000012,.row 3 (intE w.ctl.state.topo.parents) true),(1000013,.row 225 (Qz w.ctl.state.topo.nodes) true),(1000014,.row 4 (Qq w.ctl.state.up) true),(1000015,.row 72 (jobE w.ctl.state.queue) true),(1000016,.row 170 (runE w.ctl.state.runs) true),(1000017,.row 172 (endE w.ctl.state.ends) true),(1000018,.row 5 (QG w.ctl.jn.bytes) true),(1000019,.row 3 (intE w.codes) true)]
theorem QvP{w:Wld}{k:Nat}(h:QvO w)(hk:k<=1000000000):MCalls Tryz.prog 41 [.agg (.d (.b w.up)::(stC w.first 1000000 1000001 1000002 1000003 1000004 1000005++((stC w.ctl.first 1000006 1000007 1000008 1000009 1000010 1000011++(stC w.ctl.state 1000012 1000013 1000014 1000015 1000016 1000017++[.row 1000018,zI w.ctl.jn.synced,zI w.ctl.jn.count]))++[.row 1000019,.row 1000020]))),zI k] (Qwj w) (fun(_:Unit)=>True) (fun _=>[zI ((kWd k w:Nat):Int)]) (fun _=>Qwj (mWd k w)) (fun _=>[]):=by
 refine Ji tt func41 rfl rfl rfl ⟨.inl rfl,.inl rfl,.inl rfl,.inl rfl,.inl rfl,.inl rfl,.inl rfl,.inl rfl,.inl rfl,.inl rfl,.inl rfl,.inl rfl,.inl rfl,.inl rfl,.inl rfl,.inl rfl,.inl rfl,.inl rfl,.inl rfl,.inl rfl,.inl rfl,trivial⟩ (fun _ _=>⟨⟨⟨rfl,rfl,lnI⟩,⟨rfl,rfl,lnN⟩,⟨rfl,rfl,lnB⟩,⟨rfl,rfl,lnJ⟩,⟨rfl,rfl,lnR⟩,⟨rfl,rfl,lnE⟩,⟨rfl,rfl,lnI⟩,⟨rfl,rfl,lnN⟩,⟨rfl,rfl,lnB⟩,⟨rfl,rfl,lnJ⟩,⟨rfl,rfl,lnR⟩,⟨rfl,rfl,lnE⟩,⟨rfl,rfl,lnI⟩,⟨rfl,rfl,lnN⟩,⟨rfl,rfl,lnB⟩,⟨rfl,rfl,lnJ⟩,⟨rfl,rfl,lnR⟩,⟨rfl,rfl,lnE⟩,⟨rfl,rfl,lnY⟩,⟨rfl,rfl,lnY⟩,⟨rfl,rfl,lnI⟩,trivial⟩,.inl rfl,.inl rfl,.inl rfl,.inl rfl,.inl rfl,.inl rfl,.inl rfl,.inl rfl,.inl rfl,.inl rfl,.inl rfl,.inl rfl,.inl rfl,.inl rfl,.inl rfl,.inl rfl,.inl rfl,.inl rfl,.inl rfl,.inl rfl,.inl rfl,trivial⟩) (fun w0 Z O=>?_)
 have hb:=QbV h.v.first (k:=k) (by omega)
 have hb2:=Qv7 h.v.ctl (k:=kSt k w.first) (by omega)
 have hy:=h.v.bytes
 have hc:=h.codes
 repeat'(first|(refine zhm fun hb=>?_;try exact zab)|refine zUto ?_|refine zg2 ?_ ?_|(refine km [1000000,1000001,1000002,1000003,1000004,1000005] (V1 (k:=k) h.v.first (by omega)) rfl rfl (fun i hi=>?_);try dsimp only at hi)|(refine km [1000006,1000007,1000008,1000009,1000010,1000011,1000012,1000013,1000014,1000015,1000016,1000017,1000018] (Qc3 (c:=w.ctl) (k:=kSt k w.first) h.v.ctl (by omega)) rfl rfl (fun i hi=>?_);try dsimp only at hi)|(refine km [1000019] (Za (b:=w.bytes) (k:=kCt (kSt k w.first) w.ctl) (by omega) (by omega)) rfl rfl (fun i hi=>?_);try dsimp only at hi)|(refine km [1000020] (Qex tsz (l:=w.codes) (k:=kCt (kSt k w.first) w.ctl+w.bytes.length) (by omega) (by omega)) rfl rfl (fun i hi=>?_);try dsimp only at hi)|intro _|fail)
 refine zp ?_
 refine YC () [] (by exact trivial) rfl ?_ ?_ ?_
 all_goals exact zae
theorem QvZ{up:Bool}{s:Qd}{b:List UInt8}{cs:List Int}{k:Nat}(h:QvO ⟨up,s,zC,b,cs⟩)(hk:k<=1000000000):MCalls Tryz.prog 41 [.agg (.d (.b up)::(stC s 1000000 1000001 1000002 1000003 1000004 1000005++(ctl00++[.row 1000006,.row 1000007]))),zI k] (Qwn ⟨up,s,zC,b,cs⟩) (fun(_:Unit)=>True) (fun _=>[zI ((kWd k ⟨up,s,zC,b,cs⟩:Nat):Int)]) (fun _=>Qwn (mWd k ⟨up,s,zC,b,cs⟩)) (fun _=>[]):=by
 refine Ji tt func41 rfl rfl rfl ⟨.inl rfl,.inl rfl,.inl rfl,.inl rfl,.inl rfl,.inl rfl,.inl rfl,.inl rfl,trivial⟩ (fun _ _=>⟨⟨⟨rfl,rfl,lnI⟩,⟨rfl,rfl,lnN⟩,⟨rfl,rfl,lnB⟩,⟨rfl,rfl,lnJ⟩,⟨rfl,rfl,lnR⟩,⟨rfl,rfl,lnE⟩,⟨rfl,rfl,lnY⟩,⟨rfl,rfl,lnI⟩,trivial⟩,.inl rfl,.inl rfl,.inl rfl,.inl rfl,.inl rfl,.inl rfl,.inl rfl,.inl rfl,trivial⟩) (fun w0 Z O=>?_)
 have hb:=QbV h.v.first (k:=k) (by omega)
 have hy:=h.v.bytes
 have hc:=h.codes
 dsimp only at hb hy hc
 repeat'(first|(refine zhm fun hb=>?_;try exact zab)|refine zUto ?_|refine zg2 ?_ ?_|refine kc (QgF (k:=kSt k s)) rfl rfl ?_|(refine km [1000000,1000001,1000002,1000003,1000004,1000005] (V1 (s:=s) (k:=k) h.v.first (by omega)) rfl rfl (fun i hi=>?_);try dsimp only at hi)|(refine km [1000006] (Za (b:=b) (k:=kSt k s) (by omega) (by omega)) rfl rfl (fun i hi=>?_);try dsimp only at hi)|(refine km [1000007] (Qex tsz (l:=cs) (k:=kSt k s+b.length) (by omega) (by omega)) rfl rfl (fun i hi=>?_);try dsimp only at hi)|intro _|fail)
 refine zp ?_
 refine YC () [] (by exact trivial) rfl ?_ ?_ ?_
 all_goals exact zae
theorem Qv0{up:Bool}{s:Qd}{c:Ctl}{cs:List Int}{k:Nat}(h:QvO ⟨up,s,c,[],cs⟩)(hk:k<=1000000000):MCalls Tryz.prog 41 [.agg (.d (.b up)::(stC s 1000000 1000001 1000002 1000003 1000004 1000005++((stC c.first 1000006 1000007 1000008 1000009 1000010 1000011++(stC c.state 1000012 1000013 1000014 1000015 1000016 1000017++[.row 1000018,zI c.jn.synced,zI c.jn.count]))++[.nil,.row 1000019]))),zI k] (Qwp ⟨up,s,c,[],cs⟩) (fun(_:Unit)=>True) (fun _=>[zI ((kWd k ⟨up,s,c,[],cs⟩:Nat):Int)]) (fun _=>Qwp (mWd k ⟨up,s,c,[],cs⟩)) (fun _=>[]):=by
 refine Ji tt func41 rfl rfl rfl ⟨.inl rfl,.inl rfl,.inl rfl,.inl rfl,.inl rfl,.inl rfl,.inl rfl,.inl rfl,.inl rfl,.inl rfl,.inl rfl,.inl rfl,.inl rfl,.inl rfl,.inl rfl,.inl rfl,.inl rfl,.inl rfl,.inl rfl,.inl rfl,trivial⟩ (fun _ _=>⟨⟨⟨rfl,rfl,lnI⟩,⟨rfl,rfl,lnN⟩,⟨rfl,rfl,lnB⟩,⟨rfl,rfl,lnJ⟩,⟨rfl,rfl,lnR⟩,⟨rfl,rfl,lnE⟩,⟨rfl,rfl,lnI⟩,⟨rfl,rfl,lnN⟩,⟨rfl,rfl,lnB⟩,⟨rfl,rfl,lnJ⟩,⟨rfl,rfl,lnR⟩,⟨rfl,rfl,lnE⟩,⟨rfl,rfl,lnI⟩,⟨rfl,rfl,lnN⟩,⟨rfl,rfl,lnB⟩,⟨rfl,rfl,lnJ⟩,⟨rfl,rfl,lnR⟩,⟨rfl,rfl,lnE⟩,⟨rfl,rfl,lnY⟩,⟨rfl,rfl,lnI⟩,trivial⟩,.inl rfl,.inl rfl,.inl rfl,.inl rfl,.inl rfl,.inl rfl,.inl rfl,.inl rfl,.inl rfl,.inl rfl,.inl rfl,.inl rfl,.inl rfl,.inl rfl,.inl rfl,.inl rfl,.inl rfl,.inl rfl,.inl rfl,.inl rfl,trivial⟩) (fun w0 Z O=>?_)
 have hb:=QbV h.v.first (k:=k) (by omega)
 dsimp only at hb
 have hb2:=Qv7 h.v.ctl (k:=kSt k s) (by omega)
 have hc:=h.codes
 dsimp only at hb2 hc
 repeat'(first|(refine zhm fun hb=>?_;try exact zab)|refine zUto ?_|refine zg2 ?_ ?_|refine kc (XZ (k:=kCt (kSt k s) c)) rfl rfl ?_|(refine km [1000000,1000001,1000002,1000003,1000004,1000005] (V1 (s:=s) (k:=k) h.v.first (by omega)) rfl rfl (fun i hi=>?_);try dsimp only at hi)|(refine km [1000006,1000007,1000008,1000009,1000010,1000011,1000012,1000013,1000014,1000015,1000016,1000017,1000018] (Qc3 (c:=c) (k:=kSt k s) h.v.ctl (by omega)) rfl rfl (fun i hi=>?_);try dsimp only at hi)|(refine km [1000019] (Qex tsz (l:=cs) (k:=kCt (kSt k s) c) (by omega) (by omega)) rfl rfl (fun i hi=>?_);try dsimp only at hi)|intro _|fail)
 refine zp ?_
 refine YC () [] (by exact trivial) rfl ?_ ?_ ?_
 all_goals exact zae
theorem QvT{k:Nat}:zAc 41 [wldA zW,zI k] [zI k] []:=by
 refine zAC func41 fun w0 Z=>?_
 repeat'(first|(refine zhm fun hb=>?_;try exact zab)|refine zUto ?_|refine zg2 ?_ ?_|refine zqj Qi2 ?_|refine zqj QgF ?_|refine zqj XZ ?_|refine zqj Qey ?_|intro _|fail)
 refine zr [] ?_ ?_
 repeat'(first|exact ze3|refine ze2 ?_ ?_|refine ze4 ?_|exact ze5|fail)
 all_goals exact zp rfl
theorem QvM{w:Wld}{k:Nat}(h:QvO w)(hk:k<=1000000000):zAc 42 [wldA (mWd k w),zI k] [zI ((kWd k w:Nat):Int)] []:=by
 refine zAC func42 fun w0 Z=>?_
 have hb:=QbV h.v.first (k:=k) (by omega)
 have hb2:=Qv7 h.v.ctl (k:=kSt k w.first) (by omega)
 have hy:=h.v.bytes
 have hc:=h.codes
 repeat'(first|(refine zhm fun hb=>?_;try exact zab)|refine zUto ?_|refine zg2 ?_ ?_|refine kc (Qd1 (s:=w.first) (k:=k) h.v.first (by omega)) rfl rfl ?_|refine kc (QaN (c:=w.ctl) (k:=kSt k w.first) h.v.ctl (by omega)) rfl rfl ?_|refine kc (XU (n:=w.bytes.length) (k:=kCt (kSt k w.first) w.ctl) (by omega) (by omega)) rfl rfl ?_|refine kc (Qe0 (n:=w.codes.length) (k:=kCt (kSt k w.first) w.ctl+w.bytes.length) (by omega) (by omega)) rfl rfl ?_|intro _|fail)
 refine zr [] ?_ ?_
 repeat'(first|exact ze3|refine ze2 ?_ ?_|refine ze4 ?_|exact ze5|fail)
 all_goals exact zp rfl
theorem QvU{x:QvV}:zAc 39 [QvD x] [QvD x] []:=by
 refine zAC func39 fun w0 Z=>?_
 repeat'(first|(refine zhm fun hb=>?_;try exact zab)|refine zUto ?_|refine zg2 ?_ ?_|refine kc (Qod (c:=x.cmd)) rfl rfl ?_|intro _|fail)
 refine zr [] ?_ ?_
 repeat'(first|exact ze3|refine ze2 ?_ ?_|refine ze4 ?_|exact ze5|fail)
 all_goals exact zp rfl

def Qwq(x:QvV):List D:=[.n .i64 x.kind,.n .i64 x.cmd.kind,.n .i64 x.cmd.job.id,.n .i64 x.cmd.job.prio,.n .i64 x.cmd.job.nodes,.n .i64 x.cmd.job.need.a,.n .i64 x.cmd.job.need.b,.n .i64 x.cmd.job.need.c,.n .i64 x.cmd.job.lic.a,.n .i64 x.cmd.job.lic.b,.n .i64 x.cmd.job.lic.c,.n .i64 x.cmd.job.wall,.n .i64 x.cmd.job.level,.n .i64 x.cmd.n,.n .i64 x.cmd.lic.a,.n .i64 x.cmd.lic.b,.n .i64 x.cmd.lic.c,.n .i64 x.keep]
theorem Qwe{W:World}{n:Nat}{ds:List D}(h:TyD ⟨Tryz.prog,W,fun _=>true,NoZ,NoB,tt⟩ (n+25) 91 ds):∃x:QvV,ds=Qwq x:=by
 obtain⟨_,_,rfl,⟨kk,rfl,_⟩,_,_,rfl,⟨_,_,rfl,⟨ck,rfl,_⟩,_,_,rfl,⟨_,_,rfl,⟨i,rfl,_⟩,_,_,rfl,⟨pr,rfl,_⟩,_,_,rfl,⟨no,rfl,_⟩,_,_,rfl,⟨_,_,rfl,⟨x,rfl,_⟩,_,_,rfl,⟨y,rfl,_⟩,_,_,rfl,⟨z,rfl,_⟩,rfl⟩,_,_,rfl,⟨_,_,rfl,⟨x',rfl,_⟩,_,_,rfl,⟨y',rfl,_⟩,_,_,rfl,⟨z',rfl,_⟩,rfl⟩,_,_,rfl,⟨wa,rfl,_⟩,_,_,rfl,⟨le,rfl,_⟩,rfl⟩,_,_,rfl,⟨nn,rfl,_⟩,_,_,rfl,⟨_,_,rfl,⟨a,rfl,_⟩,_,_,rfl,⟨b,rfl,_⟩,_,_,rfl,⟨c,rfl,_⟩,rfl⟩,rfl⟩,_,_,rfl,⟨ke,rfl,_⟩,rfl⟩:=h
 exact⟨⟨kk,⟨ck,⟨i,pr,no,⟨x,y,z⟩,⟨x',y',z'⟩,wa,le⟩,nn,⟨a,b,c⟩⟩,ke⟩,rfl⟩
end
end Go.Proofs.YtihgfennoalocaaGreat
