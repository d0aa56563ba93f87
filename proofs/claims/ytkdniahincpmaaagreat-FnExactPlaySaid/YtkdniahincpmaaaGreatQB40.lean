/-
  Worlds of a law as rows of the caller's own: copies and marks; steps.
-/
import Derived.Test.YtkdniahincpmaaaGreatQB39
set_option maxRecDepth 100000
set_option maxHeartbeats 16000000
namespace Go.Proofs.YtkdniahincpmaaaGreat
open Go Go.RowKit Tryz
section
attribute [local irreducible] AWp QM OpOk ACalls ChA QsOk MCalls EnC PY

theorem QaW{w:Wld}(h:J6 1048576 w):zAc 26 [wldA w] [Qnh w] (QnV w):=by
 refine zAC func26 fun w0 Z=>?_
 repeat'(first|(refine zhm fun hb=>?_;try exact zab)|refine zUto ?_|refine zg2 ?_ ?_|refine kc (QdL (s:=w.first) h.first) rfl rfl ?_|refine kc (QuX (c:=w.ctl) h.ctl) rfl rfl ?_|refine kc (Qix (l:=w.bytes) h.bytes) rfl rfl ?_|refine kc (Qhn (l:=w.codes) h.codes) rfl rfl ?_|intro _)
 refine zr [9,1009,2009,3009,4009,5009,13,1013,2013,3013,4013,5013,6013,7013,8013,9013,10013,11013,12013,17,21] ?_ ?_
 repeat'(first|exact ze3|refine ze2 ?_ ?_|refine ze4 ?_|exact ze5|fail)
 all_goals exact zp rfl
theorem QmQ{c:Ctl}{k:Nat}(h:J1 1048576 c)(hk:k<=50000000000000):k<=kCt k c/\kCt k c<=k+3000000000000:=by
 have h1:=Zt h.first (k:=k) (by omega)
 have h2:=Zt h.state (k:=kSt k c.first) (by omega)
 have h3:=h.jn
 unfold kCt
 omega
def kWd(k:Nat)(w:Wld):Nat:=kCt (kSt k w.first) w.ctl+w.bytes.length+1*w.codes.length
def mWd(k:Nat)(w:Wld):Wld:=⟨w.up,mSt k w.first,mCt (kSt k w.first) w.ctl,JQ (gB (kCt (kSt k w.first) w.ctl)) w.bytes.length,JQ (gI (kCt (kSt k w.first) w.ctl+w.bytes.length)) w.codes.length⟩
@[reducible] def Qxl (w:Wld):List (Nat×AO):=[(1000000,.row 3 (intE w.first.topo.parents) true),(1000001,.row 62 (Qr w.first.topo.nodes) true),(1000002,.row 4 (Qk w.first.up) true),(1000003,.row 40 (jobE w.first.queue) true),(1000004,.row 66 (runE w.first.runs) true),(1000005,.row 123 (endE w.first.ends) true),(1000006,.row 3 (intE w.ctl.first.topo.parents) true),(1000007,.row 62 (Qr w.ctl.first.topo.nodes) true),(1000008,.row 4 (Qk w.ctl.first.up) true),(1000009,.row 40 (jobE w.ctl.first.queue) true),(1000010,.row 66 (runE w.ctl.first.runs) true),(1000011,.row 123 (endE w.ctl.first.ends) true),(1000012,.row 3 (intE w.ctl.state.topo.parents) true),(1000013,.row 62 (Qr w.ctl.state.topo.nodes) true),(1000014,.row 4 (Qk w.ctl.state.up) true),(1000015,.row 40 (jobE w.ctl.state.queue) true),(1000016,.row 66 (runE w.ctl.state.runs) true),(1000017,.row 123 (endE w.ctl.state.ends) true),(1000018,.row 5 (QC w.ctl.jn.bytes) true),(1000019,.row 5 (QC w.bytes) true),(1000020,.row 3 (intE w.codes) true)]
@[reducible] def QwR (w:Wld):List (Nat×AO):=[(1000000,.row 3 (intE w.first.topo.parents) true),(1000001,.row 62 (Qr w.first.topo.nodes) true),(1000002,.row 4 (Qk w.first.up) true),(1000003,.row 40 (jobE w.first.queue) true),(1000004,.row 66 (runE w.first.runs) true),(1000005,.row 123 (endE w.first.ends) true),(1000006,.row 5 (QC w.bytes) true),(1000007,.row 3 (intE w.codes) true)]
@[reducible] def Qxy (w:Wld):List (Nat×AO):=[(1000000,.row 3 (intE w.first.topo.parents) true),(1000001,.row 62 (Qr w.first.topo.nodes) true),(1000002,.row 4 (Qk w.first.up) true),(1000003,.row 40 (jobE w.first.queue) true),(1000004,.row 66 (runE w.first.runs) true),(1000005,.row 123 (endE w.first.ends) true),(1000006,.row 3 (intE w.ctl.first.topo.parents) true),(1000007,.row 62 (Qr w.ctl.first.topo.nodes) true),(1000008,.row 4 (Qk w.ctl.first.up) true),(1000009,.row 40 (jobE w.ctl.first.queue) true),(1000010,.row 66 (runE w.ctl.first.runs) true),(1000011,.row 123 (endE w.ctl.first.ends) true),(1000012,.row 3 (intE w.ctl.state.topo.parents) true),(1000013,.row 62 (Qr w.ctl.state.topo.nodes) true),(1000014,.row 4 (Qk w.ctl.state.up) true),(1000015,.row 40 (jobE w.ctl.state.queue) true),(1000016,.row 66 (runE w.ctl.state.runs) true),(1000017,.row 123 (endE w.ctl.state.ends) true),(1000018,.row 5 (QC w.ctl.jn.bytes) true),(1000019,.row 3 (intE w.codes) true)]
theorem W8{w:Wld}{k:Nat}(h:Yo w)(hk:k<=1000000000):MCalls Tryz.prog 30 [.agg (.d (.b w.up)::(stC w.first 1000000 1000001 1000002 1000003 1000004 1000005++((stC w.ctl.first 1000006 1000007 1000008 1000009 1000010 1000011++(stC w.ctl.state 1000012 1000013 1000014 1000015 1000016 1000017++[.row 1000018,zI w.ctl.jn.synced,zI w.ctl.jn.count]))++[.row 1000019,.row 1000020]))),zI k] (Qxl w) (fun(_:Unit)=>True) (fun _=>[zI ((kWd k w:Nat):Int)]) (fun _=>Qxl (mWd k w)) (fun _=>[]):=by
 refine Jb tt func30 rfl rfl rfl ⟨.inl rfl,.inl rfl,.inl rfl,.inl rfl,.inl rfl,.inl rfl,.inl rfl,.inl rfl,.inl rfl,.inl rfl,.inl rfl,.inl rfl,.inl rfl,.inl rfl,.inl rfl,.inl rfl,.inl rfl,.inl rfl,.inl rfl,.inl rfl,.inl rfl,trivial⟩ (fun _ _=>⟨⟨⟨rfl,rfl,lnI⟩,⟨rfl,rfl,lnN⟩,⟨rfl,rfl,lnB⟩,⟨rfl,rfl,lnJ⟩,⟨rfl,rfl,lnR⟩,⟨rfl,rfl,lnE⟩,⟨rfl,rfl,lnI⟩,⟨rfl,rfl,lnN⟩,⟨rfl,rfl,lnB⟩,⟨rfl,rfl,lnJ⟩,⟨rfl,rfl,lnR⟩,⟨rfl,rfl,lnE⟩,⟨rfl,rfl,lnI⟩,⟨rfl,rfl,lnN⟩,⟨rfl,rfl,lnB⟩,⟨rfl,rfl,lnJ⟩,⟨rfl,rfl,lnR⟩,⟨rfl,rfl,lnE⟩,⟨rfl,rfl,lnY⟩,⟨rfl,rfl,lnY⟩,⟨rfl,rfl,lnI⟩,trivial⟩,.inl rfl,.inl rfl,.inl rfl,.inl rfl,.inl rfl,.inl rfl,.inl rfl,.inl rfl,.inl rfl,.inl rfl,.inl rfl,.inl rfl,.inl rfl,.inl rfl,.inl rfl,.inl rfl,.inl rfl,.inl rfl,.inl rfl,.inl rfl,.inl rfl,trivial⟩) (fun w0 Z O=>?_)
 have hb:=Zt h.v.first (k:=k) (by omega)
 have a:=QmQ h.v.ctl (k:=kSt k w.first) (by omega)
 have hy:=h.v.bytes
 have hc:=h.codes
 repeat'(first|(refine zhm fun hb=>?_;try exact zab)|refine zUto ?_|refine zg2 ?_ ?_|(refine km [1000000,1000001,1000002,1000003,1000004,1000005] (VG (k:=k) h.v.first (by omega)) rfl rfl (fun i hi=>?_);try dsimp only at hi)|(refine km [1000006,1000007,1000008,1000009,1000010,1000011,1000012,1000013,1000014,1000015,1000016,1000017,1000018] (Qh7 (c:=w.ctl) (k:=kSt k w.first) h.v.ctl (by omega)) rfl rfl (fun i hi=>?_);try dsimp only at hi)|(refine km [1000019] (QaI (b:=w.bytes) (k:=kCt (kSt k w.first) w.ctl) (by omega) (by omega)) rfl rfl (fun i hi=>?_);try dsimp only at hi)|(refine km [1000020] (Zy tsz (l:=w.codes) (k:=kCt (kSt k w.first) w.ctl+w.bytes.length) (by omega) (by omega)) rfl rfl (fun i hi=>?_);try dsimp only at hi)|intro _)
 refine zp ?_
 refine Jk () [] (by exact trivial) rfl ?_ ?_ ?_
 all_goals exact zae
theorem Qiv{up:Bool}{s:Qb}{b:List UInt8}{cs:List Int}{k:Nat}(h:Yo ⟨up,s,zC,b,cs⟩)(hk:k<=1000000000):MCalls Tryz.prog 30 [.agg (.d (.b up)::(stC s 1000000 1000001 1000002 1000003 1000004 1000005++(ctl00++[.row 1000006,.row 1000007]))),zI k] (QwR ⟨up,s,zC,b,cs⟩) (fun(_:Unit)=>True) (fun _=>[zI ((kWd k ⟨up,s,zC,b,cs⟩:Nat):Int)]) (fun _=>QwR (mWd k ⟨up,s,zC,b,cs⟩)) (fun _=>[]):=by
 refine Jb tt func30 rfl rfl rfl ⟨.inl rfl,.inl rfl,.inl rfl,.inl rfl,.inl rfl,.inl rfl,.inl rfl,.inl rfl,trivial⟩ (fun _ _=>⟨⟨⟨rfl,rfl,lnI⟩,⟨rfl,rfl,lnN⟩,⟨rfl,rfl,lnB⟩,⟨rfl,rfl,lnJ⟩,⟨rfl,rfl,lnR⟩,⟨rfl,rfl,lnE⟩,⟨rfl,rfl,lnY⟩,⟨rfl,rfl,lnI⟩,trivial⟩,.inl rfl,.inl rfl,.inl rfl,.inl rfl,.inl rfl,.inl rfl,.inl rfl,.inl rfl,trivial⟩) (fun w0 Z O=>?_)
 have hb:=Zt h.v.first (k:=k) (by omega)
 have c:=h.v.bytes
 have a:=h.codes
 dsimp only at hb c a
 repeat'(first|(refine zhm fun hb=>?_;try exact zab)|refine zUto ?_|refine zg2 ?_ ?_|refine kc (QhX (k:=kSt k s)) rfl rfl ?_|(refine km [1000000,1000001,1000002,1000003,1000004,1000005] (VG (s:=s) (k:=k) h.v.first (by omega)) rfl rfl (fun i hi=>?_);try dsimp only at hi)|(refine km [1000006] (QaI (b:=b) (k:=kSt k s) (by omega) (by omega)) rfl rfl (fun i hi=>?_);try dsimp only at hi)|(refine km [1000007] (Zy tsz (l:=cs) (k:=kSt k s+b.length) (by omega) (by omega)) rfl rfl (fun i hi=>?_);try dsimp only at hi)|intro _)
 refine zp ?_
 refine Jk () [] (by exact trivial) rfl ?_ ?_ ?_
 all_goals exact zae
theorem Qjh{up:Bool}{s:Qb}{c:Ctl}{cs:List Int}{k:Nat}(h:Yo ⟨up,s,c,[],cs⟩)(hk:k<=1000000000):MCalls Tryz.prog 30 [.agg (.d (.b up)::(stC s 1000000 1000001 1000002 1000003 1000004 1000005++((stC c.first 1000006 1000007 1000008 1000009 1000010 1000011++(stC c.state 1000012 1000013 1000014 1000015 1000016 1000017++[.row 1000018,zI c.jn.synced,zI c.jn.count]))++[.nil,.row 1000019]))),zI k] (Qxy ⟨up,s,c,[],cs⟩) (fun(_:Unit)=>True) (fun _=>[zI ((kWd k ⟨up,s,c,[],cs⟩:Nat):Int)]) (fun _=>Qxy (mWd k ⟨up,s,c,[],cs⟩)) (fun _=>[]):=by
 refine Jb tt func30 rfl rfl rfl ⟨.inl rfl,.inl rfl,.inl rfl,.inl rfl,.inl rfl,.inl rfl,.inl rfl,.inl rfl,.inl rfl,.inl rfl,.inl rfl,.inl rfl,.inl rfl,.inl rfl,.inl rfl,.inl rfl,.inl rfl,.inl rfl,.inl rfl,.inl rfl,trivial⟩ (fun _ _=>⟨⟨⟨rfl,rfl,lnI⟩,⟨rfl,rfl,lnN⟩,⟨rfl,rfl,lnB⟩,⟨rfl,rfl,lnJ⟩,⟨rfl,rfl,lnR⟩,⟨rfl,rfl,lnE⟩,⟨rfl,rfl,lnI⟩,⟨rfl,rfl,lnN⟩,⟨rfl,rfl,lnB⟩,⟨rfl,rfl,lnJ⟩,⟨rfl,rfl,lnR⟩,⟨rfl,rfl,lnE⟩,⟨rfl,rfl,lnI⟩,⟨rfl,rfl,lnN⟩,⟨rfl,rfl,lnB⟩,⟨rfl,rfl,lnJ⟩,⟨rfl,rfl,lnR⟩,⟨rfl,rfl,lnE⟩,⟨rfl,rfl,lnY⟩,⟨rfl,rfl,lnI⟩,trivial⟩,.inl rfl,.inl rfl,.inl rfl,.inl rfl,.inl rfl,.inl rfl,.inl rfl,.inl rfl,.inl rfl,.inl rfl,.inl rfl,.inl rfl,.inl rfl,.inl rfl,.inl rfl,.inl rfl,.inl rfl,.inl rfl,.inl rfl,.inl rfl,trivial⟩) (fun w0 Z O=>?_)
 have hb:=Zt h.v.first (k:=k) (by omega)
 dsimp only at hb
 have a:=QmQ h.v.ctl (k:=kSt k s) (by omega)
 have e:=h.codes
 dsimp only at a e
 repeat'(first|(refine zhm fun hb=>?_;try exact zab)|refine zUto ?_|refine zg2 ?_ ?_|refine kc (QaB (k:=kCt (kSt k s) c)) rfl rfl ?_|(refine km [1000000,1000001,1000002,1000003,1000004,1000005] (VG (s:=s) (k:=k) h.v.first (by omega)) rfl rfl (fun i hi=>?_);try dsimp only at hi)|(refine km [1000006,1000007,1000008,1000009,1000010,1000011,1000012,1000013,1000014,1000015,1000016,1000017,1000018] (Qh7 (c:=c) (k:=kSt k s) h.v.ctl (by omega)) rfl rfl (fun i hi=>?_);try dsimp only at hi)|(refine km [1000019] (Zy tsz (l:=cs) (k:=kCt (kSt k s) c) (by omega) (by omega)) rfl rfl (fun i hi=>?_);try dsimp only at hi)|intro _)
 refine zp ?_
 refine Jk () [] (by exact trivial) rfl ?_ ?_ ?_
 all_goals exact zae
theorem QcN{k:Nat}:zAc 30 [wldA zW,zI k] [zI k] []:=by
 refine zAC func30 fun w0 Z=>?_
 repeat'(first|(refine zhm fun hb=>?_;try exact zab)|refine zUto ?_|refine zg2 ?_ ?_|refine zqj Qe9 ?_|refine zqj QhX ?_|refine zqj QaB ?_|refine zqj QbU ?_|intro _)
 refine zr [] ?_ ?_
 repeat'(first|exact ze3|refine ze2 ?_ ?_|refine ze4 ?_|exact ze5|fail)
 all_goals exact zp rfl
theorem YD{w:Wld}{k:Nat}(h:Yo w)(hk:k<=1000000000):zAc 32 [wldA (mWd k w),zI k] [zI ((kWd k w:Nat):Int)] []:=by
 refine zAC func32 fun w0 Z=>?_
 have hb:=Zt h.v.first (k:=k) (by omega)
 have a:=QmQ h.v.ctl (k:=kSt k w.first) (by omega)
 have hy:=h.v.bytes
 have hc:=h.codes
 repeat'(first|(refine zhm fun hb=>?_;try exact zab)|refine zUto ?_|refine zg2 ?_ ?_|refine kc (Qas (s:=w.first) (k:=k) h.v.first (by omega)) rfl rfl ?_|refine kc (Qok (c:=w.ctl) (k:=kSt k w.first) h.v.ctl (by omega)) rfl rfl ?_|refine kc (Qfc (n:=w.bytes.length) (k:=kCt (kSt k w.first) w.ctl) (by omega) (by omega)) rfl rfl ?_|refine kc (QcA (n:=w.codes.length) (k:=kCt (kSt k w.first) w.ctl+w.bytes.length) (by omega) (by omega)) rfl rfl ?_|intro _)
 refine zr [] ?_ ?_
 repeat'(first|exact ze3|refine ze2 ?_ ?_|refine ze4 ?_|exact ze5|fail)
 all_goals exact zp rfl
theorem Qmm{x:Vf}:zAc 77 [QkO x] [QkO x] []:=by
 refine zAC func77 fun w0 Z=>?_
 repeat'(first|(refine zhm fun hb=>?_;try exact zab)|refine zUto ?_|refine zg2 ?_ ?_|refine kc (QuV (c:=x.cmd)) rfl rfl ?_|intro _)
 refine zr [] ?_ ?_
 repeat'(first|exact ze3|refine ze2 ?_ ?_|refine ze4 ?_|exact ze5|fail)
 all_goals exact zp rfl

def Qo9(x:Vf):List D:=[.n .i64 x.kind,.n .i64 x.cmd.kind,.n .i64 x.cmd.job.id,.n .i64 x.cmd.job.prio,.n .i64 x.cmd.job.nodes,.n .i64 x.cmd.job.need.a,.n .i64 x.cmd.job.need.b,.n .i64 x.cmd.job.need.c,.n .i64 x.cmd.job.lic.a,.n .i64 x.cmd.job.lic.b,.n .i64 x.cmd.job.lic.c,.n .i64 x.cmd.job.wall,.n .i64 x.cmd.job.level,.n .i64 x.cmd.n,.n .i64 x.cmd.lic.a,.n .i64 x.cmd.lic.b,.n .i64 x.cmd.lic.c,.n .i64 x.keep]
theorem QuU{W:World}{n:Nat}{ds:List D}(h:TyD ⟨Tryz.prog,W,fun _=>true,NoZ,NoB,tt⟩ (n+25) 150 ds):∃x:Vf,ds=Qo9 x:=by
 obtain⟨_,_,rfl,⟨f,rfl,_⟩,_,_,rfl,⟨_,_,rfl,⟨d,rfl,_⟩,_,_,rfl,⟨_,_,rfl,⟨i,rfl,_⟩,_,_,rfl,⟨l,rfl,_⟩,_,_,rfl,⟨k,rfl,_⟩,_,_,rfl,⟨_,_,rfl,⟨x,rfl,_⟩,_,_,rfl,⟨y,rfl,_⟩,_,_,rfl,⟨z,rfl,_⟩,rfl⟩,_,_,rfl,⟨_,_,rfl,⟨o,rfl,_⟩,_,_,rfl,⟨p,rfl,_⟩,_,_,rfl,⟨q,rfl,_⟩,rfl⟩,_,_,rfl,⟨m,rfl,_⟩,_,_,rfl,⟨g,rfl,_⟩,rfl⟩,_,_,rfl,⟨j,rfl,_⟩,_,_,rfl,⟨_,_,rfl,⟨a,rfl,_⟩,_,_,rfl,⟨b,rfl,_⟩,_,_,rfl,⟨c,rfl,_⟩,rfl⟩,rfl⟩,_,_,rfl,⟨e,rfl,_⟩,rfl⟩:=h
 exact⟨⟨f,⟨d,⟨i,l,k,⟨x,y,z⟩,⟨o,p,q⟩,m,g⟩,j,⟨a,b,c⟩⟩,e⟩,rfl⟩
end
end Go.Proofs.YtkdniahincpmaaaGreat
