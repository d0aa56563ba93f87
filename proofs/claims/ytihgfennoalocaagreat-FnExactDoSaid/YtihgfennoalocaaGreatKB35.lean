/-
  Commands: CmdOk, both.
-/
import Derived.Test.YtihgfennoalocaaGreatKB7
import Derived.Test.YtihgfennoalocaaGreatKB8
import Derived.Test.YtihgfennoalocaaGreatKGlA
set_option maxRecDepth 100000
set_option maxHeartbeats 16000000
namespace Go.Proofs.YtihgfennoalocaaGreat
open Go Go.RowKit Tryz
section
attribute [local irreducible] AWp QJ OpOk ACalls ChA QsOk MCalls EnC PY

structure Cmd where
 kind:Int
 job:Job
 n:Int
 lic:V3
@[reducible] def cmdA (c:Cmd):AV:=.agg [zI c.kind,zI c.job.id,zI c.job.prio,zI c.job.nodes,zI c.job.need.a,zI c.job.need.b,zI c.job.need.c,zI c.job.lic.a,zI c.job.lic.b,zI c.job.lic.c,zI c.job.wall,zI c.job.level,zI c.n,zI c.lic.a,zI c.lic.b,zI c.lic.c]
def ZQ(v:V3):Bool:=v.a==0&&v.b==0&&v.c==0
def XY(j:Job):Bool:=j.id==0&&j.prio==0&&j.nodes==0&&ZQ j.need&&ZQ j.lic&&j.wall==0&&j.level==0
def JP(c:Cmd):Bool:=
 if c.kind=1 then Qu c.job&&c.n==0&&ZQ c.lic
 else if c.kind=2\/c.kind=3 then XY c.job&&ZQ c.lic&&inB c.n 1 999
 else if c.kind=4\/c.kind=5 then XY c.job&&ZQ c.lic&&inB c.n 0 23
 else if c.kind=6 then XY c.job&&c.n==0&&Qh c.lic
 else if c.kind=7 then XY c.job&&ZQ c.lic&&inB c.n 0 1000000000
 else false
theorem Qjd{c:Cmd}:zAc 199 [cmdA c] [.d (.b (JP c))] []:=by
 refine zAC func199 fun w0 Z=>?_
 repeat'(first|(refine zhm fun hb=>?_;try exact zab)|refine zUto ?_|refine zg2 ?_ ?_|refine zqj QX ?_|refine zqj Wz ?_|refine kc (Yh (v:=c.lic)) rfl rfl ?_|refine kc (ZM (j:=c.job)) rfl rfl ?_|intro _|fail)
 all_goals
  refine zr [] ?_ ?_
  repeat'(first|exact ze3|refine ze2 ?_ ?_|refine ze4 ?_|exact ze5|fail)
  refine zp ?_
  first
   | done
   | (rw[Bool.eq_iff_iff];simp[JP,Qu,Qh,XY,ZQ,inB]at *;omega)
   | (rw[Bool.eq_iff_iff];simp[JP,Qu,Qh,XY,ZQ,inB]at *;done)
   | (rw[Bool.eq_iff_iff];simp[JP,Qu,Qh,XY,ZQ,inB]at *;simp[*];done)
   | (rw[Bool.eq_iff_iff];simp[JP,Qu,Qh,XY,ZQ,inB]at *;simp[*];omega)
   | (rw[Bool.eq_iff_iff];simp[JP,Qu,Qh,XY,ZQ,inB]at *;simp[*];intros;omega)
theorem Qc8{c:Cmd}:zAc 181 [cmdA c] [.d (.b (JP c))] []:=by
 refine zAC func181 fun w0 Z=>?_
 repeat'(first|(refine zhm fun hb=>?_;try exact zab)|refine zUto ?_|refine zg2 ?_ ?_|refine zqj Y1 ?_|refine kc (JV (v:=c.lic)) rfl rfl ?_|refine kc (QcT (j:=c.job)) rfl rfl ?_|intro _|fail)
 all_goals
  refine zr [] ?_ ?_
  repeat'(first|exact ze3|refine ze2 ?_ ?_|refine ze4 ?_|exact ze5|fail)
  refine zp ?_
  first
   | done
   | (rw[Bool.eq_iff_iff];simp[JP,Qu,Qh,XY,ZQ,inB]at *;omega)
   | (rw[Bool.eq_iff_iff];simp[JP,Qu,Qh,XY,ZQ,inB]at *;done)
   | (rw[Bool.eq_iff_iff];simp[JP,Qu,Qh,XY,ZQ,inB]at *;simp[*];done)
   | (rw[Bool.eq_iff_iff];simp[JP,Qu,Qh,XY,ZQ,inB]at *;simp[*];omega)
   | (rw[Bool.eq_iff_iff];simp[JP,Qu,Qh,XY,ZQ,inB]at *;simp[*];intros;omega)

def cmdD(c:Cmd):List D:=[.n .i64 c.kind,.n .i64 c.job.id,.n .i64 c.job.prio,.n .i64 c.job.nodes,.n .i64 c.job.need.a,.n .i64 c.job.need.b,.n .i64 c.job.need.c,.n .i64 c.job.lic.a,.n .i64 c.job.lic.b,.n .i64 c.job.lic.c,.n .i64 c.job.wall,.n .i64 c.job.level,.n .i64 c.n,.n .i64 c.lic.a,.n .i64 c.lic.b,.n .i64 c.lic.c]
theorem Qut{W:World}{ds:List D}(h:TyD ⟨Tryz.prog,W,fun _=>true,NoZ,NoB,tt⟩ 40 68 ds):∃c:Cmd,ds=cmdD c:=by
 obtain⟨_,_,rfl,⟨k,rfl,_⟩,_,_,rfl,⟨_,_,rfl,⟨i,rfl,_⟩,_,_,rfl,⟨pr,rfl,_⟩,_,_,rfl,⟨no,rfl,_⟩,_,_,rfl,⟨_,_,rfl,⟨x,rfl,_⟩,_,_,rfl,⟨y,rfl,_⟩,_,_,rfl,⟨z,rfl,_⟩,rfl⟩,_,_,rfl,⟨_,_,rfl,⟨x',rfl,_⟩,_,_,rfl,⟨y',rfl,_⟩,_,_,rfl,⟨z',rfl,_⟩,rfl⟩,_,_,rfl,⟨wa,rfl,_⟩,_,_,rfl,⟨le,rfl,_⟩,rfl⟩,_,_,rfl,⟨n,rfl,_⟩,_,_,rfl,⟨_,_,rfl,⟨a,rfl,_⟩,_,_,rfl,⟨b,rfl,_⟩,_,_,rfl,⟨c,rfl,_⟩,rfl⟩,rfl⟩:=h
 exact⟨⟨k,⟨i,pr,no,⟨x,y,z⟩,⟨x',y',z'⟩,wa,le⟩,n,⟨a,b,c⟩⟩,rfl⟩
theorem Qod{c:Cmd}:zAc 22 [cmdA c] [cmdA c] []:=by
 refine zAC func22 fun w0 Z=>?_
 repeat'(first|(refine zhm fun hb=>?_;try exact zab)|refine zUto ?_|refine zg2 ?_ ?_|refine kc (Qa1 (x:=c.lic)) rfl rfl ?_|refine kc (QcV (x:=c.job)) rfl rfl ?_|intro _|fail)
 exact zrr
end
end Go.Proofs.YtihgfennoalocaaGreat
