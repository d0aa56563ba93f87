/-
  Commands: CmdOk, both.
-/
import Derived.Test.YtelbahebpmkfjaaGreatKB7
import Derived.Test.YtelbahebpmkfjaaGreatKB8
import Derived.Test.YtelbahebpmkfjaaGreatKGlA
set_option maxRecDepth 100000
set_option maxHeartbeats 16000000
namespace Go.Proofs.YtelbahebpmkfjaaGreat
open Go Go.RowKit
attribute [local irreducible] AWp Qat OpOk ACalls ChA QsOk MCalls EnC PY

structure Cmd where
 kind:Int
 job:Job
 n:Int
 lic:V3
@[reducible] def cmdA (c:Cmd):AV:=.agg [.d (.n .i64 c.kind),.d (.n .i64 c.job.id),.d (.n .i64 c.job.prio),.d (.n .i64 c.job.nodes),.d (.n .i64 c.job.need.a),.d (.n .i64 c.job.need.b),.d (.n .i64 c.job.need.c),.d (.n .i64 c.job.lic.a),.d (.n .i64 c.job.lic.b),.d (.n .i64 c.job.lic.c),.d (.n .i64 c.job.wall),.d (.n .i64 c.job.level),.d (.n .i64 c.n),.d (.n .i64 c.lic.a),.d (.n .i64 c.lic.b),.d (.n .i64 c.lic.c)]
def Qfp (v:V3):Bool:=v.a==0&&v.b==0&&v.c==0
def QfX (j:Job):Bool:=j.id==0&&j.prio==0&&j.nodes==0&&Qfp j.need&&Qfp j.lic&&j.wall==0&&j.level==0
def QcF (c:Cmd):Bool:=
 if c.kind=1 then Qau c.job&&c.n==0&&Qfp c.lic
 else if c.kind=2∨c.kind=3 then QfX c.job&&Qfp c.lic&&inB c.n 1 999
 else if c.kind=4∨c.kind=5 then QfX c.job&&Qfp c.lic&&inB c.n 0 23
 else if c.kind=6 then QfX c.job&&c.n==0&&Qal c.lic
 else if c.kind=7 then QfX c.job&&Qfp c.lic&&inB c.n 0 1000000000
 else false
theorem Qwx {c:Cmd}:ACalls Tryz.prog 122 [cmdA c] [.d (.b (QcF c))] []:=by
 refine Qaa tt Tryz.func122 rfl rfl rfl (fun w0 Z=>?_)
 repeat' (first|refine zst ?_|(refine zhm fun hb=>?_;try exact zab)|refine zg2 ?_ ?_|refine zop ?_|refine kc (QaX) rfl rfl ?_|refine kc (QcB) rfl rfl ?_|refine kc (Qct (v:=c.lic)) rfl rfl ?_|refine kc (QeC (j:=c.job)) rfl rfl ?_|fail)
 all_goals
  refine zr [] ?_ ?_
  repeat'(first|apply And.intro|exact ze0|refine ze1 ?_|refine zei ?_ ?_|exact rfl|trivial)
  refine Stop.mk ?_
  first
   | done
   | (rw [Bool.eq_iff_iff];simp [QcF,Qau,Qal,QfX,Qfp,inB] at *;omega)
   | (rw [Bool.eq_iff_iff];simp [QcF,Qau,Qal,QfX,Qfp,inB] at *;done)
   | (rw [Bool.eq_iff_iff];simp [QcF,Qau,Qal,QfX,Qfp,inB] at *;simp [*];done)
   | (rw [Bool.eq_iff_iff];simp [QcF,Qau,Qal,QfX,Qfp,inB] at *;simp [*];omega)
   | (rw [Bool.eq_iff_iff];simp [QcF,Qau,Qal,QfX,Qfp,inB] at *;simp [*];intros;omega)
theorem Qva {c:Cmd}:ACalls Tryz.prog 115 [cmdA c] [.d (.b (QcF c))] []:=by
 refine Qaa tt Tryz.func115 rfl rfl rfl (fun w0 Z=>?_)
 repeat' (first|refine zst ?_|(refine zhm fun hb=>?_;try exact zab)|refine zg2 ?_ ?_|refine zop ?_|refine kc (Qce) rfl rfl ?_|refine kc (Qb8 (v:=c.lic)) rfl rfl ?_|refine kc (QiD (j:=c.job)) rfl rfl ?_|fail)
 all_goals
  refine zr [] ?_ ?_
  repeat'(first|apply And.intro|exact ze0|refine ze1 ?_|refine zei ?_ ?_|exact rfl|trivial)
  refine Stop.mk ?_
  first
   | done
   | (rw [Bool.eq_iff_iff];simp [QcF,Qau,Qal,QfX,Qfp,inB] at *;omega)
   | (rw [Bool.eq_iff_iff];simp [QcF,Qau,Qal,QfX,Qfp,inB] at *;done)
   | (rw [Bool.eq_iff_iff];simp [QcF,Qau,Qal,QfX,Qfp,inB] at *;simp [*];done)
   | (rw [Bool.eq_iff_iff];simp [QcF,Qau,Qal,QfX,Qfp,inB] at *;simp [*];omega)
   | (rw [Bool.eq_iff_iff];simp [QcF,Qau,Qal,QfX,Qfp,inB] at *;simp [*];intros;omega)
end Go.Proofs.YtelbahebpmkfjaaGreat
namespace Go.Proofs.YtelbahebpmkfjaaGreat
open Go Go.RowKit
attribute [local irreducible] AWp Qat OpOk ACalls ChA QsOk MCalls EnC PY

def cmdD (c:Cmd):List D:=[.n .i64 c.kind,.n .i64 c.job.id,.n .i64 c.job.prio,.n .i64 c.job.nodes,.n .i64 c.job.need.a,.n .i64 c.job.need.b,.n .i64 c.job.need.c,.n .i64 c.job.lic.a,.n .i64 c.job.lic.b,.n .i64 c.job.lic.c,.n .i64 c.job.wall,.n .i64 c.job.level,.n .i64 c.n,.n .i64 c.lic.a,.n .i64 c.lic.b,.n .i64 c.lic.c]
theorem QxG {W:World} {ds:List D} (h:TyD ⟨Tryz.prog,W,fun _=>true,NoZ,NoB,tt⟩ 40 74 ds):∃c:Cmd,ds=cmdD c:=by
 obtain ⟨_,_,rfl,⟨k,rfl,_⟩,_,_,rfl,⟨_,_,rfl,⟨i,rfl,_⟩,_,_,rfl,⟨pr,rfl,_⟩,_,_,rfl,⟨no,rfl,_⟩,_,_,rfl,⟨_,_,rfl,⟨x,rfl,_⟩,_,_,rfl,⟨y,rfl,_⟩,_,_,rfl,⟨z,rfl,_⟩,rfl⟩,_,_,rfl,⟨_,_,rfl,⟨x',rfl,_⟩,_,_,rfl,⟨y',rfl,_⟩,_,_,rfl,⟨z',rfl,_⟩,rfl⟩,_,_,rfl,⟨wa,rfl,_⟩,_,_,rfl,⟨le,rfl,_⟩,rfl⟩,_,_,rfl,⟨n,rfl,_⟩,_,_,rfl,⟨_,_,rfl,⟨a,rfl,_⟩,_,_,rfl,⟨b,rfl,_⟩,_,_,rfl,⟨c,rfl,_⟩,rfl⟩,rfl⟩:=h
 exact ⟨⟨k,⟨i,pr,no,⟨x,y,z⟩,⟨x',y',z'⟩,wa,le⟩,n,⟨a,b,c⟩⟩,rfl⟩
theorem Qkg {c:Cmd}:ACalls Tryz.prog 32 [cmdA c] [cmdA c] []:=by
 refine Qaa tt Tryz.func32 rfl rfl rfl (fun w0 Z=>?_)
 repeat' (first|refine zst ?_|(refine zhm fun hb=>?_;try exact zab)|refine zg2 ?_ ?_|refine zop ?_|refine kc (QgC (x:=c.lic)) rfl rfl ?_|refine kc (Qh1 (x:=c.job)) rfl rfl ?_|fail)
 exact zr [] zae zae
end Go.Proofs.YtelbahebpmkfjaaGreat
