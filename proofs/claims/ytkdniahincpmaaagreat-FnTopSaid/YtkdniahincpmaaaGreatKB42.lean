/-
  Worlds of a law as rows of the caller's own: copies and marks; steps.
-/
import Derived.Test.YtkdniahincpmaaaGreatKB41
set_option maxRecDepth 100000
set_option maxHeartbeats 16000000
namespace Go.Proofs.YtkdniahincpmaaaGreat
open Go Go.RowKit Tryz
section
attribute [local irreducible] AWp QI OpOk ACalls ChA QsOk MCalls EnC PY

def kWd(k:Nat)(w:Wld):Nat:=kCt (kSt k w.first) w.ctl+w.bytes.length+1*w.codes.length
def mWd(k:Nat)(w:Wld):Wld:=⟨w.up,mSt k w.first,mCt (kSt k w.first) w.ctl,QeZ (gB (kCt (kSt k w.first) w.ctl)) w.bytes.length,QeZ (gI (kCt (kSt k w.first) w.ctl+w.bytes.length)) w.codes.length⟩
@[reducible] def QzB (w:Wld):List (Nat×AO):=[(1000000,.row 3 (intE w.first.topo.parents) true),(1000001,.row 62 (Qw w.first.topo.nodes) true),(1000002,.row 4 (Qp w.first.up) true),(1000003,.row 40 (jobE w.first.queue) true),(1000004,.row 66 (runE w.first.runs) true),(1000005,.row 123 (endE w.first.ends) true),(1000006,.row 3 (intE w.ctl.first.topo.parents) true),(1000007,.row 62 (Qw w.ctl.first.topo.nodes) true),(1000008,.row 4 (Qp w.ctl.first.up) true),(1000009,.row 40 (jobE w.ctl.first.queue) true),(1000010,.row 66 (runE w.ctl.first.runs) true),(1000011,.row 123 (endE w.ctl.first.ends) true),(1000012,.row 3 (intE w.ctl.state.topo.parents) true),(1000013,.row 62 (Qw w.ctl.state.topo.nodes) true),(1000014,.row 4 (Qp w.ctl.state.up) true),(1000015,.row 40 (jobE w.ctl.state.queue) true),(1000016,.row 66 (runE w.ctl.state.runs) true),(1000017,.row 123 (endE w.ctl.state.ends) true),(1000018,.row 5 (QK w.ctl.jn.bytes) true),(1000019,.row 5 (QK w.bytes) true),(1000020,.row 3 (intE w.codes) true)]
@[reducible] def QzC (w:Wld):List (Nat×AO):=[(1000000,.row 3 (intE w.first.topo.parents) true),(1000001,.row 62 (Qw w.first.topo.nodes) true),(1000002,.row 4 (Qp w.first.up) true),(1000003,.row 40 (jobE w.first.queue) true),(1000004,.row 66 (runE w.first.runs) true),(1000005,.row 123 (endE w.first.ends) true),(1000006,.row 5 (QK w.bytes) true),(1000007,.row 3 (intE w.codes) true)]
@[reducible] def QzD (w:Wld):List (Nat×AO):=[(1000000,.row 3 (intE w.first.topo.parents) true),(1000001,.row 62 (Qw w.first.topo.nodes) true),(1000002,.row 4 (Qp w.first.up) true),(1000003,.row 40 (jobE w.first.queue) true),(1000004,.row 66 (runE w.first.runs) true),(1000005,.row 123 (endE w.first.ends) true),(1000006,.row 3 (intE w.ctl.first.topo.parents) true),(1000007,.row 62 (Qw w.ctl.first.topo.nodes) true),(1000008,.row 4 (Qp w.ctl.first.up) true),(1000009,.row 40 (jobE w.ctl.first.queue) true),(1000010,.row 66 (runE w.ctl.first.runs) true),(1000011,.row 123 (endE w.ctl.first.ends) true),(1000012,.row 3 (intE w.ctl.state.topo.parents) true),(1000013,.row 62 (Qw w.ctl.state.topo.nodes) true),(1000014,.row 4 (Qp w.ctl.state.up) true),(1000015,.row 40 (jobE w.ctl.state.queue) true),(1000016,.row 66 (runE w.ctl.state.runs) true),(1000017,.row 123 (endE w.ctl.state.ends) true),(1000018,.row 5 (QK w.ctl.jn.bytes) true),(1000019,.row 3 (intE w.codes) true)]

def Qy6(x:WA):List D:=[.n .i64 x.kind,.n .i64 x.cmd.kind,.n .i64 x.cmd.job.id,.n .i64 x.cmd.job.prio,.n .i64 x.cmd.job.nodes,.n .i64 x.cmd.job.need.a,.n .i64 x.cmd.job.need.b,.n .i64 x.cmd.job.need.c,.n .i64 x.cmd.job.lic.a,.n .i64 x.cmd.job.lic.b,.n .i64 x.cmd.job.lic.c,.n .i64 x.cmd.job.wall,.n .i64 x.cmd.job.level,.n .i64 x.cmd.n,.n .i64 x.cmd.lic.a,.n .i64 x.cmd.lic.b,.n .i64 x.cmd.lic.c,.n .i64 x.keep]
end
end Go.Proofs.YtkdniahincpmaaaGreat
