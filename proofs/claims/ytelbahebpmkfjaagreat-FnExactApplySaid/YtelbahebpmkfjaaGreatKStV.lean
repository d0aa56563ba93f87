/-
  What starts, of the program, with the queue and the ends alone as rows of the caller's own.
-/
import Derived.Test.YtelbahebpmkfjaaGreatKB7
import Derived.Test.YtelbahebpmkfjaaGreatKB31
import Derived.Test.YtelbahebpmkfjaaGreatKB26
set_option maxRecDepth 100000
set_option maxHeartbeats 16000000
namespace Go.Proofs.YtelbahebpmkfjaaGreat
open Go Go.RowKit
attribute [local irreducible] AWp Qat OpOk ACalls ChA QsOk MCalls NCalls EnC PY

@[reducible] def QxT (s:State) (q r:AV) (q2:Nat):List AV:=[.d (.sl (intE s.topo.parents)),.d (.sl (QaD s.topo.nodes)),.d (.sl (Qaw s.up)),.d (.n .i64 s.lic.a),.d (.n .i64 s.lic.b),.d (.n .i64 s.lic.c),.d (.n .i64 s.depth),.d (.n .i64 s.now),q,r,.row q2]
abbrev SV (s:State) (args:List AV):Prop:=MCalls Tryz.prog 109 args [] (fun _:Unit=>True) (fun _=>[.agg (QxT s (.row 0) (.d (.sl (runE s.runs))) 1)]) (fun _=>[]) (fun _=>[(0,.row 78 (jobE s.queue) true),(1,.row 150 (endE s.ends) true)])
end Go.Proofs.YtelbahebpmkfjaaGreat
