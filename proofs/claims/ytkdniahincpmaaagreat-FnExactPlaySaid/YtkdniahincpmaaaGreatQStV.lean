/-
  What starts, of the program, with the queue and the ends alone as rows of the caller's own.
-/
import Derived.Test.YtkdniahincpmaaaGreatQB27
set_option maxRecDepth 100000
set_option maxHeartbeats 16000000
namespace Go.Proofs.YtkdniahincpmaaaGreat
open Go Go.RowKit Tryz
section
attribute [local irreducible] AWp QM OpOk ACalls ChA QsOk MCalls NCalls EnC PY

@[reducible] def Qyp (s:Qb) (q r:AV) (q2:Nat):List AV:=[zL (intE s.topo.parents),zL (Qr s.topo.nodes),zL (Qk s.up),zI s.lic.a,zI s.lic.b,zI s.lic.c,zI s.depth,zI s.now,q,r,.row q2]
abbrev SV(s:Qb)(args:List AV):Prop:=MCalls Tryz.prog 241 args [] (fun _:Unit=>True) (fun _=>[.agg (Qyp s (.row 0) (zL (runE s.runs)) 1)]) (fun _=>[]) (fun _=>[(0,.row 40 (jobE s.queue) true),(1,.row 123 (endE s.ends) true)])
end
end Go.Proofs.YtkdniahincpmaaaGreat
