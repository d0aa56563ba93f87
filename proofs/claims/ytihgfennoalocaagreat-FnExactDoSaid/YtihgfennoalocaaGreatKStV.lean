/-
  What starts, of the program, with the queue and the ends alone as rows of the caller's own.
-/
import Derived.Test.YtihgfennoalocaaGreatKB7
import Derived.Test.YtihgfennoalocaaGreatKB31
import Derived.Test.YtihgfennoalocaaGreatKB26
set_option maxRecDepth 100000
set_option maxHeartbeats 16000000
namespace Go.Proofs.YtihgfennoalocaaGreat
open Go Go.RowKit Tryz
section
attribute [local irreducible] AWp QJ OpOk ACalls ChA QsOk MCalls NCalls EnC PY

@[reducible] def Qvk (s:Qd) (q r:AV) (q2:Nat):List AV:=[zL (intE s.topo.parents),zL (Qz s.topo.nodes),zL (Qq s.up),zI s.lic.a,zI s.lic.b,zI s.lic.c,zI s.depth,zI s.now,q,r,.row q2]
abbrev SV(s:Qd)(args:List AV):Prop:=MCalls Tryz.prog 252 args [] (fun _:Unit=>True) (fun _=>[.agg (Qvk s (.row 0) (zL (runE s.runs)) 1)]) (fun _=>[]) (fun _=>[(0,.row 72 (jobE s.queue) true),(1,.row 172 (endE s.ends) true)])
end
end Go.Proofs.YtihgfennoalocaaGreat
