/-
  The empty room of the reference with a row of its own of the nodes that are up; whether a job could start alone.
-/
import Derived.Test.YtliopiphobopjaaGreatKShL
import Derived.Test.YtliopiphobopjaaGreatKGaQ
import Derived.Test.YtliopiphobopjaaGreatKB14
import Derived.Test.YtliopiphobopjaaGreatKGaV
set_option maxRecDepth 100000
set_option maxHeartbeats 16000000
namespace Go.Proofs.YtliopiphobopjaaGreat
open Go Go.RowKit
attribute [local irreducible] AWp OpsOk OpOk ACalls ChA QsOk MCalls NCalls EnC PY

@[reducible] def roomU (r : Room) (q : Nat) : AV := .agg [.d (.sl (intE r.topo.parents)), .d (.sl (nodeE r.topo.nodes)), .row q, .d (.sl (profsE r.profs)), .d (.sl (ptE r.lics))]
@[reducible] def jobC (j : Job) : List AV := [.d (.n .i64 j.id), .d (.n .i64 j.prio), .d (.n .i64 j.nodes), .d (.n .i64 j.need.a), .d (.n .i64 j.need.b), .d (.n .i64 j.need.c), .d (.n .i64 j.lic.a), .d (.n .i64 j.lic.b), .d (.n .i64 j.lic.c), .d (.n .i64 j.wall), .d (.n .i64 j.level)]
def allUp (s : State) : List Bool := List.replicate s.topo.nodes.length true
def fullR (s : State) : Room := emptyR s.topo (allUp s) s.lic
def upTo (s : State) (i : Nat) : List Bool := List.replicate i true ++ s.up.drop i
end Go.Proofs.YtliopiphobopjaaGreat
