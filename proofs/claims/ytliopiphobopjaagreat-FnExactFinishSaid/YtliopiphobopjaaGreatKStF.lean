/-
  Submit, both.
-/
import Derived.Test.YtliopiphobopjaaGreatKShL
import Derived.Test.YtliopiphobopjaaGreatKB25
import Derived.Test.YtliopiphobopjaaGreatKSuA
import Derived.Test.YtliopiphobopjaaGreatKB14
import Derived.Test.YtliopiphobopjaaGreatKB20
set_option maxRecDepth 100000
set_option maxHeartbeats 16000000
namespace Go.Proofs.YtliopiphobopjaaGreat
open Go Go.RowKit
attribute [local irreducible] AWp OpsOk OpOk ACalls ChA QsOk MCalls NCalls EnC PY

def subm (s : State) (j : Job) : State := { s with queue := s.queue ++ [j] }
noncomputable def submitO (s : State) (j : Job) : Option State × Int :=
 if stateOkB s = true ∧ jobOkB j = true then
  if (allJ s).any (fun x => x.id == j.id) = true then (none, 2)
  else if 60 ≤ (allJ s).length then (none, 3)
  else if (earO (fullR s) j 0).isSome = true then (some (startO (subm s j)), 0) else (none, 4)
 else (none, 1)
@[reducible] def stateQ (s : State) (q : List (List D)) : AV := .agg [.d (.sl (intE s.topo.parents)), .d (.sl (nodeE s.topo.nodes)), .d (.sl (boolE s.up)), .d (.n .i64 s.lic.a), .d (.n .i64 s.lic.b), .d (.n .i64 s.lic.c), .d (.n .i64 s.depth), .d (.n .i64 s.now), .d (.sl q), .d (.sl (runE s.runs)), .d (.sl (endE s.ends))]
@[reducible] def stateHQ (s : State) (q : List (List D)) (q1 q2 : Nat) : List AV := [.d (.sl (intE s.topo.parents)), .d (.sl (nodeE s.topo.nodes)), .d (.sl (boolE s.up)), .d (.n .i64 s.lic.a), .d (.n .i64 s.lic.b), .d (.n .i64 s.lic.c), .d (.n .i64 s.depth), .d (.n .i64 s.now), .d (.sl q), .row q1, .row q2]
structure OkP (s : State) : Prop where
 topo : TopoOk s.topo
 up : s.up.length = s.topo.nodes.length
 lic : vecOkB s.lic = true
 jobs : QueueP (allJ s)
 depth : 0 ≤ s.depth ∧ s.depth ≤ 60
theorem okP_of {s : State} (h : stateOkB s = true) : OkP s := by
 have h' := pB_t.1 h
 obtain ⟨r, hr⟩ := Option.isSome_iff_exists.1 h'.room
 have hb := (roomOf_ok hr).2.2.2.1
 exact ⟨hb.topo, hb.up, hb.lic, h'.jobs, h'.depth⟩
theorem find_any (l : List Job) (id : Int) : (findJ l id).isSome = l.any (fun x => x.id == id) := by
 unfold findJ
 rw [Bool.eq_iff_iff, List.find?_isSome, List.any_eq_true]
end Go.Proofs.YtliopiphobopjaaGreat
