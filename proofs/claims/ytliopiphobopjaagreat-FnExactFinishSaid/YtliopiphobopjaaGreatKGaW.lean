/-
  Use, both; its law, without its argument.
-/
import Derived.Test.YtliopiphobopjaaGreatKShL
import Derived.Test.YtliopiphobopjaaGreatKGaV
set_option maxRecDepth 100000
set_option maxHeartbeats 16000000
namespace Go.Proofs.YtliopiphobopjaaGreat
open Go Go.RowKit
attribute [local irreducible] AWp OpsOk OpOk ACalls ChA QsOk MCalls EnC PY

def useS (n : Int) (v : V3) (x : Run) : V3 := if hasI x.nodes n = true then (addO v x.job.need).getD zV else v
def useV (n : Int) (l : List Run) : V3 := l.foldl (useS n) zV
noncomputable def useO (s : State) (n : Int) : V3 := if stateOkB s = true ∧ 0 ≤ n ∧ n < s.topo.nodes.length then useV n s.runs else zV
theorem stateOk_runs {s : State} (h : stateOkB s = true) : RunsP s := by
 have h1 := (pB_t.1 h).room
 cases hr : roomOf s with
 | none => rw [hr] at h1; cases h1
 | some r => exact runsP_of hr
theorem l06Node_s {s : State} {n : Int} : ACalls Tryz.prog 77 [stateA s, .d (.n .i64 n)] [.d (.b (decide (0 ≤ n) && decide (n < s.topo.nodes.length)))] [] := by
 refine acalls_of tt Tryz.func77 rfl rfl rfl (fun w0 Z => ?_)
 have hnl := nodeE_length s.topo.nodes
 repeat' (first|refine zst ?_|(refine zhm fun hb=>?_;try exact zab)|refine zg2 ?_ ?_|refine zln fun _=>?_|refine zop ?_|fail)
 all_goals
  refine zr [] ?_ ?_
  repeat'(first|apply And.intro|exact ze0|refine ze1 ?_|refine zei ?_ ?_|exact rfl|trivial)
  exact Stop.mk (by rw [Bool.eq_iff_iff]; simp; omega)
end Go.Proofs.YtliopiphobopjaaGreat
