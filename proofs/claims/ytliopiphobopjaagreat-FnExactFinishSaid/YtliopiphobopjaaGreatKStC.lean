/-
  Start of the program; Later, both; their laws, without their arguments.
-/
import Derived.Test.YtliopiphobopjaaGreatKShL
import Derived.Test.YtliopiphobopjaaGreatKStB
import Derived.Test.YtliopiphobopjaaGreatKGnA
set_option maxRecDepth 100000
set_option maxHeartbeats 16000000
namespace Go.Proofs.YtliopiphobopjaaGreat
open Go Go.RowKit
attribute [local irreducible] AWp OpsOk OpOk ACalls ChA QsOk MCalls NCalls EnC PY

theorem startO_small {s : State} {r : Room} (h : StartP s r) (hs : Small 1048576 s) (hr : s.runs.length ≤ 1000000) : Small 1048576 (startO s) := by
 have hI := planO_J h.room
 obtain ⟨hP, _⟩ := h.strP (planO s).1.length (Nat.le_refl _)
 rw [show startO s = { s with queue := (runF s.now s.queue s.runs ((planO s).1.take (planO s).1.length)).1, runs := (runF s.now s.queue s.runs ((planO s).1.take (planO s).1.length)).2 } by rw [List.take_length]; rfl]
 have h1 := hP.len
 have h2 := hP.que
 have h3 := hI.len
 have h4 := ordJ_length s.queue
 have h5 := h.queue.len
 refine ⟨hs.par, hs.nod, hs.up, by dsimp only; omega, by dsimp only; omega, hs.end', fun j hj => ?_⟩
 dsimp only at hj ⊢
 rcases hP.new _ (nth_mem hj) with h6 | ⟨x, hx, _, h6, _⟩
 ·obtain ⟨i, hi, e⟩ := mem_nth h6
  rw [← e]
  exact hs.rno i hi
 ·rw [h6]
  have := (hI.st x (List.mem_of_mem_take hx)).2.2
  omega
theorem ok_runs {s : State} (h : stateOkB s = true) : s.runs.length ≤ 60 := by
 have := (pB_t.1 h).jobs.len
 simp only [allJ, List.length_append, List.length_map] at this
 omega
/-! ### Later -/
noncomputable def laterS (s : State) : List HeldS := if stateOkB s = true then (planO s).2 else []
end Go.Proofs.YtliopiphobopjaaGreat
