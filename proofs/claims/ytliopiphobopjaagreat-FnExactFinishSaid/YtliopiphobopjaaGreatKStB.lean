/-
  What starts, of the reference.
-/
import Derived.Test.YtliopiphobopjaaGreatKShL
import Derived.Test.YtliopiphobopjaaGreatKStA
import Derived.Test.YtliopiphobopjaaGreatKRoS
import Derived.Test.YtliopiphobopjaaGreatKB21
set_option maxRecDepth 100000
set_option maxHeartbeats 16000000
namespace Go.Proofs.YtliopiphobopjaaGreat
open Go Go.RowKit
attribute [local irreducible] AWp OpsOk OpOk ACalls ChA QsOk MCalls NCalls EnC PY

theorem l06Start_n {s : State} {r : Room} (hs : Small 100000000 s) (h : StartP s r) : NCalls Tryz.prog 127 [.agg (stateH s 500000 500001)] [(500000, .row 116 (runE s.runs) false), (500001, .row 134 (endE s.ends) true)] (fun _ : Unit => True) (fun _ => [.agg (stateH (startO s) 0 1)]) (fun _ => [(0, .row 116 (runE (startO s).runs) false), (1, .row 134 (endE s.ends) true)]) := by
 refine ncalls_of tt Tryz.func127 rfl rfl rfl (fun _ _ => rfl) (fun w0 Z O => ?_)
 have c1 := roomOf_h (hs.mono (m := 1000000000) (by omega))
 rw [h.room] at c1
 have c2 := plan_s (depth := s.depth) (roomOf_room h.room) h.queue h.now h.depth
 have hI := planO_J h.room
 have hS := h.strP
 unfold startO
 rw [← planO_some h.room] at c2
 generalize planO s = pl at c2 hI hS ⊢
 obtain ⟨hl, lt⟩ := pl
 dsimp only at c2 hI hS ⊢
 have hql := h.queue.len
 have hrl := hs.run
 have hil := hI.len
 dsimp only at hil
 have hol := ordJ_length s.queue
 have hle := heldE_length hl
 repeat' (first|refine zst ?_|(refine zhm fun hb=>?_;try exact zab)|refine zg2 ?_ ?_|refine zln fun _=>?_|refine zop ?_|(refine km [500000, 500001] (c1) rfl rfl (fun i hi => ?_);(try dsimp only at hi))|(refine km [] (c2) rfl rfl (fun i hi => ?_);(try dsimp only at hi))|fail)
 refine awp_loop (fun (n : Nat) => ⟨62, [(1, .ptr 1 0), (2, .ptr 2 0), (29, .d (.sl (heldE hl))), (30, .d (.n .i64 (hl.length : Nat))), (31, .d (.n .i64 n))], [(1, .box 44 (stateH { s with queue := (runF s.now s.queue s.runs (hl.take n)).1 } 500000 500001)), (2, .box 44 ctl0), (500000, .row 116 (runE (runF s.now s.queue s.runs (hl.take n)).2) false), (500001, .row 134 (endE s.ends) true)]⟩) (fun n => n ≤ hl.length) (fun n => hl.length - n) 0 (by exact Nat.zero_le _) ?_ ?_
 ·refine ⟨rfl, ?_, ?_, rfl⟩
  repeat'(first|apply And.intro|exact ze0|refine ze1 ?_|refine zei ?_ ?_|exact rfl|trivial)
  all_goals exact Stop.mk (by first | rfl | exact hle)
 intro n hn
 obtain ⟨hP, hin⟩ := hS n hn
 have hpl := hP.len
 have hpq := hP.que
 by_cases hn' : n < hl.length
 ·have hst := runF_step (now := s.now) (qs := s.queue) (rs := s.runs) hn'
  generalize runF s.now s.queue s.runs (hl.take n) = q at hst hpl hpq ⊢
  unfold runH at hst
  have hq2 := runE_length q.2
  repeat' (first|refine zst ?_|(refine zhm fun hb=>?_;try exact zab)|refine zg2 ?_ ?_|refine zln fun _=>?_|refine zop ?_|refine kc (l05Find_s (l := q.1) (id := (nth hl n).id) (by omega)) rfl rfl ?_|(refine km [] (l06Out_s (l := q.1) (id := (nth hl n).id) (by omega)) rfl rfl (fun i hi => ?_);(try dsimp only at hi))|fail)
  refine ⟨n + 1, by omega, by omega, ?_⟩
  refine ⟨rfl, ?_, ?_, rfl⟩
  repeat'(first|apply And.intro|exact ze0|refine ze1 ?_|refine zei ?_ ?_|exact rfl|trivial)
  all_goals exact Stop.mk (by first | rfl | (rw [hst]; done) | (rw [hst]; exact runE_push _ ⟨_, _, _⟩))
 ·obtain rfl : n = hl.length := by omega
  rw [List.take_length] at *
  repeat' (first|refine zsr ?_|(refine zhm fun hb=>?_;try exact zab)|refine zg2 ?_ ?_|refine zln fun _=>?_|refine zop ?_|fail)
  show AWp _ _ _ _
  apply awp_ret'
  refine zn () [500000, 500001] (by exact trivial) ?_ ?_
  all_goals exact zae
theorem QueueP.left {a b : List Job} (h : QueueP (a ++ b)) : QueueP a := by
 have e : ∀ i, i < a.length → nth (a ++ b) i = nth a i := fun i hi => by
  rw [nth_eq (by simp; omega), nth_eq hi, List.getElem_append_left hi]
 have hl := h.len
 rw [List.length_append] at hl
 refine ⟨by omega, fun i hi => by rw [← e i hi]; exact h.jobs i (by simp; omega), fun i hi k hk => ?_⟩
 rw [← e i hi, ← e k (by omega)]
 exact h.diff i (by simp; omega) k hk
noncomputable def startS (s : State) : State := if stateOkB s = true then startO s else zS
end Go.Proofs.YtliopiphobopjaaGreat
