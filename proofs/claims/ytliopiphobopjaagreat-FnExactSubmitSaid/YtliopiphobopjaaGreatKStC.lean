/-
  Start of the program; Later, both; their laws, without their arguments.
-/
import Derived.Test.YtliopiphobopjaaGreatKShL
import Derived.Test.YtliopiphobopjaaGreatKStB
import Derived.Test.YtliopiphobopjaaGreatKGnA
set_option maxRecDepth 100000
set_option maxHeartbeats 16000000
namespace Go.Proofs.YtliopiphobopjaaGreat
open Go Go.RowKit
attribute [local irreducible] AWp OpsOk OpOk ACalls ChA QsOk MCalls NCalls EnC PY

theorem startO_small {s : State} {r : Room} (h : StartP s r) (hs : Small 1048576 s) (hr : s.runs.length ≤ 1000000) : Small 1048576 (startO s) := by
 have hI := planO_J h.room
 obtain ⟨hP, _⟩ := h.strP (planO s).1.length (Nat.le_refl _)
 rw [show startO s = { s with queue := (runF s.now s.queue s.runs ((planO s).1.take (planO s).1.length)).1, runs := (runF s.now s.queue s.runs ((planO s).1.take (planO s).1.length)).2 } by rw [List.take_length]; rfl]
 have h1 := hP.len
 have h2 := hP.que
 have h3 := hI.len
 have h4 := ordJ_length s.queue
 have h5 := h.queue.len
 refine ⟨hs.par, hs.nod, hs.up, by dsimp only; omega, by dsimp only; omega, hs.end', fun j hj => ?_⟩
 dsimp only at hj ⊢
 rcases hP.new _ (nth_mem hj) with h6 | ⟨x, hx, _, h6, _⟩
 ·obtain ⟨i, hi, e⟩ := mem_nth h6
  rw [← e]
  exact hs.rno i hi
 ·rw [h6]
  have := (hI.st x (List.mem_of_mem_take hx)).2.2
  omega
theorem ok_runs {s : State} (h : stateOkB s = true) : s.runs.length ≤ 60 := by
 have := (pB_t.1 h).jobs.len
 simp only [allJ, List.length_append, List.length_map] at this
 omega
theorem start_o {s : State} (hs : Small 100000000 s) (h : stateOkB s = true) : ACalls Tryz.prog 52 [stateA s] [stateO (startO s) 0 1 2 3 4 5] (stateR (startO s)) := by
 refine acalls_of tt Tryz.func52 rfl rfl rfl (fun w0 Z => ?_)
 have c1 := stateOk_e hs
 rw [h] at c1
 obtain ⟨r, hP⟩ := startP_of h
 repeat' (first|refine zst ?_|(refine zhm fun hb=>?_;try exact zab)|refine zg2 ?_ ?_|refine zop ?_|refine kc (c1) rfl rfl ?_|refine kc (started_o hs hP) rfl rfl ?_|fail)
 exact zr [8, 1008, 2008, 3008, 4008, 5008] zae zae
theorem start_f {s : State} (hs : Small 100000000 s) (h : stateOkB s = false) : ACalls Tryz.prog 52 [stateA s] [.agg ctl0] [] := by
 refine acalls_of tt Tryz.func52 rfl rfl rfl (fun w0 Z => ?_)
 have c1 := stateOk_e hs
 rw [h] at c1
 repeat' (first|refine zst ?_|(refine zhm fun hb=>?_;try exact zab)|refine zg2 ?_ ?_|refine zop ?_|refine kc (c1) rfl rfl ?_|fail)
 exact zr [] zae zae
theorem lawStart_e {s : State} (h : Small 9223372036854775807 s) : ACalls Tryz.prog 10 [stateA s] [.d (.b true)] [] := by
 refine acalls_of tt Tryz.func10 rfl rfl rfl (fun w0 Z => ?_)
 by_cases hS : Small 1048576 s
 ·have hm : Small 100000000 s := hS.mono (by omega)
  have c1 := start_s hm
  cases hok : stateOkB s with
  | true =>
   rw [show startS s = startO s from if_pos hok] at c1
   obtain ⟨r, hP⟩ := startP_of hok
   have hO := startO_small hP hS (by have := ok_runs hok; omega)
   repeat' (first|refine zst ?_|(refine zhm fun hb=>?_;try exact zab)|(apply awp_drawm2 10;kernel_rfl;exact rfl)|refine zdr ?_|(apply zch;exact zcg)|refine HopS.mk fun w0 Z O=>?_|exact zhk|refine zg3 ?_ ?_|(apply op_id;first|(refine km (t := 17) [] (toState_e hS) rfl rfl (fun i hi => ?_)))|refine zop ?_|refine kc (toState_o hS) rfl rfl ?_|refine kc (start_o hm hok) rfl rfl ?_|refine kc (eqState_r (s := startO s) (hO.mono (by omega))) rfl rfl ?_|refine kc (eqState_r (s := s) (hS.mono (by omega))) rfl rfl ?_|refine kc (heldState_e (s := startO s) (k := 1) hO (by omega)) rfl rfl ?_|(refine km [] (szState_e h) rfl rfl (fun i hi => ?_);(try dsimp only at hi))|(refine km [] (toState_e hS) rfl rfl (fun i hi => ?_);(try dsimp only at hi))|(refine km [] (c1) rfl rfl (fun i hi => ?_);(try dsimp only at hi))|(refine km [20, 1020, 2020, 3020, 4020, 5020] (markState_m (k := 1) hS (by omega)) rfl rfl (fun i hi => ?_);(try dsimp only at hi))|(refine km [22, 1022, 2022, 3022, 4022, 5022] (markState_m (k := 1) hO (by omega)) rfl rfl (fun i hi => ?_);(try dsimp only at hi))|refine kq (toState_o hS) rfl rfl ?_|refine kq (start_o hm hok) rfl rfl ?_|refine kq (eqState_r (s := startO s) (hO.mono (by omega))) rfl rfl ?_|refine kq (eqState_r (s := s) (hS.mono (by omega))) rfl rfl ?_|refine kq (heldState_e (s := startO s) (k := 1) hO (by omega)) rfl rfl ?_|fail)
   all_goals
    exact zr [] zae zae
  | false =>
   rw [show startS s = zS from if_neg (by rw [hok]; decide)] at c1
   repeat' (first|refine zst ?_|(refine zhm fun hb=>?_;try exact zab)|(apply awp_drawm2 10;kernel_rfl;exact rfl)|refine zdr ?_|(apply zch;exact zcg)|refine HopS.mk fun w0 Z O=>?_|exact zhk|refine zg3 ?_ ?_|(apply op_id;first|(refine km (t := 17) [] (toState_e hS) rfl rfl (fun i hi => ?_)))|refine zop ?_|refine kc (toState_o hS) rfl rfl ?_|refine kc (start_f hm hok) rfl rfl ?_|refine kc (eqState_r (s := zS) (zS_small _)) rfl rfl ?_|refine kc (eqState_r (s := s) (hS.mono (by omega))) rfl rfl ?_|refine kc (markState_0 (k := 1)) rfl rfl ?_|refine kc (heldState_e (s := zS) (k := 1) (zS_small _) (by omega)) rfl rfl ?_|(refine km [] (szState_e h) rfl rfl (fun i hi => ?_);(try dsimp only at hi))|(refine km [] (toState_e hS) rfl rfl (fun i hi => ?_);(try dsimp only at hi))|(refine km [] (c1) rfl rfl (fun i hi => ?_);(try dsimp only at hi))|(refine km [20, 1020, 2020, 3020, 4020, 5020] (markState_m (k := 1) hS (by omega)) rfl rfl (fun i hi => ?_);(try dsimp only at hi))|refine kq (toState_o hS) rfl rfl ?_|refine kq (start_f hm hok) rfl rfl ?_|refine kq (eqState_r (s := zS) (zS_small _)) rfl rfl ?_|refine kq (eqState_r (s := s) (hS.mono (by omega))) rfl rfl ?_|refine kq (markState_0 (k := 1)) rfl rfl ?_|refine kq (heldState_e (s := zS) (k := 1) (zS_small _) (by omega)) rfl rfl ?_|fail)
   all_goals
    exact zr [] zae zae
 ·repeat' (first|refine zst ?_|(refine zhm fun hb=>?_;try exact zab)|refine zdr ?_|(apply zch;exact zcg)|refine HopS.mk fun w0 Z O=>?_|exact zhk|refine zg3 ?_ ?_|refine zop ?_|(refine km [] (szState_e h) rfl rfl (fun i hi => ?_);(try dsimp only at hi))|fail)
  all_goals first | (exfalso; exact hS (hi.2 (by omega))) | skip
  exact zr [] zae zae
/-! ### Later -/
theorem later_o {s : State} (hs : Small 100000000 s) (h : stateOkB s = true) : ACalls Tryz.prog 43 [stateA s] [.row 0] [(0, .row 159 (heldE (planO s).2) true)] := by
 refine acalls_of tt Tryz.func43 rfl rfl rfl (fun w0 Z => ?_)
 have c1 := stateOk_e hs
 rw [h] at c1
 obtain ⟨r, hP⟩ := startP_of h
 have c2 := roomOf_e (hs.mono (m := 1000000000) (by omega))
 rw [hP.room] at c2
 have c3 := plan_m (depth := s.depth) (roomOf_room hP.room) hP.queue hP.now hP.depth
 rw [← planO_some hP.room] at c3
 repeat' (first|refine zst ?_|(refine zhm fun hb=>?_;try exact zab)|refine zg2 ?_ ?_|refine zop ?_|refine kc (c1) rfl rfl ?_|(refine km [] (c2) rfl rfl (fun i hi => ?_);(try dsimp only at hi))|(refine km [] (c3) rfl rfl (fun i hi => ?_);(try dsimp only at hi))|fail)
 exact zr [1024] zae zae
theorem later_f {s : State} (hs : Small 100000000 s) (h : stateOkB s = false) : ACalls Tryz.prog 43 [stateA s] [.nil] [] := by
 refine acalls_of tt Tryz.func43 rfl rfl rfl (fun w0 Z => ?_)
 have c1 := stateOk_e hs
 rw [h] at c1
 repeat' (first|refine zst ?_|(refine zhm fun hb=>?_;try exact zab)|refine zg2 ?_ ?_|refine zop ?_|refine kc (c1) rfl rfl ?_|fail)
 exact zr [] zae zae
noncomputable def laterS (s : State) : List HeldS := if stateOkB s = true then (planO s).2 else []
theorem later_s {s : State} (hs : Small 100000000 s) : DC Tryz.prog 42 [stateA s] [.d (.sl (heldE (laterS s)))] := by
 refine mcalls_of tt Tryz.func42 rfl rfl rfl trivial (fun _ _ => ⟨trivial, trivial⟩) (fun w0 Z O => ?_)
 have c1 := stateOk_s hs
 cases h : stateOkB s with
 | false =>
  rw [h] at c1
  rw [show laterS s = [] from if_neg (by rw [h]; decide)]
  repeat' (first|refine zsr ?_|(refine zhm fun hb=>?_;try exact zab)|refine zg2 ?_ ?_|refine zop ?_|refine kc (c1) rfl rfl ?_|fail)
  show AWp _ _ _ _
  refine awp_dena ?_
  apply awp_ret'
  exact zm () [] trivial zae zae zae
 | true =>
  rw [h] at c1
  rw [show laterS s = (planO s).2 from if_pos h]
  obtain ⟨r, hP⟩ := startP_of h
  have c2 := roomOf_s (hs.mono (m := 1000000000) (by omega))
  rw [hP.room] at c2
  have c3 := plan_s (depth := s.depth) (roomOf_room hP.room) hP.queue hP.now hP.depth
  rw [← planO_some hP.room] at c3
  repeat' (first|refine zsr ?_|(refine zhm fun hb=>?_;try exact zab)|refine zg2 ?_ ?_|refine zop ?_|refine kc (c1) rfl rfl ?_|(refine km [] (c2) rfl rfl (fun i hi => ?_);(try dsimp only at hi))|(refine km [] (c3) rfl rfl (fun i hi => ?_);(try dsimp only at hi))|fail)
  show AWp _ _ _ _
  refine awp_dena ?_
  apply awp_ret'
  exact zm () [] trivial zae zae zae
theorem lawLater_e {s : State} (h : Small 9223372036854775807 s) : ACalls Tryz.prog 8 [stateA s] [.d (.b true)] [] := by
 refine acalls_of tt Tryz.func8 rfl rfl rfl (fun w0 Z => ?_)
 by_cases hS : Small 1048576 s
 ·have hm : Small 100000000 s := hS.mono (by omega)
  have c1 := later_s hm
  cases hok : stateOkB s with
  | true =>
   rw [show laterS s = (planO s).2 from if_pos hok] at c1
   obtain ⟨r, hP⟩ := startP_of hok
   have hI := planO_J hP.room
   have hil := hI.len
   have hol := ordJ_length s.queue
   have hql := hP.queue.len
   have hlt : ∀ j, j < (planO s).2.length → (nth (planO s).2 j).nodes.length ≤ 1048576 := fun j hj => by have := hI.lt _ (nth_mem hj); omega
   repeat' (first|refine zst ?_|(refine zhm fun hb=>?_;try exact zab)|(apply awp_drawm2 10;kernel_rfl;exact rfl)|refine zdr ?_|(apply zch;exact zcg)|refine HopS.mk fun w0 Z O=>?_|exact zhk|refine zg3 ?_ ?_|(apply op_id;first|(refine km (t := 17) [] (toState_e hS) rfl rfl (fun i hi => ?_)))|refine zop ?_|refine kc (toState_o hS) rfl rfl ?_|refine kc (later_o hm hok) rfl rfl ?_|(refine kc (eqHeldS_r (l := (planO s).2) (by omega) (fun j hj => by have := hlt j hj;omega)) rfl rfl ?_)|refine kc (eqState_r (s := s) (hS.mono (by omega))) rfl rfl ?_|refine kc (heldHeldS_e (l := (planO s).2) (k := 1) (by omega) hlt (by omega)) rfl rfl ?_|(refine km [] (szState_e h) rfl rfl (fun i hi => ?_);(try dsimp only at hi))|(refine km [] (toState_e hS) rfl rfl (fun i hi => ?_);(try dsimp only at hi))|(refine km [] (c1) rfl rfl (fun i hi => ?_);(try dsimp only at hi))|(refine km [20, 1020, 2020, 3020, 4020, 5020] (markState_m (k := 1) hS (by omega)) rfl rfl (fun i hi => ?_);(try dsimp only at hi))|(refine km [22] (markHeldS_m (k := 1) (by omega) hlt (by omega)) rfl rfl (fun i hi => ?_);(try dsimp only at hi))|refine kq (toState_o hS) rfl rfl ?_|refine kq (later_o hm hok) rfl rfl ?_|refine kq (eqHeldS_r (l := (planO s).2) (by omega) (fun j hj => by have := hlt j hj;omega)) rfl rfl ?_|refine kq (eqState_r (s := s) (hS.mono (by omega))) rfl rfl ?_|refine kq (heldHeldS_e (l := (planO s).2) (k := 1) (by omega) hlt (by omega)) rfl rfl ?_|fail)
   all_goals
    exact zr [] zae zae
  | false =>
   rw [show laterS s = [] from if_neg (by rw [hok]; decide)] at c1
   repeat' (first|refine zst ?_|(refine zhm fun hb=>?_;try exact zab)|(apply awp_drawm2 10;kernel_rfl;exact rfl)|refine zdr ?_|(apply zch;exact zcg)|refine HopS.mk fun w0 Z O=>?_|exact zhk|refine zg3 ?_ ?_|(apply op_id;first|(refine km (t := 17) [] (toState_e hS) rfl rfl (fun i hi => ?_)))|refine zop ?_|refine kc (toState_o hS) rfl rfl ?_|refine kc (later_f hm hok) rfl rfl ?_|refine kc (eqHeldS_r (l := []) (by simp) (fun j hj => absurd hj (Nat.not_lt_zero _))) rfl rfl ?_|refine kc (eqState_r (s := s) (hS.mono (by omega))) rfl rfl ?_|refine kc (markHeldS_0 (k := 1)) rfl rfl ?_|refine kc (heldHeldS_e (l := []) (k := 1) (by simp) (fun j hj => absurd hj (Nat.not_lt_zero _)) (by omega)) rfl rfl ?_|(refine km [] (szState_e h) rfl rfl (fun i hi => ?_);(try dsimp only at hi))|(refine km [] (toState_e hS) rfl rfl (fun i hi => ?_);(try dsimp only at hi))|(refine km [] (c1) rfl rfl (fun i hi => ?_);(try dsimp only at hi))|(refine km [20, 1020, 2020, 3020, 4020, 5020] (markState_m (k := 1) hS (by omega)) rfl rfl (fun i hi => ?_);(try dsimp only at hi))|refine kq (toState_o hS) rfl rfl ?_|refine kq (later_f hm hok) rfl rfl ?_|refine kq (eqHeldS_r (l := []) (by simp) (fun j hj => absurd hj (Nat.not_lt_zero _))) rfl rfl ?_|refine kq (eqState_r (s := s) (hS.mono (by omega))) rfl rfl ?_|refine kq (markHeldS_0 (k := 1)) rfl rfl ?_|refine kq (heldHeldS_e (l := []) (k := 1) (by simp) (fun j hj => absurd hj (Nat.not_lt_zero _)) (by omega)) rfl rfl ?_|fail)
   all_goals
    exact zr [] zae zae
 ·repeat' (first|refine zst ?_|(refine zhm fun hb=>?_;try exact zab)|refine zdr ?_|(apply zch;exact zcg)|refine HopS.mk fun w0 Z O=>?_|exact zhk|refine zg3 ?_ ?_|refine zop ?_|(refine km [] (szState_e h) rfl rfl (fun i hi => ?_);(try dsimp only at hi))|fail)
  all_goals first | (exfalso; exact hS (hi.2 (by omega))) | skip
  exact zr [] zae zae
end Go.Proofs.YtliopiphobopjaaGreat
