/-
  Use, both; its law, without its argument.
-/
import Derived.Test.YtliopiphobopjaaGreatKSh
import Derived.Test.YtliopiphobopjaaGreatKGaV
namespace Go.Proofs.YtliopiphobopjaaGreat
open Go Go.RowKit
attribute [local irreducible] AWp OpsOk OpOk ACalls ChA QsOk MCalls EnC PY

def useS (n : Int) (v : V3) (x : Run) : V3 := if hasI x.nodes n = true then (addO v x.job.need).getD zV else v
def useV (n : Int) (l : List Run) : V3 := l.foldl (useS n) zV
noncomputable def useO (s : State) (n : Int) : V3 := if stateOkB s = true ∧ 0 ≤ n ∧ n < s.topo.nodes.length then useV n s.runs else zV
theorem addO_ok {v u : V3} : vecOkB ((addO v u).getD zV) = true := by
  unfold addO valO
  split
  · rename_i h
    simp only [Bool.and_eq_true] at h
    exact h.2.2
  · rfl
theorem useS_ok {n : Int} {v : V3} {x : Run} (h : vecOkB v = true) : vecOkB (useS n v x) = true := by
  unfold useS
  split
  · exact addO_ok
  · exact h
theorem useV_ok {n : Int} : ∀ (i : Nat) (l : List Run), vecOkB (useV n (l.take i)) = true := by
  intro i l
  unfold useV
  have key : ∀ (l : List Run) (v : V3), vecOkB v = true → vecOkB (l.foldl (useS n) v) = true := by
    intro l
    induction l with
    | nil => exact fun v h => h
    | cons x l ih => exact fun v h => ih _ (useS_ok h)
  exact key _ _ rfl
theorem useV_step {n : Int} {l : List Run} {i : Nat} (h : i < l.length) : useV n (l.take (i + 1)) = useS n (useV n (l.take i)) (nth l i) := by
  rw [take_snoc h, useV, List.foldl_append]
  rfl
theorem useS_yes {n : Int} {v : V3} {x : Run} (h : hasI x.nodes n = true) : useS n v x = (addO v x.job.need).getD zV := if_pos h
theorem useS_no {n : Int} {v : V3} {x : Run} (h : hasI x.nodes n = false) : useS n v x = v := if_neg (by rw [h]; decide)
theorem need_ok {j : Job} (h : jobOkB j = true) : vecOkB j.need = true := by
  simp only [jobOkB, Bool.and_eq_true] at h
  exact h.1.1.1.2
theorem stateOk_runs {s : State} (h : stateOkB s = true) : RunsP s := by
  have h1 := (pB_t.1 h).room
  cases hr : roomOf s with
  | none => rw [hr] at h1; cases h1
  | some r => exact runsP_of hr
theorem hasI_take {l : List Int} {x : Int} {k : Nat} (hk : k < l.length) : hasI (l.take (k + 1)) x = (hasI (l.take k) x || (nth l k == x)) := by
  rw [take_snoc hk]
  simp [hasI]
set_option maxRecDepth 100000 in
theorem l06Node_s {s : State} {n : Int} : ACalls Tryz.prog 77 [stateA s, .d (.n .i64 n)] [.d (.b (decide (0 ≤ n) && decide (n < s.topo.nodes.length)))] [] := by
  refine acalls_of tt Tryz.func77 rfl rfl rfl (fun w0 Z => ?_)
  have hnl := nodeE_length s.topo.nodes
  repeat' (first|apply awp_seq|refine zgr ?_|(refine zhm (fun hb => ?_);(first|(exfalso;omega)|(exact absurd rfl hb)|skip))|refine zga ?_|apply ops_nil|refine zgt ?_|refine zgf ?_|refine zgc ?_ ?_|apply awp_block|apply awp_skip|apply awp_exit|apply awp_ret'|refine zgo ?_|refine zgy ?_|refine zgx ?_ ?_|(apply op_id;first|refine zgq ?_)|(apply q_id;first|refine zk11 ?_|refine zk12 (fun _ => ?_)|refine zk31 ?_))
  all_goals
    refine zr [] ?_ ?_
    repeat'(first|apply And.intro|exact zeb|refine zec ?_|exact zen|refine zeo ?_|exact zel|refine zem ?_|exact zep|refine zeq1 ?_|refine zea ?_|refine zei ?_ ?_|refine zex ?_|refine zca (hv := ?_)|refine zcb (hv := ?_)|exact rfl|trivial)
    exact Stop.mk (by rw [Bool.eq_iff_iff]; simp; omega)
set_option maxRecDepth 100000 in
set_option maxHeartbeats 4000000 in
theorem use_s {s : State} {n : Int} (hs : Small 100000000 s) : ACalls Tryz.prog 19 [stateA s, .d (.n .i64 n)] [vecA (useO s n)] [] := by
  refine acalls_of tt Tryz.func19 rfl rfl rfl (fun w0 Z => ?_)
  have c1 := stateOk_s hs
  have c2 := l06Node_s (s := s) (n := n)
  cases h1 : stateOkB s with
  | false =>
    rw [h1] at c1
    rw [show useO s n = zV from if_neg (fun h => by rw [h1] at h; cases h.1)]
    repeat' (first|apply awp_seq|refine zgr ?_|(refine zhm (fun hb => ?_);(first|(exfalso;omega)|(exact absurd rfl hb)|skip))|refine zga ?_|apply ops_nil|refine zgt ?_|refine zgf ?_|refine zgc ?_ ?_|apply awp_block|apply awp_skip|apply awp_exit|apply awp_ret'|refine zgo ?_|refine zgy ?_|refine zgx ?_ ?_|(apply op_id;first|refine zk45 rfl ?_|refine zk46 rfl ?_|refine kc (c1) rfl rfl ?_|refine zgq ?_)|(apply q_id;first|refine zk0 ?_|refine zk5 ?_|refine zk11 ?_|refine zk12 (fun _ => ?_)|refine zk13 rfl rfl rfl ?_|refine zk14 ?_|refine zk19 ?_|refine zk23 rfl ?_|refine zk31 ?_|refine zk32 rfl rfl rfl ?_|refine zk33 rfl ?_|refine zk34 rfl ?_))
    refine zr [] ?_ ?_
    repeat'(first|apply And.intro|exact zeb|refine zec ?_|exact zen|refine zeo ?_|exact zel|refine zem ?_|exact zep|refine zeq1 ?_|refine zea ?_|refine zei ?_ ?_|refine zex ?_|refine zca (hv := ?_)|refine zcb (hv := ?_)|exact rfl|trivial)
    all_goals exact Stop.mk rfl
  | true =>
    rw [h1] at c1
    have hR := stateOk_runs h1
    by_cases hn : 0 ≤ n ∧ n < s.topo.nodes.length
    · rw [decide_eq_true hn.1, decide_eq_true hn.2] at c2
      rw [show useO s n = useV n s.runs from if_pos ⟨h1, hn⟩]
      repeat' (first|apply awp_seq|refine zgr ?_|(refine zhm (fun hb => ?_);(first|(exfalso;omega)|(exact absurd rfl hb)|skip))|refine zga ?_|apply ops_nil|refine zgt ?_|refine zgf ?_|refine zgc ?_ ?_|apply awp_block|apply awp_skip|apply awp_exit|apply awp_ret'|refine zgo ?_|refine zgy ?_|refine zgx ?_ ?_|(apply op_id;first|refine zk45 rfl ?_|refine zk46 rfl ?_|refine kc (c1) rfl rfl ?_|refine kc (c2) rfl rfl ?_|refine zgq ?_)|(apply q_id;first|refine zk0 ?_|refine zk5 ?_|refine zk11 ?_|refine zk12 (fun _ => ?_)|refine zk13 rfl rfl rfl ?_|refine zk14 ?_|refine zk19 ?_|refine zk23 rfl ?_|refine zk31 ?_|refine zk32 rfl rfl rfl ?_|refine zk33 rfl ?_|refine zk34 rfl ?_))
      refine awp_loop (fun (i : Nat) => ⟨40, [(1, .d (.n .i64 n)), (4, .ptr 4 0), (5, .ptr 5 0), (20, .d (.sl (runE s.runs))), (21, .d (.n .i64 (s.runs.length : Nat))), (22, .d (.n .i64 i))], [(4, .box 35 (vecC zV)), (5, .box 35 (vecC (useV n (s.runs.take i))))]⟩) (fun i => i ≤ s.runs.length) (fun i => s.runs.length - i) 0 (by exact Nat.zero_le _) ?_ ?_
      · refine ⟨rfl, ?_, ?_, rfl⟩
        repeat'(first|apply And.intro|exact zeb|refine zec ?_|exact zen|refine zeo ?_|exact zel|refine zem ?_|exact zep|refine zeq1 ?_|refine zea ?_|refine zei ?_ ?_|refine zex ?_|refine zca (hv := ?_)|refine zcb (hv := ?_)|exact rfl|trivial)
        all_goals exact Stop.mk (by first | rfl | exact runE_length _)
      · intro i hi
        have hrl := runE_length s.runs
        by_cases hi' : i < s.runs.length
        · obtain ⟨hj, hd⟩ := hR.runs i hi'
          have hrn := hs.rno i hi'
          have c3 := l02Has_c (l := (nth s.runs i).nodes) (x := n) (by omega)
          have c4 := vecAdd_s (useV_ok (n := n) i s.runs) (need_ok hj)
          have hst := useV_step (n := n) hi'
          cases hh : hasI (nth s.runs i).nodes n with
          | true =>
            rw [hh] at c3
            rw [useS_yes hh] at hst
            repeat' (first|apply awp_seq|refine zgr ?_|(refine zhm (fun hb => ?_);(first|(exfalso;omega)|(exact absurd rfl hb)|skip))|refine zga ?_|apply ops_nil|refine zgt ?_|refine zgf ?_|refine zgc ?_ ?_|apply awp_block|apply awp_skip|apply awp_exit|apply awp_ret'|refine zgo ?_|refine zgy ?_|refine zgx ?_ ?_|(apply op_id;first|refine zk45 rfl ?_|refine zk46 rfl ?_|refine kc (c3) rfl rfl ?_|refine kc (c4) rfl rfl ?_|refine zgq ?_)|(apply q_id;first|refine zk0 ?_|refine zk5 ?_|refine zk11 ?_|refine zk12 (fun _ => ?_)|refine zk13 rfl rfl rfl ?_|refine zk14 ?_|refine zk19 ?_|refine zk23 rfl ?_|refine zk31 ?_|refine zk32 rfl rfl rfl ?_|refine zk33 rfl ?_|refine zk34 rfl ?_))
            refine ⟨i + 1, by omega, by omega, ?_⟩
            refine ⟨rfl, ?_, ?_, rfl⟩
            repeat'(first|apply And.intro|exact zeb|refine zec ?_|exact zen|refine zeo ?_|exact zel|refine zem ?_|exact zep|refine zeq1 ?_|refine zea ?_|refine zei ?_ ?_|refine zex ?_|refine zca (hv := ?_)|refine zcb (hv := ?_)|exact rfl|trivial)
            all_goals exact Stop.mk (by first | rfl | rw [hst])
          | false =>
            rw [hh] at c3
            rw [useS_no hh] at hst
            repeat' (first|apply awp_seq|refine zgr ?_|(refine zhm (fun hb => ?_);(first|(exfalso;omega)|(exact absurd rfl hb)|skip))|refine zga ?_|apply ops_nil|refine zgt ?_|refine zgf ?_|refine zgc ?_ ?_|apply awp_block|apply awp_skip|apply awp_exit|apply awp_ret'|refine zgo ?_|refine zgy ?_|refine zgx ?_ ?_|(apply op_id;first|refine zk45 rfl ?_|refine zk46 rfl ?_|refine kc (c3) rfl rfl ?_|refine zgq ?_)|(apply q_id;first|refine zk0 ?_|refine zk5 ?_|refine zk11 ?_|refine zk12 (fun _ => ?_)|refine zk13 rfl rfl rfl ?_|refine zk14 ?_|refine zk19 ?_|refine zk23 rfl ?_|refine zk31 ?_|refine zk32 rfl rfl rfl ?_|refine zk33 rfl ?_|refine zk34 rfl ?_))
            refine ⟨i + 1, by omega, by omega, ?_⟩
            refine ⟨rfl, ?_, ?_, rfl⟩
            repeat'(first|apply And.intro|exact zeb|refine zec ?_|exact zen|refine zeo ?_|exact zel|refine zem ?_|exact zep|refine zeq1 ?_|refine zea ?_|refine zei ?_ ?_|refine zex ?_|refine zca (hv := ?_)|refine zcb (hv := ?_)|exact rfl|trivial)
            all_goals exact Stop.mk (by first | rfl | rw [hst])
        · rw [show useV n s.runs = useV n (s.runs.take i) by rw [List.take_of_length_le (by omega)]]
          repeat' (first|apply awp_seq|refine zgr ?_|(refine zhm (fun hb => ?_);(first|(exfalso;omega)|(exact absurd rfl hb)|skip))|refine zga ?_|apply ops_nil|refine zgt ?_|refine zgf ?_|refine zgc ?_ ?_|apply awp_block|apply awp_skip|apply awp_exit|apply awp_ret'|refine zgo ?_|refine zgy ?_|refine zgx ?_ ?_|(apply op_id;first|refine zk45 rfl ?_|refine zk46 rfl ?_|refine zgq ?_)|(apply q_id;first|refine zk0 ?_|refine zk5 ?_|refine zk11 ?_|refine zk12 (fun _ => ?_)|refine zk13 rfl rfl rfl ?_|refine zk14 ?_|refine zk19 ?_|refine zk23 rfl ?_|refine zk31 ?_|refine zk32 rfl rfl rfl ?_|refine zk33 rfl ?_|refine zk34 rfl ?_))
          refine zr [] ?_ ?_
          repeat'(first|apply And.intro|exact zeb|refine zec ?_|exact zen|refine zeo ?_|exact zel|refine zem ?_|exact zep|refine zeq1 ?_|refine zea ?_|refine zei ?_ ?_|refine zex ?_|refine zca (hv := ?_)|refine zcb (hv := ?_)|exact rfl|trivial)
          all_goals exact Stop.mk rfl
    · rw [show (decide (0 ≤ n) && decide (n < s.topo.nodes.length)) = false by simp; omega] at c2
      rw [show useO s n = zV from if_neg (fun h => hn h.2)]
      repeat' (first|apply awp_seq|refine zgr ?_|(refine zhm (fun hb => ?_);(first|(exfalso;omega)|(exact absurd rfl hb)|skip))|refine zga ?_|apply ops_nil|refine zgt ?_|refine zgf ?_|refine zgc ?_ ?_|apply awp_block|apply awp_skip|apply awp_exit|apply awp_ret'|refine zgo ?_|refine zgy ?_|refine zgx ?_ ?_|(apply op_id;first|refine zk45 rfl ?_|refine zk46 rfl ?_|refine kc (c1) rfl rfl ?_|refine kc (c2) rfl rfl ?_|refine zgq ?_)|(apply q_id;first|refine zk0 ?_|refine zk5 ?_|refine zk11 ?_|refine zk12 (fun _ => ?_)|refine zk13 rfl rfl rfl ?_|refine zk14 ?_|refine zk19 ?_|refine zk23 rfl ?_|refine zk31 ?_|refine zk32 rfl rfl rfl ?_|refine zk33 rfl ?_|refine zk34 rfl ?_))
      refine zr [] ?_ ?_
      repeat'(first|apply And.intro|exact zeb|refine zec ?_|exact zen|refine zeo ?_|exact zel|refine zem ?_|exact zep|refine zeq1 ?_|refine zea ?_|refine zei ?_ ?_|refine zex ?_|refine zca (hv := ?_)|refine zcb (hv := ?_)|exact rfl|trivial)
      all_goals exact Stop.mk rfl
set_option maxRecDepth 100000 in
set_option maxHeartbeats 4000000 in
theorem use_e {s : State} {n : Int} (hs : Small 100000000 s) : ACalls Tryz.prog 21 [stateA s, .d (.n .i64 n)] [vecA (useO s n)] [] := by
  refine acalls_of tt Tryz.func21 rfl rfl rfl (fun w0 Z => ?_)
  have hnl := nodeE_length s.topo.nodes
  have hno := hs.nod
  have c1 := stateOk_e hs
  cases h1 : stateOkB s with
  | false =>
    rw [h1] at c1
    rw [show useO s n = zV from if_neg (fun h => by rw [h1] at h; cases h.1)]
    repeat' (first|apply awp_seq|refine zgr ?_|(refine zhm (fun hb => ?_);(first|(exfalso;omega)|(exact absurd rfl hb)|skip))|refine zga ?_|apply ops_nil|refine zgt ?_|refine zgf ?_|refine zgc ?_ ?_|apply awp_block|apply awp_skip|apply awp_exit|apply awp_ret'|refine zgo ?_|refine zgy ?_|refine zgx ?_ ?_|(apply op_id;first|refine zk45 rfl ?_|refine zk46 rfl ?_|refine kc (c1) rfl rfl ?_|refine zgq ?_)|(apply q_id;first|refine zk0 ?_|refine zk1 ?_|refine zk5 ?_|refine zk6 ?_|refine zk10 ?_|refine zk11 ?_|refine zk12 (fun _ => ?_)|refine zk13 rfl rfl rfl ?_|refine zk14 ?_|refine zk19 ?_|refine zk23 rfl ?_|refine zk28 ns_ok (by kernel_rfl) ?_|refine zk31 ?_|refine zk32 rfl rfl rfl ?_|refine zk33 rfl ?_|refine zk34 rfl ?_))
    refine zr [] ?_ ?_
    repeat'(first|apply And.intro|exact zeb|refine zec ?_|exact zen|refine zeo ?_|exact zel|refine zem ?_|exact zep|refine zeq1 ?_|refine zea ?_|refine zei ?_ ?_|refine zex ?_|refine zca (hv := ?_)|refine zcb (hv := ?_)|exact rfl|trivial)
    all_goals exact Stop.mk rfl
  | true =>
    rw [h1] at c1
    have hR := stateOk_runs h1
    by_cases hn : 0 ≤ n ∧ n < s.topo.nodes.length
    · rw [show useO s n = useV n s.runs from if_pos ⟨h1, hn⟩]
      repeat' (first|apply awp_seq|refine zgr ?_|(refine zhm (fun hb => ?_);(first|(exfalso;omega)|(exact absurd rfl hb)|skip))|refine zga ?_|apply ops_nil|refine zgt ?_|refine zgf ?_|refine zgc ?_ ?_|apply awp_block|apply awp_skip|apply awp_exit|apply awp_ret'|refine zgo ?_|refine zgy ?_|refine zgx ?_ ?_|(apply op_id;first|refine zk45 rfl ?_|refine zk46 rfl ?_|refine kc (c1) rfl rfl ?_|refine kc (within_c) rfl rfl ?_|refine zgq ?_)|(apply q_id;first|refine zk0 ?_|refine zk1 ?_|refine zk5 ?_|refine zk6 ?_|refine zk10 ?_|refine zk11 ?_|refine zk12 (fun _ => ?_)|refine zk13 rfl rfl rfl ?_|refine zk14 ?_|refine zk19 ?_|refine zk23 rfl ?_|refine zk28 ns_ok (by kernel_rfl) ?_|refine zk31 ?_|refine zk32 rfl rfl rfl ?_|refine zk33 rfl ?_|refine zk34 rfl ?_))
      refine awp_loop (fun (i : Nat) => ⟨53, [(1, .d (.n .i64 n)), (4, .ptr 4 0), (5, .ptr 5 0), (26, .d (.sl (runE s.runs))), (27, .d (.n .i64 (s.runs.length : Nat))), (28, .d (.n .i64 i))], [(4, .box 35 (vecC zV)), (5, .box 35 (vecC (useV n (s.runs.take i))))]⟩) (fun i => i ≤ s.runs.length) (fun i => s.runs.length - i) 0 (by exact Nat.zero_le _) ?_ ?_
      · refine ⟨rfl, ?_, ?_, rfl⟩
        repeat'(first|apply And.intro|exact zeb|refine zec ?_|exact zen|refine zeo ?_|exact zel|refine zem ?_|exact zep|refine zeq1 ?_|refine zea ?_|refine zei ?_ ?_|refine zex ?_|refine zca (hv := ?_)|refine zcb (hv := ?_)|exact rfl|trivial)
        all_goals exact Stop.mk (by first | rfl | exact runE_length _)
      · intro i hi
        have hrl := runE_length s.runs
        by_cases hi' : i < s.runs.length
        · obtain ⟨hj, hd⟩ := hR.runs i hi'
          have hrn := hs.rno i hi'
          have hil := intE_length (nth s.runs i).nodes
          have c4 := vecAdd_e (useV_ok (n := n) i s.runs) (need_ok hj)
          have hst := useV_step (n := n) hi'
          repeat' (first|apply awp_seq|refine zgr ?_|(refine zhm (fun hb => ?_);(first|(exfalso;omega)|(exact absurd rfl hb)|skip))|refine zga ?_|apply ops_nil|refine zgt ?_|refine zgf ?_|refine zgc ?_ ?_|apply awp_block|apply awp_skip|apply awp_exit|apply awp_ret'|refine zgo ?_|refine zgy ?_|refine zgx ?_ ?_|(apply op_id;first|refine zk45 rfl ?_|refine zk46 rfl ?_|refine zgq ?_)|(apply q_id;first|refine zk0 ?_|refine zk1 ?_|refine zk5 ?_|refine zk6 ?_|refine zk10 ?_|refine zk11 ?_|refine zk12 (fun _ => ?_)|refine zk13 rfl rfl rfl ?_|refine zk14 ?_|refine zk19 ?_|refine zk23 rfl ?_|refine zk28 ns_ok (by kernel_rfl) ?_|refine zk31 ?_|refine zk32 rfl rfl rfl ?_|refine zk33 rfl ?_|refine zk34 rfl ?_))
          refine awp_loop (fun (m : Nat) => ⟨53, [(1, .d (.n .i64 n)), (4, .ptr 4 0), (5, .ptr 5 0), (7, .ptr 7 0), (26, .d (.sl (runE s.runs))), (27, .d (.n .i64 (s.runs.length : Nat))), (28, .d (.n .i64 i)), (33, .d (.sl (intE (nth s.runs i).nodes))), (34, .d (.n .i64 ((nth s.runs i).nodes.length : Nat))), (35, .d (.n .i64 m))], [(4, .box 35 (vecC zV)), (5, .box 35 (vecC (bif hasI ((nth s.runs i).nodes.take m) n then (addO (useV n (s.runs.take i)) (nth s.runs i).job.need).getD zV else useV n (s.runs.take i)))), (7, .box 116 ((runD (nth s.runs i)).map AV.d))]⟩) (fun m => m ≤ (nth s.runs i).nodes.length) (fun m => (nth s.runs i).nodes.length - m) 0 (by exact Nat.zero_le _) ?_ ?_
          · refine ⟨rfl, ?_, ?_, rfl⟩
            repeat'(first|apply And.intro|exact zeb|refine zec ?_|exact zen|refine zeo ?_|exact zel|refine zem ?_|exact zep|refine zeq1 ?_|refine zea ?_|refine zei ?_ ?_|refine zex ?_|refine zca (hv := ?_)|refine zcb (hv := ?_)|exact rfl|trivial)
            all_goals exact Stop.mk (by first | rfl | exact intE_length _)
          · intro m hm
            by_cases hm' : m < (nth s.runs i).nodes.length
            · have hdf := hd.diff m hm'
              have hht := hasI_take (x := n) hm'
              cases hh : hasI ((nth s.runs i).nodes.take m) n with
              | true =>
                rw [hh, Bool.true_or] at hht
                have hne : nth (nth s.runs i).nodes m ≠ n := fun e => by rw [e, hh] at hdf; cases hdf
                repeat' (first|apply awp_seq|refine zgr ?_|(refine zhm (fun hb => ?_);(first|(exfalso;omega)|(exact absurd rfl hb)|skip))|refine zga ?_|apply ops_nil|refine zgt ?_|refine zgf ?_|refine zgc ?_ ?_|apply awp_block|apply awp_skip|apply awp_exit|apply awp_ret'|refine zgo ?_|refine zgy ?_|refine zgx ?_ ?_|(apply op_id;first|refine zk45 rfl ?_|refine zk46 rfl ?_|refine zgq ?_)|(apply q_id;first|refine zk0 ?_|refine zk1 ?_|refine zk5 ?_|refine zk6 ?_|refine zk10 ?_|refine zk11 ?_|refine zk12 (fun _ => ?_)|refine zk13 rfl rfl rfl ?_|refine zk14 ?_|refine zk19 ?_|refine zk23 rfl ?_|refine zk28 ns_ok (by kernel_rfl) ?_|refine zk31 ?_|refine zk32 rfl rfl rfl ?_|refine zk33 rfl ?_|refine zk34 rfl ?_))
                refine ⟨m + 1, by omega, by omega, ?_⟩
                refine ⟨rfl, ?_, ?_, rfl⟩
                repeat'(first|apply And.intro|exact zeb|refine zec ?_|exact zen|refine zeo ?_|exact zel|refine zem ?_|exact zep|refine zeq1 ?_|refine zea ?_|refine zei ?_ ?_|refine zex ?_|refine zca (hv := ?_)|refine zcb (hv := ?_)|exact rfl|trivial)
                all_goals exact Stop.mk (by first | rfl | (rw [hht]; done) | (rw [hht]; rfl))
              | false =>
                rw [hh, Bool.false_or] at hht
                by_cases he : nth (nth s.runs i).nodes m = n
                · rw [beq_iff_eq.2 he] at hht
                  repeat' (first|apply awp_seq|refine zgr ?_|(refine zhm (fun hb => ?_);(first|(exfalso;omega)|(exact absurd rfl hb)|skip))|refine zga ?_|apply ops_nil|refine zgt ?_|refine zgf ?_|refine zgc ?_ ?_|apply awp_block|apply awp_skip|apply awp_exit|apply awp_ret'|refine zgo ?_|refine zgy ?_|refine zgx ?_ ?_|(apply op_id;first|refine zk45 rfl ?_|refine zk46 rfl ?_|refine kc (c4) rfl rfl ?_|refine zgq ?_)|(apply q_id;first|refine zk0 ?_|refine zk1 ?_|refine zk5 ?_|refine zk6 ?_|refine zk10 ?_|refine zk11 ?_|refine zk12 (fun _ => ?_)|refine zk13 rfl rfl rfl ?_|refine zk14 ?_|refine zk19 ?_|refine zk23 rfl ?_|refine zk28 ns_ok (by kernel_rfl) ?_|refine zk31 ?_|refine zk32 rfl rfl rfl ?_|refine zk33 rfl ?_|refine zk34 rfl ?_))
                  refine ⟨m + 1, by omega, by omega, ?_⟩
                  refine ⟨rfl, ?_, ?_, rfl⟩
                  repeat'(first|apply And.intro|exact zeb|refine zec ?_|exact zen|refine zeo ?_|exact zel|refine zem ?_|exact zep|refine zeq1 ?_|refine zea ?_|refine zei ?_ ?_|refine zex ?_|refine zca (hv := ?_)|refine zcb (hv := ?_)|exact rfl|trivial)
                  all_goals exact Stop.mk (by first | rfl | (rw [hht]; done) | (rw [hht]; rfl))
                · rw [beq_eq_false_iff_ne.2 he] at hht
                  repeat' (first|apply awp_seq|refine zgr ?_|(refine zhm (fun hb => ?_);(first|(exfalso;omega)|(exact absurd rfl hb)|skip))|refine zga ?_|apply ops_nil|refine zgt ?_|refine zgf ?_|refine zgc ?_ ?_|apply awp_block|apply awp_skip|apply awp_exit|apply awp_ret'|refine zgo ?_|refine zgy ?_|refine zgx ?_ ?_|(apply op_id;first|refine zk45 rfl ?_|refine zk46 rfl ?_|refine zgq ?_)|(apply q_id;first|refine zk0 ?_|refine zk1 ?_|refine zk5 ?_|refine zk6 ?_|refine zk10 ?_|refine zk11 ?_|refine zk12 (fun _ => ?_)|refine zk13 rfl rfl rfl ?_|refine zk14 ?_|refine zk19 ?_|refine zk23 rfl ?_|refine zk28 ns_ok (by kernel_rfl) ?_|refine zk31 ?_|refine zk32 rfl rfl rfl ?_|refine zk33 rfl ?_|refine zk34 rfl ?_))
                  refine ⟨m + 1, by omega, by omega, ?_⟩
                  refine ⟨rfl, ?_, ?_, rfl⟩
                  repeat'(first|apply And.intro|exact zeb|refine zec ?_|exact zen|refine zeo ?_|exact zel|refine zem ?_|exact zep|refine zeq1 ?_|refine zea ?_|refine zei ?_ ?_|refine zex ?_|refine zca (hv := ?_)|refine zcb (hv := ?_)|exact rfl|trivial)
                  all_goals exact Stop.mk (by first | rfl | (rw [hht]; done) | (rw [hht]; rfl))
            · repeat' (first|apply awp_seq|refine zgr ?_|(refine zhm (fun hb => ?_);(first|(exfalso;omega)|(exact absurd rfl hb)|skip))|refine zga ?_|apply ops_nil|refine zgt ?_|refine zgf ?_|refine zgc ?_ ?_|apply awp_block|apply awp_skip|apply awp_exit|apply awp_ret'|refine zgo ?_|refine zgy ?_|refine zgx ?_ ?_|(apply op_id;first|refine zk45 rfl ?_|refine zk46 rfl ?_|refine zgq ?_)|(apply q_id;first|refine zk0 ?_|refine zk1 ?_|refine zk5 ?_|refine zk6 ?_|refine zk10 ?_|refine zk11 ?_|refine zk12 (fun _ => ?_)|refine zk13 rfl rfl rfl ?_|refine zk14 ?_|refine zk19 ?_|refine zk23 rfl ?_|refine zk28 ns_ok (by kernel_rfl) ?_|refine zk31 ?_|refine zk32 rfl rfl rfl ?_|refine zk33 rfl ?_|refine zk34 rfl ?_))
              refine ⟨i + 1, by omega, by omega, ?_⟩
              refine ⟨rfl, ?_, ?_, rfl⟩
              repeat'(first|apply And.intro|exact zeb|refine zec ?_|exact zen|refine zeo ?_|exact zel|refine zem ?_|exact zep|refine zeq1 ?_|refine zea ?_|refine zei ?_ ?_|refine zex ?_|refine zca (hv := ?_)|refine zcb (hv := ?_)|exact rfl|trivial)
              all_goals exact Stop.mk (by first | rfl | (rw [hst, List.take_of_length_le (by omega)]; unfold useS; cases hasI (nth s.runs i).nodes n <;> rfl))
        · rw [show useV n s.runs = useV n (s.runs.take i) by rw [List.take_of_length_le (by omega)]]
          repeat' (first|apply awp_seq|refine zgr ?_|(refine zhm (fun hb => ?_);(first|(exfalso;omega)|(exact absurd rfl hb)|skip))|refine zga ?_|apply ops_nil|refine zgt ?_|refine zgf ?_|refine zgc ?_ ?_|apply awp_block|apply awp_skip|apply awp_exit|apply awp_ret'|refine zgo ?_|refine zgy ?_|refine zgx ?_ ?_|(apply op_id;first|refine zk45 rfl ?_|refine zk46 rfl ?_|refine zgq ?_)|(apply q_id;first|refine zk0 ?_|refine zk1 ?_|refine zk5 ?_|refine zk6 ?_|refine zk10 ?_|refine zk11 ?_|refine zk12 (fun _ => ?_)|refine zk13 rfl rfl rfl ?_|refine zk14 ?_|refine zk19 ?_|refine zk23 rfl ?_|refine zk28 ns_ok (by kernel_rfl) ?_|refine zk31 ?_|refine zk32 rfl rfl rfl ?_|refine zk33 rfl ?_|refine zk34 rfl ?_))
          refine zr [] ?_ ?_
          repeat'(first|apply And.intro|exact zeb|refine zec ?_|exact zen|refine zeo ?_|exact zel|refine zem ?_|exact zep|refine zeq1 ?_|refine zea ?_|refine zei ?_ ?_|refine zex ?_|refine zca (hv := ?_)|refine zcb (hv := ?_)|exact rfl|trivial)
          all_goals exact Stop.mk rfl
    · rw [show useO s n = zV from if_neg (fun h => hn h.2)]
      repeat' (first|apply awp_seq|refine zgr ?_|(refine zhm (fun hb => ?_);(first|(exfalso;omega)|(exact absurd rfl hb)|skip))|refine zga ?_|apply ops_nil|refine zgt ?_|refine zgf ?_|refine zgc ?_ ?_|apply awp_block|apply awp_skip|apply awp_exit|apply awp_ret'|refine zgo ?_|refine zgy ?_|refine zgx ?_ ?_|(apply op_id;first|refine zk45 rfl ?_|refine zk46 rfl ?_|refine kc (c1) rfl rfl ?_|refine kc (within_c) rfl rfl ?_|refine zgq ?_)|(apply q_id;first|refine zk0 ?_|refine zk1 ?_|refine zk5 ?_|refine zk6 ?_|refine zk10 ?_|refine zk11 ?_|refine zk12 (fun _ => ?_)|refine zk13 rfl rfl rfl ?_|refine zk14 ?_|refine zk19 ?_|refine zk23 rfl ?_|refine zk28 ns_ok (by kernel_rfl) ?_|refine zk31 ?_|refine zk32 rfl rfl rfl ?_|refine zk33 rfl ?_|refine zk34 rfl ?_))
      all_goals
        refine zr [] ?_ ?_
        repeat'(first|apply And.intro|exact zeb|refine zec ?_|exact zen|refine zeo ?_|exact zel|refine zem ?_|exact zep|refine zeq1 ?_|refine zea ?_|refine zei ?_ ?_|refine zex ?_|refine zca (hv := ?_)|refine zcb (hv := ?_)|exact rfl|trivial)
        all_goals exact Stop.mk rfl
set_option maxRecDepth 100000 in
set_option maxHeartbeats 4000000 in
theorem lawUse_e {s : State} {n : Int} (h : Small 9223372036854775807 s) : ACalls Tryz.prog 3 [stateA s, .d (.n .i64 n)] [.d (.b true)] [] := by
  refine acalls_of tt Tryz.func3 rfl rfl rfl (fun w0 Z => ?_)
  by_cases hS : Small 1048576 s
  · repeat' (first|apply awp_seq|refine zgr ?_|(refine zhm (fun hb => ?_);(first|(exfalso;omega)|(exact absurd rfl hb)|skip))|refine zga ?_|apply ops_nil|(apply awp_drawm2 10;kernel_rfl;exact rfl)|(apply awp_drawq;exact rfl;kernel_rfl;kernel_rfl;exact rfl)|(apply awp_drawx;exact rfl;kernel_rfl;exact rfl)|(apply aopQ_ok;exact rfl)|apply qs_nil|(apply ch_nil;exact rfl)|(apply ch_cons;(iterate 2 exact rfl);(iterate 2 exact rfl);(· (intro w0 Z O;first|(apply aop_ok;exact rfl)|refine kc (use_s (s := s) (n := n) (hS.mono (by omega))) rfl rfl ?_|refine kc (use_e (s := s) (n := n) (hS.mono (by omega))) rfl rfl ?_|refine kc (eqVec_r (x := useO s n)) rfl rfl ?_|refine kc (eqState_r (hS.mono (by omega))) rfl rfl ?_|refine km [] (szState_e h) rfl rfl (fun i hi => ?_);(try dsimp only at hi)|refine km [] (toState_e hS) rfl rfl (fun i hi => ?_);(try dsimp only at hi));exact ⟨rfl, rfl, rfl⟩);(iterate 2 exact rfl);(· (repeat' (first|apply And.intro|exact Or.inl rfl|exact Or.inr ⟨rfl, rfl⟩|exact trivial)));(· (repeat' (first|apply And.intro|exact trivial|exact rfl|exact flatE_map (fun _ => rfl)|apply flatE_app)));(iterate 4 exact rfl))|(apply ch_yes;(iterate 4 exact rfl);(iterate 2 exact rfl);(· (intro w0 Z O;first|(apply aop_ok;exact rfl)|refine kc (use_s (s := s) (n := n) (hS.mono (by omega))) rfl rfl ?_|refine kc (use_e (s := s) (n := n) (hS.mono (by omega))) rfl rfl ?_|refine kc (eqVec_r (x := useO s n)) rfl rfl ?_|refine kc (eqState_r (hS.mono (by omega))) rfl rfl ?_|refine km [] (szState_e h) rfl rfl (fun i hi => ?_);(try dsimp only at hi)|refine km [] (toState_e hS) rfl rfl (fun i hi => ?_);(try dsimp only at hi));exact ⟨rfl, rfl, rfl⟩);(iterate 2 exact rfl);(· (repeat' (first|apply And.intro|exact Or.inl rfl|exact Or.inr ⟨rfl, rfl⟩|exact trivial)));(· (repeat' (first|apply And.intro|exact trivial|exact rfl|exact flatE_map (fun _ => rfl)|apply flatE_app)));(iterate 4 exact rfl))|(apply ch_no;iterate 10 exact rfl)|(apply ch_no2;iterate 9 exact rfl)|refine zcx ?_ ?_|refine zgt ?_|refine zgf ?_|refine zgc ?_ ?_|apply awp_block|apply awp_skip|apply awp_exit|apply awp_ret'|refine zgo ?_|refine zgy ?_|refine zgx ?_ ?_|(first|(apply qs_cons;exact rfl)|(apply qs_yes;exact rfl;exact rfl;exact rfl))|refine zqx ?_ ?_|(apply q_id;first|refine kq (use_s (s := s) (n := n) (hS.mono (by omega))) rfl rfl ?_|refine kq (use_e (s := s) (n := n) (hS.mono (by omega))) rfl rfl ?_|refine kq (eqVec_r (x := useO s n)) rfl rfl ?_|refine kq (eqState_r (hS.mono (by omega))) rfl rfl ?_)|(apply op_id;first|refine kc (use_s (s := s) (n := n) (hS.mono (by omega))) rfl rfl ?_|refine kc (use_e (s := s) (n := n) (hS.mono (by omega))) rfl rfl ?_|refine kc (eqVec_r (x := useO s n)) rfl rfl ?_|refine kc (eqState_r (hS.mono (by omega))) rfl rfl ?_|(refine km [] (szState_e h) rfl rfl (fun i hi => ?_);(try dsimp only at hi))|(refine km [] (toState_e hS) rfl rfl (fun i hi => ?_);(try dsimp only at hi))))
    all_goals
      refine zr [] ?_ ?_
      repeat'(first|apply And.intro|exact zeb|refine zec ?_|exact zen|refine zeo ?_|exact zel|refine zem ?_|exact zep|refine zeq1 ?_|refine zea ?_|refine zei ?_ ?_|refine zex ?_|refine zca (hv := ?_)|refine zcb (hv := ?_)|exact rfl|trivial)
      all_goals exact Stop.mk rfl
  · repeat' (first|apply awp_seq|refine zgr ?_|(refine zhm (fun hb => ?_);(first|(exfalso;omega)|(exact absurd rfl hb)|skip))|refine zga ?_|apply ops_nil|(apply awp_drawq;exact rfl;kernel_rfl;kernel_rfl;exact rfl)|(apply awp_drawx;exact rfl;kernel_rfl;exact rfl)|(apply aopQ_ok;exact rfl)|apply qs_nil|(apply ch_nil;exact rfl)|(apply ch_cons;(iterate 2 exact rfl);(iterate 2 exact rfl);(· (intro w0 Z O;first|(apply aop_ok;exact rfl)|refine km [] (szState_e h) rfl rfl (fun i hi => ?_);(try dsimp only at hi));exact ⟨rfl, rfl, rfl⟩);(iterate 2 exact rfl);(· (repeat' (first|apply And.intro|exact Or.inl rfl|exact Or.inr ⟨rfl, rfl⟩|exact trivial)));(· (repeat' (first|apply And.intro|exact trivial|exact rfl|exact flatE_map (fun _ => rfl)|apply flatE_app)));(iterate 4 exact rfl))|(apply ch_yes;(iterate 4 exact rfl);(iterate 2 exact rfl);(· (intro w0 Z O;first|(apply aop_ok;exact rfl)|refine km [] (szState_e h) rfl rfl (fun i hi => ?_);(try dsimp only at hi));exact ⟨rfl, rfl, rfl⟩);(iterate 2 exact rfl);(· (repeat' (first|apply And.intro|exact Or.inl rfl|exact Or.inr ⟨rfl, rfl⟩|exact trivial)));(· (repeat' (first|apply And.intro|exact trivial|exact rfl|exact flatE_map (fun _ => rfl)|apply flatE_app)));(iterate 4 exact rfl))|(apply ch_no;iterate 10 exact rfl)|(apply ch_no2;iterate 9 exact rfl)|refine zcx ?_ ?_|refine zgt ?_|refine zgf ?_|refine zgc ?_ ?_|apply awp_block|apply awp_skip|apply awp_exit|apply awp_ret'|refine zgo ?_|refine zgy ?_|refine zgx ?_ ?_|(first|(apply qs_cons;exact rfl)|(apply qs_yes;exact rfl;exact rfl;exact rfl))|refine zqx ?_ ?_|(apply op_id;first|(refine km [] (szState_e h) rfl rfl (fun i hi => ?_);(try dsimp only at hi))))
    all_goals first | (exfalso; exact hS (hi.2 (by omega))) | skip
    refine zr [] ?_ ?_
    repeat'(first|apply And.intro|exact zeb|refine zec ?_|exact zen|refine zeo ?_|exact zel|refine zem ?_|exact zep|refine zeq1 ?_|refine zea ?_|refine zei ?_ ?_|refine zex ?_|refine zca (hv := ?_)|refine zcb (hv := ?_)|exact rfl|trivial)
    all_goals exact Stop.mk rfl
end Go.Proofs.YtliopiphobopjaaGreat
