/-
  The room of a state, the reference's.
-/
import Derived.Test.YtliopiphobopjaaGreatKSh
import Derived.Test.YtliopiphobopjaaGreatKGaR
set_option maxRecDepth 100000
set_option maxHeartbeats 16000000
namespace Go.Proofs.YtliopiphobopjaaGreat
open Go Go.RowKit
attribute [local irreducible] AWp OpsOk OpOk ACalls ChA QsOk MCalls EnC PY

theorem base_empO {s : State} : BaseP s ↔ (empO s).isSome = true ∧ 0 ≤ s.now ∧ s.now ≤ 1000000000 := by
  constructor
  · intro h
    rw [empO_t h.topo h.up h.lic]
    exact ⟨rfl, h.now⟩
  · rintro ⟨h, hn⟩
    unfold empO at h
    split at h
    · rename_i hc
      simp only [Bool.and_eq_true, decide_eq_true_eq] at hc
      exact ⟨topoOkB_t.1 hc.1.1, hc.1.2, hc.2, hn⟩
    · cases h
theorem roomOf_s {s : State} (hs : Small 1000000000 s) : DC Tryz.prog 114 [stateA s] (resRoom (roomOf s)) := by
  refine mcalls_of tt Tryz.func114 rfl rfl rfl trivial (fun _ _ => ⟨trivial, trivial⟩) (fun w0 Z O => ?_)
  have c1 := l06Empty_s hs
  have c3 := time_s (x := s.now)
  by_cases hB : BaseP s
  · have h1 := hB.up
    have h2 := hB.now
    have h3 := hB.topo.nlen
    have h4 := hB.topo.len
    rw [empO_t hB.topo hB.up hB.lic] at c1
    rw [show inB s.now 0 1000000000 = true by rw [inB_t]; exact h2] at c3
    rw [roomOf_b hB]
    repeat' (first|refine zst ?_|(refine zhm fun hb=>?_;try first|omega|exact absurd rfl hb)|refine zgc ?_ ?_|refine zgx ?_ ?_|(apply op_id;first|refine zk45 rfl ?_|refine zk46 rfl ?_|refine kc (c3) rfl rfl ?_|(refine km [] (c1) rfl rfl (fun i hi => ?_);(try dsimp only at hi))|refine zgq ?_)|(apply q_id;first|refine zk0 ?_|refine zk1 ?_|refine zk5 ?_|refine zk6 ?_|refine zk10 ?_|refine zk11 ?_|refine zk12 (fun _ => ?_)|refine zk13 rfl rfl rfl ?_|refine zk14 ?_|refine zk19 ?_|refine zk23 rfl ?_|refine zk31 ?_|refine zk32 rfl rfl rfl ?_|refine zk33 rfl ?_|refine zk34 rfl ?_))
    refine awp_loop (fun (k : Nat × Room) => ⟨93, [(1, .ptr 1 0), (2, .ptr 2 0), (4, .ptr 4 0), (27, .d (.sl (runE s.runs))), (28, .d (.n .i64 (s.runs.length : Nat))), (29, .d (.n .i64 k.1))], [(1, .box 44 (stateC s)), (2, .box 152 [.nil, .nil, .nil, .nil, .nil]), (4, .box 152 (roomC k.2))]⟩) (fun k => GoP s k.1 k.2) (fun k => s.runs.length - k.1) (0, emptyR s.topo s.up s.lic) (by exact ⟨Nat.zero_le _, empty_ok hB.topo h1 hB.lic, rfl⟩) ?_ ?_
    · refine ⟨rfl, ?_, ?_, rfl⟩
      repeat'(first|apply And.intro|exact zeb|refine zec ?_|exact zen|refine zeo ?_|exact zel|refine zem ?_|exact zep|refine zeq1 ?_|refine zea ?_|refine zei ?_ ?_|refine zex ?_|refine zca (hv := ?_)|refine zcb (hv := ?_)|exact rfl|trivial)
      all_goals exact Stop.mk (by first | rfl | exact runE_length _)
    · rintro ⟨n, r⟩ hg
      dsimp only at hg ⊢
      have hle := hg.le
      have hrl := runE_length s.runs
      by_cases hn : n < s.runs.length
      · have c5 := l04Diff_s (j := (nth s.runs n).job) (l := (nth s.runs n).nodes) hg.ok (hs.rno n hn)
        cases hd : (jobOkB (nth s.runs n).job && diffB r.topo (nth s.runs n).job (nth s.runs n).nodes) with
        | false =>
          rw [hd] at c5
          have hnone : roomGo s.now s.runs (emptyR s.topo s.up s.lic) = none := by
            cases hb0 : runB s.now (nth s.runs n) with
            | false => exact goP_f hg hn hb0
            | true =>
              refine goP_n hg hn ?_
              cases hj : jobOkB (nth s.runs n).job with
              | false => exact resO_f1 hj
              | true => rw [hj, Bool.true_and] at hd; exact resO_f2 hd
          rw [hnone]
          repeat' (first|refine zsr ?_|(refine zhm fun hb=>?_;try first|omega|exact absurd rfl hb)|refine zgc ?_ ?_|refine zgx ?_ ?_|(apply op_id;first|refine zk45 rfl ?_|refine zk46 rfl ?_|(apply QOk.ok;refine st_bin rfl rfl rfl rfl rfl rfl ?_)|refine kc (c5) rfl rfl ?_|refine zgq ?_)|(apply q_id;first|refine zk0 ?_|refine zk1 ?_|refine zk5 ?_|refine zk6 ?_|refine zk10 ?_|refine zk11 ?_|refine zk12 (fun _ => ?_)|refine zk13 rfl rfl rfl ?_|refine zk14 ?_|refine zk19 ?_|refine zk23 rfl ?_|refine zk31 ?_|refine zk32 rfl rfl rfl ?_|refine zk33 rfl ?_|refine zk34 rfl ?_))
          show AWp _ _ _ _
          refine awp_dena ?_
          apply awp_ret'
          refine zm () [] trivial ?_ ?_ ?_
          repeat'(first|apply And.intro|exact zeb|refine zec ?_|exact zen|refine zeo ?_|exact zel|refine zem ?_|exact zep|refine zeq1 ?_|refine zea ?_|refine zei ?_ ?_|refine zex ?_|refine zca (hv := ?_)|refine zcb (hv := ?_)|exact rfl|trivial)
          all_goals exact Stop.mk rfl
        | true =>
          rw [hd] at c5
          rw [Bool.and_eq_true] at hd
          obtain ⟨k4, k5⟩ := jobOk_in hd.1
          cases hb0 : runB s.now (nth s.runs n) with
          | false =>
            rw [goP_f hg hn hb0]
            by_cases hat : 0 ≤ (nth s.runs n).at' ∧ (nth s.runs n).at' ≤ 1000000000
            · have c6 := time_s (x := (nth s.runs n).at')
              repeat' (first|refine zsr ?_|(refine zhm fun hb=>?_;try first|omega|exact absurd rfl hb)|refine zgc ?_ ?_|refine zgx ?_ ?_|(apply op_id;first|refine zk45 rfl ?_|refine zk46 rfl ?_|refine kc (c5) rfl rfl ?_|refine kc (c6) rfl rfl ?_|refine zgq ?_)|(apply q_id;first|refine zk5 ?_|refine zk6 ?_|refine zk10 ?_|refine zk11 ?_|refine zk12 (fun _ => ?_)|refine zk13 rfl rfl rfl ?_|refine zk14 ?_|refine zk19 ?_|refine zk23 rfl ?_|refine zk31 ?_|refine zk32 rfl rfl rfl ?_|refine zk33 rfl ?_|refine zk34 rfl ?_))
              all_goals first
                | (exfalso; have := (runB_iff (now := s.now) (x := nth s.runs n)).2 ⟨hd.1, by omega, by omega, by omega⟩; rw [hb0] at this; cases this; done)
                | skip
              any_goals
                show AWp _ _ _ _
                refine awp_dena ?_
                apply awp_ret'
                refine zm () [] trivial ?_ ?_ ?_
                repeat'(first|apply And.intro|exact zeb|refine zec ?_|exact zen|refine zeo ?_|exact zel|refine zem ?_|exact zep|refine zeq1 ?_|refine zea ?_|refine zei ?_ ?_|refine zex ?_|refine zca (hv := ?_)|refine zcb (hv := ?_)|exact rfl|trivial)
                all_goals exact Stop.mk rfl
            · have c6 := time_s (x := (nth s.runs n).at')
              rw [show inB (nth s.runs n).at' 0 1000000000 = false by rw [inB_f]; omega] at c6
              repeat' (first|refine zsr ?_|(refine zhm fun hb=>?_;try first|omega|exact absurd rfl hb)|refine zgc ?_ ?_|refine zgx ?_ ?_|(apply op_id;first|refine zk45 rfl ?_|refine zk46 rfl ?_|(apply QOk.ok;refine st_bin rfl rfl rfl rfl rfl rfl ?_)|refine kc (c5) rfl rfl ?_|refine kc (c6) rfl rfl ?_|refine zgq ?_)|(apply q_id;first|refine zk5 ?_|refine zk6 ?_|refine zk10 ?_|refine zk11 ?_|refine zk12 (fun _ => ?_)|refine zk13 rfl rfl rfl ?_|refine zk14 ?_|refine zk19 ?_|refine zk23 rfl ?_|refine zk31 ?_|refine zk32 rfl rfl rfl ?_|refine zk33 rfl ?_|refine zk34 rfl ?_))
              show AWp _ _ _ _
              refine awp_dena ?_
              apply awp_ret'
              refine zm () [] trivial ?_ ?_ ?_
              repeat'(first|apply And.intro|exact zeb|refine zec ?_|exact zen|refine zeo ?_|exact zel|refine zem ?_|exact zep|refine zeq1 ?_|refine zea ?_|refine zei ?_ ?_|refine zex ?_|refine zca (hv := ?_)|refine zcb (hv := ?_)|exact rfl|trivial)
              all_goals exact Stop.mk rfl
          | true =>
            obtain ⟨k1, k2, k3⟩ := runB_iff.1 hb0
            have c6 := time_s (x := (nth s.runs n).at')
            have c7 := reserve_s (j := { (nth s.runs n).job with wall := (nth s.runs n).at' + (nth s.runs n).job.wall - s.now }) (a := s.now) hg.ok (hs.rno n hn) h2
            have hjo : jobOkB { (nth s.runs n).job with wall := (nth s.runs n).at' + (nth s.runs n).job.wall - s.now } = true := by
              have := k1
              simp only [jobOkB, Bool.and_eq_true, inB_t] at this ⊢
              exact ⟨⟨this.1.1, by omega⟩, this.2⟩
            rw [resO_wall (j := (nth s.runs n).job) k1 hjo rfl rfl rfl] at c7
            dsimp only at c7
            rw [show s.now + ((nth s.runs n).at' + (nth s.runs n).job.wall - s.now) = (nth s.runs n).at' + (nth s.runs n).job.wall by omega] at c7
            cases hq : resO r (nth s.runs n).job s.now ((nth s.runs n).at' + (nth s.runs n).job.wall) (nth s.runs n).nodes with
            | none =>
              rw [hq] at c7
              rw [goP_n hg hn hq]
              repeat' (first|refine zsr ?_|(refine zhm fun hb=>?_;try first|omega|exact absurd rfl hb)|refine zgc ?_ ?_|refine zgx ?_ ?_|(apply op_id;first|refine zk45 rfl ?_|refine zk46 rfl ?_|refine kc (c5) rfl rfl ?_|refine kc (c6) rfl rfl ?_|(refine km [] (c7) rfl rfl (fun i hi => ?_);(try dsimp only at hi))|refine zgq ?_)|(apply q_id;first|refine zk5 ?_|refine zk6 ?_|refine zk10 ?_|refine zk11 ?_|refine zk12 (fun _ => ?_)|refine zk13 rfl rfl rfl ?_|refine zk14 ?_|refine zk19 ?_|refine zk23 rfl ?_|refine zk31 ?_|refine zk32 rfl rfl rfl ?_|refine zk33 rfl ?_|refine zk34 rfl ?_))
              show AWp _ _ _ _
              refine awp_dena ?_
              apply awp_ret'
              refine zm () [] trivial ?_ ?_ ?_
              repeat'(first|apply And.intro|exact zeb|refine zec ?_|exact zen|refine zeo ?_|exact zel|refine zem ?_|exact zep|refine zeq1 ?_|refine zea ?_|refine zei ?_ ?_|refine zex ?_|refine zca (hv := ?_)|refine zcb (hv := ?_)|exact rfl|trivial)
              all_goals exact Stop.mk rfl
            | some r' =>
              rw [hq] at c7
              have hst := goP_s hg hn hb0 hq
              repeat' (first|refine zsr ?_|(refine zhm fun hb=>?_;try first|omega|exact absurd rfl hb)|refine zgc ?_ ?_|refine zgx ?_ ?_|(apply op_id;first|refine zk45 rfl ?_|refine zk46 rfl ?_|refine kc (c5) rfl rfl ?_|refine kc (c6) rfl rfl ?_|(refine km [] (c7) rfl rfl (fun i hi => ?_);(try dsimp only at hi))|refine zgq ?_)|(apply q_id;first|refine zk5 ?_|refine zk6 ?_|refine zk10 ?_|refine zk11 ?_|refine zk12 (fun _ => ?_)|refine zk13 rfl rfl rfl ?_|refine zk14 ?_|refine zk19 ?_|refine zk23 rfl ?_|refine zk31 ?_|refine zk32 rfl rfl rfl ?_|refine zk33 rfl ?_|refine zk34 rfl ?_))
              refine ⟨(n + 1, r'), hst, by dsimp only; omega, ?_⟩
              refine ⟨rfl, ?_, ?_, rfl⟩
              repeat'(first|apply And.intro|exact zeb|refine zec ?_|exact zen|refine zeo ?_|exact zel|refine zem ?_|exact zep|refine zeq1 ?_|refine zea ?_|refine zei ?_ ?_|refine zex ?_|refine zca (hv := ?_)|refine zcb (hv := ?_)|exact rfl|trivial)
              all_goals exact Stop.mk rfl
      · rw [goP_e hg hn]
        repeat' (first|refine zsr ?_|(refine zhm fun hb=>?_;try first|omega|exact absurd rfl hb)|refine zgc ?_ ?_|refine zgx ?_ ?_|(apply op_id;first|refine zk45 rfl ?_|refine zk46 rfl ?_|refine zgq ?_)|(apply q_id;first|refine zk0 ?_|refine zk1 ?_|refine zk5 ?_|refine zk6 ?_|refine zk10 ?_|refine zk11 ?_|refine zk12 (fun _ => ?_)|refine zk13 rfl rfl rfl ?_|refine zk14 ?_|refine zk19 ?_|refine zk23 rfl ?_|refine zk31 ?_|refine zk32 rfl rfl rfl ?_|refine zk33 rfl ?_|refine zk34 rfl ?_))
        show AWp _ _ _ _
        refine awp_dena ?_
        apply awp_ret'
        refine zm () [] trivial ?_ ?_ ?_
        repeat'(first|apply And.intro|exact zeb|refine zec ?_|exact zen|refine zeo ?_|exact zel|refine zem ?_|exact zep|refine zeq1 ?_|refine zea ?_|refine zei ?_ ?_|refine zex ?_|refine zca (hv := ?_)|refine zcb (hv := ?_)|exact rfl|trivial)
        all_goals exact Stop.mk rfl
  · rw [roomOf_f hB]
    cases he : empO s with
    | none =>
      rw [he] at c1
      repeat' (first|refine zsr ?_|(refine zhm fun hb=>?_;try first|omega|exact absurd rfl hb)|refine zgc ?_ ?_|refine zgx ?_ ?_|(apply op_id;first|refine zk45 rfl ?_|refine zk46 rfl ?_|(refine km [] (c1) rfl rfl (fun i hi => ?_);(try dsimp only at hi))|refine zgq ?_)|(apply q_id;first|refine zk0 ?_|refine zk1 ?_|refine zk5 ?_|refine zk6 ?_|refine zk10 ?_|refine zk11 ?_|refine zk12 (fun _ => ?_)|refine zk13 rfl rfl rfl ?_|refine zk14 ?_|refine zk19 ?_|refine zk23 rfl ?_|refine zk31 ?_|refine zk32 rfl rfl rfl ?_|refine zk33 rfl ?_|refine zk34 rfl ?_))
      show AWp _ _ _ _
      refine awp_dena ?_
      apply awp_ret'
      refine zm () [] trivial ?_ ?_ ?_
      repeat'(first|apply And.intro|exact zeb|refine zec ?_|exact zen|refine zeo ?_|exact zel|refine zem ?_|exact zep|refine zeq1 ?_|refine zea ?_|refine zei ?_ ?_|refine zex ?_|refine zca (hv := ?_)|refine zcb (hv := ?_)|exact rfl|trivial)
      all_goals exact Stop.mk rfl
    | some r0 =>
      rw [he] at c1
      rw [show inB s.now 0 1000000000 = false by
        rw [inB_f]
        rcases Classical.em (0 ≤ s.now ∧ s.now ≤ 1000000000) with h | h
        · exact absurd (base_empO.2 ⟨by rw [he]; rfl, h⟩) hB
        · omega] at c3
      repeat' (first|refine zsr ?_|(refine zhm fun hb=>?_;try first|omega|exact absurd rfl hb)|refine zgc ?_ ?_|refine zgx ?_ ?_|(apply op_id;first|refine zk45 rfl ?_|refine zk46 rfl ?_|refine kc (c3) rfl rfl ?_|(refine km [] (c1) rfl rfl (fun i hi => ?_);(try dsimp only at hi))|refine zgq ?_)|(apply q_id;first|refine zk0 ?_|refine zk1 ?_|refine zk5 ?_|refine zk6 ?_|refine zk10 ?_|refine zk11 ?_|refine zk12 (fun _ => ?_)|refine zk13 rfl rfl rfl ?_|refine zk14 ?_|refine zk19 ?_|refine zk23 rfl ?_|refine zk31 ?_|refine zk32 rfl rfl rfl ?_|refine zk33 rfl ?_|refine zk34 rfl ?_))
      show AWp _ _ _ _
      refine awp_dena ?_
      apply awp_ret'
      refine zm () [] trivial ?_ ?_ ?_
      repeat'(first|apply And.intro|exact zeb|refine zec ?_|exact zen|refine zeo ?_|exact zel|refine zem ?_|exact zep|refine zeq1 ?_|refine zea ?_|refine zei ?_ ?_|refine zex ?_|refine zca (hv := ?_)|refine zcb (hv := ?_)|exact rfl|trivial)
      all_goals exact Stop.mk rfl
end Go.Proofs.YtliopiphobopjaaGreat
