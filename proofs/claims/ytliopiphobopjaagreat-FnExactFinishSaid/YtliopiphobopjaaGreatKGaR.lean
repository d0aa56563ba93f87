/-
  The room of a state, both.
-/
import Derived.Test.YtliopiphobopjaaGreatKShL
import Derived.Test.YtliopiphobopjaaGreatKB19
import Derived.Test.YtliopiphobopjaaGreatKGaQ
set_option maxRecDepth 100000
set_option maxHeartbeats 16000000
namespace Go.Proofs.YtliopiphobopjaaGreat
open Go Go.RowKit
attribute [local irreducible] AWp OpsOk OpOk ACalls ChA QsOk MCalls EnC PY

theorem roomOf_b {s : State} (h : BaseP s) : roomOf s = roomGo s.now s.runs (emptyR s.topo s.up s.lic) := if_pos (pB_t.2 h)
theorem roomOf_f {s : State} (h : ¬ BaseP s) : roomOf s = none := if_neg (fun e => h (pB_t.1 e))
structure GoP (s : State) (i : Nat) (r : Room) : Prop where
 le : i ≤ s.runs.length
 ok : RoomOk r
 eq : roomGo s.now (s.runs.drop i) r = roomGo s.now s.runs (emptyR s.topo s.up s.lic)
theorem goP_f {s : State} {i : Nat} {r : Room} (h : GoP s i r) (hi : i < s.runs.length) (hb : runB s.now (nth s.runs i) = false) : roomGo s.now s.runs (emptyR s.topo s.up s.lic) = none := by
 rw [← h.eq, drop_nth hi, roomGo, if_neg (by rw [hb]; decide)]
theorem goP_n {s : State} {i : Nat} {r : Room} (h : GoP s i r) (hi : i < s.runs.length) (hq : resO r (nth s.runs i).job s.now ((nth s.runs i).at' + (nth s.runs i).job.wall) (nth s.runs i).nodes = none) : roomGo s.now s.runs (emptyR s.topo s.up s.lic) = none := by
 rw [← h.eq, drop_nth hi, roomGo, hq]
 split <;> rfl
theorem goP_s {s : State} {i : Nat} {r r' : Room} (h : GoP s i r) (hi : i < s.runs.length) (hb : runB s.now (nth s.runs i) = true) (hq : resO r (nth s.runs i).job s.now ((nth s.runs i).at' + (nth s.runs i).job.wall) (nth s.runs i).nodes = some r') : GoP s (i + 1) r' := by
 refine ⟨by omega, (resO_ok hq).1, ?_⟩
 rw [← h.eq, drop_nth hi]
 conv => rhs; rw [roomGo, if_pos hb, hq]
theorem goP_e {s : State} {i : Nat} {r : Room} (h : GoP s i r) (hi : ¬ i < s.runs.length) : roomGo s.now s.runs (emptyR s.topo s.up s.lic) = some r := by
 rw [← h.eq, List.drop_eq_nil_of_le (by omega)]
 rfl
theorem runB_iff {now : Int} {x : Run} : runB now x = true ↔ jobOkB x.job = true ∧ (0 ≤ x.at' ∧ x.at' ≤ now) ∧ now + 1 ≤ x.at' + x.job.wall ∧ x.at' + x.job.wall ≤ 1000000000 := by
 simp only [runB, Bool.and_eq_true, inB_t, and_assoc]
theorem jobOk_in {j : Job} (h : jobOkB j = true) : (1 ≤ j.nodes ∧ j.nodes ≤ 24) ∧ 1 ≤ j.wall ∧ j.wall ≤ 1000000 := by
 simp only [jobOkB, Bool.and_eq_true, inB_t] at h
 omega
theorem resO_wall {r : Room} {j j' : Job} {a b : Int} {l : List Int} (h1 : jobOkB j = true) (h2 : jobOkB j' = true) (hn : j'.nodes = j.nodes) (hd : j'.need = j.need) (hl : j'.lic = j.lic) : resO r j' a b l = resO r j a b l := by
 have e : diffB r.topo j' l = diffB r.topo j l := by
  rw [Bool.eq_iff_iff]
  unfold diffB
  rw [pB_t, pB_t]
  exact ⟨fun h => ⟨h.nodes, h.diff, by rw [h.num, hn]⟩, fun h => ⟨h.nodes, h.diff, by rw [h.num, hn]⟩⟩
 unfold resO
 rw [h1, h2, e, hd, hl]
theorem roomOf_e {s : State} (hs : Small 1000000000 s) : DC Tryz.prog 116 [stateA s] (resRoom (roomOf s)) := by
 refine mcalls_of tt Tryz.func116 rfl rfl rfl trivial (fun _ _ => ⟨trivial, trivial⟩) (fun w0 Z O => ?_)
 have hbl := boolE_length s.up
 have hnl := nodeE_length s.topo.nodes
 have hup := hs.up
 have hno := hs.nod
 have c1 := topoOk_e (t := s.topo) hs.par hs.nod
 have c2 := vecOk_e (v := s.lic)
 have c3 := isTime_c2 (x := s.now)
 by_cases hB : BaseP s
 ·have h1 := hB.up
  have h2 := hB.now
  have h3 := hB.topo.nlen
  have h4 := hB.topo.len
  rw [topoOkB_t.2 hB.topo] at c1
  rw [hB.lic] at c2
  rw [show inB s.now 0 1000000000 = true by rw [inB_t]; exact h2] at c3
  rw [roomOf_b hB]
  repeat' (first|refine zst ?_|(refine zhm fun hb=>?_;try exact zab)|refine zg2 ?_ ?_|refine zln fun _=>?_|refine zop ?_|refine kc (c1) rfl rfl ?_|refine kc (c2) rfl rfl ?_|refine kc (c3) rfl rfl ?_|(refine km [] (empty_e (t := s.topo) (up := s.up) (lic := s.lic) hB.topo h1 hB.lic) rfl rfl (fun i hi => ?_);(try dsimp only at hi))|fail)
  refine awp_loop (fun (k : Nat × Room) => ⟨99, [(1, .ptr 1 0), (2, .ptr 2 0), (4, .ptr 4 0), (44, .d (.sl (runE s.runs))), (45, .d (.n .i64 (s.runs.length : Nat))), (46, .d (.n .i64 k.1))], [(1, .box 44 (stateC s)), (2, .box 152 [.nil, .nil, .nil, .nil, .nil]), (4, .box 152 (roomC k.2))]⟩) (fun k => GoP s k.1 k.2) (fun k => s.runs.length - k.1) (0, emptyR s.topo s.up s.lic) (by exact ⟨Nat.zero_le _, empty_ok hB.topo h1 hB.lic, rfl⟩) ?_ ?_
  ·refine ⟨rfl, ?_, ?_, rfl⟩
   repeat'(first|apply And.intro|exact ze0|refine ze1 ?_|refine zei ?_ ?_|exact rfl|trivial)
   all_goals exact Stop.mk (by first | rfl | exact runE_length _)
  ·rintro ⟨n, r⟩ hg
   dsimp only at hg ⊢
   have hle := hg.le
   have hrl := runE_length s.runs
   by_cases hn : n < s.runs.length
   ·cases hb0 : runB s.now (nth s.runs n) with
    | false =>
     rw [goP_f hg hn hb0]
     have c4 := jobOk_e (j := (nth s.runs n).job)
     cases hj : jobOkB (nth s.runs n).job with
     | false =>
      rw [hj] at c4
      repeat' (first|refine zsr ?_|(refine zhm fun hb=>?_;try exact zab)|refine zg2 ?_ ?_|refine zln fun _=>?_|refine zop ?_|refine kc (c4) rfl rfl ?_|fail)
      show AWp _ _ _ _
      refine awp_dena ?_
      apply awp_ret'
      exact zm () [] trivial zae zae zae
     | true =>
      rw [hj] at c4
      obtain ⟨k4, k5⟩ := jobOk_in hj
      repeat' (first|refine zsr ?_|(refine zhm fun hb=>?_;try exact zab)|refine zg2 ?_ ?_|refine zln fun _=>?_|refine zon ?_|refine kc (c4) rfl rfl ?_|refine kc (within_c) rfl rfl ?_|fail)
      all_goals first
       | (exfalso; have := runB_iff.2 (⟨hj, by omega, by omega, by omega⟩ : jobOkB (nth s.runs n).job = true ∧ _); rw [hb0] at this; cases this; done)
       | skip
      any_goals
       show AWp _ _ _ _
       refine awp_dena ?_
       apply awp_ret'
       refine zm () [] trivial ?_ ?_ ?_
       repeat'(first|apply And.intro|exact ze0|refine ze1 ?_|refine zei ?_ ?_|exact rfl|trivial)
       all_goals exact Stop.mk rfl
    | true =>
     obtain ⟨k1, k2, k3⟩ := runB_iff.1 hb0
     obtain ⟨k4, k5⟩ := jobOk_in k1
     have c4 := jobOk_e (j := (nth s.runs n).job)
     rw [k1] at c4
     have c5 := moved_e (j := (nth s.runs n).job) (a := s.now) (b := (nth s.runs n).at' + (nth s.runs n).job.wall) hg.ok (hs.rno n hn)
     cases hq : resO r (nth s.runs n).job s.now ((nth s.runs n).at' + (nth s.runs n).job.wall) (nth s.runs n).nodes with
     | none =>
      rw [hq] at c5
      rw [goP_n hg hn hq]
      repeat' (first|refine zsr ?_|(refine zhm fun hb=>?_;try exact zab)|refine zg2 ?_ ?_|refine zln fun _=>?_|refine zon ?_|refine kc (c4) rfl rfl ?_|refine kc (within_c) rfl rfl ?_|(refine km [] (c5) rfl rfl (fun i hi => ?_);(try dsimp only at hi))|fail)
      show AWp _ _ _ _
      refine awp_dena ?_
      apply awp_ret'
      exact zm () [] trivial zae zae zae
     | some r' =>
      rw [hq] at c5
      have hst := goP_s hg hn hb0 hq
      repeat' (first|refine zsr ?_|(refine zhm fun hb=>?_;try exact zab)|refine zg2 ?_ ?_|refine zln fun _=>?_|refine zon ?_|refine kc (c4) rfl rfl ?_|refine kc (within_c) rfl rfl ?_|(refine km [] (c5) rfl rfl (fun i hi => ?_);(try dsimp only at hi))|fail)
      refine ⟨(n + 1, r'), hst, by dsimp only; omega, ?_⟩
      exact ⟨rfl, zae, zae, rfl⟩
   ·rw [goP_e hg hn]
    repeat' (first|refine zsr ?_|(refine zhm fun hb=>?_;try exact zab)|refine zg2 ?_ ?_|refine zln fun _=>?_|refine zop ?_|fail)
    show AWp _ _ _ _
    refine awp_dena ?_
    apply awp_ret'
    exact zm () [] trivial zae zae zae
 ·rw [roomOf_f hB]
  repeat' (first|refine zsr ?_|(refine zhm fun hb=>?_;try exact zab)|refine zg2 ?_ ?_|refine zln fun _=>?_|refine zop ?_|refine kc (c1) rfl rfl ?_|refine kc (c2) rfl rfl ?_|refine kc (c3) rfl rfl ?_|fail)
  all_goals first
   | (exfalso; exact hB ⟨topoOkB_t.1 (by assumption), by omega, by assumption, by omega⟩)
   | skip
  any_goals
   show AWp _ _ _ _
   refine awp_dena ?_
   apply awp_ret'
   refine zm () [] trivial ?_ ?_ ?_
   repeat'(first|apply And.intro|exact ze0|refine ze1 ?_|refine zei ?_ ?_|exact rfl|trivial)
   all_goals exact Stop.mk rfl
end Go.Proofs.YtliopiphobopjaaGreat
