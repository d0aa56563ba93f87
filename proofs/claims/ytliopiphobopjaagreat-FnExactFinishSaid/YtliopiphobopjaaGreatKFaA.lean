/-
  Fail, both.
-/
import Derived.Test.YtliopiphobopjaaGreatKShL
import Derived.Test.YtliopiphobopjaaGreatKStF
import Derived.Test.YtliopiphobopjaaGreatKB22
import Derived.Test.YtliopiphobopjaaGreatKB23
set_option maxRecDepth 100000
set_option maxHeartbeats 16000000
namespace Go.Proofs.YtliopiphobopjaaGreat
open Go Go.RowKit
attribute [local irreducible] AWp OpsOk OpOk ACalls ChA QsOk MCalls NCalls EnC PY

theorem queueP_of {l : List Job} (h1 : l.length ≤ 60) (h2 : ∀ x ∈ l, jobOkB x = true) (h3 : (l.map Job.id).Nodup) : QueueP l := by
 refine ⟨h1, fun i hi => h2 _ (nth_mem hi), fun i hi k hk e => ?_⟩
 have := List.pairwise_iff_getElem.1 h3 k i (by rw [List.length_map]; omega) (by rw [List.length_map]; exact hi) hk
 apply this
 rw [List.getElem_map, List.getElem_map, ← nth_eq hi, ← nth_eq (by omega)]
 exact e
theorem QueueP.sub {l l' : List Job} (h : QueueP l) (hs : l'.Sublist l) : QueueP l' := queueP_of (Nat.le_trans hs.length_le h.len) (fun x hx => h.ok x (hs.subset hx)) ((hs.map Job.id).nodup h.nodup)
theorem gone_sub {s : State} {p : Run → Bool} : (s.queue ++ goneJ p s.runs).Sublist (allJ s) := List.Sublist.append (List.Sublist.refl _) ((List.filter_sublist).map _)
theorem kept_mem {p : Run → Bool} {l : List Run} {j : Nat} (hj : j < (keptR p l).length) : nth (keptR p l) j ∈ l := (List.mem_filter.1 (nth_mem hj)).1
theorem keptR_le {p : Run → Bool} {l : List Run} : (keptR p l).length ≤ l.length := List.length_filter_le _ _
theorem goneJ_le {p : Run → Bool} {l : List Run} : (goneJ p l).length ≤ l.length := by rw [goneJ, List.length_map]; exact List.length_filter_le _ _
theorem goneE_le {now why : Int} {p : Run → Bool} {l : List Run} : (goneE now why p l).length ≤ l.length := by rw [goneE, List.length_map]; exact List.length_filter_le _ _
def failP (n : Int) (r : Run) : Bool := hasI r.nodes n
def fail1 (s : State) (n : Int) : State := { s with up := s.up.set n.toNat false, queue := s.queue ++ goneJ (failP n) s.runs, runs := keptR (failP n) s.runs, ends := s.ends ++ goneE s.now 4 (failP n) s.runs }
noncomputable def failO (s : State) (n : Int) : Option State × Int :=
 if stateOkB s = true then
  if 0 ≤ n ∧ n < s.up.length ∧ nth s.up n.toNat = true then
   if 300 < (s.ends ++ goneE s.now 4 (failP n) s.runs).length then (none, 6) else (some (startO (fail1 s n)), 0)
  else (none, 7)
 else (none, 1)
theorem run_ok {s : State} (h : QueueP (allJ s)) {r : Run} (hr : r ∈ s.runs) : jobOkB r.job = true := h.ok _ (List.mem_append_right _ (List.mem_map.2 ⟨r, hr, rfl⟩))
theorem job_id {j : Job} (h : jobOkB j = true) : 1 ≤ j.id ∧ j.id ≤ 999 := by
 simp only [jobOkB, Bool.and_eq_true, inB_t] at h; omega
theorem drop_fail {s : State} {n : Int} (h : QueueP (allJ s)) : ∀ r ∈ s.runs, dropP 0 n r = failP n r := fun r hr => by
 have := job_id (run_ok h hr)
 unfold dropP failP
 rw [show (r.job.id == 0) = false by rw [beq_eq_false_iff_ne]; omega, Bool.false_or]
theorem filter_eq {p q : Run → Bool} {l : List Run} (h : ∀ r ∈ l, p r = q r) : l.filter p = l.filter q := List.filter_congr h
theorem kept_eq {p q : Run → Bool} {l : List Run} (h : ∀ r ∈ l, p r = q r) : keptR p l = keptR q l := List.filter_congr fun r hr => by rw [h r hr]
theorem goneE_eq {now why : Int} {p q : Run → Bool} {l : List Run} (h : ∀ r ∈ l, p r = q r) : goneE now why p l = goneE now why q l := by unfold goneE; rw [filter_eq h]
theorem fail_small {n : Nat} {s : State} {x : Int} (h : Small 1048576 s) (hk : QueueP (allJ s)) (he : ¬ 300 < (s.ends ++ goneE s.now 4 (failP x) s.runs).length) (hn : 1048576 ≤ n) : Small n (fail1 s x) := by
 have h1 := (hk.sub (gone_sub (s := s) (p := failP x))).len
 have h2 := keptR_le (p := failP x) (l := s.runs)
 have h3 := h.run
 refine ⟨Nat.le_trans h.par hn, Nat.le_trans h.nod hn, by rw [fail1, List.length_set]; exact Nat.le_trans h.up hn, by simp only [fail1]; omega, by simp only [fail1]; omega, by simp only [fail1]; omega, fun j hj => ?_⟩
 obtain ⟨i, hi, e⟩ := mem_nth (kept_mem hj)
 rw [show (fail1 s x).runs = keptR (failP x) s.runs from rfl, ← e]
 exact Nat.le_trans (h.rno i hi) hn
@[reducible] def stateV (s : State) (u q r e : List (List D)) : AV := .agg [.d (.sl (intE s.topo.parents)), .d (.sl (nodeE s.topo.nodes)), .d (.sl u), .d (.n .i64 s.lic.a), .d (.n .i64 s.lic.b), .d (.n .i64 s.lic.c), .d (.n .i64 s.depth), .d (.n .i64 s.now), .d (.sl q), .d (.sl r), .d (.sl e)]
@[reducible] def stateHV (s : State) (u q : List (List D)) (q1 q2 : Nat) : List AV := [.d (.sl (intE s.topo.parents)), .d (.sl (nodeE s.topo.nodes)), .d (.sl u), .d (.n .i64 s.lic.a), .d (.n .i64 s.lic.b), .d (.n .i64 s.lic.c), .d (.n .i64 s.depth), .d (.n .i64 s.now), .d (.sl q), .row q1, .row q2]
theorem fail_A {s : State} {n : Int} : stateA (fail1 s n) = stateV s ((boolE s.up).set n.toNat [.b false]) (jobE s.queue ++ jobE (goneJ (failP n) s.runs)) (runE (keptR (failP n) s.runs)) (endE (s.ends ++ goneE s.now 4 (failP n) s.runs)) := by rw [boolE_set, jobE_app]; rfl
theorem fail_H {s : State} {n : Int} {q1 q2 : Nat} : stateH (fail1 s n) q1 q2 = stateHV s ((boolE s.up).set n.toNat [.b false]) (jobE (s.queue ++ goneJ (failP n) s.runs)) q1 q2 := by rw [boolE_set]; rfl
theorem failClo_e {n : Int} {r : Run} (h : r.nodes.length ≤ 1000000000) : ACalls Tryz.prog 147 [runA r, .pd [.n .i64 n] 0] [.d (.b (failP n r))] [] := by
 refine acalls_of tt Tryz.func147 rfl rfl rfl (fun w0 Z => ?_)
 repeat' (first|refine zst ?_|(refine zhm fun hb=>?_;try exact zab)|refine zg2 ?_ ?_|refine zop ?_|refine kc (contains_c (l := r.nodes) (x := n) h) rfl rfl ?_|fail)
 exact zr [] zae zae
theorem fail_e {s : State} {n : Int} (hs : Small 1048576 s) : SO 63 [stateA s, .d (.n .i64 n)] (failO s n).1 (failO s n).2 := by
 refine acalls_of tt Tryz.func63 rfl rfl rfl (fun w0 Z => ?_)
 have hm : Small 100000000 s := hs.mono (by omega)
 have c1 := stateOk_e hm
 unfold failO
 cases h : stateOkB s with
 | false =>
  rw [h] at c1
  rw [if_neg (by decide)]
  repeat' (first|refine zst ?_|(refine zhm fun hb=>?_;try exact zab)|refine zg2 ?_ ?_|refine zln fun _=>?_|refine zop ?_|refine kc (c1) rfl rfl ?_|fail)
  exact zr [] zae zae
 | true =>
  rw [h] at c1
  rw [if_pos rfl]
  have hk := okP_of h
  have hbl := boolE_length s.up
  have hbl2 := hs.up
  by_cases hn : 0 ≤ n ∧ n < s.up.length ∧ nth s.up n.toNat = true
  ·rw [if_pos hn]
   obtain ⟨h1, h2, h3⟩ := hn
   have hnn : n = (n.toNat : Int) := by omega
   have hql := hk.jobs.left.len
   have hqe := jobE_length s.queue
   have hgl := goneJ_le (p := failP n) (l := s.runs)
   have hge := jobE_length (goneJ (failP n) s.runs)
   have hrl := hs.run
   have hel := endE_length (s.ends ++ goneE s.now 4 (failP n) s.runs)
   have hle : (s.ends ++ goneE s.now 4 (failP n) s.runs).length = s.ends.length + (goneE s.now 4 (failP n) s.runs).length := List.length_append
   have hle2 := goneE_le (now := s.now) (why := 4) (p := failP n) (l := s.runs)
   have hle3 := hs.end'
   have c3 := ended_n (s := s) (why := 4) (p := failP n) (g := 147) (ds := [.n .i64 n]) (u := (boolE s.up).set n.toNat [.b false]) hm (fun r hr => by
    obtain ⟨i, hi, e⟩ := mem_nth hr
    exact failClo_e (by rw [← e]; have := hs.rno i hi; omega))
   by_cases h6 : 300 < (s.ends ++ goneE s.now 4 (failP n) s.runs).length
   ·rw [if_pos h6]
    repeat' (first|(refine awp_frzr 7 28 rfl ?_)|(refine awp_fzbr 7 3 rfl rfl ?_)|refine zst ?_|(refine zhm fun hb=>?_;try exact zab)|refine zg2 ?_ ?_|refine zln fun _=>?_|refine zop ?_|refine kc (c1) rfl rfl ?_|refine kc (within_c) rfl rfl ?_|(refine km [] (copyState_f hm) rfl rfl (fun i hi => ?_);(try dsimp only at hi))|(refine kn2 [2, 1028, 2028] (c3) rfl rfl (fun i hi => ?_);(try dsimp only at hi))|fail)
    all_goals first
     | (exfalso; omega)
     | (exfalso; rw [h3] at hb; cases hb; done)
     | skip
    exact zr [] zae zae
   ·rw [if_neg h6]
    have hsm := fail_small (n := 100000000) hs hk.jobs h6 (by omega)
    have c7 := started_c (s := fail1 s n) hsm ⟨hk.jobs.sub gone_sub, hk.depth⟩
    rw [fail_A] at c7
    repeat' (first|(refine awp_frzr 7 28 rfl ?_)|(refine awp_fzbr 7 3 rfl rfl ?_)|refine zst ?_|(refine zhm fun hb=>?_;try exact zab)|refine zg2 ?_ ?_|refine zln fun _=>?_|refine zop ?_|refine kc (c1) rfl rfl ?_|refine kc (within_c) rfl rfl ?_|refine kc (c7) rfl rfl ?_|(refine km [] (copyState_f hm) rfl rfl (fun i hi => ?_);(try dsimp only at hi))|(refine kn2 [2, 1028, 2028] (c3) rfl rfl (fun i hi => ?_);(try dsimp only at hi))|fail)
    all_goals first
     | (exfalso; omega)
     | (exfalso; rw [h3] at hb; cases hb; done)
     | skip
    exact zr [46, 1046, 2046, 3046, 4046, 5046] zae zae
  ·rw [if_neg hn]
   repeat' (first|refine zst ?_|(refine zhm fun hb=>?_;try exact zab)|refine zg2 ?_ ?_|refine zln fun _=>?_|refine zop ?_|refine kc (c1) rfl rfl ?_|refine kc (within_c) rfl rfl ?_|fail)
   all_goals first
    | (exfalso; exact hn ⟨by omega, by omega, by assumption⟩)
    | skip
   any_goals
    refine zr [] ?_ ?_
    repeat'(first|apply And.intro|exact ze0|refine ze1 ?_|refine zei ?_ ?_|exact rfl|trivial)
    all_goals exact Stop.mk rfl
theorem fail_s {s : State} {n : Int} (hs : Small 1048576 s) : SS 62 [stateA s, .d (.n .i64 n)] (failO s n).1 (failO s n).2 := by
 refine mcalls_of tt Tryz.func62 rfl rfl rfl trivial (fun _ _ => ⟨trivial, trivial⟩) (fun w0 Z O => ?_)
 have hm : Small 100000000 s := hs.mono (by omega)
 have c1 := stateOk_s hm
 unfold failO
 cases h : stateOkB s with
 | false =>
  rw [h] at c1
  rw [if_neg (by decide)]
  repeat' (first|refine zsr ?_|(refine zhm fun hb=>?_;try exact zab)|refine zg2 ?_ ?_|refine zln fun _=>?_|refine zop ?_|refine kc (c1) rfl rfl ?_|fail)
  show AWp _ _ _ _
  refine awp_dena ?_
  apply awp_ret'
  exact zm () [] trivial zae zae zae
 | true =>
  rw [h] at c1
  rw [if_pos rfl]
  have hk := okP_of h
  have hup := hk.up
  have hbl := boolE_length s.up
  have hbl2 := hs.up
  have c3 := l06Node_s (s := s) (n := n)
  by_cases hn0 : 0 ≤ n ∧ n < s.up.length
  ·rw [decide_eq_true hn0.1, decide_eq_true (show n < s.topo.nodes.length by omega)] at c3
   obtain ⟨h1, h2⟩ := hn0
   have hnn : n = (n.toNat : Int) := by omega
   cases h3 : nth s.up n.toNat with
   | false =>
    rw [if_neg (fun h => by cases h.2.2)]
    repeat' (first|refine zsr ?_|(refine zhm fun hb=>?_;try exact zab)|refine zg2 ?_ ?_|refine zln fun _=>?_|refine zop ?_|refine kc (c1) rfl rfl ?_|refine kc (c3) rfl rfl ?_|fail)
    all_goals first
     | (exfalso; rw [h3] at hb; cases hb; done)
     | skip
    show AWp _ _ _ _
    refine awp_dena ?_
    apply awp_ret'
    exact zm () [] trivial zae zae zae
   | true =>
    rw [if_pos ⟨h1, h2, rfl⟩]
    have hql := hk.jobs.left.len
    have hrl := hs.run
    have hrl2 := runE_length s.runs
    have hel := endE_length (s.ends ++ goneE s.now 4 (failP n) s.runs)
    have hle : (s.ends ++ goneE s.now 4 (failP n) s.runs).length = s.ends.length + (goneE s.now 4 (failP n) s.runs).length := List.length_append
    have hle2 := goneE_le (now := s.now) (why := 4) (p := failP n) (l := s.runs)
    have hle3 := hs.end'
    repeat' (first|refine zsr ?_|(refine zhm fun hb=>?_;try exact zab)|refine zg2 ?_ ?_|refine zln fun _=>?_|refine zop ?_|refine kc (c1) rfl rfl ?_|refine kc (c3) rfl rfl ?_|(refine km [] (l06Copy_f hm) rfl rfl (fun i hi => ?_);(try dsimp only at hi))|fail)
    all_goals first
     | (exfalso; rw [h3] at hb; cases hb; done)
     | skip
    refine awp_loop (fun (k : Nat) => ⟨60, [(1, .d (.n .i64 n)), (2, .ptr 2 0), (4, .ptr 4 0), (28, .d (.sl (runE s.runs))), (29, .d (.n .i64 (s.runs.length : Nat))), (30, .d (.n .i64 k))], [(2, .box 44 (stOwn s (.row 26) (.row 1026) 2026)), (4, .box 44 ctl0), (26, .row 4 (boolE s.up) true), (1026, .row 94 (jobE (s.queue ++ goneJ (failP n) (s.runs.take k))) true), (2026, .row 134 (endE s.ends) true)]⟩) (fun k => k ≤ s.runs.length) (fun k => s.runs.length - k) 0 (by exact Nat.zero_le _) ?_ ?_
    ·refine ⟨rfl, ?_, ?_, rfl⟩
     repeat'(first|apply And.intro|exact ze0|refine ze1 ?_|refine zei ?_ ?_|exact rfl|trivial)
     all_goals exact Stop.mk (by first | rfl | exact runE_length _ | (simp [goneJ]; done))
    intro k hk'
    have hd1 := jobE_length (s.queue ++ goneJ (failP n) (s.runs.take k))
    have hd2 : (s.queue ++ goneJ (failP n) (s.runs.take k)).length = s.queue.length + (goneJ (failP n) (s.runs.take k)).length := List.length_append
    have hd3 := goneJ_len (p := failP n) (l := s.runs) (i := k)
    by_cases hk2 : k < s.runs.length
    ·have hno := hs.rno k hk2
     have c4 := l02Has_c (l := (nth s.runs k).nodes) (x := n) (by omega)
     cases hp : hasI (nth s.runs k).nodes n with
     | true =>
      rw [hp] at c4
      have e1 := goneJ_yes (p := failP n) hk2 hp
      generalize goneJ (failP n) (s.runs.take k) = gj at *
      repeat' (first|refine zsr ?_|(refine zhm fun hb=>?_;try exact zab)|refine zg2 ?_ ?_|refine zln fun _=>?_|refine zop ?_|refine kc (c4) rfl rfl ?_|fail)
      refine ⟨k + 1, by omega, by omega, ?_⟩
      refine ⟨rfl, ?_, ?_, rfl⟩
      repeat'(first|apply And.intro|exact ze0|refine ze1 ?_|refine zei ?_ ?_|exact rfl|trivial)
      all_goals exact Stop.mk (by first | rfl | (rw [e1, ← List.append_assoc]; exact jobE_push _ _))
     | false =>
      rw [hp] at c4
      have e1 := goneJ_no (p := failP n) hk2 hp
      repeat' (first|refine zsr ?_|(refine zhm fun hb=>?_;try exact zab)|refine zg2 ?_ ?_|refine zln fun _=>?_|refine zop ?_|refine kc (c4) rfl rfl ?_|fail)
      refine ⟨k + 1, by omega, by omega, ?_⟩
      refine ⟨rfl, ?_, ?_, rfl⟩
      repeat'(first|apply And.intro|exact ze0|refine ze1 ?_|refine zei ?_ ?_|exact rfl|trivial)
      all_goals exact Stop.mk (by first | rfl | (rw [e1]; done))
    ·obtain rfl : k = s.runs.length := by omega
     rw [List.take_length] at *
     have c5 := l06Drop_u (s := { s with queue := s.queue ++ goneJ (failP n) s.runs }) (why := 4) (id := 0) (node := n) ⟨hm.par, hm.nod, hm.up, by dsimp only; omega, hm.run, hm.end', hm.rno⟩
     dsimp only [stDrop] at c5
     rw [kept_eq (drop_fail hk.jobs), goneE_eq (drop_fail hk.jobs)] at c5
     by_cases h6 : 300 < (s.ends ++ goneE s.now 4 (failP n) s.runs).length
     ·rw [if_pos h6]
      repeat' (first|(refine awp_frzr 12 1026 rfl ?_)|refine zsr ?_|(refine zhm fun hb=>?_;try exact zab)|refine zg2 ?_ ?_|refine zln fun _=>?_|refine zop ?_|(refine kn [26, 2026] (c5) rfl rfl (fun i hi => ?_);(try dsimp only at hi))|fail)
      show AWp _ _ _ _
      refine awp_dena ?_
      apply awp_ret'
      exact zm () [] trivial zae zae zae
     ·rw [if_neg h6]
      have hsm := fail_small (n := 100000000) hs hk.jobs h6 (by omega)
      have c7 := l06Start_c (s := fail1 s n) hsm ⟨hk.jobs.sub gone_sub, hk.depth⟩
      rw [fail_H] at c7
      repeat' (first|(refine awp_frzr 12 1026 rfl ?_)|(refine awp_frzr 16 2048 rfl ?_)|refine zsr ?_|(refine zhm fun hb=>?_;try exact zab)|refine zg2 ?_ ?_|refine zln fun _=>?_|refine zop ?_|(refine kn [26, 2026] (c5) rfl rfl (fun i hi => ?_);(try dsimp only at hi))|(refine kn [48, 1048] (c7) rfl rfl (fun i hi => ?_);(try dsimp only at hi))|fail)
      show AWp _ _ _ _
      refine awp_frz 59 rfl ?_
      show AWp _ _ _ _
      refine awp_frz 1059 rfl ?_
      refine awp_dena ?_
      apply awp_ret'
      exact zm () [] trivial zae zae zae
  ·rw [show (decide (0 ≤ n) && decide (n < s.topo.nodes.length)) = false by simp; omega] at c3
   rw [if_neg (fun h => hn0 ⟨h.1, h.2.1⟩)]
   repeat' (first|refine zsr ?_|(refine zhm fun hb=>?_;try exact zab)|refine zg2 ?_ ?_|refine zln fun _=>?_|refine zop ?_|refine kc (c1) rfl rfl ?_|refine kc (c3) rfl rfl ?_|fail)
   show AWp _ _ _ _
   refine awp_dena ?_
   apply awp_ret'
   exact zm () [] trivial zae zae zae
theorem failO_small {s : State} {n : Int} (hs : Small 1048576 s) : ∀ s', (failO s n).1 = some s' → Small 1048576 s' := fun s' h => by
 unfold failO at h
 split at h
 ·rename_i h1
  have hk := okP_of h1
  split at h
  ·split at h
   ·cases h
   ·rename_i h3
    cases h
    exact startO_sm ⟨hk.jobs.sub gone_sub, hk.depth⟩ (fail_small hs hk.jobs h3 (Nat.le_refl _)) (by have := ok_runs h1; have := keptR_le (p := failP n) (l := s.runs); simp only [fail1]; omega)
  ·cases h
 ·cases h
end Go.Proofs.YtliopiphobopjaaGreat
