/-
  Submit, both.
-/
import Derived.Test.YtliopiphobopjaaGreatKShL
import Derived.Test.YtliopiphobopjaaGreatKStE
import Derived.Test.YtliopiphobopjaaGreatKSuA
import Derived.Test.YtliopiphobopjaaGreatKB14
import Derived.Test.YtliopiphobopjaaGreatKB20
set_option maxRecDepth 100000
set_option maxHeartbeats 16000000
namespace Go.Proofs.YtliopiphobopjaaGreat
open Go Go.RowKit
attribute [local irreducible] AWp OpsOk OpOk ACalls ChA QsOk MCalls NCalls EnC PY

def subm (s : State) (j : Job) : State := { s with queue := s.queue ++ [j] }
noncomputable def submitO (s : State) (j : Job) : Option State × Int :=
 if stateOkB s = true ∧ jobOkB j = true then
  if (allJ s).any (fun x => x.id == j.id) = true then (none, 2)
  else if 60 ≤ (allJ s).length then (none, 3)
  else if (earO (fullR s) j 0).isSome = true then (some (startO (subm s j)), 0) else (none, 4)
 else (none, 1)
theorem subm_Q {s : State} {j : Job} (h : QueueP (allJ s)) (hj : jobOkB j = true) (hn : ¬ (allJ s).any (fun x => x.id == j.id) = true) (hl : ¬ 60 ≤ (allJ s).length) : QueueP (s.queue ++ [j]) := by
 have hq := h.left
 have hlen : s.queue.length ≤ (allJ s).length := by simp [allJ]
 have hnx : ∀ i, i < s.queue.length → (nth s.queue i).id ≠ j.id := fun i hi e => by
  apply hn
  refine List.any_eq_true.2 ⟨nth s.queue i, ?_, by rw [e]; exact beq_self_eq_true _⟩
  exact List.mem_append_left _ (nth_mem hi)
 have ex : nth (s.queue ++ [j]) s.queue.length = j := by rw [nth_eq (by simp)]; simp
 have ei : ∀ i, i < s.queue.length → nth (s.queue ++ [j]) i = nth s.queue i := fun i hi => by
  rw [nth_eq (by simp; omega), nth_eq hi, List.getElem_append_left hi]
 have el : (s.queue ++ [j]).length = s.queue.length + 1 := by simp
 refine ⟨by omega, fun i hi => ?_, fun i hi k hk => ?_⟩
 ·by_cases h1 : i < s.queue.length
  ·rw [ei i h1]; exact hq.jobs i h1
  ·obtain rfl : i = s.queue.length := by omega
   rw [ex]; exact hj
 ·have h2 : k < s.queue.length := by omega
  rw [ei k h2]
  by_cases h1 : i < s.queue.length
  ·rw [ei i h1]; exact hq.diff i h1 k hk
  ·obtain rfl : i = s.queue.length := by omega
   rw [ex]; exact hnx k h2
theorem subm_small {n : Nat} {s : State} {j : Job} (h : Small n s) (hq : s.queue.length + 1 ≤ n) : Small n (subm s j) := ⟨h.par, h.nod, h.up, by simp only [subm, List.length_append, List.length_singleton]; exact hq, h.run, h.end', h.rno⟩
@[reducible] def stateQ (s : State) (q : List (List D)) : AV := .agg [.d (.sl (intE s.topo.parents)), .d (.sl (nodeE s.topo.nodes)), .d (.sl (boolE s.up)), .d (.n .i64 s.lic.a), .d (.n .i64 s.lic.b), .d (.n .i64 s.lic.c), .d (.n .i64 s.depth), .d (.n .i64 s.now), .d (.sl q), .d (.sl (runE s.runs)), .d (.sl (endE s.ends))]
@[reducible] def stateHQ (s : State) (q : List (List D)) (q1 q2 : Nat) : List AV := [.d (.sl (intE s.topo.parents)), .d (.sl (nodeE s.topo.nodes)), .d (.sl (boolE s.up)), .d (.n .i64 s.lic.a), .d (.n .i64 s.lic.b), .d (.n .i64 s.lic.c), .d (.n .i64 s.depth), .d (.n .i64 s.now), .d (.sl q), .row q1, .row q2]
theorem subm_A {s : State} {j : Job} : stateA (subm s j) = stateQ s (jobE s.queue ++ [[.n .i64 j.id, .n .i64 j.prio, .n .i64 j.nodes, .n .i64 j.need.a, .n .i64 j.need.b, .n .i64 j.need.c, .n .i64 j.lic.a, .n .i64 j.lic.b, .n .i64 j.lic.c, .n .i64 j.wall, .n .i64 j.level]]) := by rw [jobE_push]; rfl
theorem subm_H {s : State} {j : Job} {q1 q2 : Nat} : stateH (subm s j) q1 q2 = stateHQ s (jobE s.queue ++ [[.n .i64 j.id, .n .i64 j.prio, .n .i64 j.nodes, .n .i64 j.need.a, .n .i64 j.need.b, .n .i64 j.need.c, .n .i64 j.lic.a, .n .i64 j.lic.b, .n .i64 j.lic.c, .n .i64 j.wall, .n .i64 j.level]]) q1 q2 := by rw [jobE_push]; rfl
structure OkP (s : State) : Prop where
 topo : TopoOk s.topo
 up : s.up.length = s.topo.nodes.length
 lic : vecOkB s.lic = true
 jobs : QueueP (allJ s)
 depth : 0 ≤ s.depth ∧ s.depth ≤ 60
theorem okP_of {s : State} (h : stateOkB s = true) : OkP s := by
 have h' := pB_t.1 h
 obtain ⟨r, hr⟩ := Option.isSome_iff_exists.1 h'.room
 have hb := (roomOf_ok hr).2.2.2.1
 exact ⟨hb.topo, hb.up, hb.lic, h'.jobs, h'.depth⟩
theorem find_any (l : List Job) (id : Int) : (findJ l id).isSome = l.any (fun x => x.id == id) := by
 unfold findJ
 rw [Bool.eq_iff_iff, List.find?_isSome, List.any_eq_true]
theorem submit_e {s : State} {j : Job} (hs : Small 1048576 s) : SO 61 [stateA s, jobA j] (submitO s j).1 (submitO s j).2 := by
 refine acalls_of tt Tryz.func61 rfl rfl rfl (fun w0 Z => ?_)
 have hm : Small 100000000 s := hs.mono (by omega)
 have c1 := stateOk_e hm
 have c2 := jobOk_e (j := j)
 unfold submitO
 cases h : stateOkB s with
 | false =>
  rw [h] at c1
  rw [if_neg (fun h => by cases h.1)]
  repeat' (first|refine zst ?_|(refine zhm fun hb=>?_;try exact zab)|refine zdr ?_|(apply zch;exact zcg)|refine HopS.mk fun w0 Z O=>?_|exact zhk|refine zg3 ?_ ?_|refine zln fun _=>?_|refine zop ?_|refine kc (c1) rfl rfl ?_|refine kq (c1) rfl rfl ?_|fail)
  exact zr [] zae zae
 | true =>
  rw [h] at c1
  cases hv : jobOkB j with
  | false =>
   rw [hv] at c2
   rw [if_neg (fun h => by cases h.2)]
   repeat' (first|refine zst ?_|(refine zhm fun hb=>?_;try exact zab)|refine zdr ?_|(apply zch;exact zcg)|refine HopS.mk fun w0 Z O=>?_|exact zhk|refine zg3 ?_ ?_|refine zln fun _=>?_|refine zop ?_|refine kc (c1) rfl rfl ?_|refine kc (c2) rfl rfl ?_|refine kq (c1) rfl rfl ?_|refine kq (c2) rfl rfl ?_|fail)
   exact zr [] zae zae
  | true =>
   rw [hv] at c2
   rw [if_pos ⟨rfl, rfl⟩]
   have hk := okP_of h
   have hal := hk.jobs.len
   have hjl := jobE_length (allJ s)
   have c3 := all_e (hm.mono (m := 1000000000) (by omega))
   have c4 := jobAt_e (l := allJ s) (id := j.id) (by omega)
   have hix := idxF_has (allJ s) fun x => x.id == j.id
   cases ha : (allJ s).any (fun x => x.id == j.id) with
   | true =>
    rw [ha, decide_eq_true_eq] at hix
    rw [if_pos rfl]
    repeat' (first|refine zst ?_|(refine zhm fun hb=>?_;try exact zab)|refine zdr ?_|(apply zch;exact zcg)|refine HopS.mk fun w0 Z O=>?_|exact zhk|refine zg3 ?_ ?_|refine zln fun _=>?_|refine zop ?_|refine kc (c1) rfl rfl ?_|refine kc (c2) rfl rfl ?_|refine kc (c4) rfl rfl ?_|(refine km [] (c3) rfl rfl (fun i hi => ?_);(try dsimp only at hi))|refine kq (c1) rfl rfl ?_|refine kq (c2) rfl rfl ?_|refine kq (c4) rfl rfl ?_|fail)
    exact zr [] zae zae
   | false =>
    rw [ha, decide_eq_false_iff_not] at hix
    rw [if_neg (show ¬ (false = true) by decide)]
    by_cases h6 : 60 ≤ (allJ s).length
    ·rw [if_pos h6]
     repeat' (first|refine zst ?_|(refine zhm fun hb=>?_;try exact zab)|refine zdr ?_|(apply zch;exact zcg)|refine HopS.mk fun w0 Z O=>?_|exact zhk|refine zg3 ?_ ?_|refine zln fun _=>?_|refine zop ?_|refine kc (c1) rfl rfl ?_|refine kc (c2) rfl rfl ?_|refine kc (c4) rfl rfl ?_|(refine km [] (c3) rfl rfl (fun i hi => ?_);(try dsimp only at hi))|refine kq (c1) rfl rfl ?_|refine kq (c2) rfl rfl ?_|refine kq (c4) rfl rfl ?_|fail)
     exact zr [] zae zae
    ·rw [if_neg h6]
     have hn := hk.topo.nlen
     have hql : s.queue.length ≤ (allJ s).length := by simp [allJ]
     have hqe := jobE_length s.queue
     repeat' (first|refine zst ?_|(refine zhm fun hb=>?_;try exact zab)|refine zdr ?_|(apply zch;exact zcg)|refine HopS.mk fun w0 Z O=>?_|exact zhk|refine zg3 ?_ ?_|refine zln fun _=>?_|refine zop ?_|refine kc (c1) rfl rfl ?_|refine kc (c2) rfl rfl ?_|refine kc (c4) rfl rfl ?_|(refine km [] (c3) rfl rfl (fun i hi => ?_);(try dsimp only at hi))|refine kq (c1) rfl rfl ?_|refine kq (c2) rfl rfl ?_|refine kq (c4) rfl rfl ?_|fail)
     refine awp_loop (fun (n : Nat) => ⟨68, [(2, .ptr 2 0), (3, .ptr 3 0), (4, .ptr 4 0), (7, .row 32), (36, .d (.n .i64 (s.topo.nodes.length : Nat))), (37, .d (.n .i64 n))], [(2, .box 44 (stateC s)), (3, .box 94 (jobC j)), (4, .box 44 ctl0), (32, .row 4 (boolE (List.replicate n true)) true)]⟩) (fun n => n ≤ s.topo.nodes.length) (fun n => s.topo.nodes.length - n) 0 (by exact Nat.zero_le _) ?_ ?_
     ·refine ⟨rfl, ?_, ?_, rfl⟩
      repeat'(first|apply And.intro|exact ze0|refine ze1 ?_|refine zei ?_ ?_|exact rfl|trivial)
      all_goals exact Stop.mk (by first | rfl | exact nodeE_length _)
     intro n hn1
     have hbn : (boolE (List.replicate n true)).length = n := by rw [boolE_length, List.length_replicate]
     have hbr : (List.replicate n true).length = n := List.length_replicate
     by_cases hn' : n < s.topo.nodes.length
     ·have hst : boolE (List.replicate n true) ++ [[.b true]] = boolE (List.replicate (n + 1) true) := by rw [List.replicate_succ']; simp [boolE]
      repeat' (first|refine zst ?_|(refine zhm fun hb=>?_;try exact zab)|refine zdr ?_|(apply zch;exact zcg)|refine HopS.mk fun w0 Z O=>?_|exact zhk|refine zg3 ?_ ?_|refine zln fun _=>?_|refine zop ?_|fail)
      refine ⟨n + 1, by omega, by omega, ?_⟩
      refine ⟨rfl, ?_, ?_, rfl⟩
      repeat'(first|apply And.intro|exact ze0|refine ze1 ?_|refine zei ?_ ?_|exact rfl|trivial)
      all_goals exact Stop.mk (by first | rfl | exact hst)
     ·obtain rfl : n = s.topo.nodes.length := by omega
      rw [show List.replicate s.topo.nodes.length true = allUp s from rfl]
      have c5 := empty_e (up := allUp s) hk.topo (by simp [allUp]) hk.lic
      have c6 := earliest_e (r := fullR s) (j := j) (a := 0) (full_ok hk.topo hk.lic) hv (by omega)
      unfold fullR at c6
      cases he : earO (emptyR s.topo (allUp s) s.lic) j 0 with
      | none =>
       rw [he] at c6
       rw [if_neg (show ¬ ((earO (fullR s) j 0).isSome = true) by rw [fullR, he]; decide)]
       repeat' (first|(refine awp_frzr 13 32 rfl ?_)|refine zst ?_|(refine zhm fun hb=>?_;try exact zab)|(apply awp_drawm2 13;kernel_rfl;exact rfl)|refine zdr ?_|(apply zch;exact zcg)|refine HopS.mk fun w0 Z O=>?_|exact zhk|refine zg3 ?_ ?_|refine zln fun _=>?_|refine zop ?_|(refine km [] (c5) rfl rfl (fun i hi => ?_);(try dsimp only at hi))|(refine km [] (c6) rfl rfl (fun i hi => ?_);(try dsimp only at hi))|fail)
       exact zr [] zae zae
      | some x =>
       rw [he] at c6
       rw [if_pos (show (earO (fullR s) j 0).isSome = true by rw [fullR, he]; rfl)]
       have hsm := subm_small (j := j) hm (by omega)
       have c7 := started_c (s := subm s j) hsm ⟨subm_Q hk.jobs hv (by rw [ha]; decide) h6, hk.depth⟩
       rw [subm_A] at c7
       repeat' (first|(refine awp_frzr 13 32 rfl ?_)|refine zst ?_|(refine zhm fun hb=>?_;try exact zab)|(apply awp_drawm2 13;kernel_rfl;exact rfl)|refine zdr ?_|(apply zch;exact zcg)|refine HopS.mk fun w0 Z O=>?_|exact zhk|refine zg3 ?_ ?_|refine zln fun _=>?_|refine zop ?_|refine kc (copyState_o hm) rfl rfl ?_|refine kc (c7) rfl rfl ?_|(refine km [] (c5) rfl rfl (fun i hi => ?_);(try dsimp only at hi))|(refine km [] (c6) rfl rfl (fun i hi => ?_);(try dsimp only at hi))|refine kq (copyState_o hm) rfl rfl ?_|refine kq (c7) rfl rfl ?_|fail)
       exact zr [67, 1067, 2067, 3067, 4067, 5067] zae zae
theorem submit_s {s : State} {j : Job} (hs : Small 1048576 s) : SS 59 [stateA s, jobA j] (submitO s j).1 (submitO s j).2 := by
 refine mcalls_of tt Tryz.func59 rfl rfl rfl trivial (fun _ _ => ⟨trivial, trivial⟩) (fun w0 Z O => ?_)
 have hm : Small 100000000 s := hs.mono (by omega)
 have c1 := stateOk_s hm
 have c2 := jobOk_s (j := j)
 unfold submitO
 cases h : stateOkB s with
 | false =>
  rw [h] at c1
  rw [if_neg (fun h => by cases h.1)]
  repeat' (first|refine zsr ?_|(refine zhm fun hb=>?_;try exact zab)|refine zg2 ?_ ?_|refine zln fun _=>?_|refine zop ?_|refine kc (c1) rfl rfl ?_|fail)
  show AWp _ _ _ _
  refine awp_dena ?_
  apply awp_ret'
  exact zm () [] trivial zae zae zae
 | true =>
  rw [h] at c1
  cases hv : jobOkB j with
  | false =>
   rw [hv] at c2
   rw [if_neg (fun h => by cases h.2)]
   repeat' (first|refine zsr ?_|(refine zhm fun hb=>?_;try exact zab)|refine zg2 ?_ ?_|refine zln fun _=>?_|refine zop ?_|refine kc (c1) rfl rfl ?_|refine kc (c2) rfl rfl ?_|fail)
   show AWp _ _ _ _
   refine awp_dena ?_
   apply awp_ret'
   exact zm () [] trivial zae zae zae
  | true =>
   rw [hv] at c2
   rw [if_pos ⟨rfl, rfl⟩]
   have hk := okP_of h
   have hal := hk.jobs.len
   have hjl := jobE_length (allJ s)
   have c3 := l06Jobs_s (hm.mono (m := 1000000000) (by omega))
   have c4 := l05Find_s (l := allJ s) (id := j.id) (by omega)
   have hfa := find_any (allJ s) j.id
   cases ha : (allJ s).any (fun x => x.id == j.id) with
   | true =>
    rw [ha] at hfa
    rw [hfa] at c4
    rw [if_pos rfl]
    repeat' (first|refine zsr ?_|(refine zhm fun hb=>?_;try exact zab)|refine zg2 ?_ ?_|refine zln fun _=>?_|refine zop ?_|refine kc (c1) rfl rfl ?_|refine kc (c2) rfl rfl ?_|refine kc (c4) rfl rfl ?_|(refine km [] (c3) rfl rfl (fun i hi => ?_);(try dsimp only at hi))|fail)
    show AWp _ _ _ _
    refine awp_dena ?_
    apply awp_ret'
    exact zm () [] trivial zae zae zae
   | false =>
    rw [ha] at hfa
    rw [hfa] at c4
    rw [if_neg (show ¬ (false = true) by decide)]
    by_cases h6 : 60 ≤ (allJ s).length
    ·rw [if_pos h6]
     repeat' (first|refine zsr ?_|(refine zhm fun hb=>?_;try exact zab)|refine zg2 ?_ ?_|refine zln fun _=>?_|refine zop ?_|refine kc (c1) rfl rfl ?_|refine kc (c2) rfl rfl ?_|refine kc (c4) rfl rfl ?_|(refine km [] (c3) rfl rfl (fun i hi => ?_);(try dsimp only at hi))|fail)
     show AWp _ _ _ _
     refine awp_dena ?_
     apply awp_ret'
     exact zm () [] trivial zae zae zae
    ·rw [if_neg h6]
     have hql : s.queue.length ≤ (allJ s).length := by simp [allJ]
     have hqe := jobE_length s.queue
     have c5 := l06Could_s (j := j) hk.topo hk.up hk.lic hv (hm.mono (m := 1000000000) (by omega))
     cases he : (earO (fullR s) j 0).isSome with
     | false =>
      rw [he] at c5
      rw [if_neg (show ¬ (false = true) by decide)]
      repeat' (first|refine zsr ?_|(refine zhm fun hb=>?_;try exact zab)|refine zg2 ?_ ?_|refine zln fun _=>?_|refine zop ?_|refine kc (c1) rfl rfl ?_|refine kc (c2) rfl rfl ?_|refine kc (c4) rfl rfl ?_|refine kc (c5) rfl rfl ?_|(refine km [] (c3) rfl rfl (fun i hi => ?_);(try dsimp only at hi))|fail)
      show AWp _ _ _ _
      refine awp_dena ?_
      apply awp_ret'
      exact zm () [] trivial zae zae zae
     | true =>
      rw [he] at c5
      rw [if_pos rfl]
      have hsm := subm_small (j := j) hm (by omega)
      have c7 := l06Start_c (s := subm s j) hsm ⟨subm_Q hk.jobs hv (by rw [ha]; decide) h6, hk.depth⟩
      rw [subm_H] at c7
      repeat' (first|(refine awp_frzr 13 39 rfl ?_)|refine zsr ?_|(refine zhm fun hb=>?_;try exact zab)|refine zg2 ?_ ?_|refine zln fun _=>?_|refine zop ?_|refine kc (c1) rfl rfl ?_|refine kc (c2) rfl rfl ?_|refine kc (c4) rfl rfl ?_|refine kc (c5) rfl rfl ?_|(refine km [] (c3) rfl rfl (fun i hi => ?_);(try dsimp only at hi))|(refine km [] (l06Copy_q hm) rfl rfl (fun i hi => ?_);(try dsimp only at hi))|(refine kn [1039, 2039] (c7) rfl rfl (fun i hi => ?_);(try dsimp only at hi))|fail)
      show AWp _ _ _ _
      refine awp_frz 47 rfl ?_
      show AWp _ _ _ _
      refine awp_frz 1047 rfl ?_
      refine awp_dena ?_
      apply awp_ret'
      exact zm () [] trivial zae zae zae
theorem submitO_small {s : State} {j : Job} (hs : Small 1048576 s) : ∀ s', (submitO s j).1 = some s' → Small 1048576 s' := fun s' h => by
 unfold submitO at h
 split at h
 ·rename_i h1
  have hk := okP_of h1.1
  have hal := hk.jobs.len
  have hql : s.queue.length ≤ (allJ s).length := by simp [allJ]
  split at h
  ·cases h
  ·rename_i h2
   split at h
   ·cases h
   ·rename_i h3
    split at h
    ·cases h
     exact startO_sm ⟨subm_Q hk.jobs h1.2 h2 h3, hk.depth⟩ (subm_small hs (by omega)) (by have := ok_runs h1.1; simp only [subm]; omega)
    ·cases h
 ·cases h
end Go.Proofs.YtliopiphobopjaaGreat
