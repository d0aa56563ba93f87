/-
  Finish, both.
-/
import Derived.Test.YtliopiphobopjaaGreatKShL
import Derived.Test.YtliopiphobopjaaGreatKFaA
set_option maxRecDepth 100000
set_option maxHeartbeats 16000000
namespace Go.Proofs.YtliopiphobopjaaGreat
open Go Go.RowKit
attribute [local irreducible] AWp OpsOk OpOk ACalls ChA QsOk MCalls NCalls EnC PY

theorem indexFunc_r {l : List Run} {p : Run → Bool} {g : FuncId} {ds : List D} (h : l.length ≤ 1000000000) (hg : ∀ j, ACalls Tryz.prog g [runA j, .pd ds 0] [.d (.b (p j))] []) : ACalls Tryz.prog 217 [.d (.sl (runE l)), .clo g [.pd ds 0]] [.d (.n .i64 (idxF l p))] [] := by
 refine acalls_of tt Tryz.func217 rfl rfl rfl (fun w0 Z => ?_)
 have hl := runE_length l
 repeat' (first|refine zst ?_|(refine zhm fun hb=>?_;try exact zab)|refine zg2 ?_ ?_|refine zln fun _=>?_|refine zop ?_|fail)
 refine awp_loop (fun (i : Nat) => ⟨19, [(0, .d (.sl (runE l))), (1, .clo g [.pd ds 0]), (7, .d (.n .i64 (l.length : Nat))), (8, .d (.n .i64 i))], []⟩) (fun i => i ≤ l.length ∧ ∀ j, j < i → p (nth l j) = false) (fun i => l.length - i) 0 (by exact ⟨Nat.zero_le _, fun j hj => absurd hj (Nat.not_lt_zero _)⟩) ?_ ?_
 ·refine ⟨rfl, ?_, ?_, rfl⟩
  repeat'(first|apply And.intro|exact ze0|refine ze1 ?_|refine zei ?_ ?_|exact rfl|trivial)
  all_goals exact Stop.mk (by first | rfl | exact runE_length _)
 ·rintro i ⟨hi, hp⟩
  by_cases hi' : i < l.length
  ·repeat' (first|refine zst ?_|(refine zhm fun hb=>?_;try exact zab)|refine zg2 ?_ ?_|refine zln fun _=>?_|refine zop ?_|refine kv (hg (nth l i)) rfl rfl rfl rfl rfl ?_|fail)
   ·rw [idxF_yes hi' (by assumption) hp]
    exact zr [] zae zae
   ·refine ⟨i + 1, ⟨by omega, fun j hj => ?_⟩, by omega, ?_⟩
    ·by_cases e : j = i
     ·subst e; assumption
     ·exact hp j (by omega)
    exact ⟨rfl, zae, zae, rfl⟩
  ·rw [idxF_no (fun j hj => hp j (by omega))]
   repeat' (first|refine zst ?_|(refine zhm fun hb=>?_;try exact zab)|refine zg2 ?_ ?_|refine zln fun _=>?_|refine zop ?_|fail)
   exact zr [] zae zae
theorem containsFunc_r {l : List Run} {p : Run → Bool} {g : FuncId} {ds : List D} (h : l.length ≤ 1000000000) (hg : ∀ j, ACalls Tryz.prog g [runA j, .pd ds 0] [.d (.b (p j))] []) : ACalls Tryz.prog 150 [.d (.sl (runE l)), .clo g [.pd ds 0]] [.d (.b (l.any p))] [] := by
 refine acalls_of tt Tryz.func150 rfl rfl rfl (fun w0 Z => ?_)
 repeat' (first|refine zst ?_|(refine zhm fun hb=>?_;try exact zab)|refine zg2 ?_ ?_|refine zop ?_|refine kc (indexFunc_r h hg) rfl rfl ?_|fail)
 refine zr [] ?_ ?_
 repeat'(first|apply And.intro|exact ze0|refine ze1 ?_|refine zei ?_ ?_|exact rfl|trivial)
 all_goals exact Stop.mk (idxF_has l p)
def finP (id : Int) (r : Run) : Bool := r.job.id == id
theorem finClo1_e {id : Int} (r : Run) : ACalls Tryz.prog 151 [runA r, .pd [.n .i64 id] 0] [.d (.b (finP id r))] [] := by
 refine acalls_of tt Tryz.func151 rfl rfl rfl (fun w0 Z => ?_)
 repeat' (first|refine zst ?_|(refine zhm fun hb=>?_;try exact zab)|refine zg2 ?_ ?_|refine zop ?_|fail)
 exact zr [] zae zae
theorem finClo2_e {id : Int} (r : Run) : ACalls Tryz.prog 152 [runA r, .pd [.n .i64 id] 0] [.d (.b (finP id r))] [] := by
 refine acalls_of tt Tryz.func152 rfl rfl rfl (fun w0 Z => ?_)
 repeat' (first|refine zst ?_|(refine zhm fun hb=>?_;try exact zab)|refine zg2 ?_ ?_|refine zop ?_|fail)
 exact zr [] zae zae
def finR (s : State) (id why : Int) : State := { s with runs := keptR (finP id) s.runs, ends := s.ends ++ goneE s.now why (finP id) s.runs }
def finQ (s : State) (id why : Int) : State := { s with queue := outJ s.queue id, ends := s.ends ++ [⟨id, s.now, why⟩] }
noncomputable def fnsO (s : State) (id why : Int) : Option State × Int :=
 if stateOkB s = true ∧ (why = 2 ∨ why = 3) then
  if s.runs.any (finP id) = true then
   if 300 ≤ s.ends.length then (none, 6) else (some (startO (finR s id why)), 0)
  else if s.queue.any (fun x => x.id == id) = true ∧ why = 3 then
   if 300 ≤ s.ends.length then (none, 6) else (some (startO (finQ s id why)), 0)
  else (none, 5)
 else (none, 1)
theorem out_sub {l : List Job} {id : Int} : (outJ l id).Sublist l := List.filter_sublist
theorem finR_small {s : State} {id why : Int} {n : Nat} (h : Small 1048576 s) (he : ¬ 300 ≤ s.ends.length) (hr : s.runs.length ≤ 60) (hn : 1048576 ≤ n) : Small n (finR s id why) := by
 have h1 := keptR_le (p := finP id) (l := s.runs)
 have h2 := goneE_le (now := s.now) (why := why) (p := finP id) (l := s.runs)
 have h3 := h.que
 have hl : (s.ends ++ goneE s.now why (finP id) s.runs).length = s.ends.length + (goneE s.now why (finP id) s.runs).length := List.length_append
 refine ⟨Nat.le_trans h.par hn, Nat.le_trans h.nod hn, Nat.le_trans h.up hn, Nat.le_trans h.que hn, by simp only [finR]; omega, by simp only [finR]; omega, fun j hj => ?_⟩
 obtain ⟨i, hi, e⟩ := mem_nth (kept_mem hj)
 rw [show (finR s id why).runs = keptR (finP id) s.runs from rfl, ← e]
 exact Nat.le_trans (h.rno i hi) hn
theorem finQ_small {s : State} {id why : Int} {n : Nat} (h : Small 1048576 s) (he : ¬ 300 ≤ s.ends.length) (hn : 1048576 ≤ n) : Small n (finQ s id why) := by
 have h1 := (out_sub (l := s.queue) (id := id)).length_le
 have h3 := h.que
 exact ⟨Nat.le_trans h.par hn, Nat.le_trans h.nod hn, Nat.le_trans h.up hn, by simp only [finQ]; omega, Nat.le_trans h.run hn, by simp only [finQ, List.length_append, List.length_singleton]; omega, fun j hj => Nat.le_trans (h.rno j hj) hn⟩
theorem finR_A {s : State} {id why : Int} : stateA (finR s id why) = stateV s (boolE s.up) (jobE s.queue) (runE (keptR (finP id) s.runs)) (endE (s.ends ++ goneE s.now why (finP id) s.runs)) := rfl
theorem finQ_A {s : State} {id why : Int} : stateA (finQ s id why) = stateV s (boolE s.up) (jobE (outJ s.queue id)) (runE s.runs) (endE s.ends ++ [[.n .i64 id, .n .i64 s.now, .n .i64 why]]) := by
 rw [show endE s.ends ++ [[.n .i64 id, .n .i64 s.now, .n .i64 why]] = endE (s.ends ++ [⟨id, s.now, why⟩]) from endE_push _ ⟨_, _, _⟩]; rfl
theorem no_neg {s : State} (h : stateOkB s = true) {r : Run} (hr : r ∈ s.runs) : hasI r.nodes (-1) = false := by
 obtain ⟨i, hi, rfl⟩ := mem_nth hr
 have hd := ((stateOk_runs h).runs i hi).2.nodes
 cases hh : hasI (nth s.runs i).nodes (-1) with
 | false => rfl
 | true =>
  have : (-1 : Int) ∈ (nth s.runs i).nodes := by simpa [hasI] using hh
  obtain ⟨k, hk, e⟩ := mem_nth this
  have := (hd k hk).1
  omega
theorem drop_fin {s : State} {id : Int} (h : stateOkB s = true) : ∀ r ∈ s.runs, dropP id (-1) r = finP id r := fun r hr => by
 unfold dropP finP
 rw [no_neg h hr, Bool.or_false]
theorem drop_none {s : State} {id : Int} (h : stateOkB s = true) (hn : s.runs.any (finP id) = false) : ∀ r ∈ s.runs, dropP id (-1) r = false := fun r hr => by
 rw [drop_fin h r hr]
 cases hh : finP id r with
 | false => rfl
 | true => rw [List.any_eq_true.2 ⟨r, hr, hh⟩] at hn; cases hn
theorem keptR_all {p : Run → Bool} {l : List Run} (h : ∀ r ∈ l, p r = false) : keptR p l = l := by
 unfold keptR
 rw [List.filter_eq_self]
 intro r hr
 rw [h r hr]; rfl
theorem goneE_none {now why : Int} {p : Run → Bool} {l : List Run} (h : ∀ r ∈ l, p r = false) : goneE now why p l = [] := by
 unfold goneE
 rw [List.filter_eq_nil_iff.2 (fun r hr => by rw [h r hr]; decide)]
 rfl
theorem not_both {s : State} {id : Int} (hk : QueueP (allJ s)) (h : s.runs.any (finP id) = true) : s.queue.any (fun x => x.id == id) = false := by
 cases hh : s.queue.any (fun x => x.id == id) with
 | false => rfl
 | true =>
  exfalso
  obtain ⟨x, hx, e1⟩ := List.any_eq_true.1 hh
  obtain ⟨r, hr, e2⟩ := List.any_eq_true.1 h
  have hn := hk.nodup
  rw [allJ, List.map_append, List.nodup_append] at hn
  refine hn.2.2 x.id (List.mem_map.2 ⟨x, hx, rfl⟩) r.job.id (List.mem_map.2 ⟨r.job, List.mem_map.2 ⟨r, hr, rfl⟩, rfl⟩) ?_
  rw [beq_iff_eq.1 e1]
  exact (beq_iff_eq.1 e2).symm
theorem any_all {s : State} {id : Int} : (allJ s).any (fun x => x.id == id) = (s.queue.any (fun x => x.id == id) || s.runs.any (finP id)) := by
 rw [allJ, List.any_append, List.any_map]
 rfl
theorem finish_e {s : State} {id why : Int} (hs : Small 1048576 s) : SO 65 [stateA s, .d (.n .i64 id), .d (.n .i64 why)] (fnsO s id why).1 (fnsO s id why).2 := by
 refine acalls_of tt Tryz.func65 rfl rfl rfl (fun w0 Z => ?_)
 have hm : Small 100000000 s := hs.mono (by omega)
 have c1 := stateOk_e hm
 unfold fnsO
 cases h : stateOkB s with
 | false =>
  rw [h] at c1
  rw [if_neg (fun h => by cases h.1)]
  repeat' (first|refine zst ?_|(refine zhm fun hb=>?_;try exact zab)|refine zg2 ?_ ?_|refine zln fun _=>?_|refine zop ?_|refine kc (c1) rfl rfl ?_|fail)
  all_goals
   exact zr [] zae zae
 | true =>
  rw [h] at c1
  by_cases hw : why = 2 ∨ why = 3
  ·rw [if_pos ⟨rfl, hw⟩]
   have hk := okP_of h
   have hrl := ok_runs h
   have hrm := hs.run
   have hqm := hs.que
   have hem := hs.end'
   have hql := hk.jobs.left.len
   have hqe := jobE_length s.queue
   have hee := endE_length s.ends
   have c2 := containsFunc_r (l := s.runs) (p := finP id) (g := 151) (ds := [.n .i64 id]) (by omega) finClo1_e
   have c3 := jobAt_e (l := s.queue) (id := id) (by omega)
   have hix := idxF_has s.queue fun x => x.id == id
   cases hr : s.runs.any (finP id) with
   | true =>
    rw [hr] at c2
    rw [if_pos rfl]
    by_cases h6 : 300 ≤ s.ends.length
    ·rw [if_pos h6]
     repeat' (first|(refine awp_fzbr 3 4 rfl rfl ?_)|refine zst ?_|(refine zhm fun hb=>?_;try exact zab)|refine zg2 ?_ ?_|refine zln fun _=>?_|refine zop ?_|refine kc (c1) rfl rfl ?_|refine kc (c2) rfl rfl ?_|refine kc (c3) rfl rfl ?_|fail)
     all_goals
      exact zr [] zae zae
    ·rw [if_neg h6]
     have c4 := ended_n (s := s) (why := why) (p := finP id) (g := 152) (ds := [.n .i64 id]) (u := boolE s.up) hm (fun r _ => finClo2_e r)
     have c7 := started_c (s := finR s id why) (finR_small hs h6 hrl (by omega)) ⟨hk.jobs.left, hk.depth⟩
     rw [finR_A] at c7
     repeat' (first|(refine awp_fzbr 3 4 rfl rfl ?_)|refine zst ?_|(refine zhm fun hb=>?_;try exact zab)|refine zg2 ?_ ?_|refine zln fun _=>?_|refine zop ?_|refine kc (c1) rfl rfl ?_|refine kc (c2) rfl rfl ?_|refine kc (c3) rfl rfl ?_|refine kc (c7) rfl rfl ?_|(refine km [] (copyState_q hm) rfl rfl (fun i hi => ?_);(try dsimp only at hi))|(refine kn2 [3, 47, 1047] (c4) rfl rfl (fun i hi => ?_);(try dsimp only at hi))|fail)
     all_goals first
      | (exfalso; omega)
      | skip
     all_goals
      exact zr [70, 1070, 2070, 3070, 4070, 5070] zae zae
   | false =>
    rw [hr] at c2
    rw [if_neg (show ¬ (false = true) by decide)]
    cases hq : s.queue.any (fun x => x.id == id) with
    | false =>
     rw [hq, decide_eq_false_iff_not] at hix
     rw [if_neg (fun h => by cases h.1)]
     repeat' (first|(refine awp_fzbr 3 4 rfl rfl ?_)|refine zst ?_|(refine zhm fun hb=>?_;try exact zab)|refine zg2 ?_ ?_|refine zln fun _=>?_|refine zop ?_|refine kc (c1) rfl rfl ?_|refine kc (c2) rfl rfl ?_|refine kc (c3) rfl rfl ?_|fail)
     all_goals
      exact zr [] zae zae
    | true =>
     rw [hq, decide_eq_true_eq] at hix
     by_cases h3 : why = 3
     ·rw [if_pos ⟨rfl, h3⟩]
      by_cases h6 : 300 ≤ s.ends.length
      ·rw [if_pos h6]
       repeat' (first|(refine awp_fzbr 3 4 rfl rfl ?_)|refine zst ?_|(refine zhm fun hb=>?_;try exact zab)|refine zg2 ?_ ?_|refine zln fun _=>?_|refine zop ?_|refine kc (c1) rfl rfl ?_|refine kc (c2) rfl rfl ?_|refine kc (c3) rfl rfl ?_|fail)
       all_goals
        exact zr [] zae zae
      ·rw [if_neg h6]
       have hfi : idxF s.queue (fun x => x.id == id) = ((s.queue.findIdx (fun x => x.id == id) : Nat) : Int) := if_pos hq
       have hlt : s.queue.findIdx (fun x => x.id == id) < s.queue.length := List.findIdx_lt_length.2 (by simpa using List.any_eq_true.1 hq)
       have hid : (nth s.queue (s.queue.findIdx (fun x => x.id == id))).id = id := by
        rw [nth_eq hlt]
        exact beq_iff_eq.1 (List.findIdx_getElem (w := hlt))
       rw [hfi] at c3
       generalize s.queue.findIdx (fun x => x.id == id) = k at *
       have c4 := delete_n (l := s.queue) (k := k) hlt (by omega)
       rw [outJ_erase hk.jobs.left.nodup hlt, hid] at c4
       have c7 := started_c (s := finQ s id why) (finQ_small hs h6 (by omega)) ⟨hk.jobs.left.sub out_sub, hk.depth⟩
       rw [finQ_A] at c7
       repeat' (first|(refine awp_fzbr 3 4 rfl rfl ?_)|refine zst ?_|(refine zhm fun hb=>?_;try exact zab)|refine zg2 ?_ ?_|refine zln fun _=>?_|refine zop ?_|refine kc (c1) rfl rfl ?_|refine kc (c2) rfl rfl ?_|refine kc (c3) rfl rfl ?_|refine kc (c7) rfl rfl ?_|(refine km [] (copyState_q hm) rfl rfl (fun i hi => ?_);(try dsimp only at hi))|(refine kn [47] (c4) rfl rfl (fun i hi => ?_);(try dsimp only at hi))|fail)
       all_goals first
        | (exfalso; omega)
        | skip
       all_goals
        exact zr [70, 1070, 2070, 3070, 4070, 5070] zae zae
     ·rw [if_neg (fun h => h3 h.2)]
      repeat' (first|(refine awp_fzbr 3 4 rfl rfl ?_)|refine zst ?_|(refine zhm fun hb=>?_;try exact zab)|refine zg2 ?_ ?_|refine zln fun _=>?_|refine zop ?_|refine kc (c1) rfl rfl ?_|refine kc (c2) rfl rfl ?_|refine kc (c3) rfl rfl ?_|fail)
      all_goals
       exact zr [] zae zae
  ·rw [if_neg (fun h => hw h.2)]
   repeat' (first|refine zst ?_|(refine zhm fun hb=>?_;try exact zab)|refine zg2 ?_ ?_|refine zln fun _=>?_|refine zop ?_|refine kc (c1) rfl rfl ?_|fail)
   all_goals first
    | (exfalso; omega)
    | skip
   all_goals
    exact zr [] zae zae
theorem finish_s {s : State} {id why : Int} (hs : Small 1048576 s) : SS 64 [stateA s, .d (.n .i64 id), .d (.n .i64 why)] (fnsO s id why).1 (fnsO s id why).2 := by
 refine mcalls_of tt Tryz.func64 rfl rfl rfl trivial (fun _ _ => ⟨trivial, trivial⟩) (fun w0 Z O => ?_)
 have hm : Small 100000000 s := hs.mono (by omega)
 have c1 := stateOk_s hm
 unfold fnsO
 cases h : stateOkB s with
 | false =>
  rw [h] at c1
  rw [if_neg (fun h => by cases h.1)]
  repeat' (first|refine zsr ?_|(refine zhm fun hb=>?_;try exact zab)|refine zg2 ?_ ?_|refine zln fun _=>?_|refine zop ?_|refine kc (c1) rfl rfl ?_|fail)
  all_goals
   show AWp _ _ _ _
   refine awp_dena ?_
   apply awp_ret'
   exact zm () [] trivial zae zae zae
 | true =>
  rw [h] at c1
  by_cases hw : why = 2 ∨ why = 3
  ·rw [if_pos ⟨rfl, hw⟩]
   have hk := okP_of h
   have hrl := ok_runs h
   have hal := hk.jobs.len
   have hrm := hs.run
   have hqm := hs.que
   have hem := hs.end'
   have hee := endE_length s.ends
   have c2 := l05Find_s (l := s.queue) (id := id) (by omega)
   have c3 := l05Find_s (l := allJ s) (id := id) (by omega)
   have c6 := l06Jobs_s (hm.mono (m := 1000000000) (by omega))
   rw [find_any] at c2 c3
   rw [any_all] at c3
   cases hr : s.runs.any (finP id) with
   | true =>
    have hq := not_both hk.jobs hr
    rw [hr, hq] at c3
    rw [hq] at c2
    rw [if_pos rfl]
    by_cases h6 : 300 ≤ s.ends.length
    ·rw [if_pos h6]
     repeat' (first|refine zsr ?_|(refine zhm fun hb=>?_;try exact zab)|refine zg2 ?_ ?_|refine zln fun _=>?_|refine zop ?_|refine kc (c1) rfl rfl ?_|refine kc (c2) rfl rfl ?_|refine kc (c3) rfl rfl ?_|(refine km [] (c6) rfl rfl (fun i hi => ?_);(try dsimp only at hi))|fail)
     all_goals
      show AWp _ _ _ _
      refine awp_dena ?_
      apply awp_ret'
      exact zm () [] trivial zae zae zae
    ·rw [if_neg h6]
     have c5 := l06Drop_d (s := s) (why := why) (id := id) (node := -1) hm
     rw [kept_eq (drop_fin h), goneE_eq (drop_fin h)] at c5
     have c7 := l06Start_c (s := finR s id why) (finR_small hs h6 hrl (by omega)) ⟨hk.jobs.left, hk.depth⟩
     repeat' (first|refine zsr ?_|(refine zhm fun hb=>?_;try exact zab)|refine zg2 ?_ ?_|refine zln fun _=>?_|refine zop ?_|refine kc (c1) rfl rfl ?_|refine kc (c2) rfl rfl ?_|refine kc (c3) rfl rfl ?_|(refine km [] (c6) rfl rfl (fun i hi => ?_);(try dsimp only at hi))|(refine km [] (l06Copy_e hm) rfl rfl (fun i hi => ?_);(try dsimp only at hi))|(refine kn [54] (c5) rfl rfl (fun i hi => ?_);(try dsimp only at hi))|(refine kn [74, 1074] (c7) rfl rfl (fun i hi => ?_);(try dsimp only at hi))|fail)
     all_goals first
      | (exfalso; omega)
      | skip
     all_goals
      show AWp _ _ _ _
      refine awp_frz 76 rfl ?_
      show AWp _ _ _ _
      refine awp_frz 1076 rfl ?_
      refine awp_dena ?_
      apply awp_ret'
      exact zm () [] trivial zae zae zae
   | false =>
    rw [hr] at c3
    rw [if_neg (show ¬ (false = true) by decide)]
    cases hq : s.queue.any (fun x => x.id == id) with
    | false =>
     rw [hq] at c2 c3
     rw [if_neg (fun h => by cases h.1)]
     repeat' (first|refine zsr ?_|(refine zhm fun hb=>?_;try exact zab)|refine zg2 ?_ ?_|refine zln fun _=>?_|refine zop ?_|refine kc (c1) rfl rfl ?_|refine kc (c2) rfl rfl ?_|refine kc (c3) rfl rfl ?_|(refine km [] (c6) rfl rfl (fun i hi => ?_);(try dsimp only at hi))|fail)
     all_goals
      show AWp _ _ _ _
      refine awp_dena ?_
      apply awp_ret'
      exact zm () [] trivial zae zae zae
    | true =>
     rw [hq] at c2 c3
     by_cases h3 : why = 3
     ·rw [if_pos ⟨rfl, h3⟩]
      by_cases h6 : 300 ≤ s.ends.length
      ·rw [if_pos h6]
       repeat' (first|refine zsr ?_|(refine zhm fun hb=>?_;try exact zab)|refine zg2 ?_ ?_|refine zln fun _=>?_|refine zop ?_|refine kc (c1) rfl rfl ?_|refine kc (c2) rfl rfl ?_|refine kc (c3) rfl rfl ?_|(refine km [] (c6) rfl rfl (fun i hi => ?_);(try dsimp only at hi))|fail)
       all_goals
        show AWp _ _ _ _
        refine awp_dena ?_
        apply awp_ret'
        exact zm () [] trivial zae zae zae
      ·rw [if_neg h6]
       have c5 := l06Drop_d (s := finQ s id why) (why := why) (id := id) (node := -1) (finQ_small hs h6 (by omega))
       have hno := drop_none (id := id) h hr
       dsimp only [stDrop, finQ] at c5
       rw [keptR_all hno, goneE_none hno, List.append_nil, ← endE_push] at c5
       have c7 := l06Start_c (s := finQ s id why) (finQ_small hs h6 (by omega)) ⟨hk.jobs.left.sub out_sub, hk.depth⟩
       have hep : endE (finQ s id why).ends = endE s.ends ++ [[.n .i64 id, .n .i64 s.now, .n .i64 why]] := (endE_push s.ends ⟨id, s.now, why⟩).symm
       rw [hep] at c7
       repeat' (first|refine zsr ?_|(refine zhm fun hb=>?_;try exact zab)|refine zg2 ?_ ?_|refine zln fun _=>?_|refine zop ?_|refine kc (c1) rfl rfl ?_|refine kc (c2) rfl rfl ?_|refine kc (c3) rfl rfl ?_|(refine km [] (c6) rfl rfl (fun i hi => ?_);(try dsimp only at hi))|(refine km [] (l06Copy_e hm) rfl rfl (fun i hi => ?_);(try dsimp only at hi))|(refine km [] (l06Out_s (l := s.queue) (id := id) (by omega)) rfl rfl (fun i hi => ?_);(try dsimp only at hi))|(refine kn [54] (c5) rfl rfl (fun i hi => ?_);(try dsimp only at hi))|(refine kn [74, 1074] (c7) rfl rfl (fun i hi => ?_);(try dsimp only at hi))|fail)
       all_goals first
        | (exfalso; omega)
        | skip
       all_goals
        show AWp _ _ _ _
        refine awp_frz 76 rfl ?_
        show AWp _ _ _ _
        refine awp_frz 1076 rfl ?_
        refine awp_dena ?_
        apply awp_ret'
        refine zm () [] trivial ?_ ?_ ?_
        repeat'(first|apply And.intro|exact ze0|refine ze1 ?_|refine zei ?_ ?_|exact rfl|trivial)
        all_goals exact Stop.mk (by first | rfl | exact hep.symm)
     ·rw [if_neg (fun h => h3 h.2)]
      repeat' (first|refine zsr ?_|(refine zhm fun hb=>?_;try exact zab)|refine zg2 ?_ ?_|refine zln fun _=>?_|refine zop ?_|refine kc (c1) rfl rfl ?_|refine kc (c2) rfl rfl ?_|refine kc (c3) rfl rfl ?_|(refine km [] (c6) rfl rfl (fun i hi => ?_);(try dsimp only at hi))|fail)
      all_goals first
       | (exfalso; omega)
       | skip
      all_goals
       show AWp _ _ _ _
       refine awp_dena ?_
       apply awp_ret'
       exact zm () [] trivial zae zae zae
  ·rw [if_neg (fun h => hw h.2)]
   repeat' (first|refine zsr ?_|(refine zhm fun hb=>?_;try exact zab)|refine zg2 ?_ ?_|refine zln fun _=>?_|refine zop ?_|refine kc (c1) rfl rfl ?_|fail)
   all_goals first
    | (exfalso; omega)
    | skip
   all_goals
    show AWp _ _ _ _
    refine awp_dena ?_
    apply awp_ret'
    exact zm () [] trivial zae zae zae
theorem fnsO_small {s : State} {id why : Int} (hs : Small 1048576 s) : ∀ s', (fnsO s id why).1 = some s' → Small 1048576 s' := fun s' h => by
 unfold fnsO at h
 split at h
 ·rename_i h1
  have hk := okP_of h1.1
  have hrl := ok_runs h1.1
  split at h
  ·split at h
   ·cases h
   ·rename_i h3
    cases h
    exact startO_sm ⟨hk.jobs.left, hk.depth⟩ (finR_small hs h3 hrl (Nat.le_refl _)) (by have := keptR_le (p := finP id) (l := s.runs); simp only [finR]; omega)
  ·split at h
   ·split at h
    ·cases h
    ·rename_i h3
     cases h
     exact startO_sm ⟨hk.jobs.left.sub out_sub, hk.depth⟩ (finQ_small hs h3 (Nat.le_refl _)) (by simp only [finQ]; omega)
   ·cases h
 ·cases h
end Go.Proofs.YtliopiphobopjaaGreat
