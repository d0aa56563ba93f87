/-
  Jobs that wait or run; queues; both.
-/
import Derived.Test.YtliopiphobopjaaGreatKSh
import Derived.Test.YtliopiphobopjaaGreatKGaR
set_option maxRecDepth 100000
set_option maxHeartbeats 16000000
namespace Go.Proofs.YtliopiphobopjaaGreat
open Go Go.RowKit
attribute [local irreducible] AWp OpsOk OpOk ACalls ChA QsOk MCalls EnC PY

theorem jobE_push (l : List Job) (j : Job) : jobE l ++ [[.n .i64 j.id, .n .i64 j.prio, .n .i64 j.nodes, .n .i64 j.need.a, .n .i64 j.need.b, .n .i64 j.need.c, .n .i64 j.lic.a, .n .i64 j.lic.b, .n .i64 j.lic.c, .n .i64 j.wall, .n .i64 j.level]] = jobE (l ++ [j]) := by simp [jobE]
theorem all_e {s : State} (hs : Small 1000000000 s) : DC Tryz.prog 141 [stateA s] [.d (.sl (jobE (allJ s)))] := by
  refine mcalls_of tt Tryz.func141 rfl rfl rfl trivial (fun _ _ => ⟨trivial, trivial⟩) (fun w0 Z O => ?_)
  have hql := jobE_length s.queue
  have hqs := hs.que
  have hrs := hs.run
  have hrl := runE_length s.runs
  repeat' (first|refine zst ?_|(refine zhm fun hb=>?_;try first|omega|exact absurd rfl hb)|refine zgc ?_ ?_|refine zgx ?_ ?_|(apply op_id;first|refine zk35 rfl rfl rfl ?_|refine zk36 rfl rfl rfl ?_|refine zk37 rfl rfl rfl ?_|refine zk38 rfl rfl rfl ?_|refine zk39 rfl rfl rfl ?_|refine zk40 rfl rfl rfl ?_|refine zk42 rfl rfl rfl ?_|refine zk45 rfl ?_|refine zk46 rfl ?_|refine zgq ?_)|(apply q_id;first|refine zk0 ?_|refine zk5 ?_|refine zk11 ?_|refine zk12 (fun _ => ?_)|refine zk13 rfl rfl rfl ?_|refine zk14 ?_|refine zk19 ?_|refine zk31 ?_|refine zk32 rfl rfl rfl ?_|refine zk33 rfl ?_|refine zk34 rfl ?_))
  refine awp_loop (fun (i : Nat) => ⟨24, [(3, .row 6), (11, .d (.sl (runE s.runs))), (12, .d (.n .i64 (s.runs.length : Nat))), (13, .d (.n .i64 i))], [(6, .row 94 (jobE (s.queue ++ (s.runs.take i).map Run.job)) true)]⟩) (fun i => i ≤ s.runs.length) (fun i => s.runs.length - i) 0 (by exact Nat.zero_le _) ?_ ?_
  · refine ⟨rfl, ?_, ?_, rfl⟩
    repeat'(first|apply And.intro|exact zeb|refine zec ?_|exact zen|refine zeo ?_|exact zel|refine zem ?_|exact zep|refine zeq1 ?_|refine zea ?_|refine zei ?_ ?_|refine zex ?_|refine zca (hv := ?_)|refine zcb (hv := ?_)|exact rfl|trivial)
    all_goals exact Stop.mk (by first | rfl | exact runE_length _ | (simp only [List.take_zero, List.map_nil, List.append_nil, List.nil_append]; done) | simp [jobE])
  · intro i hi
    have hal : (jobE (s.queue ++ (s.runs.take i).map Run.job)).length = s.queue.length + i := by
      rw [jobE_length, List.length_append, List.length_map, List.length_take]; omega
    have hal2 : (s.queue ++ (s.runs.take i).map Run.job).length = s.queue.length + i := by
      rw [List.length_append, List.length_map, List.length_take]; omega
    by_cases hi' : i < s.runs.length
    · repeat' (first|refine zst ?_|(refine zhm fun hb=>?_;try first|omega|exact absurd rfl hb)|refine zgc ?_ ?_|refine zgx ?_ ?_|(apply op_id;first|refine zk35 rfl rfl rfl ?_|refine zk36 rfl rfl rfl ?_|refine zk37 rfl rfl rfl ?_|refine zk38 rfl rfl rfl ?_|refine zk39 rfl rfl rfl ?_|refine zk40 rfl rfl rfl ?_|refine zk42 rfl rfl rfl ?_|refine zk45 rfl ?_|refine zk46 rfl ?_|refine zgq ?_)|(apply q_id;first|refine zk0 ?_|refine zk5 ?_|refine zk11 ?_|refine zk12 (fun _ => ?_)|refine zk13 rfl rfl rfl ?_|refine zk14 ?_|refine zk19 ?_|refine zk31 ?_|refine zk32 rfl rfl rfl ?_|refine zk33 rfl ?_|refine zk34 rfl ?_))
      refine ⟨i + 1, by omega, by omega, ?_⟩
      refine ⟨rfl, ?_, ?_, rfl⟩
      repeat'(first|apply And.intro|exact zeb|refine zec ?_|exact zen|refine zeo ?_|exact zel|refine zem ?_|exact zep|refine zeq1 ?_|refine zea ?_|refine zei ?_ ?_|refine zex ?_|refine zca (hv := ?_)|refine zcb (hv := ?_)|exact rfl|trivial)
      all_goals exact Stop.mk (by first | rfl | (rw [take_snoc hi', List.map_append, ← List.append_assoc]; exact jobE_push _ _))
    · repeat' (first|refine zsr ?_|(refine zhm fun hb=>?_;try first|omega|exact absurd rfl hb)|refine zgc ?_ ?_|refine zgx ?_ ?_|(apply op_id;first|refine zk35 rfl rfl rfl ?_|refine zk36 rfl rfl rfl ?_|refine zk37 rfl rfl rfl ?_|refine zk38 rfl rfl rfl ?_|refine zk39 rfl rfl rfl ?_|refine zk40 rfl rfl rfl ?_|refine zk42 rfl rfl rfl ?_|refine zk45 rfl ?_|refine zk46 rfl ?_|refine zgq ?_)|(apply q_id;first|refine zk0 ?_|refine zk5 ?_|refine zk11 ?_|refine zk12 (fun _ => ?_)|refine zk13 rfl rfl rfl ?_|refine zk14 ?_|refine zk19 ?_|refine zk31 ?_|refine zk32 rfl rfl rfl ?_|refine zk33 rfl ?_|refine zk34 rfl ?_))
      show AWp _ _ _ _
      refine awp_frz 6 rfl ?_
      refine awp_dena ?_
      apply awp_ret'
      refine zm () [] trivial ?_ ?_ ?_
      repeat'(first|apply And.intro|exact zeb|refine zec ?_|exact zen|refine zeo ?_|exact zel|refine zem ?_|exact zep|refine zeq1 ?_|refine zea ?_|refine zei ?_ ?_|refine zex ?_|refine zca (hv := ?_)|refine zcb (hv := ?_)|exact rfl|trivial)
      all_goals exact Stop.mk (by first | rfl | (rw [List.take_of_length_le (by omega)]; rfl))
theorem l06Jobs_s {s : State} (hs : Small 1000000000 s) : DC Tryz.prog 137 [stateA s] [.d (.sl (jobE (allJ s)))] := by
  refine mcalls_of tt Tryz.func137 rfl rfl rfl trivial (fun _ _ => ⟨trivial, trivial⟩) (fun w0 Z O => ?_)
  have hql := jobE_length s.queue
  have hqs := hs.que
  have hrs := hs.run
  have hrl := runE_length s.runs
  repeat' (first|refine zst ?_|(refine zhm fun hb=>?_;try first|omega|exact absurd rfl hb)|refine zgc ?_ ?_|refine zgx ?_ ?_|(apply op_id;first|refine zk35 rfl rfl rfl ?_|refine zk36 rfl rfl rfl ?_|refine zk37 rfl rfl rfl ?_|refine zk38 rfl rfl rfl ?_|refine zk39 rfl rfl rfl ?_|refine zk40 rfl rfl rfl ?_|refine zk42 rfl rfl rfl ?_|refine zk45 rfl ?_|refine zk46 rfl ?_|refine zgq ?_)|(apply q_id;first|refine zk0 ?_|refine zk5 ?_|refine zk11 ?_|refine zk12 (fun _ => ?_)|refine zk13 rfl rfl rfl ?_|refine zk14 ?_|refine zk19 ?_|refine zk31 ?_|refine zk32 rfl rfl rfl ?_|refine zk33 rfl ?_|refine zk34 rfl ?_))
  refine awp_loop (fun (i : Nat) => ⟨24, [(3, .row 6), (11, .d (.sl (runE s.runs))), (12, .d (.n .i64 (s.runs.length : Nat))), (13, .d (.n .i64 i))], [(6, .row 94 (jobE (s.queue ++ (s.runs.take i).map Run.job)) true)]⟩) (fun i => i ≤ s.runs.length) (fun i => s.runs.length - i) 0 (by exact Nat.zero_le _) ?_ ?_
  · refine ⟨rfl, ?_, ?_, rfl⟩
    repeat'(first|apply And.intro|exact zeb|refine zec ?_|exact zen|refine zeo ?_|exact zel|refine zem ?_|exact zep|refine zeq1 ?_|refine zea ?_|refine zei ?_ ?_|refine zex ?_|refine zca (hv := ?_)|refine zcb (hv := ?_)|exact rfl|trivial)
    all_goals exact Stop.mk (by first | rfl | exact runE_length _ | (simp only [List.take_zero, List.map_nil, List.append_nil, List.nil_append]; done) | simp [jobE])
  · intro i hi
    have hal : (jobE (s.queue ++ (s.runs.take i).map Run.job)).length = s.queue.length + i := by
      rw [jobE_length, List.length_append, List.length_map, List.length_take]; omega
    have hal2 : (s.queue ++ (s.runs.take i).map Run.job).length = s.queue.length + i := by
      rw [List.length_append, List.length_map, List.length_take]; omega
    by_cases hi' : i < s.runs.length
    · repeat' (first|refine zst ?_|(refine zhm fun hb=>?_;try first|omega|exact absurd rfl hb)|refine zgc ?_ ?_|refine zgx ?_ ?_|(apply op_id;first|refine zk35 rfl rfl rfl ?_|refine zk36 rfl rfl rfl ?_|refine zk37 rfl rfl rfl ?_|refine zk38 rfl rfl rfl ?_|refine zk39 rfl rfl rfl ?_|refine zk40 rfl rfl rfl ?_|refine zk42 rfl rfl rfl ?_|refine zk45 rfl ?_|refine zk46 rfl ?_|refine zgq ?_)|(apply q_id;first|refine zk0 ?_|refine zk5 ?_|refine zk11 ?_|refine zk12 (fun _ => ?_)|refine zk13 rfl rfl rfl ?_|refine zk14 ?_|refine zk19 ?_|refine zk31 ?_|refine zk32 rfl rfl rfl ?_|refine zk33 rfl ?_|refine zk34 rfl ?_))
      refine ⟨i + 1, by omega, by omega, ?_⟩
      refine ⟨rfl, ?_, ?_, rfl⟩
      repeat'(first|apply And.intro|exact zeb|refine zec ?_|exact zen|refine zeo ?_|exact zel|refine zem ?_|exact zep|refine zeq1 ?_|refine zea ?_|refine zei ?_ ?_|refine zex ?_|refine zca (hv := ?_)|refine zcb (hv := ?_)|exact rfl|trivial)
      all_goals exact Stop.mk (by first | rfl | (rw [take_snoc hi', List.map_append, ← List.append_assoc]; exact jobE_push _ _))
    · repeat' (first|refine zsr ?_|(refine zhm fun hb=>?_;try first|omega|exact absurd rfl hb)|refine zgc ?_ ?_|refine zgx ?_ ?_|(apply op_id;first|refine zk35 rfl rfl rfl ?_|refine zk36 rfl rfl rfl ?_|refine zk37 rfl rfl rfl ?_|refine zk38 rfl rfl rfl ?_|refine zk39 rfl rfl rfl ?_|refine zk40 rfl rfl rfl ?_|refine zk42 rfl rfl rfl ?_|refine zk45 rfl ?_|refine zk46 rfl ?_|refine zgq ?_)|(apply q_id;first|refine zk0 ?_|refine zk5 ?_|refine zk11 ?_|refine zk12 (fun _ => ?_)|refine zk13 rfl rfl rfl ?_|refine zk14 ?_|refine zk19 ?_|refine zk31 ?_|refine zk32 rfl rfl rfl ?_|refine zk33 rfl ?_|refine zk34 rfl ?_))
      show AWp _ _ _ _
      refine awp_frz 6 rfl ?_
      refine awp_dena ?_
      apply awp_ret'
      refine zm () [] trivial ?_ ?_ ?_
      repeat'(first|apply And.intro|exact zeb|refine zec ?_|exact zen|refine zeo ?_|exact zel|refine zem ?_|exact zep|refine zeq1 ?_|refine zea ?_|refine zei ?_ ?_|refine zex ?_|refine zca (hv := ?_)|refine zcb (hv := ?_)|exact rfl|trivial)
      all_goals exact Stop.mk (by first | rfl | (rw [List.take_of_length_le (by omega)]; rfl))
/-! ### The first that .. -/
def idxF {α : Type} (l : List α) (p : α → Bool) : Int := if l.any p = true then ((l.findIdx p : Nat) : Int) else -1
theorem any_no {α : Type} [Inhabited α] {l : List α} {p : α → Bool} (h : ∀ j, j < l.length → p (nth l j) = false) : l.any p = false := by
  cases e : l.any p with
  | false => rfl
  | true =>
    obtain ⟨x, hx, hp⟩ := List.any_eq_true.1 e
    obtain ⟨j, hj, rfl⟩ := mem_nth hx
    rw [h j hj] at hp
    cases hp
theorem any_yes {α : Type} [Inhabited α] {l : List α} {p : α → Bool} {j : Nat} (hj : j < l.length) (h : p (nth l j) = true) : l.any p = true := List.any_eq_true.2 ⟨_, nth_mem hj, h⟩
theorem idxF_yes {α : Type} [Inhabited α] {l : List α} {p : α → Bool} {i : Nat} (hi : i < l.length) (h : p (nth l i) = true) (hp : ∀ j, j < i → p (nth l j) = false) : idxF l p = i := by
  unfold idxF
  rw [if_pos (any_yes hi h)]
  congr 1
  rw [List.findIdx_eq hi]
  refine ⟨by rw [← nth_eq hi]; exact h, fun j hj => ?_⟩
  have := hp j hj
  rwa [nth_eq (by omega)] at this
theorem idxF_no {α : Type} [Inhabited α] {l : List α} {p : α → Bool} (h : ∀ j, j < l.length → p (nth l j) = false) : idxF l p = -1 := by
  unfold idxF
  rw [if_neg (by rw [any_no h]; decide)]
theorem idxF_has {α : Type} (l : List α) (p : α → Bool) : decide (0 ≤ idxF l p) = l.any p := by
  unfold idxF
  cases h : l.any p with
  | true => rw [if_pos rfl]; simp
  | false => rw [if_neg (by decide)]; decide
theorem indexFunc_j {l : List Job} {p : Job → Bool} {g : FuncId} {ds : List D} (h : l.length ≤ 1000000000) (hg : ∀ j, ACalls Tryz.prog g [jobA j, .pd ds 0] [.d (.b (p j))] []) : ACalls Tryz.prog 207 [.d (.sl (jobE l)), .clo g [.pd ds 0]] [.d (.n .i64 (idxF l p))] [] := by
  refine acalls_of tt Tryz.func207 rfl rfl rfl (fun w0 Z => ?_)
  have hl := jobE_length l
  repeat' (first|refine zst ?_|(refine zhm fun hb=>?_;try first|omega|exact absurd rfl hb)|refine zgc ?_ ?_|refine zgx ?_ ?_|(apply op_id;first|refine zk45 rfl ?_|refine zk46 rfl ?_|refine zgq ?_)|(apply q_id;first|refine zk0 ?_|refine zk5 ?_|refine zk11 ?_|refine zk12 (fun _ => ?_)|refine zk13 rfl rfl rfl ?_|refine zk14 ?_|refine zk19 ?_|refine zk31 ?_|refine zk32 rfl rfl rfl ?_|refine zk33 rfl ?_|refine zk34 rfl ?_))
  refine awp_loop (fun (i : Nat) => ⟨19, [(0, .d (.sl (jobE l))), (1, .clo g [.pd ds 0]), (7, .d (.n .i64 (l.length : Nat))), (8, .d (.n .i64 i))], []⟩) (fun i => i ≤ l.length ∧ ∀ j, j < i → p (nth l j) = false) (fun i => l.length - i) 0 (by exact ⟨Nat.zero_le _, fun j hj => absurd hj (Nat.not_lt_zero _)⟩) ?_ ?_
  · refine ⟨rfl, ?_, ?_, rfl⟩
    repeat'(first|apply And.intro|exact zeb|refine zec ?_|exact zen|refine zeo ?_|exact zel|refine zem ?_|exact zep|refine zeq1 ?_|refine zea ?_|refine zei ?_ ?_|refine zex ?_|refine zca (hv := ?_)|refine zcb (hv := ?_)|exact rfl|trivial)
    all_goals exact Stop.mk (by first | rfl | exact jobE_length _)
  · rintro i ⟨hi, hp⟩
    by_cases hi' : i < l.length
    · repeat' (first|refine zst ?_|(refine zhm fun hb=>?_;try first|omega|exact absurd rfl hb)|refine zgc ?_ ?_|refine zgx ?_ ?_|(apply op_id;first|refine zk45 rfl ?_|refine zk46 rfl ?_|refine kv (hg (nth l i)) rfl rfl rfl rfl rfl ?_|refine zgq ?_)|(apply q_id;first|refine zk0 ?_|refine zk5 ?_|refine zk11 ?_|refine zk12 (fun _ => ?_)|refine zk13 rfl rfl rfl ?_|refine zk14 ?_|refine zk19 ?_|refine zk31 ?_|refine zk32 rfl rfl rfl ?_|refine zk33 rfl ?_|refine zk34 rfl ?_))
      · rw [idxF_yes hi' (by assumption) hp]
        refine zr [] ?_ ?_
        repeat'(first|apply And.intro|exact zeb|refine zec ?_|exact zen|refine zeo ?_|exact zel|refine zem ?_|exact zep|refine zeq1 ?_|refine zea ?_|refine zei ?_ ?_|refine zex ?_|refine zca (hv := ?_)|refine zcb (hv := ?_)|exact rfl|trivial)
        all_goals exact Stop.mk rfl
      · refine ⟨i + 1, ⟨by omega, fun j hj => ?_⟩, by omega, ?_⟩
        · by_cases e : j = i
          · subst e; assumption
          · exact hp j (by omega)
        refine ⟨rfl, ?_, ?_, rfl⟩
        repeat'(first|apply And.intro|exact zeb|refine zec ?_|exact zen|refine zeo ?_|exact zel|refine zem ?_|exact zep|refine zeq1 ?_|refine zea ?_|refine zei ?_ ?_|refine zex ?_|refine zca (hv := ?_)|refine zcb (hv := ?_)|exact rfl|trivial)
        all_goals exact Stop.mk rfl
    · rw [idxF_no (fun j hj => hp j (by omega))]
      repeat' (first|refine zst ?_|(refine zhm fun hb=>?_;try first|omega|exact absurd rfl hb)|refine zgc ?_ ?_|refine zgx ?_ ?_|(apply op_id;first|refine zk45 rfl ?_|refine zk46 rfl ?_|refine zgq ?_)|(apply q_id;first|refine zk0 ?_|refine zk5 ?_|refine zk11 ?_|refine zk12 (fun _ => ?_)|refine zk13 rfl rfl rfl ?_|refine zk14 ?_|refine zk19 ?_|refine zk31 ?_|refine zk32 rfl rfl rfl ?_|refine zk33 rfl ?_|refine zk34 rfl ?_))
      refine zr [] ?_ ?_
      repeat'(first|apply And.intro|exact zeb|refine zec ?_|exact zen|refine zeo ?_|exact zel|refine zem ?_|exact zep|refine zeq1 ?_|refine zea ?_|refine zei ?_ ?_|refine zex ?_|refine zca (hv := ?_)|refine zcb (hv := ?_)|exact rfl|trivial)
      all_goals exact Stop.mk rfl
theorem containsFunc_j {l : List Job} {p : Job → Bool} {g : FuncId} {ds : List D} (h : l.length ≤ 1000000000) (hg : ∀ j, ACalls Tryz.prog g [jobA j, .pd ds 0] [.d (.b (p j))] []) : ACalls Tryz.prog 222 [.d (.sl (jobE l)), .clo g [.pd ds 0]] [.d (.b (l.any p))] [] := by
  refine acalls_of tt Tryz.func222 rfl rfl rfl (fun w0 Z => ?_)
  repeat' (first|refine zst ?_|(refine zhm fun hb=>?_;try first|omega|exact absurd rfl hb)|refine zgc ?_ ?_|refine zgx ?_ ?_|(apply op_id;first|refine kc (indexFunc_j h hg) rfl rfl ?_))
  refine zr [] ?_ ?_
  repeat'(first|apply And.intro|exact zeb|refine zec ?_|exact zen|refine zeo ?_|exact zel|refine zem ?_|exact zep|refine zeq1 ?_|refine zea ?_|refine zei ?_ ?_|refine zex ?_|refine zca (hv := ?_)|refine zcb (hv := ?_)|exact rfl|trivial)
  all_goals exact Stop.mk (idxF_has l p)
/-! ### Queues -/
theorem queue_f1 {l : List Job} {i : Nat} (hi : i < l.length) (h : jobOkB (nth l i) = false) : queueOkB l = false := pB_f.2 fun q => by rw [q.jobs i hi] at h; cases h
theorem queue_f2 {l : List Job} {i k : Nat} (hi : i < l.length) (hk : k < i) (h : (nth l k).id = (nth l i).id) : queueOkB l = false := pB_f.2 fun q => q.diff i hi k hk h
theorem queue_f3 {l : List Job} (h : 60 < l.length) : queueOkB l = false := pB_f.2 fun q => by have := q.len; omega
theorem queue_t {l : List Job} (h : ∀ i, i < l.length → jobOkB (nth l i) = true ∧ ∀ k, k < i → (nth l k).id ≠ (nth l i).id) : queueOkB l = decide (l.length ≤ 60) := by
  rw [Bool.eq_iff_iff, queueOkB, pB_t, decide_eq_true_eq]
  exact ⟨fun q => q.len, fun q => ⟨q, fun i hi => (h i hi).1, fun i hi => (h i hi).2⟩⟩
theorem sl_takeJ (l : List Job) (i : Nat) : (List.drop 0 ((jobE l).take i)) = jobE (l.take i) := by simp [jobE, List.map_take]
theorem queueClo_e {j k : Job} : ACalls Tryz.prog 223 [jobA k, .pd (jobD j) 0] [.d (.b (k.id == j.id))] [] := by
  refine acalls_of tt Tryz.func223 rfl rfl rfl (fun w0 Z => ?_)
  repeat' (first|refine zsc ?_|(refine Hb.mk (fun hb => ?_);(first|rw [decide_eq_true_eq] at hb|rw [decide_eq_false_iff_not] at hb|skip);(first|(exfalso;omega)|(exact absurd rfl hb)|skip))|refine zgc ?_ ?_|refine zgx ?_ ?_|(apply op_id;first|refine zgq ?_)|(apply q_id;first|refine zk28 ns_ok (by kernel_rfl) ?_))
  refine zr [] ?_ ?_
  repeat'(first|apply And.intro|exact zeb|refine zec ?_|exact zen|refine zeo ?_|exact zel|refine zem ?_|exact zep|refine zeq1 ?_|refine zea ?_|refine zei ?_ ?_|refine zex ?_|refine zca (hv := ?_)|refine zcb (hv := ?_)|exact rfl|trivial)
  all_goals exact Stop.mk rfl
theorem nth_take {α : Type} [Inhabited α] {l : List α} {i k : Nat} (h : k < i) : nth (l.take i) k = nth l k := by
  simp [nth, List.getD, List.getElem?_take_of_lt h]
theorem queueOk_e {l : List Job} (h : l.length ≤ 1000000000) : ACalls Tryz.prog 168 [.d (.sl (jobE l))] [.d (.b (queueOkB l))] [] := by
  refine acalls_of tt Tryz.func168 rfl rfl rfl (fun w0 Z => ?_)
  have hl := jobE_length l
  repeat' (first|refine zst ?_|(refine zhm fun hb=>?_;try first|omega|exact absurd rfl hb)|refine zgc ?_ ?_|refine zgx ?_ ?_|(apply op_id;first|refine zk45 rfl ?_|refine zk46 rfl ?_|refine zgq ?_)|(apply q_id;first|refine zk0 ?_|refine zk5 ?_|refine zk11 ?_|refine zk12 (fun _ => ?_)|refine zk13 rfl rfl rfl ?_|refine zk14 ?_|refine zk15 ?_|refine zk16 rfl rfl rfl ?_|refine zk19 ?_|refine zk30 rfl rfl rfl ?_|refine zk31 ?_|refine zk32 rfl rfl rfl ?_|refine zk33 rfl ?_|refine zk34 rfl ?_))
  refine awp_loop (fun (i : Nat) => ⟨26, [(0, .d (.sl (jobE l))), (5, .d (.sl (jobE l))), (6, .d (.n .i64 (l.length : Nat))), (7, .d (.n .i64 i))], []⟩) (fun i => i ≤ l.length ∧ ∀ j, j < i → jobOkB (nth l j) = true ∧ ∀ k, k < j → (nth l k).id ≠ (nth l j).id) (fun i => l.length - i) 0 (by exact ⟨Nat.zero_le _, fun j hj => absurd hj (Nat.not_lt_zero _)⟩) ?_ ?_
  · refine ⟨rfl, ?_, ?_, rfl⟩
    repeat'(first|apply And.intro|exact zeb|refine zec ?_|exact zen|refine zeo ?_|exact zel|refine zem ?_|exact zep|refine zeq1 ?_|refine zea ?_|refine zei ?_ ?_|refine zex ?_|refine zca (hv := ?_)|refine zcb (hv := ?_)|exact rfl|trivial)
    all_goals exact Stop.mk (by first | rfl | exact jobE_length _)
  · rintro i ⟨hi, hp⟩
    by_cases hi' : i < l.length
    · have hc := containsFunc_j (l := l.take i) (p := fun k => k.id == (nth l i).id) (g := 223) (ds := jobD (nth l i)) (by rw [List.length_take]; omega) (fun k => queueClo_e)
      rw [← sl_takeJ] at hc
      have htl : (l.take i).length = i := by rw [List.length_take]; omega
      repeat' (first|refine zst ?_|(refine zhm fun hb=>?_;try first|omega|exact absurd rfl hb)|refine zgc ?_ ?_|refine zgx ?_ ?_|(apply op_id;first|refine zk45 rfl ?_|refine zk46 rfl ?_|refine kc (jobOk_e (j := nth l i)) rfl rfl ?_|refine kc (hc) rfl rfl ?_|refine zgq ?_)|(apply q_id;first|refine zk0 ?_|refine zk5 ?_|refine zk11 ?_|refine zk12 (fun _ => ?_)|refine zk13 rfl rfl rfl ?_|refine zk14 ?_|refine zk15 ?_|refine zk16 rfl rfl rfl ?_|refine zk19 ?_|refine zk30 rfl rfl rfl ?_|refine zk31 ?_|refine zk32 rfl rfl rfl ?_|refine zk33 rfl ?_|refine zk34 rfl ?_))
      · rw [queue_f1 hi' (by assumption)]
        refine zr [] ?_ ?_
        repeat'(first|apply And.intro|exact zeb|refine zec ?_|exact zen|refine zeo ?_|exact zel|refine zem ?_|exact zep|refine zeq1 ?_|refine zea ?_|refine zei ?_ ?_|refine zex ?_|refine zca (hv := ?_)|refine zcb (hv := ?_)|exact rfl|trivial)
        all_goals exact Stop.mk rfl
      · obtain ⟨x, hx, he⟩ := List.any_eq_true.1 hb
        obtain ⟨k, hk, rfl⟩ := mem_nth hx
        rw [queue_f2 hi' (by omega : k < i) (by rw [nth_take (by omega)] at he; exact beq_iff_eq.1 he)]
        refine zr [] ?_ ?_
        repeat'(first|apply And.intro|exact zeb|refine zec ?_|exact zen|refine zeo ?_|exact zel|refine zem ?_|exact zep|refine zeq1 ?_|refine zea ?_|refine zei ?_ ?_|refine zex ?_|refine zca (hv := ?_)|refine zcb (hv := ?_)|exact rfl|trivial)
        all_goals exact Stop.mk rfl
      · rename_i hjob hany
        refine ⟨i + 1, ⟨by omega, fun j hj => ?_⟩, by omega, ?_⟩
        · by_cases e : j = i
          · subst e
            refine ⟨by assumption, fun k hk he => ?_⟩
            have := any_yes (l := l.take j) (p := fun k => k.id == (nth l j).id) (j := k) (by omega) (by rw [nth_take hk]; exact beq_iff_eq.2 he)
            simp_all
          · exact hp j (by omega)
        refine ⟨rfl, ?_, ?_, rfl⟩
        repeat'(first|apply And.intro|exact zeb|refine zec ?_|exact zen|refine zeo ?_|exact zel|refine zem ?_|exact zep|refine zeq1 ?_|refine zea ?_|refine zei ?_ ?_|refine zex ?_|refine zca (hv := ?_)|refine zcb (hv := ?_)|exact rfl|trivial)
        all_goals exact Stop.mk rfl
    · rw [queue_t fun j hj => hp j (by omega)]
      repeat' (first|refine zsc ?_|(refine Hb.mk (fun hb => ?_);(first|rw [decide_eq_true_eq] at hb|rw [decide_eq_false_iff_not] at hb|skip);(first|(exfalso;omega)|(exact absurd rfl hb)|skip))|refine zgc ?_ ?_|refine zgx ?_ ?_|(apply op_id;first|refine zk45 rfl ?_|refine zk46 rfl ?_|refine zgq ?_)|(apply q_id;first|refine zk0 ?_|refine zk5 ?_|refine zk11 ?_|refine zk12 (fun _ => ?_)|refine zk13 rfl rfl rfl ?_|refine zk14 ?_|refine zk15 ?_|refine zk16 rfl rfl rfl ?_|refine zk19 ?_|refine zk30 rfl rfl rfl ?_|refine zk31 ?_|refine zk32 rfl rfl rfl ?_|refine zk33 rfl ?_|refine zk34 rfl ?_))
      refine zr [] ?_ ?_
      repeat'(first|apply And.intro|exact zeb|refine zec ?_|exact zen|refine zeo ?_|exact zel|refine zem ?_|exact zep|refine zeq1 ?_|refine zea ?_|refine zei ?_ ?_|refine zex ?_|refine zca (hv := ?_)|refine zcb (hv := ?_)|exact rfl|trivial)
      all_goals exact Stop.mk (by first | rfl | exact decide_eq_decide.2 (by omega))
theorem queueOk_s {l : List Job} (h : l.length ≤ 1000000000) : ACalls Tryz.prog 162 [.d (.sl (jobE l))] [.d (.b (queueOkB l))] [] := by
  refine acalls_of tt Tryz.func162 rfl rfl rfl (fun w0 Z => ?_)
  have hl := jobE_length l
  by_cases h60 : 60 < l.length
  · rw [queue_f3 h60]
    repeat' (first|refine zst ?_|(refine zhm fun hb=>?_;try first|omega|exact absurd rfl hb)|(apply awp_drawq;exact rfl;kernel_rfl;kernel_rfl;exact rfl)|(apply awp_drawx;exact rfl;kernel_rfl;exact rfl)|(apply aopQ_ok;exact rfl)|apply qs_nil|(apply ch_nil;exact rfl)|((first|(apply ch_cons;iterate 2 exact rfl)|(apply ch_yes;iterate 4 exact rfl));(iterate 2 exact rfl);(· (intro w0 Z O;first|(apply aop_ok;exact rfl)|(apply QOk.ok;first|refine zk0 ?_|refine zk5 ?_|refine zk11 ?_|refine zk12 (fun _ => ?_)|refine zk13 rfl rfl rfl ?_|refine zk14 ?_|refine zk19 ?_|refine zk28 ns_ok (by kernel_rfl) ?_|refine zk31 ?_|refine zk32 rfl rfl rfl ?_|refine zk33 rfl ?_|refine zk34 rfl ?_)|refine zk45 rfl ?_|refine zk46 rfl ?_);exact ⟨rfl, rfl, rfl⟩);(iterate 2 exact rfl);exact zsl;exact zft;(iterate 4 exact rfl))|(apply ch_no;iterate 10 exact rfl)|(apply ch_no2;iterate 9 exact rfl)|refine zcx ?_ ?_|refine zgc ?_ ?_|refine zgx ?_ ?_|(first|(apply qs_cons;exact rfl)|(apply qs_yes;exact rfl;exact rfl;exact rfl))|refine zqx ?_ ?_|(apply op_id;first|refine zk45 rfl ?_|refine zk46 rfl ?_|refine zgq ?_)|(apply q_id;first|refine zk0 ?_|refine zk5 ?_|refine zk11 ?_|refine zk12 (fun _ => ?_)|refine zk13 rfl rfl rfl ?_|refine zk14 ?_|refine zk19 ?_|refine zk28 ns_ok (by kernel_rfl) ?_|refine zk31 ?_|refine zk32 rfl rfl rfl ?_|refine zk33 rfl ?_|refine zk34 rfl ?_))
    refine zr [] ?_ ?_
    repeat'(first|apply And.intro|exact zeb|refine zec ?_|exact zen|refine zeo ?_|exact zel|refine zem ?_|exact zep|refine zeq1 ?_|refine zea ?_|refine zei ?_ ?_|refine zex ?_|refine zca (hv := ?_)|refine zcb (hv := ?_)|exact rfl|trivial)
    all_goals exact Stop.mk rfl
  · repeat' (first|refine zst ?_|(refine zhm fun hb=>?_;try first|omega|exact absurd rfl hb)|(apply awp_drawq;exact rfl;kernel_rfl;kernel_rfl;exact rfl)|(apply awp_drawx;exact rfl;kernel_rfl;exact rfl)|(apply aopQ_ok;exact rfl)|apply qs_nil|(apply ch_nil;exact rfl)|((first|(apply ch_cons;iterate 2 exact rfl)|(apply ch_yes;iterate 4 exact rfl));(iterate 2 exact rfl);(· (intro w0 Z O;first|(apply aop_ok;exact rfl)|(apply QOk.ok;first|refine zk0 ?_|refine zk5 ?_|refine zk11 ?_|refine zk12 (fun _ => ?_)|refine zk13 rfl rfl rfl ?_|refine zk14 ?_|refine zk19 ?_|refine zk28 ns_ok (by kernel_rfl) ?_|refine zk31 ?_|refine zk32 rfl rfl rfl ?_|refine zk33 rfl ?_|refine zk34 rfl ?_)|refine zk45 rfl ?_|refine zk46 rfl ?_);exact ⟨rfl, rfl, rfl⟩);(iterate 2 exact rfl);exact zsl;exact zft;(iterate 4 exact rfl))|(apply ch_no;iterate 10 exact rfl)|(apply ch_no2;iterate 9 exact rfl)|refine zcx ?_ ?_|refine zgc ?_ ?_|refine zgx ?_ ?_|(first|(apply qs_cons;exact rfl)|(apply qs_yes;exact rfl;exact rfl;exact rfl))|refine zqx ?_ ?_|(apply op_id;first|refine zk45 rfl ?_|refine zk46 rfl ?_|refine zgq ?_)|(apply q_id;first|refine zk0 ?_|refine zk5 ?_|refine zk11 ?_|refine zk12 (fun _ => ?_)|refine zk13 rfl rfl rfl ?_|refine zk14 ?_|refine zk19 ?_|refine zk28 ns_ok (by kernel_rfl) ?_|refine zk31 ?_|refine zk32 rfl rfl rfl ?_|refine zk33 rfl ?_|refine zk34 rfl ?_))
    refine awp_loop (fun (i : Nat) => ⟨33, [(0, .d (.sl (jobE l))), (9, .d (.sl (jobE l))), (10, .d (.n .i64 (l.length : Nat))), (11, .d (.n .i64 i))], []⟩) (fun i => i ≤ l.length ∧ ∀ j, j < i → jobOkB (nth l j) = true ∧ ∀ k, k < j → (nth l k).id ≠ (nth l j).id) (fun i => l.length - i) 0 (by exact ⟨Nat.zero_le _, fun j hj => absurd hj (Nat.not_lt_zero _)⟩) ?_ ?_
    · refine ⟨rfl, ?_, ?_, rfl⟩
      repeat'(first|apply And.intro|exact zeb|refine zec ?_|exact zen|refine zeo ?_|exact zel|refine zem ?_|exact zep|refine zeq1 ?_|refine zea ?_|refine zei ?_ ?_|refine zex ?_|refine zca (hv := ?_)|refine zcb (hv := ?_)|exact rfl|trivial)
      all_goals exact Stop.mk (by first | rfl | exact jobE_length _)
    · rintro i ⟨hi, hp⟩
      by_cases hi' : i < l.length
      · have hc := jobOk_s (j := nth l i)
        cases hj : jobOkB (nth l i) with
        | false =>
          rw [hj] at hc
          rw [queue_f1 hi' hj]
          repeat' (first|refine zst ?_|(refine zhm fun hb=>?_;try first|omega|exact absurd rfl hb)|(apply awp_drawq;exact rfl;kernel_rfl;kernel_rfl;exact rfl)|(apply awp_drawx;exact rfl;kernel_rfl;exact rfl)|(apply aopQ_ok;exact rfl)|apply qs_nil|(apply ch_nil;exact rfl)|((first|(apply ch_cons;iterate 2 exact rfl)|(apply ch_yes;iterate 4 exact rfl));(iterate 2 exact rfl);(· (intro w0 Z O;first|(apply aop_ok;exact rfl)|(apply QOk.ok;first|refine zk0 ?_|refine zk5 ?_|refine zk11 ?_|refine zk12 (fun _ => ?_)|refine zk13 rfl rfl rfl ?_|refine zk14 ?_|refine zk19 ?_|refine zk28 ns_ok (by kernel_rfl) ?_|refine zk31 ?_|refine zk32 rfl rfl rfl ?_|refine zk33 rfl ?_|refine zk34 rfl ?_)|refine zk45 rfl ?_|refine zk46 rfl ?_|refine kc (hc) rfl rfl ?_);exact ⟨rfl, rfl, rfl⟩);(iterate 2 exact rfl);exact zsl;exact zft;(iterate 4 exact rfl))|(apply ch_no;iterate 10 exact rfl)|(apply ch_no2;iterate 9 exact rfl)|refine zcx ?_ ?_|refine zgc ?_ ?_|refine zgx ?_ ?_|(first|(apply qs_cons;exact rfl)|(apply qs_yes;exact rfl;exact rfl;exact rfl))|refine zqx ?_ ?_|(apply q_id;first|refine kq (hc) rfl rfl ?_)|(apply op_id;first|refine zk45 rfl ?_|refine zk46 rfl ?_|refine kc (hc) rfl rfl ?_|refine zgq ?_)|(apply q_id;first|refine zk0 ?_|refine zk5 ?_|refine zk11 ?_|refine zk12 (fun _ => ?_)|refine zk13 rfl rfl rfl ?_|refine zk14 ?_|refine zk19 ?_|refine zk28 ns_ok (by kernel_rfl) ?_|refine zk31 ?_|refine zk32 rfl rfl rfl ?_|refine zk33 rfl ?_|refine zk34 rfl ?_))
          refine zr [] ?_ ?_
          repeat'(first|apply And.intro|exact zeb|refine zec ?_|exact zen|refine zeo ?_|exact zel|refine zem ?_|exact zep|refine zeq1 ?_|refine zea ?_|refine zei ?_ ?_|refine zex ?_|refine zca (hv := ?_)|refine zcb (hv := ?_)|exact rfl|trivial)
          all_goals exact Stop.mk rfl
        | true =>
          rw [hj] at hc
          repeat' (first|refine zst ?_|(refine zhm fun hb=>?_;try first|omega|exact absurd rfl hb)|(apply awp_drawq;exact rfl;kernel_rfl;kernel_rfl;exact rfl)|(apply awp_drawx;exact rfl;kernel_rfl;exact rfl)|(apply aopQ_ok;exact rfl)|apply qs_nil|(apply ch_nil;exact rfl)|((first|(apply ch_cons;iterate 2 exact rfl)|(apply ch_yes;iterate 4 exact rfl));(iterate 2 exact rfl);(· (intro w0 Z O;first|(apply aop_ok;exact rfl)|(apply QOk.ok;first|refine zk0 ?_|refine zk5 ?_|refine zk11 ?_|refine zk12 (fun _ => ?_)|refine zk13 rfl rfl rfl ?_|refine zk14 ?_|refine zk19 ?_|refine zk28 ns_ok (by kernel_rfl) ?_|refine zk31 ?_|refine zk32 rfl rfl rfl ?_|refine zk33 rfl ?_|refine zk34 rfl ?_)|refine zk45 rfl ?_|refine zk46 rfl ?_|refine kc (hc) rfl rfl ?_);exact ⟨rfl, rfl, rfl⟩);(iterate 2 exact rfl);exact zsl;exact zft;(iterate 4 exact rfl))|(apply ch_no;iterate 10 exact rfl)|(apply ch_no2;iterate 9 exact rfl)|refine zcx ?_ ?_|refine zgc ?_ ?_|refine zgx ?_ ?_|(first|(apply qs_cons;exact rfl)|(apply qs_yes;exact rfl;exact rfl;exact rfl))|refine zqx ?_ ?_|(apply q_id;first|refine kq (hc) rfl rfl ?_)|(apply op_id;first|refine zk45 rfl ?_|refine zk46 rfl ?_|refine kc (hc) rfl rfl ?_|refine zgq ?_)|(apply q_id;first|refine zk0 ?_|refine zk5 ?_|refine zk11 ?_|refine zk12 (fun _ => ?_)|refine zk13 rfl rfl rfl ?_|refine zk14 ?_|refine zk19 ?_|refine zk28 ns_ok (by kernel_rfl) ?_|refine zk31 ?_|refine zk32 rfl rfl rfl ?_|refine zk33 rfl ?_|refine zk34 rfl ?_))
          refine awp_loop (fun (k : Nat) => ⟨33, [(0, .d (.sl (jobE l))), (3, .d (.n .i64 i)), (4, .ptr 4 0), (5, .d (.n .i64 k)), (9, .d (.sl (jobE l))), (10, .d (.n .i64 (l.length : Nat))), (11, .d (.n .i64 i))], [(4, .box 94 ((jobD (nth l i)).map AV.d))]⟩) (fun k => k ≤ i ∧ ∀ m, m < k → (nth l m).id ≠ (nth l i).id) (fun k => i - k) 0 (by exact ⟨Nat.zero_le _, fun j hj => absurd hj (Nat.not_lt_zero _)⟩) ?_ ?_
          · refine ⟨rfl, ?_, ?_, rfl⟩
            repeat'(first|apply And.intro|exact zeb|refine zec ?_|exact zen|refine zeo ?_|exact zel|refine zem ?_|exact zep|refine zeq1 ?_|refine zea ?_|refine zei ?_ ?_|refine zex ?_|refine zca (hv := ?_)|refine zcb (hv := ?_)|exact rfl|trivial)
            all_goals exact Stop.mk rfl
          · rintro k ⟨hk, hm⟩
            by_cases hk' : k < i
            · repeat' (first|refine zst ?_|(refine zhm fun hb=>?_;try first|omega|exact absurd rfl hb)|(apply awp_drawq;exact rfl;kernel_rfl;kernel_rfl;exact rfl)|(apply awp_drawx;exact rfl;kernel_rfl;exact rfl)|(apply aopQ_ok;exact rfl)|apply qs_nil|(apply ch_nil;exact rfl)|((first|(apply ch_cons;iterate 2 exact rfl)|(apply ch_yes;iterate 4 exact rfl));(iterate 2 exact rfl);(· (intro w0 Z O;first|(apply aop_ok;exact rfl)|(apply QOk.ok;first|refine zk0 ?_|refine zk5 ?_|refine zk11 ?_|refine zk12 (fun _ => ?_)|refine zk13 rfl rfl rfl ?_|refine zk14 ?_|refine zk19 ?_|refine zk28 ns_ok (by kernel_rfl) ?_|refine zk31 ?_|refine zk32 rfl rfl rfl ?_|refine zk33 rfl ?_|refine zk34 rfl ?_)|refine zk45 rfl ?_|refine zk46 rfl ?_);exact ⟨rfl, rfl, rfl⟩);(iterate 2 exact rfl);exact zsl;exact zft;(iterate 4 exact rfl))|(apply ch_no;iterate 10 exact rfl)|(apply ch_no2;iterate 9 exact rfl)|refine zcx ?_ ?_|refine zgc ?_ ?_|refine zgx ?_ ?_|(first|(apply qs_cons;exact rfl)|(apply qs_yes;exact rfl;exact rfl;exact rfl))|refine zqx ?_ ?_|(apply op_id;first|refine zk45 rfl ?_|refine zk46 rfl ?_|refine zgq ?_)|(apply q_id;first|refine zk0 ?_|refine zk5 ?_|refine zk11 ?_|refine zk12 (fun _ => ?_)|refine zk13 rfl rfl rfl ?_|refine zk14 ?_|refine zk19 ?_|refine zk28 ns_ok (by kernel_rfl) ?_|refine zk31 ?_|refine zk32 rfl rfl rfl ?_|refine zk33 rfl ?_|refine zk34 rfl ?_))
              · rw [queue_f2 hi' hk' (by assumption)]
                refine zr [] ?_ ?_
                repeat'(first|apply And.intro|exact zeb|refine zec ?_|exact zen|refine zeo ?_|exact zel|refine zem ?_|exact zep|refine zeq1 ?_|refine zea ?_|refine zei ?_ ?_|refine zex ?_|refine zca (hv := ?_)|refine zcb (hv := ?_)|exact rfl|trivial)
                all_goals exact Stop.mk rfl
              · refine ⟨k + 1, ⟨by omega, fun m hm' => ?_⟩, by omega, ?_⟩
                · by_cases e : m = k
                  · subst e; assumption
                  · exact hm m (by omega)
                refine ⟨rfl, ?_, ?_, rfl⟩
                repeat'(first|apply And.intro|exact zeb|refine zec ?_|exact zen|refine zeo ?_|exact zel|refine zem ?_|exact zep|refine zeq1 ?_|refine zea ?_|refine zei ?_ ?_|refine zex ?_|refine zca (hv := ?_)|refine zcb (hv := ?_)|exact rfl|trivial)
                all_goals exact Stop.mk rfl
            · repeat' (first|refine zst ?_|(refine zhm fun hb=>?_;try first|omega|exact absurd rfl hb)|(apply awp_drawq;exact rfl;kernel_rfl;kernel_rfl;exact rfl)|(apply awp_drawx;exact rfl;kernel_rfl;exact rfl)|(apply aopQ_ok;exact rfl)|apply qs_nil|(apply ch_nil;exact rfl)|((first|(apply ch_cons;iterate 2 exact rfl)|(apply ch_yes;iterate 4 exact rfl));(iterate 2 exact rfl);(· (intro w0 Z O;first|(apply aop_ok;exact rfl)|(apply QOk.ok;first|refine zk0 ?_|refine zk5 ?_|refine zk11 ?_|refine zk12 (fun _ => ?_)|refine zk13 rfl rfl rfl ?_|refine zk14 ?_|refine zk19 ?_|refine zk28 ns_ok (by kernel_rfl) ?_|refine zk31 ?_|refine zk32 rfl rfl rfl ?_|refine zk33 rfl ?_|refine zk34 rfl ?_)|refine zk45 rfl ?_|refine zk46 rfl ?_);exact ⟨rfl, rfl, rfl⟩);(iterate 2 exact rfl);exact zsl;exact zft;(iterate 4 exact rfl))|(apply ch_no;iterate 10 exact rfl)|(apply ch_no2;iterate 9 exact rfl)|refine zcx ?_ ?_|refine zgc ?_ ?_|refine zgx ?_ ?_|(first|(apply qs_cons;exact rfl)|(apply qs_yes;exact rfl;exact rfl;exact rfl))|refine zqx ?_ ?_|(apply op_id;first|refine zk45 rfl ?_|refine zk46 rfl ?_|refine zgq ?_)|(apply q_id;first|refine zk0 ?_|refine zk5 ?_|refine zk11 ?_|refine zk12 (fun _ => ?_)|refine zk13 rfl rfl rfl ?_|refine zk14 ?_|refine zk19 ?_|refine zk28 ns_ok (by kernel_rfl) ?_|refine zk31 ?_|refine zk32 rfl rfl rfl ?_|refine zk33 rfl ?_|refine zk34 rfl ?_))
              refine ⟨i + 1, ⟨by omega, fun j hj' => ?_⟩, by omega, ?_⟩
              · by_cases e : j = i
                · subst e; exact ⟨hj, fun m hm' => hm m (by omega)⟩
                · exact hp j (by omega)
              refine ⟨rfl, ?_, ?_, rfl⟩
              repeat'(first|apply And.intro|exact zeb|refine zec ?_|exact zen|refine zeo ?_|exact zel|refine zem ?_|exact zep|refine zeq1 ?_|refine zea ?_|refine zei ?_ ?_|refine zex ?_|refine zca (hv := ?_)|refine zcb (hv := ?_)|exact rfl|trivial)
              all_goals exact Stop.mk rfl
      · rw [queue_t fun j hj => hp j (by omega), decide_eq_true (by omega)]
        repeat' (first|refine zst ?_|(refine zhm fun hb=>?_;try first|omega|exact absurd rfl hb)|(apply awp_drawq;exact rfl;kernel_rfl;kernel_rfl;exact rfl)|(apply awp_drawx;exact rfl;kernel_rfl;exact rfl)|(apply aopQ_ok;exact rfl)|apply qs_nil|(apply ch_nil;exact rfl)|((first|(apply ch_cons;iterate 2 exact rfl)|(apply ch_yes;iterate 4 exact rfl));(iterate 2 exact rfl);(· (intro w0 Z O;first|(apply aop_ok;exact rfl)|(apply QOk.ok;first|refine zk0 ?_|refine zk5 ?_|refine zk11 ?_|refine zk12 (fun _ => ?_)|refine zk13 rfl rfl rfl ?_|refine zk14 ?_|refine zk19 ?_|refine zk28 ns_ok (by kernel_rfl) ?_|refine zk31 ?_|refine zk32 rfl rfl rfl ?_|refine zk33 rfl ?_|refine zk34 rfl ?_)|refine zk45 rfl ?_|refine zk46 rfl ?_);exact ⟨rfl, rfl, rfl⟩);(iterate 2 exact rfl);exact zsl;exact zft;(iterate 4 exact rfl))|(apply ch_no;iterate 10 exact rfl)|(apply ch_no2;iterate 9 exact rfl)|refine zcx ?_ ?_|refine zgc ?_ ?_|refine zgx ?_ ?_|(first|(apply qs_cons;exact rfl)|(apply qs_yes;exact rfl;exact rfl;exact rfl))|refine zqx ?_ ?_|(apply op_id;first|refine zk45 rfl ?_|refine zk46 rfl ?_|refine zgq ?_)|(apply q_id;first|refine zk0 ?_|refine zk5 ?_|refine zk11 ?_|refine zk12 (fun _ => ?_)|refine zk13 rfl rfl rfl ?_|refine zk14 ?_|refine zk19 ?_|refine zk28 ns_ok (by kernel_rfl) ?_|refine zk31 ?_|refine zk32 rfl rfl rfl ?_|refine zk33 rfl ?_|refine zk34 rfl ?_))
        refine zr [] ?_ ?_
        repeat'(first|apply And.intro|exact zeb|refine zec ?_|exact zen|refine zeo ?_|exact zel|refine zem ?_|exact zep|refine zeq1 ?_|refine zea ?_|refine zei ?_ ?_|refine zex ?_|refine zca (hv := ?_)|refine zcb (hv := ?_)|exact rfl|trivial)
        all_goals exact Stop.mk rfl
end Go.Proofs.YtliopiphobopjaaGreat
