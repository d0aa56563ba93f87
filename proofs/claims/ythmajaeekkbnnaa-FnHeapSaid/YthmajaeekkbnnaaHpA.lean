/-
  Heaps over the abstract walk: order, elements, HeapOk, both.
-/
import Derived.Test.YthmajaeekkbnnaaSh
import Derived.Test.YthmajaeekkbnnaaHpB
import Derived.Test.YthmajaeekkbnnaaAbsZ
import Derived.Test.YthmajaeekkbnnaaTxC
namespace Go.Proofs.Ythmajaeekkbnnaa
open Go Go.RowKit
attribute [local irreducible] AWp OpsOk OpOk ACalls ChA QsOk MCalls

instance : Inhabited Due := ⟨zdue⟩
@[reducible] def dueA (d : Due) : AV := .agg [.d (.n .i64 d.a), .d (.n .i64 d.i)]
def dueE (l : List Due) : List (List D) := l.map fun d => [.n .i64 d.a, .n .i64 d.i]
set_option maxRecDepth 100000 in
theorem dueFirst_e {a b : Due} : ACalls Try.prog 27 [dueA a, dueA b] [.d (.b (dueFirst a b))] [] := by
  refine acalls_of tt Try.func27 rfl rfl rfl (fun w0 Z => ?_)
  repeat' (first
    | apply awp_seq
    | (apply awp_regionN; exact rfl)
    | (refine Hb.mk (fun hb => ?_); (first | rw [inB_t] at hb | rw [inB_f] at hb | rw [inB_nt] at hb | rw [inB_nf] at hb | rw [decide_eq_true_eq] at hb | rw [decide_eq_false_iff_not] at hb | rw [beq_iff_eq] at hb | rw [beq_eq_false_iff_ne] at hb | rw [Bool.not_eq_true'] at hb | rw [Bool.not_eq_false'] at hb | rw [bne_iff_ne] at hb | rw [bne_eq_false_iff_eq] at hb | skip); (first | (exfalso; omega) | (exact absurd rfl hb) | skip))
    | (apply aopG_ok; exact rfl)
    | apply ops_nil
    | (apply awp_cond_t; exact rfl)
    | (apply awp_cond_f; exact rfl)
    | (apply cond_x; exact rfl)
    | apply awp_block
    | apply awp_skip
    | apply awp_exit
    | apply awp_ret'
    | (first | (apply ops_cons; exact rfl) | (apply ops_yes; exact rfl; exact rfl; exact rfl))
    | (apply ops_x; exact rfl; exact rfl; (fail_if_success exact (rfl : _ = AV.d (.b true))); (fail_if_success exact (rfl : _ = AV.d (.b false))); exact rfl)
    | (apply op_id; first | (apply qok_q; exact rfl))
    | (apply q_id; first | refine zk28 ns_ok rfl rfl rfl rfl rfl rfl rfl rfl ?_)
    )
  all_goals
    refine Stop.mk ?_
    refine ret_intro [] rfl rfl ?_ ?_
    repeat' (first
      | apply And.intro
      | (apply eq_b; exact rfl; exact Stop.mk (by with_reducible rfl))
      | (apply eq_b; exact rfl)
      | (apply eq_n; exact rfl; exact Stop.mk (by first | with_reducible rfl | omega))
      | (apply eq_n; exact rfl)
      | (apply eq_s; exact rfl; exact Stop.mk (by with_reducible rfl))
      | (apply eq_s; exact rfl)
      | (apply eq_sl; exact rfl; exact Stop.mk (by with_reducible rfl))
      | (apply eq_sl; exact rfl)
      | (apply eq_row; exact rfl; exact Stop.mk (by with_reducible rfl))
      | (apply eq_row; exact rfl)
      | (apply eq_agg; exact rfl)
      | (apply eq_cons; exact rfl)
      | (apply eq_boxo; exact rfl)
      | (apply cell_agg; exact rfl; exact rfl; exact rfl)
      | (apply cell_one; exact rfl; exact rfl)
      | exact rfl
      | trivial
      )
    refine Stop.mk ?_
    first
      | done
      | (rw [Bool.eq_iff_iff]; simp [dueFirst] at *; omega)
      | (rw [Bool.eq_iff_iff]; simp [dueFirst] at *; done)
      | (rw [Bool.eq_iff_iff]; simp [dueFirst] at *; simp [*]; done)
      | (rw [Bool.eq_iff_iff]; simp [dueFirst] at *; simp [*]; omega)
      | (rw [Bool.eq_iff_iff]; simp [dueFirst] at *; simp [*]; intros; omega)
set_option maxRecDepth 100000 in
theorem dueFirst_s {a b : Due} : ACalls Try.prog 25 [dueA a, dueA b] [.d (.b (dueFirst a b))] [] := by
  refine acalls_of tt Try.func25 rfl rfl rfl (fun w0 Z => ?_)
  repeat' (first
    | apply awp_seq
    | (apply awp_regionN; exact rfl)
    | (refine Hb.mk (fun hb => ?_); (first | rw [inB_t] at hb | rw [inB_f] at hb | rw [inB_nt] at hb | rw [inB_nf] at hb | rw [decide_eq_true_eq] at hb | rw [decide_eq_false_iff_not] at hb | rw [beq_iff_eq] at hb | rw [beq_eq_false_iff_ne] at hb | rw [Bool.not_eq_true'] at hb | rw [Bool.not_eq_false'] at hb | rw [bne_iff_ne] at hb | rw [bne_eq_false_iff_eq] at hb | skip); (first | (exfalso; omega) | (exact absurd rfl hb) | skip))
    | (apply aopG_ok; exact rfl)
    | apply ops_nil
    | (apply awp_cond_t; exact rfl)
    | (apply awp_cond_f; exact rfl)
    | (apply cond_x; exact rfl)
    | apply awp_block
    | apply awp_skip
    | apply awp_exit
    | apply awp_ret'
    | (first | (apply ops_cons; exact rfl) | (apply ops_yes; exact rfl; exact rfl; exact rfl))
    | (apply ops_x; exact rfl; exact rfl; (fail_if_success exact (rfl : _ = AV.d (.b true))); (fail_if_success exact (rfl : _ = AV.d (.b false))); exact rfl)
    | (apply op_id; first | (apply qok_q; exact rfl))
    | (apply q_id; first | refine zk28 ns_ok rfl rfl rfl rfl rfl rfl rfl rfl ?_)
    )
  all_goals
    refine Stop.mk ?_
    refine ret_intro [] rfl rfl ?_ ?_
    repeat' (first
      | apply And.intro
      | (apply eq_b; exact rfl; exact Stop.mk (by with_reducible rfl))
      | (apply eq_b; exact rfl)
      | (apply eq_n; exact rfl; exact Stop.mk (by first | with_reducible rfl | omega))
      | (apply eq_n; exact rfl)
      | (apply eq_s; exact rfl; exact Stop.mk (by with_reducible rfl))
      | (apply eq_s; exact rfl)
      | (apply eq_sl; exact rfl; exact Stop.mk (by with_reducible rfl))
      | (apply eq_sl; exact rfl)
      | (apply eq_row; exact rfl; exact Stop.mk (by with_reducible rfl))
      | (apply eq_row; exact rfl)
      | (apply eq_agg; exact rfl)
      | (apply eq_cons; exact rfl)
      | (apply eq_boxo; exact rfl)
      | (apply cell_agg; exact rfl; exact rfl; exact rfl)
      | (apply cell_one; exact rfl; exact rfl)
      | exact rfl
      | trivial
      )
    refine Stop.mk ?_
    first
      | done
      | (rw [Bool.eq_iff_iff]; simp [dueFirst] at *; omega)
      | (rw [Bool.eq_iff_iff]; simp [dueFirst] at *; done)
      | (rw [Bool.eq_iff_iff]; simp [dueFirst] at *; simp [*]; done)
      | (rw [Bool.eq_iff_iff]; simp [dueFirst] at *; simp [*]; omega)
      | (rw [Bool.eq_iff_iff]; simp [dueFirst] at *; simp [*]; intros; omega)
set_option maxRecDepth 100000 in
theorem dueOk_e {d : Due} : ACalls Try.prog 91 [dueA d] [.d (.b (dueOkB d))] [] := by
  refine acalls_of tt Try.func91 rfl rfl rfl (fun w0 Z => ?_)
  repeat' (first
    | apply awp_seq
    | (apply awp_regionN; exact rfl)
    | (refine Hb.mk (fun hb => ?_); (first | rw [inB_t] at hb | rw [inB_f] at hb | rw [inB_nt] at hb | rw [inB_nf] at hb | rw [decide_eq_true_eq] at hb | rw [decide_eq_false_iff_not] at hb | rw [beq_iff_eq] at hb | rw [beq_eq_false_iff_ne] at hb | rw [Bool.not_eq_true'] at hb | rw [Bool.not_eq_false'] at hb | rw [bne_iff_ne] at hb | rw [bne_eq_false_iff_eq] at hb | skip); (first | (exfalso; omega) | (exact absurd rfl hb) | skip))
    | (apply aopG_ok; exact rfl)
    | apply ops_nil
    | (apply awp_cond_t; exact rfl)
    | (apply awp_cond_f; exact rfl)
    | (apply cond_x; exact rfl)
    | apply awp_block
    | apply awp_skip
    | apply awp_exit
    | apply awp_ret'
    | (first | (apply ops_cons; exact rfl) | (apply ops_yes; exact rfl; exact rfl; exact rfl))
    | (apply ops_x; exact rfl; exact rfl; (fail_if_success exact (rfl : _ = AV.d (.b true))); (fail_if_success exact (rfl : _ = AV.d (.b false))); exact rfl)
    | (apply op_id; first | refine st_call (isTime_c2) rfl rfl rfl rfl rfl ?_ | refine st_call (within_c) rfl rfl rfl rfl rfl ?_)
    )
  all_goals
    refine Stop.mk ?_
    refine ret_intro [] rfl rfl ?_ ?_
    repeat' (first
      | apply And.intro
      | (apply eq_b; exact rfl; exact Stop.mk (by with_reducible rfl))
      | (apply eq_b; exact rfl)
      | (apply eq_n; exact rfl; exact Stop.mk (by first | with_reducible rfl | omega))
      | (apply eq_n; exact rfl)
      | (apply eq_s; exact rfl; exact Stop.mk (by with_reducible rfl))
      | (apply eq_s; exact rfl)
      | (apply eq_sl; exact rfl; exact Stop.mk (by with_reducible rfl))
      | (apply eq_sl; exact rfl)
      | (apply eq_row; exact rfl; exact Stop.mk (by with_reducible rfl))
      | (apply eq_row; exact rfl)
      | (apply eq_agg; exact rfl)
      | (apply eq_cons; exact rfl)
      | (apply eq_boxo; exact rfl)
      | (apply cell_agg; exact rfl; exact rfl; exact rfl)
      | (apply cell_one; exact rfl; exact rfl)
      | exact rfl
      | trivial
      )
    refine Stop.mk ?_
    first
      | done
      | (rw [Bool.eq_iff_iff]; simp [dueOkB, isTimeB, inB] at *; omega)
      | (rw [Bool.eq_iff_iff]; simp [dueOkB, isTimeB, inB] at *; done)
      | (rw [Bool.eq_iff_iff]; simp [dueOkB, isTimeB, inB] at *; simp [*]; done)
      | (rw [Bool.eq_iff_iff]; simp [dueOkB, isTimeB, inB] at *; simp [*]; omega)
      | (rw [Bool.eq_iff_iff]; simp [dueOkB, isTimeB, inB] at *; simp [*]; intros; omega)
set_option maxRecDepth 100000 in
theorem dueOk_s {d : Due} : ACalls Try.prog 90 [dueA d] [.d (.b (dueOkB d))] [] := by
  refine acalls_of tt Try.func90 rfl rfl rfl (fun w0 Z => ?_)
  repeat' (first
    | apply awp_seq
    | (apply awp_regionN; exact rfl)
    | (refine Hb.mk (fun hb => ?_); (first | rw [inB_t] at hb | rw [inB_f] at hb | rw [inB_nt] at hb | rw [inB_nf] at hb | rw [decide_eq_true_eq] at hb | rw [decide_eq_false_iff_not] at hb | rw [beq_iff_eq] at hb | rw [beq_eq_false_iff_ne] at hb | rw [Bool.not_eq_true'] at hb | rw [Bool.not_eq_false'] at hb | rw [bne_iff_ne] at hb | rw [bne_eq_false_iff_eq] at hb | skip); (first | (exfalso; omega) | (exact absurd rfl hb) | skip))
    | (apply aopG_ok; exact rfl)
    | apply ops_nil
    | (apply awp_cond_t; exact rfl)
    | (apply awp_cond_f; exact rfl)
    | (apply cond_x; exact rfl)
    | apply awp_block
    | apply awp_skip
    | apply awp_exit
    | apply awp_ret'
    | (first | (apply ops_cons; exact rfl) | (apply ops_yes; exact rfl; exact rfl; exact rfl))
    | (apply ops_x; exact rfl; exact rfl; (fail_if_success exact (rfl : _ = AV.d (.b true))); (fail_if_success exact (rfl : _ = AV.d (.b false))); exact rfl)
    | (apply op_id; first | refine st_call (time_s) rfl rfl rfl rfl rfl ?_)
    )
  all_goals
    refine Stop.mk ?_
    refine ret_intro [] rfl rfl ?_ ?_
    repeat' (first
      | apply And.intro
      | (apply eq_b; exact rfl; exact Stop.mk (by with_reducible rfl))
      | (apply eq_b; exact rfl)
      | (apply eq_n; exact rfl; exact Stop.mk (by first | with_reducible rfl | omega))
      | (apply eq_n; exact rfl)
      | (apply eq_s; exact rfl; exact Stop.mk (by with_reducible rfl))
      | (apply eq_s; exact rfl)
      | (apply eq_sl; exact rfl; exact Stop.mk (by with_reducible rfl))
      | (apply eq_sl; exact rfl)
      | (apply eq_row; exact rfl; exact Stop.mk (by with_reducible rfl))
      | (apply eq_row; exact rfl)
      | (apply eq_agg; exact rfl)
      | (apply eq_cons; exact rfl)
      | (apply eq_boxo; exact rfl)
      | (apply cell_agg; exact rfl; exact rfl; exact rfl)
      | (apply cell_one; exact rfl; exact rfl)
      | exact rfl
      | trivial
      )
    refine Stop.mk ?_
    first
      | done
      | (rw [Bool.eq_iff_iff]; simp [dueOkB, isTimeB] at *; omega)
      | (rw [Bool.eq_iff_iff]; simp [dueOkB, isTimeB] at *; done)
      | (rw [Bool.eq_iff_iff]; simp [dueOkB, isTimeB] at *; simp [*]; done)
      | (rw [Bool.eq_iff_iff]; simp [dueOkB, isTimeB] at *; simp [*]; omega)
      | (rw [Bool.eq_iff_iff]; simp [dueOkB, isTimeB] at *; simp [*]; intros; omega)
theorem heap_no {l : List Due} {i : Nat} (hi : i < l.length) (h : dueOkB (nth l i) = false ∨ 0 < i ∧ dueFirst (nth l i) (nth l ((i - 1) / 2)) = true) : heapOkB l = false := by
  have : heapTo l (i + 1) = false := by
    rw [heapTo_succ]
    rcases h with h | ⟨h1, h2⟩
    · rw [show dueOkB (l.getD i zdue) = false from h, Bool.false_and, Bool.and_false]
    · rw [show dueFirst (l.getD i zdue) (l.getD ((i - 1) / 2) zdue) = true from h2, decide_eq_true h1]
      simp
  rw [heapOkB, heapTo_false this hi]
  rfl
theorem heap_go {l : List Due} {i : Nat} (h : heapTo l i = true) (h1 : dueOkB (nth l i) = true) (h2 : i = 0 ∨ dueFirst (nth l i) (nth l ((i - 1) / 2)) = false) : heapTo l (i + 1) = true := by
  rw [heapTo_succ, h, show dueOkB (l.getD i zdue) = true from h1]
  rcases h2 with h2 | h2
  · subst h2; rfl
  · rw [show dueFirst (l.getD i zdue) (l.getD ((i - 1) / 2) zdue) = false from h2, Bool.and_false]
    rfl
theorem heap_all {l : List Due} (h : heapTo l l.length = true) : heapOkB l = decide (l.length ≤ 200) := by rw [heapOkB, h, Bool.true_and]
theorem heap_big {l : List Due} (h : 200 < l.length) : heapOkB l = false := by rw [heapOkB, decide_eq_false (by omega), Bool.and_false]
set_option maxRecDepth 100000 in
theorem heapOk_e {l : List Due} (h : l.length ≤ 1000000000) : ACalls Try.prog 33 [.d (.sl (dueE l))] [.d (.b (heapOkB l))] [] := by
  refine acalls_of tt Try.func33 rfl rfl rfl (fun w0 Z => ?_)
  repeat' (first
    | apply awp_seq
    | (apply awp_regionN; exact rfl)
    | (refine Hb.mk (fun hb => ?_); (first | rw [inB_t] at hb | rw [inB_f] at hb | rw [inB_nt] at hb | rw [inB_nf] at hb | rw [decide_eq_true_eq] at hb | rw [decide_eq_false_iff_not] at hb | rw [beq_iff_eq] at hb | rw [beq_eq_false_iff_ne] at hb | rw [Bool.not_eq_true'] at hb | rw [Bool.not_eq_false'] at hb | rw [bne_iff_ne] at hb | rw [bne_eq_false_iff_eq] at hb | skip); (first | (exfalso; omega) | (exact absurd rfl hb) | skip))
    | (apply aopG_ok; exact rfl)
    | apply ops_nil
    | (apply awp_drawq; exact rfl; kernel_rfl; kernel_rfl; exact rfl)
    | (apply awp_drawx; exact rfl; kernel_rfl; exact rfl)
    | (apply aopQ_ok; exact rfl)
    | apply qs_nil
    | (apply ch_nil; exact rfl)
    | (apply ch_cons; (· exact rfl); (· exact rfl); (· exact rfl); (· exact rfl); (· (intro w0 Z O; first | (apply aop_ok; exact rfl) | (apply QOk.ok; first | refine zk0 rfl rfl rfl rfl rfl ?_ | refine zk1 rfl rfl rfl rfl rfl ?_ | refine zk3 rfl rfl rfl rfl rfl ?_ | refine zk5 rfl rfl rfl rfl rfl ?_ | refine zk6 rfl rfl rfl rfl rfl ?_ | refine zk8 rfl rfl rfl rfl rfl ?_ | refine zk10 rfl rfl rfl rfl rfl ?_ | refine zk11 rfl rfl rfl rfl rfl ?_ | refine zk12 rfl rfl rfl rfl rfl (fun _ => ?_) | refine zk13 rfl rfl rfl rfl rfl rfl rfl ?_ | refine zk14 rfl rfl rfl rfl rfl rfl rfl ?_ | refine zk19 rfl rfl rfl rfl rfl ?_ | refine zk30 rfl rfl rfl rfl rfl rfl rfl ?_ | refine zk31 rfl rfl rfl rfl rfl rfl rfl rfl ?_) | refine zk38 rfl rfl rfl rfl rfl rfl rfl rfl rfl rfl ?_); exact ⟨rfl, rfl, rfl⟩); (· exact rfl); (· exact rfl); (· (repeat' (first | apply And.intro | exact Or.inl rfl | exact Or.inr ⟨rfl, rfl⟩ | exact trivial))); (· (repeat' (first | apply And.intro | exact trivial | exact rfl | exact flatE_map (fun _ => rfl) | apply flatE_app))); (· exact rfl); (· exact rfl); (· exact rfl); (· exact rfl))
    | (apply awp_cond_t; exact rfl)
    | (apply awp_cond_f; exact rfl)
    | (apply cond_x; exact rfl)
    | apply awp_block
    | apply awp_skip
    | apply awp_exit
    | apply awp_ret'
    | (first | (apply ops_cons; exact rfl) | (apply ops_yes; exact rfl; exact rfl; exact rfl))
    | (apply ops_x; exact rfl; exact rfl; (fail_if_success exact (rfl : _ = AV.d (.b true))); (fail_if_success exact (rfl : _ = AV.d (.b false))); exact rfl)
    | (first | (apply qs_cons; exact rfl) | (apply qs_yes; exact rfl; exact rfl; exact rfl))
    | (apply qs_x; exact rfl; exact rfl; (fail_if_success exact (rfl : _ = AV.d (.b true))); (fail_if_success exact (rfl : _ = AV.d (.b false))); exact rfl)
    | (apply op_id; first | refine zk38 rfl rfl rfl rfl rfl rfl rfl rfl rfl rfl ?_ | (apply qok_q; exact rfl))
    | (apply q_id; first | refine zk0 rfl rfl rfl rfl rfl ?_ | refine zk1 rfl rfl rfl rfl rfl ?_ | refine zk3 rfl rfl rfl rfl rfl ?_ | refine zk5 rfl rfl rfl rfl rfl ?_ | refine zk6 rfl rfl rfl rfl rfl ?_ | refine zk8 rfl rfl rfl rfl rfl ?_ | refine zk10 rfl rfl rfl rfl rfl ?_ | refine zk11 rfl rfl rfl rfl rfl ?_ | refine zk12 rfl rfl rfl rfl rfl (fun _ => ?_) | refine zk13 rfl rfl rfl rfl rfl rfl rfl ?_ | refine zk14 rfl rfl rfl rfl rfl rfl rfl ?_ | refine zk19 rfl rfl rfl rfl rfl ?_ | refine zk30 rfl rfl rfl rfl rfl rfl rfl ?_ | refine zk31 rfl rfl rfl rfl rfl rfl rfl rfl ?_)
    )
  refine awp_loop (fun (i : Nat) => ⟨33, [(0, .d (.sl (dueE l))), (5, .d (.sl (dueE l))), (6, .d (.n .i64 (l.length : Int))), (7, .d (.n .i64 i))], []⟩) (fun i => i ≤ l.length ∧ heapTo l i = true) (fun i => l.length - i) 0 (by exact ⟨Nat.zero_le _, rfl⟩) ?_ ?_
  · refine ⟨rfl, ?_, ?_, rfl⟩
    repeat' (first
      | apply And.intro
      | (apply eq_b; exact rfl; exact Stop.mk (by with_reducible rfl))
      | (apply eq_b; exact rfl)
      | (apply eq_n; exact rfl; exact Stop.mk (by first | with_reducible rfl | omega))
      | (apply eq_n; exact rfl)
      | (apply eq_s; exact rfl; exact Stop.mk (by with_reducible rfl))
      | (apply eq_s; exact rfl)
      | (apply eq_sl; exact rfl; exact Stop.mk (by with_reducible rfl))
      | (apply eq_sl; exact rfl)
      | (apply eq_row; exact rfl; exact Stop.mk (by with_reducible rfl))
      | (apply eq_row; exact rfl)
      | (apply eq_agg; exact rfl)
      | (apply eq_cons; exact rfl)
      | (apply eq_boxo; exact rfl)
      | (apply cell_agg; exact rfl; exact rfl; exact rfl)
      | (apply cell_one; exact rfl; exact rfl)
      | exact rfl
      | trivial
      )
    all_goals exact Stop.mk rfl
  · rintro i ⟨hi, hh⟩
    repeat' (first
      | apply awp_seq
      | (apply awp_regionN; exact rfl)
      | (refine Hb.mk (fun hb => ?_); (first | rw [inB_t] at hb | rw [inB_f] at hb | rw [inB_nt] at hb | rw [inB_nf] at hb | rw [decide_eq_true_eq] at hb | rw [decide_eq_false_iff_not] at hb | rw [beq_iff_eq] at hb | rw [beq_eq_false_iff_ne] at hb | rw [Bool.not_eq_true'] at hb | rw [Bool.not_eq_false'] at hb | rw [bne_iff_ne] at hb | rw [bne_eq_false_iff_eq] at hb | skip); (first | (exfalso; omega) | (exact absurd rfl hb) | skip))
      | (apply aopG_ok; exact rfl)
      | apply ops_nil
      | (apply awp_drawq; exact rfl; kernel_rfl; kernel_rfl; exact rfl)
      | (apply awp_drawx; exact rfl; kernel_rfl; exact rfl)
      | (apply aopQ_ok; exact rfl)
      | apply qs_nil
      | (apply ch_nil; exact rfl)
      | (apply ch_cons; (· exact rfl); (· exact rfl); (· exact rfl); (· exact rfl); (· (intro w0 Z O; first | (apply aop_ok; exact rfl) | (apply QOk.ok; first | refine zk0 rfl rfl rfl rfl rfl ?_ | refine zk1 rfl rfl rfl rfl rfl ?_ | refine zk3 rfl rfl rfl rfl rfl ?_ | refine zk5 rfl rfl rfl rfl rfl ?_ | refine zk6 rfl rfl rfl rfl rfl ?_ | refine zk8 rfl rfl rfl rfl rfl ?_ | refine zk10 rfl rfl rfl rfl rfl ?_ | refine zk11 rfl rfl rfl rfl rfl ?_ | refine zk12 rfl rfl rfl rfl rfl (fun _ => ?_) | refine zk13 rfl rfl rfl rfl rfl rfl rfl ?_ | refine zk14 rfl rfl rfl rfl rfl rfl rfl ?_ | refine zk19 rfl rfl rfl rfl rfl ?_ | refine zk30 rfl rfl rfl rfl rfl rfl rfl ?_ | refine zk31 rfl rfl rfl rfl rfl rfl rfl rfl ?_) | refine zk38 rfl rfl rfl rfl rfl rfl rfl rfl rfl rfl ?_ | refine st_call (dueOk_e) rfl rfl rfl rfl rfl ?_ | refine st_call (dueFirst_e) rfl rfl rfl rfl rfl ?_); exact ⟨rfl, rfl, rfl⟩); (· exact rfl); (· exact rfl); (· (repeat' (first | apply And.intro | exact Or.inl rfl | exact Or.inr ⟨rfl, rfl⟩ | exact trivial))); (· (repeat' (first | apply And.intro | exact trivial | exact rfl | exact flatE_map (fun _ => rfl) | apply flatE_app))); (· exact rfl); (· exact rfl); (· exact rfl); (· exact rfl))
      | (apply awp_cond_t; exact rfl)
      | (apply awp_cond_f; exact rfl)
      | (apply cond_x; exact rfl)
      | apply awp_block
      | apply awp_skip
      | apply awp_exit
      | apply awp_ret'
      | (first | (apply ops_cons; exact rfl) | (apply ops_yes; exact rfl; exact rfl; exact rfl))
      | (apply ops_x; exact rfl; exact rfl; (fail_if_success exact (rfl : _ = AV.d (.b true))); (fail_if_success exact (rfl : _ = AV.d (.b false))); exact rfl)
      | (first | (apply qs_cons; exact rfl) | (apply qs_yes; exact rfl; exact rfl; exact rfl))
      | (apply qs_x; exact rfl; exact rfl; (fail_if_success exact (rfl : _ = AV.d (.b true))); (fail_if_success exact (rfl : _ = AV.d (.b false))); exact rfl)
      | (apply q_id; first | refine st_callq (dueOk_e) rfl rfl rfl rfl rfl ?_ | refine st_callq (dueFirst_e) rfl rfl rfl rfl rfl ?_)
      | (apply op_id; first | refine zk38 rfl rfl rfl rfl rfl rfl rfl rfl rfl rfl ?_ | refine st_call (dueOk_e) rfl rfl rfl rfl rfl ?_ | refine st_call (dueFirst_e) rfl rfl rfl rfl rfl ?_ | (apply qok_q; exact rfl))
      | (apply q_id; first | refine zk0 rfl rfl rfl rfl rfl ?_ | refine zk1 rfl rfl rfl rfl rfl ?_ | refine zk3 rfl rfl rfl rfl rfl ?_ | refine zk5 rfl rfl rfl rfl rfl ?_ | refine zk6 rfl rfl rfl rfl rfl ?_ | refine zk8 rfl rfl rfl rfl rfl ?_ | refine zk10 rfl rfl rfl rfl rfl ?_ | refine zk11 rfl rfl rfl rfl rfl ?_ | refine zk12 rfl rfl rfl rfl rfl (fun _ => ?_) | refine zk13 rfl rfl rfl rfl rfl rfl rfl ?_ | refine zk14 rfl rfl rfl rfl rfl rfl rfl ?_ | refine zk19 rfl rfl rfl rfl rfl ?_ | refine zk30 rfl rfl rfl rfl rfl rfl rfl ?_ | refine zk31 rfl rfl rfl rfl rfl rfl rfl rfl ?_)
      )
    · rw [heap_no (l := l) (i := i) (by omega) (Or.inl (by assumption))]
      refine Stop.mk ?_
      refine ret_intro [] rfl rfl ?_ ?_
      repeat' (first
        | apply And.intro
        | (apply eq_b; exact rfl; exact Stop.mk (by with_reducible rfl))
        | (apply eq_b; exact rfl)
        | (apply eq_n; exact rfl; exact Stop.mk (by first | with_reducible rfl | omega))
        | (apply eq_n; exact rfl)
        | (apply eq_s; exact rfl; exact Stop.mk (by with_reducible rfl))
        | (apply eq_s; exact rfl)
        | (apply eq_sl; exact rfl; exact Stop.mk (by with_reducible rfl))
        | (apply eq_sl; exact rfl)
        | (apply eq_row; exact rfl; exact Stop.mk (by with_reducible rfl))
        | (apply eq_row; exact rfl)
        | (apply eq_agg; exact rfl)
        | (apply eq_cons; exact rfl)
        | (apply eq_boxo; exact rfl)
        | (apply cell_agg; exact rfl; exact rfl; exact rfl)
        | (apply cell_one; exact rfl; exact rfl)
        | exact rfl
        | trivial
        )
      all_goals exact Stop.mk rfl
    · rw [heap_no (l := l) (i := i) (by omega) (Or.inr ⟨by omega, by assumption⟩)]
      refine Stop.mk ?_
      refine ret_intro [] rfl rfl ?_ ?_
      repeat' (first
        | apply And.intro
        | (apply eq_b; exact rfl; exact Stop.mk (by with_reducible rfl))
        | (apply eq_b; exact rfl)
        | (apply eq_n; exact rfl; exact Stop.mk (by first | with_reducible rfl | omega))
        | (apply eq_n; exact rfl)
        | (apply eq_s; exact rfl; exact Stop.mk (by with_reducible rfl))
        | (apply eq_s; exact rfl)
        | (apply eq_sl; exact rfl; exact Stop.mk (by with_reducible rfl))
        | (apply eq_sl; exact rfl)
        | (apply eq_row; exact rfl; exact Stop.mk (by with_reducible rfl))
        | (apply eq_row; exact rfl)
        | (apply eq_agg; exact rfl)
        | (apply eq_cons; exact rfl)
        | (apply eq_boxo; exact rfl)
        | (apply cell_agg; exact rfl; exact rfl; exact rfl)
        | (apply cell_one; exact rfl; exact rfl)
        | exact rfl
        | trivial
        )
      all_goals exact Stop.mk rfl
    · refine ⟨i + 1, ⟨by omega, heap_go hh (by assumption) (Or.inr (by assumption))⟩, by omega, ?_⟩
      refine ⟨rfl, ?_, ?_, rfl⟩
      repeat' (first
        | apply And.intro
        | (apply eq_b; exact rfl; exact Stop.mk (by with_reducible rfl))
        | (apply eq_b; exact rfl)
        | (apply eq_n; exact rfl; exact Stop.mk (by first | with_reducible rfl | omega))
        | (apply eq_n; exact rfl)
        | (apply eq_s; exact rfl; exact Stop.mk (by with_reducible rfl))
        | (apply eq_s; exact rfl)
        | (apply eq_sl; exact rfl; exact Stop.mk (by with_reducible rfl))
        | (apply eq_sl; exact rfl)
        | (apply eq_row; exact rfl; exact Stop.mk (by with_reducible rfl))
        | (apply eq_row; exact rfl)
        | (apply eq_agg; exact rfl)
        | (apply eq_cons; exact rfl)
        | (apply eq_boxo; exact rfl)
        | (apply cell_agg; exact rfl; exact rfl; exact rfl)
        | (apply cell_one; exact rfl; exact rfl)
        | exact rfl
        | trivial
        )
      all_goals exact Stop.mk rfl
    · refine ⟨i + 1, ⟨by omega, heap_go hh (by assumption) (Or.inl (by omega))⟩, by omega, ?_⟩
      refine ⟨rfl, ?_, ?_, rfl⟩
      repeat' (first
        | apply And.intro
        | (apply eq_b; exact rfl; exact Stop.mk (by with_reducible rfl))
        | (apply eq_b; exact rfl)
        | (apply eq_n; exact rfl; exact Stop.mk (by first | with_reducible rfl | omega))
        | (apply eq_n; exact rfl)
        | (apply eq_s; exact rfl; exact Stop.mk (by with_reducible rfl))
        | (apply eq_s; exact rfl)
        | (apply eq_sl; exact rfl; exact Stop.mk (by with_reducible rfl))
        | (apply eq_sl; exact rfl)
        | (apply eq_row; exact rfl; exact Stop.mk (by with_reducible rfl))
        | (apply eq_row; exact rfl)
        | (apply eq_agg; exact rfl)
        | (apply eq_cons; exact rfl)
        | (apply eq_boxo; exact rfl)
        | (apply cell_agg; exact rfl; exact rfl; exact rfl)
        | (apply cell_one; exact rfl; exact rfl)
        | exact rfl
        | trivial
        )
      all_goals exact Stop.mk rfl
    · obtain rfl : i = l.length := by omega
      rw [heap_all hh]
      skip
      refine Stop.mk ?_
      refine ret_intro [] rfl rfl ?_ ?_
      repeat' (first
        | apply And.intro
        | (apply eq_b; exact rfl; exact Stop.mk (by with_reducible rfl))
        | (apply eq_b; exact rfl)
        | (apply eq_n; exact rfl; exact Stop.mk (by first | with_reducible rfl | omega))
        | (apply eq_n; exact rfl)
        | (apply eq_s; exact rfl; exact Stop.mk (by with_reducible rfl))
        | (apply eq_s; exact rfl)
        | (apply eq_sl; exact rfl; exact Stop.mk (by with_reducible rfl))
        | (apply eq_sl; exact rfl)
        | (apply eq_row; exact rfl; exact Stop.mk (by with_reducible rfl))
        | (apply eq_row; exact rfl)
        | (apply eq_agg; exact rfl)
        | (apply eq_cons; exact rfl)
        | (apply eq_boxo; exact rfl)
        | (apply cell_agg; exact rfl; exact rfl; exact rfl)
        | (apply cell_one; exact rfl; exact rfl)
        | exact rfl
        | trivial
        )
      all_goals exact Stop.mk (by exact decide_eq_decide.2 (by omega))
set_option maxRecDepth 100000 in
theorem heapOk_s {l : List Due} (h : l.length ≤ 1000000000) : ACalls Try.prog 31 [.d (.sl (dueE l))] [.d (.b (heapOkB l))] [] := by
  refine acalls_of tt Try.func31 rfl rfl rfl (fun w0 Z => ?_)
  repeat' (first
    | apply awp_seq
    | (apply awp_regionN; exact rfl)
    | (refine Hb.mk (fun hb => ?_); (first | rw [inB_t] at hb | rw [inB_f] at hb | rw [inB_nt] at hb | rw [inB_nf] at hb | rw [decide_eq_true_eq] at hb | rw [decide_eq_false_iff_not] at hb | rw [beq_iff_eq] at hb | rw [beq_eq_false_iff_ne] at hb | rw [Bool.not_eq_true'] at hb | rw [Bool.not_eq_false'] at hb | rw [bne_iff_ne] at hb | rw [bne_eq_false_iff_eq] at hb | skip); (first | (exfalso; omega) | (exact absurd rfl hb) | skip))
    | (apply aopG_ok; exact rfl)
    | apply ops_nil
    | (apply awp_drawq; exact rfl; kernel_rfl; kernel_rfl; exact rfl)
    | (apply awp_drawx; exact rfl; kernel_rfl; exact rfl)
    | (apply aopQ_ok; exact rfl)
    | apply qs_nil
    | (apply ch_nil; exact rfl)
    | (apply ch_cons; (· exact rfl); (· exact rfl); (· exact rfl); (· exact rfl); (· (intro w0 Z O; first | (apply aop_ok; exact rfl) | (apply QOk.ok; first | refine zk0 rfl rfl rfl rfl rfl ?_ | refine zk1 rfl rfl rfl rfl rfl ?_ | refine zk3 rfl rfl rfl rfl rfl ?_ | refine zk5 rfl rfl rfl rfl rfl ?_ | refine zk6 rfl rfl rfl rfl rfl ?_ | refine zk8 rfl rfl rfl rfl rfl ?_ | refine zk10 rfl rfl rfl rfl rfl ?_ | refine zk11 rfl rfl rfl rfl rfl ?_ | refine zk12 rfl rfl rfl rfl rfl (fun _ => ?_) | refine zk13 rfl rfl rfl rfl rfl rfl rfl ?_ | refine zk14 rfl rfl rfl rfl rfl rfl rfl ?_ | refine zk19 rfl rfl rfl rfl rfl ?_ | refine zk30 rfl rfl rfl rfl rfl rfl rfl ?_ | refine zk31 rfl rfl rfl rfl rfl rfl rfl rfl ?_) | refine zk38 rfl rfl rfl rfl rfl rfl rfl rfl rfl rfl ?_); exact ⟨rfl, rfl, rfl⟩); (· exact rfl); (· exact rfl); (· (repeat' (first | apply And.intro | exact Or.inl rfl | exact Or.inr ⟨rfl, rfl⟩ | exact trivial))); (· (repeat' (first | apply And.intro | exact trivial | exact rfl | exact flatE_map (fun _ => rfl) | apply flatE_app))); (· exact rfl); (· exact rfl); (· exact rfl); (· exact rfl))
    | (apply awp_cond_t; exact rfl)
    | (apply awp_cond_f; exact rfl)
    | (apply cond_x; exact rfl)
    | apply awp_block
    | apply awp_skip
    | apply awp_exit
    | apply awp_ret'
    | (first | (apply ops_cons; exact rfl) | (apply ops_yes; exact rfl; exact rfl; exact rfl))
    | (apply ops_x; exact rfl; exact rfl; (fail_if_success exact (rfl : _ = AV.d (.b true))); (fail_if_success exact (rfl : _ = AV.d (.b false))); exact rfl)
    | (first | (apply qs_cons; exact rfl) | (apply qs_yes; exact rfl; exact rfl; exact rfl))
    | (apply qs_x; exact rfl; exact rfl; (fail_if_success exact (rfl : _ = AV.d (.b true))); (fail_if_success exact (rfl : _ = AV.d (.b false))); exact rfl)
    | (apply op_id; first | refine zk38 rfl rfl rfl rfl rfl rfl rfl rfl rfl rfl ?_ | (apply qok_q; exact rfl))
    | (apply q_id; first | refine zk0 rfl rfl rfl rfl rfl ?_ | refine zk1 rfl rfl rfl rfl rfl ?_ | refine zk3 rfl rfl rfl rfl rfl ?_ | refine zk5 rfl rfl rfl rfl rfl ?_ | refine zk6 rfl rfl rfl rfl rfl ?_ | refine zk8 rfl rfl rfl rfl rfl ?_ | refine zk10 rfl rfl rfl rfl rfl ?_ | refine zk11 rfl rfl rfl rfl rfl ?_ | refine zk12 rfl rfl rfl rfl rfl (fun _ => ?_) | refine zk13 rfl rfl rfl rfl rfl rfl rfl ?_ | refine zk14 rfl rfl rfl rfl rfl rfl rfl ?_ | refine zk19 rfl rfl rfl rfl rfl ?_ | refine zk30 rfl rfl rfl rfl rfl rfl rfl ?_ | refine zk31 rfl rfl rfl rfl rfl rfl rfl rfl ?_)
    )
  · rw [heap_big (by omega)]
    refine Stop.mk ?_
    refine ret_intro [] rfl rfl ?_ ?_
    repeat' (first
      | apply And.intro
      | (apply eq_b; exact rfl; exact Stop.mk (by with_reducible rfl))
      | (apply eq_b; exact rfl)
      | (apply eq_n; exact rfl; exact Stop.mk (by first | with_reducible rfl | omega))
      | (apply eq_n; exact rfl)
      | (apply eq_s; exact rfl; exact Stop.mk (by with_reducible rfl))
      | (apply eq_s; exact rfl)
      | (apply eq_sl; exact rfl; exact Stop.mk (by with_reducible rfl))
      | (apply eq_sl; exact rfl)
      | (apply eq_row; exact rfl; exact Stop.mk (by with_reducible rfl))
      | (apply eq_row; exact rfl)
      | (apply eq_agg; exact rfl)
      | (apply eq_cons; exact rfl)
      | (apply eq_boxo; exact rfl)
      | (apply cell_agg; exact rfl; exact rfl; exact rfl)
      | (apply cell_one; exact rfl; exact rfl)
      | exact rfl
      | trivial
      )
    all_goals exact Stop.mk rfl
  refine awp_loop (fun (i : Nat) => ⟨33, [(0, .d (.sl (dueE l))), (8, .d (.sl (dueE l))), (9, .d (.n .i64 (l.length : Int))), (10, .d (.n .i64 i))], []⟩) (fun i => i ≤ l.length ∧ heapTo l i = true) (fun i => l.length - i) 0 (by exact ⟨Nat.zero_le _, rfl⟩) ?_ ?_
  · refine ⟨rfl, ?_, ?_, rfl⟩
    repeat' (first
      | apply And.intro
      | (apply eq_b; exact rfl; exact Stop.mk (by with_reducible rfl))
      | (apply eq_b; exact rfl)
      | (apply eq_n; exact rfl; exact Stop.mk (by first | with_reducible rfl | omega))
      | (apply eq_n; exact rfl)
      | (apply eq_s; exact rfl; exact Stop.mk (by with_reducible rfl))
      | (apply eq_s; exact rfl)
      | (apply eq_sl; exact rfl; exact Stop.mk (by with_reducible rfl))
      | (apply eq_sl; exact rfl)
      | (apply eq_row; exact rfl; exact Stop.mk (by with_reducible rfl))
      | (apply eq_row; exact rfl)
      | (apply eq_agg; exact rfl)
      | (apply eq_cons; exact rfl)
      | (apply eq_boxo; exact rfl)
      | (apply cell_agg; exact rfl; exact rfl; exact rfl)
      | (apply cell_one; exact rfl; exact rfl)
      | exact rfl
      | trivial
      )
    all_goals exact Stop.mk rfl
  · rintro i ⟨hi, hh⟩
    repeat' (first
      | apply awp_seq
      | (apply awp_regionN; exact rfl)
      | (refine Hb.mk (fun hb => ?_); (first | rw [inB_t] at hb | rw [inB_f] at hb | rw [inB_nt] at hb | rw [inB_nf] at hb | rw [decide_eq_true_eq] at hb | rw [decide_eq_false_iff_not] at hb | rw [beq_iff_eq] at hb | rw [beq_eq_false_iff_ne] at hb | rw [Bool.not_eq_true'] at hb | rw [Bool.not_eq_false'] at hb | rw [bne_iff_ne] at hb | rw [bne_eq_false_iff_eq] at hb | skip); (first | (exfalso; omega) | (exact absurd rfl hb) | skip))
      | (apply aopG_ok; exact rfl)
      | apply ops_nil
      | (apply awp_drawq; exact rfl; kernel_rfl; kernel_rfl; exact rfl)
      | (apply awp_drawx; exact rfl; kernel_rfl; exact rfl)
      | (apply aopQ_ok; exact rfl)
      | apply qs_nil
      | (apply ch_nil; exact rfl)
      | (apply ch_cons; (· exact rfl); (· exact rfl); (· exact rfl); (· exact rfl); (· (intro w0 Z O; first | (apply aop_ok; exact rfl) | (apply QOk.ok; first | refine zk0 rfl rfl rfl rfl rfl ?_ | refine zk1 rfl rfl rfl rfl rfl ?_ | refine zk3 rfl rfl rfl rfl rfl ?_ | refine zk5 rfl rfl rfl rfl rfl ?_ | refine zk6 rfl rfl rfl rfl rfl ?_ | refine zk8 rfl rfl rfl rfl rfl ?_ | refine zk10 rfl rfl rfl rfl rfl ?_ | refine zk11 rfl rfl rfl rfl rfl ?_ | refine zk12 rfl rfl rfl rfl rfl (fun _ => ?_) | refine zk13 rfl rfl rfl rfl rfl rfl rfl ?_ | refine zk14 rfl rfl rfl rfl rfl rfl rfl ?_ | refine zk19 rfl rfl rfl rfl rfl ?_ | refine zk30 rfl rfl rfl rfl rfl rfl rfl ?_ | refine zk31 rfl rfl rfl rfl rfl rfl rfl rfl ?_) | refine zk38 rfl rfl rfl rfl rfl rfl rfl rfl rfl rfl ?_ | refine st_call (dueOk_s) rfl rfl rfl rfl rfl ?_ | refine st_call (dueFirst_s) rfl rfl rfl rfl rfl ?_); exact ⟨rfl, rfl, rfl⟩); (· exact rfl); (· exact rfl); (· (repeat' (first | apply And.intro | exact Or.inl rfl | exact Or.inr ⟨rfl, rfl⟩ | exact trivial))); (· (repeat' (first | apply And.intro | exact trivial | exact rfl | exact flatE_map (fun _ => rfl) | apply flatE_app))); (· exact rfl); (· exact rfl); (· exact rfl); (· exact rfl))
      | (apply awp_cond_t; exact rfl)
      | (apply awp_cond_f; exact rfl)
      | (apply cond_x; exact rfl)
      | apply awp_block
      | apply awp_skip
      | apply awp_exit
      | apply awp_ret'
      | (first | (apply ops_cons; exact rfl) | (apply ops_yes; exact rfl; exact rfl; exact rfl))
      | (apply ops_x; exact rfl; exact rfl; (fail_if_success exact (rfl : _ = AV.d (.b true))); (fail_if_success exact (rfl : _ = AV.d (.b false))); exact rfl)
      | (first | (apply qs_cons; exact rfl) | (apply qs_yes; exact rfl; exact rfl; exact rfl))
      | (apply qs_x; exact rfl; exact rfl; (fail_if_success exact (rfl : _ = AV.d (.b true))); (fail_if_success exact (rfl : _ = AV.d (.b false))); exact rfl)
      | (apply q_id; first | refine st_callq (dueOk_s) rfl rfl rfl rfl rfl ?_ | refine st_callq (dueFirst_s) rfl rfl rfl rfl rfl ?_)
      | (apply op_id; first | refine zk38 rfl rfl rfl rfl rfl rfl rfl rfl rfl rfl ?_ | refine st_call (dueOk_s) rfl rfl rfl rfl rfl ?_ | refine st_call (dueFirst_s) rfl rfl rfl rfl rfl ?_ | (apply qok_q; exact rfl))
      | (apply q_id; first | refine zk0 rfl rfl rfl rfl rfl ?_ | refine zk1 rfl rfl rfl rfl rfl ?_ | refine zk3 rfl rfl rfl rfl rfl ?_ | refine zk5 rfl rfl rfl rfl rfl ?_ | refine zk6 rfl rfl rfl rfl rfl ?_ | refine zk8 rfl rfl rfl rfl rfl ?_ | refine zk10 rfl rfl rfl rfl rfl ?_ | refine zk11 rfl rfl rfl rfl rfl ?_ | refine zk12 rfl rfl rfl rfl rfl (fun _ => ?_) | refine zk13 rfl rfl rfl rfl rfl rfl rfl ?_ | refine zk14 rfl rfl rfl rfl rfl rfl rfl ?_ | refine zk19 rfl rfl rfl rfl rfl ?_ | refine zk30 rfl rfl rfl rfl rfl rfl rfl ?_ | refine zk31 rfl rfl rfl rfl rfl rfl rfl rfl ?_)
      )
    · rw [heap_no (l := l) (i := i) (by omega) (Or.inl (by assumption))]
      refine Stop.mk ?_
      refine ret_intro [] rfl rfl ?_ ?_
      repeat' (first
        | apply And.intro
        | (apply eq_b; exact rfl; exact Stop.mk (by with_reducible rfl))
        | (apply eq_b; exact rfl)
        | (apply eq_n; exact rfl; exact Stop.mk (by first | with_reducible rfl | omega))
        | (apply eq_n; exact rfl)
        | (apply eq_s; exact rfl; exact Stop.mk (by with_reducible rfl))
        | (apply eq_s; exact rfl)
        | (apply eq_sl; exact rfl; exact Stop.mk (by with_reducible rfl))
        | (apply eq_sl; exact rfl)
        | (apply eq_row; exact rfl; exact Stop.mk (by with_reducible rfl))
        | (apply eq_row; exact rfl)
        | (apply eq_agg; exact rfl)
        | (apply eq_cons; exact rfl)
        | (apply eq_boxo; exact rfl)
        | (apply cell_agg; exact rfl; exact rfl; exact rfl)
        | (apply cell_one; exact rfl; exact rfl)
        | exact rfl
        | trivial
        )
      all_goals exact Stop.mk rfl
    · rw [heap_no (l := l) (i := i) (by omega) (Or.inr ⟨by omega, by assumption⟩)]
      refine Stop.mk ?_
      refine ret_intro [] rfl rfl ?_ ?_
      repeat' (first
        | apply And.intro
        | (apply eq_b; exact rfl; exact Stop.mk (by with_reducible rfl))
        | (apply eq_b; exact rfl)
        | (apply eq_n; exact rfl; exact Stop.mk (by first | with_reducible rfl | omega))
        | (apply eq_n; exact rfl)
        | (apply eq_s; exact rfl; exact Stop.mk (by with_reducible rfl))
        | (apply eq_s; exact rfl)
        | (apply eq_sl; exact rfl; exact Stop.mk (by with_reducible rfl))
        | (apply eq_sl; exact rfl)
        | (apply eq_row; exact rfl; exact Stop.mk (by with_reducible rfl))
        | (apply eq_row; exact rfl)
        | (apply eq_agg; exact rfl)
        | (apply eq_cons; exact rfl)
        | (apply eq_boxo; exact rfl)
        | (apply cell_agg; exact rfl; exact rfl; exact rfl)
        | (apply cell_one; exact rfl; exact rfl)
        | exact rfl
        | trivial
        )
      all_goals exact Stop.mk rfl
    · refine ⟨i + 1, ⟨by omega, heap_go hh (by assumption) (Or.inr (by assumption))⟩, by omega, ?_⟩
      refine ⟨rfl, ?_, ?_, rfl⟩
      repeat' (first
        | apply And.intro
        | (apply eq_b; exact rfl; exact Stop.mk (by with_reducible rfl))
        | (apply eq_b; exact rfl)
        | (apply eq_n; exact rfl; exact Stop.mk (by first | with_reducible rfl | omega))
        | (apply eq_n; exact rfl)
        | (apply eq_s; exact rfl; exact Stop.mk (by with_reducible rfl))
        | (apply eq_s; exact rfl)
        | (apply eq_sl; exact rfl; exact Stop.mk (by with_reducible rfl))
        | (apply eq_sl; exact rfl)
        | (apply eq_row; exact rfl; exact Stop.mk (by with_reducible rfl))
        | (apply eq_row; exact rfl)
        | (apply eq_agg; exact rfl)
        | (apply eq_cons; exact rfl)
        | (apply eq_boxo; exact rfl)
        | (apply cell_agg; exact rfl; exact rfl; exact rfl)
        | (apply cell_one; exact rfl; exact rfl)
        | exact rfl
        | trivial
        )
      all_goals exact Stop.mk rfl
    · refine ⟨i + 1, ⟨by omega, heap_go hh (by assumption) (Or.inl (by omega))⟩, by omega, ?_⟩
      refine ⟨rfl, ?_, ?_, rfl⟩
      repeat' (first
        | apply And.intro
        | (apply eq_b; exact rfl; exact Stop.mk (by with_reducible rfl))
        | (apply eq_b; exact rfl)
        | (apply eq_n; exact rfl; exact Stop.mk (by first | with_reducible rfl | omega))
        | (apply eq_n; exact rfl)
        | (apply eq_s; exact rfl; exact Stop.mk (by with_reducible rfl))
        | (apply eq_s; exact rfl)
        | (apply eq_sl; exact rfl; exact Stop.mk (by with_reducible rfl))
        | (apply eq_sl; exact rfl)
        | (apply eq_row; exact rfl; exact Stop.mk (by with_reducible rfl))
        | (apply eq_row; exact rfl)
        | (apply eq_agg; exact rfl)
        | (apply eq_cons; exact rfl)
        | (apply eq_boxo; exact rfl)
        | (apply cell_agg; exact rfl; exact rfl; exact rfl)
        | (apply cell_one; exact rfl; exact rfl)
        | exact rfl
        | trivial
        )
      all_goals exact Stop.mk rfl
    · obtain rfl : i = l.length := by omega
      rw [heap_all hh]
      skip
      refine Stop.mk ?_
      refine ret_intro [] rfl rfl ?_ ?_
      repeat' (first
        | apply And.intro
        | (apply eq_b; exact rfl; exact Stop.mk (by with_reducible rfl))
        | (apply eq_b; exact rfl)
        | (apply eq_n; exact rfl; exact Stop.mk (by first | with_reducible rfl | omega))
        | (apply eq_n; exact rfl)
        | (apply eq_s; exact rfl; exact Stop.mk (by with_reducible rfl))
        | (apply eq_s; exact rfl)
        | (apply eq_sl; exact rfl; exact Stop.mk (by with_reducible rfl))
        | (apply eq_sl; exact rfl)
        | (apply eq_row; exact rfl; exact Stop.mk (by with_reducible rfl))
        | (apply eq_row; exact rfl)
        | (apply eq_agg; exact rfl)
        | (apply eq_cons; exact rfl)
        | (apply eq_boxo; exact rfl)
        | (apply cell_agg; exact rfl; exact rfl; exact rfl)
        | (apply cell_one; exact rfl; exact rfl)
        | exact rfl
        | trivial
        )
      all_goals exact Stop.mk (by exact (decide_eq_true (by omega : l.length ≤ 200)).symm)
end Go.Proofs.Ythmajaeekkbnnaa
