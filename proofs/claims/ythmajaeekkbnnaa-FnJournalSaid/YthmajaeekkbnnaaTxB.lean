/-
  Records: RecordOk, both, and its law.
-/
import Derived.Test.YthmajaeekkbnnaaSh
import Derived.Test.YthmajaeekkbnnaaTxA
import Derived.Test.YthmajaeekkbnnaaFacts
namespace Go.Proofs.Ythmajaeekkbnnaa
open Go Go.RowKit
attribute [local irreducible] AWp OpsOk OpOk ACalls

set_option maxRecDepth 100000 in
theorem within_e {x lo hi : Int} : ACalls Try.prog 88 [.d (.n .i64 x), .d (.n .i64 lo), .d (.n .i64 hi)] [.d (.b (inB x lo hi))] [] := by
  refine acalls_of tt Try.func88 rfl rfl rfl (fun w0 Z => ?_)
  repeat' (first
    | apply awp_seq
    | (apply awp_regionN; exact rfl)
    | (refine Hb.mk (fun hb => ?_); (first | rw [inB_t] at hb | rw [inB_f] at hb | rw [inB_nt] at hb | rw [inB_nf] at hb | rw [decide_eq_true_eq] at hb | rw [decide_eq_false_iff_not] at hb | rw [beq_iff_eq] at hb | rw [beq_eq_false_iff_ne] at hb | rw [Bool.not_eq_true'] at hb | rw [Bool.not_eq_false'] at hb | rw [bne_iff_ne] at hb | rw [bne_eq_false_iff_eq] at hb | skip); (first | (exfalso; omega) | (exact absurd rfl hb) | skip))
    | (apply aopG_ok; exact rfl)
    | apply ops_nil
    | (apply awp_cond_t; exact rfl)
    | (apply awp_cond_f; exact rfl)
    | (apply cond_x; exact rfl)
    | apply awp_block
    | apply awp_skip
    | apply awp_exit
    | apply awp_ret'
    | (apply ops_x; exact rfl; exact rfl; (fail_if_success exact (rfl : _ = AV.d (.b true))); (fail_if_success exact (rfl : _ = AV.d (.b false))); exact rfl)
    )
  all_goals
    refine Stop.mk ?_
    refine ret_intro [] rfl rfl ?_ ?_
    repeat' (first
      | apply And.intro
      | (apply eq_b; exact rfl; exact Stop.mk (by with_reducible rfl))
      | (apply eq_b; exact rfl)
      | (apply eq_n; exact rfl; exact Stop.mk (by first | with_reducible rfl | omega))
      | (apply eq_n; exact rfl)
      | (apply eq_s; exact rfl; exact Stop.mk (by with_reducible rfl))
      | (apply eq_s; exact rfl)
      | (apply eq_sl; exact rfl; exact Stop.mk (by with_reducible rfl))
      | (apply eq_sl; exact rfl)
      | (apply eq_row; exact rfl; exact Stop.mk (by with_reducible rfl))
      | (apply eq_row; exact rfl)
      | (apply eq_agg; exact rfl)
      | (apply eq_cons; exact rfl)
      | (apply eq_boxo; exact rfl)
      | (apply cell_agg; exact rfl; exact rfl; exact rfl)
      | (apply cell_one; exact rfl; exact rfl)
      | exact rfl
      | trivial
      )
    refine Stop.mk ?_
    simp [inB, *]
def recOkB (s : List UInt8) : Bool := decide (1 ≤ s.length) && decide (s.length ≤ 200) && s.all fun b => b.toNat != 10
theorem recOk_no {s : List UInt8} {i : Nat} (hi : i < s.length) (h : ((s.getD i 0).toNat : Int) = 10) : recOkB s = false := by
  unfold recOkB
  have : (s.all fun b => b.toNat != 10) = false := by
    rw [List.all_eq_false]
    refine ⟨s[i], List.getElem_mem hi, ?_⟩
    rw [List.getD_eq_getElem?_getD, List.getElem?_eq_getElem hi] at h
    simp only [Option.getD_some] at h
    simp; omega
  rw [this, Bool.and_false]
theorem recOk_all {s : List UInt8} (h : ∀ j, j < s.length → ((s.getD j 0).toNat : Int) ≠ 10) : (s.all fun b => b.toNat != 10) = true := by
  rw [List.all_eq_true]
  intro b hb
  obtain ⟨j, hj, rfl⟩ := List.getElem_of_mem hb
  have := h j hj
  rw [List.getD_eq_getElem?_getD, List.getElem?_eq_getElem hj] at this
  simp only [Option.getD_some] at this
  simp; omega
theorem pst_none {s : List UInt8} {q : Int} : ∀ (i : Nat), (pst s q i).1 = [] ↔ ∀ j, j < i → ((s.getD j 0).toNat : Int) ≠ q
  | 0 => ⟨fun _ j hj => absurd hj (by omega), fun _ => rfl⟩
  | i + 1 => by
    by_cases h : ((s.getD i 0).toNat : Int) = q
    · rw [pst_yes h]
      exact ⟨fun e => by simp at e, fun hh => absurd h (hh i (by omega))⟩
    · rw [pst_no h, pst_none i]
      refine ⟨fun hh j hj => ?_, fun hh j hj => hh j (by omega)⟩
      rcases Nat.lt_succ_iff_lt_or_eq.1 hj with h1 | rfl
      · exact hh j h1
      · exact h
theorem parts_one (s : List UInt8) : ((parts s 10).length = 1) ↔ (s.all fun b => b.toNat != 10) = true := by
  unfold parts
  rw [List.length_append, List.length_singleton]
  have h1 : (pst s 10 s.length).1.length + 1 = 1 ↔ (pst s 10 s.length).1 = [] := by
    rw [← List.length_eq_zero_iff]; omega
  rw [h1, pst_none]
  refine ⟨fun h => recOk_all h, fun h j hj e => ?_⟩
  have := recOk_no hj e
  rw [List.all_eq_true] at h
  have h2 := h s[j] (List.getElem_mem hj)
  rw [List.getD_eq_getElem?_getD, List.getElem?_eq_getElem hj] at e
  simp only [Option.getD_some] at e
  simp at h2; omega
set_option maxRecDepth 100000 in
theorem recordOk_e {s : List UInt8} (h : s.length ≤ 1000000000) : ACalls Try.prog 29 [.d (.s s)] [.d (.b (recOkB s))] [] := by
  refine acalls_of tt Try.func29 rfl rfl rfl (fun w0 Z => ?_)
  repeat' (first
    | apply awp_seq
    | (apply awp_regionN; exact rfl)
    | (refine Hb.mk (fun hb => ?_); (first | rw [inB_t] at hb | rw [inB_f] at hb | rw [inB_nt] at hb | rw [inB_nf] at hb | rw [decide_eq_true_eq] at hb | rw [decide_eq_false_iff_not] at hb | rw [beq_iff_eq] at hb | rw [beq_eq_false_iff_ne] at hb | rw [Bool.not_eq_true'] at hb | rw [Bool.not_eq_false'] at hb | rw [bne_iff_ne] at hb | rw [bne_eq_false_iff_eq] at hb | skip); (first | (exfalso; omega) | (exact absurd rfl hb) | skip))
    | (apply aopG_ok; exact rfl)
    | apply ops_nil
    | (apply awp_cond_t; exact rfl)
    | (apply awp_cond_f; exact rfl)
    | (apply cond_x; exact rfl)
    | apply awp_block
    | apply awp_skip
    | apply awp_exit
    | apply awp_ret'
    | (first | (apply ops_cons; exact rfl) | (apply ops_yes; exact rfl; exact rfl; exact rfl))
    | (apply ops_x; exact rfl; exact rfl; (fail_if_success exact (rfl : _ = AV.d (.b true))); (fail_if_success exact (rfl : _ = AV.d (.b false))); exact rfl)
    | (apply op_id; first | refine st_call (within_e) rfl rfl rfl rfl rfl ?_ | refine st_call (parts_e (by omega)) rfl rfl rfl rfl rfl ?_ | (apply qok_q; exact rfl))
    | (apply q_id; first | refine zk11 rfl rfl rfl rfl rfl ?_ | refine zk12 rfl rfl rfl rfl rfl (fun _ => ?_) | refine zk28 ns_ok rfl rfl rfl rfl rfl rfl rfl rfl ?_)
    )
  · refine Stop.mk ?_
    refine ret_intro [] rfl rfl ?_ ?_
    repeat' (first
      | apply And.intro
      | (apply eq_b; exact rfl; exact Stop.mk (by with_reducible rfl))
      | (apply eq_b; exact rfl)
      | (apply eq_n; exact rfl; exact Stop.mk (by first | with_reducible rfl | omega))
      | (apply eq_n; exact rfl)
      | (apply eq_s; exact rfl; exact Stop.mk (by with_reducible rfl))
      | (apply eq_s; exact rfl)
      | (apply eq_sl; exact rfl; exact Stop.mk (by with_reducible rfl))
      | (apply eq_sl; exact rfl)
      | (apply eq_row; exact rfl; exact Stop.mk (by with_reducible rfl))
      | (apply eq_row; exact rfl)
      | (apply eq_agg; exact rfl)
      | (apply eq_cons; exact rfl)
      | (apply eq_boxo; exact rfl)
      | (apply cell_agg; exact rfl; exact rfl; exact rfl)
      | (apply cell_one; exact rfl; exact rfl)
      | exact rfl
      | trivial
      )
    refine Stop.mk ?_
    have h1 := parts_one s
    have e1 : decide (1 ≤ s.length) = true := decide_eq_true (by omega)
    have e2 : decide (s.length ≤ 200) = true := decide_eq_true (by omega)
    rw [recOkB, e1, e2, Bool.true_and, Bool.true_and, Bool.eq_iff_iff, ← h1, beq_iff_eq]
    omega
  · refine Stop.mk ?_
    refine ret_intro [] rfl rfl ?_ ?_
    repeat' (first
      | apply And.intro
      | (apply eq_b; exact rfl; exact Stop.mk (by with_reducible rfl))
      | (apply eq_b; exact rfl)
      | (apply eq_n; exact rfl; exact Stop.mk (by first | with_reducible rfl | omega))
      | (apply eq_n; exact rfl)
      | (apply eq_s; exact rfl; exact Stop.mk (by with_reducible rfl))
      | (apply eq_s; exact rfl)
      | (apply eq_sl; exact rfl; exact Stop.mk (by with_reducible rfl))
      | (apply eq_sl; exact rfl)
      | (apply eq_row; exact rfl; exact Stop.mk (by with_reducible rfl))
      | (apply eq_row; exact rfl)
      | (apply eq_agg; exact rfl)
      | (apply eq_cons; exact rfl)
      | (apply eq_boxo; exact rfl)
      | (apply cell_agg; exact rfl; exact rfl; exact rfl)
      | (apply cell_one; exact rfl; exact rfl)
      | exact rfl
      | trivial
      )
    refine Stop.mk ?_
    have e1 : (decide (1 ≤ s.length) && decide (s.length ≤ 200)) = false := by
      rw [Bool.and_eq_false_iff, decide_eq_false_iff_not, decide_eq_false_iff_not]
      omega
    rw [recOkB, e1, Bool.false_and]
set_option maxRecDepth 100000 in
theorem recordOk_s {s : List UInt8} (h : s.length ≤ 1000000000) : ACalls Try.prog 28 [.d (.s s)] [.d (.b (recOkB s))] [] := by
  refine acalls_of tt Try.func28 rfl rfl rfl (fun w0 Z => ?_)
  repeat' (first
    | apply awp_seq
    | (apply awp_regionN; exact rfl)
    | (refine Hb.mk (fun hb => ?_); (first | rw [inB_t] at hb | rw [inB_f] at hb | rw [inB_nt] at hb | rw [inB_nf] at hb | rw [decide_eq_true_eq] at hb | rw [decide_eq_false_iff_not] at hb | rw [beq_iff_eq] at hb | rw [beq_eq_false_iff_ne] at hb | rw [Bool.not_eq_true'] at hb | rw [Bool.not_eq_false'] at hb | rw [bne_iff_ne] at hb | rw [bne_eq_false_iff_eq] at hb | skip); (first | (exfalso; omega) | (exact absurd rfl hb) | skip))
    | (apply aopG_ok; exact rfl)
    | apply ops_nil
    | (apply awp_cond_t; exact rfl)
    | (apply awp_cond_f; exact rfl)
    | (apply cond_x; exact rfl)
    | apply awp_block
    | apply awp_skip
    | apply awp_exit
    | apply awp_ret'
    | (first | (apply ops_cons; exact rfl) | (apply ops_yes; exact rfl; exact rfl; exact rfl))
    | (apply ops_x; exact rfl; exact rfl; (fail_if_success exact (rfl : _ = AV.d (.b true))); (fail_if_success exact (rfl : _ = AV.d (.b false))); exact rfl)
    | (apply op_id; first | (apply qok_q; exact rfl))
    | (apply q_id; first | refine zk0 rfl rfl rfl rfl rfl ?_ | refine zk5 rfl rfl rfl rfl rfl ?_ | refine zk11 rfl rfl rfl rfl rfl ?_ | refine zk12 rfl rfl rfl rfl rfl (fun _ => ?_) | refine zk18 rfl rfl rfl rfl rfl rfl ?_ | refine zk19 rfl rfl rfl rfl rfl ?_ | refine zk28 ns_ok rfl rfl rfl rfl rfl rfl rfl rfl ?_)
    )
  refine awp_loop (fun (i : Nat) => ⟨22, [(0, .d (.s s)), (3, .d (.n .i64 i))], []⟩) (fun i => i ≤ s.length ∧ ∀ j, j < i → ((s.getD j 0).toNat : Int) ≠ 10) (fun i => s.length - i) 0 ⟨by omega, fun j hj => absurd hj (by omega)⟩ ?_ ?_
  · refine ⟨rfl, ?_, ?_, rfl⟩
    repeat' (first
      | apply And.intro
      | (apply eq_b; exact rfl; exact Stop.mk (by with_reducible rfl))
      | (apply eq_b; exact rfl)
      | (apply eq_n; exact rfl; exact Stop.mk (by first | with_reducible rfl | omega))
      | (apply eq_n; exact rfl)
      | (apply eq_s; exact rfl; exact Stop.mk (by with_reducible rfl))
      | (apply eq_s; exact rfl)
      | (apply eq_sl; exact rfl; exact Stop.mk (by with_reducible rfl))
      | (apply eq_sl; exact rfl)
      | (apply eq_row; exact rfl; exact Stop.mk (by with_reducible rfl))
      | (apply eq_row; exact rfl)
      | (apply eq_agg; exact rfl)
      | (apply eq_cons; exact rfl)
      | (apply eq_boxo; exact rfl)
      | (apply cell_agg; exact rfl; exact rfl; exact rfl)
      | (apply cell_one; exact rfl; exact rfl)
      | exact rfl
      | trivial
      )
  · intro i ⟨hi, hj⟩
    repeat' (first
      | apply awp_seq
      | (apply awp_regionN; exact rfl)
      | (refine Hb.mk (fun hb => ?_); (first | rw [inB_t] at hb | rw [inB_f] at hb | rw [inB_nt] at hb | rw [inB_nf] at hb | rw [decide_eq_true_eq] at hb | rw [decide_eq_false_iff_not] at hb | rw [beq_iff_eq] at hb | rw [beq_eq_false_iff_ne] at hb | rw [Bool.not_eq_true'] at hb | rw [Bool.not_eq_false'] at hb | rw [bne_iff_ne] at hb | rw [bne_eq_false_iff_eq] at hb | skip); (first | (exfalso; omega) | (exact absurd rfl hb) | skip))
      | (apply aopG_ok; exact rfl)
      | apply ops_nil
      | (apply awp_cond_t; exact rfl)
      | (apply awp_cond_f; exact rfl)
      | (apply cond_x; exact rfl)
      | apply awp_block
      | apply awp_skip
      | apply awp_exit
      | apply awp_ret'
      | (first | (apply ops_cons; exact rfl) | (apply ops_yes; exact rfl; exact rfl; exact rfl))
      | (apply ops_x; exact rfl; exact rfl; (fail_if_success exact (rfl : _ = AV.d (.b true))); (fail_if_success exact (rfl : _ = AV.d (.b false))); exact rfl)
      | (apply op_id; first | (apply qok_q; exact rfl))
      | (apply q_id; first | refine zk0 rfl rfl rfl rfl rfl ?_ | refine zk5 rfl rfl rfl rfl rfl ?_ | refine zk11 rfl rfl rfl rfl rfl ?_ | refine zk12 rfl rfl rfl rfl rfl (fun _ => ?_) | refine zk18 rfl rfl rfl rfl rfl rfl ?_ | refine zk19 rfl rfl rfl rfl rfl ?_ | refine zk28 ns_ok rfl rfl rfl rfl rfl rfl rfl rfl ?_)
      )
    · refine Stop.mk ?_
      refine ret_intro [] rfl rfl ?_ ?_
      repeat' (first
        | apply And.intro
        | (apply eq_b; exact rfl; exact Stop.mk (by with_reducible rfl))
        | (apply eq_b; exact rfl)
        | (apply eq_n; exact rfl; exact Stop.mk (by first | with_reducible rfl | omega))
        | (apply eq_n; exact rfl)
        | (apply eq_s; exact rfl; exact Stop.mk (by with_reducible rfl))
        | (apply eq_s; exact rfl)
        | (apply eq_sl; exact rfl; exact Stop.mk (by with_reducible rfl))
        | (apply eq_sl; exact rfl)
        | (apply eq_row; exact rfl; exact Stop.mk (by with_reducible rfl))
        | (apply eq_row; exact rfl)
        | (apply eq_agg; exact rfl)
        | (apply eq_cons; exact rfl)
        | (apply eq_boxo; exact rfl)
        | (apply cell_agg; exact rfl; exact rfl; exact rfl)
        | (apply cell_one; exact rfl; exact rfl)
        | exact rfl
        | trivial
        )
      exact Stop.mk (recOk_no (by omega) hb).symm
    · refine ⟨i + 1, ⟨by omega, fun j hj' => ?_⟩, by omega, ?_⟩
      · rcases Nat.lt_succ_iff_lt_or_eq.1 hj' with h1 | rfl
        · exact hj j h1
        · exact hb
      · refine ⟨rfl, ?_, ?_, rfl⟩
        repeat' (first
          | apply And.intro
          | (apply eq_b; exact rfl; exact Stop.mk (by with_reducible rfl))
          | (apply eq_b; exact rfl)
          | (apply eq_n; exact rfl; exact Stop.mk (by first | with_reducible rfl | omega))
          | (apply eq_n; exact rfl)
          | (apply eq_s; exact rfl; exact Stop.mk (by with_reducible rfl))
          | (apply eq_s; exact rfl)
          | (apply eq_sl; exact rfl; exact Stop.mk (by with_reducible rfl))
          | (apply eq_sl; exact rfl)
          | (apply eq_row; exact rfl; exact Stop.mk (by with_reducible rfl))
          | (apply eq_row; exact rfl)
          | (apply eq_agg; exact rfl)
          | (apply eq_cons; exact rfl)
          | (apply eq_boxo; exact rfl)
          | (apply cell_agg; exact rfl; exact rfl; exact rfl)
          | (apply cell_one; exact rfl; exact rfl)
          | exact rfl
          | trivial
          )
    · obtain rfl : i = s.length := by omega
      refine Stop.mk ?_
      refine ret_intro [] rfl rfl ?_ ?_
      repeat' (first
        | apply And.intro
        | (apply eq_b; exact rfl; exact Stop.mk (by with_reducible rfl))
        | (apply eq_b; exact rfl)
        | (apply eq_n; exact rfl; exact Stop.mk (by first | with_reducible rfl | omega))
        | (apply eq_n; exact rfl)
        | (apply eq_s; exact rfl; exact Stop.mk (by with_reducible rfl))
        | (apply eq_s; exact rfl)
        | (apply eq_sl; exact rfl; exact Stop.mk (by with_reducible rfl))
        | (apply eq_sl; exact rfl)
        | (apply eq_row; exact rfl; exact Stop.mk (by with_reducible rfl))
        | (apply eq_row; exact rfl)
        | (apply eq_agg; exact rfl)
        | (apply eq_cons; exact rfl)
        | (apply eq_boxo; exact rfl)
        | (apply cell_agg; exact rfl; exact rfl; exact rfl)
        | (apply cell_one; exact rfl; exact rfl)
        | exact rfl
        | trivial
        )
      refine Stop.mk ?_
      rw [recOkB, recOk_all hj, Bool.and_true]
      have e1 : decide (1 ≤ s.length) = true := decide_eq_true (by omega)
      rw [e1, Bool.true_and]
      exact decide_eq_decide.2 (by omega)
    · obtain rfl : i = s.length := by omega
      refine Stop.mk ?_
      refine ret_intro [] rfl rfl ?_ ?_
      repeat' (first
        | apply And.intro
        | (apply eq_b; exact rfl; exact Stop.mk (by with_reducible rfl))
        | (apply eq_b; exact rfl)
        | (apply eq_n; exact rfl; exact Stop.mk (by first | with_reducible rfl | omega))
        | (apply eq_n; exact rfl)
        | (apply eq_s; exact rfl; exact Stop.mk (by with_reducible rfl))
        | (apply eq_s; exact rfl)
        | (apply eq_sl; exact rfl; exact Stop.mk (by with_reducible rfl))
        | (apply eq_sl; exact rfl)
        | (apply eq_row; exact rfl; exact Stop.mk (by with_reducible rfl))
        | (apply eq_row; exact rfl)
        | (apply eq_agg; exact rfl)
        | (apply eq_cons; exact rfl)
        | (apply eq_boxo; exact rfl)
        | (apply cell_agg; exact rfl; exact rfl; exact rfl)
        | (apply cell_one; exact rfl; exact rfl)
        | exact rfl
        | trivial
        )
      refine Stop.mk ?_
      rw [recOkB]
      have e1 : decide (1 ≤ s.length) = false := decide_eq_false (by omega)
      rw [e1, Bool.false_and, Bool.false_and]
end Go.Proofs.Ythmajaeekkbnnaa
