/-
  Text as numbers: TextNum, both.
-/
import Derived.Test.YthmajaeekkbnnaaSh
import Derived.Test.YthmajaeekkbnnaaTxE
namespace Go.Proofs.Ythmajaeekkbnnaa
open Go Go.RowKit
attribute [local irreducible] AWp OpsOk OpOk ACalls ChA QsOk

def valI (s : List UInt8) : Nat → Int
  | 0 => 0
  | i + 1 => 10 * valI s i + (((s.getD i 0).toNat : Int) - 48)
def dig (s : List UInt8) (j : Nat) : Prop := 48 ≤ (s.getD j 0).toNat ∧ (s.getD j 0).toNat ≤ 57
instance (s : List UInt8) (j : Nat) : Decidable (dig s j) := by unfold dig; infer_instance
def textNum (s : List UInt8) : Int × Bool := if 1 ≤ s.length ∧ s.length ≤ 10 ∧ (∀ j, j < s.length → dig s j) ∧ numTx (valI s s.length) = s then (valI s s.length, true) else (0, false)
theorem valI_le {s : List UInt8} : ∀ (i : Nat), i ≤ 9 → (∀ j, j < i → dig s j) → 0 ≤ valI s i ∧ valI s i < 10 ^ i
  | 0, _, _ => by simp [valI]
  | i + 1, h, hd => by
    have h1 := valI_le i (by omega) (fun j hj => hd j (by omega))
    have h2 := hd i (by omega)
    unfold dig at h2
    have e : (10 : Int) ^ (i + 1) = 10 * 10 ^ i := by rw [Int.pow_succ]; omega
    rw [e]
    simp only [valI]
    omega
theorem valI_9 {s : List UInt8} {i : Nat} (h : i ≤ 9) (hd : ∀ j, j < i → dig s j) : 0 ≤ valI s i ∧ valI s i < 1000000000 := by
  have h1 := valI_le i h hd
  have h2 : (10 : Int) ^ i ≤ 10 ^ 9 := by
    have := Nat.pow_le_pow_right (n := 10) (by omega) h
    exact_mod_cast this
  omega
theorem textNum_no {s : List UInt8} (h : ¬ (1 ≤ s.length ∧ s.length ≤ 10 ∧ (∀ j, j < s.length → dig s j) ∧ numTx (valI s s.length) = s)) : textNum s = (0, false) := if_neg h
theorem textNum_yes {s : List UInt8} (h : 1 ≤ s.length ∧ s.length ≤ 10 ∧ (∀ j, j < s.length → dig s j) ∧ numTx (valI s s.length) = s) : textNum s = (valI s s.length, true) := if_pos h
set_option maxRecDepth 100000 in
theorem textNum_e {s : List UInt8} : ACalls Try.prog 125 [.d (.s s)] [.d (.n .i64 (textNum s).1), .d (.b (textNum s).2)] [] := by
  refine acalls_of tt Try.func125 rfl rfl rfl (fun w0 Z => ?_)
  by_cases hlen : 1 ≤ s.length ∧ s.length ≤ 10
  · repeat' (first
      | apply awp_seq
      | (apply awp_regionN; exact rfl)
      | (refine Hb.mk (fun hb => ?_); (first | rw [inB_t] at hb | rw [inB_f] at hb | rw [inB_nt] at hb | rw [inB_nf] at hb | rw [decide_eq_true_eq] at hb | rw [decide_eq_false_iff_not] at hb | rw [beq_iff_eq] at hb | rw [beq_eq_false_iff_ne] at hb | rw [Bool.not_eq_true'] at hb | rw [Bool.not_eq_false'] at hb | rw [bne_iff_ne] at hb | rw [bne_eq_false_iff_eq] at hb | skip); (first | (exfalso; omega) | (exact absurd rfl hb) | skip))
      | (apply aopG_ok; exact rfl)
      | apply ops_nil
      | (apply awp_cond_t; exact rfl)
      | (apply awp_cond_f; exact rfl)
      | (apply cond_x; exact rfl)
      | apply awp_block
      | apply awp_skip
      | apply awp_exit
      | apply awp_ret'
      | (first | (apply ops_cons; exact rfl) | (apply ops_yes; exact rfl; exact rfl; exact rfl))
      | (apply ops_x; exact rfl; exact rfl; (fail_if_success exact (rfl : _ = AV.d (.b true))); (fail_if_success exact (rfl : _ = AV.d (.b false))); exact rfl)
      | (apply op_id; first | refine zk37 rfl rfl rfl rfl rfl rfl rfl ?_ | refine st_call (within_c) rfl rfl rfl rfl rfl ?_ | (apply qok_q; exact rfl))
      | (apply q_id; first | refine zk0 rfl rfl rfl rfl rfl ?_ | refine zk1 rfl rfl rfl rfl rfl ?_ | refine zk2 rfl rfl rfl rfl rfl ?_ | refine zk5 rfl rfl rfl rfl rfl ?_ | refine zk6 rfl rfl rfl rfl rfl ?_ | refine zk7 rfl rfl rfl rfl rfl ?_ | refine zk10 rfl rfl rfl rfl rfl ?_ | refine zk11 rfl rfl rfl rfl rfl ?_ | refine zk12 rfl rfl rfl rfl rfl (fun _ => ?_) | refine zk17 rfl rfl rfl rfl rfl rfl rfl ?_ | refine zk18 rfl rfl rfl rfl rfl rfl ?_ | refine zk19 rfl rfl rfl rfl rfl ?_ | refine zk20 rfl rfl rfl rfl rfl rfl ?_ | refine zk21 rfl rfl rfl rfl rfl rfl ?_ | refine zk22 rfl rfl rfl rfl rfl rfl ?_ | refine zk29 ns_ok rfl rfl rfl rfl rfl rfl rfl rfl ?_)
      )
    refine awp_loop (fun (i : Nat) => ⟨39, [(0, .d (.s s)), (4, .d (.n .i64 (valI s i))), (5, .d (.n .i64 (i : Int)))], []⟩) (fun i => i ≤ s.length ∧ ∀ j, j < i → dig s j) (fun i => s.length - i) 0 ⟨by omega, fun j hj => absurd hj (by omega)⟩ ?_ ?_
    · refine ⟨rfl, ?_, ?_, rfl⟩
      repeat' (first
        | apply And.intro
        | (apply eq_b; exact rfl; exact Stop.mk (by with_reducible rfl))
        | (apply eq_b; exact rfl)
        | (apply eq_n; exact rfl; exact Stop.mk (by first | with_reducible rfl | omega))
        | (apply eq_n; exact rfl)
        | (apply eq_s; exact rfl; exact Stop.mk (by with_reducible rfl))
        | (apply eq_s; exact rfl)
        | (apply eq_sl; exact rfl; exact Stop.mk (by with_reducible rfl))
        | (apply eq_sl; exact rfl)
        | (apply eq_row; exact rfl; exact Stop.mk (by with_reducible rfl))
        | (apply eq_row; exact rfl)
        | (apply eq_agg; exact rfl)
        | (apply eq_cons; exact rfl)
        | (apply eq_boxo; exact rfl)
        | (apply cell_agg; exact rfl; exact rfl; exact rfl)
        | (apply cell_one; exact rfl; exact rfl)
        | exact rfl
        | trivial
        )
      all_goals exact Stop.mk rfl
    · intro i hi
      obtain ⟨hi, hd⟩ := hi
      have hb9 : i < s.length → 0 ≤ valI s i ∧ valI s i < 1000000000 := fun h => valI_9 (by omega) hd
      repeat' (first
        | apply awp_seq
        | (apply awp_regionN; exact rfl)
        | (refine Hb.mk (fun hb => ?_); (first | rw [inB_t] at hb | rw [inB_f] at hb | rw [inB_nt] at hb | rw [inB_nf] at hb | rw [decide_eq_true_eq] at hb | rw [decide_eq_false_iff_not] at hb | rw [beq_iff_eq] at hb | rw [beq_eq_false_iff_ne] at hb | rw [Bool.not_eq_true'] at hb | rw [Bool.not_eq_false'] at hb | rw [bne_iff_ne] at hb | rw [bne_eq_false_iff_eq] at hb | skip); (first | (exfalso; omega) | (exact absurd rfl hb) | skip))
        | (apply aopG_ok; exact rfl)
        | apply ops_nil
        | (apply awp_cond_t; exact rfl)
        | (apply awp_cond_f; exact rfl)
        | (apply cond_x; exact rfl)
        | apply awp_block
        | apply awp_skip
        | apply awp_exit
        | apply awp_ret'
        | (first | (apply ops_cons; exact rfl) | (apply ops_yes; exact rfl; exact rfl; exact rfl))
        | (apply ops_x; exact rfl; exact rfl; (fail_if_success exact (rfl : _ = AV.d (.b true))); (fail_if_success exact (rfl : _ = AV.d (.b false))); exact rfl)
        | (apply op_id; first | refine zk37 rfl rfl rfl rfl rfl rfl rfl ?_ | refine st_call (within_c) rfl rfl rfl rfl rfl ?_ | refine st_call (numText_e) rfl rfl rfl rfl rfl ?_ | (apply qok_q; exact rfl))
        | (apply q_id; first | refine zk0 rfl rfl rfl rfl rfl ?_ | refine zk1 rfl rfl rfl rfl rfl ?_ | refine zk2 rfl rfl rfl rfl rfl ?_ | refine zk5 rfl rfl rfl rfl rfl ?_ | refine zk6 rfl rfl rfl rfl rfl ?_ | refine zk7 rfl rfl rfl rfl rfl ?_ | refine zk10 rfl rfl rfl rfl rfl ?_ | refine zk11 rfl rfl rfl rfl rfl ?_ | refine zk12 rfl rfl rfl rfl rfl (fun _ => ?_) | refine zk17 rfl rfl rfl rfl rfl rfl rfl ?_ | refine zk18 rfl rfl rfl rfl rfl rfl ?_ | refine zk19 rfl rfl rfl rfl rfl ?_ | refine zk20 rfl rfl rfl rfl rfl rfl ?_ | refine zk21 rfl rfl rfl rfl rfl rfl ?_ | refine zk22 rfl rfl rfl rfl rfl rfl ?_ | refine zk29 ns_ok rfl rfl rfl rfl rfl rfl rfl rfl ?_)
        )
      · refine Stop.mk ?_
        refine ret_intro [] rfl rfl ?_ ?_
        repeat' (first
          | apply And.intro
          | (apply eq_b; exact rfl; exact Stop.mk (by with_reducible rfl))
          | (apply eq_b; exact rfl)
          | (apply eq_n; exact rfl; exact Stop.mk (by first | with_reducible rfl | omega))
          | (apply eq_n; exact rfl)
          | (apply eq_s; exact rfl; exact Stop.mk (by with_reducible rfl))
          | (apply eq_s; exact rfl)
          | (apply eq_sl; exact rfl; exact Stop.mk (by with_reducible rfl))
          | (apply eq_sl; exact rfl)
          | (apply eq_row; exact rfl; exact Stop.mk (by with_reducible rfl))
          | (apply eq_row; exact rfl)
          | (apply eq_agg; exact rfl)
          | (apply eq_cons; exact rfl)
          | (apply eq_boxo; exact rfl)
          | (apply cell_agg; exact rfl; exact rfl; exact rfl)
          | (apply cell_one; exact rfl; exact rfl)
          | exact rfl
          | trivial
          )
        all_goals
          refine Stop.mk ?_
          rw [textNum_no (fun h => by have := h.2.2.1 i (by omega); unfold dig at this; omega)]
      · refine Stop.mk ?_
        refine ret_intro [] rfl rfl ?_ ?_
        repeat' (first
          | apply And.intro
          | (apply eq_b; exact rfl; exact Stop.mk (by with_reducible rfl))
          | (apply eq_b; exact rfl)
          | (apply eq_n; exact rfl; exact Stop.mk (by first | with_reducible rfl | omega))
          | (apply eq_n; exact rfl)
          | (apply eq_s; exact rfl; exact Stop.mk (by with_reducible rfl))
          | (apply eq_s; exact rfl)
          | (apply eq_sl; exact rfl; exact Stop.mk (by with_reducible rfl))
          | (apply eq_sl; exact rfl)
          | (apply eq_row; exact rfl; exact Stop.mk (by with_reducible rfl))
          | (apply eq_row; exact rfl)
          | (apply eq_agg; exact rfl)
          | (apply eq_cons; exact rfl)
          | (apply eq_boxo; exact rfl)
          | (apply cell_agg; exact rfl; exact rfl; exact rfl)
          | (apply cell_one; exact rfl; exact rfl)
          | exact rfl
          | trivial
          )
        all_goals
          refine Stop.mk ?_
          rw [textNum_no (fun h => by have := h.2.2.1 i (by omega); unfold dig at this; omega)]
      · refine ⟨i + 1, ⟨by omega, fun j hj => ?_⟩, by omega, ?_⟩
        · rcases Nat.lt_succ_iff_lt_or_eq.1 hj with h1 | rfl
          · exact hd j h1
          · unfold dig; omega
        · refine ⟨rfl, ?_, ?_, rfl⟩
          repeat' (first
            | apply And.intro
            | (apply eq_b; exact rfl; exact Stop.mk (by with_reducible rfl))
            | (apply eq_b; exact rfl)
            | (apply eq_n; exact rfl; exact Stop.mk (by first | with_reducible rfl | omega))
            | (apply eq_n; exact rfl)
            | (apply eq_s; exact rfl; exact Stop.mk (by with_reducible rfl))
            | (apply eq_s; exact rfl)
            | (apply eq_sl; exact rfl; exact Stop.mk (by with_reducible rfl))
            | (apply eq_sl; exact rfl)
            | (apply eq_row; exact rfl; exact Stop.mk (by with_reducible rfl))
            | (apply eq_row; exact rfl)
            | (apply eq_agg; exact rfl)
            | (apply eq_cons; exact rfl)
            | (apply eq_boxo; exact rfl)
            | (apply cell_agg; exact rfl; exact rfl; exact rfl)
            | (apply cell_one; exact rfl; exact rfl)
            | exact rfl
            | trivial
            )
          all_goals
            refine Stop.mk ?_
            first | (simp only [valI]; done) | (simp only [valI]; omega)
      · obtain rfl : i = s.length := by omega
        refine Stop.mk ?_
        refine ret_intro [] rfl rfl ?_ ?_
        repeat' (first
          | apply And.intro
          | (apply eq_b; exact rfl; exact Stop.mk (by with_reducible rfl))
          | (apply eq_b; exact rfl)
          | (apply eq_n; exact rfl; exact Stop.mk (by first | with_reducible rfl | omega))
          | (apply eq_n; exact rfl)
          | (apply eq_s; exact rfl; exact Stop.mk (by with_reducible rfl))
          | (apply eq_s; exact rfl)
          | (apply eq_sl; exact rfl; exact Stop.mk (by with_reducible rfl))
          | (apply eq_sl; exact rfl)
          | (apply eq_row; exact rfl; exact Stop.mk (by with_reducible rfl))
          | (apply eq_row; exact rfl)
          | (apply eq_agg; exact rfl)
          | (apply eq_cons; exact rfl)
          | (apply eq_boxo; exact rfl)
          | (apply cell_agg; exact rfl; exact rfl; exact rfl)
          | (apply cell_one; exact rfl; exact rfl)
          | exact rfl
          | trivial
          )
        all_goals
          refine Stop.mk ?_
          rw [textNum_no (fun h => hb h.2.2.2)]
      · obtain rfl : i = s.length := by omega
        refine Stop.mk ?_
        refine ret_intro [] rfl rfl ?_ ?_
        repeat' (first
          | apply And.intro
          | (apply eq_b; exact rfl; exact Stop.mk (by with_reducible rfl))
          | (apply eq_b; exact rfl)
          | (apply eq_n; exact rfl; exact Stop.mk (by first | with_reducible rfl | omega))
          | (apply eq_n; exact rfl)
          | (apply eq_s; exact rfl; exact Stop.mk (by with_reducible rfl))
          | (apply eq_s; exact rfl)
          | (apply eq_sl; exact rfl; exact Stop.mk (by with_reducible rfl))
          | (apply eq_sl; exact rfl)
          | (apply eq_row; exact rfl; exact Stop.mk (by with_reducible rfl))
          | (apply eq_row; exact rfl)
          | (apply eq_agg; exact rfl)
          | (apply eq_cons; exact rfl)
          | (apply eq_boxo; exact rfl)
          | (apply cell_agg; exact rfl; exact rfl; exact rfl)
          | (apply cell_one; exact rfl; exact rfl)
          | exact rfl
          | trivial
          )
        all_goals
          refine Stop.mk ?_
          rw [textNum_yes ⟨hlen.1, hlen.2, hd, hb⟩]
  · repeat' (first
      | apply awp_seq
      | (apply awp_regionN; exact rfl)
      | (refine Hb.mk (fun hb => ?_); (first | rw [inB_t] at hb | rw [inB_f] at hb | rw [inB_nt] at hb | rw [inB_nf] at hb | rw [decide_eq_true_eq] at hb | rw [decide_eq_false_iff_not] at hb | rw [beq_iff_eq] at hb | rw [beq_eq_false_iff_ne] at hb | rw [Bool.not_eq_true'] at hb | rw [Bool.not_eq_false'] at hb | rw [bne_iff_ne] at hb | rw [bne_eq_false_iff_eq] at hb | skip); (first | (exfalso; omega) | (exact absurd rfl hb) | skip))
      | (apply aopG_ok; exact rfl)
      | apply ops_nil
      | (apply awp_cond_t; exact rfl)
      | (apply awp_cond_f; exact rfl)
      | (apply cond_x; exact rfl)
      | apply awp_block
      | apply awp_skip
      | apply awp_exit
      | apply awp_ret'
      | (first | (apply ops_cons; exact rfl) | (apply ops_yes; exact rfl; exact rfl; exact rfl))
      | (apply ops_x; exact rfl; exact rfl; (fail_if_success exact (rfl : _ = AV.d (.b true))); (fail_if_success exact (rfl : _ = AV.d (.b false))); exact rfl)
      | (apply op_id; first | refine zk37 rfl rfl rfl rfl rfl rfl rfl ?_ | refine st_call (within_c) rfl rfl rfl rfl rfl ?_ | (apply qok_q; exact rfl))
      | (apply q_id; first | refine zk0 rfl rfl rfl rfl rfl ?_ | refine zk1 rfl rfl rfl rfl rfl ?_ | refine zk2 rfl rfl rfl rfl rfl ?_ | refine zk5 rfl rfl rfl rfl rfl ?_ | refine zk6 rfl rfl rfl rfl rfl ?_ | refine zk7 rfl rfl rfl rfl rfl ?_ | refine zk10 rfl rfl rfl rfl rfl ?_ | refine zk11 rfl rfl rfl rfl rfl ?_ | refine zk12 rfl rfl rfl rfl rfl (fun _ => ?_) | refine zk17 rfl rfl rfl rfl rfl rfl rfl ?_ | refine zk18 rfl rfl rfl rfl rfl rfl ?_ | refine zk19 rfl rfl rfl rfl rfl ?_ | refine zk20 rfl rfl rfl rfl rfl rfl ?_ | refine zk21 rfl rfl rfl rfl rfl rfl ?_ | refine zk22 rfl rfl rfl rfl rfl rfl ?_ | refine zk29 ns_ok rfl rfl rfl rfl rfl rfl rfl rfl ?_)
      )
    all_goals
      refine Stop.mk ?_
      refine ret_intro [] rfl rfl ?_ ?_
      repeat' (first
        | apply And.intro
        | (apply eq_b; exact rfl; exact Stop.mk (by with_reducible rfl))
        | (apply eq_b; exact rfl)
        | (apply eq_n; exact rfl; exact Stop.mk (by first | with_reducible rfl | omega))
        | (apply eq_n; exact rfl)
        | (apply eq_s; exact rfl; exact Stop.mk (by with_reducible rfl))
        | (apply eq_s; exact rfl)
        | (apply eq_sl; exact rfl; exact Stop.mk (by with_reducible rfl))
        | (apply eq_sl; exact rfl)
        | (apply eq_row; exact rfl; exact Stop.mk (by with_reducible rfl))
        | (apply eq_row; exact rfl)
        | (apply eq_agg; exact rfl)
        | (apply eq_cons; exact rfl)
        | (apply eq_boxo; exact rfl)
        | (apply cell_agg; exact rfl; exact rfl; exact rfl)
        | (apply cell_one; exact rfl; exact rfl)
        | exact rfl
        | trivial
        )
      all_goals
        refine Stop.mk ?_
        rw [textNum_no (fun h => hlen ⟨h.1, h.2.1⟩)]
set_option maxRecDepth 100000 in
theorem textNum_s {s : List UInt8} : ACalls Try.prog 127 [.d (.s s)] [.d (.n .i64 (textNum s).1), .d (.b (textNum s).2)] [] := by
  refine acalls_of tt Try.func127 rfl rfl rfl (fun w0 Z => ?_)
  by_cases hlen : 1 ≤ s.length ∧ s.length ≤ 10
  · repeat' (first
      | apply awp_seq
      | (apply awp_regionN; exact rfl)
      | (refine Hb.mk (fun hb => ?_); (first | rw [inB_t] at hb | rw [inB_f] at hb | rw [inB_nt] at hb | rw [inB_nf] at hb | rw [decide_eq_true_eq] at hb | rw [decide_eq_false_iff_not] at hb | rw [beq_iff_eq] at hb | rw [beq_eq_false_iff_ne] at hb | rw [Bool.not_eq_true'] at hb | rw [Bool.not_eq_false'] at hb | rw [bne_iff_ne] at hb | rw [bne_eq_false_iff_eq] at hb | skip); (first | (exfalso; omega) | (exact absurd rfl hb) | skip))
      | (apply aopG_ok; exact rfl)
      | apply ops_nil
      | (apply awp_cond_t; exact rfl)
      | (apply awp_cond_f; exact rfl)
      | (apply cond_x; exact rfl)
      | apply awp_block
      | apply awp_skip
      | apply awp_exit
      | apply awp_ret'
      | (first | (apply ops_cons; exact rfl) | (apply ops_yes; exact rfl; exact rfl; exact rfl))
      | (apply ops_x; exact rfl; exact rfl; (fail_if_success exact (rfl : _ = AV.d (.b true))); (fail_if_success exact (rfl : _ = AV.d (.b false))); exact rfl)
      | (apply op_id; first | refine zk37 rfl rfl rfl rfl rfl rfl rfl ?_ | (apply qok_q; exact rfl))
      | (apply q_id; first | refine zk0 rfl rfl rfl rfl rfl ?_ | refine zk1 rfl rfl rfl rfl rfl ?_ | refine zk2 rfl rfl rfl rfl rfl ?_ | refine zk5 rfl rfl rfl rfl rfl ?_ | refine zk6 rfl rfl rfl rfl rfl ?_ | refine zk7 rfl rfl rfl rfl rfl ?_ | refine zk10 rfl rfl rfl rfl rfl ?_ | refine zk11 rfl rfl rfl rfl rfl ?_ | refine zk12 rfl rfl rfl rfl rfl (fun _ => ?_) | refine zk17 rfl rfl rfl rfl rfl rfl rfl ?_ | refine zk18 rfl rfl rfl rfl rfl rfl ?_ | refine zk19 rfl rfl rfl rfl rfl ?_ | refine zk20 rfl rfl rfl rfl rfl rfl ?_ | refine zk21 rfl rfl rfl rfl rfl rfl ?_ | refine zk22 rfl rfl rfl rfl rfl rfl ?_ | refine zk29 ns_ok rfl rfl rfl rfl rfl rfl rfl rfl ?_)
      )
    refine awp_loop (fun (i : Nat) => ⟨43, [(0, .d (.s s)), (4, .d (.n .i64 (valI s i))), (5, .d (.n .i64 (i : Int)))], []⟩) (fun i => i ≤ s.length ∧ ∀ j, j < i → dig s j) (fun i => s.length - i) 0 ⟨by omega, fun j hj => absurd hj (by omega)⟩ ?_ ?_
    · refine ⟨rfl, ?_, ?_, rfl⟩
      repeat' (first
        | apply And.intro
        | (apply eq_b; exact rfl; exact Stop.mk (by with_reducible rfl))
        | (apply eq_b; exact rfl)
        | (apply eq_n; exact rfl; exact Stop.mk (by first | with_reducible rfl | omega))
        | (apply eq_n; exact rfl)
        | (apply eq_s; exact rfl; exact Stop.mk (by with_reducible rfl))
        | (apply eq_s; exact rfl)
        | (apply eq_sl; exact rfl; exact Stop.mk (by with_reducible rfl))
        | (apply eq_sl; exact rfl)
        | (apply eq_row; exact rfl; exact Stop.mk (by with_reducible rfl))
        | (apply eq_row; exact rfl)
        | (apply eq_agg; exact rfl)
        | (apply eq_cons; exact rfl)
        | (apply eq_boxo; exact rfl)
        | (apply cell_agg; exact rfl; exact rfl; exact rfl)
        | (apply cell_one; exact rfl; exact rfl)
        | exact rfl
        | trivial
        )
      all_goals exact Stop.mk rfl
    · intro i hi
      obtain ⟨hi, hd⟩ := hi
      have hb9 : i < s.length → 0 ≤ valI s i ∧ valI s i < 1000000000 := fun h => valI_9 (by omega) hd
      repeat' (first
        | apply awp_seq
        | (apply awp_regionN; exact rfl)
        | (refine Hb.mk (fun hb => ?_); (first | rw [inB_t] at hb | rw [inB_f] at hb | rw [inB_nt] at hb | rw [inB_nf] at hb | rw [decide_eq_true_eq] at hb | rw [decide_eq_false_iff_not] at hb | rw [beq_iff_eq] at hb | rw [beq_eq_false_iff_ne] at hb | rw [Bool.not_eq_true'] at hb | rw [Bool.not_eq_false'] at hb | rw [bne_iff_ne] at hb | rw [bne_eq_false_iff_eq] at hb | skip); (first | (exfalso; omega) | (exact absurd rfl hb) | skip))
        | (apply aopG_ok; exact rfl)
        | apply ops_nil
        | (apply awp_cond_t; exact rfl)
        | (apply awp_cond_f; exact rfl)
        | (apply cond_x; exact rfl)
        | apply awp_block
        | apply awp_skip
        | apply awp_exit
        | apply awp_ret'
        | (first | (apply ops_cons; exact rfl) | (apply ops_yes; exact rfl; exact rfl; exact rfl))
        | (apply ops_x; exact rfl; exact rfl; (fail_if_success exact (rfl : _ = AV.d (.b true))); (fail_if_success exact (rfl : _ = AV.d (.b false))); exact rfl)
        | (apply op_id; first | refine zk37 rfl rfl rfl rfl rfl rfl rfl ?_ | refine st_call (numText_x) rfl rfl rfl rfl rfl ?_ | (apply qok_q; exact rfl))
        | (apply q_id; first | refine zk0 rfl rfl rfl rfl rfl ?_ | refine zk1 rfl rfl rfl rfl rfl ?_ | refine zk2 rfl rfl rfl rfl rfl ?_ | refine zk5 rfl rfl rfl rfl rfl ?_ | refine zk6 rfl rfl rfl rfl rfl ?_ | refine zk7 rfl rfl rfl rfl rfl ?_ | refine zk10 rfl rfl rfl rfl rfl ?_ | refine zk11 rfl rfl rfl rfl rfl ?_ | refine zk12 rfl rfl rfl rfl rfl (fun _ => ?_) | refine zk17 rfl rfl rfl rfl rfl rfl rfl ?_ | refine zk18 rfl rfl rfl rfl rfl rfl ?_ | refine zk19 rfl rfl rfl rfl rfl ?_ | refine zk20 rfl rfl rfl rfl rfl rfl ?_ | refine zk21 rfl rfl rfl rfl rfl rfl ?_ | refine zk22 rfl rfl rfl rfl rfl rfl ?_ | refine zk29 ns_ok rfl rfl rfl rfl rfl rfl rfl rfl ?_)
        )
      · refine Stop.mk ?_
        refine ret_intro [] rfl rfl ?_ ?_
        repeat' (first
          | apply And.intro
          | (apply eq_b; exact rfl; exact Stop.mk (by with_reducible rfl))
          | (apply eq_b; exact rfl)
          | (apply eq_n; exact rfl; exact Stop.mk (by first | with_reducible rfl | omega))
          | (apply eq_n; exact rfl)
          | (apply eq_s; exact rfl; exact Stop.mk (by with_reducible rfl))
          | (apply eq_s; exact rfl)
          | (apply eq_sl; exact rfl; exact Stop.mk (by with_reducible rfl))
          | (apply eq_sl; exact rfl)
          | (apply eq_row; exact rfl; exact Stop.mk (by with_reducible rfl))
          | (apply eq_row; exact rfl)
          | (apply eq_agg; exact rfl)
          | (apply eq_cons; exact rfl)
          | (apply eq_boxo; exact rfl)
          | (apply cell_agg; exact rfl; exact rfl; exact rfl)
          | (apply cell_one; exact rfl; exact rfl)
          | exact rfl
          | trivial
          )
        all_goals
          refine Stop.mk ?_
          rw [textNum_no (fun h => by have := h.2.2.1 i (by omega); unfold dig at this; omega)]
      · refine Stop.mk ?_
        refine ret_intro [] rfl rfl ?_ ?_
        repeat' (first
          | apply And.intro
          | (apply eq_b; exact rfl; exact Stop.mk (by with_reducible rfl))
          | (apply eq_b; exact rfl)
          | (apply eq_n; exact rfl; exact Stop.mk (by first | with_reducible rfl | omega))
          | (apply eq_n; exact rfl)
          | (apply eq_s; exact rfl; exact Stop.mk (by with_reducible rfl))
          | (apply eq_s; exact rfl)
          | (apply eq_sl; exact rfl; exact Stop.mk (by with_reducible rfl))
          | (apply eq_sl; exact rfl)
          | (apply eq_row; exact rfl; exact Stop.mk (by with_reducible rfl))
          | (apply eq_row; exact rfl)
          | (apply eq_agg; exact rfl)
          | (apply eq_cons; exact rfl)
          | (apply eq_boxo; exact rfl)
          | (apply cell_agg; exact rfl; exact rfl; exact rfl)
          | (apply cell_one; exact rfl; exact rfl)
          | exact rfl
          | trivial
          )
        all_goals
          refine Stop.mk ?_
          rw [textNum_no (fun h => by have := h.2.2.1 i (by omega); unfold dig at this; omega)]
      · refine ⟨i + 1, ⟨by omega, fun j hj => ?_⟩, by omega, ?_⟩
        · rcases Nat.lt_succ_iff_lt_or_eq.1 hj with h1 | rfl
          · exact hd j h1
          · unfold dig; omega
        · refine ⟨rfl, ?_, ?_, rfl⟩
          repeat' (first
            | apply And.intro
            | (apply eq_b; exact rfl; exact Stop.mk (by with_reducible rfl))
            | (apply eq_b; exact rfl)
            | (apply eq_n; exact rfl; exact Stop.mk (by first | with_reducible rfl | omega))
            | (apply eq_n; exact rfl)
            | (apply eq_s; exact rfl; exact Stop.mk (by with_reducible rfl))
            | (apply eq_s; exact rfl)
            | (apply eq_sl; exact rfl; exact Stop.mk (by with_reducible rfl))
            | (apply eq_sl; exact rfl)
            | (apply eq_row; exact rfl; exact Stop.mk (by with_reducible rfl))
            | (apply eq_row; exact rfl)
            | (apply eq_agg; exact rfl)
            | (apply eq_cons; exact rfl)
            | (apply eq_boxo; exact rfl)
            | (apply cell_agg; exact rfl; exact rfl; exact rfl)
            | (apply cell_one; exact rfl; exact rfl)
            | exact rfl
            | trivial
            )
          all_goals
            refine Stop.mk ?_
            first | (simp only [valI]; done) | (simp only [valI]; omega)
      · obtain rfl : i = s.length := by omega
        refine Stop.mk ?_
        refine ret_intro [] rfl rfl ?_ ?_
        repeat' (first
          | apply And.intro
          | (apply eq_b; exact rfl; exact Stop.mk (by with_reducible rfl))
          | (apply eq_b; exact rfl)
          | (apply eq_n; exact rfl; exact Stop.mk (by first | with_reducible rfl | omega))
          | (apply eq_n; exact rfl)
          | (apply eq_s; exact rfl; exact Stop.mk (by with_reducible rfl))
          | (apply eq_s; exact rfl)
          | (apply eq_sl; exact rfl; exact Stop.mk (by with_reducible rfl))
          | (apply eq_sl; exact rfl)
          | (apply eq_row; exact rfl; exact Stop.mk (by with_reducible rfl))
          | (apply eq_row; exact rfl)
          | (apply eq_agg; exact rfl)
          | (apply eq_cons; exact rfl)
          | (apply eq_boxo; exact rfl)
          | (apply cell_agg; exact rfl; exact rfl; exact rfl)
          | (apply cell_one; exact rfl; exact rfl)
          | exact rfl
          | trivial
          )
        all_goals
          refine Stop.mk ?_
          rw [textNum_no (fun h => hb h.2.2.2)]
      · obtain rfl : i = s.length := by omega
        refine Stop.mk ?_
        refine ret_intro [] rfl rfl ?_ ?_
        repeat' (first
          | apply And.intro
          | (apply eq_b; exact rfl; exact Stop.mk (by with_reducible rfl))
          | (apply eq_b; exact rfl)
          | (apply eq_n; exact rfl; exact Stop.mk (by first | with_reducible rfl | omega))
          | (apply eq_n; exact rfl)
          | (apply eq_s; exact rfl; exact Stop.mk (by with_reducible rfl))
          | (apply eq_s; exact rfl)
          | (apply eq_sl; exact rfl; exact Stop.mk (by with_reducible rfl))
          | (apply eq_sl; exact rfl)
          | (apply eq_row; exact rfl; exact Stop.mk (by with_reducible rfl))
          | (apply eq_row; exact rfl)
          | (apply eq_agg; exact rfl)
          | (apply eq_cons; exact rfl)
          | (apply eq_boxo; exact rfl)
          | (apply cell_agg; exact rfl; exact rfl; exact rfl)
          | (apply cell_one; exact rfl; exact rfl)
          | exact rfl
          | trivial
          )
        all_goals
          refine Stop.mk ?_
          rw [textNum_yes ⟨hlen.1, hlen.2, hd, hb⟩]
  · repeat' (first
      | apply awp_seq
      | (apply awp_regionN; exact rfl)
      | (refine Hb.mk (fun hb => ?_); (first | rw [inB_t] at hb | rw [inB_f] at hb | rw [inB_nt] at hb | rw [inB_nf] at hb | rw [decide_eq_true_eq] at hb | rw [decide_eq_false_iff_not] at hb | rw [beq_iff_eq] at hb | rw [beq_eq_false_iff_ne] at hb | rw [Bool.not_eq_true'] at hb | rw [Bool.not_eq_false'] at hb | rw [bne_iff_ne] at hb | rw [bne_eq_false_iff_eq] at hb | skip); (first | (exfalso; omega) | (exact absurd rfl hb) | skip))
      | (apply aopG_ok; exact rfl)
      | apply ops_nil
      | (apply awp_cond_t; exact rfl)
      | (apply awp_cond_f; exact rfl)
      | (apply cond_x; exact rfl)
      | apply awp_block
      | apply awp_skip
      | apply awp_exit
      | apply awp_ret'
      | (first | (apply ops_cons; exact rfl) | (apply ops_yes; exact rfl; exact rfl; exact rfl))
      | (apply ops_x; exact rfl; exact rfl; (fail_if_success exact (rfl : _ = AV.d (.b true))); (fail_if_success exact (rfl : _ = AV.d (.b false))); exact rfl)
      | (apply op_id; first | refine zk37 rfl rfl rfl rfl rfl rfl rfl ?_ | (apply qok_q; exact rfl))
      | (apply q_id; first | refine zk0 rfl rfl rfl rfl rfl ?_ | refine zk1 rfl rfl rfl rfl rfl ?_ | refine zk2 rfl rfl rfl rfl rfl ?_ | refine zk5 rfl rfl rfl rfl rfl ?_ | refine zk6 rfl rfl rfl rfl rfl ?_ | refine zk7 rfl rfl rfl rfl rfl ?_ | refine zk10 rfl rfl rfl rfl rfl ?_ | refine zk11 rfl rfl rfl rfl rfl ?_ | refine zk12 rfl rfl rfl rfl rfl (fun _ => ?_) | refine zk17 rfl rfl rfl rfl rfl rfl rfl ?_ | refine zk18 rfl rfl rfl rfl rfl rfl ?_ | refine zk19 rfl rfl rfl rfl rfl ?_ | refine zk20 rfl rfl rfl rfl rfl rfl ?_ | refine zk21 rfl rfl rfl rfl rfl rfl ?_ | refine zk22 rfl rfl rfl rfl rfl rfl ?_ | refine zk29 ns_ok rfl rfl rfl rfl rfl rfl rfl rfl ?_)
      )
    all_goals
      refine Stop.mk ?_
      refine ret_intro [] rfl rfl ?_ ?_
      repeat' (first
        | apply And.intro
        | (apply eq_b; exact rfl; exact Stop.mk (by with_reducible rfl))
        | (apply eq_b; exact rfl)
        | (apply eq_n; exact rfl; exact Stop.mk (by first | with_reducible rfl | omega))
        | (apply eq_n; exact rfl)
        | (apply eq_s; exact rfl; exact Stop.mk (by with_reducible rfl))
        | (apply eq_s; exact rfl)
        | (apply eq_sl; exact rfl; exact Stop.mk (by with_reducible rfl))
        | (apply eq_sl; exact rfl)
        | (apply eq_row; exact rfl; exact Stop.mk (by with_reducible rfl))
        | (apply eq_row; exact rfl)
        | (apply eq_agg; exact rfl)
        | (apply eq_cons; exact rfl)
        | (apply eq_boxo; exact rfl)
        | (apply cell_agg; exact rfl; exact rfl; exact rfl)
        | (apply cell_one; exact rfl; exact rfl)
        | exact rfl
        | trivial
        )
      all_goals
        refine Stop.mk ?_
        rw [textNum_no (fun h => hlen ⟨h.1, h.2.1⟩)]
end Go.Proofs.Ythmajaeekkbnnaa
