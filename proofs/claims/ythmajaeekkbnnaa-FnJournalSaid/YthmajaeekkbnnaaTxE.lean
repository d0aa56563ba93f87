/-
  Numbers as text: NumText, both.
-/
import Derived.Test.YthmajaeekkbnnaaSh
import Derived.Test.YthmajaeekkbnnaaTxC
namespace Go.Proofs.Ythmajaeekkbnnaa
open Go Go.RowKit
attribute [local irreducible] AWp OpsOk OpOk ACalls ChA QsOk

def numT (n : Nat) : List UInt8 := if n < 10 then [UInt8.ofNat (48 + n)] else numT (n / 10) ++ [UInt8.ofNat (48 + n % 10)]
theorem numT_lt {n : Nat} (h : n < 10) : numT n = [UInt8.ofNat (48 + n)] := by rw [numT, if_pos h]
theorem numT_ge {n : Nat} (h : ¬ n < 10) : numT n = numT (n / 10) ++ [UInt8.ofNat (48 + n % 10)] := by rw [numT, if_neg h]
theorem numT_len : ∀ (k n : Nat), n < 10 ^ (k + 1) → (numT n).length ≤ k + 1
  | 0, n, h => by rw [numT_lt (by omega)]; simp
  | k + 1, n, h => by
    by_cases h1 : n < 10
    · rw [numT_lt h1]; simp
    · rw [numT_ge h1, List.length_append, List.length_singleton]
      have := numT_len k (n / 10) (by rw [Nat.pow_succ] at h; omega)
      omega
def numTx (x : Int) : List UInt8 := if 0 ≤ x ∧ x ≤ 1000000000 then numT x.toNat else []
theorem numTx_len (x : Int) : (numTx x).length ≤ 10 := by
  unfold numTx
  split
  · exact numT_len 9 _ (by omega)
  · simp
theorem numTx_in {x : Int} (h : 0 ≤ x ∧ x ≤ 1000000000) : numTx x = numT x.toNat := if_pos h
theorem numTx_out {x : Int} (h : x < 0 ∨ 1000000000 < x) : numTx x = [] := if_neg (by omega)
set_option maxRecDepth 100000 in
theorem numText_s : ∀ (n : Nat), n ≤ 1000000000 → ACalls Try.prog 102 [.d (.n .i64 (n : Int))] [.d (.s (numT n))] [] := by
  intro n
  induction n using Nat.strongRecOn with
  | _ n ih =>
    intro hn
    refine acalls_of tt Try.func102 rfl rfl rfl (fun w0 Z => ?_)
    have hl := numT_len 9 (n / 10) (by omega)
    repeat' (first
      | apply awp_seq
      | (apply awp_regionN; exact rfl)
      | (refine Hb.mk (fun hb => ?_); (first | rw [inB_t] at hb | rw [inB_f] at hb | rw [inB_nt] at hb | rw [inB_nf] at hb | rw [decide_eq_true_eq] at hb | rw [decide_eq_false_iff_not] at hb | rw [beq_iff_eq] at hb | rw [beq_eq_false_iff_ne] at hb | rw [Bool.not_eq_true'] at hb | rw [Bool.not_eq_false'] at hb | rw [bne_iff_ne] at hb | rw [bne_eq_false_iff_eq] at hb | skip); (first | (exfalso; omega) | (exact absurd rfl hb) | skip))
      | (apply aopG_ok; exact rfl)
      | apply ops_nil
      | (apply awp_drawq; exact rfl; kernel_rfl; kernel_rfl; exact rfl)
      | (apply awp_drawx; exact rfl; kernel_rfl; exact rfl)
      | (apply aopQ_ok; exact rfl)
      | apply qs_nil
      | (apply ch_nil; exact rfl)
      | (apply ch_cons; (· exact rfl); (· exact rfl); (· exact rfl); (· exact rfl); (· (intro w0 Z O; first | (apply aop_ok; exact rfl) | (apply QOk.ok; first | refine zk0 rfl rfl rfl rfl rfl ?_ | refine zk3 rfl rfl rfl rfl rfl ?_ | refine zk4 rfl rfl rfl rfl rfl ?_ | refine zk5 rfl rfl rfl rfl rfl ?_ | refine zk8 rfl rfl rfl rfl rfl ?_ | refine zk9 rfl rfl rfl rfl rfl ?_ | refine zk17 rfl rfl rfl rfl rfl rfl rfl ?_ | refine zk19 rfl rfl rfl rfl rfl ?_ | refine zk20 rfl rfl rfl rfl rfl rfl ?_ | refine zk21 rfl rfl rfl rfl rfl rfl ?_ | refine zk22 rfl rfl rfl rfl rfl rfl ?_) | refine zk35 rfl rfl rfl ⟨rfl, rfl, rfl⟩ rfl rfl rfl rfl rfl rfl rfl rfl rfl ?_ | refine zk37 rfl rfl rfl rfl rfl rfl rfl ?_ | refine st_call (time_s) rfl rfl rfl rfl rfl ?_ | refine st_call (ih (n / 10) (by omega) (by omega)) rfl rfl rfl rfl rfl ?_); exact ⟨rfl, rfl, rfl⟩); (· exact rfl); (· exact rfl); (· (repeat' (first | apply And.intro | exact Or.inl rfl | exact Or.inr ⟨rfl, rfl⟩ | exact trivial))); (· (repeat' (first | apply And.intro | exact trivial | exact rfl | exact flatE_map (fun _ => rfl) | apply flatE_app))); (· exact rfl); (· exact rfl); (· exact rfl); (· exact rfl))
      | (apply awp_cond_t; exact rfl)
      | (apply awp_cond_f; exact rfl)
      | (apply cond_x; exact rfl)
      | apply awp_block
      | apply awp_skip
      | apply awp_exit
      | apply awp_ret'
      | (first | (apply ops_cons; exact rfl) | (apply ops_yes; exact rfl; exact rfl; exact rfl))
      | (apply ops_x; exact rfl; exact rfl; (fail_if_success exact (rfl : _ = AV.d (.b true))); (fail_if_success exact (rfl : _ = AV.d (.b false))); exact rfl)
      | (first | (apply qs_cons; exact rfl) | (apply qs_yes; exact rfl; exact rfl; exact rfl))
      | (apply qs_x; exact rfl; exact rfl; (fail_if_success exact (rfl : _ = AV.d (.b true))); (fail_if_success exact (rfl : _ = AV.d (.b false))); exact rfl)
      | (apply q_id; first | refine st_callq (time_s) rfl rfl rfl rfl rfl ?_ | refine st_callq (ih (n / 10) (by omega) (by omega)) rfl rfl rfl rfl rfl ?_)
      | (apply op_id; first | refine zk35 rfl rfl rfl ⟨rfl, rfl, rfl⟩ rfl rfl rfl rfl rfl rfl rfl rfl rfl ?_ | refine zk37 rfl rfl rfl rfl rfl rfl rfl ?_ | refine st_call (time_s) rfl rfl rfl rfl rfl ?_ | refine st_call (ih (n / 10) (by omega) (by omega)) rfl rfl rfl rfl rfl ?_ | (apply qok_q; exact rfl))
      | (apply q_id; first | refine zk0 rfl rfl rfl rfl rfl ?_ | refine zk3 rfl rfl rfl rfl rfl ?_ | refine zk4 rfl rfl rfl rfl rfl ?_ | refine zk5 rfl rfl rfl rfl rfl ?_ | refine zk8 rfl rfl rfl rfl rfl ?_ | refine zk9 rfl rfl rfl rfl rfl ?_ | refine zk17 rfl rfl rfl rfl rfl rfl rfl ?_ | refine zk19 rfl rfl rfl rfl rfl ?_ | refine zk20 rfl rfl rfl rfl rfl rfl ?_ | refine zk21 rfl rfl rfl rfl rfl rfl ?_ | refine zk22 rfl rfl rfl rfl rfl rfl ?_)
      )
    · refine Stop.mk ?_
      refine ret_intro [] rfl rfl ?_ ?_
      repeat' (first
        | apply And.intro
        | (apply eq_b; exact rfl; exact Stop.mk (by with_reducible rfl))
        | (apply eq_b; exact rfl)
        | (apply eq_n; exact rfl; exact Stop.mk (by first | with_reducible rfl | omega))
        | (apply eq_n; exact rfl)
        | (apply eq_s; exact rfl; exact Stop.mk (by with_reducible rfl))
        | (apply eq_s; exact rfl)
        | (apply eq_sl; exact rfl; exact Stop.mk (by with_reducible rfl))
        | (apply eq_sl; exact rfl)
        | (apply eq_row; exact rfl; exact Stop.mk (by with_reducible rfl))
        | (apply eq_row; exact rfl)
        | (apply eq_agg; exact rfl)
        | (apply eq_cons; exact rfl)
        | (apply eq_boxo; exact rfl)
        | (apply cell_agg; exact rfl; exact rfl; exact rfl)
        | (apply cell_one; exact rfl; exact rfl)
        | exact rfl
        | trivial
        )
      refine Stop.mk ?_
      rw [numT_lt (by omega)]
      rfl
    · refine Stop.mk ?_
      refine ret_intro [] rfl rfl ?_ ?_
      repeat' (first
        | apply And.intro
        | (apply eq_b; exact rfl; exact Stop.mk (by with_reducible rfl))
        | (apply eq_b; exact rfl)
        | (apply eq_n; exact rfl; exact Stop.mk (by first | with_reducible rfl | omega))
        | (apply eq_n; exact rfl)
        | (apply eq_s; exact rfl; exact Stop.mk (by with_reducible rfl))
        | (apply eq_s; exact rfl)
        | (apply eq_sl; exact rfl; exact Stop.mk (by with_reducible rfl))
        | (apply eq_sl; exact rfl)
        | (apply eq_row; exact rfl; exact Stop.mk (by with_reducible rfl))
        | (apply eq_row; exact rfl)
        | (apply eq_agg; exact rfl)
        | (apply eq_cons; exact rfl)
        | (apply eq_boxo; exact rfl)
        | (apply cell_agg; exact rfl; exact rfl; exact rfl)
        | (apply cell_one; exact rfl; exact rfl)
        | exact rfl
        | trivial
        )
      refine Stop.mk ?_
      rw [numT_ge (n := n) (by omega)]
      rfl
set_option maxRecDepth 100000 in
theorem numText_e {x : Int} : ACalls Try.prog 108 [.d (.n .i64 x)] [.d (.s (numTx x))] [] := by
  refine acalls_of tt Try.func108 rfl rfl rfl (fun w0 Z => ?_)
  repeat' (first
    | apply awp_seq
    | (apply awp_regionN; exact rfl)
    | (refine Hb.mk (fun hb => ?_); (first | rw [inB_t] at hb | rw [inB_f] at hb | rw [inB_nt] at hb | rw [inB_nf] at hb | rw [decide_eq_true_eq] at hb | rw [decide_eq_false_iff_not] at hb | rw [beq_iff_eq] at hb | rw [beq_eq_false_iff_ne] at hb | rw [Bool.not_eq_true'] at hb | rw [Bool.not_eq_false'] at hb | rw [bne_iff_ne] at hb | rw [bne_eq_false_iff_eq] at hb | skip); (first | (exfalso; omega) | (exact absurd rfl hb) | skip))
    | (apply aopG_ok; exact rfl)
    | apply ops_nil
    | (apply awp_cond_t; exact rfl)
    | (apply awp_cond_f; exact rfl)
    | (apply cond_x; exact rfl)
    | apply awp_block
    | apply awp_skip
    | apply awp_exit
    | apply awp_ret'
    | (first | (apply ops_cons; exact rfl) | (apply ops_yes; exact rfl; exact rfl; exact rfl))
    | (apply ops_x; exact rfl; exact rfl; (fail_if_success exact (rfl : _ = AV.d (.b true))); (fail_if_success exact (rfl : _ = AV.d (.b false))); exact rfl)
    | (apply op_id; first | refine zk35 rfl rfl rfl ⟨rfl, rfl, rfl⟩ rfl rfl rfl rfl rfl rfl rfl rfl rfl ?_ | refine zk37 rfl rfl rfl rfl rfl rfl rfl ?_ | refine st_call (isTime_c2) rfl rfl rfl rfl rfl ?_ | (apply qok_q; exact rfl))
    | (apply q_id; first | refine zk0 rfl rfl rfl rfl rfl ?_ | refine zk3 rfl rfl rfl rfl rfl ?_ | refine zk4 rfl rfl rfl rfl rfl ?_ | refine zk5 rfl rfl rfl rfl rfl ?_ | refine zk8 rfl rfl rfl rfl rfl ?_ | refine zk9 rfl rfl rfl rfl rfl ?_ | refine zk17 rfl rfl rfl rfl rfl rfl rfl ?_ | refine zk19 rfl rfl rfl rfl rfl ?_ | refine zk20 rfl rfl rfl rfl rfl rfl ?_ | refine zk21 rfl rfl rfl rfl rfl rfl ?_ | refine zk22 rfl rfl rfl rfl rfl rfl ?_)
    )
  · refine Stop.mk ?_
    refine ret_intro [] rfl rfl ?_ ?_
    repeat' (first
      | apply And.intro
      | (apply eq_b; exact rfl; exact Stop.mk (by with_reducible rfl))
      | (apply eq_b; exact rfl)
      | (apply eq_n; exact rfl; exact Stop.mk (by first | with_reducible rfl | omega))
      | (apply eq_n; exact rfl)
      | (apply eq_s; exact rfl; exact Stop.mk (by with_reducible rfl))
      | (apply eq_s; exact rfl)
      | (apply eq_sl; exact rfl; exact Stop.mk (by with_reducible rfl))
      | (apply eq_sl; exact rfl)
      | (apply eq_row; exact rfl; exact Stop.mk (by with_reducible rfl))
      | (apply eq_row; exact rfl)
      | (apply eq_agg; exact rfl)
      | (apply eq_cons; exact rfl)
      | (apply eq_boxo; exact rfl)
      | (apply cell_agg; exact rfl; exact rfl; exact rfl)
      | (apply cell_one; exact rfl; exact rfl)
      | exact rfl
      | trivial
      )
    exact Stop.mk (numTx_out hb).symm
  refine awp_loop (fun (i : Nat × List UInt8) => ⟨26, [(0, .d (.n .i64 (i.1 : Int))), (3, .d (.s i.2))], []⟩) (fun i => numTx x = numT i.1 ++ i.2 ∧ i.1 ≤ 1000000000) (fun i => i.1) (x.toNat, []) ⟨by rw [numTx_in hb]; simp, by omega⟩ ?_ ?_
  · refine ⟨rfl, ?_, ?_, rfl⟩
    repeat' (first
      | apply And.intro
      | (apply eq_b; exact rfl; exact Stop.mk (by with_reducible rfl))
      | (apply eq_b; exact rfl)
      | (apply eq_n; exact rfl; exact Stop.mk (by first | with_reducible rfl | omega))
      | (apply eq_n; exact rfl)
      | (apply eq_s; exact rfl; exact Stop.mk (by with_reducible rfl))
      | (apply eq_s; exact rfl)
      | (apply eq_sl; exact rfl; exact Stop.mk (by with_reducible rfl))
      | (apply eq_sl; exact rfl)
      | (apply eq_row; exact rfl; exact Stop.mk (by with_reducible rfl))
      | (apply eq_row; exact rfl)
      | (apply eq_agg; exact rfl)
      | (apply eq_cons; exact rfl)
      | (apply eq_boxo; exact rfl)
      | (apply cell_agg; exact rfl; exact rfl; exact rfl)
      | (apply cell_one; exact rfl; exact rfl)
      | exact rfl
      | trivial
      )
  · intro i hi
    obtain ⟨hs, hn⟩ := hi
    have hl := numTx_len x
    rw [hs, List.length_append] at hl
    repeat' (first
      | apply awp_seq
      | (apply awp_regionN; exact rfl)
      | (refine Hb.mk (fun hb => ?_); (first | rw [inB_t] at hb | rw [inB_f] at hb | rw [inB_nt] at hb | rw [inB_nf] at hb | rw [decide_eq_true_eq] at hb | rw [decide_eq_false_iff_not] at hb | rw [beq_iff_eq] at hb | rw [beq_eq_false_iff_ne] at hb | rw [Bool.not_eq_true'] at hb | rw [Bool.not_eq_false'] at hb | rw [bne_iff_ne] at hb | rw [bne_eq_false_iff_eq] at hb | skip); (first | (exfalso; omega) | (exact absurd rfl hb) | skip))
      | (apply aopG_ok; exact rfl)
      | apply ops_nil
      | (apply awp_cond_t; exact rfl)
      | (apply awp_cond_f; exact rfl)
      | (apply cond_x; exact rfl)
      | apply awp_block
      | apply awp_skip
      | apply awp_exit
      | apply awp_ret'
      | (first | (apply ops_cons; exact rfl) | (apply ops_yes; exact rfl; exact rfl; exact rfl))
      | (apply ops_x; exact rfl; exact rfl; (fail_if_success exact (rfl : _ = AV.d (.b true))); (fail_if_success exact (rfl : _ = AV.d (.b false))); exact rfl)
      | (apply op_id; first | refine zk35 rfl rfl rfl ⟨rfl, rfl, rfl⟩ rfl rfl rfl rfl rfl rfl rfl rfl rfl ?_ | refine zk37 rfl rfl rfl rfl rfl rfl rfl ?_ | (apply qok_q; exact rfl))
      | (apply q_id; first | refine zk0 rfl rfl rfl rfl rfl ?_ | refine zk3 rfl rfl rfl rfl rfl ?_ | refine zk4 rfl rfl rfl rfl rfl ?_ | refine zk5 rfl rfl rfl rfl rfl ?_ | refine zk8 rfl rfl rfl rfl rfl ?_ | refine zk9 rfl rfl rfl rfl rfl ?_ | refine zk17 rfl rfl rfl rfl rfl rfl rfl ?_ | refine zk19 rfl rfl rfl rfl rfl ?_ | refine zk20 rfl rfl rfl rfl rfl rfl ?_ | refine zk21 rfl rfl rfl rfl rfl rfl ?_ | refine zk22 rfl rfl rfl rfl rfl rfl ?_)
      )
    · refine ⟨(i.1 / 10, [UInt8.ofNat (48 + i.1 % 10)] ++ i.2), ⟨by rw [hs, numT_ge (by omega)]; simp, by simp only; omega⟩, by simp only; omega, ?_⟩
      refine ⟨rfl, ?_, ?_, rfl⟩
      repeat' (first
        | apply And.intro
        | (apply eq_b; exact rfl; exact Stop.mk (by with_reducible rfl))
        | (apply eq_b; exact rfl)
        | (apply eq_n; exact rfl; exact Stop.mk (by first | with_reducible rfl | omega))
        | (apply eq_n; exact rfl)
        | (apply eq_s; exact rfl; exact Stop.mk (by with_reducible rfl))
        | (apply eq_s; exact rfl)
        | (apply eq_sl; exact rfl; exact Stop.mk (by with_reducible rfl))
        | (apply eq_sl; exact rfl)
        | (apply eq_row; exact rfl; exact Stop.mk (by with_reducible rfl))
        | (apply eq_row; exact rfl)
        | (apply eq_agg; exact rfl)
        | (apply eq_cons; exact rfl)
        | (apply eq_boxo; exact rfl)
        | (apply cell_agg; exact rfl; exact rfl; exact rfl)
        | (apply cell_one; exact rfl; exact rfl)
        | exact rfl
        | trivial
        )
      refine Stop.mk ?_
      rfl
    · refine Stop.mk ?_
      refine ret_intro [] rfl rfl ?_ ?_
      repeat' (first
        | apply And.intro
        | (apply eq_b; exact rfl; exact Stop.mk (by with_reducible rfl))
        | (apply eq_b; exact rfl)
        | (apply eq_n; exact rfl; exact Stop.mk (by first | with_reducible rfl | omega))
        | (apply eq_n; exact rfl)
        | (apply eq_s; exact rfl; exact Stop.mk (by with_reducible rfl))
        | (apply eq_s; exact rfl)
        | (apply eq_sl; exact rfl; exact Stop.mk (by with_reducible rfl))
        | (apply eq_sl; exact rfl)
        | (apply eq_row; exact rfl; exact Stop.mk (by with_reducible rfl))
        | (apply eq_row; exact rfl)
        | (apply eq_agg; exact rfl)
        | (apply eq_cons; exact rfl)
        | (apply eq_boxo; exact rfl)
        | (apply cell_agg; exact rfl; exact rfl; exact rfl)
        | (apply cell_one; exact rfl; exact rfl)
        | exact rfl
        | trivial
        )
      refine Stop.mk ?_
      rw [hs, numT_lt (by omega)]
      rfl
set_option maxRecDepth 100000 in
theorem numText_x {x : Int} : ACalls Try.prog 102 [.d (.n .i64 x)] [.d (.s (numTx x))] [] := by
  by_cases h : 0 ≤ x ∧ x ≤ 1000000000
  · rw [numTx_in h]
    have := numText_s x.toNat (by omega)
    rwa [show ((x.toNat : Nat) : Int) = x by omega] at this
  · rw [numTx_out (by omega)]
    refine acalls_of tt Try.func102 rfl rfl rfl (fun w0 Z => ?_)
    repeat' (first
      | apply awp_seq
      | (apply awp_regionN; exact rfl)
      | (refine Hb.mk (fun hb => ?_); (first | rw [inB_t] at hb | rw [inB_f] at hb | rw [inB_nt] at hb | rw [inB_nf] at hb | rw [decide_eq_true_eq] at hb | rw [decide_eq_false_iff_not] at hb | rw [beq_iff_eq] at hb | rw [beq_eq_false_iff_ne] at hb | rw [Bool.not_eq_true'] at hb | rw [Bool.not_eq_false'] at hb | rw [bne_iff_ne] at hb | rw [bne_eq_false_iff_eq] at hb | skip); (first | (exfalso; omega) | (exact absurd rfl hb) | skip))
      | (apply aopG_ok; exact rfl)
      | apply ops_nil
      | (apply awp_drawq; exact rfl; kernel_rfl; kernel_rfl; exact rfl)
      | (apply awp_drawx; exact rfl; kernel_rfl; exact rfl)
      | (apply aopQ_ok; exact rfl)
      | apply qs_nil
      | (apply ch_nil; exact rfl)
      | (apply ch_cons; (· exact rfl); (· exact rfl); (· exact rfl); (· exact rfl); (· (intro w0 Z O; first | (apply aop_ok; exact rfl) | (apply QOk.ok; first | refine zk0 rfl rfl rfl rfl rfl ?_ | refine zk3 rfl rfl rfl rfl rfl ?_ | refine zk4 rfl rfl rfl rfl rfl ?_ | refine zk5 rfl rfl rfl rfl rfl ?_ | refine zk8 rfl rfl rfl rfl rfl ?_ | refine zk9 rfl rfl rfl rfl rfl ?_ | refine zk17 rfl rfl rfl rfl rfl rfl rfl ?_ | refine zk19 rfl rfl rfl rfl rfl ?_ | refine zk20 rfl rfl rfl rfl rfl rfl ?_ | refine zk21 rfl rfl rfl rfl rfl rfl ?_ | refine zk22 rfl rfl rfl rfl rfl rfl ?_) | refine zk35 rfl rfl rfl ⟨rfl, rfl, rfl⟩ rfl rfl rfl rfl rfl rfl rfl rfl rfl ?_ | refine zk37 rfl rfl rfl rfl rfl rfl rfl ?_ | refine st_call (time_s) rfl rfl rfl rfl rfl ?_); exact ⟨rfl, rfl, rfl⟩); (· exact rfl); (· exact rfl); (· (repeat' (first | apply And.intro | exact Or.inl rfl | exact Or.inr ⟨rfl, rfl⟩ | exact trivial))); (· (repeat' (first | apply And.intro | exact trivial | exact rfl | exact flatE_map (fun _ => rfl) | apply flatE_app))); (· exact rfl); (· exact rfl); (· exact rfl); (· exact rfl))
      | (apply awp_cond_t; exact rfl)
      | (apply awp_cond_f; exact rfl)
      | (apply cond_x; exact rfl)
      | apply awp_block
      | apply awp_skip
      | apply awp_exit
      | apply awp_ret'
      | (first | (apply ops_cons; exact rfl) | (apply ops_yes; exact rfl; exact rfl; exact rfl))
      | (apply ops_x; exact rfl; exact rfl; (fail_if_success exact (rfl : _ = AV.d (.b true))); (fail_if_success exact (rfl : _ = AV.d (.b false))); exact rfl)
      | (first | (apply qs_cons; exact rfl) | (apply qs_yes; exact rfl; exact rfl; exact rfl))
      | (apply qs_x; exact rfl; exact rfl; (fail_if_success exact (rfl : _ = AV.d (.b true))); (fail_if_success exact (rfl : _ = AV.d (.b false))); exact rfl)
      | (apply q_id; first | refine st_callq (time_s) rfl rfl rfl rfl rfl ?_)
      | (apply op_id; first | refine zk35 rfl rfl rfl ⟨rfl, rfl, rfl⟩ rfl rfl rfl rfl rfl rfl rfl rfl rfl ?_ | refine zk37 rfl rfl rfl rfl rfl rfl rfl ?_ | refine st_call (time_s) rfl rfl rfl rfl rfl ?_ | (apply qok_q; exact rfl))
      | (apply q_id; first | refine zk0 rfl rfl rfl rfl rfl ?_ | refine zk3 rfl rfl rfl rfl rfl ?_ | refine zk4 rfl rfl rfl rfl rfl ?_ | refine zk5 rfl rfl rfl rfl rfl ?_ | refine zk8 rfl rfl rfl rfl rfl ?_ | refine zk9 rfl rfl rfl rfl rfl ?_ | refine zk17 rfl rfl rfl rfl rfl rfl rfl ?_ | refine zk19 rfl rfl rfl rfl rfl ?_ | refine zk20 rfl rfl rfl rfl rfl rfl ?_ | refine zk21 rfl rfl rfl rfl rfl rfl ?_ | refine zk22 rfl rfl rfl rfl rfl rfl ?_)
      )
    refine Stop.mk ?_
    refine ret_intro [] rfl rfl ?_ ?_
    repeat' (first
      | apply And.intro
      | (apply eq_b; exact rfl; exact Stop.mk (by with_reducible rfl))
      | (apply eq_b; exact rfl)
      | (apply eq_n; exact rfl; exact Stop.mk (by first | with_reducible rfl | omega))
      | (apply eq_n; exact rfl)
      | (apply eq_s; exact rfl; exact Stop.mk (by with_reducible rfl))
      | (apply eq_s; exact rfl)
      | (apply eq_sl; exact rfl; exact Stop.mk (by with_reducible rfl))
      | (apply eq_sl; exact rfl)
      | (apply eq_row; exact rfl; exact Stop.mk (by with_reducible rfl))
      | (apply eq_row; exact rfl)
      | (apply eq_agg; exact rfl)
      | (apply eq_cons; exact rfl)
      | (apply eq_boxo; exact rfl)
      | (apply cell_agg; exact rfl; exact rfl; exact rfl)
      | (apply cell_one; exact rfl; exact rfl)
      | exact rfl
      | trivial
      )
end Go.Proofs.Ythmajaeekkbnnaa
