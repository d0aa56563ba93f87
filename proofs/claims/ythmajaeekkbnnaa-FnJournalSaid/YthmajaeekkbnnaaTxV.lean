/-
  Marks of strings; the laws of ReadRecords and JournalOk, without their arguments.
-/
import Derived.Test.YthmajaeekkbnnaaSh
import Derived.Test.YthmajaeekkbnnaaTxU
namespace Go.Proofs.Ythmajaeekkbnnaa
open Go Go.RowKit
attribute [local irreducible] AWp OpsOk OpOk ACalls ChA QsOk MCalls

def numZ (n : Nat) : List UInt8 := if n = 0 then [] else numT n
theorem numZ_step {n : Nat} (h : 0 < n) : numZ n = numZ (n / 10) ++ [UInt8.ofNat (48 + n % 10)] := by
  rw [numZ, if_neg (by omega), numZ]
  by_cases h1 : n < 10
  · rw [numT_lt h1, if_pos (by omega), Nat.mod_eq_of_lt h1]; rfl
  · rw [numT_ge h1, if_neg (by omega)]
theorem numZ_len {n : Nat} (h : n ≤ 4000000000) : (numZ n).length ≤ 10 := by
  unfold numZ
  split
  · simp
  · exact numT_len 9 n (by omega)
def markTx (n : Nat) : List UInt8 := if n = 0 then [109, 48] else [109] ++ numZ n
set_option maxRecDepth 100000 in
theorem markText_e {n : Nat} (h : n ≤ 4000000000) : ACalls Try.prog 111 [.d (.n .i64 n)] [.d (.s (markTx n))] [] := by
  refine acalls_of tt Try.func111 rfl rfl rfl (fun w0 Z => ?_)
  have hz := numZ_len h
  repeat' (first
    | apply awp_seq
    | (apply awp_regionN; exact rfl)
    | (refine Hb.mk (fun hb => ?_); (first | rw [inB_t] at hb | rw [inB_f] at hb | rw [inB_nt] at hb | rw [inB_nf] at hb | rw [decide_eq_true_eq] at hb | rw [decide_eq_false_iff_not] at hb | rw [beq_iff_eq] at hb | rw [beq_eq_false_iff_ne] at hb | rw [Bool.not_eq_true'] at hb | rw [Bool.not_eq_false'] at hb | rw [bne_iff_ne] at hb | rw [bne_eq_false_iff_eq] at hb | skip); (first | (exfalso; omega) | (exact absurd rfl hb) | skip))
    | (apply aopG_ok; exact rfl)
    | apply ops_nil
    | (apply awp_cond_t; exact rfl)
    | (apply awp_cond_f; exact rfl)
    | (apply cond_x; exact rfl)
    | apply awp_block
    | apply awp_skip
    | apply awp_exit
    | apply awp_ret'
    | (first | (apply ops_cons; exact rfl) | (apply ops_yes; exact rfl; exact rfl; exact rfl))
    | (apply ops_x; exact rfl; exact rfl; (fail_if_success exact (rfl : _ = AV.d (.b true))); (fail_if_success exact (rfl : _ = AV.d (.b false))); exact rfl)
    | (apply op_id; first | refine zk35 rfl rfl rfl ⟨rfl, rfl, rfl⟩ rfl rfl rfl rfl rfl rfl rfl rfl rfl ?_ | refine zk37 rfl rfl rfl rfl rfl rfl rfl ?_ | (apply qok_q; exact rfl))
    | (apply q_id; first | refine zk0 rfl rfl rfl rfl rfl ?_ | refine zk3 rfl rfl rfl rfl rfl ?_ | refine zk4 rfl rfl rfl rfl rfl ?_ | refine zk5 rfl rfl rfl rfl rfl ?_ | refine zk8 rfl rfl rfl rfl rfl ?_ | refine zk9 rfl rfl rfl rfl rfl ?_ | refine zk17 rfl rfl rfl rfl rfl rfl rfl ?_ | refine zk19 rfl rfl rfl rfl rfl ?_ | refine zk20 rfl rfl rfl rfl rfl rfl ?_ | refine zk21 rfl rfl rfl rfl rfl rfl ?_ | refine zk22 rfl rfl rfl rfl rfl rfl ?_)
    )
  · obtain rfl : n = 0 := by omega
    refine Stop.mk ?_
    refine ret_intro [] rfl rfl ?_ ?_
    repeat' (first
      | apply And.intro
      | (apply eq_b; exact rfl; exact Stop.mk (by with_reducible rfl))
      | (apply eq_b; exact rfl)
      | (apply eq_n; exact rfl; exact Stop.mk (by first | with_reducible rfl | omega))
      | (apply eq_n; exact rfl)
      | (apply eq_s; exact rfl; exact Stop.mk (by with_reducible rfl))
      | (apply eq_s; exact rfl)
      | (apply eq_sl; exact rfl; exact Stop.mk (by with_reducible rfl))
      | (apply eq_sl; exact rfl)
      | (apply eq_row; exact rfl; exact Stop.mk (by with_reducible rfl))
      | (apply eq_row; exact rfl)
      | (apply eq_agg; exact rfl)
      | (apply eq_cons; exact rfl)
      | (apply eq_boxo; exact rfl)
      | (apply cell_agg; exact rfl; exact rfl; exact rfl)
      | (apply cell_one; exact rfl; exact rfl)
      | exact rfl
      | trivial
      )
    all_goals exact Stop.mk rfl
  refine awp_loop (fun (i : Nat × List UInt8) => ⟨20, [(0, .d (.n .i64 (i.1 : Int))), (3, .d (.s i.2))], []⟩) (fun i => numZ n = numZ i.1 ++ i.2 ∧ i.1 ≤ 4000000000) (fun i => i.1) (n, []) ⟨by simp, h⟩ ?_ ?_
  · refine ⟨rfl, ?_, ?_, rfl⟩
    repeat' (first
      | apply And.intro
      | (apply eq_b; exact rfl; exact Stop.mk (by with_reducible rfl))
      | (apply eq_b; exact rfl)
      | (apply eq_n; exact rfl; exact Stop.mk (by first | with_reducible rfl | omega))
      | (apply eq_n; exact rfl)
      | (apply eq_s; exact rfl; exact Stop.mk (by with_reducible rfl))
      | (apply eq_s; exact rfl)
      | (apply eq_sl; exact rfl; exact Stop.mk (by with_reducible rfl))
      | (apply eq_sl; exact rfl)
      | (apply eq_row; exact rfl; exact Stop.mk (by with_reducible rfl))
      | (apply eq_row; exact rfl)
      | (apply eq_agg; exact rfl)
      | (apply eq_cons; exact rfl)
      | (apply eq_boxo; exact rfl)
      | (apply cell_agg; exact rfl; exact rfl; exact rfl)
      | (apply cell_one; exact rfl; exact rfl)
      | exact rfl
      | trivial
      )
    all_goals exact Stop.mk rfl
  · rintro i ⟨hs, hn⟩
    rw [hs, List.length_append] at hz
    repeat' (first
      | apply awp_seq
      | (apply awp_regionN; exact rfl)
      | (refine Hb.mk (fun hb => ?_); (first | rw [inB_t] at hb | rw [inB_f] at hb | rw [inB_nt] at hb | rw [inB_nf] at hb | rw [decide_eq_true_eq] at hb | rw [decide_eq_false_iff_not] at hb | rw [beq_iff_eq] at hb | rw [beq_eq_false_iff_ne] at hb | rw [Bool.not_eq_true'] at hb | rw [Bool.not_eq_false'] at hb | rw [bne_iff_ne] at hb | rw [bne_eq_false_iff_eq] at hb | skip); (first | (exfalso; omega) | (exact absurd rfl hb) | skip))
      | (apply aopG_ok; exact rfl)
      | apply ops_nil
      | (apply awp_cond_t; exact rfl)
      | (apply awp_cond_f; exact rfl)
      | (apply cond_x; exact rfl)
      | apply awp_block
      | apply awp_skip
      | apply awp_exit
      | apply awp_ret'
      | (first | (apply ops_cons; exact rfl) | (apply ops_yes; exact rfl; exact rfl; exact rfl))
      | (apply ops_x; exact rfl; exact rfl; (fail_if_success exact (rfl : _ = AV.d (.b true))); (fail_if_success exact (rfl : _ = AV.d (.b false))); exact rfl)
      | (apply op_id; first | refine zk35 rfl rfl rfl ⟨rfl, rfl, rfl⟩ rfl rfl rfl rfl rfl rfl rfl rfl rfl ?_ | refine zk37 rfl rfl rfl rfl rfl rfl rfl ?_ | (apply qok_q; exact rfl))
      | (apply q_id; first | refine zk0 rfl rfl rfl rfl rfl ?_ | refine zk3 rfl rfl rfl rfl rfl ?_ | refine zk4 rfl rfl rfl rfl rfl ?_ | refine zk5 rfl rfl rfl rfl rfl ?_ | refine zk8 rfl rfl rfl rfl rfl ?_ | refine zk9 rfl rfl rfl rfl rfl ?_ | refine zk17 rfl rfl rfl rfl rfl rfl rfl ?_ | refine zk19 rfl rfl rfl rfl rfl ?_ | refine zk20 rfl rfl rfl rfl rfl rfl ?_ | refine zk21 rfl rfl rfl rfl rfl rfl ?_ | refine zk22 rfl rfl rfl rfl rfl rfl ?_)
      )
    · refine ⟨(i.1 / 10, [UInt8.ofNat (48 + i.1 % 10)] ++ i.2), ⟨by rw [hs, numZ_step (by omega)]; simp, by simp only; omega⟩, by simp only; omega, ?_⟩
      refine ⟨rfl, ?_, ?_, rfl⟩
      repeat' (first
        | apply And.intro
        | (apply eq_b; exact rfl; exact Stop.mk (by with_reducible rfl))
        | (apply eq_b; exact rfl)
        | (apply eq_n; exact rfl; exact Stop.mk (by first | with_reducible rfl | omega))
        | (apply eq_n; exact rfl)
        | (apply eq_s; exact rfl; exact Stop.mk (by with_reducible rfl))
        | (apply eq_s; exact rfl)
        | (apply eq_sl; exact rfl; exact Stop.mk (by with_reducible rfl))
        | (apply eq_sl; exact rfl)
        | (apply eq_row; exact rfl; exact Stop.mk (by with_reducible rfl))
        | (apply eq_row; exact rfl)
        | (apply eq_agg; exact rfl)
        | (apply eq_cons; exact rfl)
        | (apply eq_boxo; exact rfl)
        | (apply cell_agg; exact rfl; exact rfl; exact rfl)
        | (apply cell_one; exact rfl; exact rfl)
        | exact rfl
        | trivial
        )
      refine Stop.mk ?_
      rfl
    · have h0 : i.1 = 0 := by omega
      have he : i.2 = numZ n := by rw [hs, h0]; rfl
      have hm : markTx n = [109] ++ i.2 := by rw [markTx, if_neg (by omega), he]
      rw [hm]
      refine Stop.mk ?_
      refine ret_intro [] rfl rfl ?_ ?_
      repeat' (first
        | apply And.intro
        | (apply eq_b; exact rfl; exact Stop.mk (by with_reducible rfl))
        | (apply eq_b; exact rfl)
        | (apply eq_n; exact rfl; exact Stop.mk (by first | with_reducible rfl | omega))
        | (apply eq_n; exact rfl)
        | (apply eq_s; exact rfl; exact Stop.mk (by with_reducible rfl))
        | (apply eq_s; exact rfl)
        | (apply eq_sl; exact rfl; exact Stop.mk (by with_reducible rfl))
        | (apply eq_sl; exact rfl)
        | (apply eq_row; exact rfl; exact Stop.mk (by with_reducible rfl))
        | (apply eq_row; exact rfl)
        | (apply eq_agg; exact rfl)
        | (apply eq_cons; exact rfl)
        | (apply eq_boxo; exact rfl)
        | (apply cell_agg; exact rfl; exact rfl; exact rfl)
        | (apply cell_one; exact rfl; exact rfl)
        | exact rfl
        | trivial
        )
      all_goals exact Stop.mk rfl
def gS (k j : Nat) : List UInt8 := markTx (k + j)
set_option maxRecDepth 100000 in
theorem markStringS_m {b : List (List UInt8)} {k : Nat} (h : b.length ≤ 1000000000) (hk : k ≤ 1000000000) : MCalls Try.prog 55 [.row 1000000, .d (.n .i64 k)] [(1000000, .row 9 (strE b) true)] (fun (_ : Unit) => True) (fun _ => [.d (.n .i64 ((k + b.length : Nat) : Int))]) (fun _ => [(1000000, .row 9 (strE (markL (gS k) b.length)) true)]) (fun _ => []) := by
  refine mcalls_of tt Try.func55 rfl rfl rfl ⟨flatE_map (fun _ => rfl), trivial⟩ (fun _ _ => ⟨⟨⟨rfl, rfl, lens_strE (markL_length _ _).symm⟩, trivial⟩, flatE_map (fun _ => rfl), trivial⟩) (fun w0 Z O => ?_)
  repeat' (first
    | apply awp_seq
    | (apply awp_regionN; exact rfl)
    | (refine Hb.mk (fun hb => ?_); (first | rw [inB_t] at hb | rw [inB_f] at hb | rw [inB_nt] at hb | rw [inB_nf] at hb | rw [decide_eq_true_eq] at hb | rw [decide_eq_false_iff_not] at hb | rw [beq_iff_eq] at hb | rw [beq_eq_false_iff_ne] at hb | rw [Bool.not_eq_true'] at hb | rw [Bool.not_eq_false'] at hb | rw [bne_iff_ne] at hb | rw [bne_eq_false_iff_eq] at hb | skip); (first | (exfalso; omega) | (exact absurd rfl hb) | skip))
    | (apply aopG_ok; exact rfl)
    | apply ops_nil
    | (apply awp_cond_t; exact rfl)
    | (apply awp_cond_f; exact rfl)
    | (apply cond_x; exact rfl)
    | apply awp_block
    | apply awp_skip
    | apply awp_exit
    | apply awp_ret'
    | (first | (apply ops_cons; exact rfl) | (apply ops_yes; exact rfl; exact rfl; exact rfl))
    | (apply ops_x; exact rfl; exact rfl; (fail_if_success exact (rfl : _ = AV.d (.b true))); (fail_if_success exact (rfl : _ = AV.d (.b false))); exact rfl)
    | (apply op_id; first | refine zk38 rfl rfl rfl rfl rfl rfl rfl rfl rfl rfl ?_ | (apply qok_q; exact rfl))
    | (apply q_id; first | refine zk0 rfl rfl rfl rfl rfl ?_ | refine zk5 rfl rfl rfl rfl rfl ?_ | refine zk11 rfl rfl rfl rfl rfl ?_ | refine zk12 rfl rfl rfl rfl rfl (fun _ => ?_) | refine zk13 rfl rfl rfl rfl rfl rfl rfl ?_ | refine zk14 rfl rfl rfl rfl rfl rfl rfl ?_ | refine zk19 rfl rfl rfl rfl rfl ?_ | refine zk30 rfl rfl rfl rfl rfl rfl rfl ?_ | refine zk31 rfl rfl rfl rfl rfl rfl rfl rfl ?_)
    )
  refine awp_loop (fun (i : Nat) => ⟨20, [(0, .row 1000000), (1, .d (.n .i64 ((k + i : Nat) : Int))), (5, .d (.n .i64 i))], [(1000000, .row 9 (strE (mkL (gS k) b i)) true)]⟩) (fun i => i ≤ b.length) (fun i => b.length - i) 0 (by omega) ?_ ?_
  · refine ⟨rfl, ?_, ?_, rfl⟩
    repeat' (first
      | apply And.intro
      | (apply eq_b; exact rfl; exact Stop.mk (by with_reducible rfl))
      | (apply eq_b; exact rfl)
      | (apply eq_n; exact rfl; exact Stop.mk (by first | with_reducible rfl | omega))
      | (apply eq_n; exact rfl)
      | (apply eq_s; exact rfl; exact Stop.mk (by with_reducible rfl))
      | (apply eq_s; exact rfl)
      | (apply eq_sl; exact rfl; exact Stop.mk (by with_reducible rfl))
      | (apply eq_sl; exact rfl)
      | (apply eq_row; exact rfl; exact Stop.mk (by with_reducible rfl))
      | (apply eq_row; exact rfl)
      | (apply eq_agg; exact rfl)
      | (apply eq_cons; exact rfl)
      | (apply eq_boxo; exact rfl)
      | (apply cell_agg; exact rfl; exact rfl; exact rfl)
      | (apply cell_one; exact rfl; exact rfl)
      | exact rfl
      | trivial
      )
    all_goals exact Stop.mk (by first | rfl | rw [mkL_0])
  · intro i hi
    have hl := mkL_length (gS k) b hi
    repeat' (first
      | apply awp_seq
      | (apply awp_regionN; exact rfl)
      | (refine Hb.mk (fun hb => ?_); (first | rw [inB_t] at hb | rw [inB_f] at hb | rw [inB_nt] at hb | rw [inB_nf] at hb | rw [decide_eq_true_eq] at hb | rw [decide_eq_false_iff_not] at hb | rw [beq_iff_eq] at hb | rw [beq_eq_false_iff_ne] at hb | rw [Bool.not_eq_true'] at hb | rw [Bool.not_eq_false'] at hb | rw [bne_iff_ne] at hb | rw [bne_eq_false_iff_eq] at hb | skip); (first | (exfalso; omega) | (exact absurd rfl hb) | skip))
      | (apply aopG_ok; exact rfl)
      | apply ops_nil
      | (apply awp_cond_t; exact rfl)
      | (apply awp_cond_f; exact rfl)
      | (apply cond_x; exact rfl)
      | apply awp_block
      | apply awp_skip
      | apply awp_exit
      | apply awp_ret'
      | (first | (apply ops_cons; exact rfl) | (apply ops_yes; exact rfl; exact rfl; exact rfl))
      | (apply ops_x; exact rfl; exact rfl; (fail_if_success exact (rfl : _ = AV.d (.b true))); (fail_if_success exact (rfl : _ = AV.d (.b false))); exact rfl)
      | (apply op_id; first | refine zk38 rfl rfl rfl rfl rfl rfl rfl rfl rfl rfl ?_ | refine st_call (markText_e (by omega)) rfl rfl rfl rfl rfl ?_ | (apply qok_q; exact rfl))
      | (apply q_id; first | refine zk0 rfl rfl rfl rfl rfl ?_ | refine zk5 rfl rfl rfl rfl rfl ?_ | refine zk11 rfl rfl rfl rfl rfl ?_ | refine zk12 rfl rfl rfl rfl rfl (fun _ => ?_) | refine zk13 rfl rfl rfl rfl rfl rfl rfl ?_ | refine zk14 rfl rfl rfl rfl rfl rfl rfl ?_ | refine zk19 rfl rfl rfl rfl rfl ?_ | refine zk30 rfl rfl rfl rfl rfl rfl rfl ?_ | refine zk31 rfl rfl rfl rfl rfl rfl rfl rfl ?_)
      )
    · refine ⟨i + 1, by omega, by omega, ?_⟩
      refine ⟨rfl, ?_, ?_, rfl⟩
      repeat' (first
        | apply And.intro
        | (apply eq_b; exact rfl; exact Stop.mk (by with_reducible rfl))
        | (apply eq_b; exact rfl)
        | (apply eq_n; exact rfl; exact Stop.mk (by first | with_reducible rfl | omega))
        | (apply eq_n; exact rfl)
        | (apply eq_s; exact rfl; exact Stop.mk (by with_reducible rfl))
        | (apply eq_s; exact rfl)
        | (apply eq_sl; exact rfl; exact Stop.mk (by with_reducible rfl))
        | (apply eq_sl; exact rfl)
        | (apply eq_row; exact rfl; exact Stop.mk (by with_reducible rfl))
        | (apply eq_row; exact rfl)
        | (apply eq_agg; exact rfl)
        | (apply eq_cons; exact rfl)
        | (apply eq_boxo; exact rfl)
        | (apply cell_agg; exact rfl; exact rfl; exact rfl)
        | (apply cell_one; exact rfl; exact rfl)
        | exact rfl
        | trivial
        )
      all_goals exact Stop.mk (by first | rfl | exact mkL_set (f := fun (s : List UInt8) => [D.s s]) (by omega))
    · obtain rfl : i = b.length := by omega
      refine Stop.mk ?_
      refine retM_intro () [] (by exact trivial) rfl ?_ ?_ ?_
      repeat' (first
        | apply And.intro
        | (apply eq_b; exact rfl; exact Stop.mk (by with_reducible rfl))
        | (apply eq_b; exact rfl)
        | (apply eq_n; exact rfl; exact Stop.mk (by first | with_reducible rfl | omega))
        | (apply eq_n; exact rfl)
        | (apply eq_s; exact rfl; exact Stop.mk (by with_reducible rfl))
        | (apply eq_s; exact rfl)
        | (apply eq_sl; exact rfl; exact Stop.mk (by with_reducible rfl))
        | (apply eq_sl; exact rfl)
        | (apply eq_row; exact rfl; exact Stop.mk (by with_reducible rfl))
        | (apply eq_row; exact rfl)
        | (apply eq_agg; exact rfl)
        | (apply eq_cons; exact rfl)
        | (apply eq_boxo; exact rfl)
        | (apply cell_agg; exact rfl; exact rfl; exact rfl)
        | (apply cell_one; exact rfl; exact rfl)
        | exact rfl
        | trivial
        )
      all_goals exact Stop.mk (by first | rfl | rw [mkL_all])
set_option maxRecDepth 100000 in
theorem heldStringS_e {n k : Nat} (h : n ≤ 1000000000) (hk : k ≤ 1000000000) : ACalls Try.prog 56 [.d (.sl (strE (markL (gS k) n))), .d (.n .i64 k)] [.d (.n .i64 ((k + n : Nat) : Int))] [] := by
  refine acalls_of tt Try.func56 rfl rfl rfl (fun w0 Z => ?_)
  have hl := markL_length (gS k) n
  repeat' (first
    | apply awp_seq
    | (apply awp_regionN; exact rfl)
    | (refine Hb.mk (fun hb => ?_); (first | rw [inB_t] at hb | rw [inB_f] at hb | rw [inB_nt] at hb | rw [inB_nf] at hb | rw [decide_eq_true_eq] at hb | rw [decide_eq_false_iff_not] at hb | rw [beq_iff_eq] at hb | rw [beq_eq_false_iff_ne] at hb | rw [Bool.not_eq_true'] at hb | rw [Bool.not_eq_false'] at hb | rw [bne_iff_ne] at hb | rw [bne_eq_false_iff_eq] at hb | skip); (first | (exfalso; omega) | (exact absurd rfl hb) | skip))
    | (apply aopG_ok; exact rfl)
    | apply ops_nil
    | (apply awp_drawq; exact rfl; kernel_rfl; kernel_rfl; exact rfl)
    | (apply awp_drawx; exact rfl; kernel_rfl; exact rfl)
    | (apply aopQ_ok; exact rfl)
    | apply qs_nil
    | (apply ch_nil; exact rfl)
    | (apply ch_cons; (· exact rfl); (· exact rfl); (· exact rfl); (· exact rfl); (· (intro w0 Z O; first | (apply aop_ok; exact rfl) | (apply QOk.ok; first | refine zk0 rfl rfl rfl rfl rfl ?_ | refine zk5 rfl rfl rfl rfl rfl ?_ | refine zk11 rfl rfl rfl rfl rfl ?_ | refine zk12 rfl rfl rfl rfl rfl (fun _ => ?_) | refine zk13 rfl rfl rfl rfl rfl rfl rfl ?_ | refine zk14 rfl rfl rfl rfl rfl rfl rfl ?_ | refine zk19 rfl rfl rfl rfl rfl ?_ | refine zk29 ns_ok rfl rfl rfl rfl rfl rfl rfl rfl ?_ | refine zk30 rfl rfl rfl rfl rfl rfl rfl ?_ | refine zk31 rfl rfl rfl rfl rfl rfl rfl rfl ?_) | refine zk38 rfl rfl rfl rfl rfl rfl rfl rfl rfl rfl ?_); exact ⟨rfl, rfl, rfl⟩); (· exact rfl); (· exact rfl); (· (repeat' (first | apply And.intro | exact Or.inl rfl | exact Or.inr ⟨rfl, rfl⟩ | exact trivial))); (· (repeat' (first | apply And.intro | exact trivial | exact rfl | exact flatE_map (fun _ => rfl) | apply flatE_app))); (· exact rfl); (· exact rfl); (· exact rfl); (· exact rfl))
    | (apply awp_cond_t; exact rfl)
    | (apply awp_cond_f; exact rfl)
    | (apply cond_x; exact rfl)
    | apply awp_block
    | apply awp_skip
    | apply awp_exit
    | apply awp_ret'
    | (first | (apply ops_cons; exact rfl) | (apply ops_yes; exact rfl; exact rfl; exact rfl))
    | (apply ops_x; exact rfl; exact rfl; (fail_if_success exact (rfl : _ = AV.d (.b true))); (fail_if_success exact (rfl : _ = AV.d (.b false))); exact rfl)
    | (first | (apply qs_cons; exact rfl) | (apply qs_yes; exact rfl; exact rfl; exact rfl))
    | (apply qs_x; exact rfl; exact rfl; (fail_if_success exact (rfl : _ = AV.d (.b true))); (fail_if_success exact (rfl : _ = AV.d (.b false))); exact rfl)
    | (apply op_id; first | refine zk38 rfl rfl rfl rfl rfl rfl rfl rfl rfl rfl ?_ | (apply qok_q; exact rfl))
    | (apply q_id; first | refine zk0 rfl rfl rfl rfl rfl ?_ | refine zk5 rfl rfl rfl rfl rfl ?_ | refine zk11 rfl rfl rfl rfl rfl ?_ | refine zk12 rfl rfl rfl rfl rfl (fun _ => ?_) | refine zk13 rfl rfl rfl rfl rfl rfl rfl ?_ | refine zk14 rfl rfl rfl rfl rfl rfl rfl ?_ | refine zk19 rfl rfl rfl rfl rfl ?_ | refine zk29 ns_ok rfl rfl rfl rfl rfl rfl rfl rfl ?_ | refine zk30 rfl rfl rfl rfl rfl rfl rfl ?_ | refine zk31 rfl rfl rfl rfl rfl rfl rfl rfl ?_)
    )
  refine awp_loop (fun (i : Nat) => ⟨22, [(0, .d (.sl (strE (markL (gS k) n)))), (1, .d (.n .i64 ((k + i : Nat) : Int))), (5, .d (.n .i64 i))], []⟩) (fun i => i ≤ n) (fun i => n - i) 0 (by omega) ?_ ?_
  · refine ⟨rfl, ?_, ?_, rfl⟩
    repeat' (first
      | apply And.intro
      | (apply eq_b; exact rfl; exact Stop.mk (by with_reducible rfl))
      | (apply eq_b; exact rfl)
      | (apply eq_n; exact rfl; exact Stop.mk (by first | with_reducible rfl | omega))
      | (apply eq_n; exact rfl)
      | (apply eq_s; exact rfl; exact Stop.mk (by with_reducible rfl))
      | (apply eq_s; exact rfl)
      | (apply eq_sl; exact rfl; exact Stop.mk (by with_reducible rfl))
      | (apply eq_sl; exact rfl)
      | (apply eq_row; exact rfl; exact Stop.mk (by with_reducible rfl))
      | (apply eq_row; exact rfl)
      | (apply eq_agg; exact rfl)
      | (apply eq_cons; exact rfl)
      | (apply eq_boxo; exact rfl)
      | (apply cell_agg; exact rfl; exact rfl; exact rfl)
      | (apply cell_one; exact rfl; exact rfl)
      | exact rfl
      | trivial
      )
    all_goals exact Stop.mk rfl
  · intro i hi
    repeat' (first
      | apply awp_seq
      | (apply awp_regionN; exact rfl)
      | (refine Hb.mk (fun hb => ?_); (first | rw [inB_t] at hb | rw [inB_f] at hb | rw [inB_nt] at hb | rw [inB_nf] at hb | rw [decide_eq_true_eq] at hb | rw [decide_eq_false_iff_not] at hb | rw [beq_iff_eq] at hb | rw [beq_eq_false_iff_ne] at hb | rw [Bool.not_eq_true'] at hb | rw [Bool.not_eq_false'] at hb | rw [bne_iff_ne] at hb | rw [bne_eq_false_iff_eq] at hb | skip); (first | (exfalso; omega) | (exact absurd rfl hb) | skip))
      | (apply aopG_ok; exact rfl)
      | apply ops_nil
      | (apply awp_drawq; exact rfl; kernel_rfl; kernel_rfl; exact rfl)
      | (apply awp_drawx; exact rfl; kernel_rfl; exact rfl)
      | (apply aopQ_ok; exact rfl)
      | apply qs_nil
      | (apply ch_nil; exact rfl)
      | (apply ch_cons; (· exact rfl); (· exact rfl); (· exact rfl); (· exact rfl); (· (intro w0 Z O; first | (apply aop_ok; exact rfl) | (apply QOk.ok; first | refine zk0 rfl rfl rfl rfl rfl ?_ | refine zk5 rfl rfl rfl rfl rfl ?_ | refine zk11 rfl rfl rfl rfl rfl ?_ | refine zk12 rfl rfl rfl rfl rfl (fun _ => ?_) | refine zk13 rfl rfl rfl rfl rfl rfl rfl ?_ | refine zk14 rfl rfl rfl rfl rfl rfl rfl ?_ | refine zk19 rfl rfl rfl rfl rfl ?_ | refine zk29 ns_ok rfl rfl rfl rfl rfl rfl rfl rfl ?_ | refine zk30 rfl rfl rfl rfl rfl rfl rfl ?_ | refine zk31 rfl rfl rfl rfl rfl rfl rfl rfl ?_) | refine zk38 rfl rfl rfl rfl rfl rfl rfl rfl rfl rfl ?_ | refine st_call (markText_e (by omega)) rfl rfl rfl rfl rfl ?_); exact ⟨rfl, rfl, rfl⟩); (· exact rfl); (· exact rfl); (· (repeat' (first | apply And.intro | exact Or.inl rfl | exact Or.inr ⟨rfl, rfl⟩ | exact trivial))); (· (repeat' (first | apply And.intro | exact trivial | exact rfl | exact flatE_map (fun _ => rfl) | apply flatE_app))); (· exact rfl); (· exact rfl); (· exact rfl); (· exact rfl))
      | (apply awp_cond_t; exact rfl)
      | (apply awp_cond_f; exact rfl)
      | (apply cond_x; exact rfl)
      | apply awp_block
      | apply awp_skip
      | apply awp_exit
      | apply awp_ret'
      | (first | (apply ops_cons; exact rfl) | (apply ops_yes; exact rfl; exact rfl; exact rfl))
      | (apply ops_x; exact rfl; exact rfl; (fail_if_success exact (rfl : _ = AV.d (.b true))); (fail_if_success exact (rfl : _ = AV.d (.b false))); exact rfl)
      | (first | (apply qs_cons; exact rfl) | (apply qs_yes; exact rfl; exact rfl; exact rfl))
      | (apply qs_x; exact rfl; exact rfl; (fail_if_success exact (rfl : _ = AV.d (.b true))); (fail_if_success exact (rfl : _ = AV.d (.b false))); exact rfl)
      | (apply q_id; first | refine st_callq (markText_e (by omega)) rfl rfl rfl rfl rfl ?_)
      | (apply op_id; first | refine zk38 rfl rfl rfl rfl rfl rfl rfl rfl rfl rfl ?_ | refine st_call (markText_e (by omega)) rfl rfl rfl rfl rfl ?_ | (apply qok_q; exact rfl))
      | (apply q_id; first | refine zk0 rfl rfl rfl rfl rfl ?_ | refine zk5 rfl rfl rfl rfl rfl ?_ | refine zk11 rfl rfl rfl rfl rfl ?_ | refine zk12 rfl rfl rfl rfl rfl (fun _ => ?_) | refine zk13 rfl rfl rfl rfl rfl rfl rfl ?_ | refine zk14 rfl rfl rfl rfl rfl rfl rfl ?_ | refine zk19 rfl rfl rfl rfl rfl ?_ | refine zk29 ns_ok rfl rfl rfl rfl rfl rfl rfl rfl ?_ | refine zk30 rfl rfl rfl rfl rfl rfl rfl ?_ | refine zk31 rfl rfl rfl rfl rfl rfl rfl rfl ?_)
      )
    · exact absurd (by rw [markL_nth (by omega)]; rfl) hb
    · refine ⟨i + 1, by omega, by omega, ?_⟩
      refine ⟨rfl, ?_, ?_, rfl⟩
      repeat' (first
        | apply And.intro
        | (apply eq_b; exact rfl; exact Stop.mk (by with_reducible rfl))
        | (apply eq_b; exact rfl)
        | (apply eq_n; exact rfl; exact Stop.mk (by first | with_reducible rfl | omega))
        | (apply eq_n; exact rfl)
        | (apply eq_s; exact rfl; exact Stop.mk (by with_reducible rfl))
        | (apply eq_s; exact rfl)
        | (apply eq_sl; exact rfl; exact Stop.mk (by with_reducible rfl))
        | (apply eq_sl; exact rfl)
        | (apply eq_row; exact rfl; exact Stop.mk (by with_reducible rfl))
        | (apply eq_row; exact rfl)
        | (apply eq_agg; exact rfl)
        | (apply eq_cons; exact rfl)
        | (apply eq_boxo; exact rfl)
        | (apply cell_agg; exact rfl; exact rfl; exact rfl)
        | (apply cell_one; exact rfl; exact rfl)
        | exact rfl
        | trivial
        )
      all_goals exact Stop.mk rfl
    · obtain rfl : i = n := by omega
      refine Stop.mk ?_
      refine ret_intro [] rfl rfl ?_ ?_
      repeat' (first
        | apply And.intro
        | (apply eq_b; exact rfl; exact Stop.mk (by with_reducible rfl))
        | (apply eq_b; exact rfl)
        | (apply eq_n; exact rfl; exact Stop.mk (by first | with_reducible rfl | omega))
        | (apply eq_n; exact rfl)
        | (apply eq_s; exact rfl; exact Stop.mk (by with_reducible rfl))
        | (apply eq_s; exact rfl)
        | (apply eq_sl; exact rfl; exact Stop.mk (by with_reducible rfl))
        | (apply eq_sl; exact rfl)
        | (apply eq_row; exact rfl; exact Stop.mk (by with_reducible rfl))
        | (apply eq_row; exact rfl)
        | (apply eq_agg; exact rfl)
        | (apply eq_cons; exact rfl)
        | (apply eq_boxo; exact rfl)
        | (apply cell_agg; exact rfl; exact rfl; exact rfl)
        | (apply cell_one; exact rfl; exact rfl)
        | exact rfl
        | trivial
        )
      all_goals exact Stop.mk rfl
theorem readR_len (b : List UInt8) : (readR b).2 ≤ b.length ∧ (readR b).1.length ≤ b.length := by
  have key : ∀ (f : Nat) (x : RdSt), x.2 ≤ b.length → x.1.length ≤ x.2 → (rdF b f x).2 ≤ b.length ∧ (rdF b f x).1.length ≤ (rdF b f x).2 := by
    intro f
    induction f with
    | zero => intro x h1 h2; exact ⟨h1, h2⟩
    | succ f ih =>
      intro x h1 h2
      rw [rdF]
      split
      · rename_i hk
        have he := eol_in h1
        have k1 := hk.1
        have k2 := hk.2.1
        exact ih _ (by simp only [rdNext]; omega) (by simp only [rdNext, List.length_append, List.length_singleton]; omega)
      · exact ⟨h1, h2⟩
  have := key (b.length + 1) ([], 0) (Nat.zero_le _) (Nat.le_refl _)
  exact ⟨this.1, Nat.le_trans this.2 this.1⟩
set_option maxRecDepth 100000 in
set_option maxHeartbeats 4000000 in
theorem lawReadRecords_e {b : List UInt8} : ACalls Try.prog 11 [.d (.sl (byteE b))] [.d (.b true)] [] := by
  refine acalls_of tt Try.func11 rfl rfl rfl (fun w0 Z => ?_)
  have hr := readR_len b
  repeat' (first
    | apply awp_seq
    | (apply awp_regionN; exact rfl)
    | (refine Hb.mk (fun hb => ?_); (first | rw [inB_t] at hb | rw [inB_f] at hb | rw [inB_nt] at hb | rw [inB_nf] at hb | rw [decide_eq_true_eq] at hb | rw [decide_eq_false_iff_not] at hb | rw [beq_iff_eq] at hb | rw [beq_eq_false_iff_ne] at hb | rw [Bool.not_eq_true'] at hb | rw [Bool.not_eq_false'] at hb | rw [bne_iff_ne] at hb | rw [bne_eq_false_iff_eq] at hb | skip); (first | (exfalso; omega) | (exact absurd rfl hb) | skip))
    | (apply aopG_ok; exact rfl)
    | apply ops_nil
    | (apply awp_cond_t; exact rfl)
    | (apply awp_cond_f; exact rfl)
    | (apply cond_x; exact rfl)
    | apply awp_block
    | apply awp_skip
    | apply awp_exit
    | apply awp_ret'
    | (first | (apply ops_cons; exact rfl) | (apply ops_yes; exact rfl; exact rfl; exact rfl))
    | (apply ops_x; exact rfl; exact rfl; (fail_if_success exact (rfl : _ = AV.d (.b true))); (fail_if_success exact (rfl : _ = AV.d (.b false))); exact rfl)
    | (apply op_id; first | refine st_call (toByteS_e (by omega)) rfl rfl rfl rfl rfl ?_ | refine st_call (readRecords_s (b := b) (by omega)) rfl rfl rfl rfl rfl ?_ | refine st_call (readRecords_e (b := b) (by omega)) rfl rfl rfl rfl rfl ?_ | refine st_call (eqStringS_r (by omega)) rfl rfl rfl rfl rfl ?_ | refine st_call (eqByteS_r (by omega)) rfl rfl rfl rfl rfl ?_ | refine st_call (heldStringS_e (k := 1) (by omega) (by omega)) rfl rfl rfl rfl rfl ?_ | (refine st_callm [23] (markByteS_m (b := b) (k := 1) (by omega) (by omega)) rfl rfl rfl rfl rfl (fun _ _ => rfl) rfl (fun i hi => ?_); (try dsimp only at hi)) | (refine st_callm [26] (markStringS_m (k := 1) (by omega) (by omega)) rfl rfl rfl rfl rfl (fun _ _ => rfl) rfl (fun i hi => ?_); (try dsimp only at hi)) | (apply qok_q; exact rfl))
    | (apply q_id; first | refine zk11 rfl rfl rfl rfl rfl ?_ | refine zk12 rfl rfl rfl rfl rfl (fun _ => ?_) | refine zk29 ns_ok rfl rfl rfl rfl rfl rfl rfl rfl ?_)
    )
  all_goals
    refine Stop.mk ?_
    refine ret_intro [] rfl rfl ?_ ?_
    repeat' (first
      | apply And.intro
      | (apply eq_b; exact rfl; exact Stop.mk (by with_reducible rfl))
      | (apply eq_b; exact rfl)
      | (apply eq_n; exact rfl; exact Stop.mk (by first | with_reducible rfl | omega))
      | (apply eq_n; exact rfl)
      | (apply eq_s; exact rfl; exact Stop.mk (by with_reducible rfl))
      | (apply eq_s; exact rfl)
      | (apply eq_sl; exact rfl; exact Stop.mk (by with_reducible rfl))
      | (apply eq_sl; exact rfl)
      | (apply eq_row; exact rfl; exact Stop.mk (by with_reducible rfl))
      | (apply eq_row; exact rfl)
      | (apply eq_agg; exact rfl)
      | (apply eq_cons; exact rfl)
      | (apply eq_boxo; exact rfl)
      | (apply cell_agg; exact rfl; exact rfl; exact rfl)
      | (apply cell_one; exact rfl; exact rfl)
      | exact rfl
      | trivial
      )
end Go.Proofs.Ythmajaeekkbnnaa
