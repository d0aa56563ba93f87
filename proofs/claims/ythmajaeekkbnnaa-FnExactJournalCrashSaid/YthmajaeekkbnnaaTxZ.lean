/-
  Marks of journals; the laws of JournalOpen, JournalSync, JournalAdd, JournalCrash, without their arguments.
-/
import Derived.Test.YthmajaeekkbnnaaTxY
namespace Go.Proofs.Ythmajaeekkbnnaa
open Go Go.RowKit
attribute [local irreducible] AWp OpsOk OpOk ACalls ChA QsOk MCalls

set_option maxRecDepth 100000 in
theorem markByteS_0 {k : Nat} : ACalls Try.prog 54 [.d (.sl (byteE [])), .d (.n .i64 k)] [.d (.n .i64 k)] [] := by
  refine acalls_of tt Try.func54 rfl rfl rfl (fun w0 Z => ?_)
  repeat' (first
    | apply awp_seq
    | (apply awp_regionN; exact rfl)
    | (apply aopG_ok; exact rfl)
    | apply ops_nil
    | (apply awp_cond_t; exact rfl)
    | (apply awp_cond_f; exact rfl)
    | ((apply awp_cond; exact rfl) <;> intro hb <;> (first | rw [inB_t] at hb | rw [inB_f] at hb | rw [inB_nt] at hb | rw [inB_nf] at hb | rw [decide_eq_true_eq] at hb | rw [decide_eq_false_iff_not] at hb | rw [beq_iff_eq] at hb | rw [beq_eq_false_iff_ne] at hb | rw [Bool.not_eq_true'] at hb | rw [Bool.not_eq_false'] at hb | rw [bne_iff_ne] at hb | rw [bne_eq_false_iff_eq] at hb | skip) <;> (first | (exfalso; omega) | (exact absurd rfl hb) | skip))
    | apply awp_block
    | apply awp_skip
    | apply awp_exit
    | apply awp_ret'
    | ((first | (apply ops_cons; exact rfl) | (apply ops_yes; exact rfl; exact rfl; exact rfl)); first | (apply QOk.ok; first | refine st_addn rfl rfl rfl (by first | with_reducible rfl | exact nlit _ | exact (Int.toNat_of_nonneg (by omega)).symm | rfl) rfl (by first | with_reducible rfl | exact nlit _ | exact (Int.toNat_of_nonneg (by omega)).symm | rfl) (by omega) rfl ?_ | refine st_add rfl rfl rfl rfl (by omega) rfl ?_ | refine st_lens rfl rfl rfl rfl rfl ?_ | refine st_len rfl rfl rfl rfl (by first | exact List.length_map _ | exact chunk_length _ _ _ | exact byteE_length _ | exact strE_length _ | exact intE_length _ | exact (rfl : _ = 1) | exact (rfl : _ = 0) | exact (rfl : _ = 2) | exact (rfl : _ = 3) | exact cutM_length (by omega) | rfl) rfl (fun _ => ?_) | refine st_idxn rfl rfl rfl rfl rfl (by first | with_reducible rfl | exact nlit _ | exact (Int.toNat_of_nonneg (by omega)).symm | rfl) (by first | exact List.length_map _ | exact chunk_length _ _ _ | exact byteE_length _ | exact strE_length _ | exact intE_length _ | exact (rfl : _ = 1) | exact (rfl : _ = 0) | exact (rfl : _ = 2) | exact (rfl : _ = 3) | exact cutM_length (by omega) | rfl) (by first | omega | decide) (by first | exact map_at (by omega) | rfl | exact set_at (by omega)) rfl rfl ?_ | refine st_idxrn rfl rfl rfl rfl rfl rfl (by first | with_reducible rfl | exact nlit _ | exact (Int.toNat_of_nonneg (by omega)).symm | rfl) (by first | exact List.length_map _ | exact chunk_length _ _ _ | exact byteE_length _ | exact strE_length _ | exact intE_length _ | exact (rfl : _ = 1) | exact (rfl : _ = 0) | exact (rfl : _ = 2) | exact (rfl : _ = 3) | exact cutM_length (by omega) | rfl) (by first | omega | decide) rfl ?_ | refine st_tostr rfl rfl rfl rfl rfl rfl (by first | rfl | exact byteE_one (by omega) | exact byteE_cut _ _ _) rfl ?_ | refine st_catn rfl rfl rfl rfl (by first | omega | (simp only [List.length_cons, List.length_nil]; omega) | (simp only [List.length_append]; omega) | (simp only [List.length_append, List.length_cons, List.length_nil]; omega)) rfl ?_ | refine st_conv8 rfl rfl rfl rfl rfl (by omega) rfl ?_ | refine st_conv8n rfl rfl rfl rfl rfl (by first | with_reducible rfl | exact nlit _ | exact (Int.toNat_of_nonneg (by omega)).symm | rfl) rfl ?_ | refine st_conv64 rfl rfl rfl rfl rfl (by omega) rfl ?_ | refine st_loadr1 rfl rfl rfl rfl (by first | exact map_at (by omega) | rfl | exact set_at (by omega)) rfl rfl rfl ?_ | refine st_loadrN rfl rfl rfl rfl (by first | exact map_at (by omega) | rfl | exact set_at (by omega)) rfl rfl rfl rfl ?_) | refine st_tobytes rfl rfl rfl rfl rfl rfl (by omega) rfl ?_ | refine st_storer rfl rfl rfl rfl rfl rfl (by first | exact List.length_map _ | exact chunk_length _ _ _ | exact byteE_length _ | exact strE_length _ | exact intE_length _ | exact (rfl : _ = 1) | exact (rfl : _ = 0) | exact (rfl : _ = 2) | exact (rfl : _ = 3) | exact cutM_length (by omega) | rfl) (by omega) (by first | exact map_at (by omega) | rfl | exact set_at (by omega)) rfl rfl rfl rfl ?_)
    | ((apply ops_gsplit; exact rfl; exact rfl; (fail_if_success exact (rfl : _ = AV.d (.b true))); (fail_if_success exact (rfl : _ = AV.d (.b false))); exact rfl) <;> intro hb <;> (first | rw [inB_t] at hb | rw [inB_f] at hb | rw [inB_nt] at hb | rw [inB_nf] at hb | rw [decide_eq_true_eq] at hb | rw [decide_eq_false_iff_not] at hb | rw [beq_iff_eq] at hb | rw [beq_eq_false_iff_ne] at hb | rw [Bool.not_eq_true'] at hb | rw [Bool.not_eq_false'] at hb | rw [bne_iff_ne] at hb | rw [bne_eq_false_iff_eq] at hb | skip) <;> (first | (exfalso; omega) | (exact absurd rfl hb) | skip))
    )
  refine awp_loop (fun (_ : Unit) => ⟨20, [(0, .d (.sl (byteE []))), (1, .d (.n .i64 k)), (5, .d (.n .i64 0))], []⟩) (fun _ => True) (fun _ => 0) () trivial ?_ ?_
  · refine ⟨rfl, ?_, ?_, rfl⟩
    repeat' (first
      | apply And.intro
      | (apply eq_b; exact rfl; exact Stop.mk (by with_reducible rfl))
      | (apply eq_b; exact rfl)
      | (apply eq_n; exact rfl; exact Stop.mk (by first | with_reducible rfl | omega))
      | (apply eq_n; exact rfl)
      | (apply eq_s; exact rfl; exact Stop.mk (by with_reducible rfl))
      | (apply eq_s; exact rfl)
      | (apply eq_sl; exact rfl; exact Stop.mk (by with_reducible rfl))
      | (apply eq_sl; exact rfl)
      | (apply eq_row; exact rfl; exact Stop.mk (by with_reducible rfl))
      | (apply eq_row; exact rfl)
      | (apply eq_agg; exact rfl)
      | (apply eq_cons; exact rfl)
      | (apply eq_boxo; exact rfl)
      | (apply cell_agg; exact rfl; exact rfl; exact rfl)
      | (apply cell_one; exact rfl; exact rfl)
      | exact rfl
      | trivial
      )
    all_goals exact Stop.mk rfl
  · intro i hi
    repeat' (first
      | apply awp_seq
      | (apply awp_regionN; exact rfl)
      | (apply aopG_ok; exact rfl)
      | apply ops_nil
      | (apply awp_cond_t; exact rfl)
      | (apply awp_cond_f; exact rfl)
      | ((apply awp_cond; exact rfl) <;> intro hb <;> (first | rw [inB_t] at hb | rw [inB_f] at hb | rw [inB_nt] at hb | rw [inB_nf] at hb | rw [decide_eq_true_eq] at hb | rw [decide_eq_false_iff_not] at hb | rw [beq_iff_eq] at hb | rw [beq_eq_false_iff_ne] at hb | rw [Bool.not_eq_true'] at hb | rw [Bool.not_eq_false'] at hb | rw [bne_iff_ne] at hb | rw [bne_eq_false_iff_eq] at hb | skip) <;> (first | (exfalso; omega) | (exact absurd rfl hb) | skip))
      | apply awp_block
      | apply awp_skip
      | apply awp_exit
      | apply awp_ret'
      | ((first | (apply ops_cons; exact rfl) | (apply ops_yes; exact rfl; exact rfl; exact rfl)); first | (apply QOk.ok; first | refine st_addn rfl rfl rfl (by first | with_reducible rfl | exact nlit _ | exact (Int.toNat_of_nonneg (by omega)).symm | rfl) rfl (by first | with_reducible rfl | exact nlit _ | exact (Int.toNat_of_nonneg (by omega)).symm | rfl) (by omega) rfl ?_ | refine st_add rfl rfl rfl rfl (by omega) rfl ?_ | refine st_lens rfl rfl rfl rfl rfl ?_ | refine st_len rfl rfl rfl rfl (by first | exact List.length_map _ | exact chunk_length _ _ _ | exact byteE_length _ | exact strE_length _ | exact intE_length _ | exact (rfl : _ = 1) | exact (rfl : _ = 0) | exact (rfl : _ = 2) | exact (rfl : _ = 3) | exact cutM_length (by omega) | rfl) rfl (fun _ => ?_) | refine st_idxn rfl rfl rfl rfl rfl (by first | with_reducible rfl | exact nlit _ | exact (Int.toNat_of_nonneg (by omega)).symm | rfl) (by first | exact List.length_map _ | exact chunk_length _ _ _ | exact byteE_length _ | exact strE_length _ | exact intE_length _ | exact (rfl : _ = 1) | exact (rfl : _ = 0) | exact (rfl : _ = 2) | exact (rfl : _ = 3) | exact cutM_length (by omega) | rfl) (by first | omega | decide) (by first | exact map_at (by omega) | rfl | exact set_at (by omega)) rfl rfl ?_ | refine st_idxrn rfl rfl rfl rfl rfl rfl (by first | with_reducible rfl | exact nlit _ | exact (Int.toNat_of_nonneg (by omega)).symm | rfl) (by first | exact List.length_map _ | exact chunk_length _ _ _ | exact byteE_length _ | exact strE_length _ | exact intE_length _ | exact (rfl : _ = 1) | exact (rfl : _ = 0) | exact (rfl : _ = 2) | exact (rfl : _ = 3) | exact cutM_length (by omega) | rfl) (by first | omega | decide) rfl ?_ | refine st_tostr rfl rfl rfl rfl rfl rfl (by first | rfl | exact byteE_one (by omega) | exact byteE_cut _ _ _) rfl ?_ | refine st_catn rfl rfl rfl rfl (by first | omega | (simp only [List.length_cons, List.length_nil]; omega) | (simp only [List.length_append]; omega) | (simp only [List.length_append, List.length_cons, List.length_nil]; omega)) rfl ?_ | refine st_conv8 rfl rfl rfl rfl rfl (by omega) rfl ?_ | refine st_conv8n rfl rfl rfl rfl rfl (by first | with_reducible rfl | exact nlit _ | exact (Int.toNat_of_nonneg (by omega)).symm | rfl) rfl ?_ | refine st_conv64 rfl rfl rfl rfl rfl (by omega) rfl ?_ | refine st_loadr1 rfl rfl rfl rfl (by first | exact map_at (by omega) | rfl | exact set_at (by omega)) rfl rfl rfl ?_ | refine st_loadrN rfl rfl rfl rfl (by first | exact map_at (by omega) | rfl | exact set_at (by omega)) rfl rfl rfl rfl ?_) | refine st_tobytes rfl rfl rfl rfl rfl rfl (by omega) rfl ?_ | refine st_storer rfl rfl rfl rfl rfl rfl (by first | exact List.length_map _ | exact chunk_length _ _ _ | exact byteE_length _ | exact strE_length _ | exact intE_length _ | exact (rfl : _ = 1) | exact (rfl : _ = 0) | exact (rfl : _ = 2) | exact (rfl : _ = 3) | exact cutM_length (by omega) | rfl) (by omega) (by first | exact map_at (by omega) | rfl | exact set_at (by omega)) rfl rfl rfl rfl ?_)
      | ((apply ops_gsplit; exact rfl; exact rfl; (fail_if_success exact (rfl : _ = AV.d (.b true))); (fail_if_success exact (rfl : _ = AV.d (.b false))); exact rfl) <;> intro hb <;> (first | rw [inB_t] at hb | rw [inB_f] at hb | rw [inB_nt] at hb | rw [inB_nf] at hb | rw [decide_eq_true_eq] at hb | rw [decide_eq_false_iff_not] at hb | rw [beq_iff_eq] at hb | rw [beq_eq_false_iff_ne] at hb | rw [Bool.not_eq_true'] at hb | rw [Bool.not_eq_false'] at hb | rw [bne_iff_ne] at hb | rw [bne_eq_false_iff_eq] at hb | skip) <;> (first | (exfalso; omega) | (exact absurd rfl hb) | skip))
      )
    refine Stop.mk ?_
    refine ret_intro [] rfl rfl ?_ ?_
    repeat' (first
      | apply And.intro
      | (apply eq_b; exact rfl; exact Stop.mk (by with_reducible rfl))
      | (apply eq_b; exact rfl)
      | (apply eq_n; exact rfl; exact Stop.mk (by first | with_reducible rfl | omega))
      | (apply eq_n; exact rfl)
      | (apply eq_s; exact rfl; exact Stop.mk (by with_reducible rfl))
      | (apply eq_s; exact rfl)
      | (apply eq_sl; exact rfl; exact Stop.mk (by with_reducible rfl))
      | (apply eq_sl; exact rfl)
      | (apply eq_row; exact rfl; exact Stop.mk (by with_reducible rfl))
      | (apply eq_row; exact rfl)
      | (apply eq_agg; exact rfl)
      | (apply eq_cons; exact rfl)
      | (apply eq_boxo; exact rfl)
      | (apply cell_agg; exact rfl; exact rfl; exact rfl)
      | (apply cell_one; exact rfl; exact rfl)
      | exact rfl
      | trivial
      )
    all_goals exact Stop.mk rfl
set_option maxRecDepth 100000 in
theorem markJournal_m {j : Journal} {k : Nat} (h : j.bytes.length ≤ 1000000000) (hk : k ≤ 1000000000) : MCalls Try.prog 66 [.agg [.row 1000000, .d (.n .i64 j.synced), .d (.n .i64 j.count)], .d (.n .i64 k)] [(1000000, .row 5 (byteE j.bytes) true)] (fun (_ : Unit) => True) (fun _ => [.d (.n .i64 ((k + j.bytes.length : Nat) : Int))]) (fun _ => [(1000000, .row 5 (byteE (markL (gB k) j.bytes.length)) true)]) (fun _ => []) := by
  refine mcalls_of tt Try.func66 rfl rfl rfl ⟨flatE_map (fun _ => rfl), trivial⟩ (fun _ _ => ⟨⟨⟨rfl, rfl, lens_byteE (markL_length _ _).symm⟩, trivial⟩, flatE_map (fun _ => rfl), trivial⟩) (fun w0 Z O => ?_)
  repeat' (first
    | apply awp_seq
    | (apply awp_regionN; exact rfl)
    | (apply aopG_ok; exact rfl)
    | apply ops_nil
    | (apply awp_cond_t; exact rfl)
    | (apply awp_cond_f; exact rfl)
    | ((apply awp_cond; exact rfl) <;> intro hb <;> (first | rw [inB_t] at hb | rw [inB_f] at hb | rw [inB_nt] at hb | rw [inB_nf] at hb | rw [decide_eq_true_eq] at hb | rw [decide_eq_false_iff_not] at hb | rw [beq_iff_eq] at hb | rw [beq_eq_false_iff_ne] at hb | rw [Bool.not_eq_true'] at hb | rw [Bool.not_eq_false'] at hb | rw [bne_iff_ne] at hb | rw [bne_eq_false_iff_eq] at hb | skip) <;> (first | (exfalso; omega) | (exact absurd rfl hb) | skip))
    | apply awp_block
    | apply awp_skip
    | apply awp_exit
    | apply awp_ret'
    | ((first | (apply ops_cons; exact rfl) | (apply ops_yes; exact rfl; exact rfl; exact rfl)); first | refine st_callm [1000000] (markByteS_m (b := j.bytes) (k := k) h hk) rfl rfl rfl rfl rfl (fun _ _ => rfl) rfl (fun i hi => ?_); (try dsimp only at hi))
    | ((apply ops_gsplit; exact rfl; exact rfl; (fail_if_success exact (rfl : _ = AV.d (.b true))); (fail_if_success exact (rfl : _ = AV.d (.b false))); exact rfl) <;> intro hb <;> (first | rw [inB_t] at hb | rw [inB_f] at hb | rw [inB_nt] at hb | rw [inB_nf] at hb | rw [decide_eq_true_eq] at hb | rw [decide_eq_false_iff_not] at hb | rw [beq_iff_eq] at hb | rw [beq_eq_false_iff_ne] at hb | rw [Bool.not_eq_true'] at hb | rw [Bool.not_eq_false'] at hb | rw [bne_iff_ne] at hb | rw [bne_eq_false_iff_eq] at hb | skip) <;> (first | (exfalso; omega) | (exact absurd rfl hb) | skip))
    )
  refine Stop.mk ?_
  refine retM_intro () [] (by exact trivial) rfl ?_ ?_ ?_
  repeat' (first
    | apply And.intro
    | (apply eq_b; exact rfl; exact Stop.mk (by with_reducible rfl))
    | (apply eq_b; exact rfl)
    | (apply eq_n; exact rfl; exact Stop.mk (by first | with_reducible rfl | omega))
    | (apply eq_n; exact rfl)
    | (apply eq_s; exact rfl; exact Stop.mk (by with_reducible rfl))
    | (apply eq_s; exact rfl)
    | (apply eq_sl; exact rfl; exact Stop.mk (by with_reducible rfl))
    | (apply eq_sl; exact rfl)
    | (apply eq_row; exact rfl; exact Stop.mk (by with_reducible rfl))
    | (apply eq_row; exact rfl)
    | (apply eq_agg; exact rfl)
    | (apply eq_cons; exact rfl)
    | (apply eq_boxo; exact rfl)
    | (apply cell_agg; exact rfl; exact rfl; exact rfl)
    | (apply cell_one; exact rfl; exact rfl)
    | exact rfl
    | trivial
    )
  all_goals exact Stop.mk rfl
set_option maxRecDepth 100000 in
theorem markJournal_0 {k : Nat} : ACalls Try.prog 66 [jnA ⟨[], 0, 0⟩, .d (.n .i64 k)] [.d (.n .i64 k)] [] := by
  refine acalls_of tt Try.func66 rfl rfl rfl (fun w0 Z => ?_)
  repeat' (first
    | apply awp_seq
    | (apply awp_regionN; exact rfl)
    | (apply aopG_ok; exact rfl)
    | apply ops_nil
    | (apply awp_cond_t; exact rfl)
    | (apply awp_cond_f; exact rfl)
    | ((apply awp_cond; exact rfl) <;> intro hb <;> (first | rw [inB_t] at hb | rw [inB_f] at hb | rw [inB_nt] at hb | rw [inB_nf] at hb | rw [decide_eq_true_eq] at hb | rw [decide_eq_false_iff_not] at hb | rw [beq_iff_eq] at hb | rw [beq_eq_false_iff_ne] at hb | rw [Bool.not_eq_true'] at hb | rw [Bool.not_eq_false'] at hb | rw [bne_iff_ne] at hb | rw [bne_eq_false_iff_eq] at hb | skip) <;> (first | (exfalso; omega) | (exact absurd rfl hb) | skip))
    | apply awp_block
    | apply awp_skip
    | apply awp_exit
    | apply awp_ret'
    | ((first | (apply ops_cons; exact rfl) | (apply ops_yes; exact rfl; exact rfl; exact rfl)); first | refine st_call (markByteS_0) rfl rfl rfl rfl rfl ?_)
    | ((apply ops_gsplit; exact rfl; exact rfl; (fail_if_success exact (rfl : _ = AV.d (.b true))); (fail_if_success exact (rfl : _ = AV.d (.b false))); exact rfl) <;> intro hb <;> (first | rw [inB_t] at hb | rw [inB_f] at hb | rw [inB_nt] at hb | rw [inB_nf] at hb | rw [decide_eq_true_eq] at hb | rw [decide_eq_false_iff_not] at hb | rw [beq_iff_eq] at hb | rw [beq_eq_false_iff_ne] at hb | rw [Bool.not_eq_true'] at hb | rw [Bool.not_eq_false'] at hb | rw [bne_iff_ne] at hb | rw [bne_eq_false_iff_eq] at hb | skip) <;> (first | (exfalso; omega) | (exact absurd rfl hb) | skip))
    )
  refine Stop.mk ?_
  refine ret_intro [] rfl rfl ?_ ?_
  repeat' (first
    | apply And.intro
    | (apply eq_b; exact rfl; exact Stop.mk (by with_reducible rfl))
    | (apply eq_b; exact rfl)
    | (apply eq_n; exact rfl; exact Stop.mk (by first | with_reducible rfl | omega))
    | (apply eq_n; exact rfl)
    | (apply eq_s; exact rfl; exact Stop.mk (by with_reducible rfl))
    | (apply eq_s; exact rfl)
    | (apply eq_sl; exact rfl; exact Stop.mk (by with_reducible rfl))
    | (apply eq_sl; exact rfl)
    | (apply eq_row; exact rfl; exact Stop.mk (by with_reducible rfl))
    | (apply eq_row; exact rfl)
    | (apply eq_agg; exact rfl)
    | (apply eq_cons; exact rfl)
    | (apply eq_boxo; exact rfl)
    | (apply cell_agg; exact rfl; exact rfl; exact rfl)
    | (apply cell_one; exact rfl; exact rfl)
    | exact rfl
    | trivial
    )
  all_goals exact Stop.mk rfl
set_option maxRecDepth 100000 in
theorem heldJournal_e {s c : Int} {n k : Nat} (h : n ≤ 1000000000) (hk : k ≤ 1000000000) : ACalls Try.prog 67 [jnA ⟨markL (gB k) n, s, c⟩, .d (.n .i64 k)] [.d (.n .i64 ((k + n : Nat) : Int))] [] := by
  refine acalls_of tt Try.func67 rfl rfl rfl (fun w0 Z => ?_)
  repeat' (first
    | apply awp_seq
    | (apply awp_regionN; exact rfl)
    | (apply aopG_ok; exact rfl)
    | apply ops_nil
    | (apply awp_cond_t; exact rfl)
    | (apply awp_cond_f; exact rfl)
    | ((apply awp_cond; exact rfl) <;> intro hb <;> (first | rw [inB_t] at hb | rw [inB_f] at hb | rw [inB_nt] at hb | rw [inB_nf] at hb | rw [decide_eq_true_eq] at hb | rw [decide_eq_false_iff_not] at hb | rw [beq_iff_eq] at hb | rw [beq_eq_false_iff_ne] at hb | rw [Bool.not_eq_true'] at hb | rw [Bool.not_eq_false'] at hb | rw [bne_iff_ne] at hb | rw [bne_eq_false_iff_eq] at hb | skip) <;> (first | (exfalso; omega) | (exact absurd rfl hb) | skip))
    | apply awp_block
    | apply awp_skip
    | apply awp_exit
    | apply awp_ret'
    | ((first | (apply ops_cons; exact rfl) | (apply ops_yes; exact rfl; exact rfl; exact rfl)); first | refine st_call (heldByteS_e h hk) rfl rfl rfl rfl rfl ?_)
    | ((apply ops_gsplit; exact rfl; exact rfl; (fail_if_success exact (rfl : _ = AV.d (.b true))); (fail_if_success exact (rfl : _ = AV.d (.b false))); exact rfl) <;> intro hb <;> (first | rw [inB_t] at hb | rw [inB_f] at hb | rw [inB_nt] at hb | rw [inB_nf] at hb | rw [decide_eq_true_eq] at hb | rw [decide_eq_false_iff_not] at hb | rw [beq_iff_eq] at hb | rw [beq_eq_false_iff_ne] at hb | rw [Bool.not_eq_true'] at hb | rw [Bool.not_eq_false'] at hb | rw [bne_iff_ne] at hb | rw [bne_eq_false_iff_eq] at hb | skip) <;> (first | (exfalso; omega) | (exact absurd rfl hb) | skip))
    )
  refine Stop.mk ?_
  refine ret_intro [] rfl rfl ?_ ?_
  repeat' (first
    | apply And.intro
    | (apply eq_b; exact rfl; exact Stop.mk (by with_reducible rfl))
    | (apply eq_b; exact rfl)
    | (apply eq_n; exact rfl; exact Stop.mk (by first | with_reducible rfl | omega))
    | (apply eq_n; exact rfl)
    | (apply eq_s; exact rfl; exact Stop.mk (by with_reducible rfl))
    | (apply eq_s; exact rfl)
    | (apply eq_sl; exact rfl; exact Stop.mk (by with_reducible rfl))
    | (apply eq_sl; exact rfl)
    | (apply eq_row; exact rfl; exact Stop.mk (by with_reducible rfl))
    | (apply eq_row; exact rfl)
    | (apply eq_agg; exact rfl)
    | (apply eq_cons; exact rfl)
    | (apply eq_boxo; exact rfl)
    | (apply cell_agg; exact rfl; exact rfl; exact rfl)
    | (apply cell_one; exact rfl; exact rfl)
    | exact rfl
    | trivial
    )
  all_goals exact Stop.mk rfl
set_option maxRecDepth 100000 in
set_option maxHeartbeats 4000000 in
theorem lawJournalOpen_e {b : List UInt8} : ACalls Try.prog 14 [.d (.sl (byteE b))] [.d (.b true)] [] := by
  refine acalls_of tt Try.func14 rfl rfl rfl (fun w0 Z => ?_)
  by_cases h : b.length ≤ 40000
  · have hl : (jnOpen b).bytes.length ≤ 1000000000 := by simp only [jnOpen, List.length_take]; omega
    repeat' (first
      | apply awp_seq
      | (apply awp_regionN; exact rfl)
      | (apply aopG_ok; exact rfl)
      | apply ops_nil
      | (apply awp_cond_t; exact rfl)
      | (apply awp_cond_f; exact rfl)
      | ((apply awp_cond; exact rfl) <;> intro hb <;> (first | rw [inB_t] at hb | rw [inB_f] at hb | rw [inB_nt] at hb | rw [inB_nf] at hb | rw [decide_eq_true_eq] at hb | rw [decide_eq_false_iff_not] at hb | rw [beq_iff_eq] at hb | rw [beq_eq_false_iff_ne] at hb | rw [Bool.not_eq_true'] at hb | rw [Bool.not_eq_false'] at hb | rw [bne_iff_ne] at hb | rw [bne_eq_false_iff_eq] at hb | skip) <;> (first | (exfalso; omega) | (exact absurd rfl hb) | skip))
      | apply awp_block
      | apply awp_skip
      | apply awp_exit
      | apply awp_ret'
      | ((first | (apply ops_cons; exact rfl) | (apply ops_yes; exact rfl; exact rfl; exact rfl)); first | (apply QOk.ok; first | refine st_lens rfl rfl rfl rfl rfl ?_ | refine st_len rfl rfl rfl rfl (by first | exact List.length_map _ | exact chunk_length _ _ _ | exact byteE_length _ | exact strE_length _ | exact intE_length _ | exact (rfl : _ = 1) | exact (rfl : _ = 0) | exact (rfl : _ = 2) | exact (rfl : _ = 3) | exact cutM_length (by omega) | rfl) rfl (fun _ => ?_) | refine st_neagg ns_ok (by kernel_rfl) rfl rfl rfl rfl rfl rfl rfl rfl ?_) | refine st_call (toByteS_e (by omega)) rfl rfl rfl rfl rfl ?_ | refine st_call (journalOpen_s h) rfl rfl rfl rfl rfl ?_ | refine st_call (journalOpen_e h) rfl rfl rfl rfl rfl ?_ | refine st_call (eqJournal_r (j := jnOpen b) hl) rfl rfl rfl rfl rfl ?_ | refine st_call (eqByteS_r (by omega)) rfl rfl rfl rfl rfl ?_ | refine st_call (heldJournal_e (s := (jnOpen b).synced) (c := (jnOpen b).count) (n := (jnOpen b).bytes.length) (k := 1) hl (by omega)) rfl rfl rfl rfl rfl ?_ | refine st_callm [17] (markByteS_m (b := b) (k := 1) (by omega) (by omega)) rfl rfl rfl rfl rfl (fun _ _ => rfl) rfl (fun i hi => ?_); (try dsimp only at hi) | refine st_callm [19] (markJournal_m (j := jnOpen b) (k := 1) hl (by omega)) rfl rfl rfl rfl rfl (fun _ _ => rfl) rfl (fun i hi => ?_); (try dsimp only at hi))
      | ((apply ops_gsplit; exact rfl; exact rfl; (fail_if_success exact (rfl : _ = AV.d (.b true))); (fail_if_success exact (rfl : _ = AV.d (.b false))); exact rfl) <;> intro hb <;> (first | rw [inB_t] at hb | rw [inB_f] at hb | rw [inB_nt] at hb | rw [inB_nf] at hb | rw [decide_eq_true_eq] at hb | rw [decide_eq_false_iff_not] at hb | rw [beq_iff_eq] at hb | rw [beq_eq_false_iff_ne] at hb | rw [Bool.not_eq_true'] at hb | rw [Bool.not_eq_false'] at hb | rw [bne_iff_ne] at hb | rw [bne_eq_false_iff_eq] at hb | skip) <;> (first | (exfalso; omega) | (exact absurd rfl hb) | skip))
      )
    all_goals
      refine Stop.mk ?_
      refine ret_intro [] rfl rfl ?_ ?_
      repeat' (first
        | apply And.intro
        | (apply eq_b; exact rfl; exact Stop.mk (by with_reducible rfl))
        | (apply eq_b; exact rfl)
        | (apply eq_n; exact rfl; exact Stop.mk (by first | with_reducible rfl | omega))
        | (apply eq_n; exact rfl)
        | (apply eq_s; exact rfl; exact Stop.mk (by with_reducible rfl))
        | (apply eq_s; exact rfl)
        | (apply eq_sl; exact rfl; exact Stop.mk (by with_reducible rfl))
        | (apply eq_sl; exact rfl)
        | (apply eq_row; exact rfl; exact Stop.mk (by with_reducible rfl))
        | (apply eq_row; exact rfl)
        | (apply eq_agg; exact rfl)
        | (apply eq_cons; exact rfl)
        | (apply eq_boxo; exact rfl)
        | (apply cell_agg; exact rfl; exact rfl; exact rfl)
        | (apply cell_one; exact rfl; exact rfl)
        | exact rfl
        | trivial
        )
  · repeat' (first
      | apply awp_seq
      | (apply awp_regionN; exact rfl)
      | (apply aopG_ok; exact rfl)
      | apply ops_nil
      | (apply awp_cond_t; exact rfl)
      | (apply awp_cond_f; exact rfl)
      | ((apply awp_cond; exact rfl) <;> intro hb <;> (first | rw [inB_t] at hb | rw [inB_f] at hb | rw [inB_nt] at hb | rw [inB_nf] at hb | rw [decide_eq_true_eq] at hb | rw [decide_eq_false_iff_not] at hb | rw [beq_iff_eq] at hb | rw [beq_eq_false_iff_ne] at hb | rw [Bool.not_eq_true'] at hb | rw [Bool.not_eq_false'] at hb | rw [bne_iff_ne] at hb | rw [bne_eq_false_iff_eq] at hb | skip) <;> (first | (exfalso; omega) | (exact absurd rfl hb) | skip))
      | apply awp_block
      | apply awp_skip
      | apply awp_exit
      | apply awp_ret'
      | ((first | (apply ops_cons; exact rfl) | (apply ops_yes; exact rfl; exact rfl; exact rfl)); first | (apply QOk.ok; first | refine st_lens rfl rfl rfl rfl rfl ?_ | refine st_len rfl rfl rfl rfl (by first | exact List.length_map _ | exact chunk_length _ _ _ | exact byteE_length _ | exact strE_length _ | exact intE_length _ | exact (rfl : _ = 1) | exact (rfl : _ = 0) | exact (rfl : _ = 2) | exact (rfl : _ = 3) | exact cutM_length (by omega) | rfl) rfl (fun _ => ?_) | refine st_neagg ns_ok (by kernel_rfl) rfl rfl rfl rfl rfl rfl rfl rfl ?_) | refine st_call (toByteS_e (by omega)) rfl rfl rfl rfl rfl ?_ | refine st_call (journalOpen_s0 (b := b) (by omega) (by omega)) rfl rfl rfl rfl rfl ?_ | refine st_call (journalOpen_e0 (b := b) (by omega) (by omega)) rfl rfl rfl rfl rfl ?_ | refine st_call (eqJournal_r (j := ⟨[], 0, 0⟩) (by exact Nat.zero_le _)) rfl rfl rfl rfl rfl ?_ | refine st_call (eqByteS_r (by omega)) rfl rfl rfl rfl rfl ?_ | refine st_call (markJournal_0 (k := 1)) rfl rfl rfl rfl rfl ?_ | refine st_call (heldJournal_e (s := 0) (c := 0) (n := 0) (k := 1) (by omega) (by omega)) rfl rfl rfl rfl rfl ?_ | refine st_callm [17] (markByteS_m (b := b) (k := 1) (by omega) (by omega)) rfl rfl rfl rfl rfl (fun _ _ => rfl) rfl (fun i hi => ?_); (try dsimp only at hi))
      | ((apply ops_gsplit; exact rfl; exact rfl; (fail_if_success exact (rfl : _ = AV.d (.b true))); (fail_if_success exact (rfl : _ = AV.d (.b false))); exact rfl) <;> intro hb <;> (first | rw [inB_t] at hb | rw [inB_f] at hb | rw [inB_nt] at hb | rw [inB_nf] at hb | rw [decide_eq_true_eq] at hb | rw [decide_eq_false_iff_not] at hb | rw [beq_iff_eq] at hb | rw [beq_eq_false_iff_ne] at hb | rw [Bool.not_eq_true'] at hb | rw [Bool.not_eq_false'] at hb | rw [bne_iff_ne] at hb | rw [bne_eq_false_iff_eq] at hb | skip) <;> (first | (exfalso; omega) | (exact absurd rfl hb) | skip))
      )
    all_goals
      refine Stop.mk ?_
      refine ret_intro [] rfl rfl ?_ ?_
      repeat' (first
        | apply And.intro
        | (apply eq_b; exact rfl; exact Stop.mk (by with_reducible rfl))
        | (apply eq_b; exact rfl)
        | (apply eq_n; exact rfl; exact Stop.mk (by first | with_reducible rfl | omega))
        | (apply eq_n; exact rfl)
        | (apply eq_s; exact rfl; exact Stop.mk (by with_reducible rfl))
        | (apply eq_s; exact rfl)
        | (apply eq_sl; exact rfl; exact Stop.mk (by with_reducible rfl))
        | (apply eq_sl; exact rfl)
        | (apply eq_row; exact rfl; exact Stop.mk (by with_reducible rfl))
        | (apply eq_row; exact rfl)
        | (apply eq_agg; exact rfl)
        | (apply eq_cons; exact rfl)
        | (apply eq_boxo; exact rfl)
        | (apply cell_agg; exact rfl; exact rfl; exact rfl)
        | (apply cell_one; exact rfl; exact rfl)
        | exact rfl
        | trivial
        )
set_option maxRecDepth 100000 in
set_option maxHeartbeats 4000000 in
theorem lawJournalSync_e {j : Journal} (h : j.bytes.length ≤ 9223372036854775807) : ACalls Try.prog 17 [jnA j] [.d (.b true)] [] := by
  refine acalls_of tt Try.func17 rfl rfl rfl (fun w0 Z => ?_)
  by_cases hs : (1048576 : Int) - j.bytes.length < 0
  · repeat' (first
      | apply awp_seq
      | (apply awp_regionN; exact rfl)
      | (apply aopG_ok; exact rfl)
      | apply ops_nil
      | (apply awp_drawm2 10; kernel_rfl; exact rfl)
      | (apply awp_drawq; exact rfl; kernel_rfl; kernel_rfl; exact rfl)
      | (apply awp_drawx; exact rfl; kernel_rfl; exact rfl)
      | (apply aopQ_ok; exact rfl)
      | apply qs_nil
      | (apply ch_nil; exact rfl)
      | (apply ch_cons; (· exact rfl); (· exact rfl); (· exact rfl); (· exact rfl); (· (intro w0 Z O; first | (apply aop_ok; exact rfl) | (apply QOk.ok; first | refine st_neagg ns_ok (by kernel_rfl) rfl rfl rfl rfl rfl rfl rfl rfl ?_) | refine st_call (szJournal_e (j := j) h (by omega)) rfl rfl rfl rfl rfl ?_); exact ⟨rfl, rfl, rfl⟩); (· exact rfl); (· exact rfl); (· (repeat' (first | apply And.intro | exact Or.inl rfl | exact Or.inr ⟨rfl, rfl⟩ | exact trivial))); (· (repeat' (first | apply And.intro | exact trivial | exact rfl | exact flatE_map (fun _ => rfl) | apply flatE_app))); (· exact rfl); (· exact rfl); (· exact rfl); (· exact rfl))
      | (apply awp_cond_t; exact rfl)
      | (apply awp_cond_f; exact rfl)
      | ((apply awp_cond; exact rfl) <;> intro hb <;> (first | rw [inB_t] at hb | rw [inB_f] at hb | rw [inB_nt] at hb | rw [inB_nf] at hb | rw [decide_eq_true_eq] at hb | rw [decide_eq_false_iff_not] at hb | rw [beq_iff_eq] at hb | rw [beq_eq_false_iff_ne] at hb | rw [Bool.not_eq_true'] at hb | rw [Bool.not_eq_false'] at hb | rw [bne_iff_ne] at hb | rw [bne_eq_false_iff_eq] at hb | skip) <;> (first | (exfalso; omega) | (exact absurd rfl hb) | skip))
      | apply awp_block
      | apply awp_skip
      | apply awp_exit
      | apply awp_ret'
      | ((first | (apply ops_cons; exact rfl) | (apply ops_yes; exact rfl; exact rfl; exact rfl)); first | (apply QOk.ok; first | refine st_neagg ns_ok (by kernel_rfl) rfl rfl rfl rfl rfl rfl rfl rfl ?_) | refine st_call (szJournal_e (j := j) h (by omega)) rfl rfl rfl rfl rfl ?_)
      | ((apply ops_gsplit; exact rfl; exact rfl; (fail_if_success exact (rfl : _ = AV.d (.b true))); (fail_if_success exact (rfl : _ = AV.d (.b false))); exact rfl) <;> intro hb <;> (first | rw [inB_t] at hb | rw [inB_f] at hb | rw [inB_nt] at hb | rw [inB_nf] at hb | rw [decide_eq_true_eq] at hb | rw [decide_eq_false_iff_not] at hb | rw [beq_iff_eq] at hb | rw [beq_eq_false_iff_ne] at hb | rw [Bool.not_eq_true'] at hb | rw [Bool.not_eq_false'] at hb | rw [bne_iff_ne] at hb | rw [bne_eq_false_iff_eq] at hb | skip) <;> (first | (exfalso; omega) | (exact absurd rfl hb) | skip))
      | ((first | (apply qs_cons; exact rfl) | (apply qs_yes; exact rfl; exact rfl; exact rfl)); first | refine st_neagg ns_ok (by kernel_rfl) rfl rfl rfl rfl rfl rfl rfl rfl ?_ | refine st_callq (szJournal_e (j := j) h (by omega)) rfl rfl rfl rfl rfl ?_)
      | ((apply qs_gsplit; exact rfl; exact rfl; (fail_if_success exact (rfl : _ = AV.d (.b true))); (fail_if_success exact (rfl : _ = AV.d (.b false))); exact rfl) <;> intro hb <;> (first | rw [inB_t] at hb | rw [inB_f] at hb | rw [inB_nt] at hb | rw [inB_nf] at hb | rw [decide_eq_true_eq] at hb | rw [decide_eq_false_iff_not] at hb | rw [beq_iff_eq] at hb | rw [beq_eq_false_iff_ne] at hb | rw [Bool.not_eq_true'] at hb | rw [Bool.not_eq_false'] at hb | rw [bne_iff_ne] at hb | rw [bne_eq_false_iff_eq] at hb | skip) <;> (first | (exfalso; omega) | (exact absurd rfl hb) | skip))
      )
    · refine Stop.mk ?_
      refine ret_intro [] rfl rfl ?_ ?_
      repeat' (first
        | apply And.intro
        | (apply eq_b; exact rfl; exact Stop.mk (by with_reducible rfl))
        | (apply eq_b; exact rfl)
        | (apply eq_n; exact rfl; exact Stop.mk (by first | with_reducible rfl | omega))
        | (apply eq_n; exact rfl)
        | (apply eq_s; exact rfl; exact Stop.mk (by with_reducible rfl))
        | (apply eq_s; exact rfl)
        | (apply eq_sl; exact rfl; exact Stop.mk (by with_reducible rfl))
        | (apply eq_sl; exact rfl)
        | (apply eq_row; exact rfl; exact Stop.mk (by with_reducible rfl))
        | (apply eq_row; exact rfl)
        | (apply eq_agg; exact rfl)
        | (apply eq_cons; exact rfl)
        | (apply eq_boxo; exact rfl)
        | (apply cell_agg; exact rfl; exact rfl; exact rfl)
        | (apply cell_one; exact rfl; exact rfl)
        | exact rfl
        | trivial
        )
    · exact absurd (show szX j.bytes.length 1048576 < 0 by rw [szX_no hs]; decide) hb
  · have hl : (jnSync j).bytes.length ≤ 1000000000 := by simp only [jnSync]; omega
    cases hj : jnOk j with
    | true =>
      repeat' (first
        | apply awp_seq
        | (apply awp_regionN; exact rfl)
        | (apply aopG_ok; exact rfl)
        | apply ops_nil
        | (apply awp_drawm2 10; kernel_rfl; exact rfl)
        | (apply awp_drawq; exact rfl; kernel_rfl; kernel_rfl; exact rfl)
        | (apply awp_drawx; exact rfl; kernel_rfl; exact rfl)
        | (apply aopQ_ok; exact rfl)
        | apply qs_nil
        | (apply ch_nil; exact rfl)
        | (apply ch_cons; (· exact rfl); (· exact rfl); (· exact rfl); (· exact rfl); (· (intro w0 Z O; first | (apply aop_ok; exact rfl) | (apply QOk.ok; first | refine st_neagg ns_ok (by kernel_rfl) rfl rfl rfl rfl rfl rfl rfl rfl ?_) | refine st_call (szJournal_e (j := j) h (by omega)) rfl rfl rfl rfl rfl ?_ | refine st_call (toJournal_e (j := j) (by omega)) rfl rfl rfl rfl rfl ?_ | refine st_call (journalSync_s (j := j) (by omega) hj) rfl rfl rfl rfl rfl ?_ | refine st_call (journalSync_e (j := j) (by omega) hj) rfl rfl rfl rfl rfl ?_ | refine st_call (eqJournal_r (j := jnSync j) hl) rfl rfl rfl rfl rfl ?_ | refine st_call (eqJournal_r (j := j) (by omega)) rfl rfl rfl rfl rfl ?_ | refine st_call (heldJournal_e (s := (jnSync j).synced) (c := (jnSync j).count) (n := (jnSync j).bytes.length) (k := 1) hl (by omega)) rfl rfl rfl rfl rfl ?_ | refine st_callm [20] (markJournal_m (j := j) (k := 1) (by omega) (by omega)) rfl rfl rfl rfl rfl (fun _ _ => rfl) rfl (fun i hi => ?_); (try dsimp only at hi) | refine st_callm [22] (markJournal_m (j := jnSync j) (k := 1) hl (by omega)) rfl rfl rfl rfl rfl (fun _ _ => rfl) rfl (fun i hi => ?_); (try dsimp only at hi)); exact ⟨rfl, rfl, rfl⟩); (· exact rfl); (· exact rfl); (· (repeat' (first | apply And.intro | exact Or.inl rfl | exact Or.inr ⟨rfl, rfl⟩ | exact trivial))); (· (repeat' (first | apply And.intro | exact trivial | exact rfl | exact flatE_map (fun _ => rfl) | apply flatE_app))); (· exact rfl); (· exact rfl); (· exact rfl); (· exact rfl))
        | (apply awp_cond_t; exact rfl)
        | (apply awp_cond_f; exact rfl)
        | ((apply awp_cond; exact rfl) <;> intro hb <;> (first | rw [inB_t] at hb | rw [inB_f] at hb | rw [inB_nt] at hb | rw [inB_nf] at hb | rw [decide_eq_true_eq] at hb | rw [decide_eq_false_iff_not] at hb | rw [beq_iff_eq] at hb | rw [beq_eq_false_iff_ne] at hb | rw [Bool.not_eq_true'] at hb | rw [Bool.not_eq_false'] at hb | rw [bne_iff_ne] at hb | rw [bne_eq_false_iff_eq] at hb | skip) <;> (first | (exfalso; omega) | (exact absurd rfl hb) | skip))
        | apply awp_block
        | apply awp_skip
        | apply awp_exit
        | apply awp_ret'
        | ((first | (apply ops_cons; exact rfl) | (apply ops_yes; exact rfl; exact rfl; exact rfl)); first | (apply QOk.ok; first | refine st_neagg ns_ok (by kernel_rfl) rfl rfl rfl rfl rfl rfl rfl rfl ?_) | refine st_call (szJournal_e (j := j) h (by omega)) rfl rfl rfl rfl rfl ?_ | refine st_call (toJournal_e (j := j) (by omega)) rfl rfl rfl rfl rfl ?_ | refine st_call (journalSync_s (j := j) (by omega) hj) rfl rfl rfl rfl rfl ?_ | refine st_call (journalSync_e (j := j) (by omega) hj) rfl rfl rfl rfl rfl ?_ | refine st_call (eqJournal_r (j := jnSync j) hl) rfl rfl rfl rfl rfl ?_ | refine st_call (eqJournal_r (j := j) (by omega)) rfl rfl rfl rfl rfl ?_ | refine st_call (heldJournal_e (s := (jnSync j).synced) (c := (jnSync j).count) (n := (jnSync j).bytes.length) (k := 1) hl (by omega)) rfl rfl rfl rfl rfl ?_ | refine st_callm [20] (markJournal_m (j := j) (k := 1) (by omega) (by omega)) rfl rfl rfl rfl rfl (fun _ _ => rfl) rfl (fun i hi => ?_); (try dsimp only at hi) | refine st_callm [22] (markJournal_m (j := jnSync j) (k := 1) hl (by omega)) rfl rfl rfl rfl rfl (fun _ _ => rfl) rfl (fun i hi => ?_); (try dsimp only at hi))
        | ((apply ops_gsplit; exact rfl; exact rfl; (fail_if_success exact (rfl : _ = AV.d (.b true))); (fail_if_success exact (rfl : _ = AV.d (.b false))); exact rfl) <;> intro hb <;> (first | rw [inB_t] at hb | rw [inB_f] at hb | rw [inB_nt] at hb | rw [inB_nf] at hb | rw [decide_eq_true_eq] at hb | rw [decide_eq_false_iff_not] at hb | rw [beq_iff_eq] at hb | rw [beq_eq_false_iff_ne] at hb | rw [Bool.not_eq_true'] at hb | rw [Bool.not_eq_false'] at hb | rw [bne_iff_ne] at hb | rw [bne_eq_false_iff_eq] at hb | skip) <;> (first | (exfalso; omega) | (exact absurd rfl hb) | skip))
        | ((first | (apply qs_cons; exact rfl) | (apply qs_yes; exact rfl; exact rfl; exact rfl)); first | refine st_neagg ns_ok (by kernel_rfl) rfl rfl rfl rfl rfl rfl rfl rfl ?_ | refine st_callq (szJournal_e (j := j) h (by omega)) rfl rfl rfl rfl rfl ?_ | refine st_callq (toJournal_e (j := j) (by omega)) rfl rfl rfl rfl rfl ?_ | refine st_callq (journalSync_s (j := j) (by omega) hj) rfl rfl rfl rfl rfl ?_ | refine st_callq (journalSync_e (j := j) (by omega) hj) rfl rfl rfl rfl rfl ?_ | refine st_callq (eqJournal_r (j := jnSync j) hl) rfl rfl rfl rfl rfl ?_ | refine st_callq (eqJournal_r (j := j) (by omega)) rfl rfl rfl rfl rfl ?_ | refine st_callq (heldJournal_e (s := (jnSync j).synced) (c := (jnSync j).count) (n := (jnSync j).bytes.length) (k := 1) hl (by omega)) rfl rfl rfl rfl rfl ?_)
        | ((apply qs_gsplit; exact rfl; exact rfl; (fail_if_success exact (rfl : _ = AV.d (.b true))); (fail_if_success exact (rfl : _ = AV.d (.b false))); exact rfl) <;> intro hb <;> (first | rw [inB_t] at hb | rw [inB_f] at hb | rw [inB_nt] at hb | rw [inB_nf] at hb | rw [decide_eq_true_eq] at hb | rw [decide_eq_false_iff_not] at hb | rw [beq_iff_eq] at hb | rw [beq_eq_false_iff_ne] at hb | rw [Bool.not_eq_true'] at hb | rw [Bool.not_eq_false'] at hb | rw [bne_iff_ne] at hb | rw [bne_eq_false_iff_eq] at hb | skip) <;> (first | (exfalso; omega) | (exact absurd rfl hb) | skip))
        )
      all_goals
        refine Stop.mk ?_
        refine ret_intro [] rfl rfl ?_ ?_
        repeat' (first
          | apply And.intro
          | (apply eq_b; exact rfl; exact Stop.mk (by with_reducible rfl))
          | (apply eq_b; exact rfl)
          | (apply eq_n; exact rfl; exact Stop.mk (by first | with_reducible rfl | omega))
          | (apply eq_n; exact rfl)
          | (apply eq_s; exact rfl; exact Stop.mk (by with_reducible rfl))
          | (apply eq_s; exact rfl)
          | (apply eq_sl; exact rfl; exact Stop.mk (by with_reducible rfl))
          | (apply eq_sl; exact rfl)
          | (apply eq_row; exact rfl; exact Stop.mk (by with_reducible rfl))
          | (apply eq_row; exact rfl)
          | (apply eq_agg; exact rfl)
          | (apply eq_cons; exact rfl)
          | (apply eq_boxo; exact rfl)
          | (apply cell_agg; exact rfl; exact rfl; exact rfl)
          | (apply cell_one; exact rfl; exact rfl)
          | exact rfl
          | trivial
          )
    | false =>
      repeat' (first
        | apply awp_seq
        | (apply awp_regionN; exact rfl)
        | (apply aopG_ok; exact rfl)
        | apply ops_nil
        | (apply awp_drawm2 10; kernel_rfl; exact rfl)
        | (apply awp_drawq; exact rfl; kernel_rfl; kernel_rfl; exact rfl)
        | (apply awp_drawx; exact rfl; kernel_rfl; exact rfl)
        | (apply aopQ_ok; exact rfl)
        | apply qs_nil
        | (apply ch_nil; exact rfl)
        | (apply ch_cons; (· exact rfl); (· exact rfl); (· exact rfl); (· exact rfl); (· (intro w0 Z O; first | (apply aop_ok; exact rfl) | (apply QOk.ok; first | refine st_neagg ns_ok (by kernel_rfl) rfl rfl rfl rfl rfl rfl rfl rfl ?_) | refine st_call (szJournal_e (j := j) h (by omega)) rfl rfl rfl rfl rfl ?_ | refine st_call (toJournal_e (j := j) (by omega)) rfl rfl rfl rfl rfl ?_ | refine st_call (journalSync_s0 (j := j) (by omega) hj) rfl rfl rfl rfl rfl ?_ | refine st_call (journalSync_e0 (j := j) (by omega) hj) rfl rfl rfl rfl rfl ?_ | refine st_call (eqJournal_r (j := ⟨[], 0, 0⟩) (by exact Nat.zero_le _)) rfl rfl rfl rfl rfl ?_ | refine st_call (eqJournal_r (j := j) (by omega)) rfl rfl rfl rfl rfl ?_ | refine st_call (markJournal_0 (k := 1)) rfl rfl rfl rfl rfl ?_ | refine st_call (heldJournal_e (s := 0) (c := 0) (n := 0) (k := 1) (by omega) (by omega)) rfl rfl rfl rfl rfl ?_ | refine st_callm [20] (markJournal_m (j := j) (k := 1) (by omega) (by omega)) rfl rfl rfl rfl rfl (fun _ _ => rfl) rfl (fun i hi => ?_); (try dsimp only at hi)); exact ⟨rfl, rfl, rfl⟩); (· exact rfl); (· exact rfl); (· (repeat' (first | apply And.intro | exact Or.inl rfl | exact Or.inr ⟨rfl, rfl⟩ | exact trivial))); (· (repeat' (first | apply And.intro | exact trivial | exact rfl | exact flatE_map (fun _ => rfl) | apply flatE_app))); (· exact rfl); (· exact rfl); (· exact rfl); (· exact rfl))
        | (apply awp_cond_t; exact rfl)
        | (apply awp_cond_f; exact rfl)
        | ((apply awp_cond; exact rfl) <;> intro hb <;> (first | rw [inB_t] at hb | rw [inB_f] at hb | rw [inB_nt] at hb | rw [inB_nf] at hb | rw [decide_eq_true_eq] at hb | rw [decide_eq_false_iff_not] at hb | rw [beq_iff_eq] at hb | rw [beq_eq_false_iff_ne] at hb | rw [Bool.not_eq_true'] at hb | rw [Bool.not_eq_false'] at hb | rw [bne_iff_ne] at hb | rw [bne_eq_false_iff_eq] at hb | skip) <;> (first | (exfalso; omega) | (exact absurd rfl hb) | skip))
        | apply awp_block
        | apply awp_skip
        | apply awp_exit
        | apply awp_ret'
        | ((first | (apply ops_cons; exact rfl) | (apply ops_yes; exact rfl; exact rfl; exact rfl)); first | (apply QOk.ok; first | refine st_neagg ns_ok (by kernel_rfl) rfl rfl rfl rfl rfl rfl rfl rfl ?_) | refine st_call (szJournal_e (j := j) h (by omega)) rfl rfl rfl rfl rfl ?_ | refine st_call (toJournal_e (j := j) (by omega)) rfl rfl rfl rfl rfl ?_ | refine st_call (journalSync_s0 (j := j) (by omega) hj) rfl rfl rfl rfl rfl ?_ | refine st_call (journalSync_e0 (j := j) (by omega) hj) rfl rfl rfl rfl rfl ?_ | refine st_call (eqJournal_r (j := ⟨[], 0, 0⟩) (by exact Nat.zero_le _)) rfl rfl rfl rfl rfl ?_ | refine st_call (eqJournal_r (j := j) (by omega)) rfl rfl rfl rfl rfl ?_ | refine st_call (markJournal_0 (k := 1)) rfl rfl rfl rfl rfl ?_ | refine st_call (heldJournal_e (s := 0) (c := 0) (n := 0) (k := 1) (by omega) (by omega)) rfl rfl rfl rfl rfl ?_ | refine st_callm [20] (markJournal_m (j := j) (k := 1) (by omega) (by omega)) rfl rfl rfl rfl rfl (fun _ _ => rfl) rfl (fun i hi => ?_); (try dsimp only at hi))
        | ((apply ops_gsplit; exact rfl; exact rfl; (fail_if_success exact (rfl : _ = AV.d (.b true))); (fail_if_success exact (rfl : _ = AV.d (.b false))); exact rfl) <;> intro hb <;> (first | rw [inB_t] at hb | rw [inB_f] at hb | rw [inB_nt] at hb | rw [inB_nf] at hb | rw [decide_eq_true_eq] at hb | rw [decide_eq_false_iff_not] at hb | rw [beq_iff_eq] at hb | rw [beq_eq_false_iff_ne] at hb | rw [Bool.not_eq_true'] at hb | rw [Bool.not_eq_false'] at hb | rw [bne_iff_ne] at hb | rw [bne_eq_false_iff_eq] at hb | skip) <;> (first | (exfalso; omega) | (exact absurd rfl hb) | skip))
        | ((first | (apply qs_cons; exact rfl) | (apply qs_yes; exact rfl; exact rfl; exact rfl)); first | refine st_neagg ns_ok (by kernel_rfl) rfl rfl rfl rfl rfl rfl rfl rfl ?_ | refine st_callq (szJournal_e (j := j) h (by omega)) rfl rfl rfl rfl rfl ?_ | refine st_callq (toJournal_e (j := j) (by omega)) rfl rfl rfl rfl rfl ?_ | refine st_callq (journalSync_s0 (j := j) (by omega) hj) rfl rfl rfl rfl rfl ?_ | refine st_callq (journalSync_e0 (j := j) (by omega) hj) rfl rfl rfl rfl rfl ?_ | refine st_callq (eqJournal_r (j := ⟨[], 0, 0⟩) (by exact Nat.zero_le _)) rfl rfl rfl rfl rfl ?_ | refine st_callq (eqJournal_r (j := j) (by omega)) rfl rfl rfl rfl rfl ?_ | refine st_callq (markJournal_0 (k := 1)) rfl rfl rfl rfl rfl ?_ | refine st_callq (heldJournal_e (s := 0) (c := 0) (n := 0) (k := 1) (by omega) (by omega)) rfl rfl rfl rfl rfl ?_)
        | ((apply qs_gsplit; exact rfl; exact rfl; (fail_if_success exact (rfl : _ = AV.d (.b true))); (fail_if_success exact (rfl : _ = AV.d (.b false))); exact rfl) <;> intro hb <;> (first | rw [inB_t] at hb | rw [inB_f] at hb | rw [inB_nt] at hb | rw [inB_nf] at hb | rw [decide_eq_true_eq] at hb | rw [decide_eq_false_iff_not] at hb | rw [beq_iff_eq] at hb | rw [beq_eq_false_iff_ne] at hb | rw [Bool.not_eq_true'] at hb | rw [Bool.not_eq_false'] at hb | rw [bne_iff_ne] at hb | rw [bne_eq_false_iff_eq] at hb | skip) <;> (first | (exfalso; omega) | (exact absurd rfl hb) | skip))
        )
      all_goals
        refine Stop.mk ?_
        refine ret_intro [] rfl rfl ?_ ?_
        repeat' (first
          | apply And.intro
          | (apply eq_b; exact rfl; exact Stop.mk (by with_reducible rfl))
          | (apply eq_b; exact rfl)
          | (apply eq_n; exact rfl; exact Stop.mk (by first | with_reducible rfl | omega))
          | (apply eq_n; exact rfl)
          | (apply eq_s; exact rfl; exact Stop.mk (by with_reducible rfl))
          | (apply eq_s; exact rfl)
          | (apply eq_sl; exact rfl; exact Stop.mk (by with_reducible rfl))
          | (apply eq_sl; exact rfl)
          | (apply eq_row; exact rfl; exact Stop.mk (by with_reducible rfl))
          | (apply eq_row; exact rfl)
          | (apply eq_agg; exact rfl)
          | (apply eq_cons; exact rfl)
          | (apply eq_boxo; exact rfl)
          | (apply cell_agg; exact rfl; exact rfl; exact rfl)
          | (apply cell_one; exact rfl; exact rfl)
          | exact rfl
          | trivial
          )
set_option maxRecDepth 100000 in
set_option maxHeartbeats 4000000 in
theorem lawJournalAdd_e {j : Journal} {s : List UInt8} (h : j.bytes.length ≤ 9223372036854775807) : ACalls Try.prog 19 [jnA j, .d (.s s)] [.d (.b true)] [] := by
  refine acalls_of tt Try.func19 rfl rfl rfl (fun w0 Z => ?_)
  by_cases hs : (1048576 : Int) - j.bytes.length < 0
  · repeat' (first
      | apply awp_seq
      | (apply awp_regionN; exact rfl)
      | (apply aopG_ok; exact rfl)
      | apply ops_nil
      | (apply awp_drawm2 12; kernel_rfl; exact rfl)
      | (apply awp_drawq; exact rfl; kernel_rfl; kernel_rfl; exact rfl)
      | (apply awp_drawx; exact rfl; kernel_rfl; exact rfl)
      | (apply aopQ_ok; exact rfl)
      | apply qs_nil
      | (apply ch_nil; exact rfl)
      | (apply ch_cons; (· exact rfl); (· exact rfl); (· exact rfl); (· exact rfl); (· (intro w0 Z O; first | (apply aop_ok; exact rfl) | (apply QOk.ok; first | refine st_lens rfl rfl rfl rfl rfl ?_ | refine st_len rfl rfl rfl rfl (by first | exact List.length_map _ | exact chunk_length _ _ _ | exact byteE_length _ | exact strE_length _ | exact intE_length _ | exact (rfl : _ = 1) | exact (rfl : _ = 0) | exact (rfl : _ = 2) | exact (rfl : _ = 3) | exact cutM_length (by omega) | rfl) rfl (fun _ => ?_) | refine st_neagg ns_ok (by kernel_rfl) rfl rfl rfl rfl rfl rfl rfl rfl ?_) | refine st_call (szJournal_e (j := j) h (by omega)) rfl rfl rfl rfl rfl ?_); exact ⟨rfl, rfl, rfl⟩); (· exact rfl); (· exact rfl); (· (repeat' (first | apply And.intro | exact Or.inl rfl | exact Or.inr ⟨rfl, rfl⟩ | exact trivial))); (· (repeat' (first | apply And.intro | exact trivial | exact rfl | exact flatE_map (fun _ => rfl) | apply flatE_app))); (· exact rfl); (· exact rfl); (· exact rfl); (· exact rfl))
      | (apply awp_cond_t; exact rfl)
      | (apply awp_cond_f; exact rfl)
      | ((apply awp_cond; exact rfl) <;> intro hb <;> (first | rw [inB_t] at hb | rw [inB_f] at hb | rw [inB_nt] at hb | rw [inB_nf] at hb | rw [decide_eq_true_eq] at hb | rw [decide_eq_false_iff_not] at hb | rw [beq_iff_eq] at hb | rw [beq_eq_false_iff_ne] at hb | rw [Bool.not_eq_true'] at hb | rw [Bool.not_eq_false'] at hb | rw [bne_iff_ne] at hb | rw [bne_eq_false_iff_eq] at hb | skip) <;> (first | (exfalso; omega) | (exact absurd rfl hb) | skip))
      | apply awp_block
      | apply awp_skip
      | apply awp_exit
      | apply awp_ret'
      | ((first | (apply ops_cons; exact rfl) | (apply ops_yes; exact rfl; exact rfl; exact rfl)); first | (apply QOk.ok; first | refine st_lens rfl rfl rfl rfl rfl ?_ | refine st_len rfl rfl rfl rfl (by first | exact List.length_map _ | exact chunk_length _ _ _ | exact byteE_length _ | exact strE_length _ | exact intE_length _ | exact (rfl : _ = 1) | exact (rfl : _ = 0) | exact (rfl : _ = 2) | exact (rfl : _ = 3) | exact cutM_length (by omega) | rfl) rfl (fun _ => ?_) | refine st_neagg ns_ok (by kernel_rfl) rfl rfl rfl rfl rfl rfl rfl rfl ?_) | refine st_call (szJournal_e (j := j) h (by omega)) rfl rfl rfl rfl rfl ?_)
      | ((apply ops_gsplit; exact rfl; exact rfl; (fail_if_success exact (rfl : _ = AV.d (.b true))); (fail_if_success exact (rfl : _ = AV.d (.b false))); exact rfl) <;> intro hb <;> (first | rw [inB_t] at hb | rw [inB_f] at hb | rw [inB_nt] at hb | rw [inB_nf] at hb | rw [decide_eq_true_eq] at hb | rw [decide_eq_false_iff_not] at hb | rw [beq_iff_eq] at hb | rw [beq_eq_false_iff_ne] at hb | rw [Bool.not_eq_true'] at hb | rw [Bool.not_eq_false'] at hb | rw [bne_iff_ne] at hb | rw [bne_eq_false_iff_eq] at hb | skip) <;> (first | (exfalso; omega) | (exact absurd rfl hb) | skip))
      | ((first | (apply qs_cons; exact rfl) | (apply qs_yes; exact rfl; exact rfl; exact rfl)); first | refine st_lens rfl rfl rfl rfl rfl ?_ | refine st_len rfl rfl rfl rfl (by first | exact List.length_map _ | exact chunk_length _ _ _ | exact byteE_length _ | exact strE_length _ | exact intE_length _ | exact (rfl : _ = 1) | exact (rfl : _ = 0) | exact (rfl : _ = 2) | exact (rfl : _ = 3) | exact cutM_length (by omega) | rfl) rfl (fun _ => ?_) | refine st_neagg ns_ok (by kernel_rfl) rfl rfl rfl rfl rfl rfl rfl rfl ?_ | refine st_callq (szJournal_e (j := j) h (by omega)) rfl rfl rfl rfl rfl ?_)
      | ((apply qs_gsplit; exact rfl; exact rfl; (fail_if_success exact (rfl : _ = AV.d (.b true))); (fail_if_success exact (rfl : _ = AV.d (.b false))); exact rfl) <;> intro hb <;> (first | rw [inB_t] at hb | rw [inB_f] at hb | rw [inB_nt] at hb | rw [inB_nf] at hb | rw [decide_eq_true_eq] at hb | rw [decide_eq_false_iff_not] at hb | rw [beq_iff_eq] at hb | rw [beq_eq_false_iff_ne] at hb | rw [Bool.not_eq_true'] at hb | rw [Bool.not_eq_false'] at hb | rw [bne_iff_ne] at hb | rw [bne_eq_false_iff_eq] at hb | skip) <;> (first | (exfalso; omega) | (exact absurd rfl hb) | skip))
      )
    · refine Stop.mk ?_
      refine ret_intro [] rfl rfl ?_ ?_
      repeat' (first
        | apply And.intro
        | (apply eq_b; exact rfl; exact Stop.mk (by with_reducible rfl))
        | (apply eq_b; exact rfl)
        | (apply eq_n; exact rfl; exact Stop.mk (by first | with_reducible rfl | omega))
        | (apply eq_n; exact rfl)
        | (apply eq_s; exact rfl; exact Stop.mk (by with_reducible rfl))
        | (apply eq_s; exact rfl)
        | (apply eq_sl; exact rfl; exact Stop.mk (by with_reducible rfl))
        | (apply eq_sl; exact rfl)
        | (apply eq_row; exact rfl; exact Stop.mk (by with_reducible rfl))
        | (apply eq_row; exact rfl)
        | (apply eq_agg; exact rfl)
        | (apply eq_cons; exact rfl)
        | (apply eq_boxo; exact rfl)
        | (apply cell_agg; exact rfl; exact rfl; exact rfl)
        | (apply cell_one; exact rfl; exact rfl)
        | exact rfl
        | trivial
        )
    · refine Stop.mk ?_
      refine ret_intro [] rfl rfl ?_ ?_
      repeat' (first
        | apply And.intro
        | (apply eq_b; exact rfl; exact Stop.mk (by with_reducible rfl))
        | (apply eq_b; exact rfl)
        | (apply eq_n; exact rfl; exact Stop.mk (by first | with_reducible rfl | omega))
        | (apply eq_n; exact rfl)
        | (apply eq_s; exact rfl; exact Stop.mk (by with_reducible rfl))
        | (apply eq_s; exact rfl)
        | (apply eq_sl; exact rfl; exact Stop.mk (by with_reducible rfl))
        | (apply eq_sl; exact rfl)
        | (apply eq_row; exact rfl; exact Stop.mk (by with_reducible rfl))
        | (apply eq_row; exact rfl)
        | (apply eq_agg; exact rfl)
        | (apply eq_cons; exact rfl)
        | (apply eq_boxo; exact rfl)
        | (apply cell_agg; exact rfl; exact rfl; exact rfl)
        | (apply cell_one; exact rfl; exact rfl)
        | exact rfl
        | trivial
        )
    · exact absurd (show szX j.bytes.length 1048576 < 0 by rw [szX_no hs]; decide) hb
  · by_cases hsl : s.length ≤ 1048576
    · by_cases hc : addC j s = 0
      · have hl : (jnAdd j s).bytes.length ≤ 1000000000 := by
          have := (addC_yes hc).2.2
          simp only [jnAdd, List.length_append] at this ⊢
          omega
        repeat' (first
          | apply awp_seq
          | (apply awp_regionN; exact rfl)
          | (apply aopG_ok; exact rfl)
          | apply ops_nil
          | (apply awp_drawm2 12; kernel_rfl; exact rfl)
          | (apply awp_drawq; exact rfl; kernel_rfl; kernel_rfl; exact rfl)
          | (apply awp_drawx; exact rfl; kernel_rfl; exact rfl)
          | (apply aopQ_ok; exact rfl)
          | apply qs_nil
          | (apply ch_nil; exact rfl)
          | (apply ch_cons; (· exact rfl); (· exact rfl); (· exact rfl); (· exact rfl); (· (intro w0 Z O; first | (apply aop_ok; exact rfl) | (apply QOk.ok; first | refine st_lens rfl rfl rfl rfl rfl ?_ | refine st_len rfl rfl rfl rfl (by first | exact List.length_map _ | exact chunk_length _ _ _ | exact byteE_length _ | exact strE_length _ | exact intE_length _ | exact (rfl : _ = 1) | exact (rfl : _ = 0) | exact (rfl : _ = 2) | exact (rfl : _ = 3) | exact cutM_length (by omega) | rfl) rfl (fun _ => ?_) | refine st_neagg ns_ok (by kernel_rfl) rfl rfl rfl rfl rfl rfl rfl rfl ?_) | refine st_call (szJournal_e (j := j) h (by omega)) rfl rfl rfl rfl rfl ?_ | refine st_call (toJournal_e (j := j) (by omega)) rfl rfl rfl rfl rfl ?_ | refine st_call (journalAdd_s hc) rfl rfl rfl rfl rfl ?_ | refine st_call (journalAdd_e hc) rfl rfl rfl rfl rfl ?_ | refine st_call (eqJournal_r (j := jnAdd j s) hl) rfl rfl rfl rfl rfl ?_ | refine st_call (eqJournal_r (j := j) (by omega)) rfl rfl rfl rfl rfl ?_ | refine st_call (heldJournal_e (s := (jnAdd j s).synced) (c := (jnAdd j s).count) (n := (jnAdd j s).bytes.length) (k := 1) hl (by omega)) rfl rfl rfl rfl rfl ?_ | refine st_callm [32] (markJournal_m (j := j) (k := 1) (by omega) (by omega)) rfl rfl rfl rfl rfl (fun _ _ => rfl) rfl (fun i hi => ?_); (try dsimp only at hi) | refine st_callm [36] (markJournal_m (j := jnAdd j s) (k := 1) hl (by omega)) rfl rfl rfl rfl rfl (fun _ _ => rfl) rfl (fun i hi => ?_); (try dsimp only at hi)); exact ⟨rfl, rfl, rfl⟩); (· exact rfl); (· exact rfl); (· (repeat' (first | apply And.intro | exact Or.inl rfl | exact Or.inr ⟨rfl, rfl⟩ | exact trivial))); (· (repeat' (first | apply And.intro | exact trivial | exact rfl | exact flatE_map (fun _ => rfl) | apply flatE_app))); (· exact rfl); (· exact rfl); (· exact rfl); (· exact rfl))
          | (apply awp_cond_t; exact rfl)
          | (apply awp_cond_f; exact rfl)
          | ((apply awp_cond; exact rfl) <;> intro hb <;> (first | rw [inB_t] at hb | rw [inB_f] at hb | rw [inB_nt] at hb | rw [inB_nf] at hb | rw [decide_eq_true_eq] at hb | rw [decide_eq_false_iff_not] at hb | rw [beq_iff_eq] at hb | rw [beq_eq_false_iff_ne] at hb | rw [Bool.not_eq_true'] at hb | rw [Bool.not_eq_false'] at hb | rw [bne_iff_ne] at hb | rw [bne_eq_false_iff_eq] at hb | skip) <;> (first | (exfalso; omega) | (exact absurd rfl hb) | skip))
          | apply awp_block
          | apply awp_skip
          | apply awp_exit
          | apply awp_ret'
          | ((first | (apply ops_cons; exact rfl) | (apply ops_yes; exact rfl; exact rfl; exact rfl)); first | (apply QOk.ok; first | refine st_lens rfl rfl rfl rfl rfl ?_ | refine st_len rfl rfl rfl rfl (by first | exact List.length_map _ | exact chunk_length _ _ _ | exact byteE_length _ | exact strE_length _ | exact intE_length _ | exact (rfl : _ = 1) | exact (rfl : _ = 0) | exact (rfl : _ = 2) | exact (rfl : _ = 3) | exact cutM_length (by omega) | rfl) rfl (fun _ => ?_) | refine st_neagg ns_ok (by kernel_rfl) rfl rfl rfl rfl rfl rfl rfl rfl ?_) | refine st_call (szJournal_e (j := j) h (by omega)) rfl rfl rfl rfl rfl ?_ | refine st_call (toJournal_e (j := j) (by omega)) rfl rfl rfl rfl rfl ?_ | refine st_call (journalAdd_s hc) rfl rfl rfl rfl rfl ?_ | refine st_call (journalAdd_e hc) rfl rfl rfl rfl rfl ?_ | refine st_call (eqJournal_r (j := jnAdd j s) hl) rfl rfl rfl rfl rfl ?_ | refine st_call (eqJournal_r (j := j) (by omega)) rfl rfl rfl rfl rfl ?_ | refine st_call (heldJournal_e (s := (jnAdd j s).synced) (c := (jnAdd j s).count) (n := (jnAdd j s).bytes.length) (k := 1) hl (by omega)) rfl rfl rfl rfl rfl ?_ | refine st_callm [32] (markJournal_m (j := j) (k := 1) (by omega) (by omega)) rfl rfl rfl rfl rfl (fun _ _ => rfl) rfl (fun i hi => ?_); (try dsimp only at hi) | refine st_callm [36] (markJournal_m (j := jnAdd j s) (k := 1) hl (by omega)) rfl rfl rfl rfl rfl (fun _ _ => rfl) rfl (fun i hi => ?_); (try dsimp only at hi))
          | ((apply ops_gsplit; exact rfl; exact rfl; (fail_if_success exact (rfl : _ = AV.d (.b true))); (fail_if_success exact (rfl : _ = AV.d (.b false))); exact rfl) <;> intro hb <;> (first | rw [inB_t] at hb | rw [inB_f] at hb | rw [inB_nt] at hb | rw [inB_nf] at hb | rw [decide_eq_true_eq] at hb | rw [decide_eq_false_iff_not] at hb | rw [beq_iff_eq] at hb | rw [beq_eq_false_iff_ne] at hb | rw [Bool.not_eq_true'] at hb | rw [Bool.not_eq_false'] at hb | rw [bne_iff_ne] at hb | rw [bne_eq_false_iff_eq] at hb | skip) <;> (first | (exfalso; omega) | (exact absurd rfl hb) | skip))
          | ((first | (apply qs_cons; exact rfl) | (apply qs_yes; exact rfl; exact rfl; exact rfl)); first | refine st_lens rfl rfl rfl rfl rfl ?_ | refine st_len rfl rfl rfl rfl (by first | exact List.length_map _ | exact chunk_length _ _ _ | exact byteE_length _ | exact strE_length _ | exact intE_length _ | exact (rfl : _ = 1) | exact (rfl : _ = 0) | exact (rfl : _ = 2) | exact (rfl : _ = 3) | exact cutM_length (by omega) | rfl) rfl (fun _ => ?_) | refine st_neagg ns_ok (by kernel_rfl) rfl rfl rfl rfl rfl rfl rfl rfl ?_ | refine st_callq (szJournal_e (j := j) h (by omega)) rfl rfl rfl rfl rfl ?_ | refine st_callq (toJournal_e (j := j) (by omega)) rfl rfl rfl rfl rfl ?_ | refine st_callq (journalAdd_s hc) rfl rfl rfl rfl rfl ?_ | refine st_callq (journalAdd_e hc) rfl rfl rfl rfl rfl ?_ | refine st_callq (eqJournal_r (j := jnAdd j s) hl) rfl rfl rfl rfl rfl ?_ | refine st_callq (eqJournal_r (j := j) (by omega)) rfl rfl rfl rfl rfl ?_ | refine st_callq (heldJournal_e (s := (jnAdd j s).synced) (c := (jnAdd j s).count) (n := (jnAdd j s).bytes.length) (k := 1) hl (by omega)) rfl rfl rfl rfl rfl ?_)
          | ((apply qs_gsplit; exact rfl; exact rfl; (fail_if_success exact (rfl : _ = AV.d (.b true))); (fail_if_success exact (rfl : _ = AV.d (.b false))); exact rfl) <;> intro hb <;> (first | rw [inB_t] at hb | rw [inB_f] at hb | rw [inB_nt] at hb | rw [inB_nf] at hb | rw [decide_eq_true_eq] at hb | rw [decide_eq_false_iff_not] at hb | rw [beq_iff_eq] at hb | rw [beq_eq_false_iff_ne] at hb | rw [Bool.not_eq_true'] at hb | rw [Bool.not_eq_false'] at hb | rw [bne_iff_ne] at hb | rw [bne_eq_false_iff_eq] at hb | skip) <;> (first | (exfalso; omega) | (exact absurd rfl hb) | skip))
          )
        all_goals
          refine Stop.mk ?_
          refine ret_intro [] rfl rfl ?_ ?_
          repeat' (first
            | apply And.intro
            | (apply eq_b; exact rfl; exact Stop.mk (by with_reducible rfl))
            | (apply eq_b; exact rfl)
            | (apply eq_n; exact rfl; exact Stop.mk (by first | with_reducible rfl | omega))
            | (apply eq_n; exact rfl)
            | (apply eq_s; exact rfl; exact Stop.mk (by with_reducible rfl))
            | (apply eq_s; exact rfl)
            | (apply eq_sl; exact rfl; exact Stop.mk (by with_reducible rfl))
            | (apply eq_sl; exact rfl)
            | (apply eq_row; exact rfl; exact Stop.mk (by with_reducible rfl))
            | (apply eq_row; exact rfl)
            | (apply eq_agg; exact rfl)
            | (apply eq_cons; exact rfl)
            | (apply eq_boxo; exact rfl)
            | (apply cell_agg; exact rfl; exact rfl; exact rfl)
            | (apply cell_one; exact rfl; exact rfl)
            | exact rfl
            | trivial
            )
      · repeat' (first
          | apply awp_seq
          | (apply awp_regionN; exact rfl)
          | (apply aopG_ok; exact rfl)
          | apply ops_nil
          | (apply awp_drawm2 12; kernel_rfl; exact rfl)
          | (apply awp_drawq; exact rfl; kernel_rfl; kernel_rfl; exact rfl)
          | (apply awp_drawx; exact rfl; kernel_rfl; exact rfl)
          | (apply aopQ_ok; exact rfl)
          | apply qs_nil
          | (apply ch_nil; exact rfl)
          | (apply ch_cons; (· exact rfl); (· exact rfl); (· exact rfl); (· exact rfl); (· (intro w0 Z O; first | (apply aop_ok; exact rfl) | (apply QOk.ok; first | refine st_lens rfl rfl rfl rfl rfl ?_ | refine st_len rfl rfl rfl rfl (by first | exact List.length_map _ | exact chunk_length _ _ _ | exact byteE_length _ | exact strE_length _ | exact intE_length _ | exact (rfl : _ = 1) | exact (rfl : _ = 0) | exact (rfl : _ = 2) | exact (rfl : _ = 3) | exact cutM_length (by omega) | rfl) rfl (fun _ => ?_) | refine st_neagg ns_ok (by kernel_rfl) rfl rfl rfl rfl rfl rfl rfl rfl ?_) | refine st_call (szJournal_e (j := j) h (by omega)) rfl rfl rfl rfl rfl ?_ | refine st_call (toJournal_e (j := j) (by omega)) rfl rfl rfl rfl rfl ?_ | refine st_call (journalAdd_s0 (j := j) (s := s) (by omega) (by omega) hc) rfl rfl rfl rfl rfl ?_ | refine st_call (journalAdd_e0 (j := j) (s := s) (by omega) (by omega) hc) rfl rfl rfl rfl rfl ?_ | refine st_call (eqJournal_r (j := ⟨[], 0, 0⟩) (by exact Nat.zero_le _)) rfl rfl rfl rfl rfl ?_ | refine st_call (eqJournal_r (j := j) (by omega)) rfl rfl rfl rfl rfl ?_ | refine st_call (markJournal_0 (k := 1)) rfl rfl rfl rfl rfl ?_ | refine st_call (heldJournal_e (s := 0) (c := 0) (n := 0) (k := 1) (by omega) (by omega)) rfl rfl rfl rfl rfl ?_ | refine st_callm [32] (markJournal_m (j := j) (k := 1) (by omega) (by omega)) rfl rfl rfl rfl rfl (fun _ _ => rfl) rfl (fun i hi => ?_); (try dsimp only at hi)); exact ⟨rfl, rfl, rfl⟩); (· exact rfl); (· exact rfl); (· (repeat' (first | apply And.intro | exact Or.inl rfl | exact Or.inr ⟨rfl, rfl⟩ | exact trivial))); (· (repeat' (first | apply And.intro | exact trivial | exact rfl | exact flatE_map (fun _ => rfl) | apply flatE_app))); (· exact rfl); (· exact rfl); (· exact rfl); (· exact rfl))
          | (apply awp_cond_t; exact rfl)
          | (apply awp_cond_f; exact rfl)
          | ((apply awp_cond; exact rfl) <;> intro hb <;> (first | rw [inB_t] at hb | rw [inB_f] at hb | rw [inB_nt] at hb | rw [inB_nf] at hb | rw [decide_eq_true_eq] at hb | rw [decide_eq_false_iff_not] at hb | rw [beq_iff_eq] at hb | rw [beq_eq_false_iff_ne] at hb | rw [Bool.not_eq_true'] at hb | rw [Bool.not_eq_false'] at hb | rw [bne_iff_ne] at hb | rw [bne_eq_false_iff_eq] at hb | skip) <;> (first | (exfalso; omega) | (exact absurd rfl hb) | skip))
          | apply awp_block
          | apply awp_skip
          | apply awp_exit
          | apply awp_ret'
          | ((first | (apply ops_cons; exact rfl) | (apply ops_yes; exact rfl; exact rfl; exact rfl)); first | (apply QOk.ok; first | refine st_lens rfl rfl rfl rfl rfl ?_ | refine st_len rfl rfl rfl rfl (by first | exact List.length_map _ | exact chunk_length _ _ _ | exact byteE_length _ | exact strE_length _ | exact intE_length _ | exact (rfl : _ = 1) | exact (rfl : _ = 0) | exact (rfl : _ = 2) | exact (rfl : _ = 3) | exact cutM_length (by omega) | rfl) rfl (fun _ => ?_) | refine st_neagg ns_ok (by kernel_rfl) rfl rfl rfl rfl rfl rfl rfl rfl ?_) | refine st_call (szJournal_e (j := j) h (by omega)) rfl rfl rfl rfl rfl ?_ | refine st_call (toJournal_e (j := j) (by omega)) rfl rfl rfl rfl rfl ?_ | refine st_call (journalAdd_s0 (j := j) (s := s) (by omega) (by omega) hc) rfl rfl rfl rfl rfl ?_ | refine st_call (journalAdd_e0 (j := j) (s := s) (by omega) (by omega) hc) rfl rfl rfl rfl rfl ?_ | refine st_call (eqJournal_r (j := ⟨[], 0, 0⟩) (by exact Nat.zero_le _)) rfl rfl rfl rfl rfl ?_ | refine st_call (eqJournal_r (j := j) (by omega)) rfl rfl rfl rfl rfl ?_ | refine st_call (markJournal_0 (k := 1)) rfl rfl rfl rfl rfl ?_ | refine st_call (heldJournal_e (s := 0) (c := 0) (n := 0) (k := 1) (by omega) (by omega)) rfl rfl rfl rfl rfl ?_ | refine st_callm [32] (markJournal_m (j := j) (k := 1) (by omega) (by omega)) rfl rfl rfl rfl rfl (fun _ _ => rfl) rfl (fun i hi => ?_); (try dsimp only at hi))
          | ((apply ops_gsplit; exact rfl; exact rfl; (fail_if_success exact (rfl : _ = AV.d (.b true))); (fail_if_success exact (rfl : _ = AV.d (.b false))); exact rfl) <;> intro hb <;> (first | rw [inB_t] at hb | rw [inB_f] at hb | rw [inB_nt] at hb | rw [inB_nf] at hb | rw [decide_eq_true_eq] at hb | rw [decide_eq_false_iff_not] at hb | rw [beq_iff_eq] at hb | rw [beq_eq_false_iff_ne] at hb | rw [Bool.not_eq_true'] at hb | rw [Bool.not_eq_false'] at hb | rw [bne_iff_ne] at hb | rw [bne_eq_false_iff_eq] at hb | skip) <;> (first | (exfalso; omega) | (exact absurd rfl hb) | skip))
          | ((first | (apply qs_cons; exact rfl) | (apply qs_yes; exact rfl; exact rfl; exact rfl)); first | refine st_lens rfl rfl rfl rfl rfl ?_ | refine st_len rfl rfl rfl rfl (by first | exact List.length_map _ | exact chunk_length _ _ _ | exact byteE_length _ | exact strE_length _ | exact intE_length _ | exact (rfl : _ = 1) | exact (rfl : _ = 0) | exact (rfl : _ = 2) | exact (rfl : _ = 3) | exact cutM_length (by omega) | rfl) rfl (fun _ => ?_) | refine st_neagg ns_ok (by kernel_rfl) rfl rfl rfl rfl rfl rfl rfl rfl ?_ | refine st_callq (szJournal_e (j := j) h (by omega)) rfl rfl rfl rfl rfl ?_ | refine st_callq (toJournal_e (j := j) (by omega)) rfl rfl rfl rfl rfl ?_ | refine st_callq (journalAdd_s0 (j := j) (s := s) (by omega) (by omega) hc) rfl rfl rfl rfl rfl ?_ | refine st_callq (journalAdd_e0 (j := j) (s := s) (by omega) (by omega) hc) rfl rfl rfl rfl rfl ?_ | refine st_callq (eqJournal_r (j := ⟨[], 0, 0⟩) (by exact Nat.zero_le _)) rfl rfl rfl rfl rfl ?_ | refine st_callq (eqJournal_r (j := j) (by omega)) rfl rfl rfl rfl rfl ?_ | refine st_callq (markJournal_0 (k := 1)) rfl rfl rfl rfl rfl ?_ | refine st_callq (heldJournal_e (s := 0) (c := 0) (n := 0) (k := 1) (by omega) (by omega)) rfl rfl rfl rfl rfl ?_)
          | ((apply qs_gsplit; exact rfl; exact rfl; (fail_if_success exact (rfl : _ = AV.d (.b true))); (fail_if_success exact (rfl : _ = AV.d (.b false))); exact rfl) <;> intro hb <;> (first | rw [inB_t] at hb | rw [inB_f] at hb | rw [inB_nt] at hb | rw [inB_nf] at hb | rw [decide_eq_true_eq] at hb | rw [decide_eq_false_iff_not] at hb | rw [beq_iff_eq] at hb | rw [beq_eq_false_iff_ne] at hb | rw [Bool.not_eq_true'] at hb | rw [Bool.not_eq_false'] at hb | rw [bne_iff_ne] at hb | rw [bne_eq_false_iff_eq] at hb | skip) <;> (first | (exfalso; omega) | (exact absurd rfl hb) | skip))
          )
        all_goals
          refine Stop.mk ?_
          refine ret_intro [] rfl rfl ?_ ?_
          repeat' (first
            | apply And.intro
            | (apply eq_b; exact rfl; exact Stop.mk (by with_reducible rfl))
            | (apply eq_b; exact rfl)
            | (apply eq_n; exact rfl; exact Stop.mk (by first | with_reducible rfl | omega))
            | (apply eq_n; exact rfl)
            | (apply eq_s; exact rfl; exact Stop.mk (by with_reducible rfl))
            | (apply eq_s; exact rfl)
            | (apply eq_sl; exact rfl; exact Stop.mk (by with_reducible rfl))
            | (apply eq_sl; exact rfl)
            | (apply eq_row; exact rfl; exact Stop.mk (by with_reducible rfl))
            | (apply eq_row; exact rfl)
            | (apply eq_agg; exact rfl)
            | (apply eq_cons; exact rfl)
            | (apply eq_boxo; exact rfl)
            | (apply cell_agg; exact rfl; exact rfl; exact rfl)
            | (apply cell_one; exact rfl; exact rfl)
            | exact rfl
            | trivial
            )
    · repeat' (first
        | apply awp_seq
        | (apply awp_regionN; exact rfl)
        | (apply aopG_ok; exact rfl)
        | apply ops_nil
        | (apply awp_drawm2 12; kernel_rfl; exact rfl)
        | (apply awp_drawq; exact rfl; kernel_rfl; kernel_rfl; exact rfl)
        | (apply awp_drawx; exact rfl; kernel_rfl; exact rfl)
        | (apply aopQ_ok; exact rfl)
        | apply qs_nil
        | (apply ch_nil; exact rfl)
        | (apply ch_cons; (· exact rfl); (· exact rfl); (· exact rfl); (· exact rfl); (· (intro w0 Z O; first | (apply aop_ok; exact rfl) | (apply QOk.ok; first | refine st_lens rfl rfl rfl rfl rfl ?_ | refine st_len rfl rfl rfl rfl (by first | exact List.length_map _ | exact chunk_length _ _ _ | exact byteE_length _ | exact strE_length _ | exact intE_length _ | exact (rfl : _ = 1) | exact (rfl : _ = 0) | exact (rfl : _ = 2) | exact (rfl : _ = 3) | exact cutM_length (by omega) | rfl) rfl (fun _ => ?_) | refine st_neagg ns_ok (by kernel_rfl) rfl rfl rfl rfl rfl rfl rfl rfl ?_)); exact ⟨rfl, rfl, rfl⟩); (· exact rfl); (· exact rfl); (· (repeat' (first | apply And.intro | exact Or.inl rfl | exact Or.inr ⟨rfl, rfl⟩ | exact trivial))); (· (repeat' (first | apply And.intro | exact trivial | exact rfl | exact flatE_map (fun _ => rfl) | apply flatE_app))); (· exact rfl); (· exact rfl); (· exact rfl); (· exact rfl))
        | (apply awp_cond_t; exact rfl)
        | (apply awp_cond_f; exact rfl)
        | ((apply awp_cond; exact rfl) <;> intro hb <;> (first | rw [inB_t] at hb | rw [inB_f] at hb | rw [inB_nt] at hb | rw [inB_nf] at hb | rw [decide_eq_true_eq] at hb | rw [decide_eq_false_iff_not] at hb | rw [beq_iff_eq] at hb | rw [beq_eq_false_iff_ne] at hb | rw [Bool.not_eq_true'] at hb | rw [Bool.not_eq_false'] at hb | rw [bne_iff_ne] at hb | rw [bne_eq_false_iff_eq] at hb | skip) <;> (first | (exfalso; omega) | (exact absurd rfl hb) | skip))
        | apply awp_block
        | apply awp_skip
        | apply awp_exit
        | apply awp_ret'
        | ((first | (apply ops_cons; exact rfl) | (apply ops_yes; exact rfl; exact rfl; exact rfl)); first | (apply QOk.ok; first | refine st_lens rfl rfl rfl rfl rfl ?_ | refine st_len rfl rfl rfl rfl (by first | exact List.length_map _ | exact chunk_length _ _ _ | exact byteE_length _ | exact strE_length _ | exact intE_length _ | exact (rfl : _ = 1) | exact (rfl : _ = 0) | exact (rfl : _ = 2) | exact (rfl : _ = 3) | exact cutM_length (by omega) | rfl) rfl (fun _ => ?_) | refine st_neagg ns_ok (by kernel_rfl) rfl rfl rfl rfl rfl rfl rfl rfl ?_))
        | ((apply ops_gsplit; exact rfl; exact rfl; (fail_if_success exact (rfl : _ = AV.d (.b true))); (fail_if_success exact (rfl : _ = AV.d (.b false))); exact rfl) <;> intro hb <;> (first | rw [inB_t] at hb | rw [inB_f] at hb | rw [inB_nt] at hb | rw [inB_nf] at hb | rw [decide_eq_true_eq] at hb | rw [decide_eq_false_iff_not] at hb | rw [beq_iff_eq] at hb | rw [beq_eq_false_iff_ne] at hb | rw [Bool.not_eq_true'] at hb | rw [Bool.not_eq_false'] at hb | rw [bne_iff_ne] at hb | rw [bne_eq_false_iff_eq] at hb | skip) <;> (first | (exfalso; omega) | (exact absurd rfl hb) | skip))
        | ((first | (apply qs_cons; exact rfl) | (apply qs_yes; exact rfl; exact rfl; exact rfl)); first | refine st_lens rfl rfl rfl rfl rfl ?_ | refine st_len rfl rfl rfl rfl (by first | exact List.length_map _ | exact chunk_length _ _ _ | exact byteE_length _ | exact strE_length _ | exact intE_length _ | exact (rfl : _ = 1) | exact (rfl : _ = 0) | exact (rfl : _ = 2) | exact (rfl : _ = 3) | exact cutM_length (by omega) | rfl) rfl (fun _ => ?_) | refine st_neagg ns_ok (by kernel_rfl) rfl rfl rfl rfl rfl rfl rfl rfl ?_)
        | ((apply qs_gsplit; exact rfl; exact rfl; (fail_if_success exact (rfl : _ = AV.d (.b true))); (fail_if_success exact (rfl : _ = AV.d (.b false))); exact rfl) <;> intro hb <;> (first | rw [inB_t] at hb | rw [inB_f] at hb | rw [inB_nt] at hb | rw [inB_nf] at hb | rw [decide_eq_true_eq] at hb | rw [decide_eq_false_iff_not] at hb | rw [beq_iff_eq] at hb | rw [beq_eq_false_iff_ne] at hb | rw [Bool.not_eq_true'] at hb | rw [Bool.not_eq_false'] at hb | rw [bne_iff_ne] at hb | rw [bne_eq_false_iff_eq] at hb | skip) <;> (first | (exfalso; omega) | (exact absurd rfl hb) | skip))
        )
      refine Stop.mk ?_
      refine ret_intro [] rfl rfl ?_ ?_
      repeat' (first
        | apply And.intro
        | (apply eq_b; exact rfl; exact Stop.mk (by with_reducible rfl))
        | (apply eq_b; exact rfl)
        | (apply eq_n; exact rfl; exact Stop.mk (by first | with_reducible rfl | omega))
        | (apply eq_n; exact rfl)
        | (apply eq_s; exact rfl; exact Stop.mk (by with_reducible rfl))
        | (apply eq_s; exact rfl)
        | (apply eq_sl; exact rfl; exact Stop.mk (by with_reducible rfl))
        | (apply eq_sl; exact rfl)
        | (apply eq_row; exact rfl; exact Stop.mk (by with_reducible rfl))
        | (apply eq_row; exact rfl)
        | (apply eq_agg; exact rfl)
        | (apply eq_cons; exact rfl)
        | (apply eq_boxo; exact rfl)
        | (apply cell_agg; exact rfl; exact rfl; exact rfl)
        | (apply cell_one; exact rfl; exact rfl)
        | exact rfl
        | trivial
        )
set_option maxRecDepth 100000 in
set_option maxHeartbeats 4000000 in
theorem lawJournalCrash_e {j : Journal} {keep : Int} (h : j.bytes.length ≤ 9223372036854775807) : ACalls Try.prog 16 [jnA j, .d (.n .i64 keep)] [.d (.b true)] [] := by
  refine acalls_of tt Try.func16 rfl rfl rfl (fun w0 Z => ?_)
  by_cases hs : (1048576 : Int) - j.bytes.length < 0
  · repeat' (first
      | apply awp_seq
      | (apply awp_regionN; exact rfl)
      | (apply aopG_ok; exact rfl)
      | apply ops_nil
      | (apply awp_drawm2 10; kernel_rfl; exact rfl)
      | (apply awp_drawq; exact rfl; kernel_rfl; kernel_rfl; exact rfl)
      | (apply awp_drawx; exact rfl; kernel_rfl; exact rfl)
      | (apply aopQ_ok; exact rfl)
      | apply qs_nil
      | (apply ch_nil; exact rfl)
      | (apply ch_cons; (· exact rfl); (· exact rfl); (· exact rfl); (· exact rfl); (· (intro w0 Z O; first | (apply aop_ok; exact rfl) | (apply QOk.ok; first | refine st_neagg ns_ok (by kernel_rfl) rfl rfl rfl rfl rfl rfl rfl rfl ?_) | refine st_call (szJournal_e (j := j) h (by omega)) rfl rfl rfl rfl rfl ?_); exact ⟨rfl, rfl, rfl⟩); (· exact rfl); (· exact rfl); (· (repeat' (first | apply And.intro | exact Or.inl rfl | exact Or.inr ⟨rfl, rfl⟩ | exact trivial))); (· (repeat' (first | apply And.intro | exact trivial | exact rfl | exact flatE_map (fun _ => rfl) | apply flatE_app))); (· exact rfl); (· exact rfl); (· exact rfl); (· exact rfl))
      | (apply awp_cond_t; exact rfl)
      | (apply awp_cond_f; exact rfl)
      | ((apply awp_cond; exact rfl) <;> intro hb <;> (first | rw [inB_t] at hb | rw [inB_f] at hb | rw [inB_nt] at hb | rw [inB_nf] at hb | rw [decide_eq_true_eq] at hb | rw [decide_eq_false_iff_not] at hb | rw [beq_iff_eq] at hb | rw [beq_eq_false_iff_ne] at hb | rw [Bool.not_eq_true'] at hb | rw [Bool.not_eq_false'] at hb | rw [bne_iff_ne] at hb | rw [bne_eq_false_iff_eq] at hb | skip) <;> (first | (exfalso; omega) | (exact absurd rfl hb) | skip))
      | apply awp_block
      | apply awp_skip
      | apply awp_exit
      | apply awp_ret'
      | ((first | (apply ops_cons; exact rfl) | (apply ops_yes; exact rfl; exact rfl; exact rfl)); first | (apply QOk.ok; first | refine st_neagg ns_ok (by kernel_rfl) rfl rfl rfl rfl rfl rfl rfl rfl ?_) | refine st_call (szJournal_e (j := j) h (by omega)) rfl rfl rfl rfl rfl ?_)
      | ((apply ops_gsplit; exact rfl; exact rfl; (fail_if_success exact (rfl : _ = AV.d (.b true))); (fail_if_success exact (rfl : _ = AV.d (.b false))); exact rfl) <;> intro hb <;> (first | rw [inB_t] at hb | rw [inB_f] at hb | rw [inB_nt] at hb | rw [inB_nf] at hb | rw [decide_eq_true_eq] at hb | rw [decide_eq_false_iff_not] at hb | rw [beq_iff_eq] at hb | rw [beq_eq_false_iff_ne] at hb | rw [Bool.not_eq_true'] at hb | rw [Bool.not_eq_false'] at hb | rw [bne_iff_ne] at hb | rw [bne_eq_false_iff_eq] at hb | skip) <;> (first | (exfalso; omega) | (exact absurd rfl hb) | skip))
      | ((first | (apply qs_cons; exact rfl) | (apply qs_yes; exact rfl; exact rfl; exact rfl)); first | refine st_neagg ns_ok (by kernel_rfl) rfl rfl rfl rfl rfl rfl rfl rfl ?_ | refine st_callq (szJournal_e (j := j) h (by omega)) rfl rfl rfl rfl rfl ?_)
      | ((apply qs_gsplit; exact rfl; exact rfl; (fail_if_success exact (rfl : _ = AV.d (.b true))); (fail_if_success exact (rfl : _ = AV.d (.b false))); exact rfl) <;> intro hb <;> (first | rw [inB_t] at hb | rw [inB_f] at hb | rw [inB_nt] at hb | rw [inB_nf] at hb | rw [decide_eq_true_eq] at hb | rw [decide_eq_false_iff_not] at hb | rw [beq_iff_eq] at hb | rw [beq_eq_false_iff_ne] at hb | rw [Bool.not_eq_true'] at hb | rw [Bool.not_eq_false'] at hb | rw [bne_iff_ne] at hb | rw [bne_eq_false_iff_eq] at hb | skip) <;> (first | (exfalso; omega) | (exact absurd rfl hb) | skip))
      )
    · refine Stop.mk ?_
      refine ret_intro [] rfl rfl ?_ ?_
      repeat' (first
        | apply And.intro
        | (apply eq_b; exact rfl; exact Stop.mk (by with_reducible rfl))
        | (apply eq_b; exact rfl)
        | (apply eq_n; exact rfl; exact Stop.mk (by first | with_reducible rfl | omega))
        | (apply eq_n; exact rfl)
        | (apply eq_s; exact rfl; exact Stop.mk (by with_reducible rfl))
        | (apply eq_s; exact rfl)
        | (apply eq_sl; exact rfl; exact Stop.mk (by with_reducible rfl))
        | (apply eq_sl; exact rfl)
        | (apply eq_row; exact rfl; exact Stop.mk (by with_reducible rfl))
        | (apply eq_row; exact rfl)
        | (apply eq_agg; exact rfl)
        | (apply eq_cons; exact rfl)
        | (apply eq_boxo; exact rfl)
        | (apply cell_agg; exact rfl; exact rfl; exact rfl)
        | (apply cell_one; exact rfl; exact rfl)
        | exact rfl
        | trivial
        )
    · exact absurd (show szX j.bytes.length 1048576 < 0 by rw [szX_no hs]; decide) hb
  · have hl : (j.bytes.take (crashN j keep)).length ≤ 1000000000 := by rw [List.length_take]; omega
    cases hj : jnOk j with
    | true =>
      repeat' (first
        | apply awp_seq
        | (apply awp_regionN; exact rfl)
        | (apply aopG_ok; exact rfl)
        | apply ops_nil
        | (apply awp_drawm2 10; kernel_rfl; exact rfl)
        | (apply awp_drawq; exact rfl; kernel_rfl; kernel_rfl; exact rfl)
        | (apply awp_drawx; exact rfl; kernel_rfl; exact rfl)
        | (apply aopQ_ok; exact rfl)
        | apply qs_nil
        | (apply ch_nil; exact rfl)
        | (apply ch_cons; (· exact rfl); (· exact rfl); (· exact rfl); (· exact rfl); (· (intro w0 Z O; first | (apply aop_ok; exact rfl) | (apply QOk.ok; first | refine st_neagg ns_ok (by kernel_rfl) rfl rfl rfl rfl rfl rfl rfl rfl ?_) | refine st_call (szJournal_e (j := j) h (by omega)) rfl rfl rfl rfl rfl ?_ | refine st_call (toJournal_e (j := j) (by omega)) rfl rfl rfl rfl rfl ?_ | refine st_call (journalCrash_s (j := j) (keep := keep) hj) rfl rfl rfl rfl rfl ?_ | refine st_call (journalCrash_e (j := j) (keep := keep) hj) rfl rfl rfl rfl rfl ?_ | refine st_call (eqByteS_r (b := j.bytes.take (crashN j keep)) hl) rfl rfl rfl rfl rfl ?_ | refine st_call (eqJournal_r (j := j) (by omega)) rfl rfl rfl rfl rfl ?_ | refine st_call (heldByteS_e (n := (j.bytes.take (crashN j keep)).length) (k := 1) hl (by omega)) rfl rfl rfl rfl rfl ?_ | refine st_callm [23] (markJournal_m (j := j) (k := 1) (by omega) (by omega)) rfl rfl rfl rfl rfl (fun _ _ => rfl) rfl (fun i hi => ?_); (try dsimp only at hi) | refine st_callm [26] (markByteS_m (b := j.bytes.take (crashN j keep)) (k := 1) hl (by omega)) rfl rfl rfl rfl rfl (fun _ _ => rfl) rfl (fun i hi => ?_); (try dsimp only at hi)); exact ⟨rfl, rfl, rfl⟩); (· exact rfl); (· exact rfl); (· (repeat' (first | apply And.intro | exact Or.inl rfl | exact Or.inr ⟨rfl, rfl⟩ | exact trivial))); (· (repeat' (first | apply And.intro | exact trivial | exact rfl | exact flatE_map (fun _ => rfl) | apply flatE_app))); (· exact rfl); (· exact rfl); (· exact rfl); (· exact rfl))
        | (apply awp_cond_t; exact rfl)
        | (apply awp_cond_f; exact rfl)
        | ((apply awp_cond; exact rfl) <;> intro hb <;> (first | rw [inB_t] at hb | rw [inB_f] at hb | rw [inB_nt] at hb | rw [inB_nf] at hb | rw [decide_eq_true_eq] at hb | rw [decide_eq_false_iff_not] at hb | rw [beq_iff_eq] at hb | rw [beq_eq_false_iff_ne] at hb | rw [Bool.not_eq_true'] at hb | rw [Bool.not_eq_false'] at hb | rw [bne_iff_ne] at hb | rw [bne_eq_false_iff_eq] at hb | skip) <;> (first | (exfalso; omega) | (exact absurd rfl hb) | skip))
        | apply awp_block
        | apply awp_skip
        | apply awp_exit
        | apply awp_ret'
        | ((first | (apply ops_cons; exact rfl) | (apply ops_yes; exact rfl; exact rfl; exact rfl)); first | (apply QOk.ok; first | refine st_neagg ns_ok (by kernel_rfl) rfl rfl rfl rfl rfl rfl rfl rfl ?_) | refine st_call (szJournal_e (j := j) h (by omega)) rfl rfl rfl rfl rfl ?_ | refine st_call (toJournal_e (j := j) (by omega)) rfl rfl rfl rfl rfl ?_ | refine st_call (journalCrash_s (j := j) (keep := keep) hj) rfl rfl rfl rfl rfl ?_ | refine st_call (journalCrash_e (j := j) (keep := keep) hj) rfl rfl rfl rfl rfl ?_ | refine st_call (eqByteS_r (b := j.bytes.take (crashN j keep)) hl) rfl rfl rfl rfl rfl ?_ | refine st_call (eqJournal_r (j := j) (by omega)) rfl rfl rfl rfl rfl ?_ | refine st_call (heldByteS_e (n := (j.bytes.take (crashN j keep)).length) (k := 1) hl (by omega)) rfl rfl rfl rfl rfl ?_ | refine st_callm [23] (markJournal_m (j := j) (k := 1) (by omega) (by omega)) rfl rfl rfl rfl rfl (fun _ _ => rfl) rfl (fun i hi => ?_); (try dsimp only at hi) | refine st_callm [26] (markByteS_m (b := j.bytes.take (crashN j keep)) (k := 1) hl (by omega)) rfl rfl rfl rfl rfl (fun _ _ => rfl) rfl (fun i hi => ?_); (try dsimp only at hi))
        | ((apply ops_gsplit; exact rfl; exact rfl; (fail_if_success exact (rfl : _ = AV.d (.b true))); (fail_if_success exact (rfl : _ = AV.d (.b false))); exact rfl) <;> intro hb <;> (first | rw [inB_t] at hb | rw [inB_f] at hb | rw [inB_nt] at hb | rw [inB_nf] at hb | rw [decide_eq_true_eq] at hb | rw [decide_eq_false_iff_not] at hb | rw [beq_iff_eq] at hb | rw [beq_eq_false_iff_ne] at hb | rw [Bool.not_eq_true'] at hb | rw [Bool.not_eq_false'] at hb | rw [bne_iff_ne] at hb | rw [bne_eq_false_iff_eq] at hb | skip) <;> (first | (exfalso; omega) | (exact absurd rfl hb) | skip))
        | ((first | (apply qs_cons; exact rfl) | (apply qs_yes; exact rfl; exact rfl; exact rfl)); first | refine st_neagg ns_ok (by kernel_rfl) rfl rfl rfl rfl rfl rfl rfl rfl ?_ | refine st_callq (szJournal_e (j := j) h (by omega)) rfl rfl rfl rfl rfl ?_ | refine st_callq (toJournal_e (j := j) (by omega)) rfl rfl rfl rfl rfl ?_ | refine st_callq (journalCrash_s (j := j) (keep := keep) hj) rfl rfl rfl rfl rfl ?_ | refine st_callq (journalCrash_e (j := j) (keep := keep) hj) rfl rfl rfl rfl rfl ?_ | refine st_callq (eqByteS_r (b := j.bytes.take (crashN j keep)) hl) rfl rfl rfl rfl rfl ?_ | refine st_callq (eqJournal_r (j := j) (by omega)) rfl rfl rfl rfl rfl ?_ | refine st_callq (heldByteS_e (n := (j.bytes.take (crashN j keep)).length) (k := 1) hl (by omega)) rfl rfl rfl rfl rfl ?_)
        | ((apply qs_gsplit; exact rfl; exact rfl; (fail_if_success exact (rfl : _ = AV.d (.b true))); (fail_if_success exact (rfl : _ = AV.d (.b false))); exact rfl) <;> intro hb <;> (first | rw [inB_t] at hb | rw [inB_f] at hb | rw [inB_nt] at hb | rw [inB_nf] at hb | rw [decide_eq_true_eq] at hb | rw [decide_eq_false_iff_not] at hb | rw [beq_iff_eq] at hb | rw [beq_eq_false_iff_ne] at hb | rw [Bool.not_eq_true'] at hb | rw [Bool.not_eq_false'] at hb | rw [bne_iff_ne] at hb | rw [bne_eq_false_iff_eq] at hb | skip) <;> (first | (exfalso; omega) | (exact absurd rfl hb) | skip))
        )
      all_goals
        refine Stop.mk ?_
        refine ret_intro [] rfl rfl ?_ ?_
        repeat' (first
          | apply And.intro
          | (apply eq_b; exact rfl; exact Stop.mk (by with_reducible rfl))
          | (apply eq_b; exact rfl)
          | (apply eq_n; exact rfl; exact Stop.mk (by first | with_reducible rfl | omega))
          | (apply eq_n; exact rfl)
          | (apply eq_s; exact rfl; exact Stop.mk (by with_reducible rfl))
          | (apply eq_s; exact rfl)
          | (apply eq_sl; exact rfl; exact Stop.mk (by with_reducible rfl))
          | (apply eq_sl; exact rfl)
          | (apply eq_row; exact rfl; exact Stop.mk (by with_reducible rfl))
          | (apply eq_row; exact rfl)
          | (apply eq_agg; exact rfl)
          | (apply eq_cons; exact rfl)
          | (apply eq_boxo; exact rfl)
          | (apply cell_agg; exact rfl; exact rfl; exact rfl)
          | (apply cell_one; exact rfl; exact rfl)
          | exact rfl
          | trivial
          )
    | false =>
      repeat' (first
        | apply awp_seq
        | (apply awp_regionN; exact rfl)
        | (apply aopG_ok; exact rfl)
        | apply ops_nil
        | (apply awp_drawm2 10; kernel_rfl; exact rfl)
        | (apply awp_drawq; exact rfl; kernel_rfl; kernel_rfl; exact rfl)
        | (apply awp_drawx; exact rfl; kernel_rfl; exact rfl)
        | (apply aopQ_ok; exact rfl)
        | apply qs_nil
        | (apply ch_nil; exact rfl)
        | (apply ch_cons; (· exact rfl); (· exact rfl); (· exact rfl); (· exact rfl); (· (intro w0 Z O; first | (apply aop_ok; exact rfl) | (apply QOk.ok; first | refine st_neagg ns_ok (by kernel_rfl) rfl rfl rfl rfl rfl rfl rfl rfl ?_) | refine st_call (szJournal_e (j := j) h (by omega)) rfl rfl rfl rfl rfl ?_ | refine st_call (toJournal_e (j := j) (by omega)) rfl rfl rfl rfl rfl ?_ | refine st_call (journalCrash_s0 (j := j) (keep := keep) (by omega) hj) rfl rfl rfl rfl rfl ?_ | refine st_call (journalCrash_e0 (j := j) (keep := keep) (by omega) hj) rfl rfl rfl rfl rfl ?_ | refine st_call (eqByteS_r (b := []) (by exact Nat.zero_le _)) rfl rfl rfl rfl rfl ?_ | refine st_call (eqJournal_r (j := j) (by omega)) rfl rfl rfl rfl rfl ?_ | refine st_call (markByteS_0 (k := 1)) rfl rfl rfl rfl rfl ?_ | refine st_call (heldByteS_e (n := 0) (k := 1) (by omega) (by omega)) rfl rfl rfl rfl rfl ?_ | refine st_callm [23] (markJournal_m (j := j) (k := 1) (by omega) (by omega)) rfl rfl rfl rfl rfl (fun _ _ => rfl) rfl (fun i hi => ?_); (try dsimp only at hi)); exact ⟨rfl, rfl, rfl⟩); (· exact rfl); (· exact rfl); (· (repeat' (first | apply And.intro | exact Or.inl rfl | exact Or.inr ⟨rfl, rfl⟩ | exact trivial))); (· (repeat' (first | apply And.intro | exact trivial | exact rfl | exact flatE_map (fun _ => rfl) | apply flatE_app))); (· exact rfl); (· exact rfl); (· exact rfl); (· exact rfl))
        | (apply awp_cond_t; exact rfl)
        | (apply awp_cond_f; exact rfl)
        | ((apply awp_cond; exact rfl) <;> intro hb <;> (first | rw [inB_t] at hb | rw [inB_f] at hb | rw [inB_nt] at hb | rw [inB_nf] at hb | rw [decide_eq_true_eq] at hb | rw [decide_eq_false_iff_not] at hb | rw [beq_iff_eq] at hb | rw [beq_eq_false_iff_ne] at hb | rw [Bool.not_eq_true'] at hb | rw [Bool.not_eq_false'] at hb | rw [bne_iff_ne] at hb | rw [bne_eq_false_iff_eq] at hb | skip) <;> (first | (exfalso; omega) | (exact absurd rfl hb) | skip))
        | apply awp_block
        | apply awp_skip
        | apply awp_exit
        | apply awp_ret'
        | ((first | (apply ops_cons; exact rfl) | (apply ops_yes; exact rfl; exact rfl; exact rfl)); first | (apply QOk.ok; first | refine st_neagg ns_ok (by kernel_rfl) rfl rfl rfl rfl rfl rfl rfl rfl ?_) | refine st_call (szJournal_e (j := j) h (by omega)) rfl rfl rfl rfl rfl ?_ | refine st_call (toJournal_e (j := j) (by omega)) rfl rfl rfl rfl rfl ?_ | refine st_call (journalCrash_s0 (j := j) (keep := keep) (by omega) hj) rfl rfl rfl rfl rfl ?_ | refine st_call (journalCrash_e0 (j := j) (keep := keep) (by omega) hj) rfl rfl rfl rfl rfl ?_ | refine st_call (eqByteS_r (b := []) (by exact Nat.zero_le _)) rfl rfl rfl rfl rfl ?_ | refine st_call (eqJournal_r (j := j) (by omega)) rfl rfl rfl rfl rfl ?_ | refine st_call (markByteS_0 (k := 1)) rfl rfl rfl rfl rfl ?_ | refine st_call (heldByteS_e (n := 0) (k := 1) (by omega) (by omega)) rfl rfl rfl rfl rfl ?_ | refine st_callm [23] (markJournal_m (j := j) (k := 1) (by omega) (by omega)) rfl rfl rfl rfl rfl (fun _ _ => rfl) rfl (fun i hi => ?_); (try dsimp only at hi))
        | ((apply ops_gsplit; exact rfl; exact rfl; (fail_if_success exact (rfl : _ = AV.d (.b true))); (fail_if_success exact (rfl : _ = AV.d (.b false))); exact rfl) <;> intro hb <;> (first | rw [inB_t] at hb | rw [inB_f] at hb | rw [inB_nt] at hb | rw [inB_nf] at hb | rw [decide_eq_true_eq] at hb | rw [decide_eq_false_iff_not] at hb | rw [beq_iff_eq] at hb | rw [beq_eq_false_iff_ne] at hb | rw [Bool.not_eq_true'] at hb | rw [Bool.not_eq_false'] at hb | rw [bne_iff_ne] at hb | rw [bne_eq_false_iff_eq] at hb | skip) <;> (first | (exfalso; omega) | (exact absurd rfl hb) | skip))
        | ((first | (apply qs_cons; exact rfl) | (apply qs_yes; exact rfl; exact rfl; exact rfl)); first | refine st_neagg ns_ok (by kernel_rfl) rfl rfl rfl rfl rfl rfl rfl rfl ?_ | refine st_callq (szJournal_e (j := j) h (by omega)) rfl rfl rfl rfl rfl ?_ | refine st_callq (toJournal_e (j := j) (by omega)) rfl rfl rfl rfl rfl ?_ | refine st_callq (journalCrash_s0 (j := j) (keep := keep) (by omega) hj) rfl rfl rfl rfl rfl ?_ | refine st_callq (journalCrash_e0 (j := j) (keep := keep) (by omega) hj) rfl rfl rfl rfl rfl ?_ | refine st_callq (eqByteS_r (b := []) (by exact Nat.zero_le _)) rfl rfl rfl rfl rfl ?_ | refine st_callq (eqJournal_r (j := j) (by omega)) rfl rfl rfl rfl rfl ?_ | refine st_callq (markByteS_0 (k := 1)) rfl rfl rfl rfl rfl ?_ | refine st_callq (heldByteS_e (n := 0) (k := 1) (by omega) (by omega)) rfl rfl rfl rfl rfl ?_)
        | ((apply qs_gsplit; exact rfl; exact rfl; (fail_if_success exact (rfl : _ = AV.d (.b true))); (fail_if_success exact (rfl : _ = AV.d (.b false))); exact rfl) <;> intro hb <;> (first | rw [inB_t] at hb | rw [inB_f] at hb | rw [inB_nt] at hb | rw [inB_nf] at hb | rw [decide_eq_true_eq] at hb | rw [decide_eq_false_iff_not] at hb | rw [beq_iff_eq] at hb | rw [beq_eq_false_iff_ne] at hb | rw [Bool.not_eq_true'] at hb | rw [Bool.not_eq_false'] at hb | rw [bne_iff_ne] at hb | rw [bne_eq_false_iff_eq] at hb | skip) <;> (first | (exfalso; omega) | (exact absurd rfl hb) | skip))
        )
      all_goals
        refine Stop.mk ?_
        refine ret_intro [] rfl rfl ?_ ?_
        repeat' (first
          | apply And.intro
          | (apply eq_b; exact rfl; exact Stop.mk (by with_reducible rfl))
          | (apply eq_b; exact rfl)
          | (apply eq_n; exact rfl; exact Stop.mk (by first | with_reducible rfl | omega))
          | (apply eq_n; exact rfl)
          | (apply eq_s; exact rfl; exact Stop.mk (by with_reducible rfl))
          | (apply eq_s; exact rfl)
          | (apply eq_sl; exact rfl; exact Stop.mk (by with_reducible rfl))
          | (apply eq_sl; exact rfl)
          | (apply eq_row; exact rfl; exact Stop.mk (by with_reducible rfl))
          | (apply eq_row; exact rfl)
          | (apply eq_agg; exact rfl)
          | (apply eq_cons; exact rfl)
          | (apply eq_boxo; exact rfl)
          | (apply cell_agg; exact rfl; exact rfl; exact rfl)
          | (apply cell_one; exact rfl; exact rfl)
          | exact rfl
          | trivial
          )
end Go.Proofs.Ythmajaeekkbnnaa
