/-
  Commands as text: CmdText of the reference.
-/
import Derived.Test.YthmajaeekkbnnaaTxI
import Derived.Test.YthmajaeekkbnnaaTxD
namespace Go.Proofs.Ythmajaeekkbnnaa
open Go Go.RowKit
attribute [local irreducible] AWp OpsOk OpOk ACalls ChA QsOk

theorem wordsL_two (a b : List UInt8) : wordsL [a, b] = a ++ [32] ++ b := by simp [wordsL, wj, nth]
theorem jobT_eq (j : Job) : jobT j = numTx j.id ++ [32] ++ numTx j.prio ++ [32] ++ numTx j.nodes ++ [32] ++ vecText j.need ++ [32] ++ vecText j.lic ++ [32] ++ numTx j.wall ++ [32] ++ numTx j.level := by simp [jobT, wordsL, jobWs, wj, nth]
theorem kind_in {c : Cmd} (h : cmdOkB c = true) : 1 ≤ c.kind ∧ c.kind ≤ 7 := by
  unfold cmdOkB at h
  repeat' split at h
  all_goals first | omega | cases h
set_option maxRecDepth 100000 in
set_option maxHeartbeats 4000000 in
theorem cmdText_s {c : Cmd} : ACalls Try.prog 47 [cmdA c] [.d (.s (cmdText c))] [] := by
  refine acalls_of tt Try.func47 rfl rfl rfl (fun w0 Z => ?_)
  cases hok : cmdOkB c with
  | false =>
    repeat' (first
      | apply awp_seq
      | (apply awp_regionN; exact rfl)
      | (apply aopG_ok; exact rfl)
      | apply ops_nil
      | (apply awp_drawm2 3; kernel_rfl; exact rfl)
      | (apply awp_drawq; exact rfl; kernel_rfl; kernel_rfl; exact rfl)
      | (apply awp_drawx; exact rfl; kernel_rfl; exact rfl)
      | (apply aopQ_ok; exact rfl)
      | apply qs_nil
      | (apply ch_nil; exact rfl)
      | (apply ch_cons; (· exact rfl); (· exact rfl); (· exact rfl); (· exact rfl); (· (intro w0 Z O; first | (apply aop_ok; exact rfl) | (apply QOk.ok; first | refine st_addn rfl rfl rfl (by first | with_reducible rfl | exact nlit _ | exact (Int.toNat_of_nonneg (by omega)).symm | rfl) rfl (by first | with_reducible rfl | exact nlit _ | exact (Int.toNat_of_nonneg (by omega)).symm | rfl) (by omega) rfl ?_ | refine st_add rfl rfl rfl rfl (by omega) rfl ?_ | refine st_idxn rfl rfl rfl rfl rfl (by first | with_reducible rfl | exact nlit _ | exact (Int.toNat_of_nonneg (by omega)).symm | rfl) (by first | exact List.length_map _ | exact chunk_length _ _ _ | exact byteE_length _ | exact strE_length _ | exact intE_length _ | exact (rfl : _ = 1) | exact (rfl : _ = 0) | exact (rfl : _ = 2) | exact (rfl : _ = 3) | exact cutM_length (by omega) | rfl) (by first | omega | decide) (by first | exact map_at (by omega) | rfl | exact set_at (by omega)) rfl rfl ?_ | refine st_idxrn rfl rfl rfl rfl rfl rfl (by first | with_reducible rfl | exact nlit _ | exact (Int.toNat_of_nonneg (by omega)).symm | rfl) (by first | exact List.length_map _ | exact chunk_length _ _ _ | exact byteE_length _ | exact strE_length _ | exact intE_length _ | exact (rfl : _ = 1) | exact (rfl : _ = 0) | exact (rfl : _ = 2) | exact (rfl : _ = 3) | exact cutM_length (by omega) | rfl) (by first | omega | decide) rfl ?_ | refine st_catn rfl rfl rfl rfl (by first | omega | (simp only [List.length_cons, List.length_nil]; omega) | (simp only [List.length_append]; omega) | (simp only [List.length_append, List.length_cons, List.length_nil]; omega)) rfl ?_ | refine st_eqagg ns_ok (by kernel_rfl) rfl rfl rfl rfl rfl rfl rfl rfl ?_ | refine st_loadr1 rfl rfl rfl rfl (by first | exact map_at (by omega) | rfl | exact set_at (by omega)) rfl rfl rfl ?_ | refine st_loadrN rfl rfl rfl rfl (by first | exact map_at (by omega) | rfl | exact set_at (by omega)) rfl rfl rfl rfl ?_) | refine st_storer rfl rfl rfl rfl rfl rfl (by first | exact List.length_map _ | exact chunk_length _ _ _ | exact byteE_length _ | exact strE_length _ | exact intE_length _ | exact (rfl : _ = 1) | exact (rfl : _ = 0) | exact (rfl : _ = 2) | exact (rfl : _ = 3) | exact cutM_length (by omega) | rfl) (by omega) (by first | exact map_at (by omega) | rfl | exact set_at (by omega)) rfl rfl rfl rfl ?_ | refine st_call (cmdOk_s (c := c)) rfl rfl rfl rfl rfl ?_); exact ⟨rfl, rfl, rfl⟩); (· exact rfl); (· exact rfl); (· (repeat' (first | apply And.intro | exact Or.inl rfl | exact Or.inr ⟨rfl, rfl⟩ | exact trivial))); (· (repeat' (first | apply And.intro | exact trivial | exact rfl | exact flatE_map (fun _ => rfl) | apply flatE_app))); (· exact rfl); (· exact rfl); (· exact rfl); (· exact rfl))
      | (apply awp_cond_t; exact rfl)
      | (apply awp_cond_f; exact rfl)
      | ((apply awp_cond; exact rfl) <;> intro hb <;> (first | rw [inB_t] at hb | rw [inB_f] at hb | rw [inB_nt] at hb | rw [inB_nf] at hb | rw [decide_eq_true_eq] at hb | rw [decide_eq_false_iff_not] at hb | rw [beq_iff_eq] at hb | rw [beq_eq_false_iff_ne] at hb | rw [Bool.not_eq_true'] at hb | rw [Bool.not_eq_false'] at hb | rw [bne_iff_ne] at hb | rw [bne_eq_false_iff_eq] at hb | skip) <;> (first | (exfalso; omega) | (exact absurd rfl hb) | skip))
      | apply awp_block
      | apply awp_skip
      | apply awp_exit
      | apply awp_ret'
      | ((first | (apply ops_cons; exact rfl) | (apply ops_yes; exact rfl; exact rfl; exact rfl)); first | (apply QOk.ok; first | refine st_addn rfl rfl rfl (by first | with_reducible rfl | exact nlit _ | exact (Int.toNat_of_nonneg (by omega)).symm | rfl) rfl (by first | with_reducible rfl | exact nlit _ | exact (Int.toNat_of_nonneg (by omega)).symm | rfl) (by omega) rfl ?_ | refine st_add rfl rfl rfl rfl (by omega) rfl ?_ | refine st_idxn rfl rfl rfl rfl rfl (by first | with_reducible rfl | exact nlit _ | exact (Int.toNat_of_nonneg (by omega)).symm | rfl) (by first | exact List.length_map _ | exact chunk_length _ _ _ | exact byteE_length _ | exact strE_length _ | exact intE_length _ | exact (rfl : _ = 1) | exact (rfl : _ = 0) | exact (rfl : _ = 2) | exact (rfl : _ = 3) | exact cutM_length (by omega) | rfl) (by first | omega | decide) (by first | exact map_at (by omega) | rfl | exact set_at (by omega)) rfl rfl ?_ | refine st_idxrn rfl rfl rfl rfl rfl rfl (by first | with_reducible rfl | exact nlit _ | exact (Int.toNat_of_nonneg (by omega)).symm | rfl) (by first | exact List.length_map _ | exact chunk_length _ _ _ | exact byteE_length _ | exact strE_length _ | exact intE_length _ | exact (rfl : _ = 1) | exact (rfl : _ = 0) | exact (rfl : _ = 2) | exact (rfl : _ = 3) | exact cutM_length (by omega) | rfl) (by first | omega | decide) rfl ?_ | refine st_catn rfl rfl rfl rfl (by first | omega | (simp only [List.length_cons, List.length_nil]; omega) | (simp only [List.length_append]; omega) | (simp only [List.length_append, List.length_cons, List.length_nil]; omega)) rfl ?_ | refine st_eqagg ns_ok (by kernel_rfl) rfl rfl rfl rfl rfl rfl rfl rfl ?_ | refine st_loadr1 rfl rfl rfl rfl (by first | exact map_at (by omega) | rfl | exact set_at (by omega)) rfl rfl rfl ?_ | refine st_loadrN rfl rfl rfl rfl (by first | exact map_at (by omega) | rfl | exact set_at (by omega)) rfl rfl rfl rfl ?_) | refine st_storer rfl rfl rfl rfl rfl rfl (by first | exact List.length_map _ | exact chunk_length _ _ _ | exact byteE_length _ | exact strE_length _ | exact intE_length _ | exact (rfl : _ = 1) | exact (rfl : _ = 0) | exact (rfl : _ = 2) | exact (rfl : _ = 3) | exact cutM_length (by omega) | rfl) (by omega) (by first | exact map_at (by omega) | rfl | exact set_at (by omega)) rfl rfl rfl rfl ?_ | refine st_call (cmdOk_s (c := c)) rfl rfl rfl rfl rfl ?_)
      | ((apply ops_gsplit; exact rfl; exact rfl; (fail_if_success exact (rfl : _ = AV.d (.b true))); (fail_if_success exact (rfl : _ = AV.d (.b false))); exact rfl) <;> intro hb <;> (first | rw [inB_t] at hb | rw [inB_f] at hb | rw [inB_nt] at hb | rw [inB_nf] at hb | rw [decide_eq_true_eq] at hb | rw [decide_eq_false_iff_not] at hb | rw [beq_iff_eq] at hb | rw [beq_eq_false_iff_ne] at hb | rw [Bool.not_eq_true'] at hb | rw [Bool.not_eq_false'] at hb | rw [bne_iff_ne] at hb | rw [bne_eq_false_iff_eq] at hb | skip) <;> (first | (exfalso; omega) | (exact absurd rfl hb) | skip))
      | ((first | (apply qs_cons; exact rfl) | (apply qs_yes; exact rfl; exact rfl; exact rfl)); first | refine st_addn rfl rfl rfl (by first | with_reducible rfl | exact nlit _ | exact (Int.toNat_of_nonneg (by omega)).symm | rfl) rfl (by first | with_reducible rfl | exact nlit _ | exact (Int.toNat_of_nonneg (by omega)).symm | rfl) (by omega) rfl ?_ | refine st_add rfl rfl rfl rfl (by omega) rfl ?_ | refine st_idxn rfl rfl rfl rfl rfl (by first | with_reducible rfl | exact nlit _ | exact (Int.toNat_of_nonneg (by omega)).symm | rfl) (by first | exact List.length_map _ | exact chunk_length _ _ _ | exact byteE_length _ | exact strE_length _ | exact intE_length _ | exact (rfl : _ = 1) | exact (rfl : _ = 0) | exact (rfl : _ = 2) | exact (rfl : _ = 3) | exact cutM_length (by omega) | rfl) (by first | omega | decide) (by first | exact map_at (by omega) | rfl | exact set_at (by omega)) rfl rfl ?_ | refine st_idxrn rfl rfl rfl rfl rfl rfl (by first | with_reducible rfl | exact nlit _ | exact (Int.toNat_of_nonneg (by omega)).symm | rfl) (by first | exact List.length_map _ | exact chunk_length _ _ _ | exact byteE_length _ | exact strE_length _ | exact intE_length _ | exact (rfl : _ = 1) | exact (rfl : _ = 0) | exact (rfl : _ = 2) | exact (rfl : _ = 3) | exact cutM_length (by omega) | rfl) (by first | omega | decide) rfl ?_ | refine st_catn rfl rfl rfl rfl (by first | omega | (simp only [List.length_cons, List.length_nil]; omega) | (simp only [List.length_append]; omega) | (simp only [List.length_append, List.length_cons, List.length_nil]; omega)) rfl ?_ | refine st_eqagg ns_ok (by kernel_rfl) rfl rfl rfl rfl rfl rfl rfl rfl ?_ | refine st_loadr1 rfl rfl rfl rfl (by first | exact map_at (by omega) | rfl | exact set_at (by omega)) rfl rfl rfl ?_ | refine st_loadrN rfl rfl rfl rfl (by first | exact map_at (by omega) | rfl | exact set_at (by omega)) rfl rfl rfl rfl ?_ | refine st_callq (cmdOk_s (c := c)) rfl rfl rfl rfl rfl ?_)
      | ((apply qs_gsplit; exact rfl; exact rfl; (fail_if_success exact (rfl : _ = AV.d (.b true))); (fail_if_success exact (rfl : _ = AV.d (.b false))); exact rfl) <;> intro hb <;> (first | rw [inB_t] at hb | rw [inB_f] at hb | rw [inB_nt] at hb | rw [inB_nf] at hb | rw [decide_eq_true_eq] at hb | rw [decide_eq_false_iff_not] at hb | rw [beq_iff_eq] at hb | rw [beq_eq_false_iff_ne] at hb | rw [Bool.not_eq_true'] at hb | rw [Bool.not_eq_false'] at hb | rw [bne_iff_ne] at hb | rw [bne_eq_false_iff_eq] at hb | skip) <;> (first | (exfalso; omega) | (exact absurd rfl hb) | skip))
      )
    · refine Stop.mk ?_
      refine ret_intro [] rfl rfl ?_ ?_
      repeat' (first
        | apply And.intro
        | (apply eq_b; exact rfl; exact Stop.mk (by with_reducible rfl))
        | (apply eq_b; exact rfl)
        | (apply eq_n; exact rfl; exact Stop.mk (by first | with_reducible rfl | omega))
        | (apply eq_n; exact rfl)
        | (apply eq_s; exact rfl; exact Stop.mk (by with_reducible rfl))
        | (apply eq_s; exact rfl)
        | (apply eq_sl; exact rfl; exact Stop.mk (by with_reducible rfl))
        | (apply eq_sl; exact rfl)
        | (apply eq_row; exact rfl; exact Stop.mk (by with_reducible rfl))
        | (apply eq_row; exact rfl)
        | (apply eq_agg; exact rfl)
        | (apply eq_cons; exact rfl)
        | (apply eq_boxo; exact rfl)
        | (apply cell_agg; exact rfl; exact rfl; exact rfl)
        | (apply cell_one; exact rfl; exact rfl)
        | exact rfl
        | trivial
        )
      exact Stop.mk (cmdText_no hok).symm
    · rw [hok] at hb; cases hb
  | true =>
    have hk := kind_in hok
    have hw8 : wordsK.length = 8 := rfl
    have hk2 : (nth wordsK c.kind.toNat).length ≤ 6 := by have := cmdW_len c.kind; rwa [cmdW, if_pos hk] at this
    have h1 := numTx_len c.job.id
    have h2 := numTx_len c.job.prio
    have h3 := numTx_len c.job.nodes
    have h4 := vecText_len c.job.need
    have h5 := vecText_len c.job.lic
    have h6 := numTx_len c.job.wall
    have h7 := numTx_len c.job.level
    have h8 := vecText_len c.lic
    have h9 := numTx_len c.n
    repeat' (first
      | apply awp_seq
      | (apply awp_regionN; exact rfl)
      | (apply aopG_ok; exact rfl)
      | apply ops_nil
      | (apply awp_drawm2 3; kernel_rfl; exact rfl)
      | (apply awp_drawq; exact rfl; kernel_rfl; kernel_rfl; exact rfl)
      | (apply awp_drawx; exact rfl; kernel_rfl; exact rfl)
      | (apply aopQ_ok; exact rfl)
      | apply qs_nil
      | (apply ch_nil; exact rfl)
      | (apply ch_cons; (· exact rfl); (· exact rfl); (· exact rfl); (· exact rfl); (· (intro w0 Z O; first | (apply aop_ok; exact rfl) | (apply QOk.ok; first | refine st_addn rfl rfl rfl (by first | with_reducible rfl | exact nlit _ | exact (Int.toNat_of_nonneg (by omega)).symm | rfl) rfl (by first | with_reducible rfl | exact nlit _ | exact (Int.toNat_of_nonneg (by omega)).symm | rfl) (by omega) rfl ?_ | refine st_add rfl rfl rfl rfl (by omega) rfl ?_ | refine st_idxn rfl rfl rfl rfl rfl (by first | with_reducible rfl | exact nlit _ | exact (Int.toNat_of_nonneg (by omega)).symm | rfl) (by first | exact List.length_map _ | exact chunk_length _ _ _ | exact byteE_length _ | exact strE_length _ | exact intE_length _ | exact (rfl : _ = 1) | exact (rfl : _ = 0) | exact (rfl : _ = 2) | exact (rfl : _ = 3) | exact cutM_length (by omega) | rfl) (by first | omega | decide) (by first | exact map_at (by omega) | rfl | exact set_at (by omega)) rfl rfl ?_ | refine st_idxrn rfl rfl rfl rfl rfl rfl (by first | with_reducible rfl | exact nlit _ | exact (Int.toNat_of_nonneg (by omega)).symm | rfl) (by first | exact List.length_map _ | exact chunk_length _ _ _ | exact byteE_length _ | exact strE_length _ | exact intE_length _ | exact (rfl : _ = 1) | exact (rfl : _ = 0) | exact (rfl : _ = 2) | exact (rfl : _ = 3) | exact cutM_length (by omega) | rfl) (by first | omega | decide) rfl ?_ | refine st_catn rfl rfl rfl rfl (by first | omega | (simp only [List.length_cons, List.length_nil]; omega) | (simp only [List.length_append]; omega) | (simp only [List.length_append, List.length_cons, List.length_nil]; omega)) rfl ?_ | refine st_eqagg ns_ok (by kernel_rfl) rfl rfl rfl rfl rfl rfl rfl rfl ?_ | refine st_loadr1 rfl rfl rfl rfl (by first | exact map_at (by omega) | rfl | exact set_at (by omega)) rfl rfl rfl ?_ | refine st_loadrN rfl rfl rfl rfl (by first | exact map_at (by omega) | rfl | exact set_at (by omega)) rfl rfl rfl rfl ?_) | refine st_storer rfl rfl rfl rfl rfl rfl (by first | exact List.length_map _ | exact chunk_length _ _ _ | exact byteE_length _ | exact strE_length _ | exact intE_length _ | exact (rfl : _ = 1) | exact (rfl : _ = 0) | exact (rfl : _ = 2) | exact (rfl : _ = 3) | exact cutM_length (by omega) | rfl) (by omega) (by first | exact map_at (by omega) | rfl | exact set_at (by omega)) rfl rfl rfl rfl ?_ | refine st_call (cmdOk_s (c := c)) rfl rfl rfl rfl rfl ?_ | refine st_call (words_s) rfl rfl rfl rfl rfl ?_ | refine st_call (numText_x) rfl rfl rfl rfl rfl ?_ | refine st_call (vecText_s (v := c.job.need)) rfl rfl rfl rfl rfl ?_ | refine st_call (vecText_s (v := c.job.lic)) rfl rfl rfl rfl rfl ?_ | refine st_call (vecText_s (v := c.lic)) rfl rfl rfl rfl rfl ?_); exact ⟨rfl, rfl, rfl⟩); (· exact rfl); (· exact rfl); (· (repeat' (first | apply And.intro | exact Or.inl rfl | exact Or.inr ⟨rfl, rfl⟩ | exact trivial))); (· (repeat' (first | apply And.intro | exact trivial | exact rfl | exact flatE_map (fun _ => rfl) | apply flatE_app))); (· exact rfl); (· exact rfl); (· exact rfl); (· exact rfl))
      | (apply awp_cond_t; exact rfl)
      | (apply awp_cond_f; exact rfl)
      | ((apply awp_cond; exact rfl) <;> intro hb <;> (first | rw [inB_t] at hb | rw [inB_f] at hb | rw [inB_nt] at hb | rw [inB_nf] at hb | rw [decide_eq_true_eq] at hb | rw [decide_eq_false_iff_not] at hb | rw [beq_iff_eq] at hb | rw [beq_eq_false_iff_ne] at hb | rw [Bool.not_eq_true'] at hb | rw [Bool.not_eq_false'] at hb | rw [bne_iff_ne] at hb | rw [bne_eq_false_iff_eq] at hb | skip) <;> (first | (exfalso; omega) | (exact absurd rfl hb) | skip))
      | apply awp_block
      | apply awp_skip
      | apply awp_exit
      | apply awp_ret'
      | ((first | (apply ops_cons; exact rfl) | (apply ops_yes; exact rfl; exact rfl; exact rfl)); first | (apply QOk.ok; first | refine st_addn rfl rfl rfl (by first | with_reducible rfl | exact nlit _ | exact (Int.toNat_of_nonneg (by omega)).symm | rfl) rfl (by first | with_reducible rfl | exact nlit _ | exact (Int.toNat_of_nonneg (by omega)).symm | rfl) (by omega) rfl ?_ | refine st_add rfl rfl rfl rfl (by omega) rfl ?_ | refine st_idxn rfl rfl rfl rfl rfl (by first | with_reducible rfl | exact nlit _ | exact (Int.toNat_of_nonneg (by omega)).symm | rfl) (by first | exact List.length_map _ | exact chunk_length _ _ _ | exact byteE_length _ | exact strE_length _ | exact intE_length _ | exact (rfl : _ = 1) | exact (rfl : _ = 0) | exact (rfl : _ = 2) | exact (rfl : _ = 3) | exact cutM_length (by omega) | rfl) (by first | omega | decide) (by first | exact map_at (by omega) | rfl | exact set_at (by omega)) rfl rfl ?_ | refine st_idxrn rfl rfl rfl rfl rfl rfl (by first | with_reducible rfl | exact nlit _ | exact (Int.toNat_of_nonneg (by omega)).symm | rfl) (by first | exact List.length_map _ | exact chunk_length _ _ _ | exact byteE_length _ | exact strE_length _ | exact intE_length _ | exact (rfl : _ = 1) | exact (rfl : _ = 0) | exact (rfl : _ = 2) | exact (rfl : _ = 3) | exact cutM_length (by omega) | rfl) (by first | omega | decide) rfl ?_ | refine st_catn rfl rfl rfl rfl (by first | omega | (simp only [List.length_cons, List.length_nil]; omega) | (simp only [List.length_append]; omega) | (simp only [List.length_append, List.length_cons, List.length_nil]; omega)) rfl ?_ | refine st_eqagg ns_ok (by kernel_rfl) rfl rfl rfl rfl rfl rfl rfl rfl ?_ | refine st_loadr1 rfl rfl rfl rfl (by first | exact map_at (by omega) | rfl | exact set_at (by omega)) rfl rfl rfl ?_ | refine st_loadrN rfl rfl rfl rfl (by first | exact map_at (by omega) | rfl | exact set_at (by omega)) rfl rfl rfl rfl ?_) | refine st_storer rfl rfl rfl rfl rfl rfl (by first | exact List.length_map _ | exact chunk_length _ _ _ | exact byteE_length _ | exact strE_length _ | exact intE_length _ | exact (rfl : _ = 1) | exact (rfl : _ = 0) | exact (rfl : _ = 2) | exact (rfl : _ = 3) | exact cutM_length (by omega) | rfl) (by omega) (by first | exact map_at (by omega) | rfl | exact set_at (by omega)) rfl rfl rfl rfl ?_ | refine st_call (cmdOk_s (c := c)) rfl rfl rfl rfl rfl ?_ | refine st_call (words_s) rfl rfl rfl rfl rfl ?_ | refine st_call (numText_x) rfl rfl rfl rfl rfl ?_ | refine st_call (vecText_s (v := c.job.need)) rfl rfl rfl rfl rfl ?_ | refine st_call (vecText_s (v := c.job.lic)) rfl rfl rfl rfl rfl ?_ | refine st_call (vecText_s (v := c.lic)) rfl rfl rfl rfl rfl ?_)
      | ((apply ops_gsplit; exact rfl; exact rfl; (fail_if_success exact (rfl : _ = AV.d (.b true))); (fail_if_success exact (rfl : _ = AV.d (.b false))); exact rfl) <;> intro hb <;> (first | rw [inB_t] at hb | rw [inB_f] at hb | rw [inB_nt] at hb | rw [inB_nf] at hb | rw [decide_eq_true_eq] at hb | rw [decide_eq_false_iff_not] at hb | rw [beq_iff_eq] at hb | rw [beq_eq_false_iff_ne] at hb | rw [Bool.not_eq_true'] at hb | rw [Bool.not_eq_false'] at hb | rw [bne_iff_ne] at hb | rw [bne_eq_false_iff_eq] at hb | skip) <;> (first | (exfalso; omega) | (exact absurd rfl hb) | skip))
      | ((first | (apply qs_cons; exact rfl) | (apply qs_yes; exact rfl; exact rfl; exact rfl)); first | refine st_addn rfl rfl rfl (by first | with_reducible rfl | exact nlit _ | exact (Int.toNat_of_nonneg (by omega)).symm | rfl) rfl (by first | with_reducible rfl | exact nlit _ | exact (Int.toNat_of_nonneg (by omega)).symm | rfl) (by omega) rfl ?_ | refine st_add rfl rfl rfl rfl (by omega) rfl ?_ | refine st_idxn rfl rfl rfl rfl rfl (by first | with_reducible rfl | exact nlit _ | exact (Int.toNat_of_nonneg (by omega)).symm | rfl) (by first | exact List.length_map _ | exact chunk_length _ _ _ | exact byteE_length _ | exact strE_length _ | exact intE_length _ | exact (rfl : _ = 1) | exact (rfl : _ = 0) | exact (rfl : _ = 2) | exact (rfl : _ = 3) | exact cutM_length (by omega) | rfl) (by first | omega | decide) (by first | exact map_at (by omega) | rfl | exact set_at (by omega)) rfl rfl ?_ | refine st_idxrn rfl rfl rfl rfl rfl rfl (by first | with_reducible rfl | exact nlit _ | exact (Int.toNat_of_nonneg (by omega)).symm | rfl) (by first | exact List.length_map _ | exact chunk_length _ _ _ | exact byteE_length _ | exact strE_length _ | exact intE_length _ | exact (rfl : _ = 1) | exact (rfl : _ = 0) | exact (rfl : _ = 2) | exact (rfl : _ = 3) | exact cutM_length (by omega) | rfl) (by first | omega | decide) rfl ?_ | refine st_catn rfl rfl rfl rfl (by first | omega | (simp only [List.length_cons, List.length_nil]; omega) | (simp only [List.length_append]; omega) | (simp only [List.length_append, List.length_cons, List.length_nil]; omega)) rfl ?_ | refine st_eqagg ns_ok (by kernel_rfl) rfl rfl rfl rfl rfl rfl rfl rfl ?_ | refine st_loadr1 rfl rfl rfl rfl (by first | exact map_at (by omega) | rfl | exact set_at (by omega)) rfl rfl rfl ?_ | refine st_loadrN rfl rfl rfl rfl (by first | exact map_at (by omega) | rfl | exact set_at (by omega)) rfl rfl rfl rfl ?_ | refine st_callq (cmdOk_s (c := c)) rfl rfl rfl rfl rfl ?_ | refine st_callq (words_s) rfl rfl rfl rfl rfl ?_ | refine st_callq (numText_x) rfl rfl rfl rfl rfl ?_ | refine st_callq (vecText_s (v := c.job.need)) rfl rfl rfl rfl rfl ?_ | refine st_callq (vecText_s (v := c.job.lic)) rfl rfl rfl rfl rfl ?_ | refine st_callq (vecText_s (v := c.lic)) rfl rfl rfl rfl rfl ?_)
      | ((apply qs_gsplit; exact rfl; exact rfl; (fail_if_success exact (rfl : _ = AV.d (.b true))); (fail_if_success exact (rfl : _ = AV.d (.b false))); exact rfl) <;> intro hb <;> (first | rw [inB_t] at hb | rw [inB_f] at hb | rw [inB_nt] at hb | rw [inB_nf] at hb | rw [decide_eq_true_eq] at hb | rw [decide_eq_false_iff_not] at hb | rw [beq_iff_eq] at hb | rw [beq_eq_false_iff_ne] at hb | rw [Bool.not_eq_true'] at hb | rw [Bool.not_eq_false'] at hb | rw [bne_iff_ne] at hb | rw [bne_eq_false_iff_eq] at hb | skip) <;> (first | (exfalso; omega) | (exact absurd rfl hb) | skip))
      )
    · rw [hok] at hb; cases hb
    · refine Stop.mk ?_
      refine ret_intro [] rfl rfl ?_ ?_
      repeat' (first
        | apply And.intro
        | (apply eq_b; exact rfl; exact Stop.mk (by with_reducible rfl))
        | (apply eq_b; exact rfl)
        | (apply eq_n; exact rfl; exact Stop.mk (by first | with_reducible rfl | omega))
        | (apply eq_n; exact rfl)
        | (apply eq_s; exact rfl; exact Stop.mk (by with_reducible rfl))
        | (apply eq_s; exact rfl)
        | (apply eq_sl; exact rfl; exact Stop.mk (by with_reducible rfl))
        | (apply eq_sl; exact rfl)
        | (apply eq_row; exact rfl; exact Stop.mk (by with_reducible rfl))
        | (apply eq_row; exact rfl)
        | (apply eq_agg; exact rfl)
        | (apply eq_cons; exact rfl)
        | (apply eq_boxo; exact rfl)
        | (apply cell_agg; exact rfl; exact rfl; exact rfl)
        | (apply cell_one; exact rfl; exact rfl)
        | exact rfl
        | trivial
        )
      refine Stop.mk ?_
      have e : nth wordsK c.kind.toNat = cmdW 1 := by rw [hb]; rfl
      rw [cmdText_1 hok hb, wordsL_two, e, jobT_eq]
      simp
    · refine Stop.mk ?_
      refine ret_intro [] rfl rfl ?_ ?_
      repeat' (first
        | apply And.intro
        | (apply eq_b; exact rfl; exact Stop.mk (by with_reducible rfl))
        | (apply eq_b; exact rfl)
        | (apply eq_n; exact rfl; exact Stop.mk (by first | with_reducible rfl | omega))
        | (apply eq_n; exact rfl)
        | (apply eq_s; exact rfl; exact Stop.mk (by with_reducible rfl))
        | (apply eq_s; exact rfl)
        | (apply eq_sl; exact rfl; exact Stop.mk (by with_reducible rfl))
        | (apply eq_sl; exact rfl)
        | (apply eq_row; exact rfl; exact Stop.mk (by with_reducible rfl))
        | (apply eq_row; exact rfl)
        | (apply eq_agg; exact rfl)
        | (apply eq_cons; exact rfl)
        | (apply eq_boxo; exact rfl)
        | (apply cell_agg; exact rfl; exact rfl; exact rfl)
        | (apply cell_one; exact rfl; exact rfl)
        | exact rfl
        | trivial
        )
      refine Stop.mk ?_
      have e : nth wordsK c.kind.toNat = cmdW 6 := by rw [hb]; rfl
      rw [cmdText_6 hok hb, wordsL_two, e]
    · refine Stop.mk ?_
      refine ret_intro [] rfl rfl ?_ ?_
      repeat' (first
        | apply And.intro
        | (apply eq_b; exact rfl; exact Stop.mk (by with_reducible rfl))
        | (apply eq_b; exact rfl)
        | (apply eq_n; exact rfl; exact Stop.mk (by first | with_reducible rfl | omega))
        | (apply eq_n; exact rfl)
        | (apply eq_s; exact rfl; exact Stop.mk (by with_reducible rfl))
        | (apply eq_s; exact rfl)
        | (apply eq_sl; exact rfl; exact Stop.mk (by with_reducible rfl))
        | (apply eq_sl; exact rfl)
        | (apply eq_row; exact rfl; exact Stop.mk (by with_reducible rfl))
        | (apply eq_row; exact rfl)
        | (apply eq_agg; exact rfl)
        | (apply eq_cons; exact rfl)
        | (apply eq_boxo; exact rfl)
        | (apply cell_agg; exact rfl; exact rfl; exact rfl)
        | (apply cell_one; exact rfl; exact rfl)
        | exact rfl
        | trivial
        )
      refine Stop.mk ?_
      have e : nth wordsK c.kind.toNat = cmdW c.kind := by rw [cmdW, if_pos hk]
      rw [cmdText_n hok (by assumption) hb, wordsL_two, e]
set_option maxRecDepth 100000 in
theorem lawCmdText_e {c : Cmd} : ACalls Try.prog 10 [cmdA c] [.d (.b true)] [] := by
  refine acalls_of tt Try.func10 rfl rfl rfl (fun w0 Z => ?_)
  repeat' (first
    | apply awp_seq
    | (apply awp_regionN; exact rfl)
    | (apply aopG_ok; exact rfl)
    | apply ops_nil
    | (apply awp_cond_t; exact rfl)
    | (apply awp_cond_f; exact rfl)
    | ((apply awp_cond; exact rfl) <;> intro hb <;> (first | rw [inB_t] at hb | rw [inB_f] at hb | rw [inB_nt] at hb | rw [inB_nf] at hb | rw [decide_eq_true_eq] at hb | rw [decide_eq_false_iff_not] at hb | rw [beq_iff_eq] at hb | rw [beq_eq_false_iff_ne] at hb | rw [Bool.not_eq_true'] at hb | rw [Bool.not_eq_false'] at hb | rw [bne_iff_ne] at hb | rw [bne_eq_false_iff_eq] at hb | skip) <;> (first | (exfalso; omega) | (exact absurd rfl hb) | skip))
    | apply awp_block
    | apply awp_skip
    | apply awp_exit
    | apply awp_ret'
    | ((first | (apply ops_cons; exact rfl) | (apply ops_yes; exact rfl; exact rfl; exact rfl)); first | (apply QOk.ok; first | refine st_neagg ns_ok (by kernel_rfl) rfl rfl rfl rfl rfl rfl rfl rfl ?_) | refine st_call (toCmd_e (c := c)) rfl rfl rfl rfl rfl ?_ | refine st_call (cmdText_e (c := c)) rfl rfl rfl rfl rfl ?_ | refine st_call (cmdText_s (c := c)) rfl rfl rfl rfl rfl ?_)
    | ((apply ops_gsplit; exact rfl; exact rfl; (fail_if_success exact (rfl : _ = AV.d (.b true))); (fail_if_success exact (rfl : _ = AV.d (.b false))); exact rfl) <;> intro hb <;> (first | rw [inB_t] at hb | rw [inB_f] at hb | rw [inB_nt] at hb | rw [inB_nf] at hb | rw [decide_eq_true_eq] at hb | rw [decide_eq_false_iff_not] at hb | rw [beq_iff_eq] at hb | rw [beq_eq_false_iff_ne] at hb | rw [Bool.not_eq_true'] at hb | rw [Bool.not_eq_false'] at hb | rw [bne_iff_ne] at hb | rw [bne_eq_false_iff_eq] at hb | skip) <;> (first | (exfalso; omega) | (exact absurd rfl hb) | skip))
    )
  all_goals
    refine Stop.mk ?_
    refine ret_intro [] rfl rfl ?_ ?_
    repeat' (first
      | apply And.intro
      | (apply eq_b; exact rfl; exact Stop.mk (by with_reducible rfl))
      | (apply eq_b; exact rfl)
      | (apply eq_n; exact rfl; exact Stop.mk (by first | with_reducible rfl | omega))
      | (apply eq_n; exact rfl)
      | (apply eq_s; exact rfl; exact Stop.mk (by with_reducible rfl))
      | (apply eq_s; exact rfl)
      | (apply eq_sl; exact rfl; exact Stop.mk (by with_reducible rfl))
      | (apply eq_sl; exact rfl)
      | (apply eq_row; exact rfl; exact Stop.mk (by with_reducible rfl))
      | (apply eq_row; exact rfl)
      | (apply eq_agg; exact rfl)
      | (apply eq_cons; exact rfl)
      | (apply eq_boxo; exact rfl)
      | (apply cell_agg; exact rfl; exact rfl; exact rfl)
      | (apply cell_one; exact rfl; exact rfl)
      | exact rfl
      | trivial
      )
end Go.Proofs.Ythmajaeekkbnnaa
