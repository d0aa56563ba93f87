/-
  Commands as text: words, jobs, CmdText, both.
-/
import Derived.Test.YthmajaeekkbnnaaTxG
namespace Go.Proofs.Ythmajaeekkbnnaa
open Go Go.RowKit
attribute [local irreducible] AWp OpsOk OpOk ACalls ChA QsOk

/-- Words with single spaces between. -/
def wj (l : List (List UInt8)) : Nat → List UInt8
  | 0 => []
  | i + 1 => (if 0 < i then wj l i ++ [32] else wj l i) ++ nth l i
def wordsL (l : List (List UInt8)) : List UInt8 := wj l l.length
def shortL (l : List (List UInt8)) : Prop := l.length ≤ 100 ∧ ∀ w ∈ l, w.length ≤ 1000
theorem shortL_at {l : List (List UInt8)} (h : shortL l) {i : Nat} (hi : i < l.length) : (nth l i).length ≤ 1000 := by
  unfold nth
  rw [List.getD_eq_getElem?_getD, List.getElem?_eq_getElem hi]
  exact h.2 _ (List.getElem_mem hi)
theorem wj_len {l : List (List UInt8)} (h : shortL l) : ∀ (i : Nat), i ≤ l.length → (wj l i).length ≤ i * 1001
  | 0, _ => by simp [wj]
  | i + 1, hi => by
    have h1 := wj_len h i (by omega)
    have h2 := shortL_at h (i := i) (by omega)
    simp only [wj]
    split
    · simp only [List.length_append, List.length_singleton]; omega
    · simp only [List.length_append]; omega
theorem wj_gt {l : List (List UInt8)} {i : Nat} (h : 0 < i) : wj l (i + 1) = wj l i ++ [32] ++ nth l i := by simp only [wj]; rw [if_pos h]
theorem wj_le {l : List (List UInt8)} {i : Nat} (h : ¬ 0 < i) : wj l (i + 1) = wj l i ++ nth l i := by simp only [wj]; rw [if_neg h]
set_option maxRecDepth 100000 in
theorem words_e {l : List (List UInt8)} (h : shortL l) : ACalls Try.prog 104 [.d (.sl (strE l))] [.d (.s (wordsL l))] [] := by
  refine acalls_of tt Try.func104 rfl rfl rfl (fun w0 Z => ?_)
  have h100 := h.1
  repeat' (first
    | apply awp_seq
    | (apply awp_regionN; exact rfl)
    | (apply aopG_ok; exact rfl)
    | apply ops_nil
    | (apply awp_cond_t; exact rfl)
    | (apply awp_cond_f; exact rfl)
    | ((apply awp_cond; exact rfl) <;> intro hb <;> (first | rw [inB_t] at hb | rw [inB_f] at hb | rw [inB_nt] at hb | rw [inB_nf] at hb | rw [decide_eq_true_eq] at hb | rw [decide_eq_false_iff_not] at hb | rw [beq_iff_eq] at hb | rw [beq_eq_false_iff_ne] at hb | rw [Bool.not_eq_true'] at hb | rw [Bool.not_eq_false'] at hb | rw [bne_iff_ne] at hb | rw [bne_eq_false_iff_eq] at hb | skip) <;> (first | (exfalso; omega) | (exact absurd rfl hb) | skip))
    | apply awp_block
    | apply awp_skip
    | apply awp_exit
    | apply awp_ret'
    | ((first | (apply ops_cons; exact rfl) | (apply ops_yes; exact rfl; exact rfl; exact rfl)); first | (apply QOk.ok; first | refine st_addn rfl rfl rfl (by first | with_reducible rfl | exact nlit _ | exact (Int.toNat_of_nonneg (by omega)).symm | rfl) rfl (by first | with_reducible rfl | exact nlit _ | exact (Int.toNat_of_nonneg (by omega)).symm | rfl) (by omega) rfl ?_ | refine st_add rfl rfl rfl rfl (by omega) rfl ?_ | refine st_lens rfl rfl rfl rfl rfl ?_ | refine st_len rfl rfl rfl rfl (by first | exact List.length_map _ | exact chunk_length _ _ _ | exact byteE_length _ | exact strE_length _ | exact intE_length _ | exact (rfl : _ = 1) | exact (rfl : _ = 0) | exact (rfl : _ = 2) | exact (rfl : _ = 3) | exact cutM_length (by omega) | rfl) rfl (fun _ => ?_) | refine st_idxn rfl rfl rfl rfl rfl (by first | with_reducible rfl | exact nlit _ | exact (Int.toNat_of_nonneg (by omega)).symm | rfl) (by first | exact List.length_map _ | exact chunk_length _ _ _ | exact byteE_length _ | exact strE_length _ | exact intE_length _ | exact (rfl : _ = 1) | exact (rfl : _ = 0) | exact (rfl : _ = 2) | exact (rfl : _ = 3) | exact cutM_length (by omega) | rfl) (by first | omega | decide) (by first | exact map_at (by omega) | rfl | exact set_at (by omega)) rfl rfl ?_ | refine st_idxrn rfl rfl rfl rfl rfl rfl (by first | with_reducible rfl | exact nlit _ | exact (Int.toNat_of_nonneg (by omega)).symm | rfl) (by first | exact List.length_map _ | exact chunk_length _ _ _ | exact byteE_length _ | exact strE_length _ | exact intE_length _ | exact (rfl : _ = 1) | exact (rfl : _ = 0) | exact (rfl : _ = 2) | exact (rfl : _ = 3) | exact cutM_length (by omega) | rfl) (by first | omega | decide) rfl ?_ | refine st_catn rfl rfl rfl rfl (by first | omega | (simp only [List.length_cons, List.length_nil]; omega) | (simp only [List.length_append]; omega) | (simp only [List.length_append, List.length_cons, List.length_nil]; omega)) rfl ?_ | refine st_loadr1 rfl rfl rfl rfl (by first | exact map_at (by omega) | rfl | exact set_at (by omega)) rfl rfl rfl ?_ | refine st_loadrN rfl rfl rfl rfl (by first | exact map_at (by omega) | rfl | exact set_at (by omega)) rfl rfl rfl rfl ?_) | refine st_storer rfl rfl rfl rfl rfl rfl (by first | exact List.length_map _ | exact chunk_length _ _ _ | exact byteE_length _ | exact strE_length _ | exact intE_length _ | exact (rfl : _ = 1) | exact (rfl : _ = 0) | exact (rfl : _ = 2) | exact (rfl : _ = 3) | exact cutM_length (by omega) | rfl) (by omega) (by first | exact map_at (by omega) | rfl | exact set_at (by omega)) rfl rfl rfl rfl ?_)
    | ((apply ops_gsplit; exact rfl; exact rfl; (fail_if_success exact (rfl : _ = AV.d (.b true))); (fail_if_success exact (rfl : _ = AV.d (.b false))); exact rfl) <;> intro hb <;> (first | rw [inB_t] at hb | rw [inB_f] at hb | rw [inB_nt] at hb | rw [inB_nf] at hb | rw [decide_eq_true_eq] at hb | rw [decide_eq_false_iff_not] at hb | rw [beq_iff_eq] at hb | rw [beq_eq_false_iff_ne] at hb | rw [Bool.not_eq_true'] at hb | rw [Bool.not_eq_false'] at hb | rw [bne_iff_ne] at hb | rw [bne_eq_false_iff_eq] at hb | skip) <;> (first | (exfalso; omega) | (exact absurd rfl hb) | skip))
    )
  refine awp_loop (fun (i : Nat) => ⟨22, [(3, .d (.s (wj l i))), (6, .d (.sl (strE l))), (7, .d (.n .i64 l.length)), (8, .d (.n .i64 (i : Int)))], []⟩) (fun i => i ≤ l.length) (fun i => l.length - i) 0 (by omega) ?_ ?_
  · refine ⟨rfl, ?_, ?_, rfl⟩
    repeat' (first
      | apply And.intro
      | (apply eq_b; exact rfl; exact Stop.mk (by with_reducible rfl))
      | (apply eq_b; exact rfl)
      | (apply eq_n; exact rfl; exact Stop.mk (by first | with_reducible rfl | omega))
      | (apply eq_n; exact rfl)
      | (apply eq_s; exact rfl; exact Stop.mk (by with_reducible rfl))
      | (apply eq_s; exact rfl)
      | (apply eq_sl; exact rfl; exact Stop.mk (by with_reducible rfl))
      | (apply eq_sl; exact rfl)
      | (apply eq_row; exact rfl; exact Stop.mk (by with_reducible rfl))
      | (apply eq_row; exact rfl)
      | (apply eq_agg; exact rfl)
      | (apply eq_cons; exact rfl)
      | (apply eq_boxo; exact rfl)
      | (apply cell_agg; exact rfl; exact rfl; exact rfl)
      | (apply cell_one; exact rfl; exact rfl)
      | exact rfl
      | trivial
      )
    all_goals exact Stop.mk rfl
  · intro i hi
    have hw1 := wj_len h i hi
    have hw2 : i < l.length → (nth l i).length ≤ 1000 := fun h' => shortL_at h h'
    repeat' (first
      | apply awp_seq
      | (apply awp_regionN; exact rfl)
      | (apply aopG_ok; exact rfl)
      | apply ops_nil
      | (apply awp_cond_t; exact rfl)
      | (apply awp_cond_f; exact rfl)
      | ((apply awp_cond; exact rfl) <;> intro hb <;> (first | rw [inB_t] at hb | rw [inB_f] at hb | rw [inB_nt] at hb | rw [inB_nf] at hb | rw [decide_eq_true_eq] at hb | rw [decide_eq_false_iff_not] at hb | rw [beq_iff_eq] at hb | rw [beq_eq_false_iff_ne] at hb | rw [Bool.not_eq_true'] at hb | rw [Bool.not_eq_false'] at hb | rw [bne_iff_ne] at hb | rw [bne_eq_false_iff_eq] at hb | skip) <;> (first | (exfalso; omega) | (exact absurd rfl hb) | skip))
      | apply awp_block
      | apply awp_skip
      | apply awp_exit
      | apply awp_ret'
      | ((first | (apply ops_cons; exact rfl) | (apply ops_yes; exact rfl; exact rfl; exact rfl)); first | (apply QOk.ok; first | refine st_addn rfl rfl rfl (by first | with_reducible rfl | exact nlit _ | exact (Int.toNat_of_nonneg (by omega)).symm | rfl) rfl (by first | with_reducible rfl | exact nlit _ | exact (Int.toNat_of_nonneg (by omega)).symm | rfl) (by omega) rfl ?_ | refine st_add rfl rfl rfl rfl (by omega) rfl ?_ | refine st_lens rfl rfl rfl rfl rfl ?_ | refine st_len rfl rfl rfl rfl (by first | exact List.length_map _ | exact chunk_length _ _ _ | exact byteE_length _ | exact strE_length _ | exact intE_length _ | exact (rfl : _ = 1) | exact (rfl : _ = 0) | exact (rfl : _ = 2) | exact (rfl : _ = 3) | exact cutM_length (by omega) | rfl) rfl (fun _ => ?_) | refine st_idxn rfl rfl rfl rfl rfl (by first | with_reducible rfl | exact nlit _ | exact (Int.toNat_of_nonneg (by omega)).symm | rfl) (by first | exact List.length_map _ | exact chunk_length _ _ _ | exact byteE_length _ | exact strE_length _ | exact intE_length _ | exact (rfl : _ = 1) | exact (rfl : _ = 0) | exact (rfl : _ = 2) | exact (rfl : _ = 3) | exact cutM_length (by omega) | rfl) (by first | omega | decide) (by first | exact map_at (by omega) | rfl | exact set_at (by omega)) rfl rfl ?_ | refine st_idxrn rfl rfl rfl rfl rfl rfl (by first | with_reducible rfl | exact nlit _ | exact (Int.toNat_of_nonneg (by omega)).symm | rfl) (by first | exact List.length_map _ | exact chunk_length _ _ _ | exact byteE_length _ | exact strE_length _ | exact intE_length _ | exact (rfl : _ = 1) | exact (rfl : _ = 0) | exact (rfl : _ = 2) | exact (rfl : _ = 3) | exact cutM_length (by omega) | rfl) (by first | omega | decide) rfl ?_ | refine st_catn rfl rfl rfl rfl (by first | omega | (simp only [List.length_cons, List.length_nil]; omega) | (simp only [List.length_append]; omega) | (simp only [List.length_append, List.length_cons, List.length_nil]; omega)) rfl ?_ | refine st_loadr1 rfl rfl rfl rfl (by first | exact map_at (by omega) | rfl | exact set_at (by omega)) rfl rfl rfl ?_ | refine st_loadrN rfl rfl rfl rfl (by first | exact map_at (by omega) | rfl | exact set_at (by omega)) rfl rfl rfl rfl ?_) | refine st_storer rfl rfl rfl rfl rfl rfl (by first | exact List.length_map _ | exact chunk_length _ _ _ | exact byteE_length _ | exact strE_length _ | exact intE_length _ | exact (rfl : _ = 1) | exact (rfl : _ = 0) | exact (rfl : _ = 2) | exact (rfl : _ = 3) | exact cutM_length (by omega) | rfl) (by omega) (by first | exact map_at (by omega) | rfl | exact set_at (by omega)) rfl rfl rfl rfl ?_)
      | ((apply ops_gsplit; exact rfl; exact rfl; (fail_if_success exact (rfl : _ = AV.d (.b true))); (fail_if_success exact (rfl : _ = AV.d (.b false))); exact rfl) <;> intro hb <;> (first | rw [inB_t] at hb | rw [inB_f] at hb | rw [inB_nt] at hb | rw [inB_nf] at hb | rw [decide_eq_true_eq] at hb | rw [decide_eq_false_iff_not] at hb | rw [beq_iff_eq] at hb | rw [beq_eq_false_iff_ne] at hb | rw [Bool.not_eq_true'] at hb | rw [Bool.not_eq_false'] at hb | rw [bne_iff_ne] at hb | rw [bne_eq_false_iff_eq] at hb | skip) <;> (first | (exfalso; omega) | (exact absurd rfl hb) | skip))
      )
    · refine ⟨i + 1, by omega, by omega, ?_⟩
      refine ⟨rfl, ?_, ?_, rfl⟩
      repeat' (first
        | apply And.intro
        | (apply eq_b; exact rfl; exact Stop.mk (by with_reducible rfl))
        | (apply eq_b; exact rfl)
        | (apply eq_n; exact rfl; exact Stop.mk (by first | with_reducible rfl | omega))
        | (apply eq_n; exact rfl)
        | (apply eq_s; exact rfl; exact Stop.mk (by with_reducible rfl))
        | (apply eq_s; exact rfl)
        | (apply eq_sl; exact rfl; exact Stop.mk (by with_reducible rfl))
        | (apply eq_sl; exact rfl)
        | (apply eq_row; exact rfl; exact Stop.mk (by with_reducible rfl))
        | (apply eq_row; exact rfl)
        | (apply eq_agg; exact rfl)
        | (apply eq_cons; exact rfl)
        | (apply eq_boxo; exact rfl)
        | (apply cell_agg; exact rfl; exact rfl; exact rfl)
        | (apply cell_one; exact rfl; exact rfl)
        | exact rfl
        | trivial
        )
      exact Stop.mk (wj_gt (by omega)).symm
    · refine ⟨i + 1, by omega, by omega, ?_⟩
      refine ⟨rfl, ?_, ?_, rfl⟩
      repeat' (first
        | apply And.intro
        | (apply eq_b; exact rfl; exact Stop.mk (by with_reducible rfl))
        | (apply eq_b; exact rfl)
        | (apply eq_n; exact rfl; exact Stop.mk (by first | with_reducible rfl | omega))
        | (apply eq_n; exact rfl)
        | (apply eq_s; exact rfl; exact Stop.mk (by with_reducible rfl))
        | (apply eq_s; exact rfl)
        | (apply eq_sl; exact rfl; exact Stop.mk (by with_reducible rfl))
        | (apply eq_sl; exact rfl)
        | (apply eq_row; exact rfl; exact Stop.mk (by with_reducible rfl))
        | (apply eq_row; exact rfl)
        | (apply eq_agg; exact rfl)
        | (apply eq_cons; exact rfl)
        | (apply eq_boxo; exact rfl)
        | (apply cell_agg; exact rfl; exact rfl; exact rfl)
        | (apply cell_one; exact rfl; exact rfl)
        | exact rfl
        | trivial
        )
      exact Stop.mk (wj_le (by omega)).symm
    · obtain rfl : i = l.length := by omega
      refine Stop.mk ?_
      refine ret_intro [] rfl rfl ?_ ?_
      repeat' (first
        | apply And.intro
        | (apply eq_b; exact rfl; exact Stop.mk (by with_reducible rfl))
        | (apply eq_b; exact rfl)
        | (apply eq_n; exact rfl; exact Stop.mk (by first | with_reducible rfl | omega))
        | (apply eq_n; exact rfl)
        | (apply eq_s; exact rfl; exact Stop.mk (by with_reducible rfl))
        | (apply eq_s; exact rfl)
        | (apply eq_sl; exact rfl; exact Stop.mk (by with_reducible rfl))
        | (apply eq_sl; exact rfl)
        | (apply eq_row; exact rfl; exact Stop.mk (by with_reducible rfl))
        | (apply eq_row; exact rfl)
        | (apply eq_agg; exact rfl)
        | (apply eq_cons; exact rfl)
        | (apply eq_boxo; exact rfl)
        | (apply cell_agg; exact rfl; exact rfl; exact rfl)
        | (apply cell_one; exact rfl; exact rfl)
        | exact rfl
        | trivial
        )
      all_goals exact Stop.mk rfl
def wordsK : List (List UInt8) := [[], [115, 117, 98, 109, 105, 116], [99, 97, 110, 99, 101, 108], [100, 111, 110, 101], [102, 97, 105, 108], [114, 101, 115, 117, 109, 101], [108, 105, 99], [103, 111]]
def cmdW (k : Int) : List UInt8 := if 1 ≤ k ∧ k ≤ 7 then nth wordsK k.toNat else []
set_option maxRecDepth 100000 in
theorem cmdWord_e {k : Int} : ACalls Try.prog 107 [.d (.n .i64 k)] [.d (.s (cmdW k))] [] := by
  by_cases h : 1 ≤ k ∧ k ≤ 7
  · obtain rfl | rfl | rfl | rfl | rfl | rfl | rfl : k = 1 ∨ k = 2 ∨ k = 3 ∨ k = 4 ∨ k = 5 ∨ k = 6 ∨ k = 7 := by omega
    all_goals
      refine acalls_of tt Try.func107 rfl rfl rfl (fun w0 Z => ?_)
      repeat' (first
        | apply awp_seq
        | (apply awp_regionN; exact rfl)
        | (apply aopG_ok; exact rfl)
        | apply ops_nil
        | (apply awp_cond_t; exact rfl)
        | (apply awp_cond_f; exact rfl)
        | ((apply awp_cond; exact rfl) <;> intro hb <;> (first | rw [inB_t] at hb | rw [inB_f] at hb | rw [inB_nt] at hb | rw [inB_nf] at hb | rw [decide_eq_true_eq] at hb | rw [decide_eq_false_iff_not] at hb | rw [beq_iff_eq] at hb | rw [beq_eq_false_iff_ne] at hb | rw [Bool.not_eq_true'] at hb | rw [Bool.not_eq_false'] at hb | rw [bne_iff_ne] at hb | rw [bne_eq_false_iff_eq] at hb | skip) <;> (first | (exfalso; omega) | (exact absurd rfl hb) | skip))
        | apply awp_block
        | apply awp_skip
        | apply awp_exit
        | apply awp_ret'
        | ((first | (apply ops_cons; exact rfl) | (apply ops_yes; exact rfl; exact rfl; exact rfl)); first | (apply QOk.ok; first | refine st_subn rfl rfl rfl (by first | with_reducible rfl | exact nlit _ | exact (Int.toNat_of_nonneg (by omega)).symm | rfl) rfl (by first | with_reducible rfl | exact nlit _ | exact (Int.toNat_of_nonneg (by omega)).symm | rfl) (by omega) rfl ?_ | refine st_sub rfl rfl rfl rfl (by omega) rfl ?_ | refine st_sub8 rfl rfl rfl rfl (by omega) rfl ?_ | refine st_idxn rfl rfl rfl rfl rfl (by first | with_reducible rfl | exact nlit _ | exact (Int.toNat_of_nonneg (by omega)).symm | rfl) (by first | exact List.length_map _ | exact chunk_length _ _ _ | exact byteE_length _ | exact strE_length _ | exact intE_length _ | exact (rfl : _ = 1) | exact (rfl : _ = 0) | exact (rfl : _ = 2) | exact (rfl : _ = 3) | exact cutM_length (by omega) | rfl) (by first | omega | decide) (by first | exact map_at (by omega) | rfl | exact set_at (by omega)) rfl rfl ?_ | refine st_idxrn rfl rfl rfl rfl rfl rfl (by first | with_reducible rfl | exact nlit _ | exact (Int.toNat_of_nonneg (by omega)).symm | rfl) (by first | exact List.length_map _ | exact chunk_length _ _ _ | exact byteE_length _ | exact strE_length _ | exact intE_length _ | exact (rfl : _ = 1) | exact (rfl : _ = 0) | exact (rfl : _ = 2) | exact (rfl : _ = 3) | exact cutM_length (by omega) | rfl) (by first | omega | decide) rfl ?_ | refine st_loadr1 rfl rfl rfl rfl (by first | exact map_at (by omega) | rfl | exact set_at (by omega)) rfl rfl rfl ?_ | refine st_loadrN rfl rfl rfl rfl (by first | exact map_at (by omega) | rfl | exact set_at (by omega)) rfl rfl rfl rfl ?_) | refine st_lit rfl rfl rfl ⟨rfl, rfl, rfl⟩ rfl rfl rfl rfl rfl rfl rfl rfl rfl ?_ | refine st_storer rfl rfl rfl rfl rfl rfl (by first | exact List.length_map _ | exact chunk_length _ _ _ | exact byteE_length _ | exact strE_length _ | exact intE_length _ | exact (rfl : _ = 1) | exact (rfl : _ = 0) | exact (rfl : _ = 2) | exact (rfl : _ = 3) | exact cutM_length (by omega) | rfl) (by omega) (by first | exact map_at (by omega) | rfl | exact set_at (by omega)) rfl rfl rfl rfl ?_ | refine st_call (within_c) rfl rfl rfl rfl rfl ?_)
        | ((apply ops_gsplit; exact rfl; exact rfl; (fail_if_success exact (rfl : _ = AV.d (.b true))); (fail_if_success exact (rfl : _ = AV.d (.b false))); exact rfl) <;> intro hb <;> (first | rw [inB_t] at hb | rw [inB_f] at hb | rw [inB_nt] at hb | rw [inB_nf] at hb | rw [decide_eq_true_eq] at hb | rw [decide_eq_false_iff_not] at hb | rw [beq_iff_eq] at hb | rw [beq_eq_false_iff_ne] at hb | rw [Bool.not_eq_true'] at hb | rw [Bool.not_eq_false'] at hb | rw [bne_iff_ne] at hb | rw [bne_eq_false_iff_eq] at hb | skip) <;> (first | (exfalso; omega) | (exact absurd rfl hb) | skip))
        )
      all_goals
        refine Stop.mk ?_
        refine ret_intro [] rfl rfl ?_ ?_
        repeat' (first
          | apply And.intro
          | (apply eq_b; exact rfl; exact Stop.mk (by with_reducible rfl))
          | (apply eq_b; exact rfl)
          | (apply eq_n; exact rfl; exact Stop.mk (by first | with_reducible rfl | omega))
          | (apply eq_n; exact rfl)
          | (apply eq_s; exact rfl; exact Stop.mk (by with_reducible rfl))
          | (apply eq_s; exact rfl)
          | (apply eq_sl; exact rfl; exact Stop.mk (by with_reducible rfl))
          | (apply eq_sl; exact rfl)
          | (apply eq_row; exact rfl; exact Stop.mk (by with_reducible rfl))
          | (apply eq_row; exact rfl)
          | (apply eq_agg; exact rfl)
          | (apply eq_cons; exact rfl)
          | (apply eq_boxo; exact rfl)
          | (apply cell_agg; exact rfl; exact rfl; exact rfl)
          | (apply cell_one; exact rfl; exact rfl)
          | exact rfl
          | trivial
          )
        all_goals exact Stop.mk rfl
  · refine acalls_of tt Try.func107 rfl rfl rfl (fun w0 Z => ?_)
    repeat' (first
      | apply awp_seq
      | (apply awp_regionN; exact rfl)
      | (apply aopG_ok; exact rfl)
      | apply ops_nil
      | (apply awp_cond_t; exact rfl)
      | (apply awp_cond_f; exact rfl)
      | ((apply awp_cond; exact rfl) <;> intro hb <;> (first | rw [inB_t] at hb | rw [inB_f] at hb | rw [inB_nt] at hb | rw [inB_nf] at hb | rw [decide_eq_true_eq] at hb | rw [decide_eq_false_iff_not] at hb | rw [beq_iff_eq] at hb | rw [beq_eq_false_iff_ne] at hb | rw [Bool.not_eq_true'] at hb | rw [Bool.not_eq_false'] at hb | rw [bne_iff_ne] at hb | rw [bne_eq_false_iff_eq] at hb | skip) <;> (first | (exfalso; omega) | (exact absurd rfl hb) | skip))
      | apply awp_block
      | apply awp_skip
      | apply awp_exit
      | apply awp_ret'
      | ((first | (apply ops_cons; exact rfl) | (apply ops_yes; exact rfl; exact rfl; exact rfl)); first | (apply QOk.ok; first | refine st_subn rfl rfl rfl (by first | with_reducible rfl | exact nlit _ | exact (Int.toNat_of_nonneg (by omega)).symm | rfl) rfl (by first | with_reducible rfl | exact nlit _ | exact (Int.toNat_of_nonneg (by omega)).symm | rfl) (by omega) rfl ?_ | refine st_sub rfl rfl rfl rfl (by omega) rfl ?_ | refine st_sub8 rfl rfl rfl rfl (by omega) rfl ?_ | refine st_idxn rfl rfl rfl rfl rfl (by first | with_reducible rfl | exact nlit _ | exact (Int.toNat_of_nonneg (by omega)).symm | rfl) (by first | exact List.length_map _ | exact chunk_length _ _ _ | exact byteE_length _ | exact strE_length _ | exact intE_length _ | exact (rfl : _ = 1) | exact (rfl : _ = 0) | exact (rfl : _ = 2) | exact (rfl : _ = 3) | exact cutM_length (by omega) | rfl) (by first | omega | decide) (by first | exact map_at (by omega) | rfl | exact set_at (by omega)) rfl rfl ?_ | refine st_idxrn rfl rfl rfl rfl rfl rfl (by first | with_reducible rfl | exact nlit _ | exact (Int.toNat_of_nonneg (by omega)).symm | rfl) (by first | exact List.length_map _ | exact chunk_length _ _ _ | exact byteE_length _ | exact strE_length _ | exact intE_length _ | exact (rfl : _ = 1) | exact (rfl : _ = 0) | exact (rfl : _ = 2) | exact (rfl : _ = 3) | exact cutM_length (by omega) | rfl) (by first | omega | decide) rfl ?_ | refine st_loadr1 rfl rfl rfl rfl (by first | exact map_at (by omega) | rfl | exact set_at (by omega)) rfl rfl rfl ?_ | refine st_loadrN rfl rfl rfl rfl (by first | exact map_at (by omega) | rfl | exact set_at (by omega)) rfl rfl rfl rfl ?_) | refine st_lit rfl rfl rfl ⟨rfl, rfl, rfl⟩ rfl rfl rfl rfl rfl rfl rfl rfl rfl ?_ | refine st_storer rfl rfl rfl rfl rfl rfl (by first | exact List.length_map _ | exact chunk_length _ _ _ | exact byteE_length _ | exact strE_length _ | exact intE_length _ | exact (rfl : _ = 1) | exact (rfl : _ = 0) | exact (rfl : _ = 2) | exact (rfl : _ = 3) | exact cutM_length (by omega) | rfl) (by omega) (by first | exact map_at (by omega) | rfl | exact set_at (by omega)) rfl rfl rfl rfl ?_ | refine st_call (within_c) rfl rfl rfl rfl rfl ?_)
      | ((apply ops_gsplit; exact rfl; exact rfl; (fail_if_success exact (rfl : _ = AV.d (.b true))); (fail_if_success exact (rfl : _ = AV.d (.b false))); exact rfl) <;> intro hb <;> (first | rw [inB_t] at hb | rw [inB_f] at hb | rw [inB_nt] at hb | rw [inB_nf] at hb | rw [decide_eq_true_eq] at hb | rw [decide_eq_false_iff_not] at hb | rw [beq_iff_eq] at hb | rw [beq_eq_false_iff_ne] at hb | rw [Bool.not_eq_true'] at hb | rw [Bool.not_eq_false'] at hb | rw [bne_iff_ne] at hb | rw [bne_eq_false_iff_eq] at hb | skip) <;> (first | (exfalso; omega) | (exact absurd rfl hb) | skip))
      )
    all_goals
      refine Stop.mk ?_
      refine ret_intro [] rfl rfl ?_ ?_
      repeat' (first
        | apply And.intro
        | (apply eq_b; exact rfl; exact Stop.mk (by with_reducible rfl))
        | (apply eq_b; exact rfl)
        | (apply eq_n; exact rfl; exact Stop.mk (by first | with_reducible rfl | omega))
        | (apply eq_n; exact rfl)
        | (apply eq_s; exact rfl; exact Stop.mk (by with_reducible rfl))
        | (apply eq_s; exact rfl)
        | (apply eq_sl; exact rfl; exact Stop.mk (by with_reducible rfl))
        | (apply eq_sl; exact rfl)
        | (apply eq_row; exact rfl; exact Stop.mk (by with_reducible rfl))
        | (apply eq_row; exact rfl)
        | (apply eq_agg; exact rfl)
        | (apply eq_cons; exact rfl)
        | (apply eq_boxo; exact rfl)
        | (apply cell_agg; exact rfl; exact rfl; exact rfl)
        | (apply cell_one; exact rfl; exact rfl)
        | exact rfl
        | trivial
        )
      exact Stop.mk (if_neg (by omega)).symm
set_option maxRecDepth 100000 in
theorem words_s : ACalls Try.prog 101 [] [.row 0] [(0, .row 9 (strE wordsK) true)] := by
  refine acalls_of tt Try.func101 rfl rfl rfl (fun w0 Z => ?_)
  repeat' (first
    | apply awp_seq
    | (apply awp_regionN; exact rfl)
    | (apply aopG_ok; exact rfl)
    | apply ops_nil
    | (apply awp_cond_t; exact rfl)
    | (apply awp_cond_f; exact rfl)
    | ((apply awp_cond; exact rfl) <;> intro hb <;> (first | rw [inB_t] at hb | rw [inB_f] at hb | rw [inB_nt] at hb | rw [inB_nf] at hb | rw [decide_eq_true_eq] at hb | rw [decide_eq_false_iff_not] at hb | rw [beq_iff_eq] at hb | rw [beq_eq_false_iff_ne] at hb | rw [Bool.not_eq_true'] at hb | rw [Bool.not_eq_false'] at hb | rw [bne_iff_ne] at hb | rw [bne_eq_false_iff_eq] at hb | skip) <;> (first | (exfalso; omega) | (exact absurd rfl hb) | skip))
    | apply awp_block
    | apply awp_skip
    | apply awp_exit
    | apply awp_ret'
    | ((first | (apply ops_cons; exact rfl) | (apply ops_yes; exact rfl; exact rfl; exact rfl)); first | refine st_lit rfl rfl rfl ⟨rfl, rfl, rfl⟩ rfl rfl rfl rfl rfl rfl rfl rfl rfl ?_)
    | ((apply ops_gsplit; exact rfl; exact rfl; (fail_if_success exact (rfl : _ = AV.d (.b true))); (fail_if_success exact (rfl : _ = AV.d (.b false))); exact rfl) <;> intro hb <;> (first | rw [inB_t] at hb | rw [inB_f] at hb | rw [inB_nt] at hb | rw [inB_nf] at hb | rw [decide_eq_true_eq] at hb | rw [decide_eq_false_iff_not] at hb | rw [beq_iff_eq] at hb | rw [beq_eq_false_iff_ne] at hb | rw [Bool.not_eq_true'] at hb | rw [Bool.not_eq_false'] at hb | rw [bne_iff_ne] at hb | rw [bne_eq_false_iff_eq] at hb | skip) <;> (first | (exfalso; omega) | (exact absurd rfl hb) | skip))
    )
  refine Stop.mk ?_
  refine ret_intro [1] rfl rfl ?_ ?_
  repeat' (first
    | apply And.intro
    | (apply eq_b; exact rfl; exact Stop.mk (by with_reducible rfl))
    | (apply eq_b; exact rfl)
    | (apply eq_n; exact rfl; exact Stop.mk (by first | with_reducible rfl | omega))
    | (apply eq_n; exact rfl)
    | (apply eq_s; exact rfl; exact Stop.mk (by with_reducible rfl))
    | (apply eq_s; exact rfl)
    | (apply eq_sl; exact rfl; exact Stop.mk (by with_reducible rfl))
    | (apply eq_sl; exact rfl)
    | (apply eq_row; exact rfl; exact Stop.mk (by with_reducible rfl))
    | (apply eq_row; exact rfl)
    | (apply eq_agg; exact rfl)
    | (apply eq_cons; exact rfl)
    | (apply eq_boxo; exact rfl)
    | (apply cell_agg; exact rfl; exact rfl; exact rfl)
    | (apply cell_one; exact rfl; exact rfl)
    | exact rfl
    | trivial
    )
  all_goals exact Stop.mk rfl
end Go.Proofs.Ythmajaeekkbnnaa
