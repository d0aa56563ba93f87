/-
  Text as steps: TextStep of the reference; the laws of StepText and TextStep.
-/
import Derived.Test.YthmajaeekkbnnaaTxP
namespace Go.Proofs.Ythmajaeekkbnnaa
open Go Go.RowKit
attribute [local irreducible] AWp OpsOk OpOk ACalls ChA QsOk

theorem first_sp (s : List UInt8) : ∀ (n : Nat), (∀ j, j < n → ¬ sp s j) ∨ ∃ i, i < n ∧ sp s i ∧ ∀ j, j < i → ¬ sp s j
  | 0 => .inl fun j hj => by omega
  | n + 1 => by
    rcases first_sp s n with h | ⟨i, h1, h2, h3⟩
    · by_cases hs : sp s n
      · exact .inr ⟨n, by omega, hs, h⟩
      · refine .inl fun j hj => ?_
        rcases (by omega : j < n ∨ j = n) with h' | rfl
        · exact h j h'
        · exact hs
    · exact .inr ⟨i, by omega, h2, h3⟩
theorem cut_cases (s : List UInt8) : (parts s 32 = [s] ∧ tl s = []) ∨ (parts s 32 = hd s :: parts (tl s) 32 ∧ (hd s).length + 1 + (tl s).length = s.length) := by
  rcases first_sp s s.length with h | ⟨i, h1, h2, h3⟩
  · exact .inl ⟨split_not h, (cut_not h).2.1⟩
  · obtain ⟨e1, e2, _⟩ := cut_at h3 h1 h2
    refine .inr ⟨by rw [e1, e2]; exact split_at h3 h1 h2, ?_⟩
    rw [e1, e2, List.length_take, List.length_drop]
    omega
theorem two_len {s : List UInt8} (h : 2 < (parts s 32).length) : nth (parts s 32) 1 = hd (tl s) ∧ (nth (parts s 32) 0).length + (nth (parts s 32) 1).length + 2 ≤ s.length := by
  rcases cut_cases s with ⟨e, _⟩ | ⟨e, hl⟩
  · rw [e] at h; simp at h
  · have e1 : nth (parts s 32) 1 = hd (tl s) := by rw [e]; rfl
    have e0 : nth (parts s 32) 0 = hd s := rfl
    rw [e1, e0]
    rcases cut_cases (tl s) with ⟨e2, _⟩ | ⟨_, hl2⟩
    · rw [e, e2] at h; simp at h
    · exact ⟨rfl, by omega⟩
theorem tl_do {s : List UInt8} (h : nth (parts s 32) 0 = doK) : (s.take s.length).drop 3 = tl s := by
  have e : hd s = doK := h
  rw [List.take_length, tl, e]; rfl
theorem tl_torn {s : List UInt8} (h : nth (parts s 32) 0 = tornK) (h2 : 2 < (parts s 32).length) : (s.take s.length).drop (6 + (nth (parts s 32) 1).length) = tl (tl s) := by
  have e : hd s = tornK := h
  rw [(two_len h2).1, List.take_length, tl, tl, e, List.drop_drop]
  congr 1
  have h4 : tornK.length = 4 := rfl
  omega
theorem textCmd_sx {s t : List UInt8} (he : t = s) (h : s.length ≤ 1000000000) : ACalls Try.prog 82 [.d (.s t)] [cmdA (textCmd s).1, .d (.b (textCmd s).2)] [] := by
  subst he
  exact textCmd_s h
theorem textNum_sx {s t : List UInt8} (he : t = s) : ACalls Try.prog 127 [.d (.s t)] [.d (.n .i64 (textNum s).1), .d (.b (textNum s).2)] [] := by
  subst he
  exact textNum_s
def xD0 : Step := ⟨1, cmd0, 0⟩
def xT0 : Step := ⟨2, cmd0, 0⟩
theorem tc_nil : (textCmd []).1 = cmd0 := by rw [textCmd_nil rfl]
theorem do_short {s : List UInt8} (h : nth (parts s 32) 0 = doK) (hs : s.length ≤ 3) : stepRd s = xD0 := by
  have e : hd s = doK := h
  rw [rd_D e, xD, tl, e, List.drop_eq_nil_of_le (by simpa using hs), tc_nil]; rfl
theorem st_none {k : Int} : stepText ⟨2, cmd0, k⟩ = [] := by
  have h0 : cmdText cmd0 = [] := by decide
  unfold stepText
  rw [if_neg (by decide : ¬ (2 : Int) = 1), if_pos rfl, if_neg (by rw [h0]; simp)]
theorem torn_short {s : List UInt8} (h : nth (parts s 32) 0 = tornK) (hs : (parts s 32).length ≤ 2) : textStep s = (step0, false) := by
  by_cases hn : s = []
  · exact textStep_nil hn
  · have e : hd s = tornK := h
    refine textStep_ne (rd_T e) ?_
    have et : tl (tl s) = [] := by
      rcases cut_cases s with ⟨_, e2⟩ | ⟨e2, _⟩
      · rw [e2]; rfl
      · rcases cut_cases (tl s) with ⟨_, e3⟩ | ⟨e3, _⟩
        · exact e3
        · rw [e2, e3] at hs
          have := parts_pos (tl (tl s)) 32
          simp only [List.length_cons] at hs; omega
    rw [xT, et, tc_nil, st_none]
    exact fun h' => hn h'.symm
set_option maxRecDepth 100000 in
set_option maxHeartbeats 4000000 in
theorem textStep_s {s : List UInt8} (h : s.length ≤ 1000000000) : ACalls Try.prog 84 [.d (.s s)] [stepA (textStep s).1, .d (.b (textStep s).2)] [] := by
  refine acalls_of tt Try.func84 rfl rfl rfl (fun w0 Z => ?_)
  have h1 := tl_len s
  have h2 := tl_len (tl s)
  have hp0 := parts_pos s 32
  by_cases hT : nth (parts s 32) 0 = tornK
  · have h4 : (nth (parts s 32) 0).length = 4 := by rw [hT]; rfl
    have hl : 2 < (parts s 32).length → (nth (parts s 32) 0).length + (nth (parts s 32) 1).length + 2 ≤ s.length := fun h => (two_len h).2
    repeat' (first
      | apply awp_seq
      | (apply awp_regionN; exact rfl)
      | (apply aopG_ok; exact rfl)
      | apply ops_nil
      | (apply awp_cond_t; exact rfl)
      | (apply awp_cond_f; exact rfl)
      | ((apply awp_cond; exact rfl) <;> intro hb <;> (first | rw [inB_t] at hb | rw [inB_f] at hb | rw [inB_nt] at hb | rw [inB_nf] at hb | rw [decide_eq_true_eq] at hb | rw [decide_eq_false_iff_not] at hb | rw [beq_iff_eq] at hb | rw [beq_eq_false_iff_ne] at hb | rw [Bool.not_eq_true'] at hb | rw [Bool.not_eq_false'] at hb | rw [bne_iff_ne] at hb | rw [bne_eq_false_iff_eq] at hb | skip) <;> (first | (exfalso; omega) | (exact absurd rfl hb) | skip))
      | apply awp_block
      | apply awp_skip
      | apply awp_exit
      | apply awp_ret'
      | ((first | (apply ops_cons; exact rfl) | (apply ops_yes; exact rfl; exact rfl; exact rfl)); first | (apply QOk.ok; first | refine st_addn rfl rfl rfl (by first | with_reducible rfl | exact nlit _ | exact (Int.toNat_of_nonneg (by omega)).symm | rfl) rfl (by first | with_reducible rfl | exact nlit _ | exact (Int.toNat_of_nonneg (by omega)).symm | rfl) (by omega) rfl ?_ | refine st_add rfl rfl rfl rfl (by omega) rfl ?_ | refine st_lens rfl rfl rfl rfl rfl ?_ | refine st_len rfl rfl rfl rfl (by first | exact List.length_map _ | exact chunk_length _ _ _ | exact byteE_length _ | exact strE_length _ | exact intE_length _ | exact (rfl : _ = 1) | exact (rfl : _ = 0) | exact (rfl : _ = 2) | exact (rfl : _ = 3) | rfl) rfl (fun _ => ?_) | refine st_idxn rfl rfl rfl rfl rfl (by first | with_reducible rfl | exact nlit _ | exact (Int.toNat_of_nonneg (by omega)).symm | rfl) (by first | exact List.length_map _ | exact chunk_length _ _ _ | exact byteE_length _ | exact strE_length _ | exact intE_length _ | exact (rfl : _ = 1) | exact (rfl : _ = 0) | exact (rfl : _ = 2) | exact (rfl : _ = 3) | rfl) (by first | omega | decide) (by first | exact map_at (by omega) | rfl) rfl rfl ?_ | refine st_idxrn rfl rfl rfl rfl rfl rfl (by first | with_reducible rfl | exact nlit _ | exact (Int.toNat_of_nonneg (by omega)).symm | rfl) (by first | exact List.length_map _ | exact chunk_length _ _ _ | exact byteE_length _ | exact strE_length _ | exact intE_length _ | exact (rfl : _ = 1) | exact (rfl : _ = 0) | exact (rfl : _ = 2) | exact (rfl : _ = 3) | rfl) (by first | omega | decide) rfl ?_ | refine st_slices rfl rfl rfl rfl rfl (by first | with_reducible rfl | exact nlit _ | exact (Int.toNat_of_nonneg (by omega)).symm | rfl) rfl (by first | with_reducible rfl | exact nlit _ | exact (Int.toNat_of_nonneg (by omega)).symm | rfl) (by omega) rfl ?_ | refine st_sliced rfl rfl rfl rfl (by first | exact List.length_map _ | exact chunk_length _ _ _ | exact byteE_length _ | exact strE_length _ | exact intE_length _ | exact (rfl : _ = 1) | exact (rfl : _ = 0) | exact (rfl : _ = 2) | exact (rfl : _ = 3) | rfl) rfl (by first | with_reducible rfl | exact nlit _ | exact (Int.toNat_of_nonneg (by omega)).symm | rfl) rfl (by first | with_reducible rfl | exact nlit _ | exact (Int.toNat_of_nonneg (by omega)).symm | rfl) (by omega) (by first | exact lenE_nil _ | exact lenE_one rfl | exact lenE_map (fun _ => rfl)) rfl ?_ | refine st_catn rfl rfl rfl rfl (by first | omega | (simp only [List.length_cons, List.length_nil]; omega) | (simp only [List.length_append]; omega) | (simp only [List.length_append, List.length_cons, List.length_nil]; omega)) rfl ?_ | refine st_build rfl rfl rfl rfl rfl rfl ?_ | refine st_eqagg ns_ok (by kernel_rfl) rfl rfl rfl rfl rfl rfl rfl rfl ?_ | refine st_neagg ns_ok (by kernel_rfl) rfl rfl rfl rfl rfl rfl rfl rfl ?_ | refine st_loadr1 rfl rfl rfl rfl (by first | exact map_at (by omega) | rfl) rfl rfl rfl ?_ | refine st_loadrN rfl rfl rfl rfl (by first | exact map_at (by omega) | rfl) rfl rfl rfl rfl ?_) | refine st_storer rfl rfl rfl rfl rfl rfl (by first | exact List.length_map _ | exact chunk_length _ _ _ | exact byteE_length _ | exact strE_length _ | exact intE_length _ | exact (rfl : _ = 1) | exact (rfl : _ = 0) | exact (rfl : _ = 2) | exact (rfl : _ = 3) | rfl) (by omega) (by first | exact map_at (by omega) | rfl) rfl rfl rfl rfl ?_ | refine st_call (parts_s (by omega)) rfl rfl rfl rfl rfl ?_ | refine st_call (textCmd_sx (tl_do (by assumption)) (by omega)) rfl rfl rfl rfl rfl ?_ | refine st_call (textCmd_sx (tl_torn hT (by omega)) (by omega)) rfl rfl rfl rfl rfl ?_ | refine st_call (textNum_sx (two_len (by omega)).1) rfl rfl rfl rfl rfl ?_ | refine st_call (stepText_s (x := xT s)) rfl rfl rfl rfl rfl ?_ | refine st_call (stepText_s (x := xT0)) rfl rfl rfl rfl rfl ?_)
      | ((apply ops_gsplit; exact rfl; exact rfl; (fail_if_success exact (rfl : _ = AV.d (.b true))); (fail_if_success exact (rfl : _ = AV.d (.b false))); exact rfl) <;> intro hb <;> (first | rw [inB_t] at hb | rw [inB_f] at hb | rw [inB_nt] at hb | rw [inB_nf] at hb | rw [decide_eq_true_eq] at hb | rw [decide_eq_false_iff_not] at hb | rw [beq_iff_eq] at hb | rw [beq_eq_false_iff_ne] at hb | rw [Bool.not_eq_true'] at hb | rw [Bool.not_eq_false'] at hb | rw [bne_iff_ne] at hb | rw [bne_eq_false_iff_eq] at hb | skip) <;> (first | (exfalso; omega) | (exact absurd rfl hb) | skip))
      )
    all_goals clear h1 h2
    all_goals
      first
        | contradiction
        | (exact absurd (Eq.trans (Eq.symm (by assumption : nth (parts s 32) 0 = doK)) hT) (by decide))
        | rw [textStep_nil (by assumption)]
        | (exact absurd (Eq.trans (Eq.symm (by assumption : stepText xT0 = s)) st_none) (by assumption))
        | rw [torn_short hT (by omega)]
        | rw [textStep_ne (rd_T (s := s) (by assumption)) (by assumption)]
        | rw [textStep_eq (rd_T (s := s) (by assumption)) (by assumption) (by assumption)]
      all_goals
        refine Stop.mk ?_
        refine ret_intro [] rfl rfl ?_ ?_
        repeat' (first
          | apply And.intro
          | (apply eq_b; exact rfl; exact Stop.mk (by with_reducible rfl))
          | (apply eq_b; exact rfl)
          | (apply eq_n; exact rfl; exact Stop.mk (by first | with_reducible rfl | omega))
          | (apply eq_n; exact rfl)
          | (apply eq_s; exact rfl; exact Stop.mk (by with_reducible rfl))
          | (apply eq_s; exact rfl)
          | (apply eq_sl; exact rfl; exact Stop.mk (by with_reducible rfl))
          | (apply eq_sl; exact rfl)
          | (apply eq_row; exact rfl; exact Stop.mk (by with_reducible rfl))
          | (apply eq_row; exact rfl)
          | (apply eq_agg; exact rfl)
          | (apply eq_cons; exact rfl)
          | (apply eq_boxo; exact rfl)
          | (apply cell_agg; exact rfl; exact rfl; exact rfl)
          | (apply cell_one; exact rfl; exact rfl)
          | exact rfl
          | trivial
          )
        all_goals exact Stop.mk rfl
  · repeat' (first
      | apply awp_seq
      | (apply awp_regionN; exact rfl)
      | (apply aopG_ok; exact rfl)
      | apply ops_nil
      | (apply awp_cond_t; exact rfl)
      | (apply awp_cond_f; exact rfl)
      | ((apply awp_cond; exact rfl) <;> intro hb <;> (first | rw [inB_t] at hb | rw [inB_f] at hb | rw [inB_nt] at hb | rw [inB_nf] at hb | rw [decide_eq_true_eq] at hb | rw [decide_eq_false_iff_not] at hb | rw [beq_iff_eq] at hb | rw [beq_eq_false_iff_ne] at hb | rw [Bool.not_eq_true'] at hb | rw [Bool.not_eq_false'] at hb | rw [bne_iff_ne] at hb | rw [bne_eq_false_iff_eq] at hb | skip) <;> (first | (exfalso; omega) | (exact absurd rfl hb) | skip))
      | apply awp_block
      | apply awp_skip
      | apply awp_exit
      | apply awp_ret'
      | ((first | (apply ops_cons; exact rfl) | (apply ops_yes; exact rfl; exact rfl; exact rfl)); first | (apply QOk.ok; first | refine st_addn rfl rfl rfl (by first | with_reducible rfl | exact nlit _ | exact (Int.toNat_of_nonneg (by omega)).symm | rfl) rfl (by first | with_reducible rfl | exact nlit _ | exact (Int.toNat_of_nonneg (by omega)).symm | rfl) (by omega) rfl ?_ | refine st_add rfl rfl rfl rfl (by omega) rfl ?_ | refine st_lens rfl rfl rfl rfl rfl ?_ | refine st_len rfl rfl rfl rfl (by first | exact List.length_map _ | exact chunk_length _ _ _ | exact byteE_length _ | exact strE_length _ | exact intE_length _ | exact (rfl : _ = 1) | exact (rfl : _ = 0) | exact (rfl : _ = 2) | exact (rfl : _ = 3) | rfl) rfl (fun _ => ?_) | refine st_idxn rfl rfl rfl rfl rfl (by first | with_reducible rfl | exact nlit _ | exact (Int.toNat_of_nonneg (by omega)).symm | rfl) (by first | exact List.length_map _ | exact chunk_length _ _ _ | exact byteE_length _ | exact strE_length _ | exact intE_length _ | exact (rfl : _ = 1) | exact (rfl : _ = 0) | exact (rfl : _ = 2) | exact (rfl : _ = 3) | rfl) (by first | omega | decide) (by first | exact map_at (by omega) | rfl) rfl rfl ?_ | refine st_idxrn rfl rfl rfl rfl rfl rfl (by first | with_reducible rfl | exact nlit _ | exact (Int.toNat_of_nonneg (by omega)).symm | rfl) (by first | exact List.length_map _ | exact chunk_length _ _ _ | exact byteE_length _ | exact strE_length _ | exact intE_length _ | exact (rfl : _ = 1) | exact (rfl : _ = 0) | exact (rfl : _ = 2) | exact (rfl : _ = 3) | rfl) (by first | omega | decide) rfl ?_ | refine st_slices rfl rfl rfl rfl rfl (by first | with_reducible rfl | exact nlit _ | exact (Int.toNat_of_nonneg (by omega)).symm | rfl) rfl (by first | with_reducible rfl | exact nlit _ | exact (Int.toNat_of_nonneg (by omega)).symm | rfl) (by omega) rfl ?_ | refine st_sliced rfl rfl rfl rfl (by first | exact List.length_map _ | exact chunk_length _ _ _ | exact byteE_length _ | exact strE_length _ | exact intE_length _ | exact (rfl : _ = 1) | exact (rfl : _ = 0) | exact (rfl : _ = 2) | exact (rfl : _ = 3) | rfl) rfl (by first | with_reducible rfl | exact nlit _ | exact (Int.toNat_of_nonneg (by omega)).symm | rfl) rfl (by first | with_reducible rfl | exact nlit _ | exact (Int.toNat_of_nonneg (by omega)).symm | rfl) (by omega) (by first | exact lenE_nil _ | exact lenE_one rfl | exact lenE_map (fun _ => rfl)) rfl ?_ | refine st_catn rfl rfl rfl rfl (by first | omega | (simp only [List.length_cons, List.length_nil]; omega) | (simp only [List.length_append]; omega) | (simp only [List.length_append, List.length_cons, List.length_nil]; omega)) rfl ?_ | refine st_build rfl rfl rfl rfl rfl rfl ?_ | refine st_eqagg ns_ok (by kernel_rfl) rfl rfl rfl rfl rfl rfl rfl rfl ?_ | refine st_neagg ns_ok (by kernel_rfl) rfl rfl rfl rfl rfl rfl rfl rfl ?_ | refine st_loadr1 rfl rfl rfl rfl (by first | exact map_at (by omega) | rfl) rfl rfl rfl ?_ | refine st_loadrN rfl rfl rfl rfl (by first | exact map_at (by omega) | rfl) rfl rfl rfl rfl ?_) | refine st_storer rfl rfl rfl rfl rfl rfl (by first | exact List.length_map _ | exact chunk_length _ _ _ | exact byteE_length _ | exact strE_length _ | exact intE_length _ | exact (rfl : _ = 1) | exact (rfl : _ = 0) | exact (rfl : _ = 2) | exact (rfl : _ = 3) | rfl) (by omega) (by first | exact map_at (by omega) | rfl) rfl rfl rfl rfl ?_ | refine st_call (parts_s (by omega)) rfl rfl rfl rfl rfl ?_ | refine st_call (textCmd_sx (tl_do (by assumption)) (by omega)) rfl rfl rfl rfl rfl ?_ | refine st_call (textNum_s) rfl rfl rfl rfl rfl ?_ | refine st_call (stepText_s (x := xD s)) rfl rfl rfl rfl rfl ?_ | refine st_call (stepText_s (x := xD0)) rfl rfl rfl rfl rfl ?_ | refine st_call (stepText_s (x := xC)) rfl rfl rfl rfl rfl ?_ | refine st_call (stepText_s (x := xS)) rfl rfl rfl rfl rfl ?_ | refine st_call (stepText_s (x := step0)) rfl rfl rfl rfl rfl ?_)
      | ((apply ops_gsplit; exact rfl; exact rfl; (fail_if_success exact (rfl : _ = AV.d (.b true))); (fail_if_success exact (rfl : _ = AV.d (.b false))); exact rfl) <;> intro hb <;> (first | rw [inB_t] at hb | rw [inB_f] at hb | rw [inB_nt] at hb | rw [inB_nf] at hb | rw [decide_eq_true_eq] at hb | rw [decide_eq_false_iff_not] at hb | rw [beq_iff_eq] at hb | rw [beq_eq_false_iff_ne] at hb | rw [Bool.not_eq_true'] at hb | rw [Bool.not_eq_false'] at hb | rw [bne_iff_ne] at hb | rw [bne_eq_false_iff_eq] at hb | skip) <;> (first | (exfalso; omega) | (exact absurd rfl hb) | skip))
      )
    all_goals clear h1 h2
    all_goals
      first
        | contradiction
        | rw [textStep_nil (by assumption)]
        | rw [textStep_ne (do_short (by assumption) (by omega)) (by assumption)]
        | rw [textStep_ne (rd_D (s := s) (by assumption)) (by assumption)]
        | rw [textStep_ne (rd_C (s := s) (by assumption)) (by assumption)]
        | rw [textStep_ne (rd_S (s := s) (by assumption)) (by assumption)]
        | rw [textStep_ne (rd_0 (s := s) (by assumption) (by assumption) (by assumption) (by assumption)) (by assumption)]
        | rw [textStep_eq (do_short (by assumption) (by omega)) (by assumption) (by assumption)]
        | rw [textStep_eq (rd_D (s := s) (by assumption)) (by assumption) (by assumption)]
        | rw [textStep_eq (rd_C (s := s) (by assumption)) (by assumption) (by assumption)]
        | rw [textStep_eq (rd_S (s := s) (by assumption)) (by assumption) (by assumption)]
        | rw [textStep_eq (rd_0 (s := s) (by assumption) (by assumption) (by assumption) (by assumption)) (by assumption) (by assumption)]
      all_goals
        refine Stop.mk ?_
        refine ret_intro [] rfl rfl ?_ ?_
        repeat' (first
          | apply And.intro
          | (apply eq_b; exact rfl; exact Stop.mk (by with_reducible rfl))
          | (apply eq_b; exact rfl)
          | (apply eq_n; exact rfl; exact Stop.mk (by first | with_reducible rfl | omega))
          | (apply eq_n; exact rfl)
          | (apply eq_s; exact rfl; exact Stop.mk (by with_reducible rfl))
          | (apply eq_s; exact rfl)
          | (apply eq_sl; exact rfl; exact Stop.mk (by with_reducible rfl))
          | (apply eq_sl; exact rfl)
          | (apply eq_row; exact rfl; exact Stop.mk (by with_reducible rfl))
          | (apply eq_row; exact rfl)
          | (apply eq_agg; exact rfl)
          | (apply eq_cons; exact rfl)
          | (apply eq_boxo; exact rfl)
          | (apply cell_agg; exact rfl; exact rfl; exact rfl)
          | (apply cell_one; exact rfl; exact rfl)
          | exact rfl
          | trivial
          )
        all_goals exact Stop.mk rfl
end Go.Proofs.Ythmajaeekkbnnaa
