/-
  HeapAll of the reference; the law of HeapAll, without its argument.
-/
import Derived.Test.YthmajaeekkbnnaaHpE
namespace Go.Proofs.Ythmajaeekkbnnaa
open Go Go.RowKit
attribute [local irreducible] AWp OpsOk OpOk ACalls ChA QsOk MCalls

/-- What the reference holds between two rounds: the heap it popped last, in the first round or a later one, or none: it is done. -/
inductive AllSt where
  | one (l out : List Due)
  | on (l out : List Due)
  | off (out : List Due) (d : Due)
def AllSt.ok (L : List Due) : AllSt → Prop
  | .one l out => allAt L l out ∧ 0 < l.length
  | .on l out => allAt L l out ∧ 0 < l.length
  | .off out _ => allOf L = out
def AllSt.st : AllSt → AS
  | .one l out => ⟨26, [(3, .row 7), (4, .ptr 4 0), (5, .row 10), (6, .d (.b true))], [(7, .row 25 (dueE out) true), (4, .box 25 [.d (.n .i64 (nth l 0).a), .d (.n .i64 (nth l 0).i)]), (10, .row 25 (dueE (popD l)) true)]⟩
  | .on l out => ⟨26, [(3, .row 7), (4, .ptr 4 0), (5, .row 21), (6, .d (.b true))], [(7, .row 25 (dueE out) true), (4, .box 25 [.d (.n .i64 (nth l 0).a), .d (.n .i64 (nth l 0).i)]), (21, .row 25 (dueE (popD l)) true)]⟩
  | .off out d => ⟨26, [(3, .row 7), (4, .ptr 4 0), (5, .nil), (6, .d (.b false))], [(7, .row 25 (dueE out) true), (4, .box 25 [.d (.n .i64 d.a), .d (.n .i64 d.i)])]⟩
def AllSt.mu : AllSt → Nat
  | .one l _ => l.length + 1
  | .on l _ => l.length + 1
  | .off _ _ => 0
set_option maxRecDepth 100000 in
set_option maxHeartbeats 4000000 in
theorem heapAll_s {L : List Due} (hok : heapOkB L = true) : ACalls Try.prog 62 [.d (.sl (dueE L))] [.row 0] [(0, .row 25 (dueE (allOf L)) true)] := by
  refine acalls_of tt Try.func62 rfl rfl rfl (fun w0 Z => ?_)
  have hl := (heapOkB_iff.1 hok).2.2
  by_cases hn : 0 < L.length
  · repeat' (first
      | apply awp_seq
      | (apply awp_regionN; exact rfl)
      | (apply aopG_ok; exact rfl)
      | apply ops_nil
      | (apply awp_cond_t; exact rfl)
      | (apply awp_cond_f; exact rfl)
      | ((apply awp_cond; exact rfl) <;> intro hb <;> (first | rw [inB_t] at hb | rw [inB_f] at hb | rw [inB_nt] at hb | rw [inB_nf] at hb | rw [decide_eq_true_eq] at hb | rw [decide_eq_false_iff_not] at hb | rw [beq_iff_eq] at hb | rw [beq_eq_false_iff_ne] at hb | rw [Bool.not_eq_true'] at hb | rw [Bool.not_eq_false'] at hb | rw [bne_iff_ne] at hb | rw [bne_eq_false_iff_eq] at hb | skip) <;> (first | (exfalso; omega) | (exact absurd rfl hb) | skip))
      | apply awp_block
      | apply awp_skip
      | apply awp_exit
      | apply awp_ret'
      | ((first | (apply ops_cons; exact rfl) | (apply ops_yes; exact rfl; exact rfl; exact rfl)); first | refine st_appstr rfl rfl rfl rfl rfl rfl rfl rfl rfl rfl (by first | exact List.length_map _ | exact chunk_length _ _ _ | exact byteE_length _ | exact strE_length _ | exact intE_length _ | exact (rfl : _ = 1) | exact (rfl : _ = 0) | exact (rfl : _ = 2) | exact (rfl : _ = 3) | exact cutM_length (by omega) | exact List.length_set.trans (List.length_map _) | exact (List.length_set.trans List.length_set).trans (List.length_map _) | exact nil_cutM_len (by omega) | rfl) (by omega) rfl rfl ?_ | refine st_append rfl rfl rfl rfl rfl rfl ⟨rfl, rfl, rfl⟩ (by first | exact List.length_map _ | exact chunk_length _ _ _ | exact byteE_length _ | exact strE_length _ | exact intE_length _ | exact (rfl : _ = 1) | exact (rfl : _ = 0) | exact (rfl : _ = 2) | exact (rfl : _ = 3) | exact cutM_length (by omega) | exact List.length_set.trans (List.length_map _) | exact (List.length_set.trans List.length_set).trans (List.length_map _) | exact nil_cutM_len (by omega) | rfl) (by first | exact List.length_map _ | exact chunk_length _ _ _ | exact byteE_length _ | exact strE_length _ | exact intE_length _ | exact (rfl : _ = 1) | exact (rfl : _ = 0) | exact (rfl : _ = 2) | exact (rfl : _ = 3) | exact cutM_length (by omega) | exact List.length_set.trans (List.length_map _) | exact (List.length_set.trans List.length_set).trans (List.length_map _) | exact nil_cutM_len (by omega) | rfl) (by first | exact lenE_nil _ | exact lenE_one rfl | exact lenE_map (fun _ => rfl) | exact cutM_lenE (fun _ => rfl)) (by first | rfl | exact flatE_map (fun _ => rfl) | exact cutM_flatE (fun _ => rfl)) (by omega) rfl rfl ?_ | refine st_appnil rfl rfl rfl rfl rfl ⟨rfl, rfl, rfl⟩ (by first | exact List.length_map _ | exact chunk_length _ _ _ | exact byteE_length _ | exact strE_length _ | exact intE_length _ | exact (rfl : _ = 1) | exact (rfl : _ = 0) | exact (rfl : _ = 2) | exact (rfl : _ = 3) | exact cutM_length (by omega) | exact List.length_set.trans (List.length_map _) | exact (List.length_set.trans List.length_set).trans (List.length_map _) | exact nil_cutM_len (by omega) | rfl) (by first | exact lenE_nil _ | exact lenE_one rfl | exact lenE_map (fun _ => rfl) | exact cutM_lenE (fun _ => rfl)) (by first | rfl | exact flatE_map (fun _ => rfl) | exact cutM_flatE (fun _ => rfl)) (by omega) rfl rfl ?_ | refine st_lit rfl rfl rfl ⟨rfl, rfl, rfl⟩ rfl rfl rfl rfl rfl rfl rfl rfl rfl ?_ | refine st_call (heapPop_s hok hn) rfl rfl rfl rfl rfl ?_)
      | ((apply ops_gsplit; exact rfl; exact rfl; (fail_if_success exact (rfl : _ = AV.d (.b true))); (fail_if_success exact (rfl : _ = AV.d (.b false))); exact rfl) <;> intro hb <;> (first | rw [inB_t] at hb | rw [inB_f] at hb | rw [inB_nt] at hb | rw [inB_nf] at hb | rw [decide_eq_true_eq] at hb | rw [decide_eq_false_iff_not] at hb | rw [beq_iff_eq] at hb | rw [beq_eq_false_iff_ne] at hb | rw [Bool.not_eq_true'] at hb | rw [Bool.not_eq_false'] at hb | rw [bne_iff_ne] at hb | rw [bne_eq_false_iff_eq] at hb | skip) <;> (first | (exfalso; omega) | (exact absurd rfl hb) | skip))
      )
    refine awp_loop AllSt.st (AllSt.ok L) AllSt.mu (.one L []) (by exact ⟨⟨hok, rfl, by simp⟩, hn⟩) ?_ ?_
    · unfold AllSt.st
      refine ⟨rfl, ?_, ?_, rfl⟩
      repeat' (first
        | apply And.intro
        | (apply eq_b; exact rfl; exact Stop.mk (by with_reducible rfl))
        | (apply eq_b; exact rfl)
        | (apply eq_n; exact rfl; exact Stop.mk (by first | with_reducible rfl | omega))
        | (apply eq_n; exact rfl)
        | (apply eq_s; exact rfl; exact Stop.mk (by with_reducible rfl))
        | (apply eq_s; exact rfl)
        | (apply eq_sl; exact rfl; exact Stop.mk (by with_reducible rfl))
        | (apply eq_sl; exact rfl)
        | (apply eq_row; exact rfl; exact Stop.mk (by with_reducible rfl))
        | (apply eq_row; exact rfl)
        | (apply eq_agg; exact rfl)
        | (apply eq_cons; exact rfl)
        | (apply eq_boxo; exact rfl)
        | (apply cell_agg; exact rfl; exact rfl; exact rfl)
        | (apply cell_one; exact rfl; exact rfl)
        | exact rfl
        | trivial
        )
      all_goals exact Stop.mk rfl
    · intro x hx
      cases x with
      | one l out =>
        have ha := allAt_next hx.1 hx.2
        have hol := hx.1.2.2
        have hpl := popD_length l
        have hl0 := hx.2
        unfold AllSt.st
        by_cases hn : 0 < (popD l).length
        · refine awp_frz 10 rfl ?_
          repeat' (first
            | apply awp_seq
            | (apply awp_regionN; exact rfl)
            | (apply aopG_ok; exact rfl)
            | apply ops_nil
            | (apply awp_cond_t; exact rfl)
            | (apply awp_cond_f; exact rfl)
            | ((apply awp_cond; exact rfl) <;> intro hb <;> (first | rw [inB_t] at hb | rw [inB_f] at hb | rw [inB_nt] at hb | rw [inB_nf] at hb | rw [decide_eq_true_eq] at hb | rw [decide_eq_false_iff_not] at hb | rw [beq_iff_eq] at hb | rw [beq_eq_false_iff_ne] at hb | rw [Bool.not_eq_true'] at hb | rw [Bool.not_eq_false'] at hb | rw [bne_iff_ne] at hb | rw [bne_eq_false_iff_eq] at hb | skip) <;> (first | (exfalso; omega) | (exact absurd rfl hb) | skip))
            | apply awp_block
            | apply awp_skip
            | apply awp_exit
            | apply awp_ret'
            | ((first | (apply ops_cons; exact rfl) | (apply ops_yes; exact rfl; exact rfl; exact rfl)); first | refine st_appstr rfl rfl rfl rfl rfl rfl rfl rfl rfl rfl (by first | exact List.length_map _ | exact chunk_length _ _ _ | exact byteE_length _ | exact strE_length _ | exact intE_length _ | exact (rfl : _ = 1) | exact (rfl : _ = 0) | exact (rfl : _ = 2) | exact (rfl : _ = 3) | exact cutM_length (by omega) | exact List.length_set.trans (List.length_map _) | exact (List.length_set.trans List.length_set).trans (List.length_map _) | exact nil_cutM_len (by omega) | rfl) (by omega) rfl rfl ?_ | refine st_append rfl rfl rfl rfl rfl rfl ⟨rfl, rfl, rfl⟩ (by first | exact List.length_map _ | exact chunk_length _ _ _ | exact byteE_length _ | exact strE_length _ | exact intE_length _ | exact (rfl : _ = 1) | exact (rfl : _ = 0) | exact (rfl : _ = 2) | exact (rfl : _ = 3) | exact cutM_length (by omega) | exact List.length_set.trans (List.length_map _) | exact (List.length_set.trans List.length_set).trans (List.length_map _) | exact nil_cutM_len (by omega) | rfl) (by first | exact List.length_map _ | exact chunk_length _ _ _ | exact byteE_length _ | exact strE_length _ | exact intE_length _ | exact (rfl : _ = 1) | exact (rfl : _ = 0) | exact (rfl : _ = 2) | exact (rfl : _ = 3) | exact cutM_length (by omega) | exact List.length_set.trans (List.length_map _) | exact (List.length_set.trans List.length_set).trans (List.length_map _) | exact nil_cutM_len (by omega) | rfl) (by first | exact lenE_nil _ | exact lenE_one rfl | exact lenE_map (fun _ => rfl) | exact cutM_lenE (fun _ => rfl)) (by first | rfl | exact flatE_map (fun _ => rfl) | exact cutM_flatE (fun _ => rfl)) (by omega) rfl rfl ?_ | refine st_appnil rfl rfl rfl rfl rfl ⟨rfl, rfl, rfl⟩ (by first | exact List.length_map _ | exact chunk_length _ _ _ | exact byteE_length _ | exact strE_length _ | exact intE_length _ | exact (rfl : _ = 1) | exact (rfl : _ = 0) | exact (rfl : _ = 2) | exact (rfl : _ = 3) | exact cutM_length (by omega) | exact List.length_set.trans (List.length_map _) | exact (List.length_set.trans List.length_set).trans (List.length_map _) | exact nil_cutM_len (by omega) | rfl) (by first | exact lenE_nil _ | exact lenE_one rfl | exact lenE_map (fun _ => rfl) | exact cutM_lenE (fun _ => rfl)) (by first | rfl | exact flatE_map (fun _ => rfl) | exact cutM_flatE (fun _ => rfl)) (by omega) rfl rfl ?_ | refine st_lit rfl rfl rfl ⟨rfl, rfl, rfl⟩ rfl rfl rfl rfl rfl rfl rfl rfl rfl ?_ | refine st_call (heapPop_s ha.1 hn) rfl rfl rfl rfl rfl ?_)
            | ((apply ops_gsplit; exact rfl; exact rfl; (fail_if_success exact (rfl : _ = AV.d (.b true))); (fail_if_success exact (rfl : _ = AV.d (.b false))); exact rfl) <;> intro hb <;> (first | rw [inB_t] at hb | rw [inB_f] at hb | rw [inB_nt] at hb | rw [inB_nf] at hb | rw [decide_eq_true_eq] at hb | rw [decide_eq_false_iff_not] at hb | rw [beq_iff_eq] at hb | rw [beq_eq_false_iff_ne] at hb | rw [Bool.not_eq_true'] at hb | rw [Bool.not_eq_false'] at hb | rw [bne_iff_ne] at hb | rw [bne_eq_false_iff_eq] at hb | skip) <;> (first | (exfalso; omega) | (exact absurd rfl hb) | skip))
            )
          refine ⟨.on (popD l) (out ++ [nth l 0]), ⟨ha, hn⟩, by show (popD l).length + 1 < l.length + 1; omega, ?_⟩
          try unfold AllSt.st
          refine ⟨rfl, ?_, ?_, rfl⟩
          repeat' (first
            | apply And.intro
            | (apply eq_b; exact rfl; exact Stop.mk (by with_reducible rfl))
            | (apply eq_b; exact rfl)
            | (apply eq_n; exact rfl; exact Stop.mk (by first | with_reducible rfl | omega))
            | (apply eq_n; exact rfl)
            | (apply eq_s; exact rfl; exact Stop.mk (by with_reducible rfl))
            | (apply eq_s; exact rfl)
            | (apply eq_sl; exact rfl; exact Stop.mk (by with_reducible rfl))
            | (apply eq_sl; exact rfl)
            | (apply eq_row; exact rfl; exact Stop.mk (by with_reducible rfl))
            | (apply eq_row; exact rfl)
            | (apply eq_agg; exact rfl)
            | (apply eq_cons; exact rfl)
            | (apply eq_boxo; exact rfl)
            | (apply cell_agg; exact rfl; exact rfl; exact rfl)
            | (apply cell_one; exact rfl; exact rfl)
            | exact rfl
            | trivial
            )
          all_goals exact Stop.mk (by first | rfl | exact dueE_snoc)
        · refine awp_frz 10 rfl ?_
          repeat' (first
            | apply awp_seq
            | (apply awp_regionN; exact rfl)
            | (apply aopG_ok; exact rfl)
            | apply ops_nil
            | (apply awp_cond_t; exact rfl)
            | (apply awp_cond_f; exact rfl)
            | ((apply awp_cond; exact rfl) <;> intro hb <;> (first | rw [inB_t] at hb | rw [inB_f] at hb | rw [inB_nt] at hb | rw [inB_nf] at hb | rw [decide_eq_true_eq] at hb | rw [decide_eq_false_iff_not] at hb | rw [beq_iff_eq] at hb | rw [beq_eq_false_iff_ne] at hb | rw [Bool.not_eq_true'] at hb | rw [Bool.not_eq_false'] at hb | rw [bne_iff_ne] at hb | rw [bne_eq_false_iff_eq] at hb | skip) <;> (first | (exfalso; omega) | (exact absurd rfl hb) | skip))
            | apply awp_block
            | apply awp_skip
            | apply awp_exit
            | apply awp_ret'
            | ((first | (apply ops_cons; exact rfl) | (apply ops_yes; exact rfl; exact rfl; exact rfl)); first | refine st_appstr rfl rfl rfl rfl rfl rfl rfl rfl rfl rfl (by first | exact List.length_map _ | exact chunk_length _ _ _ | exact byteE_length _ | exact strE_length _ | exact intE_length _ | exact (rfl : _ = 1) | exact (rfl : _ = 0) | exact (rfl : _ = 2) | exact (rfl : _ = 3) | exact cutM_length (by omega) | exact List.length_set.trans (List.length_map _) | exact (List.length_set.trans List.length_set).trans (List.length_map _) | exact nil_cutM_len (by omega) | rfl) (by omega) rfl rfl ?_ | refine st_append rfl rfl rfl rfl rfl rfl ⟨rfl, rfl, rfl⟩ (by first | exact List.length_map _ | exact chunk_length _ _ _ | exact byteE_length _ | exact strE_length _ | exact intE_length _ | exact (rfl : _ = 1) | exact (rfl : _ = 0) | exact (rfl : _ = 2) | exact (rfl : _ = 3) | exact cutM_length (by omega) | exact List.length_set.trans (List.length_map _) | exact (List.length_set.trans List.length_set).trans (List.length_map _) | exact nil_cutM_len (by omega) | rfl) (by first | exact List.length_map _ | exact chunk_length _ _ _ | exact byteE_length _ | exact strE_length _ | exact intE_length _ | exact (rfl : _ = 1) | exact (rfl : _ = 0) | exact (rfl : _ = 2) | exact (rfl : _ = 3) | exact cutM_length (by omega) | exact List.length_set.trans (List.length_map _) | exact (List.length_set.trans List.length_set).trans (List.length_map _) | exact nil_cutM_len (by omega) | rfl) (by first | exact lenE_nil _ | exact lenE_one rfl | exact lenE_map (fun _ => rfl) | exact cutM_lenE (fun _ => rfl)) (by first | rfl | exact flatE_map (fun _ => rfl) | exact cutM_flatE (fun _ => rfl)) (by omega) rfl rfl ?_ | refine st_appnil rfl rfl rfl rfl rfl ⟨rfl, rfl, rfl⟩ (by first | exact List.length_map _ | exact chunk_length _ _ _ | exact byteE_length _ | exact strE_length _ | exact intE_length _ | exact (rfl : _ = 1) | exact (rfl : _ = 0) | exact (rfl : _ = 2) | exact (rfl : _ = 3) | exact cutM_length (by omega) | exact List.length_set.trans (List.length_map _) | exact (List.length_set.trans List.length_set).trans (List.length_map _) | exact nil_cutM_len (by omega) | rfl) (by first | exact lenE_nil _ | exact lenE_one rfl | exact lenE_map (fun _ => rfl) | exact cutM_lenE (fun _ => rfl)) (by first | rfl | exact flatE_map (fun _ => rfl) | exact cutM_flatE (fun _ => rfl)) (by omega) rfl rfl ?_ | refine st_lit rfl rfl rfl ⟨rfl, rfl, rfl⟩ rfl rfl rfl rfl rfl rfl rfl rfl rfl ?_ | refine st_call (heapPop_s0 (L := popD l) (by omega) (Or.inr (by omega))) rfl rfl rfl rfl rfl ?_)
            | ((apply ops_gsplit; exact rfl; exact rfl; (fail_if_success exact (rfl : _ = AV.d (.b true))); (fail_if_success exact (rfl : _ = AV.d (.b false))); exact rfl) <;> intro hb <;> (first | rw [inB_t] at hb | rw [inB_f] at hb | rw [inB_nt] at hb | rw [inB_nf] at hb | rw [decide_eq_true_eq] at hb | rw [decide_eq_false_iff_not] at hb | rw [beq_iff_eq] at hb | rw [beq_eq_false_iff_ne] at hb | rw [Bool.not_eq_true'] at hb | rw [Bool.not_eq_false'] at hb | rw [bne_iff_ne] at hb | rw [bne_eq_false_iff_eq] at hb | skip) <;> (first | (exfalso; omega) | (exact absurd rfl hb) | skip))
            )
          refine ⟨.off (out ++ [nth l 0]) zdue, allAt_end ha (by omega), by show 0 < l.length + 1; omega, ?_⟩
          try unfold AllSt.st
          refine ⟨rfl, ?_, ?_, rfl⟩
          repeat' (first
            | apply And.intro
            | (apply eq_b; exact rfl; exact Stop.mk (by with_reducible rfl))
            | (apply eq_b; exact rfl)
            | (apply eq_n; exact rfl; exact Stop.mk (by first | with_reducible rfl | omega))
            | (apply eq_n; exact rfl)
            | (apply eq_s; exact rfl; exact Stop.mk (by with_reducible rfl))
            | (apply eq_s; exact rfl)
            | (apply eq_sl; exact rfl; exact Stop.mk (by with_reducible rfl))
            | (apply eq_sl; exact rfl)
            | (apply eq_row; exact rfl; exact Stop.mk (by with_reducible rfl))
            | (apply eq_row; exact rfl)
            | (apply eq_agg; exact rfl)
            | (apply eq_cons; exact rfl)
            | (apply eq_boxo; exact rfl)
            | (apply cell_agg; exact rfl; exact rfl; exact rfl)
            | (apply cell_one; exact rfl; exact rfl)
            | exact rfl
            | trivial
            )
          all_goals exact Stop.mk (by first | rfl | exact dueE_snoc)
      | on l out =>
        have ha := allAt_next hx.1 hx.2
        have hol := hx.1.2.2
        have hpl := popD_length l
        have hl0 := hx.2
        unfold AllSt.st
        by_cases hn : 0 < (popD l).length
        · refine awp_frz 21 rfl ?_
          repeat' (first
            | apply awp_seq
            | (apply awp_regionN; exact rfl)
            | (apply aopG_ok; exact rfl)
            | apply ops_nil
            | (apply awp_cond_t; exact rfl)
            | (apply awp_cond_f; exact rfl)
            | ((apply awp_cond; exact rfl) <;> intro hb <;> (first | rw [inB_t] at hb | rw [inB_f] at hb | rw [inB_nt] at hb | rw [inB_nf] at hb | rw [decide_eq_true_eq] at hb | rw [decide_eq_false_iff_not] at hb | rw [beq_iff_eq] at hb | rw [beq_eq_false_iff_ne] at hb | rw [Bool.not_eq_true'] at hb | rw [Bool.not_eq_false'] at hb | rw [bne_iff_ne] at hb | rw [bne_eq_false_iff_eq] at hb | skip) <;> (first | (exfalso; omega) | (exact absurd rfl hb) | skip))
            | apply awp_block
            | apply awp_skip
            | apply awp_exit
            | apply awp_ret'
            | ((first | (apply ops_cons; exact rfl) | (apply ops_yes; exact rfl; exact rfl; exact rfl)); first | refine st_appstr rfl rfl rfl rfl rfl rfl rfl rfl rfl rfl (by first | exact List.length_map _ | exact chunk_length _ _ _ | exact byteE_length _ | exact strE_length _ | exact intE_length _ | exact (rfl : _ = 1) | exact (rfl : _ = 0) | exact (rfl : _ = 2) | exact (rfl : _ = 3) | exact cutM_length (by omega) | exact List.length_set.trans (List.length_map _) | exact (List.length_set.trans List.length_set).trans (List.length_map _) | exact nil_cutM_len (by omega) | rfl) (by omega) rfl rfl ?_ | refine st_append rfl rfl rfl rfl rfl rfl ⟨rfl, rfl, rfl⟩ (by first | exact List.length_map _ | exact chunk_length _ _ _ | exact byteE_length _ | exact strE_length _ | exact intE_length _ | exact (rfl : _ = 1) | exact (rfl : _ = 0) | exact (rfl : _ = 2) | exact (rfl : _ = 3) | exact cutM_length (by omega) | exact List.length_set.trans (List.length_map _) | exact (List.length_set.trans List.length_set).trans (List.length_map _) | exact nil_cutM_len (by omega) | rfl) (by first | exact List.length_map _ | exact chunk_length _ _ _ | exact byteE_length _ | exact strE_length _ | exact intE_length _ | exact (rfl : _ = 1) | exact (rfl : _ = 0) | exact (rfl : _ = 2) | exact (rfl : _ = 3) | exact cutM_length (by omega) | exact List.length_set.trans (List.length_map _) | exact (List.length_set.trans List.length_set).trans (List.length_map _) | exact nil_cutM_len (by omega) | rfl) (by first | exact lenE_nil _ | exact lenE_one rfl | exact lenE_map (fun _ => rfl) | exact cutM_lenE (fun _ => rfl)) (by first | rfl | exact flatE_map (fun _ => rfl) | exact cutM_flatE (fun _ => rfl)) (by omega) rfl rfl ?_ | refine st_appnil rfl rfl rfl rfl rfl ⟨rfl, rfl, rfl⟩ (by first | exact List.length_map _ | exact chunk_length _ _ _ | exact byteE_length _ | exact strE_length _ | exact intE_length _ | exact (rfl : _ = 1) | exact (rfl : _ = 0) | exact (rfl : _ = 2) | exact (rfl : _ = 3) | exact cutM_length (by omega) | exact List.length_set.trans (List.length_map _) | exact (List.length_set.trans List.length_set).trans (List.length_map _) | exact nil_cutM_len (by omega) | rfl) (by first | exact lenE_nil _ | exact lenE_one rfl | exact lenE_map (fun _ => rfl) | exact cutM_lenE (fun _ => rfl)) (by first | rfl | exact flatE_map (fun _ => rfl) | exact cutM_flatE (fun _ => rfl)) (by omega) rfl rfl ?_ | refine st_lit rfl rfl rfl ⟨rfl, rfl, rfl⟩ rfl rfl rfl rfl rfl rfl rfl rfl rfl ?_ | refine st_call (heapPop_s ha.1 hn) rfl rfl rfl rfl rfl ?_)
            | ((apply ops_gsplit; exact rfl; exact rfl; (fail_if_success exact (rfl : _ = AV.d (.b true))); (fail_if_success exact (rfl : _ = AV.d (.b false))); exact rfl) <;> intro hb <;> (first | rw [inB_t] at hb | rw [inB_f] at hb | rw [inB_nt] at hb | rw [inB_nf] at hb | rw [decide_eq_true_eq] at hb | rw [decide_eq_false_iff_not] at hb | rw [beq_iff_eq] at hb | rw [beq_eq_false_iff_ne] at hb | rw [Bool.not_eq_true'] at hb | rw [Bool.not_eq_false'] at hb | rw [bne_iff_ne] at hb | rw [bne_eq_false_iff_eq] at hb | skip) <;> (first | (exfalso; omega) | (exact absurd rfl hb) | skip))
            )
          refine ⟨.on (popD l) (out ++ [nth l 0]), ⟨ha, hn⟩, by show (popD l).length + 1 < l.length + 1; omega, ?_⟩
          try unfold AllSt.st
          refine ⟨rfl, ?_, ?_, rfl⟩
          repeat' (first
            | apply And.intro
            | (apply eq_b; exact rfl; exact Stop.mk (by with_reducible rfl))
            | (apply eq_b; exact rfl)
            | (apply eq_n; exact rfl; exact Stop.mk (by first | with_reducible rfl | omega))
            | (apply eq_n; exact rfl)
            | (apply eq_s; exact rfl; exact Stop.mk (by with_reducible rfl))
            | (apply eq_s; exact rfl)
            | (apply eq_sl; exact rfl; exact Stop.mk (by with_reducible rfl))
            | (apply eq_sl; exact rfl)
            | (apply eq_row; exact rfl; exact Stop.mk (by with_reducible rfl))
            | (apply eq_row; exact rfl)
            | (apply eq_agg; exact rfl)
            | (apply eq_cons; exact rfl)
            | (apply eq_boxo; exact rfl)
            | (apply cell_agg; exact rfl; exact rfl; exact rfl)
            | (apply cell_one; exact rfl; exact rfl)
            | exact rfl
            | trivial
            )
          all_goals exact Stop.mk (by first | rfl | exact dueE_snoc)
        · refine awp_frz 21 rfl ?_
          repeat' (first
            | apply awp_seq
            | (apply awp_regionN; exact rfl)
            | (apply aopG_ok; exact rfl)
            | apply ops_nil
            | (apply awp_cond_t; exact rfl)
            | (apply awp_cond_f; exact rfl)
            | ((apply awp_cond; exact rfl) <;> intro hb <;> (first | rw [inB_t] at hb | rw [inB_f] at hb | rw [inB_nt] at hb | rw [inB_nf] at hb | rw [decide_eq_true_eq] at hb | rw [decide_eq_false_iff_not] at hb | rw [beq_iff_eq] at hb | rw [beq_eq_false_iff_ne] at hb | rw [Bool.not_eq_true'] at hb | rw [Bool.not_eq_false'] at hb | rw [bne_iff_ne] at hb | rw [bne_eq_false_iff_eq] at hb | skip) <;> (first | (exfalso; omega) | (exact absurd rfl hb) | skip))
            | apply awp_block
            | apply awp_skip
            | apply awp_exit
            | apply awp_ret'
            | ((first | (apply ops_cons; exact rfl) | (apply ops_yes; exact rfl; exact rfl; exact rfl)); first | refine st_appstr rfl rfl rfl rfl rfl rfl rfl rfl rfl rfl (by first | exact List.length_map _ | exact chunk_length _ _ _ | exact byteE_length _ | exact strE_length _ | exact intE_length _ | exact (rfl : _ = 1) | exact (rfl : _ = 0) | exact (rfl : _ = 2) | exact (rfl : _ = 3) | exact cutM_length (by omega) | exact List.length_set.trans (List.length_map _) | exact (List.length_set.trans List.length_set).trans (List.length_map _) | exact nil_cutM_len (by omega) | rfl) (by omega) rfl rfl ?_ | refine st_append rfl rfl rfl rfl rfl rfl ⟨rfl, rfl, rfl⟩ (by first | exact List.length_map _ | exact chunk_length _ _ _ | exact byteE_length _ | exact strE_length _ | exact intE_length _ | exact (rfl : _ = 1) | exact (rfl : _ = 0) | exact (rfl : _ = 2) | exact (rfl : _ = 3) | exact cutM_length (by omega) | exact List.length_set.trans (List.length_map _) | exact (List.length_set.trans List.length_set).trans (List.length_map _) | exact nil_cutM_len (by omega) | rfl) (by first | exact List.length_map _ | exact chunk_length _ _ _ | exact byteE_length _ | exact strE_length _ | exact intE_length _ | exact (rfl : _ = 1) | exact (rfl : _ = 0) | exact (rfl : _ = 2) | exact (rfl : _ = 3) | exact cutM_length (by omega) | exact List.length_set.trans (List.length_map _) | exact (List.length_set.trans List.length_set).trans (List.length_map _) | exact nil_cutM_len (by omega) | rfl) (by first | exact lenE_nil _ | exact lenE_one rfl | exact lenE_map (fun _ => rfl) | exact cutM_lenE (fun _ => rfl)) (by first | rfl | exact flatE_map (fun _ => rfl) | exact cutM_flatE (fun _ => rfl)) (by omega) rfl rfl ?_ | refine st_appnil rfl rfl rfl rfl rfl ⟨rfl, rfl, rfl⟩ (by first | exact List.length_map _ | exact chunk_length _ _ _ | exact byteE_length _ | exact strE_length _ | exact intE_length _ | exact (rfl : _ = 1) | exact (rfl : _ = 0) | exact (rfl : _ = 2) | exact (rfl : _ = 3) | exact cutM_length (by omega) | exact List.length_set.trans (List.length_map _) | exact (List.length_set.trans List.length_set).trans (List.length_map _) | exact nil_cutM_len (by omega) | rfl) (by first | exact lenE_nil _ | exact lenE_one rfl | exact lenE_map (fun _ => rfl) | exact cutM_lenE (fun _ => rfl)) (by first | rfl | exact flatE_map (fun _ => rfl) | exact cutM_flatE (fun _ => rfl)) (by omega) rfl rfl ?_ | refine st_lit rfl rfl rfl ⟨rfl, rfl, rfl⟩ rfl rfl rfl rfl rfl rfl rfl rfl rfl ?_ | refine st_call (heapPop_s0 (L := popD l) (by omega) (Or.inr (by omega))) rfl rfl rfl rfl rfl ?_)
            | ((apply ops_gsplit; exact rfl; exact rfl; (fail_if_success exact (rfl : _ = AV.d (.b true))); (fail_if_success exact (rfl : _ = AV.d (.b false))); exact rfl) <;> intro hb <;> (first | rw [inB_t] at hb | rw [inB_f] at hb | rw [inB_nt] at hb | rw [inB_nf] at hb | rw [decide_eq_true_eq] at hb | rw [decide_eq_false_iff_not] at hb | rw [beq_iff_eq] at hb | rw [beq_eq_false_iff_ne] at hb | rw [Bool.not_eq_true'] at hb | rw [Bool.not_eq_false'] at hb | rw [bne_iff_ne] at hb | rw [bne_eq_false_iff_eq] at hb | skip) <;> (first | (exfalso; omega) | (exact absurd rfl hb) | skip))
            )
          refine ⟨.off (out ++ [nth l 0]) zdue, allAt_end ha (by omega), by show 0 < l.length + 1; omega, ?_⟩
          try unfold AllSt.st
          refine ⟨rfl, ?_, ?_, rfl⟩
          repeat' (first
            | apply And.intro
            | (apply eq_b; exact rfl; exact Stop.mk (by with_reducible rfl))
            | (apply eq_b; exact rfl)
            | (apply eq_n; exact rfl; exact Stop.mk (by first | with_reducible rfl | omega))
            | (apply eq_n; exact rfl)
            | (apply eq_s; exact rfl; exact Stop.mk (by with_reducible rfl))
            | (apply eq_s; exact rfl)
            | (apply eq_sl; exact rfl; exact Stop.mk (by with_reducible rfl))
            | (apply eq_sl; exact rfl)
            | (apply eq_row; exact rfl; exact Stop.mk (by with_reducible rfl))
            | (apply eq_row; exact rfl)
            | (apply eq_agg; exact rfl)
            | (apply eq_cons; exact rfl)
            | (apply eq_boxo; exact rfl)
            | (apply cell_agg; exact rfl; exact rfl; exact rfl)
            | (apply cell_one; exact rfl; exact rfl)
            | exact rfl
            | trivial
            )
          all_goals exact Stop.mk (by first | rfl | exact dueE_snoc)
      | off out d =>
        unfold AllSt.st
        repeat' (first
          | apply awp_seq
          | (apply awp_regionN; exact rfl)
          | (apply aopG_ok; exact rfl)
          | apply ops_nil
          | (apply awp_cond_t; exact rfl)
          | (apply awp_cond_f; exact rfl)
          | ((apply awp_cond; exact rfl) <;> intro hb <;> (first | rw [inB_t] at hb | rw [inB_f] at hb | rw [inB_nt] at hb | rw [inB_nf] at hb | rw [decide_eq_true_eq] at hb | rw [decide_eq_false_iff_not] at hb | rw [beq_iff_eq] at hb | rw [beq_eq_false_iff_ne] at hb | rw [Bool.not_eq_true'] at hb | rw [Bool.not_eq_false'] at hb | rw [bne_iff_ne] at hb | rw [bne_eq_false_iff_eq] at hb | skip) <;> (first | (exfalso; omega) | (exact absurd rfl hb) | skip))
          | apply awp_block
          | apply awp_skip
          | apply awp_exit
          | apply awp_ret'
          | ((first | (apply ops_cons; exact rfl) | (apply ops_yes; exact rfl; exact rfl; exact rfl)); first | refine st_appstr rfl rfl rfl rfl rfl rfl rfl rfl rfl rfl (by first | exact List.length_map _ | exact chunk_length _ _ _ | exact byteE_length _ | exact strE_length _ | exact intE_length _ | exact (rfl : _ = 1) | exact (rfl : _ = 0) | exact (rfl : _ = 2) | exact (rfl : _ = 3) | exact cutM_length (by omega) | exact List.length_set.trans (List.length_map _) | exact (List.length_set.trans List.length_set).trans (List.length_map _) | exact nil_cutM_len (by omega) | rfl) (by omega) rfl rfl ?_ | refine st_append rfl rfl rfl rfl rfl rfl ⟨rfl, rfl, rfl⟩ (by first | exact List.length_map _ | exact chunk_length _ _ _ | exact byteE_length _ | exact strE_length _ | exact intE_length _ | exact (rfl : _ = 1) | exact (rfl : _ = 0) | exact (rfl : _ = 2) | exact (rfl : _ = 3) | exact cutM_length (by omega) | exact List.length_set.trans (List.length_map _) | exact (List.length_set.trans List.length_set).trans (List.length_map _) | exact nil_cutM_len (by omega) | rfl) (by first | exact List.length_map _ | exact chunk_length _ _ _ | exact byteE_length _ | exact strE_length _ | exact intE_length _ | exact (rfl : _ = 1) | exact (rfl : _ = 0) | exact (rfl : _ = 2) | exact (rfl : _ = 3) | exact cutM_length (by omega) | exact List.length_set.trans (List.length_map _) | exact (List.length_set.trans List.length_set).trans (List.length_map _) | exact nil_cutM_len (by omega) | rfl) (by first | exact lenE_nil _ | exact lenE_one rfl | exact lenE_map (fun _ => rfl) | exact cutM_lenE (fun _ => rfl)) (by first | rfl | exact flatE_map (fun _ => rfl) | exact cutM_flatE (fun _ => rfl)) (by omega) rfl rfl ?_ | refine st_appnil rfl rfl rfl rfl rfl ⟨rfl, rfl, rfl⟩ (by first | exact List.length_map _ | exact chunk_length _ _ _ | exact byteE_length _ | exact strE_length _ | exact intE_length _ | exact (rfl : _ = 1) | exact (rfl : _ = 0) | exact (rfl : _ = 2) | exact (rfl : _ = 3) | exact cutM_length (by omega) | exact List.length_set.trans (List.length_map _) | exact (List.length_set.trans List.length_set).trans (List.length_map _) | exact nil_cutM_len (by omega) | rfl) (by first | exact lenE_nil _ | exact lenE_one rfl | exact lenE_map (fun _ => rfl) | exact cutM_lenE (fun _ => rfl)) (by first | rfl | exact flatE_map (fun _ => rfl) | exact cutM_flatE (fun _ => rfl)) (by omega) rfl rfl ?_ | refine st_lit rfl rfl rfl ⟨rfl, rfl, rfl⟩ rfl rfl rfl rfl rfl rfl rfl rfl rfl ?_)
          | ((apply ops_gsplit; exact rfl; exact rfl; (fail_if_success exact (rfl : _ = AV.d (.b true))); (fail_if_success exact (rfl : _ = AV.d (.b false))); exact rfl) <;> intro hb <;> (first | rw [inB_t] at hb | rw [inB_f] at hb | rw [inB_nt] at hb | rw [inB_nf] at hb | rw [decide_eq_true_eq] at hb | rw [decide_eq_false_iff_not] at hb | rw [beq_iff_eq] at hb | rw [beq_eq_false_iff_ne] at hb | rw [Bool.not_eq_true'] at hb | rw [Bool.not_eq_false'] at hb | rw [bne_iff_ne] at hb | rw [bne_eq_false_iff_eq] at hb | skip) <;> (first | (exfalso; omega) | (exact absurd rfl hb) | skip))
          )
        rw [show allOf L = out from hx]
        refine Stop.mk ?_
        refine ret_intro [7] rfl rfl ?_ ?_
        repeat' (first
          | apply And.intro
          | (apply eq_b; exact rfl; exact Stop.mk (by with_reducible rfl))
          | (apply eq_b; exact rfl)
          | (apply eq_n; exact rfl; exact Stop.mk (by first | with_reducible rfl | omega))
          | (apply eq_n; exact rfl)
          | (apply eq_s; exact rfl; exact Stop.mk (by with_reducible rfl))
          | (apply eq_s; exact rfl)
          | (apply eq_sl; exact rfl; exact Stop.mk (by with_reducible rfl))
          | (apply eq_sl; exact rfl)
          | (apply eq_row; exact rfl; exact Stop.mk (by with_reducible rfl))
          | (apply eq_row; exact rfl)
          | (apply eq_agg; exact rfl)
          | (apply eq_cons; exact rfl)
          | (apply eq_boxo; exact rfl)
          | (apply cell_agg; exact rfl; exact rfl; exact rfl)
          | (apply cell_one; exact rfl; exact rfl)
          | exact rfl
          | trivial
          )
        all_goals exact Stop.mk rfl
  · obtain rfl := List.length_eq_zero_iff.1 (Nat.eq_zero_of_not_pos hn)
    repeat' (first
      | apply awp_seq
      | (apply awp_regionN; exact rfl)
      | (apply aopG_ok; exact rfl)
      | apply ops_nil
      | (apply awp_cond_t; exact rfl)
      | (apply awp_cond_f; exact rfl)
      | ((apply awp_cond; exact rfl) <;> intro hb <;> (first | rw [inB_t] at hb | rw [inB_f] at hb | rw [inB_nt] at hb | rw [inB_nf] at hb | rw [decide_eq_true_eq] at hb | rw [decide_eq_false_iff_not] at hb | rw [beq_iff_eq] at hb | rw [beq_eq_false_iff_ne] at hb | rw [Bool.not_eq_true'] at hb | rw [Bool.not_eq_false'] at hb | rw [bne_iff_ne] at hb | rw [bne_eq_false_iff_eq] at hb | skip) <;> (first | (exfalso; omega) | (exact absurd rfl hb) | skip))
      | apply awp_block
      | apply awp_skip
      | apply awp_exit
      | apply awp_ret'
      | ((first | (apply ops_cons; exact rfl) | (apply ops_yes; exact rfl; exact rfl; exact rfl)); first | refine st_appstr rfl rfl rfl rfl rfl rfl rfl rfl rfl rfl (by first | exact List.length_map _ | exact chunk_length _ _ _ | exact byteE_length _ | exact strE_length _ | exact intE_length _ | exact (rfl : _ = 1) | exact (rfl : _ = 0) | exact (rfl : _ = 2) | exact (rfl : _ = 3) | exact cutM_length (by omega) | exact List.length_set.trans (List.length_map _) | exact (List.length_set.trans List.length_set).trans (List.length_map _) | exact nil_cutM_len (by omega) | rfl) (by omega) rfl rfl ?_ | refine st_append rfl rfl rfl rfl rfl rfl ⟨rfl, rfl, rfl⟩ (by first | exact List.length_map _ | exact chunk_length _ _ _ | exact byteE_length _ | exact strE_length _ | exact intE_length _ | exact (rfl : _ = 1) | exact (rfl : _ = 0) | exact (rfl : _ = 2) | exact (rfl : _ = 3) | exact cutM_length (by omega) | exact List.length_set.trans (List.length_map _) | exact (List.length_set.trans List.length_set).trans (List.length_map _) | exact nil_cutM_len (by omega) | rfl) (by first | exact List.length_map _ | exact chunk_length _ _ _ | exact byteE_length _ | exact strE_length _ | exact intE_length _ | exact (rfl : _ = 1) | exact (rfl : _ = 0) | exact (rfl : _ = 2) | exact (rfl : _ = 3) | exact cutM_length (by omega) | exact List.length_set.trans (List.length_map _) | exact (List.length_set.trans List.length_set).trans (List.length_map _) | exact nil_cutM_len (by omega) | rfl) (by first | exact lenE_nil _ | exact lenE_one rfl | exact lenE_map (fun _ => rfl) | exact cutM_lenE (fun _ => rfl)) (by first | rfl | exact flatE_map (fun _ => rfl) | exact cutM_flatE (fun _ => rfl)) (by omega) rfl rfl ?_ | refine st_appnil rfl rfl rfl rfl rfl ⟨rfl, rfl, rfl⟩ (by first | exact List.length_map _ | exact chunk_length _ _ _ | exact byteE_length _ | exact strE_length _ | exact intE_length _ | exact (rfl : _ = 1) | exact (rfl : _ = 0) | exact (rfl : _ = 2) | exact (rfl : _ = 3) | exact cutM_length (by omega) | exact List.length_set.trans (List.length_map _) | exact (List.length_set.trans List.length_set).trans (List.length_map _) | exact nil_cutM_len (by omega) | rfl) (by first | exact lenE_nil _ | exact lenE_one rfl | exact lenE_map (fun _ => rfl) | exact cutM_lenE (fun _ => rfl)) (by first | rfl | exact flatE_map (fun _ => rfl) | exact cutM_flatE (fun _ => rfl)) (by omega) rfl rfl ?_ | refine st_lit rfl rfl rfl ⟨rfl, rfl, rfl⟩ rfl rfl rfl rfl rfl rfl rfl rfl rfl ?_ | refine st_call (heapPop_s0 (L := []) (Nat.zero_le _) (Or.inr rfl)) rfl rfl rfl rfl rfl ?_)
      | ((apply ops_gsplit; exact rfl; exact rfl; (fail_if_success exact (rfl : _ = AV.d (.b true))); (fail_if_success exact (rfl : _ = AV.d (.b false))); exact rfl) <;> intro hb <;> (first | rw [inB_t] at hb | rw [inB_f] at hb | rw [inB_nt] at hb | rw [inB_nf] at hb | rw [decide_eq_true_eq] at hb | rw [decide_eq_false_iff_not] at hb | rw [beq_iff_eq] at hb | rw [beq_eq_false_iff_ne] at hb | rw [Bool.not_eq_true'] at hb | rw [Bool.not_eq_false'] at hb | rw [bne_iff_ne] at hb | rw [bne_eq_false_iff_eq] at hb | skip) <;> (first | (exfalso; omega) | (exact absurd rfl hb) | skip))
      )
    refine awp_loop AllSt.st (AllSt.ok []) AllSt.mu (.off [] zdue) (by exact rfl) ?_ ?_
    · unfold AllSt.st
      refine ⟨rfl, ?_, ?_, rfl⟩
      repeat' (first
        | apply And.intro
        | (apply eq_b; exact rfl; exact Stop.mk (by with_reducible rfl))
        | (apply eq_b; exact rfl)
        | (apply eq_n; exact rfl; exact Stop.mk (by first | with_reducible rfl | omega))
        | (apply eq_n; exact rfl)
        | (apply eq_s; exact rfl; exact Stop.mk (by with_reducible rfl))
        | (apply eq_s; exact rfl)
        | (apply eq_sl; exact rfl; exact Stop.mk (by with_reducible rfl))
        | (apply eq_sl; exact rfl)
        | (apply eq_row; exact rfl; exact Stop.mk (by with_reducible rfl))
        | (apply eq_row; exact rfl)
        | (apply eq_agg; exact rfl)
        | (apply eq_cons; exact rfl)
        | (apply eq_boxo; exact rfl)
        | (apply cell_agg; exact rfl; exact rfl; exact rfl)
        | (apply cell_one; exact rfl; exact rfl)
        | exact rfl
        | trivial
        )
      all_goals exact Stop.mk rfl
    · intro x hx
      cases x with
      | one l out => exact absurd hx.1.2.2 (by have := hx.2; show ¬ out.length + l.length = 0; omega)
      | on l out => exact absurd hx.1.2.2 (by have := hx.2; show ¬ out.length + l.length = 0; omega)
      | off out d =>
        unfold AllSt.st
        repeat' (first
          | apply awp_seq
          | (apply awp_regionN; exact rfl)
          | (apply aopG_ok; exact rfl)
          | apply ops_nil
          | (apply awp_cond_t; exact rfl)
          | (apply awp_cond_f; exact rfl)
          | ((apply awp_cond; exact rfl) <;> intro hb <;> (first | rw [inB_t] at hb | rw [inB_f] at hb | rw [inB_nt] at hb | rw [inB_nf] at hb | rw [decide_eq_true_eq] at hb | rw [decide_eq_false_iff_not] at hb | rw [beq_iff_eq] at hb | rw [beq_eq_false_iff_ne] at hb | rw [Bool.not_eq_true'] at hb | rw [Bool.not_eq_false'] at hb | rw [bne_iff_ne] at hb | rw [bne_eq_false_iff_eq] at hb | skip) <;> (first | (exfalso; omega) | (exact absurd rfl hb) | skip))
          | apply awp_block
          | apply awp_skip
          | apply awp_exit
          | apply awp_ret'
          | ((first | (apply ops_cons; exact rfl) | (apply ops_yes; exact rfl; exact rfl; exact rfl)); first | refine st_appstr rfl rfl rfl rfl rfl rfl rfl rfl rfl rfl (by first | exact List.length_map _ | exact chunk_length _ _ _ | exact byteE_length _ | exact strE_length _ | exact intE_length _ | exact (rfl : _ = 1) | exact (rfl : _ = 0) | exact (rfl : _ = 2) | exact (rfl : _ = 3) | exact cutM_length (by omega) | exact List.length_set.trans (List.length_map _) | exact (List.length_set.trans List.length_set).trans (List.length_map _) | exact nil_cutM_len (by omega) | rfl) (by omega) rfl rfl ?_ | refine st_append rfl rfl rfl rfl rfl rfl ⟨rfl, rfl, rfl⟩ (by first | exact List.length_map _ | exact chunk_length _ _ _ | exact byteE_length _ | exact strE_length _ | exact intE_length _ | exact (rfl : _ = 1) | exact (rfl : _ = 0) | exact (rfl : _ = 2) | exact (rfl : _ = 3) | exact cutM_length (by omega) | exact List.length_set.trans (List.length_map _) | exact (List.length_set.trans List.length_set).trans (List.length_map _) | exact nil_cutM_len (by omega) | rfl) (by first | exact List.length_map _ | exact chunk_length _ _ _ | exact byteE_length _ | exact strE_length _ | exact intE_length _ | exact (rfl : _ = 1) | exact (rfl : _ = 0) | exact (rfl : _ = 2) | exact (rfl : _ = 3) | exact cutM_length (by omega) | exact List.length_set.trans (List.length_map _) | exact (List.length_set.trans List.length_set).trans (List.length_map _) | exact nil_cutM_len (by omega) | rfl) (by first | exact lenE_nil _ | exact lenE_one rfl | exact lenE_map (fun _ => rfl) | exact cutM_lenE (fun _ => rfl)) (by first | rfl | exact flatE_map (fun _ => rfl) | exact cutM_flatE (fun _ => rfl)) (by omega) rfl rfl ?_ | refine st_appnil rfl rfl rfl rfl rfl ⟨rfl, rfl, rfl⟩ (by first | exact List.length_map _ | exact chunk_length _ _ _ | exact byteE_length _ | exact strE_length _ | exact intE_length _ | exact (rfl : _ = 1) | exact (rfl : _ = 0) | exact (rfl : _ = 2) | exact (rfl : _ = 3) | exact cutM_length (by omega) | exact List.length_set.trans (List.length_map _) | exact (List.length_set.trans List.length_set).trans (List.length_map _) | exact nil_cutM_len (by omega) | rfl) (by first | exact lenE_nil _ | exact lenE_one rfl | exact lenE_map (fun _ => rfl) | exact cutM_lenE (fun _ => rfl)) (by first | rfl | exact flatE_map (fun _ => rfl) | exact cutM_flatE (fun _ => rfl)) (by omega) rfl rfl ?_ | refine st_lit rfl rfl rfl ⟨rfl, rfl, rfl⟩ rfl rfl rfl rfl rfl rfl rfl rfl rfl ?_)
          | ((apply ops_gsplit; exact rfl; exact rfl; (fail_if_success exact (rfl : _ = AV.d (.b true))); (fail_if_success exact (rfl : _ = AV.d (.b false))); exact rfl) <;> intro hb <;> (first | rw [inB_t] at hb | rw [inB_f] at hb | rw [inB_nt] at hb | rw [inB_nf] at hb | rw [decide_eq_true_eq] at hb | rw [decide_eq_false_iff_not] at hb | rw [beq_iff_eq] at hb | rw [beq_eq_false_iff_ne] at hb | rw [Bool.not_eq_true'] at hb | rw [Bool.not_eq_false'] at hb | rw [bne_iff_ne] at hb | rw [bne_eq_false_iff_eq] at hb | skip) <;> (first | (exfalso; omega) | (exact absurd rfl hb) | skip))
          )
        rw [show allOf [] = out from hx]
        refine Stop.mk ?_
        refine ret_intro [7] rfl rfl ?_ ?_
        repeat' (first
          | apply And.intro
          | (apply eq_b; exact rfl; exact Stop.mk (by with_reducible rfl))
          | (apply eq_b; exact rfl)
          | (apply eq_n; exact rfl; exact Stop.mk (by first | with_reducible rfl | omega))
          | (apply eq_n; exact rfl)
          | (apply eq_s; exact rfl; exact Stop.mk (by with_reducible rfl))
          | (apply eq_s; exact rfl)
          | (apply eq_sl; exact rfl; exact Stop.mk (by with_reducible rfl))
          | (apply eq_sl; exact rfl)
          | (apply eq_row; exact rfl; exact Stop.mk (by with_reducible rfl))
          | (apply eq_row; exact rfl)
          | (apply eq_agg; exact rfl)
          | (apply eq_cons; exact rfl)
          | (apply eq_boxo; exact rfl)
          | (apply cell_agg; exact rfl; exact rfl; exact rfl)
          | (apply cell_one; exact rfl; exact rfl)
          | exact rfl
          | trivial
          )
        all_goals exact Stop.mk rfl
set_option maxRecDepth 100000 in
theorem heapAll_s0 {L : List Due} (hl : L.length ≤ 1000000000) (hok : heapOkB L = false) : ACalls Try.prog 62 [.d (.sl (dueE L))] [.row 0] [(0, .row 25 (dueE []) true)] := by
  refine acalls_of tt Try.func62 rfl rfl rfl (fun w0 Z => ?_)
  repeat' (first
    | apply awp_seq
    | (apply awp_regionN; exact rfl)
    | (apply aopG_ok; exact rfl)
    | apply ops_nil
    | (apply awp_cond_t; exact rfl)
    | (apply awp_cond_f; exact rfl)
    | ((apply awp_cond; exact rfl) <;> intro hb <;> (first | rw [inB_t] at hb | rw [inB_f] at hb | rw [inB_nt] at hb | rw [inB_nf] at hb | rw [decide_eq_true_eq] at hb | rw [decide_eq_false_iff_not] at hb | rw [beq_iff_eq] at hb | rw [beq_eq_false_iff_ne] at hb | rw [Bool.not_eq_true'] at hb | rw [Bool.not_eq_false'] at hb | rw [bne_iff_ne] at hb | rw [bne_eq_false_iff_eq] at hb | skip) <;> (first | (exfalso; omega) | (exact absurd rfl hb) | skip))
    | apply awp_block
    | apply awp_skip
    | apply awp_exit
    | apply awp_ret'
    | ((first | (apply ops_cons; exact rfl) | (apply ops_yes; exact rfl; exact rfl; exact rfl)); first | refine st_appstr rfl rfl rfl rfl rfl rfl rfl rfl rfl rfl (by first | exact List.length_map _ | exact chunk_length _ _ _ | exact byteE_length _ | exact strE_length _ | exact intE_length _ | exact (rfl : _ = 1) | exact (rfl : _ = 0) | exact (rfl : _ = 2) | exact (rfl : _ = 3) | exact cutM_length (by omega) | exact List.length_set.trans (List.length_map _) | exact (List.length_set.trans List.length_set).trans (List.length_map _) | exact nil_cutM_len (by omega) | rfl) (by omega) rfl rfl ?_ | refine st_append rfl rfl rfl rfl rfl rfl ⟨rfl, rfl, rfl⟩ (by first | exact List.length_map _ | exact chunk_length _ _ _ | exact byteE_length _ | exact strE_length _ | exact intE_length _ | exact (rfl : _ = 1) | exact (rfl : _ = 0) | exact (rfl : _ = 2) | exact (rfl : _ = 3) | exact cutM_length (by omega) | exact List.length_set.trans (List.length_map _) | exact (List.length_set.trans List.length_set).trans (List.length_map _) | exact nil_cutM_len (by omega) | rfl) (by first | exact List.length_map _ | exact chunk_length _ _ _ | exact byteE_length _ | exact strE_length _ | exact intE_length _ | exact (rfl : _ = 1) | exact (rfl : _ = 0) | exact (rfl : _ = 2) | exact (rfl : _ = 3) | exact cutM_length (by omega) | exact List.length_set.trans (List.length_map _) | exact (List.length_set.trans List.length_set).trans (List.length_map _) | exact nil_cutM_len (by omega) | rfl) (by first | exact lenE_nil _ | exact lenE_one rfl | exact lenE_map (fun _ => rfl) | exact cutM_lenE (fun _ => rfl)) (by first | rfl | exact flatE_map (fun _ => rfl) | exact cutM_flatE (fun _ => rfl)) (by omega) rfl rfl ?_ | refine st_appnil rfl rfl rfl rfl rfl ⟨rfl, rfl, rfl⟩ (by first | exact List.length_map _ | exact chunk_length _ _ _ | exact byteE_length _ | exact strE_length _ | exact intE_length _ | exact (rfl : _ = 1) | exact (rfl : _ = 0) | exact (rfl : _ = 2) | exact (rfl : _ = 3) | exact cutM_length (by omega) | exact List.length_set.trans (List.length_map _) | exact (List.length_set.trans List.length_set).trans (List.length_map _) | exact nil_cutM_len (by omega) | rfl) (by first | exact lenE_nil _ | exact lenE_one rfl | exact lenE_map (fun _ => rfl) | exact cutM_lenE (fun _ => rfl)) (by first | rfl | exact flatE_map (fun _ => rfl) | exact cutM_flatE (fun _ => rfl)) (by omega) rfl rfl ?_ | refine st_lit rfl rfl rfl ⟨rfl, rfl, rfl⟩ rfl rfl rfl rfl rfl rfl rfl rfl rfl ?_ | refine st_call (heapPop_s0 (L := L) hl (Or.inl hok)) rfl rfl rfl rfl rfl ?_)
    | ((apply ops_gsplit; exact rfl; exact rfl; (fail_if_success exact (rfl : _ = AV.d (.b true))); (fail_if_success exact (rfl : _ = AV.d (.b false))); exact rfl) <;> intro hb <;> (first | rw [inB_t] at hb | rw [inB_f] at hb | rw [inB_nt] at hb | rw [inB_nf] at hb | rw [decide_eq_true_eq] at hb | rw [decide_eq_false_iff_not] at hb | rw [beq_iff_eq] at hb | rw [beq_eq_false_iff_ne] at hb | rw [Bool.not_eq_true'] at hb | rw [Bool.not_eq_false'] at hb | rw [bne_iff_ne] at hb | rw [bne_eq_false_iff_eq] at hb | skip) <;> (first | (exfalso; omega) | (exact absurd rfl hb) | skip))
    )
  refine awp_loop (fun (_ : Unit) => AllSt.st (.off [] zdue)) (fun _ => True) (fun _ => 0) () trivial ?_ ?_
  · unfold AllSt.st
    refine ⟨rfl, ?_, ?_, rfl⟩
    repeat' (first
      | apply And.intro
      | (apply eq_b; exact rfl; exact Stop.mk (by with_reducible rfl))
      | (apply eq_b; exact rfl)
      | (apply eq_n; exact rfl; exact Stop.mk (by first | with_reducible rfl | omega))
      | (apply eq_n; exact rfl)
      | (apply eq_s; exact rfl; exact Stop.mk (by with_reducible rfl))
      | (apply eq_s; exact rfl)
      | (apply eq_sl; exact rfl; exact Stop.mk (by with_reducible rfl))
      | (apply eq_sl; exact rfl)
      | (apply eq_row; exact rfl; exact Stop.mk (by with_reducible rfl))
      | (apply eq_row; exact rfl)
      | (apply eq_agg; exact rfl)
      | (apply eq_cons; exact rfl)
      | (apply eq_boxo; exact rfl)
      | (apply cell_agg; exact rfl; exact rfl; exact rfl)
      | (apply cell_one; exact rfl; exact rfl)
      | exact rfl
      | trivial
      )
    all_goals exact Stop.mk rfl
  · intro x hx
    unfold AllSt.st
    repeat' (first
      | apply awp_seq
      | (apply awp_regionN; exact rfl)
      | (apply aopG_ok; exact rfl)
      | apply ops_nil
      | (apply awp_cond_t; exact rfl)
      | (apply awp_cond_f; exact rfl)
      | ((apply awp_cond; exact rfl) <;> intro hb <;> (first | rw [inB_t] at hb | rw [inB_f] at hb | rw [inB_nt] at hb | rw [inB_nf] at hb | rw [decide_eq_true_eq] at hb | rw [decide_eq_false_iff_not] at hb | rw [beq_iff_eq] at hb | rw [beq_eq_false_iff_ne] at hb | rw [Bool.not_eq_true'] at hb | rw [Bool.not_eq_false'] at hb | rw [bne_iff_ne] at hb | rw [bne_eq_false_iff_eq] at hb | skip) <;> (first | (exfalso; omega) | (exact absurd rfl hb) | skip))
      | apply awp_block
      | apply awp_skip
      | apply awp_exit
      | apply awp_ret'
      | ((first | (apply ops_cons; exact rfl) | (apply ops_yes; exact rfl; exact rfl; exact rfl)); first | refine st_appstr rfl rfl rfl rfl rfl rfl rfl rfl rfl rfl (by first | exact List.length_map _ | exact chunk_length _ _ _ | exact byteE_length _ | exact strE_length _ | exact intE_length _ | exact (rfl : _ = 1) | exact (rfl : _ = 0) | exact (rfl : _ = 2) | exact (rfl : _ = 3) | exact cutM_length (by omega) | exact List.length_set.trans (List.length_map _) | exact (List.length_set.trans List.length_set).trans (List.length_map _) | exact nil_cutM_len (by omega) | rfl) (by omega) rfl rfl ?_ | refine st_append rfl rfl rfl rfl rfl rfl ⟨rfl, rfl, rfl⟩ (by first | exact List.length_map _ | exact chunk_length _ _ _ | exact byteE_length _ | exact strE_length _ | exact intE_length _ | exact (rfl : _ = 1) | exact (rfl : _ = 0) | exact (rfl : _ = 2) | exact (rfl : _ = 3) | exact cutM_length (by omega) | exact List.length_set.trans (List.length_map _) | exact (List.length_set.trans List.length_set).trans (List.length_map _) | exact nil_cutM_len (by omega) | rfl) (by first | exact List.length_map _ | exact chunk_length _ _ _ | exact byteE_length _ | exact strE_length _ | exact intE_length _ | exact (rfl : _ = 1) | exact (rfl : _ = 0) | exact (rfl : _ = 2) | exact (rfl : _ = 3) | exact cutM_length (by omega) | exact List.length_set.trans (List.length_map _) | exact (List.length_set.trans List.length_set).trans (List.length_map _) | exact nil_cutM_len (by omega) | rfl) (by first | exact lenE_nil _ | exact lenE_one rfl | exact lenE_map (fun _ => rfl) | exact cutM_lenE (fun _ => rfl)) (by first | rfl | exact flatE_map (fun _ => rfl) | exact cutM_flatE (fun _ => rfl)) (by omega) rfl rfl ?_ | refine st_appnil rfl rfl rfl rfl rfl ⟨rfl, rfl, rfl⟩ (by first | exact List.length_map _ | exact chunk_length _ _ _ | exact byteE_length _ | exact strE_length _ | exact intE_length _ | exact (rfl : _ = 1) | exact (rfl : _ = 0) | exact (rfl : _ = 2) | exact (rfl : _ = 3) | exact cutM_length (by omega) | exact List.length_set.trans (List.length_map _) | exact (List.length_set.trans List.length_set).trans (List.length_map _) | exact nil_cutM_len (by omega) | rfl) (by first | exact lenE_nil _ | exact lenE_one rfl | exact lenE_map (fun _ => rfl) | exact cutM_lenE (fun _ => rfl)) (by first | rfl | exact flatE_map (fun _ => rfl) | exact cutM_flatE (fun _ => rfl)) (by omega) rfl rfl ?_ | refine st_lit rfl rfl rfl ⟨rfl, rfl, rfl⟩ rfl rfl rfl rfl rfl rfl rfl rfl rfl ?_)
      | ((apply ops_gsplit; exact rfl; exact rfl; (fail_if_success exact (rfl : _ = AV.d (.b true))); (fail_if_success exact (rfl : _ = AV.d (.b false))); exact rfl) <;> intro hb <;> (first | rw [inB_t] at hb | rw [inB_f] at hb | rw [inB_nt] at hb | rw [inB_nf] at hb | rw [decide_eq_true_eq] at hb | rw [decide_eq_false_iff_not] at hb | rw [beq_iff_eq] at hb | rw [beq_eq_false_iff_ne] at hb | rw [Bool.not_eq_true'] at hb | rw [Bool.not_eq_false'] at hb | rw [bne_iff_ne] at hb | rw [bne_eq_false_iff_eq] at hb | skip) <;> (first | (exfalso; omega) | (exact absurd rfl hb) | skip))
      )
    refine Stop.mk ?_
    refine ret_intro [7] rfl rfl ?_ ?_
    repeat' (first
      | apply And.intro
      | (apply eq_b; exact rfl; exact Stop.mk (by with_reducible rfl))
      | (apply eq_b; exact rfl)
      | (apply eq_n; exact rfl; exact Stop.mk (by first | with_reducible rfl | omega))
      | (apply eq_n; exact rfl)
      | (apply eq_s; exact rfl; exact Stop.mk (by with_reducible rfl))
      | (apply eq_s; exact rfl)
      | (apply eq_sl; exact rfl; exact Stop.mk (by with_reducible rfl))
      | (apply eq_sl; exact rfl)
      | (apply eq_row; exact rfl; exact Stop.mk (by with_reducible rfl))
      | (apply eq_row; exact rfl)
      | (apply eq_agg; exact rfl)
      | (apply eq_cons; exact rfl)
      | (apply eq_boxo; exact rfl)
      | (apply cell_agg; exact rfl; exact rfl; exact rfl)
      | (apply cell_one; exact rfl; exact rfl)
      | exact rfl
      | trivial
      )
    all_goals exact Stop.mk rfl
set_option maxRecDepth 100000 in
set_option maxHeartbeats 4000000 in
theorem lawHeapAll_e {l : List Due} (h : l.length ≤ 9223372036854775807) : ACalls Try.prog 13 [.d (.sl (dueE l))] [.d (.b true)] [] := by
  refine acalls_of tt Try.func13 rfl rfl rfl (fun w0 Z => ?_)
  have hz := szDueS_e (l := l) (x := 1048576) h (by omega)
  by_cases hs : (1048576 : Int) - l.length < 0
  · rw [szD_no hs] at hz
    repeat' (first
      | apply awp_seq
      | (apply awp_regionN; exact rfl)
      | (apply aopG_ok; exact rfl)
      | apply ops_nil
      | (apply awp_cond_t; exact rfl)
      | (apply awp_cond_f; exact rfl)
      | ((apply awp_cond; exact rfl) <;> intro hb <;> (first | rw [inB_t] at hb | rw [inB_f] at hb | rw [inB_nt] at hb | rw [inB_nf] at hb | rw [decide_eq_true_eq] at hb | rw [decide_eq_false_iff_not] at hb | rw [beq_iff_eq] at hb | rw [beq_eq_false_iff_ne] at hb | rw [Bool.not_eq_true'] at hb | rw [Bool.not_eq_false'] at hb | rw [bne_iff_ne] at hb | rw [bne_eq_false_iff_eq] at hb | skip) <;> (first | (exfalso; omega) | (exact absurd rfl hb) | skip))
      | apply awp_block
      | apply awp_skip
      | apply awp_exit
      | apply awp_ret'
      | ((first | (apply ops_cons; exact rfl) | (apply ops_yes; exact rfl; exact rfl; exact rfl)); first | (apply QOk.ok; first | refine st_neagg ns_ok (by kernel_rfl) rfl rfl rfl rfl rfl rfl rfl rfl ?_) | refine st_call (hz) rfl rfl rfl rfl rfl ?_)
      | ((apply ops_gsplit; exact rfl; exact rfl; (fail_if_success exact (rfl : _ = AV.d (.b true))); (fail_if_success exact (rfl : _ = AV.d (.b false))); exact rfl) <;> intro hb <;> (first | rw [inB_t] at hb | rw [inB_f] at hb | rw [inB_nt] at hb | rw [inB_nf] at hb | rw [decide_eq_true_eq] at hb | rw [decide_eq_false_iff_not] at hb | rw [beq_iff_eq] at hb | rw [beq_eq_false_iff_ne] at hb | rw [Bool.not_eq_true'] at hb | rw [Bool.not_eq_false'] at hb | rw [bne_iff_ne] at hb | rw [bne_eq_false_iff_eq] at hb | skip) <;> (first | (exfalso; omega) | (exact absurd rfl hb) | skip))
      )
    refine Stop.mk ?_
    refine ret_intro [] rfl rfl ?_ ?_
    repeat' (first
      | apply And.intro
      | (apply eq_b; exact rfl; exact Stop.mk (by with_reducible rfl))
      | (apply eq_b; exact rfl)
      | (apply eq_n; exact rfl; exact Stop.mk (by first | with_reducible rfl | omega))
      | (apply eq_n; exact rfl)
      | (apply eq_s; exact rfl; exact Stop.mk (by with_reducible rfl))
      | (apply eq_s; exact rfl)
      | (apply eq_sl; exact rfl; exact Stop.mk (by with_reducible rfl))
      | (apply eq_sl; exact rfl)
      | (apply eq_row; exact rfl; exact Stop.mk (by with_reducible rfl))
      | (apply eq_row; exact rfl)
      | (apply eq_agg; exact rfl)
      | (apply eq_cons; exact rfl)
      | (apply eq_boxo; exact rfl)
      | (apply cell_agg; exact rfl; exact rfl; exact rfl)
      | (apply cell_one; exact rfl; exact rfl)
      | exact rfl
      | trivial
      )
  · rw [szD_yes hs] at hz
    cases hk : heapOkB l with
    | true =>
      have hp : (allOf l).length ≤ 1000000000 := by rw [allOf_len hk]; omega
      repeat' (first
        | apply awp_seq
        | (apply awp_regionN; exact rfl)
        | (apply aopG_ok; exact rfl)
        | apply ops_nil
        | (apply awp_cond_t; exact rfl)
        | (apply awp_cond_f; exact rfl)
        | ((apply awp_cond; exact rfl) <;> intro hb <;> (first | rw [inB_t] at hb | rw [inB_f] at hb | rw [inB_nt] at hb | rw [inB_nf] at hb | rw [decide_eq_true_eq] at hb | rw [decide_eq_false_iff_not] at hb | rw [beq_iff_eq] at hb | rw [beq_eq_false_iff_ne] at hb | rw [Bool.not_eq_true'] at hb | rw [Bool.not_eq_false'] at hb | rw [bne_iff_ne] at hb | rw [bne_eq_false_iff_eq] at hb | skip) <;> (first | (exfalso; omega) | (exact absurd rfl hb) | skip))
        | apply awp_block
        | apply awp_skip
        | apply awp_exit
        | apply awp_ret'
        | ((first | (apply ops_cons; exact rfl) | (apply ops_yes; exact rfl; exact rfl; exact rfl)); first | (apply QOk.ok; first | refine st_neagg ns_ok (by kernel_rfl) rfl rfl rfl rfl rfl rfl rfl rfl ?_) | refine st_call (hz) rfl rfl rfl rfl rfl ?_ | refine st_call (toDueS_e (l := l) (by omega)) rfl rfl rfl rfl rfl ?_ | refine st_call (heapAll_s hk) rfl rfl rfl rfl rfl ?_ | refine st_call (heapAll_e hk) rfl rfl rfl rfl rfl ?_ | refine st_call (eqDueS_r (l := allOf l) hp) rfl rfl rfl rfl rfl ?_ | refine st_call (eqDueS_r (l := l) (by omega)) rfl rfl rfl rfl rfl ?_ | refine st_call (heldDueS_e (k := 1) hp (by omega)) rfl rfl rfl rfl rfl ?_ | refine st_callm [20] (markDueS_m (l := l) (k := 1) (by omega) (by omega)) rfl rfl rfl rfl rfl (fun _ _ => rfl) rfl (fun i hi => ?_); (try dsimp only at hi) | refine st_callm [22] (markDueS_m (l := allOf l) (k := 1) hp (by omega)) rfl rfl rfl rfl rfl (fun _ _ => rfl) rfl (fun i hi => ?_); (try dsimp only at hi))
        | ((apply ops_gsplit; exact rfl; exact rfl; (fail_if_success exact (rfl : _ = AV.d (.b true))); (fail_if_success exact (rfl : _ = AV.d (.b false))); exact rfl) <;> intro hb <;> (first | rw [inB_t] at hb | rw [inB_f] at hb | rw [inB_nt] at hb | rw [inB_nf] at hb | rw [decide_eq_true_eq] at hb | rw [decide_eq_false_iff_not] at hb | rw [beq_iff_eq] at hb | rw [beq_eq_false_iff_ne] at hb | rw [Bool.not_eq_true'] at hb | rw [Bool.not_eq_false'] at hb | rw [bne_iff_ne] at hb | rw [bne_eq_false_iff_eq] at hb | skip) <;> (first | (exfalso; omega) | (exact absurd rfl hb) | skip))
        )
      all_goals
        refine Stop.mk ?_
        refine ret_intro [] rfl rfl ?_ ?_
        repeat' (first
          | apply And.intro
          | (apply eq_b; exact rfl; exact Stop.mk (by with_reducible rfl))
          | (apply eq_b; exact rfl)
          | (apply eq_n; exact rfl; exact Stop.mk (by first | with_reducible rfl | omega))
          | (apply eq_n; exact rfl)
          | (apply eq_s; exact rfl; exact Stop.mk (by with_reducible rfl))
          | (apply eq_s; exact rfl)
          | (apply eq_sl; exact rfl; exact Stop.mk (by with_reducible rfl))
          | (apply eq_sl; exact rfl)
          | (apply eq_row; exact rfl; exact Stop.mk (by with_reducible rfl))
          | (apply eq_row; exact rfl)
          | (apply eq_agg; exact rfl)
          | (apply eq_cons; exact rfl)
          | (apply eq_boxo; exact rfl)
          | (apply cell_agg; exact rfl; exact rfl; exact rfl)
          | (apply cell_one; exact rfl; exact rfl)
          | exact rfl
          | trivial
          )
    | false =>
      repeat' (first
        | apply awp_seq
        | (apply awp_regionN; exact rfl)
        | (apply aopG_ok; exact rfl)
        | apply ops_nil
        | (apply awp_cond_t; exact rfl)
        | (apply awp_cond_f; exact rfl)
        | ((apply awp_cond; exact rfl) <;> intro hb <;> (first | rw [inB_t] at hb | rw [inB_f] at hb | rw [inB_nt] at hb | rw [inB_nf] at hb | rw [decide_eq_true_eq] at hb | rw [decide_eq_false_iff_not] at hb | rw [beq_iff_eq] at hb | rw [beq_eq_false_iff_ne] at hb | rw [Bool.not_eq_true'] at hb | rw [Bool.not_eq_false'] at hb | rw [bne_iff_ne] at hb | rw [bne_eq_false_iff_eq] at hb | skip) <;> (first | (exfalso; omega) | (exact absurd rfl hb) | skip))
        | apply awp_block
        | apply awp_skip
        | apply awp_exit
        | apply awp_ret'
        | ((first | (apply ops_cons; exact rfl) | (apply ops_yes; exact rfl; exact rfl; exact rfl)); first | (apply QOk.ok; first | refine st_neagg ns_ok (by kernel_rfl) rfl rfl rfl rfl rfl rfl rfl rfl ?_) | refine st_call (hz) rfl rfl rfl rfl rfl ?_ | refine st_call (toDueS_e (l := l) (by omega)) rfl rfl rfl rfl rfl ?_ | refine st_call (heapAll_s0 (L := l) (by omega) hk) rfl rfl rfl rfl rfl ?_ | refine st_call (heapAll_e0 (L := l) (by omega) hk) rfl rfl rfl rfl rfl ?_ | refine st_call (eqDueS_r (l := []) (Nat.zero_le _)) rfl rfl rfl rfl rfl ?_ | refine st_call (eqDueS_r (l := l) (by omega)) rfl rfl rfl rfl rfl ?_ | refine st_call (markDueS_0 (k := 1)) rfl rfl rfl rfl rfl ?_ | refine st_call (heldDueS_e (n := 0) (k := 1) (by omega) (by omega)) rfl rfl rfl rfl rfl ?_ | refine st_callm [20] (markDueS_m (l := l) (k := 1) (by omega) (by omega)) rfl rfl rfl rfl rfl (fun _ _ => rfl) rfl (fun i hi => ?_); (try dsimp only at hi))
        | ((apply ops_gsplit; exact rfl; exact rfl; (fail_if_success exact (rfl : _ = AV.d (.b true))); (fail_if_success exact (rfl : _ = AV.d (.b false))); exact rfl) <;> intro hb <;> (first | rw [inB_t] at hb | rw [inB_f] at hb | rw [inB_nt] at hb | rw [inB_nf] at hb | rw [decide_eq_true_eq] at hb | rw [decide_eq_false_iff_not] at hb | rw [beq_iff_eq] at hb | rw [beq_eq_false_iff_ne] at hb | rw [Bool.not_eq_true'] at hb | rw [Bool.not_eq_false'] at hb | rw [bne_iff_ne] at hb | rw [bne_eq_false_iff_eq] at hb | skip) <;> (first | (exfalso; omega) | (exact absurd rfl hb) | skip))
        )
      all_goals
        refine Stop.mk ?_
        refine ret_intro [] rfl rfl ?_ ?_
        repeat' (first
          | apply And.intro
          | (apply eq_b; exact rfl; exact Stop.mk (by with_reducible rfl))
          | (apply eq_b; exact rfl)
          | (apply eq_n; exact rfl; exact Stop.mk (by first | with_reducible rfl | omega))
          | (apply eq_n; exact rfl)
          | (apply eq_s; exact rfl; exact Stop.mk (by with_reducible rfl))
          | (apply eq_s; exact rfl)
          | (apply eq_sl; exact rfl; exact Stop.mk (by with_reducible rfl))
          | (apply eq_sl; exact rfl)
          | (apply eq_row; exact rfl; exact Stop.mk (by with_reducible rfl))
          | (apply eq_row; exact rfl)
          | (apply eq_agg; exact rfl)
          | (apply eq_cons; exact rfl)
          | (apply eq_boxo; exact rfl)
          | (apply cell_agg; exact rfl; exact rfl; exact rfl)
          | (apply cell_one; exact rfl; exact rfl)
          | exact rfl
          | trivial
          )
end Go.Proofs.Ythmajaeekkbnnaa
