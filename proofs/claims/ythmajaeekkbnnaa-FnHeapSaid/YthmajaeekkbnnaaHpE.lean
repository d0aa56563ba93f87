/-
  HeapAll, both; its law, without its argument.
-/
import Derived.Test.YthmajaeekkbnnaaSh
import Derived.Test.YthmajaeekkbnnaaHpD
namespace Go.Proofs.Ythmajaeekkbnnaa
open Go Go.RowKit
attribute [local irreducible] AWp OpsOk OpOk ACalls ChA QsOk MCalls

theorem dueE_snoc {l : List Due} {d : Due} : dueE l ++ [[.n .i64 d.a, .n .i64 d.i]] = dueE (l ++ [d]) := by simp [dueE]
abbrev allOf (L : List Due) : List Due := allD L.length L
theorem allOf_cons {l : List Due} (h : 0 < l.length) : allOf l = nth l 0 :: allOf (popD l) := by
  cases l with
  | nil => cases h
  | cons d r =>
    have e : (popD (d :: r)).length = r.length := by rw [popD_length]; rfl
    simp only [allOf, List.length_cons, allD, e]
    rfl
theorem allOf_len {l : List Due} (h : heapOkB l = true) : (allOf l).length = l.length := (allD_perm l.length l (Nat.le_refl _) (heapOkB_iff.1 h).2.1).length_eq
/-- On the way: what is out and what is left. -/
def allAt (L : List Due) (l out : List Due) : Prop := heapOkB l = true ∧ out ++ allOf l = allOf L ∧ out.length + l.length = L.length
theorem allAt_next {L l out : List Due} (h : allAt L l out) (hn : 0 < l.length) : allAt L (popD l) (out ++ [nth l 0]) := by
  obtain ⟨h1, h2, h3⟩ := h
  refine ⟨popD_ok h1, ?_, by rw [popD_length, List.length_append, List.length_singleton]; omega⟩
  rw [← h2, allOf_cons hn]
  simp
theorem allAt_end {L l out : List Due} (h : allAt L l out) (hn : l.length = 0) : allOf L = out := by
  obtain ⟨h1, h2, h3⟩ := h
  rw [← h2, List.length_eq_zero_iff.1 hn]
  simp [allOf, allD]
set_option maxRecDepth 100000 in
set_option maxHeartbeats 4000000 in
theorem heapAll_e {L : List Due} (hok : heapOkB L = true) : ACalls Try.prog 63 [.d (.sl (dueE L))] [.row 0] [(0, .row 25 (dueE (allOf L)) true)] := by
  refine acalls_of tt Try.func63 rfl rfl rfl (fun w0 Z => ?_)
  have hl := (heapOkB_iff.1 hok).2.2
  have hc := heapOk_e (l := L) (by omega)
  rw [hok] at hc
  repeat' (first
    | apply awp_seq
    | (apply awp_regionN; exact rfl)
    | (refine Hb.mk (fun hb => ?_); (first | rw [inB_t] at hb | rw [inB_f] at hb | rw [inB_nt] at hb | rw [inB_nf] at hb | rw [decide_eq_true_eq] at hb | rw [decide_eq_false_iff_not] at hb | rw [beq_iff_eq] at hb | rw [beq_eq_false_iff_ne] at hb | rw [Bool.not_eq_true'] at hb | rw [Bool.not_eq_false'] at hb | rw [bne_iff_ne] at hb | rw [bne_eq_false_iff_eq] at hb | skip); (first | (exfalso; omega) | (exact absurd rfl hb) | skip))
    | (apply aopG_ok; exact rfl)
    | apply ops_nil
    | (apply awp_cond_t; exact rfl)
    | (apply awp_cond_f; exact rfl)
    | (apply cond_x; exact rfl)
    | apply awp_block
    | apply awp_skip
    | apply awp_exit
    | apply awp_ret'
    | (first | (apply ops_cons; exact rfl) | (apply ops_yes; exact rfl; exact rfl; exact rfl))
    | (apply ops_x; exact rfl; exact rfl; (fail_if_success exact (rfl : _ = AV.d (.b true))); (fail_if_success exact (rfl : _ = AV.d (.b false))); exact rfl)
    | (apply op_id; first | refine zk32 rfl rfl rfl rfl rfl rfl rfl rfl rfl rfl rfl rfl ?_ | refine zk33 rfl rfl rfl rfl rfl rfl ⟨rfl, rfl, rfl⟩ rfl rfl ?_ | refine zk34 rfl rfl rfl rfl rfl ⟨rfl, rfl, rfl⟩ rfl rfl ?_ | refine zk35 rfl rfl rfl ⟨rfl, rfl, rfl⟩ rfl rfl rfl rfl rfl rfl rfl rfl rfl ?_ | refine st_call (hc) rfl rfl rfl rfl rfl ?_ | (apply qok_q; exact rfl))
    | (apply q_id; first | refine zk11 rfl rfl rfl rfl rfl ?_ | refine zk12 rfl rfl rfl rfl rfl (fun _ => ?_))
    )
  refine awp_loop (fun (x : List Due × List Due × Bool) => match x with | (l, out, true) => ⟨26, [(0, .d (.sl (dueE l))), (3, .row 10)], [(10, .row 25 (dueE out) true)]⟩ | (l, out, false) => ⟨26, [(0, .row 16), (3, .row 10)], [(16, .row 25 (dueE l) true), (10, .row 25 (dueE out) true)]⟩) (fun x => allAt L x.1 x.2.1) (fun x => x.1.length) (L, [], true) (by exact ⟨hok, rfl, by simp⟩) ?_ ?_
  · refine ⟨rfl, ?_, ?_, rfl⟩
    repeat' (first
      | apply And.intro
      | (apply eq_b; exact rfl; exact Stop.mk (by with_reducible rfl))
      | (apply eq_b; exact rfl)
      | (apply eq_n; exact rfl; exact Stop.mk (by first | with_reducible rfl | omega))
      | (apply eq_n; exact rfl)
      | (apply eq_s; exact rfl; exact Stop.mk (by with_reducible rfl))
      | (apply eq_s; exact rfl)
      | (apply eq_sl; exact rfl; exact Stop.mk (by with_reducible rfl))
      | (apply eq_sl; exact rfl)
      | (apply eq_row; exact rfl; exact Stop.mk (by with_reducible rfl))
      | (apply eq_row; exact rfl)
      | (apply eq_agg; exact rfl)
      | (apply eq_cons; exact rfl)
      | (apply eq_boxo; exact rfl)
      | (apply cell_agg; exact rfl; exact rfl; exact rfl)
      | (apply cell_one; exact rfl; exact rfl)
      | exact rfl
      | trivial
      )
    all_goals exact Stop.mk rfl
  · rintro ⟨l, out, fst⟩ hx
    have hol := hx.2.2
    have hlen : out.length ≤ 200 := by dsimp only at hol; omega
    by_cases hn : 0 < l.length
    · cases fst with
      | true =>
        dsimp only at hx hol
        repeat' (first
          | apply awp_seq
          | (apply awp_regionN; exact rfl)
          | (refine Hb.mk (fun hb => ?_); (first | rw [inB_t] at hb | rw [inB_f] at hb | rw [inB_nt] at hb | rw [inB_nf] at hb | rw [decide_eq_true_eq] at hb | rw [decide_eq_false_iff_not] at hb | rw [beq_iff_eq] at hb | rw [beq_eq_false_iff_ne] at hb | rw [Bool.not_eq_true'] at hb | rw [Bool.not_eq_false'] at hb | rw [bne_iff_ne] at hb | rw [bne_eq_false_iff_eq] at hb | skip); (first | (exfalso; omega) | (exact absurd rfl hb) | skip))
          | (apply aopG_ok; exact rfl)
          | apply ops_nil
          | (apply awp_cond_t; exact rfl)
          | (apply awp_cond_f; exact rfl)
          | (apply cond_x; exact rfl)
          | apply awp_block
          | apply awp_skip
          | apply awp_exit
          | apply awp_ret'
          | (first | (apply ops_cons; exact rfl) | (apply ops_yes; exact rfl; exact rfl; exact rfl))
          | (apply ops_x; exact rfl; exact rfl; (fail_if_success exact (rfl : _ = AV.d (.b true))); (fail_if_success exact (rfl : _ = AV.d (.b false))); exact rfl)
          | (apply op_id; first | refine zk32 rfl rfl rfl rfl rfl rfl rfl rfl rfl rfl rfl rfl ?_ | refine zk33 rfl rfl rfl rfl rfl rfl ⟨rfl, rfl, rfl⟩ rfl rfl ?_ | refine zk34 rfl rfl rfl rfl rfl ⟨rfl, rfl, rfl⟩ rfl rfl ?_ | refine zk35 rfl rfl rfl ⟨rfl, rfl, rfl⟩ rfl rfl rfl rfl rfl rfl rfl rfl rfl ?_ | refine st_call (heapPop_e hx.1 hn) rfl rfl rfl rfl rfl ?_ | (apply qok_q; exact rfl))
          | (apply q_id; first | refine zk11 rfl rfl rfl rfl rfl ?_ | refine zk12 rfl rfl rfl rfl rfl (fun _ => ?_))
          )
        refine ⟨(popD l, out ++ [nth l 0], false), allAt_next hx hn, by dsimp only; rw [popD_length]; omega, ?_⟩
        refine ⟨rfl, ?_, ?_, rfl⟩
        repeat' (first
          | apply And.intro
          | (apply eq_b; exact rfl; exact Stop.mk (by with_reducible rfl))
          | (apply eq_b; exact rfl)
          | (apply eq_n; exact rfl; exact Stop.mk (by first | with_reducible rfl | omega))
          | (apply eq_n; exact rfl)
          | (apply eq_s; exact rfl; exact Stop.mk (by with_reducible rfl))
          | (apply eq_s; exact rfl)
          | (apply eq_sl; exact rfl; exact Stop.mk (by with_reducible rfl))
          | (apply eq_sl; exact rfl)
          | (apply eq_row; exact rfl; exact Stop.mk (by with_reducible rfl))
          | (apply eq_row; exact rfl)
          | (apply eq_agg; exact rfl)
          | (apply eq_cons; exact rfl)
          | (apply eq_boxo; exact rfl)
          | (apply cell_agg; exact rfl; exact rfl; exact rfl)
          | (apply cell_one; exact rfl; exact rfl)
          | exact rfl
          | trivial
          )
        all_goals exact Stop.mk (by first | rfl | exact dueE_snoc)
      | false =>
        dsimp only at hx hol
        refine awp_frz 16 rfl ?_
        repeat' (first
          | apply awp_seq
          | (apply awp_regionN; exact rfl)
          | (refine Hb.mk (fun hb => ?_); (first | rw [inB_t] at hb | rw [inB_f] at hb | rw [inB_nt] at hb | rw [inB_nf] at hb | rw [decide_eq_true_eq] at hb | rw [decide_eq_false_iff_not] at hb | rw [beq_iff_eq] at hb | rw [beq_eq_false_iff_ne] at hb | rw [Bool.not_eq_true'] at hb | rw [Bool.not_eq_false'] at hb | rw [bne_iff_ne] at hb | rw [bne_eq_false_iff_eq] at hb | skip); (first | (exfalso; omega) | (exact absurd rfl hb) | skip))
          | (apply aopG_ok; exact rfl)
          | apply ops_nil
          | (apply awp_cond_t; exact rfl)
          | (apply awp_cond_f; exact rfl)
          | (apply cond_x; exact rfl)
          | apply awp_block
          | apply awp_skip
          | apply awp_exit
          | apply awp_ret'
          | (first | (apply ops_cons; exact rfl) | (apply ops_yes; exact rfl; exact rfl; exact rfl))
          | (apply ops_x; exact rfl; exact rfl; (fail_if_success exact (rfl : _ = AV.d (.b true))); (fail_if_success exact (rfl : _ = AV.d (.b false))); exact rfl)
          | (apply op_id; first | refine zk32 rfl rfl rfl rfl rfl rfl rfl rfl rfl rfl rfl rfl ?_ | refine zk33 rfl rfl rfl rfl rfl rfl ⟨rfl, rfl, rfl⟩ rfl rfl ?_ | refine zk34 rfl rfl rfl rfl rfl ⟨rfl, rfl, rfl⟩ rfl rfl ?_ | refine zk35 rfl rfl rfl ⟨rfl, rfl, rfl⟩ rfl rfl rfl rfl rfl rfl rfl rfl rfl ?_ | refine st_call (heapPop_e hx.1 hn) rfl rfl rfl rfl rfl ?_ | (apply qok_q; exact rfl))
          | (apply q_id; first | refine zk11 rfl rfl rfl rfl rfl ?_ | refine zk12 rfl rfl rfl rfl rfl (fun _ => ?_))
          )
        refine ⟨(popD l, out ++ [nth l 0], false), allAt_next hx hn, by dsimp only; rw [popD_length]; omega, ?_⟩
        refine ⟨rfl, ?_, ?_, rfl⟩
        repeat' (first
          | apply And.intro
          | (apply eq_b; exact rfl; exact Stop.mk (by with_reducible rfl))
          | (apply eq_b; exact rfl)
          | (apply eq_n; exact rfl; exact Stop.mk (by first | with_reducible rfl | omega))
          | (apply eq_n; exact rfl)
          | (apply eq_s; exact rfl; exact Stop.mk (by with_reducible rfl))
          | (apply eq_s; exact rfl)
          | (apply eq_sl; exact rfl; exact Stop.mk (by with_reducible rfl))
          | (apply eq_sl; exact rfl)
          | (apply eq_row; exact rfl; exact Stop.mk (by with_reducible rfl))
          | (apply eq_row; exact rfl)
          | (apply eq_agg; exact rfl)
          | (apply eq_cons; exact rfl)
          | (apply eq_boxo; exact rfl)
          | (apply cell_agg; exact rfl; exact rfl; exact rfl)
          | (apply cell_one; exact rfl; exact rfl)
          | exact rfl
          | trivial
          )
        all_goals exact Stop.mk (by first | rfl | exact dueE_snoc)
    · cases fst with
      | true =>
        dsimp only at hx hol
        repeat' (first
          | apply awp_seq
          | (apply awp_regionN; exact rfl)
          | (refine Hb.mk (fun hb => ?_); (first | rw [inB_t] at hb | rw [inB_f] at hb | rw [inB_nt] at hb | rw [inB_nf] at hb | rw [decide_eq_true_eq] at hb | rw [decide_eq_false_iff_not] at hb | rw [beq_iff_eq] at hb | rw [beq_eq_false_iff_ne] at hb | rw [Bool.not_eq_true'] at hb | rw [Bool.not_eq_false'] at hb | rw [bne_iff_ne] at hb | rw [bne_eq_false_iff_eq] at hb | skip); (first | (exfalso; omega) | (exact absurd rfl hb) | skip))
          | (apply aopG_ok; exact rfl)
          | apply ops_nil
          | (apply awp_cond_t; exact rfl)
          | (apply awp_cond_f; exact rfl)
          | (apply cond_x; exact rfl)
          | apply awp_block
          | apply awp_skip
          | apply awp_exit
          | apply awp_ret'
          | (first | (apply ops_cons; exact rfl) | (apply ops_yes; exact rfl; exact rfl; exact rfl))
          | (apply ops_x; exact rfl; exact rfl; (fail_if_success exact (rfl : _ = AV.d (.b true))); (fail_if_success exact (rfl : _ = AV.d (.b false))); exact rfl)
          | (apply op_id; first | refine zk32 rfl rfl rfl rfl rfl rfl rfl rfl rfl rfl rfl rfl ?_ | refine zk33 rfl rfl rfl rfl rfl rfl ⟨rfl, rfl, rfl⟩ rfl rfl ?_ | refine zk34 rfl rfl rfl rfl rfl ⟨rfl, rfl, rfl⟩ rfl rfl ?_ | refine zk35 rfl rfl rfl ⟨rfl, rfl, rfl⟩ rfl rfl rfl rfl rfl rfl rfl rfl rfl ?_ | (apply qok_q; exact rfl))
          | (apply q_id; first | refine zk11 rfl rfl rfl rfl rfl ?_ | refine zk12 rfl rfl rfl rfl rfl (fun _ => ?_))
          )
        rw [allAt_end hx (by omega)]
        refine Stop.mk ?_
        refine ret_intro [10] rfl rfl ?_ ?_
        repeat' (first
          | apply And.intro
          | (apply eq_b; exact rfl; exact Stop.mk (by with_reducible rfl))
          | (apply eq_b; exact rfl)
          | (apply eq_n; exact rfl; exact Stop.mk (by first | with_reducible rfl | omega))
          | (apply eq_n; exact rfl)
          | (apply eq_s; exact rfl; exact Stop.mk (by with_reducible rfl))
          | (apply eq_s; exact rfl)
          | (apply eq_sl; exact rfl; exact Stop.mk (by with_reducible rfl))
          | (apply eq_sl; exact rfl)
          | (apply eq_row; exact rfl; exact Stop.mk (by with_reducible rfl))
          | (apply eq_row; exact rfl)
          | (apply eq_agg; exact rfl)
          | (apply eq_cons; exact rfl)
          | (apply eq_boxo; exact rfl)
          | (apply cell_agg; exact rfl; exact rfl; exact rfl)
          | (apply cell_one; exact rfl; exact rfl)
          | exact rfl
          | trivial
          )
        all_goals exact Stop.mk rfl
      | false =>
        dsimp only at hx hol
        repeat' (first
          | apply awp_seq
          | (apply awp_regionN; exact rfl)
          | (refine Hb.mk (fun hb => ?_); (first | rw [inB_t] at hb | rw [inB_f] at hb | rw [inB_nt] at hb | rw [inB_nf] at hb | rw [decide_eq_true_eq] at hb | rw [decide_eq_false_iff_not] at hb | rw [beq_iff_eq] at hb | rw [beq_eq_false_iff_ne] at hb | rw [Bool.not_eq_true'] at hb | rw [Bool.not_eq_false'] at hb | rw [bne_iff_ne] at hb | rw [bne_eq_false_iff_eq] at hb | skip); (first | (exfalso; omega) | (exact absurd rfl hb) | skip))
          | (apply aopG_ok; exact rfl)
          | apply ops_nil
          | (apply awp_cond_t; exact rfl)
          | (apply awp_cond_f; exact rfl)
          | (apply cond_x; exact rfl)
          | apply awp_block
          | apply awp_skip
          | apply awp_exit
          | apply awp_ret'
          | (first | (apply ops_cons; exact rfl) | (apply ops_yes; exact rfl; exact rfl; exact rfl))
          | (apply ops_x; exact rfl; exact rfl; (fail_if_success exact (rfl : _ = AV.d (.b true))); (fail_if_success exact (rfl : _ = AV.d (.b false))); exact rfl)
          | (apply op_id; first | refine zk32 rfl rfl rfl rfl rfl rfl rfl rfl rfl rfl rfl rfl ?_ | refine zk33 rfl rfl rfl rfl rfl rfl ⟨rfl, rfl, rfl⟩ rfl rfl ?_ | refine zk34 rfl rfl rfl rfl rfl ⟨rfl, rfl, rfl⟩ rfl rfl ?_ | refine zk35 rfl rfl rfl ⟨rfl, rfl, rfl⟩ rfl rfl rfl rfl rfl rfl rfl rfl rfl ?_ | (apply qok_q; exact rfl))
          | (apply q_id; first | refine zk11 rfl rfl rfl rfl rfl ?_ | refine zk12 rfl rfl rfl rfl rfl (fun _ => ?_))
          )
        rw [allAt_end hx (by omega)]
        refine Stop.mk ?_
        refine ret_intro [10] rfl rfl ?_ ?_
        repeat' (first
          | apply And.intro
          | (apply eq_b; exact rfl; exact Stop.mk (by with_reducible rfl))
          | (apply eq_b; exact rfl)
          | (apply eq_n; exact rfl; exact Stop.mk (by first | with_reducible rfl | omega))
          | (apply eq_n; exact rfl)
          | (apply eq_s; exact rfl; exact Stop.mk (by with_reducible rfl))
          | (apply eq_s; exact rfl)
          | (apply eq_sl; exact rfl; exact Stop.mk (by with_reducible rfl))
          | (apply eq_sl; exact rfl)
          | (apply eq_row; exact rfl; exact Stop.mk (by with_reducible rfl))
          | (apply eq_row; exact rfl)
          | (apply eq_agg; exact rfl)
          | (apply eq_cons; exact rfl)
          | (apply eq_boxo; exact rfl)
          | (apply cell_agg; exact rfl; exact rfl; exact rfl)
          | (apply cell_one; exact rfl; exact rfl)
          | exact rfl
          | trivial
          )
        all_goals exact Stop.mk rfl
set_option maxRecDepth 100000 in
theorem heapAll_e0 {L : List Due} (hl : L.length ≤ 1000000000) (hok : heapOkB L = false) : ACalls Try.prog 63 [.d (.sl (dueE L))] [.nil] [] := by
  refine acalls_of tt Try.func63 rfl rfl rfl (fun w0 Z => ?_)
  have hc := heapOk_e (l := L) hl
  rw [hok] at hc
  repeat' (first
    | apply awp_seq
    | (apply awp_regionN; exact rfl)
    | (refine Hb.mk (fun hb => ?_); (first | rw [inB_t] at hb | rw [inB_f] at hb | rw [inB_nt] at hb | rw [inB_nf] at hb | rw [decide_eq_true_eq] at hb | rw [decide_eq_false_iff_not] at hb | rw [beq_iff_eq] at hb | rw [beq_eq_false_iff_ne] at hb | rw [Bool.not_eq_true'] at hb | rw [Bool.not_eq_false'] at hb | rw [bne_iff_ne] at hb | rw [bne_eq_false_iff_eq] at hb | skip); (first | (exfalso; omega) | (exact absurd rfl hb) | skip))
    | (apply aopG_ok; exact rfl)
    | apply ops_nil
    | (apply awp_cond_t; exact rfl)
    | (apply awp_cond_f; exact rfl)
    | (apply cond_x; exact rfl)
    | apply awp_block
    | apply awp_skip
    | apply awp_exit
    | apply awp_ret'
    | (first | (apply ops_cons; exact rfl) | (apply ops_yes; exact rfl; exact rfl; exact rfl))
    | (apply ops_x; exact rfl; exact rfl; (fail_if_success exact (rfl : _ = AV.d (.b true))); (fail_if_success exact (rfl : _ = AV.d (.b false))); exact rfl)
    | (apply op_id; first | refine zk32 rfl rfl rfl rfl rfl rfl rfl rfl rfl rfl rfl rfl ?_ | refine zk33 rfl rfl rfl rfl rfl rfl ⟨rfl, rfl, rfl⟩ rfl rfl ?_ | refine zk34 rfl rfl rfl rfl rfl ⟨rfl, rfl, rfl⟩ rfl rfl ?_ | refine zk35 rfl rfl rfl ⟨rfl, rfl, rfl⟩ rfl rfl rfl rfl rfl rfl rfl rfl rfl ?_ | refine st_call (hc) rfl rfl rfl rfl rfl ?_ | (apply qok_q; exact rfl))
    | (apply q_id; first | refine zk11 rfl rfl rfl rfl rfl ?_ | refine zk12 rfl rfl rfl rfl rfl (fun _ => ?_))
    )
  refine Stop.mk ?_
  refine ret_intro [] rfl rfl ?_ ?_
  repeat' (first
    | apply And.intro
    | (apply eq_b; exact rfl; exact Stop.mk (by with_reducible rfl))
    | (apply eq_b; exact rfl)
    | (apply eq_n; exact rfl; exact Stop.mk (by first | with_reducible rfl | omega))
    | (apply eq_n; exact rfl)
    | (apply eq_s; exact rfl; exact Stop.mk (by with_reducible rfl))
    | (apply eq_s; exact rfl)
    | (apply eq_sl; exact rfl; exact Stop.mk (by with_reducible rfl))
    | (apply eq_sl; exact rfl)
    | (apply eq_row; exact rfl; exact Stop.mk (by with_reducible rfl))
    | (apply eq_row; exact rfl)
    | (apply eq_agg; exact rfl)
    | (apply eq_cons; exact rfl)
    | (apply eq_boxo; exact rfl)
    | (apply cell_agg; exact rfl; exact rfl; exact rfl)
    | (apply cell_one; exact rfl; exact rfl)
    | exact rfl
    | trivial
    )
  all_goals exact Stop.mk rfl
end Go.Proofs.Ythmajaeekkbnnaa
