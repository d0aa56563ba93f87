/-
  The law FnHeap, without its argument: what a heap tells comes in order and is what was put into it.
-/
import Derived.Test.YthmajaeekkbnnaaSh
import Derived.Test.YthmajaeekkbnnaaHpH
import Derived.Test.YthmajaeekkbnnaaHpE
namespace Go.Proofs.Ythmajaeekkbnnaa
open Go Go.RowKit
attribute [local irreducible] AWp OpsOk OpOk ACalls ChA QsOk MCalls

def eqDB (y x : Due) : Bool := (y.a == x.a) && ((y.i == x.i) && true)
/-- How often, among the first k. -/
def cp (L : List Due) (x : Due) (k : Nat) : Nat := (L.take k).countP fun y => eqDB y x
theorem cp_succ {L : List Due} {x : Due} {k : Nat} (hk : k < L.length) : cp L x (k + 1) = cp L x k + if eqDB (nth L k) x = true then 1 else 0 := by
  unfold cp
  have e : nth L k = L[k] := by simp [nth, List.getD, hk]
  rw [e, List.take_add_one, List.getElem?_eq_getElem hk, List.countP_append]
  simp [List.countP_cons]
theorem cp_yes {L : List Due} {x : Due} {k : Nat} (hk : k < L.length) (h : eqDB (nth L k) x = true) : cp L x (k + 1) = cp L x k + 1 := by rw [cp_succ hk, if_pos h]
theorem cp_no {L : List Due} {x : Due} {k : Nat} (hk : k < L.length) (h : eqDB (nth L k) x = false) : cp L x (k + 1) = cp L x k := by rw [cp_succ hk, if_neg (by rw [h]; decide)]; rfl
theorem cp_le (L : List Due) (x : Due) (k : Nat) : cp L x k ≤ k := by
  unfold cp
  refine Nat.le_trans List.countP_le_length ?_
  rw [List.length_take]
  exact Nat.min_le_left _ _
theorem cp_end {L M : List Due} (h : L.Perm M) (x : Due) : cp L x L.length = cp M x M.length := by
  unfold cp
  rw [List.take_length, List.take_length]
  exact h.countP_eq _
theorem ofF_perm {L : List Due} : ∀ {i : Nat} {out : List Due}, i ≤ L.length → ofF L i = some out → out.Perm (L.take i) := by
  intro i
  induction i with
  | zero =>
    intro out _ h
    injection h with h
    subst h
    exact List.Perm.refl _
  | succ i ih =>
    intro out hi h
    rw [ofF] at h
    cases hq : ofF L i with
    | none => rw [hq] at h; cases h
    | some l =>
      rw [hq] at h
      unfold ofStep at h
      simp only at h
      split at h
      · injection h with h
        subst h
        obtain ⟨_, h2⟩ := @pushD_HP (nth L i) l (heapOkB_iff.1 (ofF_len hq).1).2.1
        refine h2.trans ?_
        have e : L.take (i + 1) = L.take i ++ [nth L i] := by
          have hi' : i < L.length := by omega
          rw [List.take_add_one, List.getElem?_eq_getElem hi']
          simp [nth, List.getD, hi']
        rw [e]
        exact (ih (by omega) hq).append_right _
      · cases h
theorem all_perm {L H : List Due} (h : heapOfF L = some H) : (allOf H).Perm L := by
  have h1 := ofF_perm (Nat.le_refl _) h
  rw [List.take_length] at h1
  exact (allD_perm H.length H (Nat.le_refl _) (heapOkB_iff.1 (ofF_len h).1).2.1).trans h1
theorem all_ord {L H : List Due} (h : heapOfF L = some H) {i : Nat} (h0 : 0 < i) (hi : i < (allOf H).length) : dueFirst (nth (allOf H) i) (nth (allOf H) (i - 1)) = false := by
  have h1 := allD_sorted H.length H (Nat.le_refl _) (heapOkB_iff.1 (ofF_len h).1).2.1
  rw [List.pairwise_iff_getElem] at h1
  have h2 := h1 (i - 1) i (by change i - 1 < (allOf H).length; omega) hi (by omega)
  have e : ∀ {j : Nat} (hj : j < (allOf H).length), nth (allOf H) j = (allOf H)[j] := fun hj => by simp [nth, List.getD, hj]
  rw [e hi, e (j := i - 1) (by change i - 1 < (allOf H).length; omega)]
  exact h2
abbrev hpS (l H : List Due) (k : List (Nat × AV)) : AS := ⟨103, [(3, .row 17), (4, .row 20), (8, .row 37)] ++ k, [(17, .row 25 (dueE l) true), (20, .row 25 (dueE H) true), (37, .row 25 (dueE (allOf H)) true)]⟩
set_option maxRecDepth 100000 in
set_option maxHeartbeats 4000000 in
theorem lawHeap_e {b : List UInt8} : ACalls Try.prog 15 [.d (.sl (byteE b))] [.d (.b true)] [] := by
  refine acalls_of tt Try.func15 rfl rfl rfl (fun w0 Z => ?_)
  by_cases hL : b.length ≤ 1048576
  · repeat' (first
      | apply awp_seq
      | (apply awp_regionN; exact rfl)
      | (refine Hb.mk (fun hb => ?_); (first | rw [inB_t] at hb | rw [inB_f] at hb | rw [inB_nt] at hb | rw [inB_nf] at hb | rw [decide_eq_true_eq] at hb | rw [decide_eq_false_iff_not] at hb | rw [beq_iff_eq] at hb | rw [beq_eq_false_iff_ne] at hb | rw [Bool.not_eq_true'] at hb | rw [Bool.not_eq_false'] at hb | rw [bne_iff_ne] at hb | rw [bne_eq_false_iff_eq] at hb | skip); (first | (exfalso; omega) | (exact absurd rfl hb) | skip))
      | (apply aopG_ok; exact rfl)
      | apply ops_nil
      | (apply awp_drawq; exact rfl; kernel_rfl; kernel_rfl; exact rfl)
      | (apply awp_drawx; exact rfl; kernel_rfl; exact rfl)
      | (apply aopQ_ok; exact rfl)
      | apply qs_nil
      | (apply ch_nil; exact rfl)
      | (apply ch_cons; (· exact rfl); (· exact rfl); (· exact rfl); (· exact rfl); (· (intro w0 Z O; first | (apply aop_ok; exact rfl) | (apply QOk.ok; first | refine zk0 rfl rfl rfl rfl rfl ?_ | refine zk1 rfl rfl rfl rfl rfl ?_ | refine zk5 rfl rfl rfl rfl rfl ?_ | refine zk6 rfl rfl rfl rfl rfl ?_ | refine zk10 rfl rfl rfl rfl rfl ?_ | refine zk11 rfl rfl rfl rfl rfl ?_ | refine zk12 rfl rfl rfl rfl rfl (fun _ => ?_) | refine zk13 rfl rfl rfl rfl rfl rfl rfl ?_ | refine zk14 rfl rfl rfl rfl rfl rfl rfl ?_ | refine zk19 rfl rfl rfl rfl rfl ?_ | refine zk28 ns_ok rfl rfl rfl rfl rfl rfl rfl rfl ?_ | refine zk29 ns_ok rfl rfl rfl rfl rfl rfl rfl rfl ?_ | refine zk30 rfl rfl rfl rfl rfl rfl rfl ?_ | refine zk31 rfl rfl rfl rfl rfl rfl rfl rfl ?_) | refine zk38 rfl rfl rfl rfl rfl rfl rfl rfl rfl rfl ?_ | refine st_callm [] (drawHeapOf_c hL) rfl rfl rfl rfl rfl (fun _ _ => rfl) rfl (fun i hi => ?_); (try dsimp only at hi)); exact ⟨rfl, rfl, rfl⟩); (· exact rfl); (· exact rfl); (· (repeat' (first | apply And.intro | exact Or.inl rfl | exact Or.inr ⟨rfl, rfl⟩ | exact trivial))); (· (repeat' (first | apply And.intro | exact trivial | exact rfl | exact flatE_map (fun _ => rfl) | apply flatE_app))); (· exact rfl); (· exact rfl); (· exact rfl); (· exact rfl))
      | (apply awp_cond_t; exact rfl)
      | (apply awp_cond_f; exact rfl)
      | (apply cond_x; exact rfl)
      | apply awp_block
      | apply awp_skip
      | apply awp_exit
      | apply awp_ret'
      | (first | (apply ops_cons; exact rfl) | (apply ops_yes; exact rfl; exact rfl; exact rfl))
      | (apply ops_x; exact rfl; exact rfl; (fail_if_success exact (rfl : _ = AV.d (.b true))); (fail_if_success exact (rfl : _ = AV.d (.b false))); exact rfl)
      | (first | (apply qs_cons; exact rfl) | (apply qs_yes; exact rfl; exact rfl; exact rfl))
      | (apply qs_x; exact rfl; exact rfl; (fail_if_success exact (rfl : _ = AV.d (.b true))); (fail_if_success exact (rfl : _ = AV.d (.b false))); exact rfl)
      | (apply op_id; first | refine zk38 rfl rfl rfl rfl rfl rfl rfl rfl rfl rfl ?_ | (refine st_callm [] (drawHeapOf_c hL) rfl rfl rfl rfl rfl (fun _ _ => rfl) rfl (fun i hi => ?_); (try dsimp only at hi)) | (apply qok_q; exact rfl))
      | (apply q_id; first | refine zk0 rfl rfl rfl rfl rfl ?_ | refine zk1 rfl rfl rfl rfl rfl ?_ | refine zk5 rfl rfl rfl rfl rfl ?_ | refine zk6 rfl rfl rfl rfl rfl ?_ | refine zk10 rfl rfl rfl rfl rfl ?_ | refine zk11 rfl rfl rfl rfl rfl ?_ | refine zk12 rfl rfl rfl rfl rfl (fun _ => ?_) | refine zk13 rfl rfl rfl rfl rfl rfl rfl ?_ | refine zk14 rfl rfl rfl rfl rfl rfl rfl ?_ | refine zk19 rfl rfl rfl rfl rfl ?_ | refine zk28 ns_ok rfl rfl rfl rfl rfl rfl rfl rfl ?_ | refine zk29 ns_ok rfl rfl rfl rfl rfl rfl rfl rfl ?_ | refine zk30 rfl rfl rfl rfl rfl rfl rfl ?_ | refine zk31 rfl rfl rfl rfl rfl rfl rfl rfl ?_)
      )
    obtain ⟨l, rfl⟩ : ∃ l, l = i := ⟨i, rfl⟩
    cases h : heapOfF l with
    | none =>
      repeat' (first
        | apply awp_seq
        | (apply awp_regionN; exact rfl)
        | (refine Hb.mk (fun hb => ?_); (first | rw [inB_t] at hb | rw [inB_f] at hb | rw [inB_nt] at hb | rw [inB_nf] at hb | rw [decide_eq_true_eq] at hb | rw [decide_eq_false_iff_not] at hb | rw [beq_iff_eq] at hb | rw [beq_eq_false_iff_ne] at hb | rw [Bool.not_eq_true'] at hb | rw [Bool.not_eq_false'] at hb | rw [bne_iff_ne] at hb | rw [bne_eq_false_iff_eq] at hb | skip); (first | (exfalso; omega) | (exact absurd rfl hb) | skip))
        | (apply aopG_ok; exact rfl)
        | apply ops_nil
        | (apply awp_drawq; exact rfl; kernel_rfl; kernel_rfl; exact rfl)
        | (apply awp_drawx; exact rfl; kernel_rfl; exact rfl)
        | (apply aopQ_ok; exact rfl)
        | apply qs_nil
        | (apply ch_nil; exact rfl)
        | (apply ch_cons; (· exact rfl); (· exact rfl); (· exact rfl); (· exact rfl); (· (intro w0 Z O; first | (apply aop_ok; exact rfl) | (apply QOk.ok; first | refine zk0 rfl rfl rfl rfl rfl ?_ | refine zk1 rfl rfl rfl rfl rfl ?_ | refine zk5 rfl rfl rfl rfl rfl ?_ | refine zk6 rfl rfl rfl rfl rfl ?_ | refine zk10 rfl rfl rfl rfl rfl ?_ | refine zk11 rfl rfl rfl rfl rfl ?_ | refine zk12 rfl rfl rfl rfl rfl (fun _ => ?_) | refine zk13 rfl rfl rfl rfl rfl rfl rfl ?_ | refine zk14 rfl rfl rfl rfl rfl rfl rfl ?_ | refine zk19 rfl rfl rfl rfl rfl ?_ | refine zk28 ns_ok rfl rfl rfl rfl rfl rfl rfl rfl ?_ | refine zk29 ns_ok rfl rfl rfl rfl rfl rfl rfl rfl ?_ | refine zk30 rfl rfl rfl rfl rfl rfl rfl ?_ | refine zk31 rfl rfl rfl rfl rfl rfl rfl rfl ?_) | refine zk38 rfl rfl rfl rfl rfl rfl rfl rfl rfl rfl ?_ | refine st_call (heapOf_e0 (by omega) h) rfl rfl rfl rfl rfl ?_ | refine st_call (heapOf_s0 (by omega) h) rfl rfl rfl rfl rfl ?_); exact ⟨rfl, rfl, rfl⟩); (· exact rfl); (· exact rfl); (· (repeat' (first | apply And.intro | exact Or.inl rfl | exact Or.inr ⟨rfl, rfl⟩ | exact trivial))); (· (repeat' (first | apply And.intro | exact trivial | exact rfl | exact flatE_map (fun _ => rfl) | apply flatE_app))); (· exact rfl); (· exact rfl); (· exact rfl); (· exact rfl))
        | (apply awp_cond_t; exact rfl)
        | (apply awp_cond_f; exact rfl)
        | (apply cond_x; exact rfl)
        | apply awp_block
        | apply awp_skip
        | apply awp_exit
        | apply awp_ret'
        | (first | (apply ops_cons; exact rfl) | (apply ops_yes; exact rfl; exact rfl; exact rfl))
        | (apply ops_x; exact rfl; exact rfl; (fail_if_success exact (rfl : _ = AV.d (.b true))); (fail_if_success exact (rfl : _ = AV.d (.b false))); exact rfl)
        | (first | (apply qs_cons; exact rfl) | (apply qs_yes; exact rfl; exact rfl; exact rfl))
        | (apply qs_x; exact rfl; exact rfl; (fail_if_success exact (rfl : _ = AV.d (.b true))); (fail_if_success exact (rfl : _ = AV.d (.b false))); exact rfl)
        | (apply q_id; first | refine st_callq (heapOf_e0 (by omega) h) rfl rfl rfl rfl rfl ?_ | refine st_callq (heapOf_s0 (by omega) h) rfl rfl rfl rfl rfl ?_)
        | (apply op_id; first | refine zk38 rfl rfl rfl rfl rfl rfl rfl rfl rfl rfl ?_ | refine st_call (heapOf_e0 (by omega) h) rfl rfl rfl rfl rfl ?_ | refine st_call (heapOf_s0 (by omega) h) rfl rfl rfl rfl rfl ?_ | (apply qok_q; exact rfl))
        | (apply q_id; first | refine zk0 rfl rfl rfl rfl rfl ?_ | refine zk1 rfl rfl rfl rfl rfl ?_ | refine zk5 rfl rfl rfl rfl rfl ?_ | refine zk6 rfl rfl rfl rfl rfl ?_ | refine zk10 rfl rfl rfl rfl rfl ?_ | refine zk11 rfl rfl rfl rfl rfl ?_ | refine zk12 rfl rfl rfl rfl rfl (fun _ => ?_) | refine zk13 rfl rfl rfl rfl rfl rfl rfl ?_ | refine zk14 rfl rfl rfl rfl rfl rfl rfl ?_ | refine zk19 rfl rfl rfl rfl rfl ?_ | refine zk28 ns_ok rfl rfl rfl rfl rfl rfl rfl rfl ?_ | refine zk29 ns_ok rfl rfl rfl rfl rfl rfl rfl rfl ?_ | refine zk30 rfl rfl rfl rfl rfl rfl rfl ?_ | refine zk31 rfl rfl rfl rfl rfl rfl rfl rfl ?_)
        )
      refine Stop.mk ?_
      refine ret_intro [] rfl rfl ?_ ?_
      repeat' (first
        | apply And.intro
        | (apply eq_b; exact rfl; exact Stop.mk (by with_reducible rfl))
        | (apply eq_b; exact rfl)
        | (apply eq_n; exact rfl; exact Stop.mk (by first | with_reducible rfl | omega))
        | (apply eq_n; exact rfl)
        | (apply eq_s; exact rfl; exact Stop.mk (by with_reducible rfl))
        | (apply eq_s; exact rfl)
        | (apply eq_sl; exact rfl; exact Stop.mk (by with_reducible rfl))
        | (apply eq_sl; exact rfl)
        | (apply eq_row; exact rfl; exact Stop.mk (by with_reducible rfl))
        | (apply eq_row; exact rfl)
        | (apply eq_agg; exact rfl)
        | (apply eq_cons; exact rfl)
        | (apply eq_boxo; exact rfl)
        | (apply cell_agg; exact rfl; exact rfl; exact rfl)
        | (apply cell_one; exact rfl; exact rfl)
        | exact rfl
        | trivial
        )
      all_goals exact Stop.mk rfl
    | some H =>
      obtain ⟨hk, hl⟩ := ofF_len h
      have hp := all_perm h
      have hAl := hp.length_eq
      have hc := heapOk_e (l := H) (by omega)
      rw [hk] at hc
      repeat' (first
        | apply awp_seq
        | (apply awp_regionN; exact rfl)
        | (refine Hb.mk (fun hb => ?_); (first | rw [inB_t] at hb | rw [inB_f] at hb | rw [inB_nt] at hb | rw [inB_nf] at hb | rw [decide_eq_true_eq] at hb | rw [decide_eq_false_iff_not] at hb | rw [beq_iff_eq] at hb | rw [beq_eq_false_iff_ne] at hb | rw [Bool.not_eq_true'] at hb | rw [Bool.not_eq_false'] at hb | rw [bne_iff_ne] at hb | rw [bne_eq_false_iff_eq] at hb | skip); (first | (exfalso; omega) | (exact absurd rfl hb) | skip))
        | (apply aopG_ok; exact rfl)
        | apply ops_nil
        | (apply awp_drawq; exact rfl; kernel_rfl; kernel_rfl; exact rfl)
        | (apply awp_drawx; exact rfl; kernel_rfl; exact rfl)
        | (apply aopQ_ok; exact rfl)
        | apply qs_nil
        | (apply ch_nil; exact rfl)
        | (apply ch_cons; (· exact rfl); (· exact rfl); (· exact rfl); (· exact rfl); (· (intro w0 Z O; first | (apply aop_ok; exact rfl) | (apply QOk.ok; first | refine zk0 rfl rfl rfl rfl rfl ?_ | refine zk1 rfl rfl rfl rfl rfl ?_ | refine zk5 rfl rfl rfl rfl rfl ?_ | refine zk6 rfl rfl rfl rfl rfl ?_ | refine zk10 rfl rfl rfl rfl rfl ?_ | refine zk11 rfl rfl rfl rfl rfl ?_ | refine zk12 rfl rfl rfl rfl rfl (fun _ => ?_) | refine zk13 rfl rfl rfl rfl rfl rfl rfl ?_ | refine zk14 rfl rfl rfl rfl rfl rfl rfl ?_ | refine zk19 rfl rfl rfl rfl rfl ?_ | refine zk28 ns_ok rfl rfl rfl rfl rfl rfl rfl rfl ?_ | refine zk29 ns_ok rfl rfl rfl rfl rfl rfl rfl rfl ?_ | refine zk30 rfl rfl rfl rfl rfl rfl rfl ?_ | refine zk31 rfl rfl rfl rfl rfl rfl rfl rfl ?_) | refine zk38 rfl rfl rfl rfl rfl rfl rfl rfl rfl rfl ?_ | refine st_call (heapOf_e (by omega) h) rfl rfl rfl rfl rfl ?_ | refine st_call (heapOf_s (by omega) h) rfl rfl rfl rfl rfl ?_ | refine st_call (heapAll_e hk) rfl rfl rfl rfl rfl ?_); exact ⟨rfl, rfl, rfl⟩); (· exact rfl); (· exact rfl); (· (repeat' (first | apply And.intro | exact Or.inl rfl | exact Or.inr ⟨rfl, rfl⟩ | exact trivial))); (· (repeat' (first | apply And.intro | exact trivial | exact rfl | exact flatE_map (fun _ => rfl) | apply flatE_app))); (· exact rfl); (· exact rfl); (· exact rfl); (· exact rfl))
        | (apply awp_cond_t; exact rfl)
        | (apply awp_cond_f; exact rfl)
        | (apply cond_x; exact rfl)
        | apply awp_block
        | apply awp_skip
        | apply awp_exit
        | apply awp_ret'
        | (first | (apply ops_cons; exact rfl) | (apply ops_yes; exact rfl; exact rfl; exact rfl))
        | (apply ops_x; exact rfl; exact rfl; (fail_if_success exact (rfl : _ = AV.d (.b true))); (fail_if_success exact (rfl : _ = AV.d (.b false))); exact rfl)
        | (first | (apply qs_cons; exact rfl) | (apply qs_yes; exact rfl; exact rfl; exact rfl))
        | (apply qs_x; exact rfl; exact rfl; (fail_if_success exact (rfl : _ = AV.d (.b true))); (fail_if_success exact (rfl : _ = AV.d (.b false))); exact rfl)
        | (apply q_id; first | refine st_callq (heapOf_e (by omega) h) rfl rfl rfl rfl rfl ?_ | refine st_callq (heapOf_s (by omega) h) rfl rfl rfl rfl rfl ?_ | refine st_callq (heapAll_e hk) rfl rfl rfl rfl rfl ?_)
        | (apply op_id; first | refine zk38 rfl rfl rfl rfl rfl rfl rfl rfl rfl rfl ?_ | refine st_call (heapOf_e (by omega) h) rfl rfl rfl rfl rfl ?_ | refine st_call (heapOf_s (by omega) h) rfl rfl rfl rfl rfl ?_ | refine st_call (heapAll_e hk) rfl rfl rfl rfl rfl ?_ | (apply qok_q; exact rfl))
        | (apply q_id; first | refine zk0 rfl rfl rfl rfl rfl ?_ | refine zk1 rfl rfl rfl rfl rfl ?_ | refine zk5 rfl rfl rfl rfl rfl ?_ | refine zk6 rfl rfl rfl rfl rfl ?_ | refine zk10 rfl rfl rfl rfl rfl ?_ | refine zk11 rfl rfl rfl rfl rfl ?_ | refine zk12 rfl rfl rfl rfl rfl (fun _ => ?_) | refine zk13 rfl rfl rfl rfl rfl rfl rfl ?_ | refine zk14 rfl rfl rfl rfl rfl rfl rfl ?_ | refine zk19 rfl rfl rfl rfl rfl ?_ | refine zk28 ns_ok rfl rfl rfl rfl rfl rfl rfl rfl ?_ | refine zk29 ns_ok rfl rfl rfl rfl rfl rfl rfl rfl ?_ | refine zk30 rfl rfl rfl rfl rfl rfl rfl ?_ | refine zk31 rfl rfl rfl rfl rfl rfl rfl rfl ?_)
        )
      refine awp_loop (fun (i : Nat) => ⟨103, [(3, .row 17), (4, .row 20), (8, .row 37), (44, .d (.n .i64 ((allOf H).length : Nat))), (45, .d (.n .i64 i))], [(17, .row 25 (dueE l) true), (20, .row 25 (dueE H) true), (37, .row 25 (dueE (allOf H)) true)]⟩) (fun i => i ≤ (allOf H).length) (fun i => (allOf H).length - i) 0 (Nat.zero_le _) ?_ ?_
      · refine ⟨rfl, ?_, ?_, rfl⟩
        repeat' (first
          | apply And.intro
          | (apply eq_b; exact rfl; exact Stop.mk (by with_reducible rfl))
          | (apply eq_b; exact rfl)
          | (apply eq_n; exact rfl; exact Stop.mk (by first | with_reducible rfl | omega))
          | (apply eq_n; exact rfl)
          | (apply eq_s; exact rfl; exact Stop.mk (by with_reducible rfl))
          | (apply eq_s; exact rfl)
          | (apply eq_sl; exact rfl; exact Stop.mk (by with_reducible rfl))
          | (apply eq_sl; exact rfl)
          | (apply eq_row; exact rfl; exact Stop.mk (by with_reducible rfl))
          | (apply eq_row; exact rfl)
          | (apply eq_agg; exact rfl)
          | (apply eq_cons; exact rfl)
          | (apply eq_boxo; exact rfl)
          | (apply cell_agg; exact rfl; exact rfl; exact rfl)
          | (apply cell_one; exact rfl; exact rfl)
          | exact rfl
          | trivial
          )
        all_goals exact Stop.mk rfl
      · intro i hi
        repeat' (first
          | apply awp_seq
          | (apply awp_regionN; exact rfl)
          | (refine Hb.mk (fun hb => ?_); (first | rw [inB_t] at hb | rw [inB_f] at hb | rw [inB_nt] at hb | rw [inB_nf] at hb | rw [decide_eq_true_eq] at hb | rw [decide_eq_false_iff_not] at hb | rw [beq_iff_eq] at hb | rw [beq_eq_false_iff_ne] at hb | rw [Bool.not_eq_true'] at hb | rw [Bool.not_eq_false'] at hb | rw [bne_iff_ne] at hb | rw [bne_eq_false_iff_eq] at hb | skip); (first | (exfalso; omega) | (exact absurd rfl hb) | skip))
          | (apply aopG_ok; exact rfl)
          | apply ops_nil
          | (apply awp_drawq; exact rfl; kernel_rfl; kernel_rfl; exact rfl)
          | (apply awp_drawx; exact rfl; kernel_rfl; exact rfl)
          | (apply aopQ_ok; exact rfl)
          | apply qs_nil
          | (apply ch_nil; exact rfl)
          | (apply ch_cons; (· exact rfl); (· exact rfl); (· exact rfl); (· exact rfl); (· (intro w0 Z O; first | (apply aop_ok; exact rfl) | (apply QOk.ok; first | refine zk0 rfl rfl rfl rfl rfl ?_ | refine zk1 rfl rfl rfl rfl rfl ?_ | refine zk5 rfl rfl rfl rfl rfl ?_ | refine zk6 rfl rfl rfl rfl rfl ?_ | refine zk10 rfl rfl rfl rfl rfl ?_ | refine zk11 rfl rfl rfl rfl rfl ?_ | refine zk12 rfl rfl rfl rfl rfl (fun _ => ?_) | refine zk13 rfl rfl rfl rfl rfl rfl rfl ?_ | refine zk14 rfl rfl rfl rfl rfl rfl rfl ?_ | refine zk19 rfl rfl rfl rfl rfl ?_ | refine zk28 ns_ok rfl rfl rfl rfl rfl rfl rfl rfl ?_ | refine zk29 ns_ok rfl rfl rfl rfl rfl rfl rfl rfl ?_ | refine zk30 rfl rfl rfl rfl rfl rfl rfl ?_ | refine zk31 rfl rfl rfl rfl rfl rfl rfl rfl ?_) | refine zk38 rfl rfl rfl rfl rfl rfl rfl rfl rfl rfl ?_ | refine st_call (dueFirst_e) rfl rfl rfl rfl rfl ?_ | refine st_call (hc) rfl rfl rfl rfl rfl ?_); exact ⟨rfl, rfl, rfl⟩); (· exact rfl); (· exact rfl); (· (repeat' (first | apply And.intro | exact Or.inl rfl | exact Or.inr ⟨rfl, rfl⟩ | exact trivial))); (· (repeat' (first | apply And.intro | exact trivial | exact rfl | exact flatE_map (fun _ => rfl) | apply flatE_app))); (· exact rfl); (· exact rfl); (· exact rfl); (· exact rfl))
          | (apply awp_cond_t; exact rfl)
          | (apply awp_cond_f; exact rfl)
          | (apply cond_x; exact rfl)
          | apply awp_block
          | apply awp_skip
          | apply awp_exit
          | apply awp_ret'
          | (first | (apply ops_cons; exact rfl) | (apply ops_yes; exact rfl; exact rfl; exact rfl))
          | (apply ops_x; exact rfl; exact rfl; (fail_if_success exact (rfl : _ = AV.d (.b true))); (fail_if_success exact (rfl : _ = AV.d (.b false))); exact rfl)
          | (first | (apply qs_cons; exact rfl) | (apply qs_yes; exact rfl; exact rfl; exact rfl))
          | (apply qs_x; exact rfl; exact rfl; (fail_if_success exact (rfl : _ = AV.d (.b true))); (fail_if_success exact (rfl : _ = AV.d (.b false))); exact rfl)
          | (apply q_id; first | refine st_callq (dueFirst_e) rfl rfl rfl rfl rfl ?_ | refine st_callq (hc) rfl rfl rfl rfl rfl ?_)
          | (apply op_id; first | refine zk38 rfl rfl rfl rfl rfl rfl rfl rfl rfl rfl ?_ | refine st_call (dueFirst_e) rfl rfl rfl rfl rfl ?_ | refine st_call (hc) rfl rfl rfl rfl rfl ?_ | (apply qok_q; exact rfl))
          | (apply q_id; first | refine zk0 rfl rfl rfl rfl rfl ?_ | refine zk1 rfl rfl rfl rfl rfl ?_ | refine zk5 rfl rfl rfl rfl rfl ?_ | refine zk6 rfl rfl rfl rfl rfl ?_ | refine zk10 rfl rfl rfl rfl rfl ?_ | refine zk11 rfl rfl rfl rfl rfl ?_ | refine zk12 rfl rfl rfl rfl rfl (fun _ => ?_) | refine zk13 rfl rfl rfl rfl rfl rfl rfl ?_ | refine zk14 rfl rfl rfl rfl rfl rfl rfl ?_ | refine zk19 rfl rfl rfl rfl rfl ?_ | refine zk28 ns_ok rfl rfl rfl rfl rfl rfl rfl rfl ?_ | refine zk29 ns_ok rfl rfl rfl rfl rfl rfl rfl rfl ?_ | refine zk30 rfl rfl rfl rfl rfl rfl rfl ?_ | refine zk31 rfl rfl rfl rfl rfl rfl rfl rfl ?_)
          )
        · rw [all_ord h (by omega) (by omega)] at hb
          cases hb
        · refine awp_loop (fun (k : Nat) => ⟨103, [(3, .row 17), (4, .row 20), (8, .row 37), (9, .d (.n .i64 i)), (10, .d (.n .i64 (cp l (nth (allOf H) i) k : Nat))), (11, .d (.n .i64 (cp (allOf H) (nth (allOf H) i) k : Nat))), (44, .d (.n .i64 ((allOf H).length : Nat))), (45, .d (.n .i64 i)), (63, .d (.n .i64 (l.length : Nat))), (64, .d (.n .i64 k))], [(17, .row 25 (dueE l) true), (20, .row 25 (dueE H) true), (37, .row 25 (dueE (allOf H)) true)]⟩) (fun k => k ≤ l.length) (fun k => l.length - k) 0 (Nat.zero_le _) ?_ ?_
          · refine ⟨rfl, ?_, ?_, rfl⟩
            repeat' (first
              | apply And.intro
              | (apply eq_b; exact rfl; exact Stop.mk (by with_reducible rfl))
              | (apply eq_b; exact rfl)
              | (apply eq_n; exact rfl; exact Stop.mk (by first | with_reducible rfl | omega))
              | (apply eq_n; exact rfl)
              | (apply eq_s; exact rfl; exact Stop.mk (by with_reducible rfl))
              | (apply eq_s; exact rfl)
              | (apply eq_sl; exact rfl; exact Stop.mk (by with_reducible rfl))
              | (apply eq_sl; exact rfl)
              | (apply eq_row; exact rfl; exact Stop.mk (by with_reducible rfl))
              | (apply eq_row; exact rfl)
              | (apply eq_agg; exact rfl)
              | (apply eq_cons; exact rfl)
              | (apply eq_boxo; exact rfl)
              | (apply cell_agg; exact rfl; exact rfl; exact rfl)
              | (apply cell_one; exact rfl; exact rfl)
              | exact rfl
              | trivial
              )
            all_goals exact Stop.mk rfl
          · intro k hk
            have e1 := cp_le l (nth (allOf H) i) k
            have e2 := cp_le (allOf H) (nth (allOf H) i) k
            have e3 : k = l.length → cp l (nth (allOf H) i) k = cp (allOf H) (nth (allOf H) i) k := fun e => by
              have := cp_end hp (nth (allOf H) i)
              rw [e, ← this, hAl]
            repeat' (first
              | apply awp_seq
              | (apply awp_regionN; exact rfl)
              | (refine Hb.mk (fun hb => ?_); (first | rw [inB_t] at hb | rw [inB_f] at hb | rw [inB_nt] at hb | rw [inB_nf] at hb | rw [decide_eq_true_eq] at hb | rw [decide_eq_false_iff_not] at hb | rw [beq_iff_eq] at hb | rw [beq_eq_false_iff_ne] at hb | rw [Bool.not_eq_true'] at hb | rw [Bool.not_eq_false'] at hb | rw [bne_iff_ne] at hb | rw [bne_eq_false_iff_eq] at hb | skip); (first | (exfalso; omega) | (exact absurd rfl hb) | skip))
              | (apply aopG_ok; exact rfl)
              | apply ops_nil
              | (apply awp_drawq; exact rfl; kernel_rfl; kernel_rfl; exact rfl)
              | (apply awp_drawx; exact rfl; kernel_rfl; exact rfl)
              | (apply aopQ_ok; exact rfl)
              | apply qs_nil
              | (apply ch_nil; exact rfl)
              | (apply ch_cons; (· exact rfl); (· exact rfl); (· exact rfl); (· exact rfl); (· (intro w0 Z O; first | (apply aop_ok; exact rfl) | (apply QOk.ok; first | refine zk0 rfl rfl rfl rfl rfl ?_ | refine zk1 rfl rfl rfl rfl rfl ?_ | refine zk5 rfl rfl rfl rfl rfl ?_ | refine zk6 rfl rfl rfl rfl rfl ?_ | refine zk10 rfl rfl rfl rfl rfl ?_ | refine zk11 rfl rfl rfl rfl rfl ?_ | refine zk12 rfl rfl rfl rfl rfl (fun _ => ?_) | refine zk13 rfl rfl rfl rfl rfl rfl rfl ?_ | refine zk14 rfl rfl rfl rfl rfl rfl rfl ?_ | refine zk19 rfl rfl rfl rfl rfl ?_ | refine zk28 ns_ok rfl rfl rfl rfl rfl rfl rfl rfl ?_ | refine zk29 ns_ok rfl rfl rfl rfl rfl rfl rfl rfl ?_ | refine zk30 rfl rfl rfl rfl rfl rfl rfl ?_ | refine zk31 rfl rfl rfl rfl rfl rfl rfl rfl ?_) | refine zk38 rfl rfl rfl rfl rfl rfl rfl rfl rfl rfl ?_); exact ⟨rfl, rfl, rfl⟩); (· exact rfl); (· exact rfl); (· (repeat' (first | apply And.intro | exact Or.inl rfl | exact Or.inr ⟨rfl, rfl⟩ | exact trivial))); (· (repeat' (first | apply And.intro | exact trivial | exact rfl | exact flatE_map (fun _ => rfl) | apply flatE_app))); (· exact rfl); (· exact rfl); (· exact rfl); (· exact rfl))
              | (apply awp_cond_t; exact rfl)
              | (apply awp_cond_f; exact rfl)
              | (apply cond_x; exact rfl)
              | apply awp_block
              | apply awp_skip
              | apply awp_exit
              | apply awp_ret'
              | (first | (apply ops_cons; exact rfl) | (apply ops_yes; exact rfl; exact rfl; exact rfl))
              | (apply ops_x; exact rfl; exact rfl; (fail_if_success exact (rfl : _ = AV.d (.b true))); (fail_if_success exact (rfl : _ = AV.d (.b false))); exact rfl)
              | (first | (apply qs_cons; exact rfl) | (apply qs_yes; exact rfl; exact rfl; exact rfl))
              | (apply qs_x; exact rfl; exact rfl; (fail_if_success exact (rfl : _ = AV.d (.b true))); (fail_if_success exact (rfl : _ = AV.d (.b false))); exact rfl)
              | (apply op_id; first | refine zk38 rfl rfl rfl rfl rfl rfl rfl rfl rfl rfl ?_ | (apply qok_q; exact rfl))
              | (apply q_id; first | refine zk0 rfl rfl rfl rfl rfl ?_ | refine zk1 rfl rfl rfl rfl rfl ?_ | refine zk5 rfl rfl rfl rfl rfl ?_ | refine zk6 rfl rfl rfl rfl rfl ?_ | refine zk10 rfl rfl rfl rfl rfl ?_ | refine zk11 rfl rfl rfl rfl rfl ?_ | refine zk12 rfl rfl rfl rfl rfl (fun _ => ?_) | refine zk13 rfl rfl rfl rfl rfl rfl rfl ?_ | refine zk14 rfl rfl rfl rfl rfl rfl rfl ?_ | refine zk19 rfl rfl rfl rfl rfl ?_ | refine zk28 ns_ok rfl rfl rfl rfl rfl rfl rfl rfl ?_ | refine zk29 ns_ok rfl rfl rfl rfl rfl rfl rfl rfl ?_ | refine zk30 rfl rfl rfl rfl rfl rfl rfl ?_ | refine zk31 rfl rfl rfl rfl rfl rfl rfl rfl ?_)
              )
            rotate_left 4
            · refine ⟨i + 1, by omega, by omega, ?_⟩
              refine ⟨rfl, ?_, ?_, rfl⟩
              repeat' (first
                | apply And.intro
                | (apply eq_b; exact rfl; exact Stop.mk (by with_reducible rfl))
                | (apply eq_b; exact rfl)
                | (apply eq_n; exact rfl; exact Stop.mk (by first | with_reducible rfl | omega))
                | (apply eq_n; exact rfl)
                | (apply eq_s; exact rfl; exact Stop.mk (by with_reducible rfl))
                | (apply eq_s; exact rfl)
                | (apply eq_sl; exact rfl; exact Stop.mk (by with_reducible rfl))
                | (apply eq_sl; exact rfl)
                | (apply eq_row; exact rfl; exact Stop.mk (by with_reducible rfl))
                | (apply eq_row; exact rfl)
                | (apply eq_agg; exact rfl)
                | (apply eq_cons; exact rfl)
                | (apply eq_boxo; exact rfl)
                | (apply cell_agg; exact rfl; exact rfl; exact rfl)
                | (apply cell_one; exact rfl; exact rfl)
                | exact rfl
                | trivial
                )
              all_goals exact Stop.mk rfl
            all_goals
              first | have y1 := cp_yes (L := l) (x := nth (allOf H) i) (k := k) (by omega) (by assumption) | have y1 := cp_no (L := l) (x := nth (allOf H) i) (k := k) (by omega) (by assumption)
              first | have y2 := cp_yes (L := allOf H) (x := nth (allOf H) i) (k := k) (by omega) (by assumption) | have y2 := cp_no (L := allOf H) (x := nth (allOf H) i) (k := k) (by omega) (by assumption)
              refine ⟨k + 1, by omega, by omega, ?_⟩
              refine ⟨rfl, ?_, ?_, rfl⟩
              repeat' (first
                | apply And.intro
                | (apply eq_b; exact rfl; exact Stop.mk (by with_reducible rfl))
                | (apply eq_b; exact rfl)
                | (apply eq_n; exact rfl; exact Stop.mk (by first | with_reducible rfl | omega))
                | (apply eq_n; exact rfl)
                | (apply eq_s; exact rfl; exact Stop.mk (by with_reducible rfl))
                | (apply eq_s; exact rfl)
                | (apply eq_sl; exact rfl; exact Stop.mk (by with_reducible rfl))
                | (apply eq_sl; exact rfl)
                | (apply eq_row; exact rfl; exact Stop.mk (by with_reducible rfl))
                | (apply eq_row; exact rfl)
                | (apply eq_agg; exact rfl)
                | (apply eq_cons; exact rfl)
                | (apply eq_boxo; exact rfl)
                | (apply cell_agg; exact rfl; exact rfl; exact rfl)
                | (apply cell_one; exact rfl; exact rfl)
                | exact rfl
                | trivial
                )
              all_goals exact Stop.mk (by first | rfl | omega)
        · refine awp_loop (fun (k : Nat) => ⟨103, [(3, .row 17), (4, .row 20), (8, .row 37), (9, .d (.n .i64 i)), (10, .d (.n .i64 (cp l (nth (allOf H) i) k : Nat))), (11, .d (.n .i64 (cp (allOf H) (nth (allOf H) i) k : Nat))), (44, .d (.n .i64 ((allOf H).length : Nat))), (45, .d (.n .i64 i)), (63, .d (.n .i64 (l.length : Nat))), (64, .d (.n .i64 k))], [(17, .row 25 (dueE l) true), (20, .row 25 (dueE H) true), (37, .row 25 (dueE (allOf H)) true)]⟩) (fun k => k ≤ l.length) (fun k => l.length - k) 0 (Nat.zero_le _) ?_ ?_
          · refine ⟨rfl, ?_, ?_, rfl⟩
            repeat' (first
              | apply And.intro
              | (apply eq_b; exact rfl; exact Stop.mk (by with_reducible rfl))
              | (apply eq_b; exact rfl)
              | (apply eq_n; exact rfl; exact Stop.mk (by first | with_reducible rfl | omega))
              | (apply eq_n; exact rfl)
              | (apply eq_s; exact rfl; exact Stop.mk (by with_reducible rfl))
              | (apply eq_s; exact rfl)
              | (apply eq_sl; exact rfl; exact Stop.mk (by with_reducible rfl))
              | (apply eq_sl; exact rfl)
              | (apply eq_row; exact rfl; exact Stop.mk (by with_reducible rfl))
              | (apply eq_row; exact rfl)
              | (apply eq_agg; exact rfl)
              | (apply eq_cons; exact rfl)
              | (apply eq_boxo; exact rfl)
              | (apply cell_agg; exact rfl; exact rfl; exact rfl)
              | (apply cell_one; exact rfl; exact rfl)
              | exact rfl
              | trivial
              )
            all_goals exact Stop.mk rfl
          · intro k hk
            have e1 := cp_le l (nth (allOf H) i) k
            have e2 := cp_le (allOf H) (nth (allOf H) i) k
            have e3 : k = l.length → cp l (nth (allOf H) i) k = cp (allOf H) (nth (allOf H) i) k := fun e => by
              have := cp_end hp (nth (allOf H) i)
              rw [e, ← this, hAl]
            repeat' (first
              | apply awp_seq
              | (apply awp_regionN; exact rfl)
              | (refine Hb.mk (fun hb => ?_); (first | rw [inB_t] at hb | rw [inB_f] at hb | rw [inB_nt] at hb | rw [inB_nf] at hb | rw [decide_eq_true_eq] at hb | rw [decide_eq_false_iff_not] at hb | rw [beq_iff_eq] at hb | rw [beq_eq_false_iff_ne] at hb | rw [Bool.not_eq_true'] at hb | rw [Bool.not_eq_false'] at hb | rw [bne_iff_ne] at hb | rw [bne_eq_false_iff_eq] at hb | skip); (first | (exfalso; omega) | (exact absurd rfl hb) | skip))
              | (apply aopG_ok; exact rfl)
              | apply ops_nil
              | (apply awp_drawq; exact rfl; kernel_rfl; kernel_rfl; exact rfl)
              | (apply awp_drawx; exact rfl; kernel_rfl; exact rfl)
              | (apply aopQ_ok; exact rfl)
              | apply qs_nil
              | (apply ch_nil; exact rfl)
              | (apply ch_cons; (· exact rfl); (· exact rfl); (· exact rfl); (· exact rfl); (· (intro w0 Z O; first | (apply aop_ok; exact rfl) | (apply QOk.ok; first | refine zk0 rfl rfl rfl rfl rfl ?_ | refine zk1 rfl rfl rfl rfl rfl ?_ | refine zk5 rfl rfl rfl rfl rfl ?_ | refine zk6 rfl rfl rfl rfl rfl ?_ | refine zk10 rfl rfl rfl rfl rfl ?_ | refine zk11 rfl rfl rfl rfl rfl ?_ | refine zk12 rfl rfl rfl rfl rfl (fun _ => ?_) | refine zk13 rfl rfl rfl rfl rfl rfl rfl ?_ | refine zk14 rfl rfl rfl rfl rfl rfl rfl ?_ | refine zk19 rfl rfl rfl rfl rfl ?_ | refine zk28 ns_ok rfl rfl rfl rfl rfl rfl rfl rfl ?_ | refine zk29 ns_ok rfl rfl rfl rfl rfl rfl rfl rfl ?_ | refine zk30 rfl rfl rfl rfl rfl rfl rfl ?_ | refine zk31 rfl rfl rfl rfl rfl rfl rfl rfl ?_) | refine zk38 rfl rfl rfl rfl rfl rfl rfl rfl rfl rfl ?_); exact ⟨rfl, rfl, rfl⟩); (· exact rfl); (· exact rfl); (· (repeat' (first | apply And.intro | exact Or.inl rfl | exact Or.inr ⟨rfl, rfl⟩ | exact trivial))); (· (repeat' (first | apply And.intro | exact trivial | exact rfl | exact flatE_map (fun _ => rfl) | apply flatE_app))); (· exact rfl); (· exact rfl); (· exact rfl); (· exact rfl))
              | (apply awp_cond_t; exact rfl)
              | (apply awp_cond_f; exact rfl)
              | (apply cond_x; exact rfl)
              | apply awp_block
              | apply awp_skip
              | apply awp_exit
              | apply awp_ret'
              | (first | (apply ops_cons; exact rfl) | (apply ops_yes; exact rfl; exact rfl; exact rfl))
              | (apply ops_x; exact rfl; exact rfl; (fail_if_success exact (rfl : _ = AV.d (.b true))); (fail_if_success exact (rfl : _ = AV.d (.b false))); exact rfl)
              | (first | (apply qs_cons; exact rfl) | (apply qs_yes; exact rfl; exact rfl; exact rfl))
              | (apply qs_x; exact rfl; exact rfl; (fail_if_success exact (rfl : _ = AV.d (.b true))); (fail_if_success exact (rfl : _ = AV.d (.b false))); exact rfl)
              | (apply op_id; first | refine zk38 rfl rfl rfl rfl rfl rfl rfl rfl rfl rfl ?_ | (apply qok_q; exact rfl))
              | (apply q_id; first | refine zk0 rfl rfl rfl rfl rfl ?_ | refine zk1 rfl rfl rfl rfl rfl ?_ | refine zk5 rfl rfl rfl rfl rfl ?_ | refine zk6 rfl rfl rfl rfl rfl ?_ | refine zk10 rfl rfl rfl rfl rfl ?_ | refine zk11 rfl rfl rfl rfl rfl ?_ | refine zk12 rfl rfl rfl rfl rfl (fun _ => ?_) | refine zk13 rfl rfl rfl rfl rfl rfl rfl ?_ | refine zk14 rfl rfl rfl rfl rfl rfl rfl ?_ | refine zk19 rfl rfl rfl rfl rfl ?_ | refine zk28 ns_ok rfl rfl rfl rfl rfl rfl rfl rfl ?_ | refine zk29 ns_ok rfl rfl rfl rfl rfl rfl rfl rfl ?_ | refine zk30 rfl rfl rfl rfl rfl rfl rfl ?_ | refine zk31 rfl rfl rfl rfl rfl rfl rfl rfl ?_)
              )
            rotate_left 4
            · refine ⟨i + 1, by omega, by omega, ?_⟩
              refine ⟨rfl, ?_, ?_, rfl⟩
              repeat' (first
                | apply And.intro
                | (apply eq_b; exact rfl; exact Stop.mk (by with_reducible rfl))
                | (apply eq_b; exact rfl)
                | (apply eq_n; exact rfl; exact Stop.mk (by first | with_reducible rfl | omega))
                | (apply eq_n; exact rfl)
                | (apply eq_s; exact rfl; exact Stop.mk (by with_reducible rfl))
                | (apply eq_s; exact rfl)
                | (apply eq_sl; exact rfl; exact Stop.mk (by with_reducible rfl))
                | (apply eq_sl; exact rfl)
                | (apply eq_row; exact rfl; exact Stop.mk (by with_reducible rfl))
                | (apply eq_row; exact rfl)
                | (apply eq_agg; exact rfl)
                | (apply eq_cons; exact rfl)
                | (apply eq_boxo; exact rfl)
                | (apply cell_agg; exact rfl; exact rfl; exact rfl)
                | (apply cell_one; exact rfl; exact rfl)
                | exact rfl
                | trivial
                )
              all_goals exact Stop.mk rfl
            all_goals
              first | have y1 := cp_yes (L := l) (x := nth (allOf H) i) (k := k) (by omega) (by assumption) | have y1 := cp_no (L := l) (x := nth (allOf H) i) (k := k) (by omega) (by assumption)
              first | have y2 := cp_yes (L := allOf H) (x := nth (allOf H) i) (k := k) (by omega) (by assumption) | have y2 := cp_no (L := allOf H) (x := nth (allOf H) i) (k := k) (by omega) (by assumption)
              refine ⟨k + 1, by omega, by omega, ?_⟩
              refine ⟨rfl, ?_, ?_, rfl⟩
              repeat' (first
                | apply And.intro
                | (apply eq_b; exact rfl; exact Stop.mk (by with_reducible rfl))
                | (apply eq_b; exact rfl)
                | (apply eq_n; exact rfl; exact Stop.mk (by first | with_reducible rfl | omega))
                | (apply eq_n; exact rfl)
                | (apply eq_s; exact rfl; exact Stop.mk (by with_reducible rfl))
                | (apply eq_s; exact rfl)
                | (apply eq_sl; exact rfl; exact Stop.mk (by with_reducible rfl))
                | (apply eq_sl; exact rfl)
                | (apply eq_row; exact rfl; exact Stop.mk (by with_reducible rfl))
                | (apply eq_row; exact rfl)
                | (apply eq_agg; exact rfl)
                | (apply eq_cons; exact rfl)
                | (apply eq_boxo; exact rfl)
                | (apply cell_agg; exact rfl; exact rfl; exact rfl)
                | (apply cell_one; exact rfl; exact rfl)
                | exact rfl
                | trivial
                )
              all_goals exact Stop.mk (by first | rfl | omega)
        · refine Stop.mk ?_
          refine ret_intro [] rfl rfl ?_ ?_
          repeat' (first
            | apply And.intro
            | (apply eq_b; exact rfl; exact Stop.mk (by with_reducible rfl))
            | (apply eq_b; exact rfl)
            | (apply eq_n; exact rfl; exact Stop.mk (by first | with_reducible rfl | omega))
            | (apply eq_n; exact rfl)
            | (apply eq_s; exact rfl; exact Stop.mk (by with_reducible rfl))
            | (apply eq_s; exact rfl)
            | (apply eq_sl; exact rfl; exact Stop.mk (by with_reducible rfl))
            | (apply eq_sl; exact rfl)
            | (apply eq_row; exact rfl; exact Stop.mk (by with_reducible rfl))
            | (apply eq_row; exact rfl)
            | (apply eq_agg; exact rfl)
            | (apply eq_cons; exact rfl)
            | (apply eq_boxo; exact rfl)
            | (apply cell_agg; exact rfl; exact rfl; exact rfl)
            | (apply cell_one; exact rfl; exact rfl)
            | exact rfl
            | trivial
            )
          all_goals exact Stop.mk (by first | rfl | (simp; omega))
  · repeat' (first
      | apply awp_seq
      | (apply awp_regionN; exact rfl)
      | (refine Hb.mk (fun hb => ?_); (first | rw [inB_t] at hb | rw [inB_f] at hb | rw [inB_nt] at hb | rw [inB_nf] at hb | rw [decide_eq_true_eq] at hb | rw [decide_eq_false_iff_not] at hb | rw [beq_iff_eq] at hb | rw [beq_eq_false_iff_ne] at hb | rw [Bool.not_eq_true'] at hb | rw [Bool.not_eq_false'] at hb | rw [bne_iff_ne] at hb | rw [bne_eq_false_iff_eq] at hb | skip); (first | (exfalso; omega) | (exact absurd rfl hb) | skip))
      | (apply aopG_ok; exact rfl)
      | apply ops_nil
      | (apply awp_drawq; exact rfl; kernel_rfl; kernel_rfl; exact rfl)
      | (apply awp_drawx; exact rfl; kernel_rfl; exact rfl)
      | (apply aopQ_ok; exact rfl)
      | apply qs_nil
      | (apply ch_nil; exact rfl)
      | (apply ch_cons; (· exact rfl); (· exact rfl); (· exact rfl); (· exact rfl); (· (intro w0 Z O; first | (apply aop_ok; exact rfl) | (apply QOk.ok; first | refine zk0 rfl rfl rfl rfl rfl ?_ | refine zk1 rfl rfl rfl rfl rfl ?_ | refine zk5 rfl rfl rfl rfl rfl ?_ | refine zk6 rfl rfl rfl rfl rfl ?_ | refine zk10 rfl rfl rfl rfl rfl ?_ | refine zk11 rfl rfl rfl rfl rfl ?_ | refine zk12 rfl rfl rfl rfl rfl (fun _ => ?_) | refine zk13 rfl rfl rfl rfl rfl rfl rfl ?_ | refine zk14 rfl rfl rfl rfl rfl rfl rfl ?_ | refine zk19 rfl rfl rfl rfl rfl ?_ | refine zk28 ns_ok rfl rfl rfl rfl rfl rfl rfl rfl ?_ | refine zk29 ns_ok rfl rfl rfl rfl rfl rfl rfl rfl ?_ | refine zk30 rfl rfl rfl rfl rfl rfl rfl ?_ | refine zk31 rfl rfl rfl rfl rfl rfl rfl rfl ?_) | refine zk38 rfl rfl rfl rfl rfl rfl rfl rfl rfl rfl ?_); exact ⟨rfl, rfl, rfl⟩); (· exact rfl); (· exact rfl); (· (repeat' (first | apply And.intro | exact Or.inl rfl | exact Or.inr ⟨rfl, rfl⟩ | exact trivial))); (· (repeat' (first | apply And.intro | exact trivial | exact rfl | exact flatE_map (fun _ => rfl) | apply flatE_app))); (· exact rfl); (· exact rfl); (· exact rfl); (· exact rfl))
      | (apply awp_cond_t; exact rfl)
      | (apply awp_cond_f; exact rfl)
      | (apply cond_x; exact rfl)
      | apply awp_block
      | apply awp_skip
      | apply awp_exit
      | apply awp_ret'
      | (first | (apply ops_cons; exact rfl) | (apply ops_yes; exact rfl; exact rfl; exact rfl))
      | (apply ops_x; exact rfl; exact rfl; (fail_if_success exact (rfl : _ = AV.d (.b true))); (fail_if_success exact (rfl : _ = AV.d (.b false))); exact rfl)
      | (first | (apply qs_cons; exact rfl) | (apply qs_yes; exact rfl; exact rfl; exact rfl))
      | (apply qs_x; exact rfl; exact rfl; (fail_if_success exact (rfl : _ = AV.d (.b true))); (fail_if_success exact (rfl : _ = AV.d (.b false))); exact rfl)
      | (apply op_id; first | refine zk38 rfl rfl rfl rfl rfl rfl rfl rfl rfl rfl ?_ | (apply qok_q; exact rfl))
      | (apply q_id; first | refine zk0 rfl rfl rfl rfl rfl ?_ | refine zk1 rfl rfl rfl rfl rfl ?_ | refine zk5 rfl rfl rfl rfl rfl ?_ | refine zk6 rfl rfl rfl rfl rfl ?_ | refine zk10 rfl rfl rfl rfl rfl ?_ | refine zk11 rfl rfl rfl rfl rfl ?_ | refine zk12 rfl rfl rfl rfl rfl (fun _ => ?_) | refine zk13 rfl rfl rfl rfl rfl rfl rfl ?_ | refine zk14 rfl rfl rfl rfl rfl rfl rfl ?_ | refine zk19 rfl rfl rfl rfl rfl ?_ | refine zk28 ns_ok rfl rfl rfl rfl rfl rfl rfl rfl ?_ | refine zk29 ns_ok rfl rfl rfl rfl rfl rfl rfl rfl ?_ | refine zk30 rfl rfl rfl rfl rfl rfl rfl ?_ | refine zk31 rfl rfl rfl rfl rfl rfl rfl rfl ?_)
      )
    refine Stop.mk ?_
    refine ret_intro [] rfl rfl ?_ ?_
    repeat' (first
      | apply And.intro
      | (apply eq_b; exact rfl; exact Stop.mk (by with_reducible rfl))
      | (apply eq_b; exact rfl)
      | (apply eq_n; exact rfl; exact Stop.mk (by first | with_reducible rfl | omega))
      | (apply eq_n; exact rfl)
      | (apply eq_s; exact rfl; exact Stop.mk (by with_reducible rfl))
      | (apply eq_s; exact rfl)
      | (apply eq_sl; exact rfl; exact Stop.mk (by with_reducible rfl))
      | (apply eq_sl; exact rfl)
      | (apply eq_row; exact rfl; exact Stop.mk (by with_reducible rfl))
      | (apply eq_row; exact rfl)
      | (apply eq_agg; exact rfl)
      | (apply eq_cons; exact rfl)
      | (apply eq_boxo; exact rfl)
      | (apply cell_agg; exact rfl; exact rfl; exact rfl)
      | (apply cell_one; exact rfl; exact rfl)
      | exact rfl
      | trivial
      )
end Go.Proofs.Ythmajaeekkbnnaa
