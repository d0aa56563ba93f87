/-
  HeapOf, both, by the abstract walk.
-/
import Derived.Test.YthmajaeekkbnnaaSh
import Derived.Test.YthmajaeekkbnnaaHpG
namespace Go.Proofs.Ythmajaeekkbnnaa
open Go Go.RowKit
attribute [local irreducible] AWp OpsOk OpOk ACalls ChA QsOk MCalls

/-! ### HeapOf -/
def ofStep (o : Option (List Due)) (d : Due) : Option (List Due) := match o with
  | some l => if pushOkB l d = true then some (pushD l d) else none
  | none => none
/-- The first i pushed. -/
def ofF (L : List Due) : Nat → Option (List Due)
  | 0 => some []
  | i + 1 => ofStep (ofF L i) (nth L i)
theorem ofF_yes {L out : List Due} {i : Nat} (h : ofF L i = some out) (hp : pushOkB out (nth L i) = true) : ofF L (i + 1) = some (pushD out (nth L i)) := by
  rw [ofF, h]
  exact if_pos hp
theorem ofF_no {L out : List Due} {i : Nat} (h : ofF L i = some out) (hp : pushOkB out (nth L i) = false) : ofF L (i + 1) = none := by
  rw [ofF, h]
  exact if_neg (by rw [hp]; decide)
theorem ofF_none {L : List Due} {i : Nat} (h : ofF L i = none) : ∀ n, i ≤ n → ofF L n = none := by
  intro n
  induction n with
  | zero => intro hi; rw [show i = 0 by omega] at h; exact h
  | succ n ih =>
    intro hi
    by_cases e : i = n + 1
    · rw [← e]; exact h
    · rw [ofF, ih (by omega)]; rfl
theorem ofF_len {L out : List Due} : ∀ {i : Nat}, ofF L i = some out → heapOkB out = true ∧ out.length = i := by
  intro i
  induction i generalizing out with
  | zero =>
    intro h
    injection h with h
    subst h
    exact ⟨rfl, rfl⟩
  | succ i ih =>
    intro h
    rw [ofF] at h
    cases hq : ofF L i with
    | none => rw [hq] at h; cases h
    | some l =>
      rw [hq] at h
      unfold ofStep at h
      simp only at h
      split at h
      · rename_i hp
        injection h with h
        subst h
        exact ⟨pushD_ok hp, by rw [pushD_length, (ih hq).2]⟩
      · cases h
abbrev heapOfF (L : List Due) : Option (List Due) := ofF L L.length
set_option maxRecDepth 100000 in
set_option maxHeartbeats 4000000 in
theorem heapOf_e {L H : List Due} (hL : L.length ≤ 1000000000) (h : heapOfF L = some H) : ACalls Try.prog 43 [.d (.sl (dueE L))] [.row 0, .d (.b true)] [(0, .row 25 (dueE H) true)] := by
  refine acalls_of tt Try.func43 rfl rfl rfl (fun w0 Z => ?_)
  repeat' (first
    | apply awp_seq
    | (apply awp_regionN; exact rfl)
    | (refine Hb.mk (fun hb => ?_); (first | rw [inB_t] at hb | rw [inB_f] at hb | rw [inB_nt] at hb | rw [inB_nf] at hb | rw [decide_eq_true_eq] at hb | rw [decide_eq_false_iff_not] at hb | rw [beq_iff_eq] at hb | rw [beq_eq_false_iff_ne] at hb | rw [Bool.not_eq_true'] at hb | rw [Bool.not_eq_false'] at hb | rw [bne_iff_ne] at hb | rw [bne_eq_false_iff_eq] at hb | skip); (first | (exfalso; omega) | (exact absurd rfl hb) | skip))
    | (apply aopG_ok; exact rfl)
    | apply ops_nil
    | (apply awp_cond_t; exact rfl)
    | (apply awp_cond_f; exact rfl)
    | (apply cond_x; exact rfl)
    | apply awp_block
    | apply awp_skip
    | apply awp_exit
    | apply awp_ret'
    | (first | (apply ops_cons; exact rfl) | (apply ops_yes; exact rfl; exact rfl; exact rfl))
    | (apply ops_x; exact rfl; exact rfl; (fail_if_success exact (rfl : _ = AV.d (.b true))); (fail_if_success exact (rfl : _ = AV.d (.b false))); exact rfl)
    | (apply op_id; first | refine zk35 rfl rfl rfl ⟨rfl, rfl, rfl⟩ rfl rfl rfl rfl rfl rfl rfl rfl rfl ?_ | refine zk38 rfl rfl rfl rfl rfl rfl rfl rfl rfl rfl ?_ | (apply qok_q; exact rfl))
    | (apply q_id; first | refine zk0 rfl rfl rfl rfl rfl ?_ | refine zk5 rfl rfl rfl rfl rfl ?_ | refine zk11 rfl rfl rfl rfl rfl ?_ | refine zk12 rfl rfl rfl rfl rfl (fun _ => ?_) | refine zk13 rfl rfl rfl rfl rfl rfl rfl ?_ | refine zk14 rfl rfl rfl rfl rfl rfl rfl ?_ | refine zk19 rfl rfl rfl rfl rfl ?_ | refine zk30 rfl rfl rfl rfl rfl rfl rfl ?_ | refine zk31 rfl rfl rfl rfl rfl rfl rfl rfl ?_)
    )
  refine awp_loop (fun (x : Nat × List Due × Bool) => match x with | (i, out, true) => ⟨27, [(4, .row 9), (10, .d (.sl (dueE L))), (11, .d (.n .i64 (L.length : Int))), (12, .d (.n .i64 i))], [(9, .row 25 (dueE out) true)]⟩ | (i, out, false) => ⟨27, [(4, .row 19), (10, .d (.sl (dueE L))), (11, .d (.n .i64 (L.length : Int))), (12, .d (.n .i64 i))], [(19, .row 25 (dueE out) true)]⟩) (fun x => ofF L x.1 = some x.2.1 ∧ x.1 ≤ L.length) (fun x => L.length - x.1) (0, [], true) (by exact ⟨rfl, Nat.zero_le _⟩) ?_ ?_
  · refine ⟨rfl, ?_, ?_, rfl⟩
    repeat' (first
      | apply And.intro
      | (apply eq_b; exact rfl; exact Stop.mk (by with_reducible rfl))
      | (apply eq_b; exact rfl)
      | (apply eq_n; exact rfl; exact Stop.mk (by first | with_reducible rfl | omega))
      | (apply eq_n; exact rfl)
      | (apply eq_s; exact rfl; exact Stop.mk (by with_reducible rfl))
      | (apply eq_s; exact rfl)
      | (apply eq_sl; exact rfl; exact Stop.mk (by with_reducible rfl))
      | (apply eq_sl; exact rfl)
      | (apply eq_row; exact rfl; exact Stop.mk (by with_reducible rfl))
      | (apply eq_row; exact rfl)
      | (apply eq_agg; exact rfl)
      | (apply eq_cons; exact rfl)
      | (apply eq_boxo; exact rfl)
      | (apply cell_agg; exact rfl; exact rfl; exact rfl)
      | (apply cell_one; exact rfl; exact rfl)
      | exact rfl
      | trivial
      )
    all_goals exact Stop.mk rfl
  · rintro ⟨i, out, fst⟩ ⟨hx, hi⟩
    dsimp only at hx hi
    have hol := (ofF_len hx).2
    by_cases hn : i < L.length
    · cases fst with
      | true =>
        refine awp_frz 9 rfl ?_
        cases hp : pushOkB out (nth L i) with
        | true =>
          repeat' (first
            | apply awp_seq
            | (apply awp_regionN; exact rfl)
            | (refine Hb.mk (fun hb => ?_); (first | rw [inB_t] at hb | rw [inB_f] at hb | rw [inB_nt] at hb | rw [inB_nf] at hb | rw [decide_eq_true_eq] at hb | rw [decide_eq_false_iff_not] at hb | rw [beq_iff_eq] at hb | rw [beq_eq_false_iff_ne] at hb | rw [Bool.not_eq_true'] at hb | rw [Bool.not_eq_false'] at hb | rw [bne_iff_ne] at hb | rw [bne_eq_false_iff_eq] at hb | skip); (first | (exfalso; omega) | (exact absurd rfl hb) | skip))
            | (apply aopG_ok; exact rfl)
            | apply ops_nil
            | (apply awp_cond_t; exact rfl)
            | (apply awp_cond_f; exact rfl)
            | (apply cond_x; exact rfl)
            | apply awp_block
            | apply awp_skip
            | apply awp_exit
            | apply awp_ret'
            | (first | (apply ops_cons; exact rfl) | (apply ops_yes; exact rfl; exact rfl; exact rfl))
            | (apply ops_x; exact rfl; exact rfl; (fail_if_success exact (rfl : _ = AV.d (.b true))); (fail_if_success exact (rfl : _ = AV.d (.b false))); exact rfl)
            | (apply op_id; first | refine zk35 rfl rfl rfl ⟨rfl, rfl, rfl⟩ rfl rfl rfl rfl rfl rfl rfl rfl rfl ?_ | refine zk38 rfl rfl rfl rfl rfl rfl rfl rfl rfl rfl ?_ | refine st_call (heapPush_e hp) rfl rfl rfl rfl rfl ?_ | (apply qok_q; exact rfl))
            | (apply q_id; first | refine zk0 rfl rfl rfl rfl rfl ?_ | refine zk5 rfl rfl rfl rfl rfl ?_ | refine zk11 rfl rfl rfl rfl rfl ?_ | refine zk12 rfl rfl rfl rfl rfl (fun _ => ?_) | refine zk13 rfl rfl rfl rfl rfl rfl rfl ?_ | refine zk14 rfl rfl rfl rfl rfl rfl rfl ?_ | refine zk19 rfl rfl rfl rfl rfl ?_ | refine zk30 rfl rfl rfl rfl rfl rfl rfl ?_ | refine zk31 rfl rfl rfl rfl rfl rfl rfl rfl ?_)
            )
          refine ⟨(i + 1, pushD out (nth L i), false), ⟨ofF_yes hx hp, by omega⟩, by dsimp only; omega, ?_⟩
          refine ⟨rfl, ?_, ?_, rfl⟩
          repeat' (first
            | apply And.intro
            | (apply eq_b; exact rfl; exact Stop.mk (by with_reducible rfl))
            | (apply eq_b; exact rfl)
            | (apply eq_n; exact rfl; exact Stop.mk (by first | with_reducible rfl | omega))
            | (apply eq_n; exact rfl)
            | (apply eq_s; exact rfl; exact Stop.mk (by with_reducible rfl))
            | (apply eq_s; exact rfl)
            | (apply eq_sl; exact rfl; exact Stop.mk (by with_reducible rfl))
            | (apply eq_sl; exact rfl)
            | (apply eq_row; exact rfl; exact Stop.mk (by with_reducible rfl))
            | (apply eq_row; exact rfl)
            | (apply eq_agg; exact rfl)
            | (apply eq_cons; exact rfl)
            | (apply eq_boxo; exact rfl)
            | (apply cell_agg; exact rfl; exact rfl; exact rfl)
            | (apply cell_one; exact rfl; exact rfl)
            | exact rfl
            | trivial
            )
          all_goals exact Stop.mk rfl
        | false =>
          repeat' (first
            | apply awp_seq
            | (apply awp_regionN; exact rfl)
            | (refine Hb.mk (fun hb => ?_); (first | rw [inB_t] at hb | rw [inB_f] at hb | rw [inB_nt] at hb | rw [inB_nf] at hb | rw [decide_eq_true_eq] at hb | rw [decide_eq_false_iff_not] at hb | rw [beq_iff_eq] at hb | rw [beq_eq_false_iff_ne] at hb | rw [Bool.not_eq_true'] at hb | rw [Bool.not_eq_false'] at hb | rw [bne_iff_ne] at hb | rw [bne_eq_false_iff_eq] at hb | skip); (first | (exfalso; omega) | (exact absurd rfl hb) | skip))
            | (apply aopG_ok; exact rfl)
            | apply ops_nil
            | (apply awp_cond_t; exact rfl)
            | (apply awp_cond_f; exact rfl)
            | (apply cond_x; exact rfl)
            | apply awp_block
            | apply awp_skip
            | apply awp_exit
            | apply awp_ret'
            | (first | (apply ops_cons; exact rfl) | (apply ops_yes; exact rfl; exact rfl; exact rfl))
            | (apply ops_x; exact rfl; exact rfl; (fail_if_success exact (rfl : _ = AV.d (.b true))); (fail_if_success exact (rfl : _ = AV.d (.b false))); exact rfl)
            | (apply op_id; first | refine zk35 rfl rfl rfl ⟨rfl, rfl, rfl⟩ rfl rfl rfl rfl rfl rfl rfl rfl rfl ?_ | refine zk38 rfl rfl rfl rfl rfl rfl rfl rfl rfl rfl ?_ | refine st_call (heapPush_e0 (by omega) hp) rfl rfl rfl rfl rfl ?_ | (apply qok_q; exact rfl))
            | (apply q_id; first | refine zk0 rfl rfl rfl rfl rfl ?_ | refine zk5 rfl rfl rfl rfl rfl ?_ | refine zk11 rfl rfl rfl rfl rfl ?_ | refine zk12 rfl rfl rfl rfl rfl (fun _ => ?_) | refine zk13 rfl rfl rfl rfl rfl rfl rfl ?_ | refine zk14 rfl rfl rfl rfl rfl rfl rfl ?_ | refine zk19 rfl rfl rfl rfl rfl ?_ | refine zk30 rfl rfl rfl rfl rfl rfl rfl ?_ | refine zk31 rfl rfl rfl rfl rfl rfl rfl rfl ?_)
            )
          have he := (ofF_none (ofF_no hx hp) L.length (by omega)).symm.trans h
          cases he
      | false =>
        refine awp_frz 19 rfl ?_
        cases hp : pushOkB out (nth L i) with
        | true =>
          repeat' (first
            | apply awp_seq
            | (apply awp_regionN; exact rfl)
            | (refine Hb.mk (fun hb => ?_); (first | rw [inB_t] at hb | rw [inB_f] at hb | rw [inB_nt] at hb | rw [inB_nf] at hb | rw [decide_eq_true_eq] at hb | rw [decide_eq_false_iff_not] at hb | rw [beq_iff_eq] at hb | rw [beq_eq_false_iff_ne] at hb | rw [Bool.not_eq_true'] at hb | rw [Bool.not_eq_false'] at hb | rw [bne_iff_ne] at hb | rw [bne_eq_false_iff_eq] at hb | skip); (first | (exfalso; omega) | (exact absurd rfl hb) | skip))
            | (apply aopG_ok; exact rfl)
            | apply ops_nil
            | (apply awp_cond_t; exact rfl)
            | (apply awp_cond_f; exact rfl)
            | (apply cond_x; exact rfl)
            | apply awp_block
            | apply awp_skip
            | apply awp_exit
            | apply awp_ret'
            | (first | (apply ops_cons; exact rfl) | (apply ops_yes; exact rfl; exact rfl; exact rfl))
            | (apply ops_x; exact rfl; exact rfl; (fail_if_success exact (rfl : _ = AV.d (.b true))); (fail_if_success exact (rfl : _ = AV.d (.b false))); exact rfl)
            | (apply op_id; first | refine zk35 rfl rfl rfl ⟨rfl, rfl, rfl⟩ rfl rfl rfl rfl rfl rfl rfl rfl rfl ?_ | refine zk38 rfl rfl rfl rfl rfl rfl rfl rfl rfl rfl ?_ | refine st_call (heapPush_e hp) rfl rfl rfl rfl rfl ?_ | (apply qok_q; exact rfl))
            | (apply q_id; first | refine zk0 rfl rfl rfl rfl rfl ?_ | refine zk5 rfl rfl rfl rfl rfl ?_ | refine zk11 rfl rfl rfl rfl rfl ?_ | refine zk12 rfl rfl rfl rfl rfl (fun _ => ?_) | refine zk13 rfl rfl rfl rfl rfl rfl rfl ?_ | refine zk14 rfl rfl rfl rfl rfl rfl rfl ?_ | refine zk19 rfl rfl rfl rfl rfl ?_ | refine zk30 rfl rfl rfl rfl rfl rfl rfl ?_ | refine zk31 rfl rfl rfl rfl rfl rfl rfl rfl ?_)
            )
          refine ⟨(i + 1, pushD out (nth L i), false), ⟨ofF_yes hx hp, by omega⟩, by dsimp only; omega, ?_⟩
          refine ⟨rfl, ?_, ?_, rfl⟩
          repeat' (first
            | apply And.intro
            | (apply eq_b; exact rfl; exact Stop.mk (by with_reducible rfl))
            | (apply eq_b; exact rfl)
            | (apply eq_n; exact rfl; exact Stop.mk (by first | with_reducible rfl | omega))
            | (apply eq_n; exact rfl)
            | (apply eq_s; exact rfl; exact Stop.mk (by with_reducible rfl))
            | (apply eq_s; exact rfl)
            | (apply eq_sl; exact rfl; exact Stop.mk (by with_reducible rfl))
            | (apply eq_sl; exact rfl)
            | (apply eq_row; exact rfl; exact Stop.mk (by with_reducible rfl))
            | (apply eq_row; exact rfl)
            | (apply eq_agg; exact rfl)
            | (apply eq_cons; exact rfl)
            | (apply eq_boxo; exact rfl)
            | (apply cell_agg; exact rfl; exact rfl; exact rfl)
            | (apply cell_one; exact rfl; exact rfl)
            | exact rfl
            | trivial
            )
          all_goals exact Stop.mk rfl
        | false =>
          repeat' (first
            | apply awp_seq
            | (apply awp_regionN; exact rfl)
            | (refine Hb.mk (fun hb => ?_); (first | rw [inB_t] at hb | rw [inB_f] at hb | rw [inB_nt] at hb | rw [inB_nf] at hb | rw [decide_eq_true_eq] at hb | rw [decide_eq_false_iff_not] at hb | rw [beq_iff_eq] at hb | rw [beq_eq_false_iff_ne] at hb | rw [Bool.not_eq_true'] at hb | rw [Bool.not_eq_false'] at hb | rw [bne_iff_ne] at hb | rw [bne_eq_false_iff_eq] at hb | skip); (first | (exfalso; omega) | (exact absurd rfl hb) | skip))
            | (apply aopG_ok; exact rfl)
            | apply ops_nil
            | (apply awp_cond_t; exact rfl)
            | (apply awp_cond_f; exact rfl)
            | (apply cond_x; exact rfl)
            | apply awp_block
            | apply awp_skip
            | apply awp_exit
            | apply awp_ret'
            | (first | (apply ops_cons; exact rfl) | (apply ops_yes; exact rfl; exact rfl; exact rfl))
            | (apply ops_x; exact rfl; exact rfl; (fail_if_success exact (rfl : _ = AV.d (.b true))); (fail_if_success exact (rfl : _ = AV.d (.b false))); exact rfl)
            | (apply op_id; first | refine zk35 rfl rfl rfl ⟨rfl, rfl, rfl⟩ rfl rfl rfl rfl rfl rfl rfl rfl rfl ?_ | refine zk38 rfl rfl rfl rfl rfl rfl rfl rfl rfl rfl ?_ | refine st_call (heapPush_e0 (by omega) hp) rfl rfl rfl rfl rfl ?_ | (apply qok_q; exact rfl))
            | (apply q_id; first | refine zk0 rfl rfl rfl rfl rfl ?_ | refine zk5 rfl rfl rfl rfl rfl ?_ | refine zk11 rfl rfl rfl rfl rfl ?_ | refine zk12 rfl rfl rfl rfl rfl (fun _ => ?_) | refine zk13 rfl rfl rfl rfl rfl rfl rfl ?_ | refine zk14 rfl rfl rfl rfl rfl rfl rfl ?_ | refine zk19 rfl rfl rfl rfl rfl ?_ | refine zk30 rfl rfl rfl rfl rfl rfl rfl ?_ | refine zk31 rfl rfl rfl rfl rfl rfl rfl rfl ?_)
            )
          have he := (ofF_none (ofF_no hx hp) L.length (by omega)).symm.trans h
          cases he
    · obtain rfl : i = L.length := by omega
      obtain rfl : out = H := by
        have := hx.symm.trans h
        injection this
      cases fst with
      | true =>
        repeat' (first
          | apply awp_seq
          | (apply awp_regionN; exact rfl)
          | (refine Hb.mk (fun hb => ?_); (first | rw [inB_t] at hb | rw [inB_f] at hb | rw [inB_nt] at hb | rw [inB_nf] at hb | rw [decide_eq_true_eq] at hb | rw [decide_eq_false_iff_not] at hb | rw [beq_iff_eq] at hb | rw [beq_eq_false_iff_ne] at hb | rw [Bool.not_eq_true'] at hb | rw [Bool.not_eq_false'] at hb | rw [bne_iff_ne] at hb | rw [bne_eq_false_iff_eq] at hb | skip); (first | (exfalso; omega) | (exact absurd rfl hb) | skip))
          | (apply aopG_ok; exact rfl)
          | apply ops_nil
          | (apply awp_cond_t; exact rfl)
          | (apply awp_cond_f; exact rfl)
          | (apply cond_x; exact rfl)
          | apply awp_block
          | apply awp_skip
          | apply awp_exit
          | apply awp_ret'
          | (first | (apply ops_cons; exact rfl) | (apply ops_yes; exact rfl; exact rfl; exact rfl))
          | (apply ops_x; exact rfl; exact rfl; (fail_if_success exact (rfl : _ = AV.d (.b true))); (fail_if_success exact (rfl : _ = AV.d (.b false))); exact rfl)
          | (apply op_id; first | refine zk35 rfl rfl rfl ⟨rfl, rfl, rfl⟩ rfl rfl rfl rfl rfl rfl rfl rfl rfl ?_ | refine zk38 rfl rfl rfl rfl rfl rfl rfl rfl rfl rfl ?_ | (apply qok_q; exact rfl))
          | (apply q_id; first | refine zk0 rfl rfl rfl rfl rfl ?_ | refine zk5 rfl rfl rfl rfl rfl ?_ | refine zk11 rfl rfl rfl rfl rfl ?_ | refine zk12 rfl rfl rfl rfl rfl (fun _ => ?_) | refine zk13 rfl rfl rfl rfl rfl rfl rfl ?_ | refine zk14 rfl rfl rfl rfl rfl rfl rfl ?_ | refine zk19 rfl rfl rfl rfl rfl ?_ | refine zk30 rfl rfl rfl rfl rfl rfl rfl ?_ | refine zk31 rfl rfl rfl rfl rfl rfl rfl rfl ?_)
          )
        refine Stop.mk ?_
        refine ret_intro [9] rfl rfl ?_ ?_
        repeat' (first
          | apply And.intro
          | (apply eq_b; exact rfl; exact Stop.mk (by with_reducible rfl))
          | (apply eq_b; exact rfl)
          | (apply eq_n; exact rfl; exact Stop.mk (by first | with_reducible rfl | omega))
          | (apply eq_n; exact rfl)
          | (apply eq_s; exact rfl; exact Stop.mk (by with_reducible rfl))
          | (apply eq_s; exact rfl)
          | (apply eq_sl; exact rfl; exact Stop.mk (by with_reducible rfl))
          | (apply eq_sl; exact rfl)
          | (apply eq_row; exact rfl; exact Stop.mk (by with_reducible rfl))
          | (apply eq_row; exact rfl)
          | (apply eq_agg; exact rfl)
          | (apply eq_cons; exact rfl)
          | (apply eq_boxo; exact rfl)
          | (apply cell_agg; exact rfl; exact rfl; exact rfl)
          | (apply cell_one; exact rfl; exact rfl)
          | exact rfl
          | trivial
          )
        all_goals exact Stop.mk rfl
      | false =>
        repeat' (first
          | apply awp_seq
          | (apply awp_regionN; exact rfl)
          | (refine Hb.mk (fun hb => ?_); (first | rw [inB_t] at hb | rw [inB_f] at hb | rw [inB_nt] at hb | rw [inB_nf] at hb | rw [decide_eq_true_eq] at hb | rw [decide_eq_false_iff_not] at hb | rw [beq_iff_eq] at hb | rw [beq_eq_false_iff_ne] at hb | rw [Bool.not_eq_true'] at hb | rw [Bool.not_eq_false'] at hb | rw [bne_iff_ne] at hb | rw [bne_eq_false_iff_eq] at hb | skip); (first | (exfalso; omega) | (exact absurd rfl hb) | skip))
          | (apply aopG_ok; exact rfl)
          | apply ops_nil
          | (apply awp_cond_t; exact rfl)
          | (apply awp_cond_f; exact rfl)
          | (apply cond_x; exact rfl)
          | apply awp_block
          | apply awp_skip
          | apply awp_exit
          | apply awp_ret'
          | (first | (apply ops_cons; exact rfl) | (apply ops_yes; exact rfl; exact rfl; exact rfl))
          | (apply ops_x; exact rfl; exact rfl; (fail_if_success exact (rfl : _ = AV.d (.b true))); (fail_if_success exact (rfl : _ = AV.d (.b false))); exact rfl)
          | (apply op_id; first | refine zk35 rfl rfl rfl ⟨rfl, rfl, rfl⟩ rfl rfl rfl rfl rfl rfl rfl rfl rfl ?_ | refine zk38 rfl rfl rfl rfl rfl rfl rfl rfl rfl rfl ?_ | (apply qok_q; exact rfl))
          | (apply q_id; first | refine zk0 rfl rfl rfl rfl rfl ?_ | refine zk5 rfl rfl rfl rfl rfl ?_ | refine zk11 rfl rfl rfl rfl rfl ?_ | refine zk12 rfl rfl rfl rfl rfl (fun _ => ?_) | refine zk13 rfl rfl rfl rfl rfl rfl rfl ?_ | refine zk14 rfl rfl rfl rfl rfl rfl rfl ?_ | refine zk19 rfl rfl rfl rfl rfl ?_ | refine zk30 rfl rfl rfl rfl rfl rfl rfl ?_ | refine zk31 rfl rfl rfl rfl rfl rfl rfl rfl ?_)
          )
        refine Stop.mk ?_
        refine ret_intro [19] rfl rfl ?_ ?_
        repeat' (first
          | apply And.intro
          | (apply eq_b; exact rfl; exact Stop.mk (by with_reducible rfl))
          | (apply eq_b; exact rfl)
          | (apply eq_n; exact rfl; exact Stop.mk (by first | with_reducible rfl | omega))
          | (apply eq_n; exact rfl)
          | (apply eq_s; exact rfl; exact Stop.mk (by with_reducible rfl))
          | (apply eq_s; exact rfl)
          | (apply eq_sl; exact rfl; exact Stop.mk (by with_reducible rfl))
          | (apply eq_sl; exact rfl)
          | (apply eq_row; exact rfl; exact Stop.mk (by with_reducible rfl))
          | (apply eq_row; exact rfl)
          | (apply eq_agg; exact rfl)
          | (apply eq_cons; exact rfl)
          | (apply eq_boxo; exact rfl)
          | (apply cell_agg; exact rfl; exact rfl; exact rfl)
          | (apply cell_one; exact rfl; exact rfl)
          | exact rfl
          | trivial
          )
        all_goals exact Stop.mk rfl
set_option maxRecDepth 100000 in
set_option maxHeartbeats 4000000 in
theorem heapOf_s {L H : List Due} (hL : L.length ≤ 1000000000) (h : heapOfF L = some H) : ACalls Try.prog 42 [.d (.sl (dueE L))] [.row 0, .d (.b true)] [(0, .row 25 (dueE H) true)] := by
  refine acalls_of tt Try.func42 rfl rfl rfl (fun w0 Z => ?_)
  repeat' (first
    | apply awp_seq
    | (apply awp_regionN; exact rfl)
    | (refine Hb.mk (fun hb => ?_); (first | rw [inB_t] at hb | rw [inB_f] at hb | rw [inB_nt] at hb | rw [inB_nf] at hb | rw [decide_eq_true_eq] at hb | rw [decide_eq_false_iff_not] at hb | rw [beq_iff_eq] at hb | rw [beq_eq_false_iff_ne] at hb | rw [Bool.not_eq_true'] at hb | rw [Bool.not_eq_false'] at hb | rw [bne_iff_ne] at hb | rw [bne_eq_false_iff_eq] at hb | skip); (first | (exfalso; omega) | (exact absurd rfl hb) | skip))
    | (apply aopG_ok; exact rfl)
    | apply ops_nil
    | (apply awp_cond_t; exact rfl)
    | (apply awp_cond_f; exact rfl)
    | (apply cond_x; exact rfl)
    | apply awp_block
    | apply awp_skip
    | apply awp_exit
    | apply awp_ret'
    | (first | (apply ops_cons; exact rfl) | (apply ops_yes; exact rfl; exact rfl; exact rfl))
    | (apply ops_x; exact rfl; exact rfl; (fail_if_success exact (rfl : _ = AV.d (.b true))); (fail_if_success exact (rfl : _ = AV.d (.b false))); exact rfl)
    | (apply op_id; first | refine zk35 rfl rfl rfl ⟨rfl, rfl, rfl⟩ rfl rfl rfl rfl rfl rfl rfl rfl rfl ?_ | refine zk38 rfl rfl rfl rfl rfl rfl rfl rfl rfl rfl ?_ | (apply qok_q; exact rfl))
    | (apply q_id; first | refine zk0 rfl rfl rfl rfl rfl ?_ | refine zk5 rfl rfl rfl rfl rfl ?_ | refine zk11 rfl rfl rfl rfl rfl ?_ | refine zk12 rfl rfl rfl rfl rfl (fun _ => ?_) | refine zk13 rfl rfl rfl rfl rfl rfl rfl ?_ | refine zk14 rfl rfl rfl rfl rfl rfl rfl ?_ | refine zk19 rfl rfl rfl rfl rfl ?_ | refine zk30 rfl rfl rfl rfl rfl rfl rfl ?_ | refine zk31 rfl rfl rfl rfl rfl rfl rfl rfl ?_)
    )
  refine awp_loop (fun (x : Nat × List Due × Bool) => match x with | (i, out, true) => ⟨27, [(4, .row 9), (10, .d (.sl (dueE L))), (11, .d (.n .i64 (L.length : Int))), (12, .d (.n .i64 i))], [(9, .row 25 (dueE out) true)]⟩ | (i, out, false) => ⟨27, [(4, .row 19), (10, .d (.sl (dueE L))), (11, .d (.n .i64 (L.length : Int))), (12, .d (.n .i64 i))], [(19, .row 25 (dueE out) true)]⟩) (fun x => ofF L x.1 = some x.2.1 ∧ x.1 ≤ L.length) (fun x => L.length - x.1) (0, [], true) (by exact ⟨rfl, Nat.zero_le _⟩) ?_ ?_
  · refine ⟨rfl, ?_, ?_, rfl⟩
    repeat' (first
      | apply And.intro
      | (apply eq_b; exact rfl; exact Stop.mk (by with_reducible rfl))
      | (apply eq_b; exact rfl)
      | (apply eq_n; exact rfl; exact Stop.mk (by first | with_reducible rfl | omega))
      | (apply eq_n; exact rfl)
      | (apply eq_s; exact rfl; exact Stop.mk (by with_reducible rfl))
      | (apply eq_s; exact rfl)
      | (apply eq_sl; exact rfl; exact Stop.mk (by with_reducible rfl))
      | (apply eq_sl; exact rfl)
      | (apply eq_row; exact rfl; exact Stop.mk (by with_reducible rfl))
      | (apply eq_row; exact rfl)
      | (apply eq_agg; exact rfl)
      | (apply eq_cons; exact rfl)
      | (apply eq_boxo; exact rfl)
      | (apply cell_agg; exact rfl; exact rfl; exact rfl)
      | (apply cell_one; exact rfl; exact rfl)
      | exact rfl
      | trivial
      )
    all_goals exact Stop.mk rfl
  · rintro ⟨i, out, fst⟩ ⟨hx, hi⟩
    dsimp only at hx hi
    have hol := (ofF_len hx).2
    by_cases hn : i < L.length
    · cases fst with
      | true =>
        refine awp_frz 9 rfl ?_
        cases hp : pushOkB out (nth L i) with
        | true =>
          repeat' (first
            | apply awp_seq
            | (apply awp_regionN; exact rfl)
            | (refine Hb.mk (fun hb => ?_); (first | rw [inB_t] at hb | rw [inB_f] at hb | rw [inB_nt] at hb | rw [inB_nf] at hb | rw [decide_eq_true_eq] at hb | rw [decide_eq_false_iff_not] at hb | rw [beq_iff_eq] at hb | rw [beq_eq_false_iff_ne] at hb | rw [Bool.not_eq_true'] at hb | rw [Bool.not_eq_false'] at hb | rw [bne_iff_ne] at hb | rw [bne_eq_false_iff_eq] at hb | skip); (first | (exfalso; omega) | (exact absurd rfl hb) | skip))
            | (apply aopG_ok; exact rfl)
            | apply ops_nil
            | (apply awp_cond_t; exact rfl)
            | (apply awp_cond_f; exact rfl)
            | (apply cond_x; exact rfl)
            | apply awp_block
            | apply awp_skip
            | apply awp_exit
            | apply awp_ret'
            | (first | (apply ops_cons; exact rfl) | (apply ops_yes; exact rfl; exact rfl; exact rfl))
            | (apply ops_x; exact rfl; exact rfl; (fail_if_success exact (rfl : _ = AV.d (.b true))); (fail_if_success exact (rfl : _ = AV.d (.b false))); exact rfl)
            | (apply op_id; first | refine zk35 rfl rfl rfl ⟨rfl, rfl, rfl⟩ rfl rfl rfl rfl rfl rfl rfl rfl rfl ?_ | refine zk38 rfl rfl rfl rfl rfl rfl rfl rfl rfl rfl ?_ | refine st_call (heapPush_s hp) rfl rfl rfl rfl rfl ?_ | (apply qok_q; exact rfl))
            | (apply q_id; first | refine zk0 rfl rfl rfl rfl rfl ?_ | refine zk5 rfl rfl rfl rfl rfl ?_ | refine zk11 rfl rfl rfl rfl rfl ?_ | refine zk12 rfl rfl rfl rfl rfl (fun _ => ?_) | refine zk13 rfl rfl rfl rfl rfl rfl rfl ?_ | refine zk14 rfl rfl rfl rfl rfl rfl rfl ?_ | refine zk19 rfl rfl rfl rfl rfl ?_ | refine zk30 rfl rfl rfl rfl rfl rfl rfl ?_ | refine zk31 rfl rfl rfl rfl rfl rfl rfl rfl ?_)
            )
          refine ⟨(i + 1, pushD out (nth L i), false), ⟨ofF_yes hx hp, by omega⟩, by dsimp only; omega, ?_⟩
          refine ⟨rfl, ?_, ?_, rfl⟩
          repeat' (first
            | apply And.intro
            | (apply eq_b; exact rfl; exact Stop.mk (by with_reducible rfl))
            | (apply eq_b; exact rfl)
            | (apply eq_n; exact rfl; exact Stop.mk (by first | with_reducible rfl | omega))
            | (apply eq_n; exact rfl)
            | (apply eq_s; exact rfl; exact Stop.mk (by with_reducible rfl))
            | (apply eq_s; exact rfl)
            | (apply eq_sl; exact rfl; exact Stop.mk (by with_reducible rfl))
            | (apply eq_sl; exact rfl)
            | (apply eq_row; exact rfl; exact Stop.mk (by with_reducible rfl))
            | (apply eq_row; exact rfl)
            | (apply eq_agg; exact rfl)
            | (apply eq_cons; exact rfl)
            | (apply eq_boxo; exact rfl)
            | (apply cell_agg; exact rfl; exact rfl; exact rfl)
            | (apply cell_one; exact rfl; exact rfl)
            | exact rfl
            | trivial
            )
          all_goals exact Stop.mk rfl
        | false =>
          repeat' (first
            | apply awp_seq
            | (apply awp_regionN; exact rfl)
            | (refine Hb.mk (fun hb => ?_); (first | rw [inB_t] at hb | rw [inB_f] at hb | rw [inB_nt] at hb | rw [inB_nf] at hb | rw [decide_eq_true_eq] at hb | rw [decide_eq_false_iff_not] at hb | rw [beq_iff_eq] at hb | rw [beq_eq_false_iff_ne] at hb | rw [Bool.not_eq_true'] at hb | rw [Bool.not_eq_false'] at hb | rw [bne_iff_ne] at hb | rw [bne_eq_false_iff_eq] at hb | skip); (first | (exfalso; omega) | (exact absurd rfl hb) | skip))
            | (apply aopG_ok; exact rfl)
            | apply ops_nil
            | (apply awp_cond_t; exact rfl)
            | (apply awp_cond_f; exact rfl)
            | (apply cond_x; exact rfl)
            | apply awp_block
            | apply awp_skip
            | apply awp_exit
            | apply awp_ret'
            | (first | (apply ops_cons; exact rfl) | (apply ops_yes; exact rfl; exact rfl; exact rfl))
            | (apply ops_x; exact rfl; exact rfl; (fail_if_success exact (rfl : _ = AV.d (.b true))); (fail_if_success exact (rfl : _ = AV.d (.b false))); exact rfl)
            | (apply op_id; first | refine zk35 rfl rfl rfl ⟨rfl, rfl, rfl⟩ rfl rfl rfl rfl rfl rfl rfl rfl rfl ?_ | refine zk38 rfl rfl rfl rfl rfl rfl rfl rfl rfl rfl ?_ | refine st_call (heapPush_s0 (by omega) hp) rfl rfl rfl rfl rfl ?_ | (apply qok_q; exact rfl))
            | (apply q_id; first | refine zk0 rfl rfl rfl rfl rfl ?_ | refine zk5 rfl rfl rfl rfl rfl ?_ | refine zk11 rfl rfl rfl rfl rfl ?_ | refine zk12 rfl rfl rfl rfl rfl (fun _ => ?_) | refine zk13 rfl rfl rfl rfl rfl rfl rfl ?_ | refine zk14 rfl rfl rfl rfl rfl rfl rfl ?_ | refine zk19 rfl rfl rfl rfl rfl ?_ | refine zk30 rfl rfl rfl rfl rfl rfl rfl ?_ | refine zk31 rfl rfl rfl rfl rfl rfl rfl rfl ?_)
            )
          have he := (ofF_none (ofF_no hx hp) L.length (by omega)).symm.trans h
          cases he
      | false =>
        refine awp_frz 19 rfl ?_
        cases hp : pushOkB out (nth L i) with
        | true =>
          repeat' (first
            | apply awp_seq
            | (apply awp_regionN; exact rfl)
            | (refine Hb.mk (fun hb => ?_); (first | rw [inB_t] at hb | rw [inB_f] at hb | rw [inB_nt] at hb | rw [inB_nf] at hb | rw [decide_eq_true_eq] at hb | rw [decide_eq_false_iff_not] at hb | rw [beq_iff_eq] at hb | rw [beq_eq_false_iff_ne] at hb | rw [Bool.not_eq_true'] at hb | rw [Bool.not_eq_false'] at hb | rw [bne_iff_ne] at hb | rw [bne_eq_false_iff_eq] at hb | skip); (first | (exfalso; omega) | (exact absurd rfl hb) | skip))
            | (apply aopG_ok; exact rfl)
            | apply ops_nil
            | (apply awp_cond_t; exact rfl)
            | (apply awp_cond_f; exact rfl)
            | (apply cond_x; exact rfl)
            | apply awp_block
            | apply awp_skip
            | apply awp_exit
            | apply awp_ret'
            | (first | (apply ops_cons; exact rfl) | (apply ops_yes; exact rfl; exact rfl; exact rfl))
            | (apply ops_x; exact rfl; exact rfl; (fail_if_success exact (rfl : _ = AV.d (.b true))); (fail_if_success exact (rfl : _ = AV.d (.b false))); exact rfl)
            | (apply op_id; first | refine zk35 rfl rfl rfl ⟨rfl, rfl, rfl⟩ rfl rfl rfl rfl rfl rfl rfl rfl rfl ?_ | refine zk38 rfl rfl rfl rfl rfl rfl rfl rfl rfl rfl ?_ | refine st_call (heapPush_s hp) rfl rfl rfl rfl rfl ?_ | (apply qok_q; exact rfl))
            | (apply q_id; first | refine zk0 rfl rfl rfl rfl rfl ?_ | refine zk5 rfl rfl rfl rfl rfl ?_ | refine zk11 rfl rfl rfl rfl rfl ?_ | refine zk12 rfl rfl rfl rfl rfl (fun _ => ?_) | refine zk13 rfl rfl rfl rfl rfl rfl rfl ?_ | refine zk14 rfl rfl rfl rfl rfl rfl rfl ?_ | refine zk19 rfl rfl rfl rfl rfl ?_ | refine zk30 rfl rfl rfl rfl rfl rfl rfl ?_ | refine zk31 rfl rfl rfl rfl rfl rfl rfl rfl ?_)
            )
          refine ⟨(i + 1, pushD out (nth L i), false), ⟨ofF_yes hx hp, by omega⟩, by dsimp only; omega, ?_⟩
          refine ⟨rfl, ?_, ?_, rfl⟩
          repeat' (first
            | apply And.intro
            | (apply eq_b; exact rfl; exact Stop.mk (by with_reducible rfl))
            | (apply eq_b; exact rfl)
            | (apply eq_n; exact rfl; exact Stop.mk (by first | with_reducible rfl | omega))
            | (apply eq_n; exact rfl)
            | (apply eq_s; exact rfl; exact Stop.mk (by with_reducible rfl))
            | (apply eq_s; exact rfl)
            | (apply eq_sl; exact rfl; exact Stop.mk (by with_reducible rfl))
            | (apply eq_sl; exact rfl)
            | (apply eq_row; exact rfl; exact Stop.mk (by with_reducible rfl))
            | (apply eq_row; exact rfl)
            | (apply eq_agg; exact rfl)
            | (apply eq_cons; exact rfl)
            | (apply eq_boxo; exact rfl)
            | (apply cell_agg; exact rfl; exact rfl; exact rfl)
            | (apply cell_one; exact rfl; exact rfl)
            | exact rfl
            | trivial
            )
          all_goals exact Stop.mk rfl
        | false =>
          repeat' (first
            | apply awp_seq
            | (apply awp_regionN; exact rfl)
            | (refine Hb.mk (fun hb => ?_); (first | rw [inB_t] at hb | rw [inB_f] at hb | rw [inB_nt] at hb | rw [inB_nf] at hb | rw [decide_eq_true_eq] at hb | rw [decide_eq_false_iff_not] at hb | rw [beq_iff_eq] at hb | rw [beq_eq_false_iff_ne] at hb | rw [Bool.not_eq_true'] at hb | rw [Bool.not_eq_false'] at hb | rw [bne_iff_ne] at hb | rw [bne_eq_false_iff_eq] at hb | skip); (first | (exfalso; omega) | (exact absurd rfl hb) | skip))
            | (apply aopG_ok; exact rfl)
            | apply ops_nil
            | (apply awp_cond_t; exact rfl)
            | (apply awp_cond_f; exact rfl)
            | (apply cond_x; exact rfl)
            | apply awp_block
            | apply awp_skip
            | apply awp_exit
            | apply awp_ret'
            | (first | (apply ops_cons; exact rfl) | (apply ops_yes; exact rfl; exact rfl; exact rfl))
            | (apply ops_x; exact rfl; exact rfl; (fail_if_success exact (rfl : _ = AV.d (.b true))); (fail_if_success exact (rfl : _ = AV.d (.b false))); exact rfl)
            | (apply op_id; first | refine zk35 rfl rfl rfl ⟨rfl, rfl, rfl⟩ rfl rfl rfl rfl rfl rfl rfl rfl rfl ?_ | refine zk38 rfl rfl rfl rfl rfl rfl rfl rfl rfl rfl ?_ | refine st_call (heapPush_s0 (by omega) hp) rfl rfl rfl rfl rfl ?_ | (apply qok_q; exact rfl))
            | (apply q_id; first | refine zk0 rfl rfl rfl rfl rfl ?_ | refine zk5 rfl rfl rfl rfl rfl ?_ | refine zk11 rfl rfl rfl rfl rfl ?_ | refine zk12 rfl rfl rfl rfl rfl (fun _ => ?_) | refine zk13 rfl rfl rfl rfl rfl rfl rfl ?_ | refine zk14 rfl rfl rfl rfl rfl rfl rfl ?_ | refine zk19 rfl rfl rfl rfl rfl ?_ | refine zk30 rfl rfl rfl rfl rfl rfl rfl ?_ | refine zk31 rfl rfl rfl rfl rfl rfl rfl rfl ?_)
            )
          have he := (ofF_none (ofF_no hx hp) L.length (by omega)).symm.trans h
          cases he
    · obtain rfl : i = L.length := by omega
      obtain rfl : out = H := by
        have := hx.symm.trans h
        injection this
      cases fst with
      | true =>
        repeat' (first
          | apply awp_seq
          | (apply awp_regionN; exact rfl)
          | (refine Hb.mk (fun hb => ?_); (first | rw [inB_t] at hb | rw [inB_f] at hb | rw [inB_nt] at hb | rw [inB_nf] at hb | rw [decide_eq_true_eq] at hb | rw [decide_eq_false_iff_not] at hb | rw [beq_iff_eq] at hb | rw [beq_eq_false_iff_ne] at hb | rw [Bool.not_eq_true'] at hb | rw [Bool.not_eq_false'] at hb | rw [bne_iff_ne] at hb | rw [bne_eq_false_iff_eq] at hb | skip); (first | (exfalso; omega) | (exact absurd rfl hb) | skip))
          | (apply aopG_ok; exact rfl)
          | apply ops_nil
          | (apply awp_cond_t; exact rfl)
          | (apply awp_cond_f; exact rfl)
          | (apply cond_x; exact rfl)
          | apply awp_block
          | apply awp_skip
          | apply awp_exit
          | apply awp_ret'
          | (first | (apply ops_cons; exact rfl) | (apply ops_yes; exact rfl; exact rfl; exact rfl))
          | (apply ops_x; exact rfl; exact rfl; (fail_if_success exact (rfl : _ = AV.d (.b true))); (fail_if_success exact (rfl : _ = AV.d (.b false))); exact rfl)
          | (apply op_id; first | refine zk35 rfl rfl rfl ⟨rfl, rfl, rfl⟩ rfl rfl rfl rfl rfl rfl rfl rfl rfl ?_ | refine zk38 rfl rfl rfl rfl rfl rfl rfl rfl rfl rfl ?_ | (apply qok_q; exact rfl))
          | (apply q_id; first | refine zk0 rfl rfl rfl rfl rfl ?_ | refine zk5 rfl rfl rfl rfl rfl ?_ | refine zk11 rfl rfl rfl rfl rfl ?_ | refine zk12 rfl rfl rfl rfl rfl (fun _ => ?_) | refine zk13 rfl rfl rfl rfl rfl rfl rfl ?_ | refine zk14 rfl rfl rfl rfl rfl rfl rfl ?_ | refine zk19 rfl rfl rfl rfl rfl ?_ | refine zk30 rfl rfl rfl rfl rfl rfl rfl ?_ | refine zk31 rfl rfl rfl rfl rfl rfl rfl rfl ?_)
          )
        refine Stop.mk ?_
        refine ret_intro [9] rfl rfl ?_ ?_
        repeat' (first
          | apply And.intro
          | (apply eq_b; exact rfl; exact Stop.mk (by with_reducible rfl))
          | (apply eq_b; exact rfl)
          | (apply eq_n; exact rfl; exact Stop.mk (by first | with_reducible rfl | omega))
          | (apply eq_n; exact rfl)
          | (apply eq_s; exact rfl; exact Stop.mk (by with_reducible rfl))
          | (apply eq_s; exact rfl)
          | (apply eq_sl; exact rfl; exact Stop.mk (by with_reducible rfl))
          | (apply eq_sl; exact rfl)
          | (apply eq_row; exact rfl; exact Stop.mk (by with_reducible rfl))
          | (apply eq_row; exact rfl)
          | (apply eq_agg; exact rfl)
          | (apply eq_cons; exact rfl)
          | (apply eq_boxo; exact rfl)
          | (apply cell_agg; exact rfl; exact rfl; exact rfl)
          | (apply cell_one; exact rfl; exact rfl)
          | exact rfl
          | trivial
          )
        all_goals exact Stop.mk rfl
      | false =>
        repeat' (first
          | apply awp_seq
          | (apply awp_regionN; exact rfl)
          | (refine Hb.mk (fun hb => ?_); (first | rw [inB_t] at hb | rw [inB_f] at hb | rw [inB_nt] at hb | rw [inB_nf] at hb | rw [decide_eq_true_eq] at hb | rw [decide_eq_false_iff_not] at hb | rw [beq_iff_eq] at hb | rw [beq_eq_false_iff_ne] at hb | rw [Bool.not_eq_true'] at hb | rw [Bool.not_eq_false'] at hb | rw [bne_iff_ne] at hb | rw [bne_eq_false_iff_eq] at hb | skip); (first | (exfalso; omega) | (exact absurd rfl hb) | skip))
          | (apply aopG_ok; exact rfl)
          | apply ops_nil
          | (apply awp_cond_t; exact rfl)
          | (apply awp_cond_f; exact rfl)
          | (apply cond_x; exact rfl)
          | apply awp_block
          | apply awp_skip
          | apply awp_exit
          | apply awp_ret'
          | (first | (apply ops_cons; exact rfl) | (apply ops_yes; exact rfl; exact rfl; exact rfl))
          | (apply ops_x; exact rfl; exact rfl; (fail_if_success exact (rfl : _ = AV.d (.b true))); (fail_if_success exact (rfl : _ = AV.d (.b false))); exact rfl)
          | (apply op_id; first | refine zk35 rfl rfl rfl ⟨rfl, rfl, rfl⟩ rfl rfl rfl rfl rfl rfl rfl rfl rfl ?_ | refine zk38 rfl rfl rfl rfl rfl rfl rfl rfl rfl rfl ?_ | (apply qok_q; exact rfl))
          | (apply q_id; first | refine zk0 rfl rfl rfl rfl rfl ?_ | refine zk5 rfl rfl rfl rfl rfl ?_ | refine zk11 rfl rfl rfl rfl rfl ?_ | refine zk12 rfl rfl rfl rfl rfl (fun _ => ?_) | refine zk13 rfl rfl rfl rfl rfl rfl rfl ?_ | refine zk14 rfl rfl rfl rfl rfl rfl rfl ?_ | refine zk19 rfl rfl rfl rfl rfl ?_ | refine zk30 rfl rfl rfl rfl rfl rfl rfl ?_ | refine zk31 rfl rfl rfl rfl rfl rfl rfl rfl ?_)
          )
        refine Stop.mk ?_
        refine ret_intro [19] rfl rfl ?_ ?_
        repeat' (first
          | apply And.intro
          | (apply eq_b; exact rfl; exact Stop.mk (by with_reducible rfl))
          | (apply eq_b; exact rfl)
          | (apply eq_n; exact rfl; exact Stop.mk (by first | with_reducible rfl | omega))
          | (apply eq_n; exact rfl)
          | (apply eq_s; exact rfl; exact Stop.mk (by with_reducible rfl))
          | (apply eq_s; exact rfl)
          | (apply eq_sl; exact rfl; exact Stop.mk (by with_reducible rfl))
          | (apply eq_sl; exact rfl)
          | (apply eq_row; exact rfl; exact Stop.mk (by with_reducible rfl))
          | (apply eq_row; exact rfl)
          | (apply eq_agg; exact rfl)
          | (apply eq_cons; exact rfl)
          | (apply eq_boxo; exact rfl)
          | (apply cell_agg; exact rfl; exact rfl; exact rfl)
          | (apply cell_one; exact rfl; exact rfl)
          | exact rfl
          | trivial
          )
        all_goals exact Stop.mk rfl
set_option maxRecDepth 100000 in
set_option maxHeartbeats 4000000 in
theorem heapOf_e0 {L : List Due} (hL : L.length ≤ 1000000000) (h : heapOfF L = none) : ACalls Try.prog 43 [.d (.sl (dueE L))] [.nil, .d (.b false)] [] := by
  refine acalls_of tt Try.func43 rfl rfl rfl (fun w0 Z => ?_)
  repeat' (first
    | apply awp_seq
    | (apply awp_regionN; exact rfl)
    | (refine Hb.mk (fun hb => ?_); (first | rw [inB_t] at hb | rw [inB_f] at hb | rw [inB_nt] at hb | rw [inB_nf] at hb | rw [decide_eq_true_eq] at hb | rw [decide_eq_false_iff_not] at hb | rw [beq_iff_eq] at hb | rw [beq_eq_false_iff_ne] at hb | rw [Bool.not_eq_true'] at hb | rw [Bool.not_eq_false'] at hb | rw [bne_iff_ne] at hb | rw [bne_eq_false_iff_eq] at hb | skip); (first | (exfalso; omega) | (exact absurd rfl hb) | skip))
    | (apply aopG_ok; exact rfl)
    | apply ops_nil
    | (apply awp_cond_t; exact rfl)
    | (apply awp_cond_f; exact rfl)
    | (apply cond_x; exact rfl)
    | apply awp_block
    | apply awp_skip
    | apply awp_exit
    | apply awp_ret'
    | (first | (apply ops_cons; exact rfl) | (apply ops_yes; exact rfl; exact rfl; exact rfl))
    | (apply ops_x; exact rfl; exact rfl; (fail_if_success exact (rfl : _ = AV.d (.b true))); (fail_if_success exact (rfl : _ = AV.d (.b false))); exact rfl)
    | (apply op_id; first | refine zk35 rfl rfl rfl ⟨rfl, rfl, rfl⟩ rfl rfl rfl rfl rfl rfl rfl rfl rfl ?_ | refine zk38 rfl rfl rfl rfl rfl rfl rfl rfl rfl rfl ?_ | (apply qok_q; exact rfl))
    | (apply q_id; first | refine zk0 rfl rfl rfl rfl rfl ?_ | refine zk5 rfl rfl rfl rfl rfl ?_ | refine zk11 rfl rfl rfl rfl rfl ?_ | refine zk12 rfl rfl rfl rfl rfl (fun _ => ?_) | refine zk13 rfl rfl rfl rfl rfl rfl rfl ?_ | refine zk14 rfl rfl rfl rfl rfl rfl rfl ?_ | refine zk19 rfl rfl rfl rfl rfl ?_ | refine zk30 rfl rfl rfl rfl rfl rfl rfl ?_ | refine zk31 rfl rfl rfl rfl rfl rfl rfl rfl ?_)
    )
  refine awp_loop (fun (x : Nat × List Due × Bool) => match x with | (i, out, true) => ⟨27, [(4, .row 9), (10, .d (.sl (dueE L))), (11, .d (.n .i64 (L.length : Int))), (12, .d (.n .i64 i))], [(9, .row 25 (dueE out) true)]⟩ | (i, out, false) => ⟨27, [(4, .row 19), (10, .d (.sl (dueE L))), (11, .d (.n .i64 (L.length : Int))), (12, .d (.n .i64 i))], [(19, .row 25 (dueE out) true)]⟩) (fun x => ofF L x.1 = some x.2.1 ∧ x.1 ≤ L.length) (fun x => L.length - x.1) (0, [], true) (by exact ⟨rfl, Nat.zero_le _⟩) ?_ ?_
  · refine ⟨rfl, ?_, ?_, rfl⟩
    repeat' (first
      | apply And.intro
      | (apply eq_b; exact rfl; exact Stop.mk (by with_reducible rfl))
      | (apply eq_b; exact rfl)
      | (apply eq_n; exact rfl; exact Stop.mk (by first | with_reducible rfl | omega))
      | (apply eq_n; exact rfl)
      | (apply eq_s; exact rfl; exact Stop.mk (by with_reducible rfl))
      | (apply eq_s; exact rfl)
      | (apply eq_sl; exact rfl; exact Stop.mk (by with_reducible rfl))
      | (apply eq_sl; exact rfl)
      | (apply eq_row; exact rfl; exact Stop.mk (by with_reducible rfl))
      | (apply eq_row; exact rfl)
      | (apply eq_agg; exact rfl)
      | (apply eq_cons; exact rfl)
      | (apply eq_boxo; exact rfl)
      | (apply cell_agg; exact rfl; exact rfl; exact rfl)
      | (apply cell_one; exact rfl; exact rfl)
      | exact rfl
      | trivial
      )
    all_goals exact Stop.mk rfl
  · rintro ⟨i, out, fst⟩ ⟨hx, hi⟩
    dsimp only at hx hi
    have hol := (ofF_len hx).2
    by_cases hn : i < L.length
    · cases fst with
      | true =>
        refine awp_frz 9 rfl ?_
        cases hp : pushOkB out (nth L i) with
        | true =>
          repeat' (first
            | apply awp_seq
            | (apply awp_regionN; exact rfl)
            | (refine Hb.mk (fun hb => ?_); (first | rw [inB_t] at hb | rw [inB_f] at hb | rw [inB_nt] at hb | rw [inB_nf] at hb | rw [decide_eq_true_eq] at hb | rw [decide_eq_false_iff_not] at hb | rw [beq_iff_eq] at hb | rw [beq_eq_false_iff_ne] at hb | rw [Bool.not_eq_true'] at hb | rw [Bool.not_eq_false'] at hb | rw [bne_iff_ne] at hb | rw [bne_eq_false_iff_eq] at hb | skip); (first | (exfalso; omega) | (exact absurd rfl hb) | skip))
            | (apply aopG_ok; exact rfl)
            | apply ops_nil
            | (apply awp_cond_t; exact rfl)
            | (apply awp_cond_f; exact rfl)
            | (apply cond_x; exact rfl)
            | apply awp_block
            | apply awp_skip
            | apply awp_exit
            | apply awp_ret'
            | (first | (apply ops_cons; exact rfl) | (apply ops_yes; exact rfl; exact rfl; exact rfl))
            | (apply ops_x; exact rfl; exact rfl; (fail_if_success exact (rfl : _ = AV.d (.b true))); (fail_if_success exact (rfl : _ = AV.d (.b false))); exact rfl)
            | (apply op_id; first | refine zk35 rfl rfl rfl ⟨rfl, rfl, rfl⟩ rfl rfl rfl rfl rfl rfl rfl rfl rfl ?_ | refine zk38 rfl rfl rfl rfl rfl rfl rfl rfl rfl rfl ?_ | refine st_call (heapPush_e hp) rfl rfl rfl rfl rfl ?_ | (apply qok_q; exact rfl))
            | (apply q_id; first | refine zk0 rfl rfl rfl rfl rfl ?_ | refine zk5 rfl rfl rfl rfl rfl ?_ | refine zk11 rfl rfl rfl rfl rfl ?_ | refine zk12 rfl rfl rfl rfl rfl (fun _ => ?_) | refine zk13 rfl rfl rfl rfl rfl rfl rfl ?_ | refine zk14 rfl rfl rfl rfl rfl rfl rfl ?_ | refine zk19 rfl rfl rfl rfl rfl ?_ | refine zk30 rfl rfl rfl rfl rfl rfl rfl ?_ | refine zk31 rfl rfl rfl rfl rfl rfl rfl rfl ?_)
            )
          refine ⟨(i + 1, pushD out (nth L i), false), ⟨ofF_yes hx hp, by omega⟩, by dsimp only; omega, ?_⟩
          refine ⟨rfl, ?_, ?_, rfl⟩
          repeat' (first
            | apply And.intro
            | (apply eq_b; exact rfl; exact Stop.mk (by with_reducible rfl))
            | (apply eq_b; exact rfl)
            | (apply eq_n; exact rfl; exact Stop.mk (by first | with_reducible rfl | omega))
            | (apply eq_n; exact rfl)
            | (apply eq_s; exact rfl; exact Stop.mk (by with_reducible rfl))
            | (apply eq_s; exact rfl)
            | (apply eq_sl; exact rfl; exact Stop.mk (by with_reducible rfl))
            | (apply eq_sl; exact rfl)
            | (apply eq_row; exact rfl; exact Stop.mk (by with_reducible rfl))
            | (apply eq_row; exact rfl)
            | (apply eq_agg; exact rfl)
            | (apply eq_cons; exact rfl)
            | (apply eq_boxo; exact rfl)
            | (apply cell_agg; exact rfl; exact rfl; exact rfl)
            | (apply cell_one; exact rfl; exact rfl)
            | exact rfl
            | trivial
            )
          all_goals exact Stop.mk rfl
        | false =>
          repeat' (first
            | apply awp_seq
            | (apply awp_regionN; exact rfl)
            | (refine Hb.mk (fun hb => ?_); (first | rw [inB_t] at hb | rw [inB_f] at hb | rw [inB_nt] at hb | rw [inB_nf] at hb | rw [decide_eq_true_eq] at hb | rw [decide_eq_false_iff_not] at hb | rw [beq_iff_eq] at hb | rw [beq_eq_false_iff_ne] at hb | rw [Bool.not_eq_true'] at hb | rw [Bool.not_eq_false'] at hb | rw [bne_iff_ne] at hb | rw [bne_eq_false_iff_eq] at hb | skip); (first | (exfalso; omega) | (exact absurd rfl hb) | skip))
            | (apply aopG_ok; exact rfl)
            | apply ops_nil
            | (apply awp_cond_t; exact rfl)
            | (apply awp_cond_f; exact rfl)
            | (apply cond_x; exact rfl)
            | apply awp_block
            | apply awp_skip
            | apply awp_exit
            | apply awp_ret'
            | (first | (apply ops_cons; exact rfl) | (apply ops_yes; exact rfl; exact rfl; exact rfl))
            | (apply ops_x; exact rfl; exact rfl; (fail_if_success exact (rfl : _ = AV.d (.b true))); (fail_if_success exact (rfl : _ = AV.d (.b false))); exact rfl)
            | (apply op_id; first | refine zk35 rfl rfl rfl ⟨rfl, rfl, rfl⟩ rfl rfl rfl rfl rfl rfl rfl rfl rfl ?_ | refine zk38 rfl rfl rfl rfl rfl rfl rfl rfl rfl rfl ?_ | refine st_call (heapPush_e0 (by omega) hp) rfl rfl rfl rfl rfl ?_ | (apply qok_q; exact rfl))
            | (apply q_id; first | refine zk0 rfl rfl rfl rfl rfl ?_ | refine zk5 rfl rfl rfl rfl rfl ?_ | refine zk11 rfl rfl rfl rfl rfl ?_ | refine zk12 rfl rfl rfl rfl rfl (fun _ => ?_) | refine zk13 rfl rfl rfl rfl rfl rfl rfl ?_ | refine zk14 rfl rfl rfl rfl rfl rfl rfl ?_ | refine zk19 rfl rfl rfl rfl rfl ?_ | refine zk30 rfl rfl rfl rfl rfl rfl rfl ?_ | refine zk31 rfl rfl rfl rfl rfl rfl rfl rfl ?_)
            )
          refine Stop.mk ?_
          refine ret_intro [] rfl rfl ?_ ?_
          repeat' (first
            | apply And.intro
            | (apply eq_b; exact rfl; exact Stop.mk (by with_reducible rfl))
            | (apply eq_b; exact rfl)
            | (apply eq_n; exact rfl; exact Stop.mk (by first | with_reducible rfl | omega))
            | (apply eq_n; exact rfl)
            | (apply eq_s; exact rfl; exact Stop.mk (by with_reducible rfl))
            | (apply eq_s; exact rfl)
            | (apply eq_sl; exact rfl; exact Stop.mk (by with_reducible rfl))
            | (apply eq_sl; exact rfl)
            | (apply eq_row; exact rfl; exact Stop.mk (by with_reducible rfl))
            | (apply eq_row; exact rfl)
            | (apply eq_agg; exact rfl)
            | (apply eq_cons; exact rfl)
            | (apply eq_boxo; exact rfl)
            | (apply cell_agg; exact rfl; exact rfl; exact rfl)
            | (apply cell_one; exact rfl; exact rfl)
            | exact rfl
            | trivial
            )
          all_goals exact Stop.mk rfl
      | false =>
        refine awp_frz 19 rfl ?_
        cases hp : pushOkB out (nth L i) with
        | true =>
          repeat' (first
            | apply awp_seq
            | (apply awp_regionN; exact rfl)
            | (refine Hb.mk (fun hb => ?_); (first | rw [inB_t] at hb | rw [inB_f] at hb | rw [inB_nt] at hb | rw [inB_nf] at hb | rw [decide_eq_true_eq] at hb | rw [decide_eq_false_iff_not] at hb | rw [beq_iff_eq] at hb | rw [beq_eq_false_iff_ne] at hb | rw [Bool.not_eq_true'] at hb | rw [Bool.not_eq_false'] at hb | rw [bne_iff_ne] at hb | rw [bne_eq_false_iff_eq] at hb | skip); (first | (exfalso; omega) | (exact absurd rfl hb) | skip))
            | (apply aopG_ok; exact rfl)
            | apply ops_nil
            | (apply awp_cond_t; exact rfl)
            | (apply awp_cond_f; exact rfl)
            | (apply cond_x; exact rfl)
            | apply awp_block
            | apply awp_skip
            | apply awp_exit
            | apply awp_ret'
            | (first | (apply ops_cons; exact rfl) | (apply ops_yes; exact rfl; exact rfl; exact rfl))
            | (apply ops_x; exact rfl; exact rfl; (fail_if_success exact (rfl : _ = AV.d (.b true))); (fail_if_success exact (rfl : _ = AV.d (.b false))); exact rfl)
            | (apply op_id; first | refine zk35 rfl rfl rfl ⟨rfl, rfl, rfl⟩ rfl rfl rfl rfl rfl rfl rfl rfl rfl ?_ | refine zk38 rfl rfl rfl rfl rfl rfl rfl rfl rfl rfl ?_ | refine st_call (heapPush_e hp) rfl rfl rfl rfl rfl ?_ | (apply qok_q; exact rfl))
            | (apply q_id; first | refine zk0 rfl rfl rfl rfl rfl ?_ | refine zk5 rfl rfl rfl rfl rfl ?_ | refine zk11 rfl rfl rfl rfl rfl ?_ | refine zk12 rfl rfl rfl rfl rfl (fun _ => ?_) | refine zk13 rfl rfl rfl rfl rfl rfl rfl ?_ | refine zk14 rfl rfl rfl rfl rfl rfl rfl ?_ | refine zk19 rfl rfl rfl rfl rfl ?_ | refine zk30 rfl rfl rfl rfl rfl rfl rfl ?_ | refine zk31 rfl rfl rfl rfl rfl rfl rfl rfl ?_)
            )
          refine ⟨(i + 1, pushD out (nth L i), false), ⟨ofF_yes hx hp, by omega⟩, by dsimp only; omega, ?_⟩
          refine ⟨rfl, ?_, ?_, rfl⟩
          repeat' (first
            | apply And.intro
            | (apply eq_b; exact rfl; exact Stop.mk (by with_reducible rfl))
            | (apply eq_b; exact rfl)
            | (apply eq_n; exact rfl; exact Stop.mk (by first | with_reducible rfl | omega))
            | (apply eq_n; exact rfl)
            | (apply eq_s; exact rfl; exact Stop.mk (by with_reducible rfl))
            | (apply eq_s; exact rfl)
            | (apply eq_sl; exact rfl; exact Stop.mk (by with_reducible rfl))
            | (apply eq_sl; exact rfl)
            | (apply eq_row; exact rfl; exact Stop.mk (by with_reducible rfl))
            | (apply eq_row; exact rfl)
            | (apply eq_agg; exact rfl)
            | (apply eq_cons; exact rfl)
            | (apply eq_boxo; exact rfl)
            | (apply cell_agg; exact rfl; exact rfl; exact rfl)
            | (apply cell_one; exact rfl; exact rfl)
            | exact rfl
            | trivial
            )
          all_goals exact Stop.mk rfl
        | false =>
          repeat' (first
            | apply awp_seq
            | (apply awp_regionN; exact rfl)
            | (refine Hb.mk (fun hb => ?_); (first | rw [inB_t] at hb | rw [inB_f] at hb | rw [inB_nt] at hb | rw [inB_nf] at hb | rw [decide_eq_true_eq] at hb | rw [decide_eq_false_iff_not] at hb | rw [beq_iff_eq] at hb | rw [beq_eq_false_iff_ne] at hb | rw [Bool.not_eq_true'] at hb | rw [Bool.not_eq_false'] at hb | rw [bne_iff_ne] at hb | rw [bne_eq_false_iff_eq] at hb | skip); (first | (exfalso; omega) | (exact absurd rfl hb) | skip))
            | (apply aopG_ok; exact rfl)
            | apply ops_nil
            | (apply awp_cond_t; exact rfl)
            | (apply awp_cond_f; exact rfl)
            | (apply cond_x; exact rfl)
            | apply awp_block
            | apply awp_skip
            | apply awp_exit
            | apply awp_ret'
            | (first | (apply ops_cons; exact rfl) | (apply ops_yes; exact rfl; exact rfl; exact rfl))
            | (apply ops_x; exact rfl; exact rfl; (fail_if_success exact (rfl : _ = AV.d (.b true))); (fail_if_success exact (rfl : _ = AV.d (.b false))); exact rfl)
            | (apply op_id; first | refine zk35 rfl rfl rfl ⟨rfl, rfl, rfl⟩ rfl rfl rfl rfl rfl rfl rfl rfl rfl ?_ | refine zk38 rfl rfl rfl rfl rfl rfl rfl rfl rfl rfl ?_ | refine st_call (heapPush_e0 (by omega) hp) rfl rfl rfl rfl rfl ?_ | (apply qok_q; exact rfl))
            | (apply q_id; first | refine zk0 rfl rfl rfl rfl rfl ?_ | refine zk5 rfl rfl rfl rfl rfl ?_ | refine zk11 rfl rfl rfl rfl rfl ?_ | refine zk12 rfl rfl rfl rfl rfl (fun _ => ?_) | refine zk13 rfl rfl rfl rfl rfl rfl rfl ?_ | refine zk14 rfl rfl rfl rfl rfl rfl rfl ?_ | refine zk19 rfl rfl rfl rfl rfl ?_ | refine zk30 rfl rfl rfl rfl rfl rfl rfl ?_ | refine zk31 rfl rfl rfl rfl rfl rfl rfl rfl ?_)
            )
          refine Stop.mk ?_
          refine ret_intro [] rfl rfl ?_ ?_
          repeat' (first
            | apply And.intro
            | (apply eq_b; exact rfl; exact Stop.mk (by with_reducible rfl))
            | (apply eq_b; exact rfl)
            | (apply eq_n; exact rfl; exact Stop.mk (by first | with_reducible rfl | omega))
            | (apply eq_n; exact rfl)
            | (apply eq_s; exact rfl; exact Stop.mk (by with_reducible rfl))
            | (apply eq_s; exact rfl)
            | (apply eq_sl; exact rfl; exact Stop.mk (by with_reducible rfl))
            | (apply eq_sl; exact rfl)
            | (apply eq_row; exact rfl; exact Stop.mk (by with_reducible rfl))
            | (apply eq_row; exact rfl)
            | (apply eq_agg; exact rfl)
            | (apply eq_cons; exact rfl)
            | (apply eq_boxo; exact rfl)
            | (apply cell_agg; exact rfl; exact rfl; exact rfl)
            | (apply cell_one; exact rfl; exact rfl)
            | exact rfl
            | trivial
            )
          all_goals exact Stop.mk rfl
    · obtain rfl : i = L.length := by omega
      exact absurd (hx.symm.trans h) (fun e => by cases e)
set_option maxRecDepth 100000 in
set_option maxHeartbeats 4000000 in
theorem heapOf_s0 {L : List Due} (hL : L.length ≤ 1000000000) (h : heapOfF L = none) : ACalls Try.prog 42 [.d (.sl (dueE L))] [.nil, .d (.b false)] [] := by
  refine acalls_of tt Try.func42 rfl rfl rfl (fun w0 Z => ?_)
  repeat' (first
    | apply awp_seq
    | (apply awp_regionN; exact rfl)
    | (refine Hb.mk (fun hb => ?_); (first | rw [inB_t] at hb | rw [inB_f] at hb | rw [inB_nt] at hb | rw [inB_nf] at hb | rw [decide_eq_true_eq] at hb | rw [decide_eq_false_iff_not] at hb | rw [beq_iff_eq] at hb | rw [beq_eq_false_iff_ne] at hb | rw [Bool.not_eq_true'] at hb | rw [Bool.not_eq_false'] at hb | rw [bne_iff_ne] at hb | rw [bne_eq_false_iff_eq] at hb | skip); (first | (exfalso; omega) | (exact absurd rfl hb) | skip))
    | (apply aopG_ok; exact rfl)
    | apply ops_nil
    | (apply awp_cond_t; exact rfl)
    | (apply awp_cond_f; exact rfl)
    | (apply cond_x; exact rfl)
    | apply awp_block
    | apply awp_skip
    | apply awp_exit
    | apply awp_ret'
    | (first | (apply ops_cons; exact rfl) | (apply ops_yes; exact rfl; exact rfl; exact rfl))
    | (apply ops_x; exact rfl; exact rfl; (fail_if_success exact (rfl : _ = AV.d (.b true))); (fail_if_success exact (rfl : _ = AV.d (.b false))); exact rfl)
    | (apply op_id; first | refine zk35 rfl rfl rfl ⟨rfl, rfl, rfl⟩ rfl rfl rfl rfl rfl rfl rfl rfl rfl ?_ | refine zk38 rfl rfl rfl rfl rfl rfl rfl rfl rfl rfl ?_ | (apply qok_q; exact rfl))
    | (apply q_id; first | refine zk0 rfl rfl rfl rfl rfl ?_ | refine zk5 rfl rfl rfl rfl rfl ?_ | refine zk11 rfl rfl rfl rfl rfl ?_ | refine zk12 rfl rfl rfl rfl rfl (fun _ => ?_) | refine zk13 rfl rfl rfl rfl rfl rfl rfl ?_ | refine zk14 rfl rfl rfl rfl rfl rfl rfl ?_ | refine zk19 rfl rfl rfl rfl rfl ?_ | refine zk30 rfl rfl rfl rfl rfl rfl rfl ?_ | refine zk31 rfl rfl rfl rfl rfl rfl rfl rfl ?_)
    )
  refine awp_loop (fun (x : Nat × List Due × Bool) => match x with | (i, out, true) => ⟨27, [(4, .row 9), (10, .d (.sl (dueE L))), (11, .d (.n .i64 (L.length : Int))), (12, .d (.n .i64 i))], [(9, .row 25 (dueE out) true)]⟩ | (i, out, false) => ⟨27, [(4, .row 19), (10, .d (.sl (dueE L))), (11, .d (.n .i64 (L.length : Int))), (12, .d (.n .i64 i))], [(19, .row 25 (dueE out) true)]⟩) (fun x => ofF L x.1 = some x.2.1 ∧ x.1 ≤ L.length) (fun x => L.length - x.1) (0, [], true) (by exact ⟨rfl, Nat.zero_le _⟩) ?_ ?_
  · refine ⟨rfl, ?_, ?_, rfl⟩
    repeat' (first
      | apply And.intro
      | (apply eq_b; exact rfl; exact Stop.mk (by with_reducible rfl))
      | (apply eq_b; exact rfl)
      | (apply eq_n; exact rfl; exact Stop.mk (by first | with_reducible rfl | omega))
      | (apply eq_n; exact rfl)
      | (apply eq_s; exact rfl; exact Stop.mk (by with_reducible rfl))
      | (apply eq_s; exact rfl)
      | (apply eq_sl; exact rfl; exact Stop.mk (by with_reducible rfl))
      | (apply eq_sl; exact rfl)
      | (apply eq_row; exact rfl; exact Stop.mk (by with_reducible rfl))
      | (apply eq_row; exact rfl)
      | (apply eq_agg; exact rfl)
      | (apply eq_cons; exact rfl)
      | (apply eq_boxo; exact rfl)
      | (apply cell_agg; exact rfl; exact rfl; exact rfl)
      | (apply cell_one; exact rfl; exact rfl)
      | exact rfl
      | trivial
      )
    all_goals exact Stop.mk rfl
  · rintro ⟨i, out, fst⟩ ⟨hx, hi⟩
    dsimp only at hx hi
    have hol := (ofF_len hx).2
    by_cases hn : i < L.length
    · cases fst with
      | true =>
        refine awp_frz 9 rfl ?_
        cases hp : pushOkB out (nth L i) with
        | true =>
          repeat' (first
            | apply awp_seq
            | (apply awp_regionN; exact rfl)
            | (refine Hb.mk (fun hb => ?_); (first | rw [inB_t] at hb | rw [inB_f] at hb | rw [inB_nt] at hb | rw [inB_nf] at hb | rw [decide_eq_true_eq] at hb | rw [decide_eq_false_iff_not] at hb | rw [beq_iff_eq] at hb | rw [beq_eq_false_iff_ne] at hb | rw [Bool.not_eq_true'] at hb | rw [Bool.not_eq_false'] at hb | rw [bne_iff_ne] at hb | rw [bne_eq_false_iff_eq] at hb | skip); (first | (exfalso; omega) | (exact absurd rfl hb) | skip))
            | (apply aopG_ok; exact rfl)
            | apply ops_nil
            | (apply awp_cond_t; exact rfl)
            | (apply awp_cond_f; exact rfl)
            | (apply cond_x; exact rfl)
            | apply awp_block
            | apply awp_skip
            | apply awp_exit
            | apply awp_ret'
            | (first | (apply ops_cons; exact rfl) | (apply ops_yes; exact rfl; exact rfl; exact rfl))
            | (apply ops_x; exact rfl; exact rfl; (fail_if_success exact (rfl : _ = AV.d (.b true))); (fail_if_success exact (rfl : _ = AV.d (.b false))); exact rfl)
            | (apply op_id; first | refine zk35 rfl rfl rfl ⟨rfl, rfl, rfl⟩ rfl rfl rfl rfl rfl rfl rfl rfl rfl ?_ | refine zk38 rfl rfl rfl rfl rfl rfl rfl rfl rfl rfl ?_ | refine st_call (heapPush_s hp) rfl rfl rfl rfl rfl ?_ | (apply qok_q; exact rfl))
            | (apply q_id; first | refine zk0 rfl rfl rfl rfl rfl ?_ | refine zk5 rfl rfl rfl rfl rfl ?_ | refine zk11 rfl rfl rfl rfl rfl ?_ | refine zk12 rfl rfl rfl rfl rfl (fun _ => ?_) | refine zk13 rfl rfl rfl rfl rfl rfl rfl ?_ | refine zk14 rfl rfl rfl rfl rfl rfl rfl ?_ | refine zk19 rfl rfl rfl rfl rfl ?_ | refine zk30 rfl rfl rfl rfl rfl rfl rfl ?_ | refine zk31 rfl rfl rfl rfl rfl rfl rfl rfl ?_)
            )
          refine ⟨(i + 1, pushD out (nth L i), false), ⟨ofF_yes hx hp, by omega⟩, by dsimp only; omega, ?_⟩
          refine ⟨rfl, ?_, ?_, rfl⟩
          repeat' (first
            | apply And.intro
            | (apply eq_b; exact rfl; exact Stop.mk (by with_reducible rfl))
            | (apply eq_b; exact rfl)
            | (apply eq_n; exact rfl; exact Stop.mk (by first | with_reducible rfl | omega))
            | (apply eq_n; exact rfl)
            | (apply eq_s; exact rfl; exact Stop.mk (by with_reducible rfl))
            | (apply eq_s; exact rfl)
            | (apply eq_sl; exact rfl; exact Stop.mk (by with_reducible rfl))
            | (apply eq_sl; exact rfl)
            | (apply eq_row; exact rfl; exact Stop.mk (by with_reducible rfl))
            | (apply eq_row; exact rfl)
            | (apply eq_agg; exact rfl)
            | (apply eq_cons; exact rfl)
            | (apply eq_boxo; exact rfl)
            | (apply cell_agg; exact rfl; exact rfl; exact rfl)
            | (apply cell_one; exact rfl; exact rfl)
            | exact rfl
            | trivial
            )
          all_goals exact Stop.mk rfl
        | false =>
          repeat' (first
            | apply awp_seq
            | (apply awp_regionN; exact rfl)
            | (refine Hb.mk (fun hb => ?_); (first | rw [inB_t] at hb | rw [inB_f] at hb | rw [inB_nt] at hb | rw [inB_nf] at hb | rw [decide_eq_true_eq] at hb | rw [decide_eq_false_iff_not] at hb | rw [beq_iff_eq] at hb | rw [beq_eq_false_iff_ne] at hb | rw [Bool.not_eq_true'] at hb | rw [Bool.not_eq_false'] at hb | rw [bne_iff_ne] at hb | rw [bne_eq_false_iff_eq] at hb | skip); (first | (exfalso; omega) | (exact absurd rfl hb) | skip))
            | (apply aopG_ok; exact rfl)
            | apply ops_nil
            | (apply awp_cond_t; exact rfl)
            | (apply awp_cond_f; exact rfl)
            | (apply cond_x; exact rfl)
            | apply awp_block
            | apply awp_skip
            | apply awp_exit
            | apply awp_ret'
            | (first | (apply ops_cons; exact rfl) | (apply ops_yes; exact rfl; exact rfl; exact rfl))
            | (apply ops_x; exact rfl; exact rfl; (fail_if_success exact (rfl : _ = AV.d (.b true))); (fail_if_success exact (rfl : _ = AV.d (.b false))); exact rfl)
            | (apply op_id; first | refine zk35 rfl rfl rfl ⟨rfl, rfl, rfl⟩ rfl rfl rfl rfl rfl rfl rfl rfl rfl ?_ | refine zk38 rfl rfl rfl rfl rfl rfl rfl rfl rfl rfl ?_ | refine st_call (heapPush_s0 (by omega) hp) rfl rfl rfl rfl rfl ?_ | (apply qok_q; exact rfl))
            | (apply q_id; first | refine zk0 rfl rfl rfl rfl rfl ?_ | refine zk5 rfl rfl rfl rfl rfl ?_ | refine zk11 rfl rfl rfl rfl rfl ?_ | refine zk12 rfl rfl rfl rfl rfl (fun _ => ?_) | refine zk13 rfl rfl rfl rfl rfl rfl rfl ?_ | refine zk14 rfl rfl rfl rfl rfl rfl rfl ?_ | refine zk19 rfl rfl rfl rfl rfl ?_ | refine zk30 rfl rfl rfl rfl rfl rfl rfl ?_ | refine zk31 rfl rfl rfl rfl rfl rfl rfl rfl ?_)
            )
          refine Stop.mk ?_
          refine ret_intro [] rfl rfl ?_ ?_
          repeat' (first
            | apply And.intro
            | (apply eq_b; exact rfl; exact Stop.mk (by with_reducible rfl))
            | (apply eq_b; exact rfl)
            | (apply eq_n; exact rfl; exact Stop.mk (by first | with_reducible rfl | omega))
            | (apply eq_n; exact rfl)
            | (apply eq_s; exact rfl; exact Stop.mk (by with_reducible rfl))
            | (apply eq_s; exact rfl)
            | (apply eq_sl; exact rfl; exact Stop.mk (by with_reducible rfl))
            | (apply eq_sl; exact rfl)
            | (apply eq_row; exact rfl; exact Stop.mk (by with_reducible rfl))
            | (apply eq_row; exact rfl)
            | (apply eq_agg; exact rfl)
            | (apply eq_cons; exact rfl)
            | (apply eq_boxo; exact rfl)
            | (apply cell_agg; exact rfl; exact rfl; exact rfl)
            | (apply cell_one; exact rfl; exact rfl)
            | exact rfl
            | trivial
            )
          all_goals exact Stop.mk rfl
      | false =>
        refine awp_frz 19 rfl ?_
        cases hp : pushOkB out (nth L i) with
        | true =>
          repeat' (first
            | apply awp_seq
            | (apply awp_regionN; exact rfl)
            | (refine Hb.mk (fun hb => ?_); (first | rw [inB_t] at hb | rw [inB_f] at hb | rw [inB_nt] at hb | rw [inB_nf] at hb | rw [decide_eq_true_eq] at hb | rw [decide_eq_false_iff_not] at hb | rw [beq_iff_eq] at hb | rw [beq_eq_false_iff_ne] at hb | rw [Bool.not_eq_true'] at hb | rw [Bool.not_eq_false'] at hb | rw [bne_iff_ne] at hb | rw [bne_eq_false_iff_eq] at hb | skip); (first | (exfalso; omega) | (exact absurd rfl hb) | skip))
            | (apply aopG_ok; exact rfl)
            | apply ops_nil
            | (apply awp_cond_t; exact rfl)
            | (apply awp_cond_f; exact rfl)
            | (apply cond_x; exact rfl)
            | apply awp_block
            | apply awp_skip
            | apply awp_exit
            | apply awp_ret'
            | (first | (apply ops_cons; exact rfl) | (apply ops_yes; exact rfl; exact rfl; exact rfl))
            | (apply ops_x; exact rfl; exact rfl; (fail_if_success exact (rfl : _ = AV.d (.b true))); (fail_if_success exact (rfl : _ = AV.d (.b false))); exact rfl)
            | (apply op_id; first | refine zk35 rfl rfl rfl ⟨rfl, rfl, rfl⟩ rfl rfl rfl rfl rfl rfl rfl rfl rfl ?_ | refine zk38 rfl rfl rfl rfl rfl rfl rfl rfl rfl rfl ?_ | refine st_call (heapPush_s hp) rfl rfl rfl rfl rfl ?_ | (apply qok_q; exact rfl))
            | (apply q_id; first | refine zk0 rfl rfl rfl rfl rfl ?_ | refine zk5 rfl rfl rfl rfl rfl ?_ | refine zk11 rfl rfl rfl rfl rfl ?_ | refine zk12 rfl rfl rfl rfl rfl (fun _ => ?_) | refine zk13 rfl rfl rfl rfl rfl rfl rfl ?_ | refine zk14 rfl rfl rfl rfl rfl rfl rfl ?_ | refine zk19 rfl rfl rfl rfl rfl ?_ | refine zk30 rfl rfl rfl rfl rfl rfl rfl ?_ | refine zk31 rfl rfl rfl rfl rfl rfl rfl rfl ?_)
            )
          refine ⟨(i + 1, pushD out (nth L i), false), ⟨ofF_yes hx hp, by omega⟩, by dsimp only; omega, ?_⟩
          refine ⟨rfl, ?_, ?_, rfl⟩
          repeat' (first
            | apply And.intro
            | (apply eq_b; exact rfl; exact Stop.mk (by with_reducible rfl))
            | (apply eq_b; exact rfl)
            | (apply eq_n; exact rfl; exact Stop.mk (by first | with_reducible rfl | omega))
            | (apply eq_n; exact rfl)
            | (apply eq_s; exact rfl; exact Stop.mk (by with_reducible rfl))
            | (apply eq_s; exact rfl)
            | (apply eq_sl; exact rfl; exact Stop.mk (by with_reducible rfl))
            | (apply eq_sl; exact rfl)
            | (apply eq_row; exact rfl; exact Stop.mk (by with_reducible rfl))
            | (apply eq_row; exact rfl)
            | (apply eq_agg; exact rfl)
            | (apply eq_cons; exact rfl)
            | (apply eq_boxo; exact rfl)
            | (apply cell_agg; exact rfl; exact rfl; exact rfl)
            | (apply cell_one; exact rfl; exact rfl)
            | exact rfl
            | trivial
            )
          all_goals exact Stop.mk rfl
        | false =>
          repeat' (first
            | apply awp_seq
            | (apply awp_regionN; exact rfl)
            | (refine Hb.mk (fun hb => ?_); (first | rw [inB_t] at hb | rw [inB_f] at hb | rw [inB_nt] at hb | rw [inB_nf] at hb | rw [decide_eq_true_eq] at hb | rw [decide_eq_false_iff_not] at hb | rw [beq_iff_eq] at hb | rw [beq_eq_false_iff_ne] at hb | rw [Bool.not_eq_true'] at hb | rw [Bool.not_eq_false'] at hb | rw [bne_iff_ne] at hb | rw [bne_eq_false_iff_eq] at hb | skip); (first | (exfalso; omega) | (exact absurd rfl hb) | skip))
            | (apply aopG_ok; exact rfl)
            | apply ops_nil
            | (apply awp_cond_t; exact rfl)
            | (apply awp_cond_f; exact rfl)
            | (apply cond_x; exact rfl)
            | apply awp_block
            | apply awp_skip
            | apply awp_exit
            | apply awp_ret'
            | (first | (apply ops_cons; exact rfl) | (apply ops_yes; exact rfl; exact rfl; exact rfl))
            | (apply ops_x; exact rfl; exact rfl; (fail_if_success exact (rfl : _ = AV.d (.b true))); (fail_if_success exact (rfl : _ = AV.d (.b false))); exact rfl)
            | (apply op_id; first | refine zk35 rfl rfl rfl ⟨rfl, rfl, rfl⟩ rfl rfl rfl rfl rfl rfl rfl rfl rfl ?_ | refine zk38 rfl rfl rfl rfl rfl rfl rfl rfl rfl rfl ?_ | refine st_call (heapPush_s0 (by omega) hp) rfl rfl rfl rfl rfl ?_ | (apply qok_q; exact rfl))
            | (apply q_id; first | refine zk0 rfl rfl rfl rfl rfl ?_ | refine zk5 rfl rfl rfl rfl rfl ?_ | refine zk11 rfl rfl rfl rfl rfl ?_ | refine zk12 rfl rfl rfl rfl rfl (fun _ => ?_) | refine zk13 rfl rfl rfl rfl rfl rfl rfl ?_ | refine zk14 rfl rfl rfl rfl rfl rfl rfl ?_ | refine zk19 rfl rfl rfl rfl rfl ?_ | refine zk30 rfl rfl rfl rfl rfl rfl rfl ?_ | refine zk31 rfl rfl rfl rfl rfl rfl rfl rfl ?_)
            )
          refine Stop.mk ?_
          refine ret_intro [] rfl rfl ?_ ?_
          repeat' (first
            | apply And.intro
            | (apply eq_b; exact rfl; exact Stop.mk (by with_reducible rfl))
            | (apply eq_b; exact rfl)
            | (apply eq_n; exact rfl; exact Stop.mk (by first | with_reducible rfl | omega))
            | (apply eq_n; exact rfl)
            | (apply eq_s; exact rfl; exact Stop.mk (by with_reducible rfl))
            | (apply eq_s; exact rfl)
            | (apply eq_sl; exact rfl; exact Stop.mk (by with_reducible rfl))
            | (apply eq_sl; exact rfl)
            | (apply eq_row; exact rfl; exact Stop.mk (by with_reducible rfl))
            | (apply eq_row; exact rfl)
            | (apply eq_agg; exact rfl)
            | (apply eq_cons; exact rfl)
            | (apply eq_boxo; exact rfl)
            | (apply cell_agg; exact rfl; exact rfl; exact rfl)
            | (apply cell_one; exact rfl; exact rfl)
            | exact rfl
            | trivial
            )
          all_goals exact Stop.mk rfl
    · obtain rfl : i = L.length := by omega
      exact absurd (hx.symm.trans h) (fun e => by cases e)
end Go.Proofs.Ythmajaeekkbnnaa
