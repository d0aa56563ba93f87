/-
  Journals of a law: copies, equality, size, marks; the law of JournalOk, without its argument.
-/
import Derived.Test.YthmajaeekkbnnaaSh
import Derived.Test.YthmajaeekkbnnaaTxV
namespace Go.Proofs.Ythmajaeekkbnnaa
open Go Go.RowKit
attribute [local irreducible] AWp OpsOk OpOk ACalls ChA QsOk MCalls

theorem bytes_of : ∀ {es : List (List D)}, (∀ q ∈ es, ∃ z, q = [D.n .u8 z] ∧ (Lit.int .u8 z).wf = true) → ∃ b, es = byteE b
  | [], _ => ⟨[], rfl⟩
  | q :: es, h => by
    obtain ⟨z, rfl, hz⟩ := h q List.mem_cons_self
    obtain ⟨b, rfl⟩ := bytes_of (es := es) fun q hq => h q (List.mem_cons_of_mem _ hq)
    have hz' : 0 ≤ z ∧ z ≤ 255 := by
      simp [Lit.wf, IntKind.min, IntKind.max, IntKind.signed, IntKind.bits] at hz
      omega
    refine ⟨UInt8.ofNat z.toNat :: b, ?_⟩
    have := byteE_one hz'
    simp only [byteE, List.map_cons, List.map_nil, List.cons.injEq, and_true] at this ⊢
    exact this
def szX (n : Nat) (x : Int) : Int := if x - n < 0 then -1 else x - n
theorem szX_no {n : Nat} {x : Int} (h : x - n < 0) : szX n x = -1 := if_pos h
theorem szX_yes {n : Nat} {x : Int} (h : ¬ x - n < 0) : szX n x = x - n := if_neg h
set_option maxRecDepth 100000 in
theorem szByteS_e {b : List UInt8} {x : Int} (h : b.length ≤ 9223372036854775807) (hx : 0 ≤ x ∧ x ≤ 1000000000) : ACalls Try.prog 112 [.d (.sl (byteE b)), .d (.n .i64 x)] [.d (.n .i64 (szX b.length x))] [] := by
  refine acalls_of tt Try.func112 rfl rfl rfl (fun w0 Z => ?_)
  repeat' (first
    | apply awp_seq
    | (apply awp_regionN; exact rfl)
    | (refine Hb.mk (fun hb => ?_); (first | rw [inB_t] at hb | rw [inB_f] at hb | rw [inB_nt] at hb | rw [inB_nf] at hb | rw [decide_eq_true_eq] at hb | rw [decide_eq_false_iff_not] at hb | rw [beq_iff_eq] at hb | rw [beq_eq_false_iff_ne] at hb | rw [Bool.not_eq_true'] at hb | rw [Bool.not_eq_false'] at hb | rw [bne_iff_ne] at hb | rw [bne_eq_false_iff_eq] at hb | skip); (first | (exfalso; omega) | (exact absurd rfl hb) | skip))
    | (apply aopG_ok; exact rfl)
    | apply ops_nil
    | (apply awp_cond_t; exact rfl)
    | (apply awp_cond_f; exact rfl)
    | (apply cond_x; exact rfl)
    | apply awp_block
    | apply awp_skip
    | apply awp_exit
    | apply awp_ret'
    | (first | (apply ops_cons; exact rfl) | (apply ops_yes; exact rfl; exact rfl; exact rfl))
    | (apply ops_x; exact rfl; exact rfl; (fail_if_success exact (rfl : _ = AV.d (.b true))); (fail_if_success exact (rfl : _ = AV.d (.b false))); exact rfl)
    | (apply op_id; first | (apply qok_q; exact rfl))
    | (apply q_id; first | refine zk1 rfl rfl rfl rfl rfl ?_ | refine zk6 rfl rfl rfl rfl rfl ?_ | refine zk10 rfl rfl rfl rfl rfl ?_ | refine zk11 rfl rfl rfl rfl rfl ?_ | refine zk12 rfl rfl rfl rfl rfl (fun _ => ?_))
    )
  · rw [szX_no (by omega)]
    refine Stop.mk ?_
    refine ret_intro [] rfl rfl ?_ ?_
    repeat' (first
      | apply And.intro
      | (apply eq_b; exact rfl; exact Stop.mk (by with_reducible rfl))
      | (apply eq_b; exact rfl)
      | (apply eq_n; exact rfl; exact Stop.mk (by first | with_reducible rfl | omega))
      | (apply eq_n; exact rfl)
      | (apply eq_s; exact rfl; exact Stop.mk (by with_reducible rfl))
      | (apply eq_s; exact rfl)
      | (apply eq_sl; exact rfl; exact Stop.mk (by with_reducible rfl))
      | (apply eq_sl; exact rfl)
      | (apply eq_row; exact rfl; exact Stop.mk (by with_reducible rfl))
      | (apply eq_row; exact rfl)
      | (apply eq_agg; exact rfl)
      | (apply eq_cons; exact rfl)
      | (apply eq_boxo; exact rfl)
      | (apply cell_agg; exact rfl; exact rfl; exact rfl)
      | (apply cell_one; exact rfl; exact rfl)
      | exact rfl
      | trivial
      )
    all_goals exact Stop.mk rfl
  · rw [szX_yes (by omega)]
    refine Stop.mk ?_
    refine ret_intro [] rfl rfl ?_ ?_
    repeat' (first
      | apply And.intro
      | (apply eq_b; exact rfl; exact Stop.mk (by with_reducible rfl))
      | (apply eq_b; exact rfl)
      | (apply eq_n; exact rfl; exact Stop.mk (by first | with_reducible rfl | omega))
      | (apply eq_n; exact rfl)
      | (apply eq_s; exact rfl; exact Stop.mk (by with_reducible rfl))
      | (apply eq_s; exact rfl)
      | (apply eq_sl; exact rfl; exact Stop.mk (by with_reducible rfl))
      | (apply eq_sl; exact rfl)
      | (apply eq_row; exact rfl; exact Stop.mk (by with_reducible rfl))
      | (apply eq_row; exact rfl)
      | (apply eq_agg; exact rfl)
      | (apply eq_cons; exact rfl)
      | (apply eq_boxo; exact rfl)
      | (apply cell_agg; exact rfl; exact rfl; exact rfl)
      | (apply cell_one; exact rfl; exact rfl)
      | exact rfl
      | trivial
      )
    all_goals exact Stop.mk rfl
set_option maxRecDepth 100000 in
theorem szJournal_e {j : Journal} {x : Int} (h : j.bytes.length ≤ 9223372036854775807) (hx : 0 ≤ x ∧ x ≤ 1000000000) : ACalls Try.prog 57 [jnA j, .d (.n .i64 x)] [.d (.n .i64 (szX j.bytes.length x))] [] := by
  refine acalls_of tt Try.func57 rfl rfl rfl (fun w0 Z => ?_)
  repeat' (first
    | apply awp_seq
    | (apply awp_regionN; exact rfl)
    | (refine Hb.mk (fun hb => ?_); (first | rw [inB_t] at hb | rw [inB_f] at hb | rw [inB_nt] at hb | rw [inB_nf] at hb | rw [decide_eq_true_eq] at hb | rw [decide_eq_false_iff_not] at hb | rw [beq_iff_eq] at hb | rw [beq_eq_false_iff_ne] at hb | rw [Bool.not_eq_true'] at hb | rw [Bool.not_eq_false'] at hb | rw [bne_iff_ne] at hb | rw [bne_eq_false_iff_eq] at hb | skip); (first | (exfalso; omega) | (exact absurd rfl hb) | skip))
    | (apply aopG_ok; exact rfl)
    | apply ops_nil
    | (apply awp_cond_t; exact rfl)
    | (apply awp_cond_f; exact rfl)
    | (apply cond_x; exact rfl)
    | apply awp_block
    | apply awp_skip
    | apply awp_exit
    | apply awp_ret'
    | (first | (apply ops_cons; exact rfl) | (apply ops_yes; exact rfl; exact rfl; exact rfl))
    | (apply ops_x; exact rfl; exact rfl; (fail_if_success exact (rfl : _ = AV.d (.b true))); (fail_if_success exact (rfl : _ = AV.d (.b false))); exact rfl)
    | (apply op_id; first | refine st_call (szByteS_e h hx) rfl rfl rfl rfl rfl ?_)
    )
  · have : szX j.bytes.length x = -1 := by
      unfold szX at *
      split
      · rfl
      · rw [if_neg (by assumption)] at hb; omega
    rw [this]
    refine Stop.mk ?_
    refine ret_intro [] rfl rfl ?_ ?_
    repeat' (first
      | apply And.intro
      | (apply eq_b; exact rfl; exact Stop.mk (by with_reducible rfl))
      | (apply eq_b; exact rfl)
      | (apply eq_n; exact rfl; exact Stop.mk (by first | with_reducible rfl | omega))
      | (apply eq_n; exact rfl)
      | (apply eq_s; exact rfl; exact Stop.mk (by with_reducible rfl))
      | (apply eq_s; exact rfl)
      | (apply eq_sl; exact rfl; exact Stop.mk (by with_reducible rfl))
      | (apply eq_sl; exact rfl)
      | (apply eq_row; exact rfl; exact Stop.mk (by with_reducible rfl))
      | (apply eq_row; exact rfl)
      | (apply eq_agg; exact rfl)
      | (apply eq_cons; exact rfl)
      | (apply eq_boxo; exact rfl)
      | (apply cell_agg; exact rfl; exact rfl; exact rfl)
      | (apply cell_one; exact rfl; exact rfl)
      | exact rfl
      | trivial
      )
    all_goals exact Stop.mk rfl
  · refine Stop.mk ?_
    refine ret_intro [] rfl rfl ?_ ?_
    repeat' (first
      | apply And.intro
      | (apply eq_b; exact rfl; exact Stop.mk (by with_reducible rfl))
      | (apply eq_b; exact rfl)
      | (apply eq_n; exact rfl; exact Stop.mk (by first | with_reducible rfl | omega))
      | (apply eq_n; exact rfl)
      | (apply eq_s; exact rfl; exact Stop.mk (by with_reducible rfl))
      | (apply eq_s; exact rfl)
      | (apply eq_sl; exact rfl; exact Stop.mk (by with_reducible rfl))
      | (apply eq_sl; exact rfl)
      | (apply eq_row; exact rfl; exact Stop.mk (by with_reducible rfl))
      | (apply eq_row; exact rfl)
      | (apply eq_agg; exact rfl)
      | (apply eq_cons; exact rfl)
      | (apply eq_boxo; exact rfl)
      | (apply cell_agg; exact rfl; exact rfl; exact rfl)
      | (apply cell_one; exact rfl; exact rfl)
      | exact rfl
      | trivial
      )
    all_goals exact Stop.mk rfl
set_option maxRecDepth 100000 in
theorem toJournal_e {j : Journal} (h : j.bytes.length ≤ 1000000000) : ACalls Try.prog 59 [jnA j] [.agg [.row 0, .d (.n .i64 j.synced), .d (.n .i64 j.count)]] [(0, .row 5 (byteE j.bytes) true)] := by
  refine acalls_of tt Try.func59 rfl rfl rfl (fun w0 Z => ?_)
  repeat' (first
    | apply awp_seq
    | (apply awp_regionN; exact rfl)
    | (refine Hb.mk (fun hb => ?_); (first | rw [inB_t] at hb | rw [inB_f] at hb | rw [inB_nt] at hb | rw [inB_nf] at hb | rw [decide_eq_true_eq] at hb | rw [decide_eq_false_iff_not] at hb | rw [beq_iff_eq] at hb | rw [beq_eq_false_iff_ne] at hb | rw [Bool.not_eq_true'] at hb | rw [Bool.not_eq_false'] at hb | rw [bne_iff_ne] at hb | rw [bne_eq_false_iff_eq] at hb | skip); (first | (exfalso; omega) | (exact absurd rfl hb) | skip))
    | (apply aopG_ok; exact rfl)
    | apply ops_nil
    | (apply awp_cond_t; exact rfl)
    | (apply awp_cond_f; exact rfl)
    | (apply cond_x; exact rfl)
    | apply awp_block
    | apply awp_skip
    | apply awp_exit
    | apply awp_ret'
    | (first | (apply ops_cons; exact rfl) | (apply ops_yes; exact rfl; exact rfl; exact rfl))
    | (apply ops_x; exact rfl; exact rfl; (fail_if_success exact (rfl : _ = AV.d (.b true))); (fail_if_success exact (rfl : _ = AV.d (.b false))); exact rfl)
    | (apply op_id; first | refine st_call (toByteS_e h) rfl rfl rfl rfl rfl ?_)
    )
  refine Stop.mk ?_
  refine ret_intro [6] rfl rfl ?_ ?_
  repeat' (first
    | apply And.intro
    | (apply eq_b; exact rfl; exact Stop.mk (by with_reducible rfl))
    | (apply eq_b; exact rfl)
    | (apply eq_n; exact rfl; exact Stop.mk (by first | with_reducible rfl | omega))
    | (apply eq_n; exact rfl)
    | (apply eq_s; exact rfl; exact Stop.mk (by with_reducible rfl))
    | (apply eq_s; exact rfl)
    | (apply eq_sl; exact rfl; exact Stop.mk (by with_reducible rfl))
    | (apply eq_sl; exact rfl)
    | (apply eq_row; exact rfl; exact Stop.mk (by with_reducible rfl))
    | (apply eq_row; exact rfl)
    | (apply eq_agg; exact rfl)
    | (apply eq_cons; exact rfl)
    | (apply eq_boxo; exact rfl)
    | (apply cell_agg; exact rfl; exact rfl; exact rfl)
    | (apply cell_one; exact rfl; exact rfl)
    | exact rfl
    | trivial
    )
  all_goals exact Stop.mk rfl
set_option maxRecDepth 100000 in
theorem eqJournal_r {j : Journal} (h : j.bytes.length ≤ 1000000000) : ACalls Try.prog 61 [jnA j, jnA j] [.d (.b true)] [] := by
  refine acalls_of tt Try.func61 rfl rfl rfl (fun w0 Z => ?_)
  repeat' (first
    | apply awp_seq
    | (apply awp_regionN; exact rfl)
    | (refine Hb.mk (fun hb => ?_); (first | rw [inB_t] at hb | rw [inB_f] at hb | rw [inB_nt] at hb | rw [inB_nf] at hb | rw [decide_eq_true_eq] at hb | rw [decide_eq_false_iff_not] at hb | rw [beq_iff_eq] at hb | rw [beq_eq_false_iff_ne] at hb | rw [Bool.not_eq_true'] at hb | rw [Bool.not_eq_false'] at hb | rw [bne_iff_ne] at hb | rw [bne_eq_false_iff_eq] at hb | skip); (first | (exfalso; omega) | (exact absurd rfl hb) | skip))
    | (apply aopG_ok; exact rfl)
    | apply ops_nil
    | (apply awp_cond_t; exact rfl)
    | (apply awp_cond_f; exact rfl)
    | (apply cond_x; exact rfl)
    | apply awp_block
    | apply awp_skip
    | apply awp_exit
    | apply awp_ret'
    | (first | (apply ops_cons; exact rfl) | (apply ops_yes; exact rfl; exact rfl; exact rfl))
    | (apply ops_x; exact rfl; exact rfl; (fail_if_success exact (rfl : _ = AV.d (.b true))); (fail_if_success exact (rfl : _ = AV.d (.b false))); exact rfl)
    | (apply op_id; first | refine st_call (eqByteS_r h) rfl rfl rfl rfl rfl ?_ | (apply qok_q; exact rfl))
    | (apply q_id; first | refine zk29 ns_ok rfl rfl rfl rfl rfl rfl rfl rfl ?_)
    )
  all_goals
    refine Stop.mk ?_
    refine ret_intro [] rfl rfl ?_ ?_
    repeat' (first
      | apply And.intro
      | (apply eq_b; exact rfl; exact Stop.mk (by with_reducible rfl))
      | (apply eq_b; exact rfl)
      | (apply eq_n; exact rfl; exact Stop.mk (by first | with_reducible rfl | omega))
      | (apply eq_n; exact rfl)
      | (apply eq_s; exact rfl; exact Stop.mk (by with_reducible rfl))
      | (apply eq_s; exact rfl)
      | (apply eq_sl; exact rfl; exact Stop.mk (by with_reducible rfl))
      | (apply eq_sl; exact rfl)
      | (apply eq_row; exact rfl; exact Stop.mk (by with_reducible rfl))
      | (apply eq_row; exact rfl)
      | (apply eq_agg; exact rfl)
      | (apply eq_cons; exact rfl)
      | (apply eq_boxo; exact rfl)
      | (apply cell_agg; exact rfl; exact rfl; exact rfl)
      | (apply cell_one; exact rfl; exact rfl)
      | exact rfl
      | trivial
      )
set_option maxRecDepth 100000 in
set_option maxHeartbeats 4000000 in
theorem lawJournalOk_e {j : Journal} (h : j.bytes.length ≤ 9223372036854775807) : ACalls Try.prog 12 [jnA j] [.d (.b true)] [] := by
  refine acalls_of tt Try.func12 rfl rfl rfl (fun w0 Z => ?_)
  by_cases hs : (1048576 : Int) - j.bytes.length < 0
  · repeat' (first
      | apply awp_seq
      | (apply awp_regionN; exact rfl)
      | (refine Hb.mk (fun hb => ?_); (first | rw [inB_t] at hb | rw [inB_f] at hb | rw [inB_nt] at hb | rw [inB_nf] at hb | rw [decide_eq_true_eq] at hb | rw [decide_eq_false_iff_not] at hb | rw [beq_iff_eq] at hb | rw [beq_eq_false_iff_ne] at hb | rw [Bool.not_eq_true'] at hb | rw [Bool.not_eq_false'] at hb | rw [bne_iff_ne] at hb | rw [bne_eq_false_iff_eq] at hb | skip); (first | (exfalso; omega) | (exact absurd rfl hb) | skip))
      | (apply aopG_ok; exact rfl)
      | apply ops_nil
      | (apply awp_drawm2 10; kernel_rfl; exact rfl)
      | (apply awp_drawq; exact rfl; kernel_rfl; kernel_rfl; exact rfl)
      | (apply awp_drawx; exact rfl; kernel_rfl; exact rfl)
      | (apply aopQ_ok; exact rfl)
      | apply qs_nil
      | (apply ch_nil; exact rfl)
      | (apply ch_cons; (· exact rfl); (· exact rfl); (· exact rfl); (· exact rfl); (· (intro w0 Z O; first | (apply aop_ok; exact rfl) | (apply QOk.ok; first | refine zk29 ns_ok rfl rfl rfl rfl rfl rfl rfl rfl ?_) | refine st_call (szJournal_e (j := j) h (by omega)) rfl rfl rfl rfl rfl ?_); exact ⟨rfl, rfl, rfl⟩); (· exact rfl); (· exact rfl); (· (repeat' (first | apply And.intro | exact Or.inl rfl | exact Or.inr ⟨rfl, rfl⟩ | exact trivial))); (· (repeat' (first | apply And.intro | exact trivial | exact rfl | exact flatE_map (fun _ => rfl) | apply flatE_app))); (· exact rfl); (· exact rfl); (· exact rfl); (· exact rfl))
      | (apply awp_cond_t; exact rfl)
      | (apply awp_cond_f; exact rfl)
      | (apply cond_x; exact rfl)
      | apply awp_block
      | apply awp_skip
      | apply awp_exit
      | apply awp_ret'
      | (first | (apply ops_cons; exact rfl) | (apply ops_yes; exact rfl; exact rfl; exact rfl))
      | (apply ops_x; exact rfl; exact rfl; (fail_if_success exact (rfl : _ = AV.d (.b true))); (fail_if_success exact (rfl : _ = AV.d (.b false))); exact rfl)
      | (first | (apply qs_cons; exact rfl) | (apply qs_yes; exact rfl; exact rfl; exact rfl))
      | (apply qs_x; exact rfl; exact rfl; (fail_if_success exact (rfl : _ = AV.d (.b true))); (fail_if_success exact (rfl : _ = AV.d (.b false))); exact rfl)
      | (apply q_id; first | refine st_callq (szJournal_e (j := j) h (by omega)) rfl rfl rfl rfl rfl ?_)
      | (apply op_id; first | refine st_call (szJournal_e (j := j) h (by omega)) rfl rfl rfl rfl rfl ?_ | (apply qok_q; exact rfl))
      | (apply q_id; first | refine zk29 ns_ok rfl rfl rfl rfl rfl rfl rfl rfl ?_)
      )
    · refine Stop.mk ?_
      refine ret_intro [] rfl rfl ?_ ?_
      repeat' (first
        | apply And.intro
        | (apply eq_b; exact rfl; exact Stop.mk (by with_reducible rfl))
        | (apply eq_b; exact rfl)
        | (apply eq_n; exact rfl; exact Stop.mk (by first | with_reducible rfl | omega))
        | (apply eq_n; exact rfl)
        | (apply eq_s; exact rfl; exact Stop.mk (by with_reducible rfl))
        | (apply eq_s; exact rfl)
        | (apply eq_sl; exact rfl; exact Stop.mk (by with_reducible rfl))
        | (apply eq_sl; exact rfl)
        | (apply eq_row; exact rfl; exact Stop.mk (by with_reducible rfl))
        | (apply eq_row; exact rfl)
        | (apply eq_agg; exact rfl)
        | (apply eq_cons; exact rfl)
        | (apply eq_boxo; exact rfl)
        | (apply cell_agg; exact rfl; exact rfl; exact rfl)
        | (apply cell_one; exact rfl; exact rfl)
        | exact rfl
        | trivial
        )
    · exact absurd (show szX j.bytes.length 1048576 < 0 by rw [szX_no hs]; decide) hb
  · repeat' (first
      | apply awp_seq
      | (apply awp_regionN; exact rfl)
      | (refine Hb.mk (fun hb => ?_); (first | rw [inB_t] at hb | rw [inB_f] at hb | rw [inB_nt] at hb | rw [inB_nf] at hb | rw [decide_eq_true_eq] at hb | rw [decide_eq_false_iff_not] at hb | rw [beq_iff_eq] at hb | rw [beq_eq_false_iff_ne] at hb | rw [Bool.not_eq_true'] at hb | rw [Bool.not_eq_false'] at hb | rw [bne_iff_ne] at hb | rw [bne_eq_false_iff_eq] at hb | skip); (first | (exfalso; omega) | (exact absurd rfl hb) | skip))
      | (apply aopG_ok; exact rfl)
      | apply ops_nil
      | (apply awp_drawm2 10; kernel_rfl; exact rfl)
      | (apply awp_drawq; exact rfl; kernel_rfl; kernel_rfl; exact rfl)
      | (apply awp_drawx; exact rfl; kernel_rfl; exact rfl)
      | (apply aopQ_ok; exact rfl)
      | apply qs_nil
      | (apply ch_nil; exact rfl)
      | (apply ch_cons; (· exact rfl); (· exact rfl); (· exact rfl); (· exact rfl); (· (intro w0 Z O; first | (apply aop_ok; exact rfl) | (apply QOk.ok; first | refine zk29 ns_ok rfl rfl rfl rfl rfl rfl rfl rfl ?_) | refine st_call (szJournal_e (j := j) h (by omega)) rfl rfl rfl rfl rfl ?_ | refine st_call (toJournal_e (j := j) (by omega)) rfl rfl rfl rfl rfl ?_ | refine st_call (journalOk_s (j := j) (by omega)) rfl rfl rfl rfl rfl ?_ | refine st_call (journalOk_e (j := j) (by omega)) rfl rfl rfl rfl rfl ?_ | refine st_call (eqJournal_r (j := j) (by omega)) rfl rfl rfl rfl rfl ?_); exact ⟨rfl, rfl, rfl⟩); (· exact rfl); (· exact rfl); (· (repeat' (first | apply And.intro | exact Or.inl rfl | exact Or.inr ⟨rfl, rfl⟩ | exact trivial))); (· (repeat' (first | apply And.intro | exact trivial | exact rfl | exact flatE_map (fun _ => rfl) | apply flatE_app))); (· exact rfl); (· exact rfl); (· exact rfl); (· exact rfl))
      | (apply awp_cond_t; exact rfl)
      | (apply awp_cond_f; exact rfl)
      | (apply cond_x; exact rfl)
      | apply awp_block
      | apply awp_skip
      | apply awp_exit
      | apply awp_ret'
      | (first | (apply ops_cons; exact rfl) | (apply ops_yes; exact rfl; exact rfl; exact rfl))
      | (apply ops_x; exact rfl; exact rfl; (fail_if_success exact (rfl : _ = AV.d (.b true))); (fail_if_success exact (rfl : _ = AV.d (.b false))); exact rfl)
      | (first | (apply qs_cons; exact rfl) | (apply qs_yes; exact rfl; exact rfl; exact rfl))
      | (apply qs_x; exact rfl; exact rfl; (fail_if_success exact (rfl : _ = AV.d (.b true))); (fail_if_success exact (rfl : _ = AV.d (.b false))); exact rfl)
      | (apply q_id; first | refine st_callq (szJournal_e (j := j) h (by omega)) rfl rfl rfl rfl rfl ?_ | refine st_callq (toJournal_e (j := j) (by omega)) rfl rfl rfl rfl rfl ?_ | refine st_callq (journalOk_s (j := j) (by omega)) rfl rfl rfl rfl rfl ?_ | refine st_callq (journalOk_e (j := j) (by omega)) rfl rfl rfl rfl rfl ?_ | refine st_callq (eqJournal_r (j := j) (by omega)) rfl rfl rfl rfl rfl ?_)
      | (apply op_id; first | refine st_call (szJournal_e (j := j) h (by omega)) rfl rfl rfl rfl rfl ?_ | refine st_call (toJournal_e (j := j) (by omega)) rfl rfl rfl rfl rfl ?_ | refine st_call (journalOk_s (j := j) (by omega)) rfl rfl rfl rfl rfl ?_ | refine st_call (journalOk_e (j := j) (by omega)) rfl rfl rfl rfl rfl ?_ | refine st_call (eqJournal_r (j := j) (by omega)) rfl rfl rfl rfl rfl ?_ | (apply qok_q; exact rfl))
      | (apply q_id; first | refine zk29 ns_ok rfl rfl rfl rfl rfl rfl rfl rfl ?_)
      )
    all_goals
      refine Stop.mk ?_
      refine ret_intro [] rfl rfl ?_ ?_
      repeat' (first
        | apply And.intro
        | (apply eq_b; exact rfl; exact Stop.mk (by with_reducible rfl))
        | (apply eq_b; exact rfl)
        | (apply eq_n; exact rfl; exact Stop.mk (by first | with_reducible rfl | omega))
        | (apply eq_n; exact rfl)
        | (apply eq_s; exact rfl; exact Stop.mk (by with_reducible rfl))
        | (apply eq_s; exact rfl)
        | (apply eq_sl; exact rfl; exact Stop.mk (by with_reducible rfl))
        | (apply eq_sl; exact rfl)
        | (apply eq_row; exact rfl; exact Stop.mk (by with_reducible rfl))
        | (apply eq_row; exact rfl)
        | (apply eq_agg; exact rfl)
        | (apply eq_cons; exact rfl)
        | (apply eq_boxo; exact rfl)
        | (apply cell_agg; exact rfl; exact rfl; exact rfl)
        | (apply cell_one; exact rfl; exact rfl)
        | exact rfl
        | trivial
        )
end Go.Proofs.Ythmajaeekkbnnaa
