/-
  The journal: JournalAdd, both; marks of journals.
-/
import Derived.Test.YthmajaeekkbnnaaSh
import Derived.Test.YthmajaeekkbnnaaTxX
namespace Go.Proofs.Ythmajaeekkbnnaa
open Go Go.RowKit
attribute [local irreducible] AWp OpsOk OpOk ACalls ChA QsOk MCalls

abbrev jnC (c : Nat) : List AV := [.agg [.nil, .d (.n .i64 0), .d (.n .i64 0)], .d (.n .i64 c)]
set_option maxRecDepth 100000 in
theorem added_e0 {j : Journal} {s : List UInt8} (hj : jnOk j = true) (hs : s.length ≤ 1000000000) (hc : addC j s ≠ 0) : ACalls Try.prog 119 [jnA j, .d (.s s)] (jnC (addC j s)) [] := by
  refine acalls_of tt Try.func119 rfl rfl rfl (fun w0 Z => ?_)
  obtain ⟨h1, h2, h3, h4, h5⟩ := jnOk_in hj
  have hcn : (j.count.toNat : Int) = j.count := by have := readR_len j.bytes; omega
  have hnl := numTx_len j.count.toNat
  rw [hcn] at hnl
  have hlb : (hdT j.count.toNat ++ s ++ [10]).length ≤ 1000000012 := by
    have := numTx_len j.count.toNat
    simp only [hdT, List.length_append, List.length_singleton]; omega
  have hll : (numTx j.count ++ ({ data := #[32] } : ByteArray).data.toList ++ s ++ ({ data := #[10] } : ByteArray).data.toList).length = (hdT j.count.toNat ++ s ++ [10]).length := by rw [hdT, hcn]
  repeat' (first
    | apply awp_seq
    | (apply awp_regionN; exact rfl)
    | (refine Hb.mk (fun hb => ?_); (first | rw [inB_t] at hb | rw [inB_f] at hb | rw [inB_nt] at hb | rw [inB_nf] at hb | rw [decide_eq_true_eq] at hb | rw [decide_eq_false_iff_not] at hb | rw [beq_iff_eq] at hb | rw [beq_eq_false_iff_ne] at hb | rw [Bool.not_eq_true'] at hb | rw [Bool.not_eq_false'] at hb | rw [bne_iff_ne] at hb | rw [bne_eq_false_iff_eq] at hb | skip); (first | (exfalso; omega) | (exact absurd rfl hb) | skip))
    | (apply aopG_ok; exact rfl)
    | apply ops_nil
    | (apply awp_cond_t; exact rfl)
    | (apply awp_cond_f; exact rfl)
    | (apply cond_x; exact rfl)
    | apply awp_block
    | apply awp_skip
    | apply awp_exit
    | apply awp_ret'
    | (first | (apply ops_cons; exact rfl) | (apply ops_yes; exact rfl; exact rfl; exact rfl))
    | (apply ops_x; exact rfl; exact rfl; (fail_if_success exact (rfl : _ = AV.d (.b true))); (fail_if_success exact (rfl : _ = AV.d (.b false))); exact rfl)
    | (apply op_id; first | refine zk32 rfl rfl rfl rfl rfl rfl rfl rfl rfl rfl rfl rfl ?_ | refine zk33 rfl rfl rfl rfl rfl rfl ⟨rfl, rfl, rfl⟩ rfl rfl ?_ | refine zk34 rfl rfl rfl rfl rfl ⟨rfl, rfl, rfl⟩ rfl rfl ?_ | refine st_call (numText_e) rfl rfl rfl rfl rfl ?_ | refine st_call (recordOk_e hs) rfl rfl rfl rfl rfl ?_ | (apply qok_q; exact rfl))
    | (apply q_id; first | refine zk0 rfl rfl rfl rfl rfl ?_ | refine zk5 rfl rfl rfl rfl rfl ?_ | refine zk11 rfl rfl rfl rfl rfl ?_ | refine zk12 rfl rfl rfl rfl rfl (fun _ => ?_) | refine zk19 rfl rfl rfl rfl rfl ?_ | refine zk23 rfl rfl rfl rfl rfl rfl ?_)
    )
  · rw [addC_1' hb]
    refine Stop.mk ?_
    refine ret_intro [] rfl rfl ?_ ?_
    repeat' (first
      | apply And.intro
      | (apply eq_b; exact rfl; exact Stop.mk (by with_reducible rfl))
      | (apply eq_b; exact rfl)
      | (apply eq_n; exact rfl; exact Stop.mk (by first | with_reducible rfl | omega))
      | (apply eq_n; exact rfl)
      | (apply eq_s; exact rfl; exact Stop.mk (by with_reducible rfl))
      | (apply eq_s; exact rfl)
      | (apply eq_sl; exact rfl; exact Stop.mk (by with_reducible rfl))
      | (apply eq_sl; exact rfl)
      | (apply eq_row; exact rfl; exact Stop.mk (by with_reducible rfl))
      | (apply eq_row; exact rfl)
      | (apply eq_agg; exact rfl)
      | (apply eq_cons; exact rfl)
      | (apply eq_boxo; exact rfl)
      | (apply cell_agg; exact rfl; exact rfl; exact rfl)
      | (apply cell_one; exact rfl; exact rfl)
      | exact rfl
      | trivial
      )
    all_goals exact Stop.mk rfl
  · rw [addC_2 hj (by assumption) (by omega)]
    refine Stop.mk ?_
    refine ret_intro [] rfl rfl ?_ ?_
    repeat' (first
      | apply And.intro
      | (apply eq_b; exact rfl; exact Stop.mk (by with_reducible rfl))
      | (apply eq_b; exact rfl)
      | (apply eq_n; exact rfl; exact Stop.mk (by first | with_reducible rfl | omega))
      | (apply eq_n; exact rfl)
      | (apply eq_s; exact rfl; exact Stop.mk (by with_reducible rfl))
      | (apply eq_s; exact rfl)
      | (apply eq_sl; exact rfl; exact Stop.mk (by with_reducible rfl))
      | (apply eq_sl; exact rfl)
      | (apply eq_row; exact rfl; exact Stop.mk (by with_reducible rfl))
      | (apply eq_row; exact rfl)
      | (apply eq_agg; exact rfl)
      | (apply eq_cons; exact rfl)
      | (apply eq_boxo; exact rfl)
      | (apply cell_agg; exact rfl; exact rfl; exact rfl)
      | (apply cell_one; exact rfl; exact rfl)
      | exact rfl
      | trivial
      )
    all_goals exact Stop.mk rfl
  · exact absurd (addC_0 hj (by assumption) (by omega)) hc
set_option maxRecDepth 100000 in
theorem added_e {j : Journal} {s : List UInt8} (hc : addC j s = 0) : ACalls Try.prog 119 [jnA j, .d (.s s)] [jnR (jnAdd j s), .d (.n .i64 0)] (jnO (jnAdd j s)) := by
  refine acalls_of tt Try.func119 rfl rfl rfl (fun w0 Z => ?_)
  obtain ⟨hj, hs, hl⟩ := addC_yes hc
  have hsl := recOk_len hs
  obtain ⟨h1, h2, h3, h4, h5⟩ := jnOk_in hj
  have hcn : (j.count.toNat : Int) = j.count := by have := readR_len j.bytes; omega
  have hnl := numTx_len j.count.toNat
  rw [hcn] at hnl
  have hlb : (hdT j.count.toNat ++ s ++ [10]).length ≤ 1000000012 := by
    have := numTx_len j.count.toNat
    simp only [hdT, List.length_append, List.length_singleton]; omega
  have hll : (numTx j.count ++ ({ data := #[32] } : ByteArray).data.toList ++ s ++ ({ data := #[10] } : ByteArray).data.toList).length = (hdT j.count.toNat ++ s ++ [10]).length := by rw [hdT, hcn]
  have hr := readR_len j.bytes
  have hok := recordOk_e (s := s) (by omega)
  rw [hs] at hok
  repeat' (first
    | apply awp_seq
    | (apply awp_regionN; exact rfl)
    | (refine Hb.mk (fun hb => ?_); (first | rw [inB_t] at hb | rw [inB_f] at hb | rw [inB_nt] at hb | rw [inB_nf] at hb | rw [decide_eq_true_eq] at hb | rw [decide_eq_false_iff_not] at hb | rw [beq_iff_eq] at hb | rw [beq_eq_false_iff_ne] at hb | rw [Bool.not_eq_true'] at hb | rw [Bool.not_eq_false'] at hb | rw [bne_iff_ne] at hb | rw [bne_eq_false_iff_eq] at hb | skip); (first | (exfalso; omega) | (exact absurd rfl hb) | skip))
    | (apply aopG_ok; exact rfl)
    | apply ops_nil
    | (apply awp_cond_t; exact rfl)
    | (apply awp_cond_f; exact rfl)
    | (apply cond_x; exact rfl)
    | apply awp_block
    | apply awp_skip
    | apply awp_exit
    | apply awp_ret'
    | (first | (apply ops_cons; exact rfl) | (apply ops_yes; exact rfl; exact rfl; exact rfl))
    | (apply ops_x; exact rfl; exact rfl; (fail_if_success exact (rfl : _ = AV.d (.b true))); (fail_if_success exact (rfl : _ = AV.d (.b false))); exact rfl)
    | (apply op_id; first | refine zk32 rfl rfl rfl rfl rfl rfl rfl rfl rfl rfl rfl rfl ?_ | refine zk33 rfl rfl rfl rfl rfl rfl ⟨rfl, rfl, rfl⟩ rfl rfl ?_ | refine zk34 rfl rfl rfl rfl rfl ⟨rfl, rfl, rfl⟩ rfl rfl ?_ | refine st_call (numText_e) rfl rfl rfl rfl rfl ?_ | refine st_call (hok) rfl rfl rfl rfl rfl ?_ | refine st_call (copyBytes_e rfl (by omega)) rfl rfl rfl rfl rfl ?_ | (apply qok_q; exact rfl))
    | (apply q_id; first | refine zk0 rfl rfl rfl rfl rfl ?_ | refine zk5 rfl rfl rfl rfl rfl ?_ | refine zk11 rfl rfl rfl rfl rfl ?_ | refine zk12 rfl rfl rfl rfl rfl (fun _ => ?_) | refine zk19 rfl rfl rfl rfl rfl ?_ | refine zk23 rfl rfl rfl rfl rfl rfl ?_)
    )
  refine Stop.mk ?_
  refine ret_intro [30] rfl rfl ?_ ?_
  repeat' (first
    | apply And.intro
    | (apply eq_b; exact rfl; exact Stop.mk (by with_reducible rfl))
    | (apply eq_b; exact rfl)
    | (apply eq_n; exact rfl; exact Stop.mk (by first | with_reducible rfl | omega))
    | (apply eq_n; exact rfl)
    | (apply eq_s; exact rfl; exact Stop.mk (by with_reducible rfl))
    | (apply eq_s; exact rfl)
    | (apply eq_sl; exact rfl; exact Stop.mk (by with_reducible rfl))
    | (apply eq_sl; exact rfl)
    | (apply eq_row; exact rfl; exact Stop.mk (by with_reducible rfl))
    | (apply eq_row; exact rfl)
    | (apply eq_agg; exact rfl)
    | (apply eq_cons; exact rfl)
    | (apply eq_boxo; exact rfl)
    | (apply cell_agg; exact rfl; exact rfl; exact rfl)
    | (apply cell_one; exact rfl; exact rfl)
    | exact rfl
    | trivial
    )
  all_goals exact Stop.mk (by first | rfl | (rw [byteE_append]; simp only [jnAdd, hdT, hcn]; done) | (simp only [jnAdd]; omega))
set_option maxRecDepth 100000 in
theorem journalAdd_s {j : Journal} {s : List UInt8} (hc : addC j s = 0) : ACalls Try.prog 77 [jnA j, .d (.s s)] [jnR (jnAdd j s), .d (.n .i64 0)] (jnO (jnAdd j s)) := by
  refine acalls_of tt Try.func77 rfl rfl rfl (fun w0 Z => ?_)
  obtain ⟨hj, hs, hl⟩ := addC_yes hc
  have hsl := recOk_len hs
  obtain ⟨h1, h2, h3, h4, h5⟩ := jnOk_in hj
  have hcn : (j.count.toNat : Int) = j.count := by have := readR_len j.bytes; omega
  have hnl := numTx_len j.count.toNat
  rw [hcn] at hnl
  have hr := readR_len j.bytes
  have hok := recordOk_s (s := s) (by omega)
  rw [hs] at hok
  have hjk := journalOk_s (j := j) (by omega)
  rw [hj] at hjk
  have hlen : ([] ++ byteE j.bytes ++ byteE (hdT j.count.toNat ++ s ++ [10])).length = j.bytes.length + (hdT j.count.toNat ++ s ++ [10]).length := by rw [List.nil_append, List.length_append, byteE_length, byteE_length]
  have hrec := l07Record_e (n := j.count.toNat) (s := s) (by omega)
  rw [hcn] at hrec
  repeat' (first
    | apply awp_seq
    | (apply awp_regionN; exact rfl)
    | (refine Hb.mk (fun hb => ?_); (first | rw [inB_t] at hb | rw [inB_f] at hb | rw [inB_nt] at hb | rw [inB_nf] at hb | rw [decide_eq_true_eq] at hb | rw [decide_eq_false_iff_not] at hb | rw [beq_iff_eq] at hb | rw [beq_eq_false_iff_ne] at hb | rw [Bool.not_eq_true'] at hb | rw [Bool.not_eq_false'] at hb | rw [bne_iff_ne] at hb | rw [bne_eq_false_iff_eq] at hb | skip); (first | (exfalso; omega) | (exact absurd rfl hb) | skip))
    | (apply aopG_ok; exact rfl)
    | apply ops_nil
    | (apply awp_drawq; exact rfl; kernel_rfl; kernel_rfl; exact rfl)
    | (apply awp_drawx; exact rfl; kernel_rfl; exact rfl)
    | (apply aopQ_ok; exact rfl)
    | apply qs_nil
    | (apply ch_nil; exact rfl)
    | (apply ch_cons; (· exact rfl); (· exact rfl); (· exact rfl); (· exact rfl); (· (intro w0 Z O; first | (apply aop_ok; exact rfl) | (apply QOk.ok; first | refine zk0 rfl rfl rfl rfl rfl ?_ | refine zk5 rfl rfl rfl rfl rfl ?_ | refine zk11 rfl rfl rfl rfl rfl ?_ | refine zk12 rfl rfl rfl rfl rfl (fun _ => ?_) | refine zk17 rfl rfl rfl rfl rfl rfl rfl ?_ | refine zk19 rfl rfl rfl rfl rfl ?_ | refine zk20 rfl rfl rfl rfl rfl rfl ?_ | refine zk21 rfl rfl rfl rfl rfl rfl ?_ | refine zk22 rfl rfl rfl rfl rfl rfl ?_ | refine zk23 rfl rfl rfl rfl rfl rfl ?_) | refine zk32 rfl rfl rfl rfl rfl rfl rfl rfl rfl rfl rfl rfl ?_ | refine zk33 rfl rfl rfl rfl rfl rfl ⟨rfl, rfl, rfl⟩ rfl rfl ?_ | refine zk34 rfl rfl rfl rfl rfl ⟨rfl, rfl, rfl⟩ rfl rfl ?_ | refine zk35 rfl rfl rfl ⟨rfl, rfl, rfl⟩ rfl rfl rfl rfl rfl rfl rfl rfl rfl ?_ | refine zk37 rfl rfl rfl rfl rfl rfl rfl ?_ | refine st_call (hjk) rfl rfl rfl rfl rfl ?_ | refine st_call (hok) rfl rfl rfl rfl rfl ?_ | refine st_call (hrec) rfl rfl rfl rfl rfl ?_); exact ⟨rfl, rfl, rfl⟩); (· exact rfl); (· exact rfl); (· (repeat' (first | apply And.intro | exact Or.inl rfl | exact Or.inr ⟨rfl, rfl⟩ | exact trivial))); (· (repeat' (first | apply And.intro | exact trivial | exact rfl | exact flatE_map (fun _ => rfl) | apply flatE_app))); (· exact rfl); (· exact rfl); (· exact rfl); (· exact rfl))
    | (apply awp_cond_t; exact rfl)
    | (apply awp_cond_f; exact rfl)
    | (apply cond_x; exact rfl)
    | apply awp_block
    | apply awp_skip
    | apply awp_exit
    | apply awp_ret'
    | (first | (apply ops_cons; exact rfl) | (apply ops_yes; exact rfl; exact rfl; exact rfl))
    | (apply ops_x; exact rfl; exact rfl; (fail_if_success exact (rfl : _ = AV.d (.b true))); (fail_if_success exact (rfl : _ = AV.d (.b false))); exact rfl)
    | (first | (apply qs_cons; exact rfl) | (apply qs_yes; exact rfl; exact rfl; exact rfl))
    | (apply qs_x; exact rfl; exact rfl; (fail_if_success exact (rfl : _ = AV.d (.b true))); (fail_if_success exact (rfl : _ = AV.d (.b false))); exact rfl)
    | (apply q_id; first | refine st_callq (hjk) rfl rfl rfl rfl rfl ?_ | refine st_callq (hok) rfl rfl rfl rfl rfl ?_ | refine st_callq (hrec) rfl rfl rfl rfl rfl ?_)
    | (apply op_id; first | refine zk32 rfl rfl rfl rfl rfl rfl rfl rfl rfl rfl rfl rfl ?_ | refine zk33 rfl rfl rfl rfl rfl rfl ⟨rfl, rfl, rfl⟩ rfl rfl ?_ | refine zk34 rfl rfl rfl rfl rfl ⟨rfl, rfl, rfl⟩ rfl rfl ?_ | refine zk35 rfl rfl rfl ⟨rfl, rfl, rfl⟩ rfl rfl rfl rfl rfl rfl rfl rfl rfl ?_ | refine zk37 rfl rfl rfl rfl rfl rfl rfl ?_ | refine st_call (hjk) rfl rfl rfl rfl rfl ?_ | refine st_call (hok) rfl rfl rfl rfl rfl ?_ | refine st_call (hrec) rfl rfl rfl rfl rfl ?_ | (apply qok_q; exact rfl))
    | (apply q_id; first | refine zk0 rfl rfl rfl rfl rfl ?_ | refine zk5 rfl rfl rfl rfl rfl ?_ | refine zk11 rfl rfl rfl rfl rfl ?_ | refine zk12 rfl rfl rfl rfl rfl (fun _ => ?_) | refine zk17 rfl rfl rfl rfl rfl rfl rfl ?_ | refine zk19 rfl rfl rfl rfl rfl ?_ | refine zk20 rfl rfl rfl rfl rfl rfl ?_ | refine zk21 rfl rfl rfl rfl rfl rfl ?_ | refine zk22 rfl rfl rfl rfl rfl rfl ?_ | refine zk23 rfl rfl rfl rfl rfl rfl ?_)
    )
  refine Stop.mk ?_
  refine ret_intro [16] rfl rfl ?_ ?_
  repeat' (first
    | apply And.intro
    | (apply eq_b; exact rfl; exact Stop.mk (by with_reducible rfl))
    | (apply eq_b; exact rfl)
    | (apply eq_n; exact rfl; exact Stop.mk (by first | with_reducible rfl | omega))
    | (apply eq_n; exact rfl)
    | (apply eq_s; exact rfl; exact Stop.mk (by with_reducible rfl))
    | (apply eq_s; exact rfl)
    | (apply eq_sl; exact rfl; exact Stop.mk (by with_reducible rfl))
    | (apply eq_sl; exact rfl)
    | (apply eq_row; exact rfl; exact Stop.mk (by with_reducible rfl))
    | (apply eq_row; exact rfl)
    | (apply eq_agg; exact rfl)
    | (apply eq_cons; exact rfl)
    | (apply eq_boxo; exact rfl)
    | (apply cell_agg; exact rfl; exact rfl; exact rfl)
    | (apply cell_one; exact rfl; exact rfl)
    | exact rfl
    | trivial
    )
  all_goals exact Stop.mk (by first | rfl | (rw [List.nil_append, byteE_append]; simp only [jnAdd]; done) | (simp only [jnAdd]; omega))
set_option maxRecDepth 100000 in
theorem journalAdd_s0 {j : Journal} {s : List UInt8} (h : j.bytes.length ≤ 1000000000) (hs : s.length ≤ 1000000000) (hc : addC j s ≠ 0) : ACalls Try.prog 77 [jnA j, .d (.s s)] (jnC (addC j s)) [] := by
  refine acalls_of tt Try.func77 rfl rfl rfl (fun w0 Z => ?_)
  have hjk := journalOk_s (j := j) h
  cases hj : jnOk j with
  | false =>
    rw [hj] at hjk
    rw [addC_1 hj]
    repeat' (first
      | apply awp_seq
      | (apply awp_regionN; exact rfl)
      | (refine Hb.mk (fun hb => ?_); (first | rw [inB_t] at hb | rw [inB_f] at hb | rw [inB_nt] at hb | rw [inB_nf] at hb | rw [decide_eq_true_eq] at hb | rw [decide_eq_false_iff_not] at hb | rw [beq_iff_eq] at hb | rw [beq_eq_false_iff_ne] at hb | rw [Bool.not_eq_true'] at hb | rw [Bool.not_eq_false'] at hb | rw [bne_iff_ne] at hb | rw [bne_eq_false_iff_eq] at hb | skip); (first | (exfalso; omega) | (exact absurd rfl hb) | skip))
      | (apply aopG_ok; exact rfl)
      | apply ops_nil
      | (apply awp_drawq; exact rfl; kernel_rfl; kernel_rfl; exact rfl)
      | (apply awp_drawx; exact rfl; kernel_rfl; exact rfl)
      | (apply aopQ_ok; exact rfl)
      | apply qs_nil
      | (apply ch_nil; exact rfl)
      | (apply ch_cons; (· exact rfl); (· exact rfl); (· exact rfl); (· exact rfl); (· (intro w0 Z O; first | (apply aop_ok; exact rfl) | (apply QOk.ok; first | refine zk0 rfl rfl rfl rfl rfl ?_ | refine zk5 rfl rfl rfl rfl rfl ?_ | refine zk11 rfl rfl rfl rfl rfl ?_ | refine zk12 rfl rfl rfl rfl rfl (fun _ => ?_) | refine zk17 rfl rfl rfl rfl rfl rfl rfl ?_ | refine zk19 rfl rfl rfl rfl rfl ?_ | refine zk20 rfl rfl rfl rfl rfl rfl ?_ | refine zk21 rfl rfl rfl rfl rfl rfl ?_ | refine zk22 rfl rfl rfl rfl rfl rfl ?_ | refine zk23 rfl rfl rfl rfl rfl rfl ?_) | refine zk32 rfl rfl rfl rfl rfl rfl rfl rfl rfl rfl rfl rfl ?_ | refine zk33 rfl rfl rfl rfl rfl rfl ⟨rfl, rfl, rfl⟩ rfl rfl ?_ | refine zk34 rfl rfl rfl rfl rfl ⟨rfl, rfl, rfl⟩ rfl rfl ?_ | refine zk35 rfl rfl rfl ⟨rfl, rfl, rfl⟩ rfl rfl rfl rfl rfl rfl rfl rfl rfl ?_ | refine zk37 rfl rfl rfl rfl rfl rfl rfl ?_ | refine st_call (hjk) rfl rfl rfl rfl rfl ?_); exact ⟨rfl, rfl, rfl⟩); (· exact rfl); (· exact rfl); (· (repeat' (first | apply And.intro | exact Or.inl rfl | exact Or.inr ⟨rfl, rfl⟩ | exact trivial))); (· (repeat' (first | apply And.intro | exact trivial | exact rfl | exact flatE_map (fun _ => rfl) | apply flatE_app))); (· exact rfl); (· exact rfl); (· exact rfl); (· exact rfl))
      | (apply awp_cond_t; exact rfl)
      | (apply awp_cond_f; exact rfl)
      | (apply cond_x; exact rfl)
      | apply awp_block
      | apply awp_skip
      | apply awp_exit
      | apply awp_ret'
      | (first | (apply ops_cons; exact rfl) | (apply ops_yes; exact rfl; exact rfl; exact rfl))
      | (apply ops_x; exact rfl; exact rfl; (fail_if_success exact (rfl : _ = AV.d (.b true))); (fail_if_success exact (rfl : _ = AV.d (.b false))); exact rfl)
      | (first | (apply qs_cons; exact rfl) | (apply qs_yes; exact rfl; exact rfl; exact rfl))
      | (apply qs_x; exact rfl; exact rfl; (fail_if_success exact (rfl : _ = AV.d (.b true))); (fail_if_success exact (rfl : _ = AV.d (.b false))); exact rfl)
      | (apply q_id; first | refine st_callq (hjk) rfl rfl rfl rfl rfl ?_)
      | (apply op_id; first | refine zk32 rfl rfl rfl rfl rfl rfl rfl rfl rfl rfl rfl rfl ?_ | refine zk33 rfl rfl rfl rfl rfl rfl ⟨rfl, rfl, rfl⟩ rfl rfl ?_ | refine zk34 rfl rfl rfl rfl rfl ⟨rfl, rfl, rfl⟩ rfl rfl ?_ | refine zk35 rfl rfl rfl ⟨rfl, rfl, rfl⟩ rfl rfl rfl rfl rfl rfl rfl rfl rfl ?_ | refine zk37 rfl rfl rfl rfl rfl rfl rfl ?_ | refine st_call (hjk) rfl rfl rfl rfl rfl ?_ | (apply qok_q; exact rfl))
      | (apply q_id; first | refine zk0 rfl rfl rfl rfl rfl ?_ | refine zk5 rfl rfl rfl rfl rfl ?_ | refine zk11 rfl rfl rfl rfl rfl ?_ | refine zk12 rfl rfl rfl rfl rfl (fun _ => ?_) | refine zk17 rfl rfl rfl rfl rfl rfl rfl ?_ | refine zk19 rfl rfl rfl rfl rfl ?_ | refine zk20 rfl rfl rfl rfl rfl rfl ?_ | refine zk21 rfl rfl rfl rfl rfl rfl ?_ | refine zk22 rfl rfl rfl rfl rfl rfl ?_ | refine zk23 rfl rfl rfl rfl rfl rfl ?_)
      )
    refine Stop.mk ?_
    refine ret_intro [] rfl rfl ?_ ?_
    repeat' (first
      | apply And.intro
      | (apply eq_b; exact rfl; exact Stop.mk (by with_reducible rfl))
      | (apply eq_b; exact rfl)
      | (apply eq_n; exact rfl; exact Stop.mk (by first | with_reducible rfl | omega))
      | (apply eq_n; exact rfl)
      | (apply eq_s; exact rfl; exact Stop.mk (by with_reducible rfl))
      | (apply eq_s; exact rfl)
      | (apply eq_sl; exact rfl; exact Stop.mk (by with_reducible rfl))
      | (apply eq_sl; exact rfl)
      | (apply eq_row; exact rfl; exact Stop.mk (by with_reducible rfl))
      | (apply eq_row; exact rfl)
      | (apply eq_agg; exact rfl)
      | (apply eq_cons; exact rfl)
      | (apply eq_boxo; exact rfl)
      | (apply cell_agg; exact rfl; exact rfl; exact rfl)
      | (apply cell_one; exact rfl; exact rfl)
      | exact rfl
      | trivial
      )
    all_goals exact Stop.mk rfl
  | true =>
    rw [hj] at hjk
    obtain ⟨h1, h2, h3, h4, h5⟩ := jnOk_in hj
    have hcn : (j.count.toNat : Int) = j.count := by have := readR_len j.bytes; omega
    have hlb : (hdT j.count.toNat ++ s ++ [10]).length ≤ 1000000012 := by
      have := numTx_len j.count.toNat
      simp only [hdT, List.length_append, List.length_singleton]; omega
    have hlen : ([] ++ byteE j.bytes ++ byteE (hdT j.count.toNat ++ s ++ [10])).length = j.bytes.length + (hdT j.count.toNat ++ s ++ [10]).length := by rw [List.nil_append, List.length_append, byteE_length, byteE_length]
    have hrec := l07Record_e (n := j.count.toNat) (s := s) hs
    rw [hcn] at hrec
    repeat' (first
      | apply awp_seq
      | (apply awp_regionN; exact rfl)
      | (refine Hb.mk (fun hb => ?_); (first | rw [inB_t] at hb | rw [inB_f] at hb | rw [inB_nt] at hb | rw [inB_nf] at hb | rw [decide_eq_true_eq] at hb | rw [decide_eq_false_iff_not] at hb | rw [beq_iff_eq] at hb | rw [beq_eq_false_iff_ne] at hb | rw [Bool.not_eq_true'] at hb | rw [Bool.not_eq_false'] at hb | rw [bne_iff_ne] at hb | rw [bne_eq_false_iff_eq] at hb | skip); (first | (exfalso; omega) | (exact absurd rfl hb) | skip))
      | (apply aopG_ok; exact rfl)
      | apply ops_nil
      | (apply awp_drawq; exact rfl; kernel_rfl; kernel_rfl; exact rfl)
      | (apply awp_drawx; exact rfl; kernel_rfl; exact rfl)
      | (apply aopQ_ok; exact rfl)
      | apply qs_nil
      | (apply ch_nil; exact rfl)
      | (apply ch_cons; (· exact rfl); (· exact rfl); (· exact rfl); (· exact rfl); (· (intro w0 Z O; first | (apply aop_ok; exact rfl) | (apply QOk.ok; first | refine zk0 rfl rfl rfl rfl rfl ?_ | refine zk5 rfl rfl rfl rfl rfl ?_ | refine zk11 rfl rfl rfl rfl rfl ?_ | refine zk12 rfl rfl rfl rfl rfl (fun _ => ?_) | refine zk17 rfl rfl rfl rfl rfl rfl rfl ?_ | refine zk19 rfl rfl rfl rfl rfl ?_ | refine zk20 rfl rfl rfl rfl rfl rfl ?_ | refine zk21 rfl rfl rfl rfl rfl rfl ?_ | refine zk22 rfl rfl rfl rfl rfl rfl ?_ | refine zk23 rfl rfl rfl rfl rfl rfl ?_) | refine zk32 rfl rfl rfl rfl rfl rfl rfl rfl rfl rfl rfl rfl ?_ | refine zk33 rfl rfl rfl rfl rfl rfl ⟨rfl, rfl, rfl⟩ rfl rfl ?_ | refine zk34 rfl rfl rfl rfl rfl ⟨rfl, rfl, rfl⟩ rfl rfl ?_ | refine zk35 rfl rfl rfl ⟨rfl, rfl, rfl⟩ rfl rfl rfl rfl rfl rfl rfl rfl rfl ?_ | refine zk37 rfl rfl rfl rfl rfl rfl rfl ?_ | refine st_call (hjk) rfl rfl rfl rfl rfl ?_ | refine st_call (recordOk_s hs) rfl rfl rfl rfl rfl ?_ | refine st_call (hrec) rfl rfl rfl rfl rfl ?_); exact ⟨rfl, rfl, rfl⟩); (· exact rfl); (· exact rfl); (· (repeat' (first | apply And.intro | exact Or.inl rfl | exact Or.inr ⟨rfl, rfl⟩ | exact trivial))); (· (repeat' (first | apply And.intro | exact trivial | exact rfl | exact flatE_map (fun _ => rfl) | apply flatE_app))); (· exact rfl); (· exact rfl); (· exact rfl); (· exact rfl))
      | (apply awp_cond_t; exact rfl)
      | (apply awp_cond_f; exact rfl)
      | (apply cond_x; exact rfl)
      | apply awp_block
      | apply awp_skip
      | apply awp_exit
      | apply awp_ret'
      | (first | (apply ops_cons; exact rfl) | (apply ops_yes; exact rfl; exact rfl; exact rfl))
      | (apply ops_x; exact rfl; exact rfl; (fail_if_success exact (rfl : _ = AV.d (.b true))); (fail_if_success exact (rfl : _ = AV.d (.b false))); exact rfl)
      | (first | (apply qs_cons; exact rfl) | (apply qs_yes; exact rfl; exact rfl; exact rfl))
      | (apply qs_x; exact rfl; exact rfl; (fail_if_success exact (rfl : _ = AV.d (.b true))); (fail_if_success exact (rfl : _ = AV.d (.b false))); exact rfl)
      | (apply q_id; first | refine st_callq (hjk) rfl rfl rfl rfl rfl ?_ | refine st_callq (recordOk_s hs) rfl rfl rfl rfl rfl ?_ | refine st_callq (hrec) rfl rfl rfl rfl rfl ?_)
      | (apply op_id; first | refine zk32 rfl rfl rfl rfl rfl rfl rfl rfl rfl rfl rfl rfl ?_ | refine zk33 rfl rfl rfl rfl rfl rfl ⟨rfl, rfl, rfl⟩ rfl rfl ?_ | refine zk34 rfl rfl rfl rfl rfl ⟨rfl, rfl, rfl⟩ rfl rfl ?_ | refine zk35 rfl rfl rfl ⟨rfl, rfl, rfl⟩ rfl rfl rfl rfl rfl rfl rfl rfl rfl ?_ | refine zk37 rfl rfl rfl rfl rfl rfl rfl ?_ | refine st_call (hjk) rfl rfl rfl rfl rfl ?_ | refine st_call (recordOk_s hs) rfl rfl rfl rfl rfl ?_ | refine st_call (hrec) rfl rfl rfl rfl rfl ?_ | (apply qok_q; exact rfl))
      | (apply q_id; first | refine zk0 rfl rfl rfl rfl rfl ?_ | refine zk5 rfl rfl rfl rfl rfl ?_ | refine zk11 rfl rfl rfl rfl rfl ?_ | refine zk12 rfl rfl rfl rfl rfl (fun _ => ?_) | refine zk17 rfl rfl rfl rfl rfl rfl rfl ?_ | refine zk19 rfl rfl rfl rfl rfl ?_ | refine zk20 rfl rfl rfl rfl rfl rfl ?_ | refine zk21 rfl rfl rfl rfl rfl rfl ?_ | refine zk22 rfl rfl rfl rfl rfl rfl ?_ | refine zk23 rfl rfl rfl rfl rfl rfl ?_)
      )
    · rw [addC_1' (by assumption)]
      refine Stop.mk ?_
      refine ret_intro [] rfl rfl ?_ ?_
      repeat' (first
        | apply And.intro
        | (apply eq_b; exact rfl; exact Stop.mk (by with_reducible rfl))
        | (apply eq_b; exact rfl)
        | (apply eq_n; exact rfl; exact Stop.mk (by first | with_reducible rfl | omega))
        | (apply eq_n; exact rfl)
        | (apply eq_s; exact rfl; exact Stop.mk (by with_reducible rfl))
        | (apply eq_s; exact rfl)
        | (apply eq_sl; exact rfl; exact Stop.mk (by with_reducible rfl))
        | (apply eq_sl; exact rfl)
        | (apply eq_row; exact rfl; exact Stop.mk (by with_reducible rfl))
        | (apply eq_row; exact rfl)
        | (apply eq_agg; exact rfl)
        | (apply eq_cons; exact rfl)
        | (apply eq_boxo; exact rfl)
        | (apply cell_agg; exact rfl; exact rfl; exact rfl)
        | (apply cell_one; exact rfl; exact rfl)
        | exact rfl
        | trivial
        )
      all_goals exact Stop.mk rfl
    · rw [addC_2 hj (by assumption) (by omega)]
      refine Stop.mk ?_
      refine ret_intro [] rfl rfl ?_ ?_
      repeat' (first
        | apply And.intro
        | (apply eq_b; exact rfl; exact Stop.mk (by with_reducible rfl))
        | (apply eq_b; exact rfl)
        | (apply eq_n; exact rfl; exact Stop.mk (by first | with_reducible rfl | omega))
        | (apply eq_n; exact rfl)
        | (apply eq_s; exact rfl; exact Stop.mk (by with_reducible rfl))
        | (apply eq_s; exact rfl)
        | (apply eq_sl; exact rfl; exact Stop.mk (by with_reducible rfl))
        | (apply eq_sl; exact rfl)
        | (apply eq_row; exact rfl; exact Stop.mk (by with_reducible rfl))
        | (apply eq_row; exact rfl)
        | (apply eq_agg; exact rfl)
        | (apply eq_cons; exact rfl)
        | (apply eq_boxo; exact rfl)
        | (apply cell_agg; exact rfl; exact rfl; exact rfl)
        | (apply cell_one; exact rfl; exact rfl)
        | exact rfl
        | trivial
        )
      all_goals exact Stop.mk rfl
    · exact absurd (addC_0 hj (by assumption) (by omega)) hc
set_option maxRecDepth 100000 in
theorem journalAdd_e0 {j : Journal} {s : List UInt8} (h : j.bytes.length ≤ 1000000000) (hs : s.length ≤ 1000000000) (hc : addC j s ≠ 0) : ACalls Try.prog 78 [jnA j, .d (.s s)] (jnC (addC j s)) [] := by
  refine acalls_of tt Try.func78 rfl rfl rfl (fun w0 Z => ?_)
  have hjk := journalOk_e (j := j) h
  cases hj : jnOk j with
  | false =>
    rw [hj] at hjk
    rw [addC_1 hj]
    repeat' (first
      | apply awp_seq
      | (apply awp_regionN; exact rfl)
      | (refine Hb.mk (fun hb => ?_); (first | rw [inB_t] at hb | rw [inB_f] at hb | rw [inB_nt] at hb | rw [inB_nf] at hb | rw [decide_eq_true_eq] at hb | rw [decide_eq_false_iff_not] at hb | rw [beq_iff_eq] at hb | rw [beq_eq_false_iff_ne] at hb | rw [Bool.not_eq_true'] at hb | rw [Bool.not_eq_false'] at hb | rw [bne_iff_ne] at hb | rw [bne_eq_false_iff_eq] at hb | skip); (first | (exfalso; omega) | (exact absurd rfl hb) | skip))
      | (apply aopG_ok; exact rfl)
      | apply ops_nil
      | (apply awp_cond_t; exact rfl)
      | (apply awp_cond_f; exact rfl)
      | (apply cond_x; exact rfl)
      | apply awp_block
      | apply awp_skip
      | apply awp_exit
      | apply awp_ret'
      | (first | (apply ops_cons; exact rfl) | (apply ops_yes; exact rfl; exact rfl; exact rfl))
      | (apply ops_x; exact rfl; exact rfl; (fail_if_success exact (rfl : _ = AV.d (.b true))); (fail_if_success exact (rfl : _ = AV.d (.b false))); exact rfl)
      | (apply op_id; first | refine st_call (hjk) rfl rfl rfl rfl rfl ?_ | (apply qok_q; exact rfl))
      | (apply q_id; first | refine zk23 rfl rfl rfl rfl rfl rfl ?_)
      )
    refine Stop.mk ?_
    refine ret_intro [] rfl rfl ?_ ?_
    repeat' (first
      | apply And.intro
      | (apply eq_b; exact rfl; exact Stop.mk (by with_reducible rfl))
      | (apply eq_b; exact rfl)
      | (apply eq_n; exact rfl; exact Stop.mk (by first | with_reducible rfl | omega))
      | (apply eq_n; exact rfl)
      | (apply eq_s; exact rfl; exact Stop.mk (by with_reducible rfl))
      | (apply eq_s; exact rfl)
      | (apply eq_sl; exact rfl; exact Stop.mk (by with_reducible rfl))
      | (apply eq_sl; exact rfl)
      | (apply eq_row; exact rfl; exact Stop.mk (by with_reducible rfl))
      | (apply eq_row; exact rfl)
      | (apply eq_agg; exact rfl)
      | (apply eq_cons; exact rfl)
      | (apply eq_boxo; exact rfl)
      | (apply cell_agg; exact rfl; exact rfl; exact rfl)
      | (apply cell_one; exact rfl; exact rfl)
      | exact rfl
      | trivial
      )
    all_goals exact Stop.mk rfl
  | true =>
    rw [hj] at hjk
    repeat' (first
      | apply awp_seq
      | (apply awp_regionN; exact rfl)
      | (refine Hb.mk (fun hb => ?_); (first | rw [inB_t] at hb | rw [inB_f] at hb | rw [inB_nt] at hb | rw [inB_nf] at hb | rw [decide_eq_true_eq] at hb | rw [decide_eq_false_iff_not] at hb | rw [beq_iff_eq] at hb | rw [beq_eq_false_iff_ne] at hb | rw [Bool.not_eq_true'] at hb | rw [Bool.not_eq_false'] at hb | rw [bne_iff_ne] at hb | rw [bne_eq_false_iff_eq] at hb | skip); (first | (exfalso; omega) | (exact absurd rfl hb) | skip))
      | (apply aopG_ok; exact rfl)
      | apply ops_nil
      | (apply awp_cond_t; exact rfl)
      | (apply awp_cond_f; exact rfl)
      | (apply cond_x; exact rfl)
      | apply awp_block
      | apply awp_skip
      | apply awp_exit
      | apply awp_ret'
      | (first | (apply ops_cons; exact rfl) | (apply ops_yes; exact rfl; exact rfl; exact rfl))
      | (apply ops_x; exact rfl; exact rfl; (fail_if_success exact (rfl : _ = AV.d (.b true))); (fail_if_success exact (rfl : _ = AV.d (.b false))); exact rfl)
      | (apply op_id; first | refine st_call (hjk) rfl rfl rfl rfl rfl ?_ | refine st_call (added_e0 hj hs hc) rfl rfl rfl rfl rfl ?_ | (apply qok_q; exact rfl))
      | (apply q_id; first | refine zk23 rfl rfl rfl rfl rfl rfl ?_)
      )
    refine Stop.mk ?_
    refine ret_intro [] rfl rfl ?_ ?_
    repeat' (first
      | apply And.intro
      | (apply eq_b; exact rfl; exact Stop.mk (by with_reducible rfl))
      | (apply eq_b; exact rfl)
      | (apply eq_n; exact rfl; exact Stop.mk (by first | with_reducible rfl | omega))
      | (apply eq_n; exact rfl)
      | (apply eq_s; exact rfl; exact Stop.mk (by with_reducible rfl))
      | (apply eq_s; exact rfl)
      | (apply eq_sl; exact rfl; exact Stop.mk (by with_reducible rfl))
      | (apply eq_sl; exact rfl)
      | (apply eq_row; exact rfl; exact Stop.mk (by with_reducible rfl))
      | (apply eq_row; exact rfl)
      | (apply eq_agg; exact rfl)
      | (apply eq_cons; exact rfl)
      | (apply eq_boxo; exact rfl)
      | (apply cell_agg; exact rfl; exact rfl; exact rfl)
      | (apply cell_one; exact rfl; exact rfl)
      | exact rfl
      | trivial
      )
    all_goals exact Stop.mk rfl
set_option maxRecDepth 100000 in
theorem journalAdd_e {j : Journal} {s : List UInt8} (hc : addC j s = 0) : ACalls Try.prog 78 [jnA j, .d (.s s)] [jnR (jnAdd j s), .d (.n .i64 0)] (jnO (jnAdd j s)) := by
  refine acalls_of tt Try.func78 rfl rfl rfl (fun w0 Z => ?_)
  obtain ⟨hj, _, _⟩ := addC_yes hc
  have hjk := journalOk_e (j := j) (by have := (jnOk_in hj).1; omega)
  rw [hj] at hjk
  repeat' (first
    | apply awp_seq
    | (apply awp_regionN; exact rfl)
    | (refine Hb.mk (fun hb => ?_); (first | rw [inB_t] at hb | rw [inB_f] at hb | rw [inB_nt] at hb | rw [inB_nf] at hb | rw [decide_eq_true_eq] at hb | rw [decide_eq_false_iff_not] at hb | rw [beq_iff_eq] at hb | rw [beq_eq_false_iff_ne] at hb | rw [Bool.not_eq_true'] at hb | rw [Bool.not_eq_false'] at hb | rw [bne_iff_ne] at hb | rw [bne_eq_false_iff_eq] at hb | skip); (first | (exfalso; omega) | (exact absurd rfl hb) | skip))
    | (apply aopG_ok; exact rfl)
    | apply ops_nil
    | (apply awp_cond_t; exact rfl)
    | (apply awp_cond_f; exact rfl)
    | (apply cond_x; exact rfl)
    | apply awp_block
    | apply awp_skip
    | apply awp_exit
    | apply awp_ret'
    | (first | (apply ops_cons; exact rfl) | (apply ops_yes; exact rfl; exact rfl; exact rfl))
    | (apply ops_x; exact rfl; exact rfl; (fail_if_success exact (rfl : _ = AV.d (.b true))); (fail_if_success exact (rfl : _ = AV.d (.b false))); exact rfl)
    | (apply op_id; first | refine st_call (hjk) rfl rfl rfl rfl rfl ?_ | refine st_call (added_e hc) rfl rfl rfl rfl rfl ?_ | (apply qok_q; exact rfl))
    | (apply q_id; first | refine zk23 rfl rfl rfl rfl rfl rfl ?_)
    )
  refine Stop.mk ?_
  refine ret_intro [12] rfl rfl ?_ ?_
  repeat' (first
    | apply And.intro
    | (apply eq_b; exact rfl; exact Stop.mk (by with_reducible rfl))
    | (apply eq_b; exact rfl)
    | (apply eq_n; exact rfl; exact Stop.mk (by first | with_reducible rfl | omega))
    | (apply eq_n; exact rfl)
    | (apply eq_s; exact rfl; exact Stop.mk (by with_reducible rfl))
    | (apply eq_s; exact rfl)
    | (apply eq_sl; exact rfl; exact Stop.mk (by with_reducible rfl))
    | (apply eq_sl; exact rfl)
    | (apply eq_row; exact rfl; exact Stop.mk (by with_reducible rfl))
    | (apply eq_row; exact rfl)
    | (apply eq_agg; exact rfl)
    | (apply eq_cons; exact rfl)
    | (apply eq_boxo; exact rfl)
    | (apply cell_agg; exact rfl; exact rfl; exact rfl)
    | (apply cell_one; exact rfl; exact rfl)
    | exact rfl
    | trivial
    )
  all_goals exact Stop.mk rfl
end Go.Proofs.Ythmajaeekkbnnaa
