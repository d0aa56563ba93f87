/-
  The journal: JournalOpen, JournalSync, JournalAdd, JournalCrash, both; marks of journals.
-/
import Derived.Test.YthmajaeekkbnnaaSh
import Derived.Test.YthmajaeekkbnnaaTxW
namespace Go.Proofs.Ythmajaeekkbnnaa
open Go Go.RowKit
attribute [local irreducible] AWp OpsOk OpOk ACalls ChA QsOk MCalls

theorem cut_eq {b : List UInt8} {m n : Nat} (h : m = n) : ((byteE b).take m).drop 0 = byteE (b.take n) := by
  subst h
  simp [byteE, List.map_take]
theorem cut_eq' {b : List UInt8} {m n : Nat} (h : m = n) : [] ++ ((byteE b).take m).drop 0 = byteE (b.take n) := cut_eq h
abbrev jn0 : List AV := [.agg [.nil, .d (.n .i64 0), .d (.n .i64 0)]]
abbrev jnR (j : Journal) : AV := .agg [.row 0, .d (.n .i64 j.synced), .d (.n .i64 j.count)]
abbrev jnO (j : Journal) : List (Nat × AO) := [(0, .row 5 (byteE j.bytes) true)]
set_option maxRecDepth 100000 in
theorem copyBytes_e {b : List UInt8} {es : List (List D)} (he : es = byteE b) (h : b.length ≤ 1000000000) : ACalls Try.prog 113 [.d (.sl es)] [.row 0] [(0, .row 5 (byteE b) true)] := by
  subst he
  refine acalls_of tt Try.func113 rfl rfl rfl (fun w0 Z => ?_)
  repeat' (first
    | apply awp_seq
    | (apply awp_regionN; exact rfl)
    | (refine Hb.mk (fun hb => ?_); (first | rw [inB_t] at hb | rw [inB_f] at hb | rw [inB_nt] at hb | rw [inB_nf] at hb | rw [decide_eq_true_eq] at hb | rw [decide_eq_false_iff_not] at hb | rw [beq_iff_eq] at hb | rw [beq_eq_false_iff_ne] at hb | rw [Bool.not_eq_true'] at hb | rw [Bool.not_eq_false'] at hb | rw [bne_iff_ne] at hb | rw [bne_eq_false_iff_eq] at hb | skip); (first | (exfalso; omega) | (exact absurd rfl hb) | skip))
    | (apply aopG_ok; exact rfl)
    | apply ops_nil
    | (apply awp_cond_t; exact rfl)
    | (apply awp_cond_f; exact rfl)
    | (apply cond_x; exact rfl)
    | apply awp_block
    | apply awp_skip
    | apply awp_exit
    | apply awp_ret'
    | (first | (apply ops_cons; exact rfl) | (apply ops_yes; exact rfl; exact rfl; exact rfl))
    | (apply ops_x; exact rfl; exact rfl; (fail_if_success exact (rfl : _ = AV.d (.b true))); (fail_if_success exact (rfl : _ = AV.d (.b false))); exact rfl)
    | (apply op_id; first | refine zk32 rfl rfl rfl rfl rfl rfl rfl rfl rfl rfl rfl rfl ?_ | refine zk33 rfl rfl rfl rfl rfl rfl ⟨rfl, rfl, rfl⟩ rfl rfl ?_ | refine zk34 rfl rfl rfl rfl rfl ⟨rfl, rfl, rfl⟩ rfl rfl ?_)
    )
  refine Stop.mk ?_
  refine ret_intro [4] rfl rfl ?_ ?_
  repeat' (first
    | apply And.intro
    | (apply eq_b; exact rfl; exact Stop.mk (by with_reducible rfl))
    | (apply eq_b; exact rfl)
    | (apply eq_n; exact rfl; exact Stop.mk (by first | with_reducible rfl | omega))
    | (apply eq_n; exact rfl)
    | (apply eq_s; exact rfl; exact Stop.mk (by with_reducible rfl))
    | (apply eq_s; exact rfl)
    | (apply eq_sl; exact rfl; exact Stop.mk (by with_reducible rfl))
    | (apply eq_sl; exact rfl)
    | (apply eq_row; exact rfl; exact Stop.mk (by with_reducible rfl))
    | (apply eq_row; exact rfl)
    | (apply eq_agg; exact rfl)
    | (apply eq_cons; exact rfl)
    | (apply eq_boxo; exact rfl)
    | (apply cell_agg; exact rfl; exact rfl; exact rfl)
    | (apply cell_one; exact rfl; exact rfl)
    | exact rfl
    | trivial
    )
  all_goals exact Stop.mk rfl
def jnOpen (b : List UInt8) : Journal := ⟨b.take (readR b).2, (readR b).2, (readR b).1.length⟩
set_option maxRecDepth 100000 in
theorem journalOpen_e0 {b : List UInt8} (h : 40000 < b.length) (h' : b.length ≤ 1000000000) : ACalls Try.prog 65 [.d (.sl (byteE b))] jn0 [] := by
  refine acalls_of tt Try.func65 rfl rfl rfl (fun w0 Z => ?_)
  repeat' (first
    | apply awp_seq
    | (apply awp_regionN; exact rfl)
    | (refine Hb.mk (fun hb => ?_); (first | rw [inB_t] at hb | rw [inB_f] at hb | rw [inB_nt] at hb | rw [inB_nf] at hb | rw [decide_eq_true_eq] at hb | rw [decide_eq_false_iff_not] at hb | rw [beq_iff_eq] at hb | rw [beq_eq_false_iff_ne] at hb | rw [Bool.not_eq_true'] at hb | rw [Bool.not_eq_false'] at hb | rw [bne_iff_ne] at hb | rw [bne_eq_false_iff_eq] at hb | skip); (first | (exfalso; omega) | (exact absurd rfl hb) | skip))
    | (apply aopG_ok; exact rfl)
    | apply ops_nil
    | (apply awp_cond_t; exact rfl)
    | (apply awp_cond_f; exact rfl)
    | (apply cond_x; exact rfl)
    | apply awp_block
    | apply awp_skip
    | apply awp_exit
    | apply awp_ret'
    | (first | (apply ops_cons; exact rfl) | (apply ops_yes; exact rfl; exact rfl; exact rfl))
    | (apply ops_x; exact rfl; exact rfl; (fail_if_success exact (rfl : _ = AV.d (.b true))); (fail_if_success exact (rfl : _ = AV.d (.b false))); exact rfl)
    | (apply op_id; first | (apply qok_q; exact rfl))
    | (apply q_id; first | refine zk11 rfl rfl rfl rfl rfl ?_ | refine zk12 rfl rfl rfl rfl rfl (fun _ => ?_) | refine zk15 rfl rfl rfl rfl rfl rfl rfl ?_ | refine zk16 rfl rfl rfl rfl rfl rfl rfl ?_ | refine zk23 rfl rfl rfl rfl rfl rfl ?_)
    )
  refine Stop.mk ?_
  refine ret_intro [] rfl rfl ?_ ?_
  repeat' (first
    | apply And.intro
    | (apply eq_b; exact rfl; exact Stop.mk (by with_reducible rfl))
    | (apply eq_b; exact rfl)
    | (apply eq_n; exact rfl; exact Stop.mk (by first | with_reducible rfl | omega))
    | (apply eq_n; exact rfl)
    | (apply eq_s; exact rfl; exact Stop.mk (by with_reducible rfl))
    | (apply eq_s; exact rfl)
    | (apply eq_sl; exact rfl; exact Stop.mk (by with_reducible rfl))
    | (apply eq_sl; exact rfl)
    | (apply eq_row; exact rfl; exact Stop.mk (by with_reducible rfl))
    | (apply eq_row; exact rfl)
    | (apply eq_agg; exact rfl)
    | (apply eq_cons; exact rfl)
    | (apply eq_boxo; exact rfl)
    | (apply cell_agg; exact rfl; exact rfl; exact rfl)
    | (apply cell_one; exact rfl; exact rfl)
    | exact rfl
    | trivial
    )
  all_goals exact Stop.mk rfl
set_option maxRecDepth 100000 in
theorem journalOpen_s0 {b : List UInt8} (h : 40000 < b.length) (h' : b.length ≤ 1000000000) : ACalls Try.prog 64 [.d (.sl (byteE b))] jn0 [] := by
  refine acalls_of tt Try.func64 rfl rfl rfl (fun w0 Z => ?_)
  repeat' (first
    | apply awp_seq
    | (apply awp_regionN; exact rfl)
    | (refine Hb.mk (fun hb => ?_); (first | rw [inB_t] at hb | rw [inB_f] at hb | rw [inB_nt] at hb | rw [inB_nf] at hb | rw [decide_eq_true_eq] at hb | rw [decide_eq_false_iff_not] at hb | rw [beq_iff_eq] at hb | rw [beq_eq_false_iff_ne] at hb | rw [Bool.not_eq_true'] at hb | rw [Bool.not_eq_false'] at hb | rw [bne_iff_ne] at hb | rw [bne_eq_false_iff_eq] at hb | skip); (first | (exfalso; omega) | (exact absurd rfl hb) | skip))
    | (apply aopG_ok; exact rfl)
    | apply ops_nil
    | (apply awp_cond_t; exact rfl)
    | (apply awp_cond_f; exact rfl)
    | (apply cond_x; exact rfl)
    | apply awp_block
    | apply awp_skip
    | apply awp_exit
    | apply awp_ret'
    | (first | (apply ops_cons; exact rfl) | (apply ops_yes; exact rfl; exact rfl; exact rfl))
    | (apply ops_x; exact rfl; exact rfl; (fail_if_success exact (rfl : _ = AV.d (.b true))); (fail_if_success exact (rfl : _ = AV.d (.b false))); exact rfl)
    | (apply op_id; first | refine zk32 rfl rfl rfl rfl rfl rfl rfl rfl rfl rfl rfl rfl ?_ | refine zk33 rfl rfl rfl rfl rfl rfl ⟨rfl, rfl, rfl⟩ rfl rfl ?_ | refine zk34 rfl rfl rfl rfl rfl ⟨rfl, rfl, rfl⟩ rfl rfl ?_ | refine zk35 rfl rfl rfl ⟨rfl, rfl, rfl⟩ rfl rfl rfl rfl rfl rfl rfl rfl rfl ?_ | (apply qok_q; exact rfl))
    | (apply q_id; first | refine zk11 rfl rfl rfl rfl rfl ?_ | refine zk12 rfl rfl rfl rfl rfl (fun _ => ?_) | refine zk15 rfl rfl rfl rfl rfl rfl rfl ?_ | refine zk16 rfl rfl rfl rfl rfl rfl rfl ?_ | refine zk23 rfl rfl rfl rfl rfl rfl ?_)
    )
  refine Stop.mk ?_
  refine ret_intro [] rfl rfl ?_ ?_
  repeat' (first
    | apply And.intro
    | (apply eq_b; exact rfl; exact Stop.mk (by with_reducible rfl))
    | (apply eq_b; exact rfl)
    | (apply eq_n; exact rfl; exact Stop.mk (by first | with_reducible rfl | omega))
    | (apply eq_n; exact rfl)
    | (apply eq_s; exact rfl; exact Stop.mk (by with_reducible rfl))
    | (apply eq_s; exact rfl)
    | (apply eq_sl; exact rfl; exact Stop.mk (by with_reducible rfl))
    | (apply eq_sl; exact rfl)
    | (apply eq_row; exact rfl; exact Stop.mk (by with_reducible rfl))
    | (apply eq_row; exact rfl)
    | (apply eq_agg; exact rfl)
    | (apply eq_cons; exact rfl)
    | (apply eq_boxo; exact rfl)
    | (apply cell_agg; exact rfl; exact rfl; exact rfl)
    | (apply cell_one; exact rfl; exact rfl)
    | exact rfl
    | trivial
    )
  all_goals exact Stop.mk rfl
set_option maxRecDepth 100000 in
theorem journalOpen_e {b : List UInt8} (h : b.length ≤ 40000) : ACalls Try.prog 65 [.d (.sl (byteE b))] [jnR (jnOpen b)] (jnO (jnOpen b)) := by
  refine acalls_of tt Try.func65 rfl rfl rfl (fun w0 Z => ?_)
  have hr := readR_len b
  have hl : (b.take (readR b).2).length ≤ 1000000000 := by rw [List.length_take]; omega
  repeat' (first
    | apply awp_seq
    | (apply awp_regionN; exact rfl)
    | (refine Hb.mk (fun hb => ?_); (first | rw [inB_t] at hb | rw [inB_f] at hb | rw [inB_nt] at hb | rw [inB_nf] at hb | rw [decide_eq_true_eq] at hb | rw [decide_eq_false_iff_not] at hb | rw [beq_iff_eq] at hb | rw [beq_eq_false_iff_ne] at hb | rw [Bool.not_eq_true'] at hb | rw [Bool.not_eq_false'] at hb | rw [bne_iff_ne] at hb | rw [bne_eq_false_iff_eq] at hb | skip); (first | (exfalso; omega) | (exact absurd rfl hb) | skip))
    | (apply aopG_ok; exact rfl)
    | apply ops_nil
    | (apply awp_cond_t; exact rfl)
    | (apply awp_cond_f; exact rfl)
    | (apply cond_x; exact rfl)
    | apply awp_block
    | apply awp_skip
    | apply awp_exit
    | apply awp_ret'
    | (first | (apply ops_cons; exact rfl) | (apply ops_yes; exact rfl; exact rfl; exact rfl))
    | (apply ops_x; exact rfl; exact rfl; (fail_if_success exact (rfl : _ = AV.d (.b true))); (fail_if_success exact (rfl : _ = AV.d (.b false))); exact rfl)
    | (apply op_id; first | refine st_call (readRecords_e (b := b) (by omega)) rfl rfl rfl rfl rfl ?_ | refine st_call (copyBytes_e (b := b.take (readR b).2) (cut_eq rfl) hl) rfl rfl rfl rfl rfl ?_ | (apply qok_q; exact rfl))
    | (apply q_id; first | refine zk11 rfl rfl rfl rfl rfl ?_ | refine zk12 rfl rfl rfl rfl rfl (fun _ => ?_) | refine zk15 rfl rfl rfl rfl rfl rfl rfl ?_ | refine zk16 rfl rfl rfl rfl rfl rfl rfl ?_ | refine zk23 rfl rfl rfl rfl rfl rfl ?_)
    )
  refine Stop.mk ?_
  refine ret_intro [17] rfl rfl ?_ ?_
  repeat' (first
    | apply And.intro
    | (apply eq_b; exact rfl; exact Stop.mk (by with_reducible rfl))
    | (apply eq_b; exact rfl)
    | (apply eq_n; exact rfl; exact Stop.mk (by first | with_reducible rfl | omega))
    | (apply eq_n; exact rfl)
    | (apply eq_s; exact rfl; exact Stop.mk (by with_reducible rfl))
    | (apply eq_s; exact rfl)
    | (apply eq_sl; exact rfl; exact Stop.mk (by with_reducible rfl))
    | (apply eq_sl; exact rfl)
    | (apply eq_row; exact rfl; exact Stop.mk (by with_reducible rfl))
    | (apply eq_row; exact rfl)
    | (apply eq_agg; exact rfl)
    | (apply eq_cons; exact rfl)
    | (apply eq_boxo; exact rfl)
    | (apply cell_agg; exact rfl; exact rfl; exact rfl)
    | (apply cell_one; exact rfl; exact rfl)
    | exact rfl
    | trivial
    )
  all_goals exact Stop.mk rfl
set_option maxRecDepth 100000 in
theorem journalOpen_s {b : List UInt8} (h : b.length ≤ 40000) : ACalls Try.prog 64 [.d (.sl (byteE b))] [jnR (jnOpen b)] (jnO (jnOpen b)) := by
  refine acalls_of tt Try.func64 rfl rfl rfl (fun w0 Z => ?_)
  have hr := readR_len b
  repeat' (first
    | apply awp_seq
    | (apply awp_regionN; exact rfl)
    | (refine Hb.mk (fun hb => ?_); (first | rw [inB_t] at hb | rw [inB_f] at hb | rw [inB_nt] at hb | rw [inB_nf] at hb | rw [decide_eq_true_eq] at hb | rw [decide_eq_false_iff_not] at hb | rw [beq_iff_eq] at hb | rw [beq_eq_false_iff_ne] at hb | rw [Bool.not_eq_true'] at hb | rw [Bool.not_eq_false'] at hb | rw [bne_iff_ne] at hb | rw [bne_eq_false_iff_eq] at hb | skip); (first | (exfalso; omega) | (exact absurd rfl hb) | skip))
    | (apply aopG_ok; exact rfl)
    | apply ops_nil
    | (apply awp_cond_t; exact rfl)
    | (apply awp_cond_f; exact rfl)
    | (apply cond_x; exact rfl)
    | apply awp_block
    | apply awp_skip
    | apply awp_exit
    | apply awp_ret'
    | (first | (apply ops_cons; exact rfl) | (apply ops_yes; exact rfl; exact rfl; exact rfl))
    | (apply ops_x; exact rfl; exact rfl; (fail_if_success exact (rfl : _ = AV.d (.b true))); (fail_if_success exact (rfl : _ = AV.d (.b false))); exact rfl)
    | (apply op_id; first | refine zk32 rfl rfl rfl rfl rfl rfl rfl rfl rfl rfl rfl rfl ?_ | refine zk33 rfl rfl rfl rfl rfl rfl ⟨rfl, rfl, rfl⟩ rfl rfl ?_ | refine zk34 rfl rfl rfl rfl rfl ⟨rfl, rfl, rfl⟩ rfl rfl ?_ | refine zk35 rfl rfl rfl ⟨rfl, rfl, rfl⟩ rfl rfl rfl rfl rfl rfl rfl rfl rfl ?_ | refine st_call (readRecords_s (b := b) (by omega)) rfl rfl rfl rfl rfl ?_ | (apply qok_q; exact rfl))
    | (apply q_id; first | refine zk11 rfl rfl rfl rfl rfl ?_ | refine zk12 rfl rfl rfl rfl rfl (fun _ => ?_) | refine zk15 rfl rfl rfl rfl rfl rfl rfl ?_ | refine zk16 rfl rfl rfl rfl rfl rfl rfl ?_ | refine zk23 rfl rfl rfl rfl rfl rfl ?_)
    )
  refine Stop.mk ?_
  refine ret_intro [14] rfl rfl ?_ ?_
  repeat' (first
    | apply And.intro
    | (apply eq_b; exact rfl; exact Stop.mk (by with_reducible rfl))
    | (apply eq_b; exact rfl)
    | (apply eq_n; exact rfl; exact Stop.mk (by first | with_reducible rfl | omega))
    | (apply eq_n; exact rfl)
    | (apply eq_s; exact rfl; exact Stop.mk (by with_reducible rfl))
    | (apply eq_s; exact rfl)
    | (apply eq_sl; exact rfl; exact Stop.mk (by with_reducible rfl))
    | (apply eq_sl; exact rfl)
    | (apply eq_row; exact rfl; exact Stop.mk (by with_reducible rfl))
    | (apply eq_row; exact rfl)
    | (apply eq_agg; exact rfl)
    | (apply eq_cons; exact rfl)
    | (apply eq_boxo; exact rfl)
    | (apply cell_agg; exact rfl; exact rfl; exact rfl)
    | (apply cell_one; exact rfl; exact rfl)
    | exact rfl
    | trivial
    )
  all_goals exact Stop.mk (by first | rfl | exact cut_eq' (b := b) (m := (readR b).2) (n := (readR b).2) rfl)
def jnSync (j : Journal) : Journal := ⟨j.bytes, j.bytes.length, j.count⟩
set_option maxRecDepth 100000 in
theorem journalSync_e0 {j : Journal} (h : j.bytes.length ≤ 1000000000) (hk : jnOk j = false) : ACalls Try.prog 73 [jnA j] jn0 [] := by
  refine acalls_of tt Try.func73 rfl rfl rfl (fun w0 Z => ?_)
  have hc := journalOk_e h
  rw [hk] at hc
  repeat' (first
    | apply awp_seq
    | (apply awp_regionN; exact rfl)
    | (refine Hb.mk (fun hb => ?_); (first | rw [inB_t] at hb | rw [inB_f] at hb | rw [inB_nt] at hb | rw [inB_nf] at hb | rw [decide_eq_true_eq] at hb | rw [decide_eq_false_iff_not] at hb | rw [beq_iff_eq] at hb | rw [beq_eq_false_iff_ne] at hb | rw [Bool.not_eq_true'] at hb | rw [Bool.not_eq_false'] at hb | rw [bne_iff_ne] at hb | rw [bne_eq_false_iff_eq] at hb | skip); (first | (exfalso; omega) | (exact absurd rfl hb) | skip))
    | (apply aopG_ok; exact rfl)
    | apply ops_nil
    | (apply awp_cond_t; exact rfl)
    | (apply awp_cond_f; exact rfl)
    | (apply cond_x; exact rfl)
    | apply awp_block
    | apply awp_skip
    | apply awp_exit
    | apply awp_ret'
    | (first | (apply ops_cons; exact rfl) | (apply ops_yes; exact rfl; exact rfl; exact rfl))
    | (apply ops_x; exact rfl; exact rfl; (fail_if_success exact (rfl : _ = AV.d (.b true))); (fail_if_success exact (rfl : _ = AV.d (.b false))); exact rfl)
    | (apply op_id; first | refine st_call (hc) rfl rfl rfl rfl rfl ?_ | (apply qok_q; exact rfl))
    | (apply q_id; first | refine zk11 rfl rfl rfl rfl rfl ?_ | refine zk12 rfl rfl rfl rfl rfl (fun _ => ?_) | refine zk23 rfl rfl rfl rfl rfl rfl ?_)
    )
  refine Stop.mk ?_
  refine ret_intro [] rfl rfl ?_ ?_
  repeat' (first
    | apply And.intro
    | (apply eq_b; exact rfl; exact Stop.mk (by with_reducible rfl))
    | (apply eq_b; exact rfl)
    | (apply eq_n; exact rfl; exact Stop.mk (by first | with_reducible rfl | omega))
    | (apply eq_n; exact rfl)
    | (apply eq_s; exact rfl; exact Stop.mk (by with_reducible rfl))
    | (apply eq_s; exact rfl)
    | (apply eq_sl; exact rfl; exact Stop.mk (by with_reducible rfl))
    | (apply eq_sl; exact rfl)
    | (apply eq_row; exact rfl; exact Stop.mk (by with_reducible rfl))
    | (apply eq_row; exact rfl)
    | (apply eq_agg; exact rfl)
    | (apply eq_cons; exact rfl)
    | (apply eq_boxo; exact rfl)
    | (apply cell_agg; exact rfl; exact rfl; exact rfl)
    | (apply cell_one; exact rfl; exact rfl)
    | exact rfl
    | trivial
    )
  all_goals exact Stop.mk rfl
set_option maxRecDepth 100000 in
theorem journalSync_s0 {j : Journal} (h : j.bytes.length ≤ 1000000000) (hk : jnOk j = false) : ACalls Try.prog 72 [jnA j] jn0 [] := by
  refine acalls_of tt Try.func72 rfl rfl rfl (fun w0 Z => ?_)
  have hc := journalOk_s h
  rw [hk] at hc
  repeat' (first
    | apply awp_seq
    | (apply awp_regionN; exact rfl)
    | (refine Hb.mk (fun hb => ?_); (first | rw [inB_t] at hb | rw [inB_f] at hb | rw [inB_nt] at hb | rw [inB_nf] at hb | rw [decide_eq_true_eq] at hb | rw [decide_eq_false_iff_not] at hb | rw [beq_iff_eq] at hb | rw [beq_eq_false_iff_ne] at hb | rw [Bool.not_eq_true'] at hb | rw [Bool.not_eq_false'] at hb | rw [bne_iff_ne] at hb | rw [bne_eq_false_iff_eq] at hb | skip); (first | (exfalso; omega) | (exact absurd rfl hb) | skip))
    | (apply aopG_ok; exact rfl)
    | apply ops_nil
    | (apply awp_drawq; exact rfl; kernel_rfl; kernel_rfl; exact rfl)
    | (apply awp_drawx; exact rfl; kernel_rfl; exact rfl)
    | (apply aopQ_ok; exact rfl)
    | apply qs_nil
    | (apply ch_nil; exact rfl)
    | (apply ch_cons; (· exact rfl); (· exact rfl); (· exact rfl); (· exact rfl); (· (intro w0 Z O; first | (apply aop_ok; exact rfl) | (apply QOk.ok; first | refine zk11 rfl rfl rfl rfl rfl ?_ | refine zk12 rfl rfl rfl rfl rfl (fun _ => ?_) | refine zk23 rfl rfl rfl rfl rfl rfl ?_) | refine zk32 rfl rfl rfl rfl rfl rfl rfl rfl rfl rfl rfl rfl ?_ | refine zk33 rfl rfl rfl rfl rfl rfl ⟨rfl, rfl, rfl⟩ rfl rfl ?_ | refine zk34 rfl rfl rfl rfl rfl ⟨rfl, rfl, rfl⟩ rfl rfl ?_ | refine zk35 rfl rfl rfl ⟨rfl, rfl, rfl⟩ rfl rfl rfl rfl rfl rfl rfl rfl rfl ?_ | refine st_call (hc) rfl rfl rfl rfl rfl ?_); exact ⟨rfl, rfl, rfl⟩); (· exact rfl); (· exact rfl); (· (repeat' (first | apply And.intro | exact Or.inl rfl | exact Or.inr ⟨rfl, rfl⟩ | exact trivial))); (· (repeat' (first | apply And.intro | exact trivial | exact rfl | exact flatE_map (fun _ => rfl) | apply flatE_app))); (· exact rfl); (· exact rfl); (· exact rfl); (· exact rfl))
    | (apply awp_cond_t; exact rfl)
    | (apply awp_cond_f; exact rfl)
    | (apply cond_x; exact rfl)
    | apply awp_block
    | apply awp_skip
    | apply awp_exit
    | apply awp_ret'
    | (first | (apply ops_cons; exact rfl) | (apply ops_yes; exact rfl; exact rfl; exact rfl))
    | (apply ops_x; exact rfl; exact rfl; (fail_if_success exact (rfl : _ = AV.d (.b true))); (fail_if_success exact (rfl : _ = AV.d (.b false))); exact rfl)
    | (first | (apply qs_cons; exact rfl) | (apply qs_yes; exact rfl; exact rfl; exact rfl))
    | (apply qs_x; exact rfl; exact rfl; (fail_if_success exact (rfl : _ = AV.d (.b true))); (fail_if_success exact (rfl : _ = AV.d (.b false))); exact rfl)
    | (apply q_id; first | refine st_callq (hc) rfl rfl rfl rfl rfl ?_)
    | (apply op_id; first | refine zk32 rfl rfl rfl rfl rfl rfl rfl rfl rfl rfl rfl rfl ?_ | refine zk33 rfl rfl rfl rfl rfl rfl ⟨rfl, rfl, rfl⟩ rfl rfl ?_ | refine zk34 rfl rfl rfl rfl rfl ⟨rfl, rfl, rfl⟩ rfl rfl ?_ | refine zk35 rfl rfl rfl ⟨rfl, rfl, rfl⟩ rfl rfl rfl rfl rfl rfl rfl rfl rfl ?_ | refine st_call (hc) rfl rfl rfl rfl rfl ?_ | (apply qok_q; exact rfl))
    | (apply q_id; first | refine zk11 rfl rfl rfl rfl rfl ?_ | refine zk12 rfl rfl rfl rfl rfl (fun _ => ?_) | refine zk23 rfl rfl rfl rfl rfl rfl ?_)
    )
  refine Stop.mk ?_
  refine ret_intro [] rfl rfl ?_ ?_
  repeat' (first
    | apply And.intro
    | (apply eq_b; exact rfl; exact Stop.mk (by with_reducible rfl))
    | (apply eq_b; exact rfl)
    | (apply eq_n; exact rfl; exact Stop.mk (by first | with_reducible rfl | omega))
    | (apply eq_n; exact rfl)
    | (apply eq_s; exact rfl; exact Stop.mk (by with_reducible rfl))
    | (apply eq_s; exact rfl)
    | (apply eq_sl; exact rfl; exact Stop.mk (by with_reducible rfl))
    | (apply eq_sl; exact rfl)
    | (apply eq_row; exact rfl; exact Stop.mk (by with_reducible rfl))
    | (apply eq_row; exact rfl)
    | (apply eq_agg; exact rfl)
    | (apply eq_cons; exact rfl)
    | (apply eq_boxo; exact rfl)
    | (apply cell_agg; exact rfl; exact rfl; exact rfl)
    | (apply cell_one; exact rfl; exact rfl)
    | exact rfl
    | trivial
    )
  all_goals exact Stop.mk rfl
set_option maxRecDepth 100000 in
theorem copyJournal_e {j : Journal} (h : j.bytes.length ≤ 1000000000) : ACalls Try.prog 118 [jnA j] [jnR j] (jnO j) := by
  refine acalls_of tt Try.func118 rfl rfl rfl (fun w0 Z => ?_)
  repeat' (first
    | apply awp_seq
    | (apply awp_regionN; exact rfl)
    | (refine Hb.mk (fun hb => ?_); (first | rw [inB_t] at hb | rw [inB_f] at hb | rw [inB_nt] at hb | rw [inB_nf] at hb | rw [decide_eq_true_eq] at hb | rw [decide_eq_false_iff_not] at hb | rw [beq_iff_eq] at hb | rw [beq_eq_false_iff_ne] at hb | rw [Bool.not_eq_true'] at hb | rw [Bool.not_eq_false'] at hb | rw [bne_iff_ne] at hb | rw [bne_eq_false_iff_eq] at hb | skip); (first | (exfalso; omega) | (exact absurd rfl hb) | skip))
    | (apply aopG_ok; exact rfl)
    | apply ops_nil
    | (apply awp_cond_t; exact rfl)
    | (apply awp_cond_f; exact rfl)
    | (apply cond_x; exact rfl)
    | apply awp_block
    | apply awp_skip
    | apply awp_exit
    | apply awp_ret'
    | (first | (apply ops_cons; exact rfl) | (apply ops_yes; exact rfl; exact rfl; exact rfl))
    | (apply ops_x; exact rfl; exact rfl; (fail_if_success exact (rfl : _ = AV.d (.b true))); (fail_if_success exact (rfl : _ = AV.d (.b false))); exact rfl)
    | (apply op_id; first | refine st_call (copyBytes_e rfl h) rfl rfl rfl rfl rfl ?_)
    )
  refine Stop.mk ?_
  refine ret_intro [5] rfl rfl ?_ ?_
  repeat' (first
    | apply And.intro
    | (apply eq_b; exact rfl; exact Stop.mk (by with_reducible rfl))
    | (apply eq_b; exact rfl)
    | (apply eq_n; exact rfl; exact Stop.mk (by first | with_reducible rfl | omega))
    | (apply eq_n; exact rfl)
    | (apply eq_s; exact rfl; exact Stop.mk (by with_reducible rfl))
    | (apply eq_s; exact rfl)
    | (apply eq_sl; exact rfl; exact Stop.mk (by with_reducible rfl))
    | (apply eq_sl; exact rfl)
    | (apply eq_row; exact rfl; exact Stop.mk (by with_reducible rfl))
    | (apply eq_row; exact rfl)
    | (apply eq_agg; exact rfl)
    | (apply eq_cons; exact rfl)
    | (apply eq_boxo; exact rfl)
    | (apply cell_agg; exact rfl; exact rfl; exact rfl)
    | (apply cell_one; exact rfl; exact rfl)
    | exact rfl
    | trivial
    )
  all_goals exact Stop.mk rfl
set_option maxRecDepth 100000 in
theorem journalSync_e {j : Journal} (h : j.bytes.length ≤ 1000000000) (hk : jnOk j = true) : ACalls Try.prog 73 [jnA j] [jnR (jnSync j)] (jnO (jnSync j)) := by
  refine acalls_of tt Try.func73 rfl rfl rfl (fun w0 Z => ?_)
  have hc := journalOk_e h
  rw [hk] at hc
  repeat' (first
    | apply awp_seq
    | (apply awp_regionN; exact rfl)
    | (refine Hb.mk (fun hb => ?_); (first | rw [inB_t] at hb | rw [inB_f] at hb | rw [inB_nt] at hb | rw [inB_nf] at hb | rw [decide_eq_true_eq] at hb | rw [decide_eq_false_iff_not] at hb | rw [beq_iff_eq] at hb | rw [beq_eq_false_iff_ne] at hb | rw [Bool.not_eq_true'] at hb | rw [Bool.not_eq_false'] at hb | rw [bne_iff_ne] at hb | rw [bne_eq_false_iff_eq] at hb | skip); (first | (exfalso; omega) | (exact absurd rfl hb) | skip))
    | (apply aopG_ok; exact rfl)
    | apply ops_nil
    | (apply awp_cond_t; exact rfl)
    | (apply awp_cond_f; exact rfl)
    | (apply cond_x; exact rfl)
    | apply awp_block
    | apply awp_skip
    | apply awp_exit
    | apply awp_ret'
    | (first | (apply ops_cons; exact rfl) | (apply ops_yes; exact rfl; exact rfl; exact rfl))
    | (apply ops_x; exact rfl; exact rfl; (fail_if_success exact (rfl : _ = AV.d (.b true))); (fail_if_success exact (rfl : _ = AV.d (.b false))); exact rfl)
    | (apply op_id; first | refine st_call (hc) rfl rfl rfl rfl rfl ?_ | refine st_call (copyJournal_e h) rfl rfl rfl rfl rfl ?_ | (apply qok_q; exact rfl))
    | (apply q_id; first | refine zk11 rfl rfl rfl rfl rfl ?_ | refine zk12 rfl rfl rfl rfl rfl (fun _ => ?_) | refine zk23 rfl rfl rfl rfl rfl rfl ?_)
    )
  refine Stop.mk ?_
  refine ret_intro [8] rfl rfl ?_ ?_
  repeat' (first
    | apply And.intro
    | (apply eq_b; exact rfl; exact Stop.mk (by with_reducible rfl))
    | (apply eq_b; exact rfl)
    | (apply eq_n; exact rfl; exact Stop.mk (by first | with_reducible rfl | omega))
    | (apply eq_n; exact rfl)
    | (apply eq_s; exact rfl; exact Stop.mk (by with_reducible rfl))
    | (apply eq_s; exact rfl)
    | (apply eq_sl; exact rfl; exact Stop.mk (by with_reducible rfl))
    | (apply eq_sl; exact rfl)
    | (apply eq_row; exact rfl; exact Stop.mk (by with_reducible rfl))
    | (apply eq_row; exact rfl)
    | (apply eq_agg; exact rfl)
    | (apply eq_cons; exact rfl)
    | (apply eq_boxo; exact rfl)
    | (apply cell_agg; exact rfl; exact rfl; exact rfl)
    | (apply cell_one; exact rfl; exact rfl)
    | exact rfl
    | trivial
    )
  all_goals exact Stop.mk rfl
set_option maxRecDepth 100000 in
theorem journalSync_s {j : Journal} (h : j.bytes.length ≤ 1000000000) (hk : jnOk j = true) : ACalls Try.prog 72 [jnA j] [jnR (jnSync j)] (jnO (jnSync j)) := by
  refine acalls_of tt Try.func72 rfl rfl rfl (fun w0 Z => ?_)
  have hc := journalOk_s h
  rw [hk] at hc
  repeat' (first
    | apply awp_seq
    | (apply awp_regionN; exact rfl)
    | (refine Hb.mk (fun hb => ?_); (first | rw [inB_t] at hb | rw [inB_f] at hb | rw [inB_nt] at hb | rw [inB_nf] at hb | rw [decide_eq_true_eq] at hb | rw [decide_eq_false_iff_not] at hb | rw [beq_iff_eq] at hb | rw [beq_eq_false_iff_ne] at hb | rw [Bool.not_eq_true'] at hb | rw [Bool.not_eq_false'] at hb | rw [bne_iff_ne] at hb | rw [bne_eq_false_iff_eq] at hb | skip); (first | (exfalso; omega) | (exact absurd rfl hb) | skip))
    | (apply aopG_ok; exact rfl)
    | apply ops_nil
    | (apply awp_drawq; exact rfl; kernel_rfl; kernel_rfl; exact rfl)
    | (apply awp_drawx; exact rfl; kernel_rfl; exact rfl)
    | (apply aopQ_ok; exact rfl)
    | apply qs_nil
    | (apply ch_nil; exact rfl)
    | (apply ch_cons; (· exact rfl); (· exact rfl); (· exact rfl); (· exact rfl); (· (intro w0 Z O; first | (apply aop_ok; exact rfl) | (apply QOk.ok; first | refine zk11 rfl rfl rfl rfl rfl ?_ | refine zk12 rfl rfl rfl rfl rfl (fun _ => ?_) | refine zk23 rfl rfl rfl rfl rfl rfl ?_) | refine zk32 rfl rfl rfl rfl rfl rfl rfl rfl rfl rfl rfl rfl ?_ | refine zk33 rfl rfl rfl rfl rfl rfl ⟨rfl, rfl, rfl⟩ rfl rfl ?_ | refine zk34 rfl rfl rfl rfl rfl ⟨rfl, rfl, rfl⟩ rfl rfl ?_ | refine zk35 rfl rfl rfl ⟨rfl, rfl, rfl⟩ rfl rfl rfl rfl rfl rfl rfl rfl rfl ?_ | refine st_call (hc) rfl rfl rfl rfl rfl ?_); exact ⟨rfl, rfl, rfl⟩); (· exact rfl); (· exact rfl); (· (repeat' (first | apply And.intro | exact Or.inl rfl | exact Or.inr ⟨rfl, rfl⟩ | exact trivial))); (· (repeat' (first | apply And.intro | exact trivial | exact rfl | exact flatE_map (fun _ => rfl) | apply flatE_app))); (· exact rfl); (· exact rfl); (· exact rfl); (· exact rfl))
    | (apply awp_cond_t; exact rfl)
    | (apply awp_cond_f; exact rfl)
    | (apply cond_x; exact rfl)
    | apply awp_block
    | apply awp_skip
    | apply awp_exit
    | apply awp_ret'
    | (first | (apply ops_cons; exact rfl) | (apply ops_yes; exact rfl; exact rfl; exact rfl))
    | (apply ops_x; exact rfl; exact rfl; (fail_if_success exact (rfl : _ = AV.d (.b true))); (fail_if_success exact (rfl : _ = AV.d (.b false))); exact rfl)
    | (first | (apply qs_cons; exact rfl) | (apply qs_yes; exact rfl; exact rfl; exact rfl))
    | (apply qs_x; exact rfl; exact rfl; (fail_if_success exact (rfl : _ = AV.d (.b true))); (fail_if_success exact (rfl : _ = AV.d (.b false))); exact rfl)
    | (apply q_id; first | refine st_callq (hc) rfl rfl rfl rfl rfl ?_)
    | (apply op_id; first | refine zk32 rfl rfl rfl rfl rfl rfl rfl rfl rfl rfl rfl rfl ?_ | refine zk33 rfl rfl rfl rfl rfl rfl ⟨rfl, rfl, rfl⟩ rfl rfl ?_ | refine zk34 rfl rfl rfl rfl rfl ⟨rfl, rfl, rfl⟩ rfl rfl ?_ | refine zk35 rfl rfl rfl ⟨rfl, rfl, rfl⟩ rfl rfl rfl rfl rfl rfl rfl rfl rfl ?_ | refine st_call (hc) rfl rfl rfl rfl rfl ?_ | (apply qok_q; exact rfl))
    | (apply q_id; first | refine zk11 rfl rfl rfl rfl rfl ?_ | refine zk12 rfl rfl rfl rfl rfl (fun _ => ?_) | refine zk23 rfl rfl rfl rfl rfl rfl ?_)
    )
  refine Stop.mk ?_
  refine ret_intro [7] rfl rfl ?_ ?_
  repeat' (first
    | apply And.intro
    | (apply eq_b; exact rfl; exact Stop.mk (by with_reducible rfl))
    | (apply eq_b; exact rfl)
    | (apply eq_n; exact rfl; exact Stop.mk (by first | with_reducible rfl | omega))
    | (apply eq_n; exact rfl)
    | (apply eq_s; exact rfl; exact Stop.mk (by with_reducible rfl))
    | (apply eq_s; exact rfl)
    | (apply eq_sl; exact rfl; exact Stop.mk (by with_reducible rfl))
    | (apply eq_sl; exact rfl)
    | (apply eq_row; exact rfl; exact Stop.mk (by with_reducible rfl))
    | (apply eq_row; exact rfl)
    | (apply eq_agg; exact rfl)
    | (apply eq_cons; exact rfl)
    | (apply eq_boxo; exact rfl)
    | (apply cell_agg; exact rfl; exact rfl; exact rfl)
    | (apply cell_one; exact rfl; exact rfl)
    | exact rfl
    | trivial
    )
  all_goals exact Stop.mk (by first | rfl | simp)
/-- How much a crash leaves. -/
def crashN (j : Journal) (keep : Int) : Nat := (j.synced + min (max keep 0) (j.bytes.length - j.synced)).toNat
theorem jnOk_in {j : Journal} (h : jnOk j = true) : j.bytes.length ≤ 40000 ∧ 0 ≤ j.synced ∧ j.synced ≤ j.bytes.length ∧ (readR j.bytes).2 = j.bytes.length ∧ ((readR j.bytes).1.length : Int) = j.count := by
  unfold jnOk inB at h
  simp only [Bool.and_eq_true, decide_eq_true_eq] at h
  omega
set_option maxRecDepth 100000 in
theorem journalCrash_e0 {j : Journal} {keep : Int} (h : j.bytes.length ≤ 1000000000) (hk : jnOk j = false) : ACalls Try.prog 70 [jnA j, .d (.n .i64 keep)] [.nil] [] := by
  refine acalls_of tt Try.func70 rfl rfl rfl (fun w0 Z => ?_)
  have hc := journalOk_e h
  rw [hk] at hc
  repeat' (first
    | apply awp_seq
    | (apply awp_regionN; exact rfl)
    | (refine Hb.mk (fun hb => ?_); (first | rw [inB_t] at hb | rw [inB_f] at hb | rw [inB_nt] at hb | rw [inB_nf] at hb | rw [decide_eq_true_eq] at hb | rw [decide_eq_false_iff_not] at hb | rw [beq_iff_eq] at hb | rw [beq_eq_false_iff_ne] at hb | rw [Bool.not_eq_true'] at hb | rw [Bool.not_eq_false'] at hb | rw [bne_iff_ne] at hb | rw [bne_eq_false_iff_eq] at hb | skip); (first | (exfalso; omega) | (exact absurd rfl hb) | skip))
    | (apply aopG_ok; exact rfl)
    | apply ops_nil
    | (apply awp_cond_t; exact rfl)
    | (apply awp_cond_f; exact rfl)
    | (apply cond_x; exact rfl)
    | apply awp_block
    | apply awp_skip
    | apply awp_exit
    | apply awp_ret'
    | (first | (apply ops_cons; exact rfl) | (apply ops_yes; exact rfl; exact rfl; exact rfl))
    | (apply ops_x; exact rfl; exact rfl; (fail_if_success exact (rfl : _ = AV.d (.b true))); (fail_if_success exact (rfl : _ = AV.d (.b false))); exact rfl)
    | (apply op_id; first | refine st_call (hc) rfl rfl rfl rfl rfl ?_ | (apply qok_q; exact rfl))
    | (apply q_id; first | refine zk0 rfl rfl rfl rfl rfl ?_ | refine zk1 rfl rfl rfl rfl rfl ?_ | refine zk5 rfl rfl rfl rfl rfl ?_ | refine zk6 rfl rfl rfl rfl rfl ?_ | refine zk10 rfl rfl rfl rfl rfl ?_ | refine zk11 rfl rfl rfl rfl rfl ?_ | refine zk12 rfl rfl rfl rfl rfl (fun _ => ?_) | refine zk15 rfl rfl rfl rfl rfl rfl rfl ?_ | refine zk16 rfl rfl rfl rfl rfl rfl rfl ?_ | refine zk19 rfl rfl rfl rfl rfl ?_ | refine zk26 rfl rfl rfl rfl rfl ?_ | refine zk27 rfl rfl rfl rfl rfl ?_)
    )
  refine Stop.mk ?_
  refine ret_intro [] rfl rfl ?_ ?_
  repeat' (first
    | apply And.intro
    | (apply eq_b; exact rfl; exact Stop.mk (by with_reducible rfl))
    | (apply eq_b; exact rfl)
    | (apply eq_n; exact rfl; exact Stop.mk (by first | with_reducible rfl | omega))
    | (apply eq_n; exact rfl)
    | (apply eq_s; exact rfl; exact Stop.mk (by with_reducible rfl))
    | (apply eq_s; exact rfl)
    | (apply eq_sl; exact rfl; exact Stop.mk (by with_reducible rfl))
    | (apply eq_sl; exact rfl)
    | (apply eq_row; exact rfl; exact Stop.mk (by with_reducible rfl))
    | (apply eq_row; exact rfl)
    | (apply eq_agg; exact rfl)
    | (apply eq_cons; exact rfl)
    | (apply eq_boxo; exact rfl)
    | (apply cell_agg; exact rfl; exact rfl; exact rfl)
    | (apply cell_one; exact rfl; exact rfl)
    | exact rfl
    | trivial
    )
  all_goals exact Stop.mk rfl
set_option maxRecDepth 100000 in
theorem journalCrash_s0 {j : Journal} {keep : Int} (h : j.bytes.length ≤ 1000000000) (hk : jnOk j = false) : ACalls Try.prog 69 [jnA j, .d (.n .i64 keep)] [.nil] [] := by
  refine acalls_of tt Try.func69 rfl rfl rfl (fun w0 Z => ?_)
  have hc := journalOk_s h
  rw [hk] at hc
  repeat' (first
    | apply awp_seq
    | (apply awp_regionN; exact rfl)
    | (refine Hb.mk (fun hb => ?_); (first | rw [inB_t] at hb | rw [inB_f] at hb | rw [inB_nt] at hb | rw [inB_nf] at hb | rw [decide_eq_true_eq] at hb | rw [decide_eq_false_iff_not] at hb | rw [beq_iff_eq] at hb | rw [beq_eq_false_iff_ne] at hb | rw [Bool.not_eq_true'] at hb | rw [Bool.not_eq_false'] at hb | rw [bne_iff_ne] at hb | rw [bne_eq_false_iff_eq] at hb | skip); (first | (exfalso; omega) | (exact absurd rfl hb) | skip))
    | (apply aopG_ok; exact rfl)
    | apply ops_nil
    | (apply awp_cond_t; exact rfl)
    | (apply awp_cond_f; exact rfl)
    | (apply cond_x; exact rfl)
    | apply awp_block
    | apply awp_skip
    | apply awp_exit
    | apply awp_ret'
    | (first | (apply ops_cons; exact rfl) | (apply ops_yes; exact rfl; exact rfl; exact rfl))
    | (apply ops_x; exact rfl; exact rfl; (fail_if_success exact (rfl : _ = AV.d (.b true))); (fail_if_success exact (rfl : _ = AV.d (.b false))); exact rfl)
    | (apply op_id; first | refine zk32 rfl rfl rfl rfl rfl rfl rfl rfl rfl rfl rfl rfl ?_ | refine zk33 rfl rfl rfl rfl rfl rfl ⟨rfl, rfl, rfl⟩ rfl rfl ?_ | refine zk34 rfl rfl rfl rfl rfl ⟨rfl, rfl, rfl⟩ rfl rfl ?_ | refine zk35 rfl rfl rfl ⟨rfl, rfl, rfl⟩ rfl rfl rfl rfl rfl rfl rfl rfl rfl ?_ | refine st_call (hc) rfl rfl rfl rfl rfl ?_ | (apply qok_q; exact rfl))
    | (apply q_id; first | refine zk0 rfl rfl rfl rfl rfl ?_ | refine zk1 rfl rfl rfl rfl rfl ?_ | refine zk5 rfl rfl rfl rfl rfl ?_ | refine zk6 rfl rfl rfl rfl rfl ?_ | refine zk10 rfl rfl rfl rfl rfl ?_ | refine zk11 rfl rfl rfl rfl rfl ?_ | refine zk12 rfl rfl rfl rfl rfl (fun _ => ?_) | refine zk15 rfl rfl rfl rfl rfl rfl rfl ?_ | refine zk16 rfl rfl rfl rfl rfl rfl rfl ?_ | refine zk19 rfl rfl rfl rfl rfl ?_)
    )
  refine Stop.mk ?_
  refine ret_intro [] rfl rfl ?_ ?_
  repeat' (first
    | apply And.intro
    | (apply eq_b; exact rfl; exact Stop.mk (by with_reducible rfl))
    | (apply eq_b; exact rfl)
    | (apply eq_n; exact rfl; exact Stop.mk (by first | with_reducible rfl | omega))
    | (apply eq_n; exact rfl)
    | (apply eq_s; exact rfl; exact Stop.mk (by with_reducible rfl))
    | (apply eq_s; exact rfl)
    | (apply eq_sl; exact rfl; exact Stop.mk (by with_reducible rfl))
    | (apply eq_sl; exact rfl)
    | (apply eq_row; exact rfl; exact Stop.mk (by with_reducible rfl))
    | (apply eq_row; exact rfl)
    | (apply eq_agg; exact rfl)
    | (apply eq_cons; exact rfl)
    | (apply eq_boxo; exact rfl)
    | (apply cell_agg; exact rfl; exact rfl; exact rfl)
    | (apply cell_one; exact rfl; exact rfl)
    | exact rfl
    | trivial
    )
  all_goals exact Stop.mk rfl
set_option maxRecDepth 100000 in
theorem journalCrash_e {j : Journal} {keep : Int} (hk : jnOk j = true) : ACalls Try.prog 70 [jnA j, .d (.n .i64 keep)] [.row 0] [(0, .row 5 (byteE (j.bytes.take (crashN j keep))) true)] := by
  refine acalls_of tt Try.func70 rfl rfl rfl (fun w0 Z => ?_)
  obtain ⟨h1, h2, h3, _⟩ := jnOk_in hk
  have hc := journalOk_e (j := j) (by omega)
  rw [hk] at hc
  have hl : (j.bytes.take (crashN j keep)).length ≤ 1000000000 := by rw [List.length_take]; omega
  repeat' (first
    | apply awp_seq
    | (apply awp_regionN; exact rfl)
    | (refine Hb.mk (fun hb => ?_); (first | rw [inB_t] at hb | rw [inB_f] at hb | rw [inB_nt] at hb | rw [inB_nf] at hb | rw [decide_eq_true_eq] at hb | rw [decide_eq_false_iff_not] at hb | rw [beq_iff_eq] at hb | rw [beq_eq_false_iff_ne] at hb | rw [Bool.not_eq_true'] at hb | rw [Bool.not_eq_false'] at hb | rw [bne_iff_ne] at hb | rw [bne_eq_false_iff_eq] at hb | skip); (first | (exfalso; omega) | (exact absurd rfl hb) | skip))
    | (apply aopG_ok; exact rfl)
    | apply ops_nil
    | (apply awp_cond_t; exact rfl)
    | (apply awp_cond_f; exact rfl)
    | (apply cond_x; exact rfl)
    | apply awp_block
    | apply awp_skip
    | apply awp_exit
    | apply awp_ret'
    | (first | (apply ops_cons; exact rfl) | (apply ops_yes; exact rfl; exact rfl; exact rfl))
    | (apply ops_x; exact rfl; exact rfl; (fail_if_success exact (rfl : _ = AV.d (.b true))); (fail_if_success exact (rfl : _ = AV.d (.b false))); exact rfl)
    | (apply op_id; first | refine st_call (hc) rfl rfl rfl rfl rfl ?_ | (refine st_call (copyBytes_e (b := j.bytes.take (crashN j keep)) (cut_eq (by unfold crashN; omega)) hl) rfl rfl rfl rfl rfl ?_) | (apply qok_q; exact rfl))
    | (apply q_id; first | refine zk0 rfl rfl rfl rfl rfl ?_ | refine zk1 rfl rfl rfl rfl rfl ?_ | refine zk5 rfl rfl rfl rfl rfl ?_ | refine zk6 rfl rfl rfl rfl rfl ?_ | refine zk10 rfl rfl rfl rfl rfl ?_ | refine zk11 rfl rfl rfl rfl rfl ?_ | refine zk12 rfl rfl rfl rfl rfl (fun _ => ?_) | refine zk15 rfl rfl rfl rfl rfl rfl rfl ?_ | refine zk16 rfl rfl rfl rfl rfl rfl rfl ?_ | refine zk19 rfl rfl rfl rfl rfl ?_ | refine zk26 rfl rfl rfl rfl rfl ?_ | refine zk27 rfl rfl rfl rfl rfl ?_)
    )
  refine Stop.mk ?_
  refine ret_intro [23] rfl rfl ?_ ?_
  repeat' (first
    | apply And.intro
    | (apply eq_b; exact rfl; exact Stop.mk (by with_reducible rfl))
    | (apply eq_b; exact rfl)
    | (apply eq_n; exact rfl; exact Stop.mk (by first | with_reducible rfl | omega))
    | (apply eq_n; exact rfl)
    | (apply eq_s; exact rfl; exact Stop.mk (by with_reducible rfl))
    | (apply eq_s; exact rfl)
    | (apply eq_sl; exact rfl; exact Stop.mk (by with_reducible rfl))
    | (apply eq_sl; exact rfl)
    | (apply eq_row; exact rfl; exact Stop.mk (by with_reducible rfl))
    | (apply eq_row; exact rfl)
    | (apply eq_agg; exact rfl)
    | (apply eq_cons; exact rfl)
    | (apply eq_boxo; exact rfl)
    | (apply cell_agg; exact rfl; exact rfl; exact rfl)
    | (apply cell_one; exact rfl; exact rfl)
    | exact rfl
    | trivial
    )
  all_goals exact Stop.mk rfl
set_option maxRecDepth 100000 in
theorem journalCrash_s {j : Journal} {keep : Int} (hk : jnOk j = true) : ACalls Try.prog 69 [jnA j, .d (.n .i64 keep)] [.row 0] [(0, .row 5 (byteE (j.bytes.take (crashN j keep))) true)] := by
  refine acalls_of tt Try.func69 rfl rfl rfl (fun w0 Z => ?_)
  obtain ⟨h1, h2, h3, _⟩ := jnOk_in hk
  have hc := journalOk_s (j := j) (by omega)
  rw [hk] at hc
  repeat' (first
    | apply awp_seq
    | (apply awp_regionN; exact rfl)
    | (refine Hb.mk (fun hb => ?_); (first | rw [inB_t] at hb | rw [inB_f] at hb | rw [inB_nt] at hb | rw [inB_nf] at hb | rw [decide_eq_true_eq] at hb | rw [decide_eq_false_iff_not] at hb | rw [beq_iff_eq] at hb | rw [beq_eq_false_iff_ne] at hb | rw [Bool.not_eq_true'] at hb | rw [Bool.not_eq_false'] at hb | rw [bne_iff_ne] at hb | rw [bne_eq_false_iff_eq] at hb | skip); (first | (exfalso; omega) | (exact absurd rfl hb) | skip))
    | (apply aopG_ok; exact rfl)
    | apply ops_nil
    | (apply awp_cond_t; exact rfl)
    | (apply awp_cond_f; exact rfl)
    | (apply cond_x; exact rfl)
    | apply awp_block
    | apply awp_skip
    | apply awp_exit
    | apply awp_ret'
    | (first | (apply ops_cons; exact rfl) | (apply ops_yes; exact rfl; exact rfl; exact rfl))
    | (apply ops_x; exact rfl; exact rfl; (fail_if_success exact (rfl : _ = AV.d (.b true))); (fail_if_success exact (rfl : _ = AV.d (.b false))); exact rfl)
    | (apply op_id; first | refine zk32 rfl rfl rfl rfl rfl rfl rfl rfl rfl rfl rfl rfl ?_ | refine zk33 rfl rfl rfl rfl rfl rfl ⟨rfl, rfl, rfl⟩ rfl rfl ?_ | refine zk34 rfl rfl rfl rfl rfl ⟨rfl, rfl, rfl⟩ rfl rfl ?_ | refine zk35 rfl rfl rfl ⟨rfl, rfl, rfl⟩ rfl rfl rfl rfl rfl rfl rfl rfl rfl ?_ | refine st_call (hc) rfl rfl rfl rfl rfl ?_ | (apply qok_q; exact rfl))
    | (apply q_id; first | refine zk0 rfl rfl rfl rfl rfl ?_ | refine zk1 rfl rfl rfl rfl rfl ?_ | refine zk5 rfl rfl rfl rfl rfl ?_ | refine zk6 rfl rfl rfl rfl rfl ?_ | refine zk10 rfl rfl rfl rfl rfl ?_ | refine zk11 rfl rfl rfl rfl rfl ?_ | refine zk12 rfl rfl rfl rfl rfl (fun _ => ?_) | refine zk15 rfl rfl rfl rfl rfl rfl rfl ?_ | refine zk16 rfl rfl rfl rfl rfl rfl rfl ?_ | refine zk19 rfl rfl rfl rfl rfl ?_)
    )
  all_goals
    refine Stop.mk ?_
    refine ret_intro [24] rfl rfl ?_ ?_
    repeat' (first
      | apply And.intro
      | (apply eq_b; exact rfl; exact Stop.mk (by with_reducible rfl))
      | (apply eq_b; exact rfl)
      | (apply eq_n; exact rfl; exact Stop.mk (by first | with_reducible rfl | omega))
      | (apply eq_n; exact rfl)
      | (apply eq_s; exact rfl; exact Stop.mk (by with_reducible rfl))
      | (apply eq_s; exact rfl)
      | (apply eq_sl; exact rfl; exact Stop.mk (by with_reducible rfl))
      | (apply eq_sl; exact rfl)
      | (apply eq_row; exact rfl; exact Stop.mk (by with_reducible rfl))
      | (apply eq_row; exact rfl)
      | (apply eq_agg; exact rfl)
      | (apply eq_cons; exact rfl)
      | (apply eq_boxo; exact rfl)
      | (apply cell_agg; exact rfl; exact rfl; exact rfl)
      | (apply cell_one; exact rfl; exact rfl)
      | exact rfl
      | trivial
      )
    all_goals exact Stop.mk (by exact cut_eq' (b := j.bytes) (n := crashN j keep) (by unfold crashN; omega))
/-- The code of an addition: 0 where it is done. -/
def addC (j : Journal) (s : List UInt8) : Nat := if jnOk j = true ∧ recOkB s = true then (if j.bytes.length + ((hdT j.count.toNat ++ s ++ [10]).length) ≤ 40000 then 0 else 2) else 1
def jnAdd (j : Journal) (s : List UInt8) : Journal := ⟨j.bytes ++ (hdT j.count.toNat ++ s ++ [10]), j.synced, j.count + 1⟩
theorem addC_1 {j : Journal} {s : List UInt8} (h : jnOk j = false) : addC j s = 1 := if_neg (by rw [h]; exact fun h => by cases h.1)
theorem addC_1' {j : Journal} {s : List UInt8} (h : recOkB s = false) : addC j s = 1 := if_neg (by rw [h]; exact fun h => by cases h.2)
theorem addC_2 {j : Journal} {s : List UInt8} (h1 : jnOk j = true) (h2 : recOkB s = true) (h3 : ¬ j.bytes.length + ((hdT j.count.toNat ++ s ++ [10]).length) ≤ 40000) : addC j s = 2 := by unfold addC; rw [if_pos ⟨h1, h2⟩, if_neg h3]
theorem addC_0 {j : Journal} {s : List UInt8} (h1 : jnOk j = true) (h2 : recOkB s = true) (h3 : j.bytes.length + ((hdT j.count.toNat ++ s ++ [10]).length) ≤ 40000) : addC j s = 0 := by unfold addC; rw [if_pos ⟨h1, h2⟩, if_pos h3]
theorem addC_yes {j : Journal} {s : List UInt8} (h : addC j s = 0) : jnOk j = true ∧ recOkB s = true ∧ j.bytes.length + ((hdT j.count.toNat ++ s ++ [10]).length) ≤ 40000 := by
  unfold addC at h
  split at h
  · rename_i h1
    split at h
    · rename_i h2; exact ⟨h1.1, h1.2, h2⟩
    · cases h
  · cases h
theorem recOk_len {s : List UInt8} (h : recOkB s = true) : 1 ≤ s.length ∧ s.length ≤ 200 := by
  unfold recOkB at h
  simp only [Bool.and_eq_true, decide_eq_true_eq] at h
  exact h.1
end Go.Proofs.Ythmajaeekkbnnaa
