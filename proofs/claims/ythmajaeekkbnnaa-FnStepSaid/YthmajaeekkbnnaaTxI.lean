/-
  Commands as text: CmdText, both.
-/
import Derived.Test.YthmajaeekkbnnaaTxH
namespace Go.Proofs.Ythmajaeekkbnnaa
open Go Go.RowKit
attribute [local irreducible] AWp OpsOk OpOk ACalls ChA QsOk

def jobWs (j : Job) : List (List UInt8) := [numTx j.id, numTx j.prio, numTx j.nodes, vecText j.need, vecText j.lic, numTx j.wall, numTx j.level]
def jobT (j : Job) : List UInt8 := wordsL (jobWs j)
theorem jobWs_short (j : Job) : shortL (jobWs j) := by
  refine ⟨by simp [jobWs], fun w hw => ?_⟩
  have h1 := numTx_len j.id
  have h2 := numTx_len j.prio
  have h3 := numTx_len j.nodes
  have h4 := vecText_len j.need
  have h5 := vecText_len j.lic
  have h6 := numTx_len j.wall
  have h7 := numTx_len j.level
  simp only [jobWs, List.mem_cons, List.not_mem_nil, or_false] at hw
  rcases hw with rfl | rfl | rfl | rfl | rfl | rfl | rfl <;> omega
theorem jobT_len (j : Job) : (jobT j).length ≤ 900 := by
  have h1 := numTx_len j.id
  have h2 := numTx_len j.prio
  have h3 := numTx_len j.nodes
  have h4 := vecText_len j.need
  have h5 := vecText_len j.lic
  have h6 := numTx_len j.wall
  have h7 := numTx_len j.level
  simp [jobT, wordsL, jobWs, wj, nth]
  omega
theorem short2 {a b : List UInt8} (h1 : a.length ≤ 1000) (h2 : b.length ≤ 1000) : shortL [a, b] := by
  refine ⟨by simp, fun w hw => ?_⟩
  simp only [List.mem_cons, List.not_mem_nil, or_false] at hw
  rcases hw with rfl | rfl <;> omega
theorem cmdW_len (k : Int) : (cmdW k).length ≤ 6 := by
  unfold cmdW
  split
  · rename_i h
    obtain rfl | rfl | rfl | rfl | rfl | rfl | rfl : k = 1 ∨ k = 2 ∨ k = 3 ∨ k = 4 ∨ k = 5 ∨ k = 6 ∨ k = 7 := by omega
    all_goals decide
  · simp
set_option maxRecDepth 100000 in
set_option maxHeartbeats 4000000 in
theorem jobText_e {j : Job} : ACalls Try.prog 105 [jobA j] [.d (.s (jobT j))] [] := by
  refine acalls_of tt Try.func105 rfl rfl rfl (fun w0 Z => ?_)
  repeat' (first
    | apply awp_seq
    | (apply awp_regionN; exact rfl)
    | (apply aopG_ok; exact rfl)
    | apply ops_nil
    | (apply awp_drawq; exact rfl; kernel_rfl; kernel_rfl; exact rfl)
    | (apply awp_drawx; exact rfl; kernel_rfl; exact rfl)
    | (apply aopQ_ok; exact rfl)
    | apply qs_nil
    | (apply ch_nil; exact rfl)
    | (apply ch_cons; (· exact rfl); (· exact rfl); (· exact rfl); (· exact rfl); (· (intro w0 Z O; first | (apply aop_ok; exact rfl) | refine st_lit rfl rfl rfl ⟨rfl, rfl, rfl⟩ rfl rfl rfl rfl rfl rfl rfl rfl rfl ?_ | refine st_call (numText_e) rfl rfl rfl rfl rfl ?_ | refine st_call (vecText_e (v := j.need)) rfl rfl rfl rfl rfl ?_ | refine st_call (vecText_e (v := j.lic)) rfl rfl rfl rfl rfl ?_ | refine st_call (words_e (l := jobWs j) (jobWs_short j)) rfl rfl rfl rfl rfl ?_); exact ⟨rfl, rfl, rfl⟩); (· exact rfl); (· exact rfl); (· (repeat' (first | apply And.intro | exact Or.inl rfl | exact Or.inr ⟨rfl, rfl⟩ | exact trivial))); (· (repeat' (first | apply And.intro | exact trivial | exact rfl | exact flatE_map (fun _ => rfl) | apply flatE_app))); (· exact rfl); (· exact rfl); (· exact rfl); (· exact rfl))
    | (apply awp_cond_t; exact rfl)
    | (apply awp_cond_f; exact rfl)
    | ((apply awp_cond; exact rfl) <;> intro hb <;> (first | rw [inB_t] at hb | rw [inB_f] at hb | rw [inB_nt] at hb | rw [inB_nf] at hb | rw [decide_eq_true_eq] at hb | rw [decide_eq_false_iff_not] at hb | rw [beq_iff_eq] at hb | rw [beq_eq_false_iff_ne] at hb | rw [Bool.not_eq_true'] at hb | rw [Bool.not_eq_false'] at hb | rw [bne_iff_ne] at hb | rw [bne_eq_false_iff_eq] at hb | skip) <;> (first | (exfalso; omega) | (exact absurd rfl hb) | skip))
    | apply awp_block
    | apply awp_skip
    | apply awp_exit
    | apply awp_ret'
    | ((first | (apply ops_cons; exact rfl) | (apply ops_yes; exact rfl; exact rfl; exact rfl)); first | refine st_lit rfl rfl rfl ⟨rfl, rfl, rfl⟩ rfl rfl rfl rfl rfl rfl rfl rfl rfl ?_ | refine st_call (numText_e) rfl rfl rfl rfl rfl ?_ | refine st_call (vecText_e (v := j.need)) rfl rfl rfl rfl rfl ?_ | refine st_call (vecText_e (v := j.lic)) rfl rfl rfl rfl rfl ?_ | refine st_call (words_e (l := jobWs j) (jobWs_short j)) rfl rfl rfl rfl rfl ?_)
    | ((apply ops_gsplit; exact rfl; exact rfl; (fail_if_success exact (rfl : _ = AV.d (.b true))); (fail_if_success exact (rfl : _ = AV.d (.b false))); exact rfl) <;> intro hb <;> (first | rw [inB_t] at hb | rw [inB_f] at hb | rw [inB_nt] at hb | rw [inB_nf] at hb | rw [decide_eq_true_eq] at hb | rw [decide_eq_false_iff_not] at hb | rw [beq_iff_eq] at hb | rw [beq_eq_false_iff_ne] at hb | rw [Bool.not_eq_true'] at hb | rw [Bool.not_eq_false'] at hb | rw [bne_iff_ne] at hb | rw [bne_eq_false_iff_eq] at hb | skip) <;> (first | (exfalso; omega) | (exact absurd rfl hb) | skip))
    | ((first | (apply qs_cons; exact rfl) | (apply qs_yes; exact rfl; exact rfl; exact rfl)); first | refine st_callq (numText_e) rfl rfl rfl rfl rfl ?_ | refine st_callq (vecText_e (v := j.need)) rfl rfl rfl rfl rfl ?_ | refine st_callq (vecText_e (v := j.lic)) rfl rfl rfl rfl rfl ?_ | refine st_callq (words_e (l := jobWs j) (jobWs_short j)) rfl rfl rfl rfl rfl ?_)
    | ((apply qs_gsplit; exact rfl; exact rfl; (fail_if_success exact (rfl : _ = AV.d (.b true))); (fail_if_success exact (rfl : _ = AV.d (.b false))); exact rfl) <;> intro hb <;> (first | rw [inB_t] at hb | rw [inB_f] at hb | rw [inB_nt] at hb | rw [inB_nf] at hb | rw [decide_eq_true_eq] at hb | rw [decide_eq_false_iff_not] at hb | rw [beq_iff_eq] at hb | rw [beq_eq_false_iff_ne] at hb | rw [Bool.not_eq_true'] at hb | rw [Bool.not_eq_false'] at hb | rw [bne_iff_ne] at hb | rw [bne_eq_false_iff_eq] at hb | skip) <;> (first | (exfalso; omega) | (exact absurd rfl hb) | skip))
    )
  refine Stop.mk ?_
  refine ret_intro [] rfl rfl ?_ ?_
  repeat' (first
    | apply And.intro
    | (apply eq_b; exact rfl; exact Stop.mk (by with_reducible rfl))
    | (apply eq_b; exact rfl)
    | (apply eq_n; exact rfl; exact Stop.mk (by first | with_reducible rfl | omega))
    | (apply eq_n; exact rfl)
    | (apply eq_s; exact rfl; exact Stop.mk (by with_reducible rfl))
    | (apply eq_s; exact rfl)
    | (apply eq_sl; exact rfl; exact Stop.mk (by with_reducible rfl))
    | (apply eq_sl; exact rfl)
    | (apply eq_row; exact rfl; exact Stop.mk (by with_reducible rfl))
    | (apply eq_row; exact rfl)
    | (apply eq_agg; exact rfl)
    | (apply eq_cons; exact rfl)
    | (apply eq_boxo; exact rfl)
    | (apply cell_agg; exact rfl; exact rfl; exact rfl)
    | (apply cell_one; exact rfl; exact rfl)
    | exact rfl
    | trivial
    )
  all_goals exact Stop.mk rfl
def cmdText (c : Cmd) : List UInt8 := if cmdOkB c = true then (if c.kind = 1 then wordsL [cmdW 1, jobT c.job] else if c.kind = 6 then wordsL [cmdW 6, vecText c.lic] else wordsL [cmdW c.kind, numTx c.n]) else []
theorem cmdText_no {c : Cmd} (h : cmdOkB c = false) : cmdText c = [] := if_neg (by simp [h])
theorem cmdText_1 {c : Cmd} (h : cmdOkB c = true) (hk : c.kind = 1) : cmdText c = wordsL [cmdW 1, jobT c.job] := by rw [cmdText, if_pos h, if_pos hk]
theorem cmdText_6 {c : Cmd} (h : cmdOkB c = true) (hk : c.kind = 6) : cmdText c = wordsL [cmdW 6, vecText c.lic] := by rw [cmdText, if_pos h, if_neg (by omega), if_pos hk]
theorem cmdText_n {c : Cmd} (h : cmdOkB c = true) (h1 : ¬ c.kind = 1) (h6 : ¬ c.kind = 6) : cmdText c = wordsL [cmdW c.kind, numTx c.n] := by rw [cmdText, if_pos h, if_neg h1, if_neg h6]
set_option maxRecDepth 100000 in
set_option maxHeartbeats 4000000 in
theorem cmdText_e {c : Cmd} : ACalls Try.prog 48 [cmdA c] [.d (.s (cmdText c))] [] := by
  refine acalls_of tt Try.func48 rfl rfl rfl (fun w0 Z => ?_)
  have h1 := jobT_len c.job
  have h2 := vecText_len c.lic
  have h3 := numTx_len c.n
  have h4 := cmdW_len c.kind
  repeat' (first
    | apply awp_seq
    | (apply awp_regionN; exact rfl)
    | (apply aopG_ok; exact rfl)
    | apply ops_nil
    | (apply awp_drawq; exact rfl; kernel_rfl; kernel_rfl; exact rfl)
    | (apply awp_drawx; exact rfl; kernel_rfl; exact rfl)
    | (apply aopQ_ok; exact rfl)
    | apply qs_nil
    | (apply ch_nil; exact rfl)
    | (apply ch_cons; (· exact rfl); (· exact rfl); (· exact rfl); (· exact rfl); (· (intro w0 Z O; first | (apply aop_ok; exact rfl) | (apply QOk.ok; first | refine st_eqagg ns_ok (by kernel_rfl) rfl rfl rfl rfl rfl rfl rfl rfl ?_) | refine st_lit rfl rfl rfl ⟨rfl, rfl, rfl⟩ rfl rfl rfl rfl rfl rfl rfl rfl rfl ?_ | refine st_call (cmdOk_e (c := c)) rfl rfl rfl rfl rfl ?_ | refine st_call (jobText_e (j := c.job)) rfl rfl rfl rfl rfl ?_ | refine st_call (vecText_e (v := c.lic)) rfl rfl rfl rfl rfl ?_ | refine st_call (numText_e) rfl rfl rfl rfl rfl ?_ | refine st_call (cmdWord_e) rfl rfl rfl rfl rfl ?_ | refine st_call (words_e (l := [cmdW 1, jobT c.job]) (short2 (by decide) (by omega))) rfl rfl rfl rfl rfl ?_ | refine st_call (words_e (l := [cmdW 6, vecText c.lic]) (short2 (by decide) (by omega))) rfl rfl rfl rfl rfl ?_ | refine st_call (words_e (l := [cmdW c.kind, numTx c.n]) (short2 (by omega) (by omega))) rfl rfl rfl rfl rfl ?_); exact ⟨rfl, rfl, rfl⟩); (· exact rfl); (· exact rfl); (· (repeat' (first | apply And.intro | exact Or.inl rfl | exact Or.inr ⟨rfl, rfl⟩ | exact trivial))); (· (repeat' (first | apply And.intro | exact trivial | exact rfl | exact flatE_map (fun _ => rfl) | apply flatE_app))); (· exact rfl); (· exact rfl); (· exact rfl); (· exact rfl))
    | (apply awp_cond_t; exact rfl)
    | (apply awp_cond_f; exact rfl)
    | ((apply awp_cond; exact rfl) <;> intro hb <;> (first | rw [inB_t] at hb | rw [inB_f] at hb | rw [inB_nt] at hb | rw [inB_nf] at hb | rw [decide_eq_true_eq] at hb | rw [decide_eq_false_iff_not] at hb | rw [beq_iff_eq] at hb | rw [beq_eq_false_iff_ne] at hb | rw [Bool.not_eq_true'] at hb | rw [Bool.not_eq_false'] at hb | rw [bne_iff_ne] at hb | rw [bne_eq_false_iff_eq] at hb | skip) <;> (first | (exfalso; omega) | (exact absurd rfl hb) | skip))
    | apply awp_block
    | apply awp_skip
    | apply awp_exit
    | apply awp_ret'
    | ((first | (apply ops_cons; exact rfl) | (apply ops_yes; exact rfl; exact rfl; exact rfl)); first | (apply QOk.ok; first | refine st_eqagg ns_ok (by kernel_rfl) rfl rfl rfl rfl rfl rfl rfl rfl ?_) | refine st_lit rfl rfl rfl ⟨rfl, rfl, rfl⟩ rfl rfl rfl rfl rfl rfl rfl rfl rfl ?_ | refine st_call (cmdOk_e (c := c)) rfl rfl rfl rfl rfl ?_ | refine st_call (jobText_e (j := c.job)) rfl rfl rfl rfl rfl ?_ | refine st_call (vecText_e (v := c.lic)) rfl rfl rfl rfl rfl ?_ | refine st_call (numText_e) rfl rfl rfl rfl rfl ?_ | refine st_call (cmdWord_e) rfl rfl rfl rfl rfl ?_ | refine st_call (words_e (l := [cmdW 1, jobT c.job]) (short2 (by decide) (by omega))) rfl rfl rfl rfl rfl ?_ | refine st_call (words_e (l := [cmdW 6, vecText c.lic]) (short2 (by decide) (by omega))) rfl rfl rfl rfl rfl ?_ | refine st_call (words_e (l := [cmdW c.kind, numTx c.n]) (short2 (by omega) (by omega))) rfl rfl rfl rfl rfl ?_)
    | ((apply ops_gsplit; exact rfl; exact rfl; (fail_if_success exact (rfl : _ = AV.d (.b true))); (fail_if_success exact (rfl : _ = AV.d (.b false))); exact rfl) <;> intro hb <;> (first | rw [inB_t] at hb | rw [inB_f] at hb | rw [inB_nt] at hb | rw [inB_nf] at hb | rw [decide_eq_true_eq] at hb | rw [decide_eq_false_iff_not] at hb | rw [beq_iff_eq] at hb | rw [beq_eq_false_iff_ne] at hb | rw [Bool.not_eq_true'] at hb | rw [Bool.not_eq_false'] at hb | rw [bne_iff_ne] at hb | rw [bne_eq_false_iff_eq] at hb | skip) <;> (first | (exfalso; omega) | (exact absurd rfl hb) | skip))
    | ((first | (apply qs_cons; exact rfl) | (apply qs_yes; exact rfl; exact rfl; exact rfl)); first | refine st_eqagg ns_ok (by kernel_rfl) rfl rfl rfl rfl rfl rfl rfl rfl ?_ | refine st_callq (cmdOk_e (c := c)) rfl rfl rfl rfl rfl ?_ | refine st_callq (jobText_e (j := c.job)) rfl rfl rfl rfl rfl ?_ | refine st_callq (vecText_e (v := c.lic)) rfl rfl rfl rfl rfl ?_ | refine st_callq (numText_e) rfl rfl rfl rfl rfl ?_ | refine st_callq (cmdWord_e) rfl rfl rfl rfl rfl ?_ | refine st_callq (words_e (l := [cmdW 1, jobT c.job]) (short2 (by decide) (by omega))) rfl rfl rfl rfl rfl ?_ | refine st_callq (words_e (l := [cmdW 6, vecText c.lic]) (short2 (by decide) (by omega))) rfl rfl rfl rfl rfl ?_ | refine st_callq (words_e (l := [cmdW c.kind, numTx c.n]) (short2 (by omega) (by omega))) rfl rfl rfl rfl rfl ?_)
    | ((apply qs_gsplit; exact rfl; exact rfl; (fail_if_success exact (rfl : _ = AV.d (.b true))); (fail_if_success exact (rfl : _ = AV.d (.b false))); exact rfl) <;> intro hb <;> (first | rw [inB_t] at hb | rw [inB_f] at hb | rw [inB_nt] at hb | rw [inB_nf] at hb | rw [decide_eq_true_eq] at hb | rw [decide_eq_false_iff_not] at hb | rw [beq_iff_eq] at hb | rw [beq_eq_false_iff_ne] at hb | rw [Bool.not_eq_true'] at hb | rw [Bool.not_eq_false'] at hb | rw [bne_iff_ne] at hb | rw [bne_eq_false_iff_eq] at hb | skip) <;> (first | (exfalso; omega) | (exact absurd rfl hb) | skip))
    )
  · refine Stop.mk ?_
    refine ret_intro [] rfl rfl ?_ ?_
    repeat' (first
      | apply And.intro
      | (apply eq_b; exact rfl; exact Stop.mk (by with_reducible rfl))
      | (apply eq_b; exact rfl)
      | (apply eq_n; exact rfl; exact Stop.mk (by first | with_reducible rfl | omega))
      | (apply eq_n; exact rfl)
      | (apply eq_s; exact rfl; exact Stop.mk (by with_reducible rfl))
      | (apply eq_s; exact rfl)
      | (apply eq_sl; exact rfl; exact Stop.mk (by with_reducible rfl))
      | (apply eq_sl; exact rfl)
      | (apply eq_row; exact rfl; exact Stop.mk (by with_reducible rfl))
      | (apply eq_row; exact rfl)
      | (apply eq_agg; exact rfl)
      | (apply eq_cons; exact rfl)
      | (apply eq_boxo; exact rfl)
      | (apply cell_agg; exact rfl; exact rfl; exact rfl)
      | (apply cell_one; exact rfl; exact rfl)
      | exact rfl
      | trivial
      )
    exact Stop.mk (cmdText_no (by assumption)).symm
  · refine Stop.mk ?_
    refine ret_intro [] rfl rfl ?_ ?_
    repeat' (first
      | apply And.intro
      | (apply eq_b; exact rfl; exact Stop.mk (by with_reducible rfl))
      | (apply eq_b; exact rfl)
      | (apply eq_n; exact rfl; exact Stop.mk (by first | with_reducible rfl | omega))
      | (apply eq_n; exact rfl)
      | (apply eq_s; exact rfl; exact Stop.mk (by with_reducible rfl))
      | (apply eq_s; exact rfl)
      | (apply eq_sl; exact rfl; exact Stop.mk (by with_reducible rfl))
      | (apply eq_sl; exact rfl)
      | (apply eq_row; exact rfl; exact Stop.mk (by with_reducible rfl))
      | (apply eq_row; exact rfl)
      | (apply eq_agg; exact rfl)
      | (apply eq_cons; exact rfl)
      | (apply eq_boxo; exact rfl)
      | (apply cell_agg; exact rfl; exact rfl; exact rfl)
      | (apply cell_one; exact rfl; exact rfl)
      | exact rfl
      | trivial
      )
    exact Stop.mk (cmdText_1 (by assumption) (by assumption)).symm
  · refine Stop.mk ?_
    refine ret_intro [] rfl rfl ?_ ?_
    repeat' (first
      | apply And.intro
      | (apply eq_b; exact rfl; exact Stop.mk (by with_reducible rfl))
      | (apply eq_b; exact rfl)
      | (apply eq_n; exact rfl; exact Stop.mk (by first | with_reducible rfl | omega))
      | (apply eq_n; exact rfl)
      | (apply eq_s; exact rfl; exact Stop.mk (by with_reducible rfl))
      | (apply eq_s; exact rfl)
      | (apply eq_sl; exact rfl; exact Stop.mk (by with_reducible rfl))
      | (apply eq_sl; exact rfl)
      | (apply eq_row; exact rfl; exact Stop.mk (by with_reducible rfl))
      | (apply eq_row; exact rfl)
      | (apply eq_agg; exact rfl)
      | (apply eq_cons; exact rfl)
      | (apply eq_boxo; exact rfl)
      | (apply cell_agg; exact rfl; exact rfl; exact rfl)
      | (apply cell_one; exact rfl; exact rfl)
      | exact rfl
      | trivial
      )
    exact Stop.mk (cmdText_6 (by assumption) (by assumption)).symm
  · refine Stop.mk ?_
    refine ret_intro [] rfl rfl ?_ ?_
    repeat' (first
      | apply And.intro
      | (apply eq_b; exact rfl; exact Stop.mk (by with_reducible rfl))
      | (apply eq_b; exact rfl)
      | (apply eq_n; exact rfl; exact Stop.mk (by first | with_reducible rfl | omega))
      | (apply eq_n; exact rfl)
      | (apply eq_s; exact rfl; exact Stop.mk (by with_reducible rfl))
      | (apply eq_s; exact rfl)
      | (apply eq_sl; exact rfl; exact Stop.mk (by with_reducible rfl))
      | (apply eq_sl; exact rfl)
      | (apply eq_row; exact rfl; exact Stop.mk (by with_reducible rfl))
      | (apply eq_row; exact rfl)
      | (apply eq_agg; exact rfl)
      | (apply eq_cons; exact rfl)
      | (apply eq_boxo; exact rfl)
      | (apply cell_agg; exact rfl; exact rfl; exact rfl)
      | (apply cell_one; exact rfl; exact rfl)
      | exact rfl
      | trivial
      )
    exact Stop.mk (cmdText_n (by assumption) (by assumption) (by assumption)).symm
end Go.Proofs.Ythmajaeekkbnnaa
