/-
  Steps as text: StepText, both.
-/
import Derived.Test.YthmajaeekkbnnaaTxN
namespace Go.Proofs.Ythmajaeekkbnnaa
open Go Go.RowKit
attribute [local irreducible] AWp OpsOk OpOk ACalls ChA QsOk

structure Step where
  kind : Int
  cmd : Cmd
  keep : Int
@[reducible] def stepA (x : Step) : AV := .agg [.d (.n .i64 x.kind), .d (.n .i64 x.cmd.kind), .d (.n .i64 x.cmd.job.id), .d (.n .i64 x.cmd.job.prio), .d (.n .i64 x.cmd.job.nodes), .d (.n .i64 x.cmd.job.need.a), .d (.n .i64 x.cmd.job.need.b), .d (.n .i64 x.cmd.job.need.c), .d (.n .i64 x.cmd.job.lic.a), .d (.n .i64 x.cmd.job.lic.b), .d (.n .i64 x.cmd.job.lic.c), .d (.n .i64 x.cmd.job.wall), .d (.n .i64 x.cmd.job.level), .d (.n .i64 x.cmd.n), .d (.n .i64 x.cmd.lic.a), .d (.n .i64 x.cmd.lic.b), .d (.n .i64 x.cmd.lic.c), .d (.n .i64 x.keep)]
def cmdNo (c : Cmd) : Bool := c.kind == 0 && jobNo c.job && c.n == 0 && vecNo c.lic
def stepText (x : Step) : List UInt8 :=
  if x.kind = 1 then (if ¬ cmdText x.cmd = [] ∧ x.keep = 0 then [100, 111, 32] ++ cmdText x.cmd else [])
  else if x.kind = 2 then (if ¬ cmdText x.cmd = [] ∧ inB x.keep 0 1000000000 = true then [116, 111, 114, 110, 32] ++ numTx x.keep ++ [32] ++ cmdText x.cmd else [])
  else if x.kind = 3 then (if cmdNo x.cmd = true ∧ x.keep = 0 then [99, 114, 97, 115, 104] else [])
  else if x.kind = 4 then (if cmdNo x.cmd = true ∧ x.keep = 0 then [115, 116, 97, 114, 116] else [])
  else []
theorem cmdText_len (c : Cmd) : (cmdText c).length ≤ 1000 := by
  have h1 := jobT_len c.job
  have h2 := vecText_len c.lic
  have h3 := numTx_len c.n
  have h4 := cmdW_len c.kind
  unfold cmdText
  repeat' split
  · simp [wordsL_two, cmdW, nth, wordsK]; omega
  · simp [wordsL_two, cmdW, nth, wordsK]; omega
  · simp [wordsL_two]; omega
  · simp
set_option maxRecDepth 100000 in
set_option maxHeartbeats 4000000 in
theorem stepText_e {x : Step} : ACalls Try.prog 76 [stepA x] [.d (.s (stepText x))] [] := by
  refine acalls_of tt Try.func76 rfl rfl rfl (fun w0 Z => ?_)
  have h1 := cmdText_len x.cmd
  have h2 := numTx_len x.keep
  repeat' (first
    | apply awp_seq
    | (apply awp_regionN; exact rfl)
    | (apply aopG_ok; exact rfl)
    | apply ops_nil
    | (apply awp_cond_t; exact rfl)
    | (apply awp_cond_f; exact rfl)
    | ((apply awp_cond; exact rfl) <;> intro hb <;> (first | rw [inB_t] at hb | rw [inB_f] at hb | rw [inB_nt] at hb | rw [inB_nf] at hb | rw [decide_eq_true_eq] at hb | rw [decide_eq_false_iff_not] at hb | rw [beq_iff_eq] at hb | rw [beq_eq_false_iff_ne] at hb | rw [Bool.not_eq_true'] at hb | rw [Bool.not_eq_false'] at hb | rw [bne_iff_ne] at hb | rw [bne_eq_false_iff_eq] at hb | skip) <;> (first | (exfalso; omega) | (exact absurd rfl hb) | skip))
    | apply awp_block
    | apply awp_skip
    | apply awp_exit
    | apply awp_ret'
    | ((first | (apply ops_cons; exact rfl) | (apply ops_yes; exact rfl; exact rfl; exact rfl)); first | (apply QOk.ok; first | refine st_addn rfl rfl rfl (by first | with_reducible rfl | exact nlit _ | exact (Int.toNat_of_nonneg (by omega)).symm | rfl) rfl (by first | with_reducible rfl | exact nlit _ | exact (Int.toNat_of_nonneg (by omega)).symm | rfl) (by omega) rfl ?_ | refine st_add rfl rfl rfl rfl (by omega) rfl ?_ | refine st_catn rfl rfl rfl rfl (by first | omega | (simp only [List.length_cons, List.length_nil]; omega) | (simp only [List.length_append]; omega) | (simp only [List.length_append, List.length_cons, List.length_nil]; omega)) rfl ?_ | refine st_build rfl rfl rfl rfl rfl rfl ?_ | refine st_eqagg ns_ok (by kernel_rfl) rfl rfl rfl rfl rfl rfl rfl rfl ?_ | refine st_neagg ns_ok (by kernel_rfl) rfl rfl rfl rfl rfl rfl rfl rfl ?_) | refine st_call (cmdText_e (c := x.cmd)) rfl rfl rfl rfl rfl ?_ | refine st_call (numText_e) rfl rfl rfl rfl rfl ?_ | refine st_call (isTime_c2) rfl rfl rfl rfl rfl ?_)
    | ((apply ops_gsplit; exact rfl; exact rfl; (fail_if_success exact (rfl : _ = AV.d (.b true))); (fail_if_success exact (rfl : _ = AV.d (.b false))); exact rfl) <;> intro hb <;> (first | rw [inB_t] at hb | rw [inB_f] at hb | rw [inB_nt] at hb | rw [inB_nf] at hb | rw [decide_eq_true_eq] at hb | rw [decide_eq_false_iff_not] at hb | rw [beq_iff_eq] at hb | rw [beq_eq_false_iff_ne] at hb | rw [Bool.not_eq_true'] at hb | rw [Bool.not_eq_false'] at hb | rw [bne_iff_ne] at hb | rw [bne_eq_false_iff_eq] at hb | skip) <;> (first | (exfalso; omega) | (exact absurd rfl hb) | skip))
    )
  all_goals clear h1 h2
  all_goals
    refine Stop.mk ?_
    refine ret_intro [] rfl rfl ?_ ?_
    repeat' (first
      | apply And.intro
      | (apply eq_b; exact rfl; exact Stop.mk (by with_reducible rfl))
      | (apply eq_b; exact rfl)
      | (apply eq_n; exact rfl; exact Stop.mk (by first | with_reducible rfl | omega))
      | (apply eq_n; exact rfl)
      | (apply eq_s; exact rfl; exact Stop.mk (by with_reducible rfl))
      | (apply eq_s; exact rfl)
      | (apply eq_sl; exact rfl; exact Stop.mk (by with_reducible rfl))
      | (apply eq_sl; exact rfl)
      | (apply eq_row; exact rfl; exact Stop.mk (by with_reducible rfl))
      | (apply eq_row; exact rfl)
      | (apply eq_agg; exact rfl)
      | (apply eq_cons; exact rfl)
      | (apply eq_boxo; exact rfl)
      | (apply cell_agg; exact rfl; exact rfl; exact rfl)
      | (apply cell_one; exact rfl; exact rfl)
      | exact rfl
      | trivial
      )
    refine Stop.mk ?_
    unfold stepText
    first
      | (simp [inB_t, *]; done)
      | (simp [cmdNo, jobNo, vecNo] at *; simp [*]; done)
      | (simp [cmdNo, jobNo, vecNo] at *; simp [*]; omega)
      | (simp [inB, *]; omega)
set_option maxRecDepth 100000 in
set_option maxHeartbeats 4000000 in
theorem stepText_s {x : Step} : ACalls Try.prog 74 [stepA x] [.d (.s (stepText x))] [] := by
  refine acalls_of tt Try.func74 rfl rfl rfl (fun w0 Z => ?_)
  have h1 := cmdText_len x.cmd
  have h2 := numTx_len x.keep
  repeat' (first
    | apply awp_seq
    | (apply awp_regionN; exact rfl)
    | (apply aopG_ok; exact rfl)
    | apply ops_nil
    | (apply awp_cond_t; exact rfl)
    | (apply awp_cond_f; exact rfl)
    | ((apply awp_cond; exact rfl) <;> intro hb <;> (first | rw [inB_t] at hb | rw [inB_f] at hb | rw [inB_nt] at hb | rw [inB_nf] at hb | rw [decide_eq_true_eq] at hb | rw [decide_eq_false_iff_not] at hb | rw [beq_iff_eq] at hb | rw [beq_eq_false_iff_ne] at hb | rw [Bool.not_eq_true'] at hb | rw [Bool.not_eq_false'] at hb | rw [bne_iff_ne] at hb | rw [bne_eq_false_iff_eq] at hb | skip) <;> (first | (exfalso; omega) | (exact absurd rfl hb) | skip))
    | apply awp_block
    | apply awp_skip
    | apply awp_exit
    | apply awp_ret'
    | ((first | (apply ops_cons; exact rfl) | (apply ops_yes; exact rfl; exact rfl; exact rfl)); first | (apply QOk.ok; first | refine st_addn rfl rfl rfl (by first | with_reducible rfl | exact nlit _ | exact (Int.toNat_of_nonneg (by omega)).symm | rfl) rfl (by first | with_reducible rfl | exact nlit _ | exact (Int.toNat_of_nonneg (by omega)).symm | rfl) (by omega) rfl ?_ | refine st_add rfl rfl rfl rfl (by omega) rfl ?_ | refine st_catn rfl rfl rfl rfl (by first | omega | (simp only [List.length_cons, List.length_nil]; omega) | (simp only [List.length_append]; omega) | (simp only [List.length_append, List.length_cons, List.length_nil]; omega)) rfl ?_ | refine st_build rfl rfl rfl rfl rfl rfl ?_ | refine st_eqagg ns_ok (by kernel_rfl) rfl rfl rfl rfl rfl rfl rfl rfl ?_ | refine st_neagg ns_ok (by kernel_rfl) rfl rfl rfl rfl rfl rfl rfl rfl ?_) | refine st_call (cmdText_s (c := x.cmd)) rfl rfl rfl rfl rfl ?_ | refine st_call (numText_x) rfl rfl rfl rfl rfl ?_ | refine st_call (time_s) rfl rfl rfl rfl rfl ?_)
    | ((apply ops_gsplit; exact rfl; exact rfl; (fail_if_success exact (rfl : _ = AV.d (.b true))); (fail_if_success exact (rfl : _ = AV.d (.b false))); exact rfl) <;> intro hb <;> (first | rw [inB_t] at hb | rw [inB_f] at hb | rw [inB_nt] at hb | rw [inB_nf] at hb | rw [decide_eq_true_eq] at hb | rw [decide_eq_false_iff_not] at hb | rw [beq_iff_eq] at hb | rw [beq_eq_false_iff_ne] at hb | rw [Bool.not_eq_true'] at hb | rw [Bool.not_eq_false'] at hb | rw [bne_iff_ne] at hb | rw [bne_eq_false_iff_eq] at hb | skip) <;> (first | (exfalso; omega) | (exact absurd rfl hb) | skip))
    )
  all_goals clear h1 h2
  all_goals
    refine Stop.mk ?_
    refine ret_intro [] rfl rfl ?_ ?_
    repeat' (first
      | apply And.intro
      | (apply eq_b; exact rfl; exact Stop.mk (by with_reducible rfl))
      | (apply eq_b; exact rfl)
      | (apply eq_n; exact rfl; exact Stop.mk (by first | with_reducible rfl | omega))
      | (apply eq_n; exact rfl)
      | (apply eq_s; exact rfl; exact Stop.mk (by with_reducible rfl))
      | (apply eq_s; exact rfl)
      | (apply eq_sl; exact rfl; exact Stop.mk (by with_reducible rfl))
      | (apply eq_sl; exact rfl)
      | (apply eq_row; exact rfl; exact Stop.mk (by with_reducible rfl))
      | (apply eq_row; exact rfl)
      | (apply eq_agg; exact rfl)
      | (apply eq_cons; exact rfl)
      | (apply eq_boxo; exact rfl)
      | (apply cell_agg; exact rfl; exact rfl; exact rfl)
      | (apply cell_one; exact rfl; exact rfl)
      | exact rfl
      | trivial
      )
    refine Stop.mk ?_
    unfold stepText
    first
      | (simp [inB_t, *]; done)
      | (simp [cmdNo, jobNo, vecNo] at *; simp [*]; done)
      | (simp [cmdNo, jobNo, vecNo] at *; simp [*]; omega)
      | (simp [inB, *]; omega)
end Go.Proofs.Ythmajaeekkbnnaa
