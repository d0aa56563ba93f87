/-
  Commands: VecOk, JobOk, CmdOk, both; copies of the law's own commands.
-/
import Derived.Test.YthmajaeekkbnnaaSh
import Derived.Test.YthmajaeekkbnnaaTxB
namespace Go.Proofs.Ythmajaeekkbnnaa
open Go Go.RowKit
attribute [local irreducible] AWp OpsOk OpOk ACalls

structure V3 where
  a : Int
  b : Int
  c : Int
structure Job where
  id : Int
  prio : Int
  nodes : Int
  need : V3
  lic : V3
  wall : Int
  level : Int
structure Cmd where
  kind : Int
  job : Job
  n : Int
  lic : V3
@[reducible] def vecA (v : V3) : AV := .agg [.d (.n .i64 v.a), .d (.n .i64 v.b), .d (.n .i64 v.c)]
@[reducible] def jobA (j : Job) : AV := .agg [.d (.n .i64 j.id), .d (.n .i64 j.prio), .d (.n .i64 j.nodes), .d (.n .i64 j.need.a), .d (.n .i64 j.need.b), .d (.n .i64 j.need.c), .d (.n .i64 j.lic.a), .d (.n .i64 j.lic.b), .d (.n .i64 j.lic.c), .d (.n .i64 j.wall), .d (.n .i64 j.level)]
@[reducible] def cmdA (c : Cmd) : AV := .agg [.d (.n .i64 c.kind), .d (.n .i64 c.job.id), .d (.n .i64 c.job.prio), .d (.n .i64 c.job.nodes), .d (.n .i64 c.job.need.a), .d (.n .i64 c.job.need.b), .d (.n .i64 c.job.need.c), .d (.n .i64 c.job.lic.a), .d (.n .i64 c.job.lic.b), .d (.n .i64 c.job.lic.c), .d (.n .i64 c.job.wall), .d (.n .i64 c.job.level), .d (.n .i64 c.n), .d (.n .i64 c.lic.a), .d (.n .i64 c.lic.b), .d (.n .i64 c.lic.c)]
def vecOkB (v : V3) : Bool := inB v.a 0 1000000 && inB v.b 0 1000000 && inB v.c 0 1000000
def vecNo (v : V3) : Bool := v.a == 0 && v.b == 0 && v.c == 0
def jobOkB (j : Job) : Bool := inB j.id 1 999 && inB j.prio 0 999 && inB j.nodes 1 24 && vecOkB j.need && vecOkB j.lic && inB j.wall 1 1000000 && inB j.level 0 24
def jobNo (j : Job) : Bool := j.id == 0 && j.prio == 0 && j.nodes == 0 && vecNo j.need && vecNo j.lic && j.wall == 0 && j.level == 0
def cmdOkB (c : Cmd) : Bool :=
  if c.kind = 1 then jobOkB c.job && c.n == 0 && vecNo c.lic
  else if c.kind = 2 ∨ c.kind = 3 then jobNo c.job && vecNo c.lic && inB c.n 1 999
  else if c.kind = 4 ∨ c.kind = 5 then jobNo c.job && vecNo c.lic && inB c.n 0 23
  else if c.kind = 6 then jobNo c.job && c.n == 0 && vecOkB c.lic
  else if c.kind = 7 then jobNo c.job && vecNo c.lic && inB c.n 0 1000000000
  else false
set_option maxRecDepth 100000 in
theorem within_c {x lo hi : Int} : ACalls Try.prog 88 [.d (.n .i64 x), .d (.n .i64 lo), .d (.n .i64 hi)] [.d (.b (inB x lo hi))] [] := within_e
set_option maxRecDepth 100000 in
theorem isTime_c2 {x : Int} : ACalls Try.prog 99 [.d (.n .i64 x)] [.d (.b (inB x 0 1000000000))] [] := by
  refine acalls_of tt Try.func99 rfl rfl rfl (fun w0 Z => ?_)
  repeat' (first
    | apply awp_seq
    | (apply awp_regionN; exact rfl)
    | (refine Hb.mk (fun hb => ?_); (first | rw [inB_t] at hb | rw [inB_f] at hb | rw [inB_nt] at hb | rw [inB_nf] at hb | rw [decide_eq_true_eq] at hb | rw [decide_eq_false_iff_not] at hb | rw [beq_iff_eq] at hb | rw [beq_eq_false_iff_ne] at hb | rw [Bool.not_eq_true'] at hb | rw [Bool.not_eq_false'] at hb | rw [bne_iff_ne] at hb | rw [bne_eq_false_iff_eq] at hb | skip); (first | (exfalso; omega) | (exact absurd rfl hb) | skip))
    | (apply aopG_ok; exact rfl)
    | apply ops_nil
    | (apply awp_cond_t; exact rfl)
    | (apply awp_cond_f; exact rfl)
    | (apply cond_x; exact rfl)
    | apply awp_block
    | apply awp_skip
    | apply awp_exit
    | apply awp_ret'
    | (first | (apply ops_cons; exact rfl) | (apply ops_yes; exact rfl; exact rfl; exact rfl))
    | (apply ops_x; exact rfl; exact rfl; (fail_if_success exact (rfl : _ = AV.d (.b true))); (fail_if_success exact (rfl : _ = AV.d (.b false))); exact rfl)
    | (apply op_id; first | refine st_call (within_c) rfl rfl rfl rfl rfl ?_)
    )
  all_goals
    refine Stop.mk ?_
    refine ret_intro [] rfl rfl ?_ ?_
    repeat' (first
      | apply And.intro
      | (apply eq_b; exact rfl; exact Stop.mk (by with_reducible rfl))
      | (apply eq_b; exact rfl)
      | (apply eq_n; exact rfl; exact Stop.mk (by first | with_reducible rfl | omega))
      | (apply eq_n; exact rfl)
      | (apply eq_s; exact rfl; exact Stop.mk (by with_reducible rfl))
      | (apply eq_s; exact rfl)
      | (apply eq_sl; exact rfl; exact Stop.mk (by with_reducible rfl))
      | (apply eq_sl; exact rfl)
      | (apply eq_row; exact rfl; exact Stop.mk (by with_reducible rfl))
      | (apply eq_row; exact rfl)
      | (apply eq_agg; exact rfl)
      | (apply eq_cons; exact rfl)
      | (apply eq_boxo; exact rfl)
      | (apply cell_agg; exact rfl; exact rfl; exact rfl)
      | (apply cell_one; exact rfl; exact rfl)
      | exact rfl
      | trivial
      )
set_option maxRecDepth 100000 in
theorem vecOk_e {v : V3} : ACalls Try.prog 98 [vecA v] [.d (.b (vecOkB v))] [] := by
  refine acalls_of tt Try.func98 rfl rfl rfl (fun w0 Z => ?_)
  repeat' (first
    | apply awp_seq
    | (apply awp_regionN; exact rfl)
    | (refine Hb.mk (fun hb => ?_); (first | rw [inB_t] at hb | rw [inB_f] at hb | rw [inB_nt] at hb | rw [inB_nf] at hb | rw [decide_eq_true_eq] at hb | rw [decide_eq_false_iff_not] at hb | rw [beq_iff_eq] at hb | rw [beq_eq_false_iff_ne] at hb | rw [Bool.not_eq_true'] at hb | rw [Bool.not_eq_false'] at hb | rw [bne_iff_ne] at hb | rw [bne_eq_false_iff_eq] at hb | skip); (first | (exfalso; omega) | (exact absurd rfl hb) | skip))
    | (apply aopG_ok; exact rfl)
    | apply ops_nil
    | (apply awp_cond_t; exact rfl)
    | (apply awp_cond_f; exact rfl)
    | (apply cond_x; exact rfl)
    | apply awp_block
    | apply awp_skip
    | apply awp_exit
    | apply awp_ret'
    | (first | (apply ops_cons; exact rfl) | (apply ops_yes; exact rfl; exact rfl; exact rfl))
    | (apply ops_x; exact rfl; exact rfl; (fail_if_success exact (rfl : _ = AV.d (.b true))); (fail_if_success exact (rfl : _ = AV.d (.b false))); exact rfl)
    | (apply op_id; first | refine st_call (within_c) rfl rfl rfl rfl rfl ?_)
    )
  all_goals
    refine Stop.mk ?_
    refine ret_intro [] rfl rfl ?_ ?_
    repeat' (first
      | apply And.intro
      | (apply eq_b; exact rfl; exact Stop.mk (by with_reducible rfl))
      | (apply eq_b; exact rfl)
      | (apply eq_n; exact rfl; exact Stop.mk (by first | with_reducible rfl | omega))
      | (apply eq_n; exact rfl)
      | (apply eq_s; exact rfl; exact Stop.mk (by with_reducible rfl))
      | (apply eq_s; exact rfl)
      | (apply eq_sl; exact rfl; exact Stop.mk (by with_reducible rfl))
      | (apply eq_sl; exact rfl)
      | (apply eq_row; exact rfl; exact Stop.mk (by with_reducible rfl))
      | (apply eq_row; exact rfl)
      | (apply eq_agg; exact rfl)
      | (apply eq_cons; exact rfl)
      | (apply eq_boxo; exact rfl)
      | (apply cell_agg; exact rfl; exact rfl; exact rfl)
      | (apply cell_one; exact rfl; exact rfl)
      | exact rfl
      | trivial
      )
    refine Stop.mk ?_
    first
      | done
      | (rw [Bool.eq_iff_iff]; simp [vecOkB, inB] at *; omega)
      | (rw [Bool.eq_iff_iff]; simp [vecOkB, inB] at *; done)
      | (rw [Bool.eq_iff_iff]; simp [vecOkB, inB] at *; simp [*]; done)
      | (rw [Bool.eq_iff_iff]; simp [vecOkB, inB] at *; simp [*]; omega)
      | (rw [Bool.eq_iff_iff]; simp [vecOkB, inB] at *; simp [*]; intros; omega)
set_option maxRecDepth 100000 in
theorem jobOk_e {j : Job} : ACalls Try.prog 97 [jobA j] [.d (.b (jobOkB j))] [] := by
  refine acalls_of tt Try.func97 rfl rfl rfl (fun w0 Z => ?_)
  repeat' (first
    | apply awp_seq
    | (apply awp_regionN; exact rfl)
    | (refine Hb.mk (fun hb => ?_); (first | rw [inB_t] at hb | rw [inB_f] at hb | rw [inB_nt] at hb | rw [inB_nf] at hb | rw [decide_eq_true_eq] at hb | rw [decide_eq_false_iff_not] at hb | rw [beq_iff_eq] at hb | rw [beq_eq_false_iff_ne] at hb | rw [Bool.not_eq_true'] at hb | rw [Bool.not_eq_false'] at hb | rw [bne_iff_ne] at hb | rw [bne_eq_false_iff_eq] at hb | skip); (first | (exfalso; omega) | (exact absurd rfl hb) | skip))
    | (apply aopG_ok; exact rfl)
    | apply ops_nil
    | (apply awp_cond_t; exact rfl)
    | (apply awp_cond_f; exact rfl)
    | (apply cond_x; exact rfl)
    | apply awp_block
    | apply awp_skip
    | apply awp_exit
    | apply awp_ret'
    | (first | (apply ops_cons; exact rfl) | (apply ops_yes; exact rfl; exact rfl; exact rfl))
    | (apply ops_x; exact rfl; exact rfl; (fail_if_success exact (rfl : _ = AV.d (.b true))); (fail_if_success exact (rfl : _ = AV.d (.b false))); exact rfl)
    | (apply op_id; first | refine st_call (within_c) rfl rfl rfl rfl rfl ?_ | refine st_call (vecOk_e (v := j.need)) rfl rfl rfl rfl rfl ?_ | refine st_call (vecOk_e (v := j.lic)) rfl rfl rfl rfl rfl ?_)
    )
  all_goals
    refine Stop.mk ?_
    refine ret_intro [] rfl rfl ?_ ?_
    repeat' (first
      | apply And.intro
      | (apply eq_b; exact rfl; exact Stop.mk (by with_reducible rfl))
      | (apply eq_b; exact rfl)
      | (apply eq_n; exact rfl; exact Stop.mk (by first | with_reducible rfl | omega))
      | (apply eq_n; exact rfl)
      | (apply eq_s; exact rfl; exact Stop.mk (by with_reducible rfl))
      | (apply eq_s; exact rfl)
      | (apply eq_sl; exact rfl; exact Stop.mk (by with_reducible rfl))
      | (apply eq_sl; exact rfl)
      | (apply eq_row; exact rfl; exact Stop.mk (by with_reducible rfl))
      | (apply eq_row; exact rfl)
      | (apply eq_agg; exact rfl)
      | (apply eq_cons; exact rfl)
      | (apply eq_boxo; exact rfl)
      | (apply cell_agg; exact rfl; exact rfl; exact rfl)
      | (apply cell_one; exact rfl; exact rfl)
      | exact rfl
      | trivial
      )
    refine Stop.mk ?_
    first
      | done
      | (rw [Bool.eq_iff_iff]; simp [jobOkB, vecOkB, inB] at *; omega)
      | (rw [Bool.eq_iff_iff]; simp [jobOkB, vecOkB, inB] at *; done)
      | (rw [Bool.eq_iff_iff]; simp [jobOkB, vecOkB, inB] at *; simp [*]; done)
      | (rw [Bool.eq_iff_iff]; simp [jobOkB, vecOkB, inB] at *; simp [*]; omega)
      | (rw [Bool.eq_iff_iff]; simp [jobOkB, vecOkB, inB] at *; simp [*]; intros; omega)
set_option maxRecDepth 100000 in
theorem res_s {x : Int} : ACalls Try.prog 133 [.d (.n .i64 x)] [.d (.b (inB x 0 1000000))] [] := by
  refine acalls_of tt Try.func133 rfl rfl rfl (fun w0 Z => ?_)
  repeat' (first
    | apply awp_seq
    | (apply awp_regionN; exact rfl)
    | (refine Hb.mk (fun hb => ?_); (first | rw [inB_t] at hb | rw [inB_f] at hb | rw [inB_nt] at hb | rw [inB_nf] at hb | rw [decide_eq_true_eq] at hb | rw [decide_eq_false_iff_not] at hb | rw [beq_iff_eq] at hb | rw [beq_eq_false_iff_ne] at hb | rw [Bool.not_eq_true'] at hb | rw [Bool.not_eq_false'] at hb | rw [bne_iff_ne] at hb | rw [bne_eq_false_iff_eq] at hb | skip); (first | (exfalso; omega) | (exact absurd rfl hb) | skip))
    | (apply aopG_ok; exact rfl)
    | apply ops_nil
    | (apply awp_cond_t; exact rfl)
    | (apply awp_cond_f; exact rfl)
    | (apply cond_x; exact rfl)
    | apply awp_block
    | apply awp_skip
    | apply awp_exit
    | apply awp_ret'
    | (apply ops_x; exact rfl; exact rfl; (fail_if_success exact (rfl : _ = AV.d (.b true))); (fail_if_success exact (rfl : _ = AV.d (.b false))); exact rfl)
    )
  all_goals
    refine Stop.mk ?_
    refine ret_intro [] rfl rfl ?_ ?_
    repeat' (first
      | apply And.intro
      | (apply eq_b; exact rfl; exact Stop.mk (by with_reducible rfl))
      | (apply eq_b; exact rfl)
      | (apply eq_n; exact rfl; exact Stop.mk (by first | with_reducible rfl | omega))
      | (apply eq_n; exact rfl)
      | (apply eq_s; exact rfl; exact Stop.mk (by with_reducible rfl))
      | (apply eq_s; exact rfl)
      | (apply eq_sl; exact rfl; exact Stop.mk (by with_reducible rfl))
      | (apply eq_sl; exact rfl)
      | (apply eq_row; exact rfl; exact Stop.mk (by with_reducible rfl))
      | (apply eq_row; exact rfl)
      | (apply eq_agg; exact rfl)
      | (apply eq_cons; exact rfl)
      | (apply eq_boxo; exact rfl)
      | (apply cell_agg; exact rfl; exact rfl; exact rfl)
      | (apply cell_one; exact rfl; exact rfl)
      | exact rfl
      | trivial
      )
    refine Stop.mk ?_
    first
      | done
      | (rw [Bool.eq_iff_iff]; simp [inB] at *; omega)
      | (rw [Bool.eq_iff_iff]; simp [inB] at *; done)
      | (rw [Bool.eq_iff_iff]; simp [inB] at *; simp [*]; done)
      | (rw [Bool.eq_iff_iff]; simp [inB] at *; simp [*]; omega)
      | (rw [Bool.eq_iff_iff]; simp [inB] at *; simp [*]; intros; omega)
set_option maxRecDepth 100000 in
theorem time_s {x : Int} : ACalls Try.prog 94 [.d (.n .i64 x)] [.d (.b (inB x 0 1000000000))] [] := by
  refine acalls_of tt Try.func94 rfl rfl rfl (fun w0 Z => ?_)
  repeat' (first
    | apply awp_seq
    | (apply awp_regionN; exact rfl)
    | (refine Hb.mk (fun hb => ?_); (first | rw [inB_t] at hb | rw [inB_f] at hb | rw [inB_nt] at hb | rw [inB_nf] at hb | rw [decide_eq_true_eq] at hb | rw [decide_eq_false_iff_not] at hb | rw [beq_iff_eq] at hb | rw [beq_eq_false_iff_ne] at hb | rw [Bool.not_eq_true'] at hb | rw [Bool.not_eq_false'] at hb | rw [bne_iff_ne] at hb | rw [bne_eq_false_iff_eq] at hb | skip); (first | (exfalso; omega) | (exact absurd rfl hb) | skip))
    | (apply aopG_ok; exact rfl)
    | apply ops_nil
    | (apply awp_cond_t; exact rfl)
    | (apply awp_cond_f; exact rfl)
    | (apply cond_x; exact rfl)
    | apply awp_block
    | apply awp_skip
    | apply awp_exit
    | apply awp_ret'
    | (apply ops_x; exact rfl; exact rfl; (fail_if_success exact (rfl : _ = AV.d (.b true))); (fail_if_success exact (rfl : _ = AV.d (.b false))); exact rfl)
    )
  all_goals
    refine Stop.mk ?_
    refine ret_intro [] rfl rfl ?_ ?_
    repeat' (first
      | apply And.intro
      | (apply eq_b; exact rfl; exact Stop.mk (by with_reducible rfl))
      | (apply eq_b; exact rfl)
      | (apply eq_n; exact rfl; exact Stop.mk (by first | with_reducible rfl | omega))
      | (apply eq_n; exact rfl)
      | (apply eq_s; exact rfl; exact Stop.mk (by with_reducible rfl))
      | (apply eq_s; exact rfl)
      | (apply eq_sl; exact rfl; exact Stop.mk (by with_reducible rfl))
      | (apply eq_sl; exact rfl)
      | (apply eq_row; exact rfl; exact Stop.mk (by with_reducible rfl))
      | (apply eq_row; exact rfl)
      | (apply eq_agg; exact rfl)
      | (apply eq_cons; exact rfl)
      | (apply eq_boxo; exact rfl)
      | (apply cell_agg; exact rfl; exact rfl; exact rfl)
      | (apply cell_one; exact rfl; exact rfl)
      | exact rfl
      | trivial
      )
    refine Stop.mk ?_
    first
      | done
      | (rw [Bool.eq_iff_iff]; simp [inB] at *; omega)
      | (rw [Bool.eq_iff_iff]; simp [inB] at *; done)
      | (rw [Bool.eq_iff_iff]; simp [inB] at *; simp [*]; done)
      | (rw [Bool.eq_iff_iff]; simp [inB] at *; simp [*]; omega)
      | (rw [Bool.eq_iff_iff]; simp [inB] at *; simp [*]; intros; omega)
set_option maxRecDepth 100000 in
theorem vecOk_s {v : V3} : ACalls Try.prog 93 [vecA v] [.d (.b (vecOkB v))] [] := by
  refine acalls_of tt Try.func93 rfl rfl rfl (fun w0 Z => ?_)
  repeat' (first
    | apply awp_seq
    | (apply awp_regionN; exact rfl)
    | (refine Hb.mk (fun hb => ?_); (first | rw [inB_t] at hb | rw [inB_f] at hb | rw [inB_nt] at hb | rw [inB_nf] at hb | rw [decide_eq_true_eq] at hb | rw [decide_eq_false_iff_not] at hb | rw [beq_iff_eq] at hb | rw [beq_eq_false_iff_ne] at hb | rw [Bool.not_eq_true'] at hb | rw [Bool.not_eq_false'] at hb | rw [bne_iff_ne] at hb | rw [bne_eq_false_iff_eq] at hb | skip); (first | (exfalso; omega) | (exact absurd rfl hb) | skip))
    | (apply aopG_ok; exact rfl)
    | apply ops_nil
    | (apply awp_cond_t; exact rfl)
    | (apply awp_cond_f; exact rfl)
    | (apply cond_x; exact rfl)
    | apply awp_block
    | apply awp_skip
    | apply awp_exit
    | apply awp_ret'
    | (first | (apply ops_cons; exact rfl) | (apply ops_yes; exact rfl; exact rfl; exact rfl))
    | (apply ops_x; exact rfl; exact rfl; (fail_if_success exact (rfl : _ = AV.d (.b true))); (fail_if_success exact (rfl : _ = AV.d (.b false))); exact rfl)
    | (apply op_id; first | refine st_call (res_s) rfl rfl rfl rfl rfl ?_)
    )
  all_goals
    refine Stop.mk ?_
    refine ret_intro [] rfl rfl ?_ ?_
    repeat' (first
      | apply And.intro
      | (apply eq_b; exact rfl; exact Stop.mk (by with_reducible rfl))
      | (apply eq_b; exact rfl)
      | (apply eq_n; exact rfl; exact Stop.mk (by first | with_reducible rfl | omega))
      | (apply eq_n; exact rfl)
      | (apply eq_s; exact rfl; exact Stop.mk (by with_reducible rfl))
      | (apply eq_s; exact rfl)
      | (apply eq_sl; exact rfl; exact Stop.mk (by with_reducible rfl))
      | (apply eq_sl; exact rfl)
      | (apply eq_row; exact rfl; exact Stop.mk (by with_reducible rfl))
      | (apply eq_row; exact rfl)
      | (apply eq_agg; exact rfl)
      | (apply eq_cons; exact rfl)
      | (apply eq_boxo; exact rfl)
      | (apply cell_agg; exact rfl; exact rfl; exact rfl)
      | (apply cell_one; exact rfl; exact rfl)
      | exact rfl
      | trivial
      )
    refine Stop.mk ?_
    first
      | done
      | (rw [Bool.eq_iff_iff]; simp [vecOkB, inB] at *; omega)
      | (rw [Bool.eq_iff_iff]; simp [vecOkB, inB] at *; done)
      | (rw [Bool.eq_iff_iff]; simp [vecOkB, inB] at *; simp [*]; done)
      | (rw [Bool.eq_iff_iff]; simp [vecOkB, inB] at *; simp [*]; omega)
      | (rw [Bool.eq_iff_iff]; simp [vecOkB, inB] at *; simp [*]; intros; omega)
set_option maxRecDepth 100000 in
theorem jobOk_s {j : Job} : ACalls Try.prog 92 [jobA j] [.d (.b (jobOkB j))] [] := by
  refine acalls_of tt Try.func92 rfl rfl rfl (fun w0 Z => ?_)
  repeat' (first
    | apply awp_seq
    | (apply awp_regionN; exact rfl)
    | (refine Hb.mk (fun hb => ?_); (first | rw [inB_t] at hb | rw [inB_f] at hb | rw [inB_nt] at hb | rw [inB_nf] at hb | rw [decide_eq_true_eq] at hb | rw [decide_eq_false_iff_not] at hb | rw [beq_iff_eq] at hb | rw [beq_eq_false_iff_ne] at hb | rw [Bool.not_eq_true'] at hb | rw [Bool.not_eq_false'] at hb | rw [bne_iff_ne] at hb | rw [bne_eq_false_iff_eq] at hb | skip); (first | (exfalso; omega) | (exact absurd rfl hb) | skip))
    | (apply aopG_ok; exact rfl)
    | apply ops_nil
    | (apply awp_cond_t; exact rfl)
    | (apply awp_cond_f; exact rfl)
    | (apply cond_x; exact rfl)
    | apply awp_block
    | apply awp_skip
    | apply awp_exit
    | apply awp_ret'
    | (first | (apply ops_cons; exact rfl) | (apply ops_yes; exact rfl; exact rfl; exact rfl))
    | (apply ops_x; exact rfl; exact rfl; (fail_if_success exact (rfl : _ = AV.d (.b true))); (fail_if_success exact (rfl : _ = AV.d (.b false))); exact rfl)
    | (apply op_id; first | refine st_call (vecOk_s (v := j.need)) rfl rfl rfl rfl rfl ?_ | refine st_call (vecOk_s (v := j.lic)) rfl rfl rfl rfl rfl ?_)
    )
  all_goals
    refine Stop.mk ?_
    refine ret_intro [] rfl rfl ?_ ?_
    repeat' (first
      | apply And.intro
      | (apply eq_b; exact rfl; exact Stop.mk (by with_reducible rfl))
      | (apply eq_b; exact rfl)
      | (apply eq_n; exact rfl; exact Stop.mk (by first | with_reducible rfl | omega))
      | (apply eq_n; exact rfl)
      | (apply eq_s; exact rfl; exact Stop.mk (by with_reducible rfl))
      | (apply eq_s; exact rfl)
      | (apply eq_sl; exact rfl; exact Stop.mk (by with_reducible rfl))
      | (apply eq_sl; exact rfl)
      | (apply eq_row; exact rfl; exact Stop.mk (by with_reducible rfl))
      | (apply eq_row; exact rfl)
      | (apply eq_agg; exact rfl)
      | (apply eq_cons; exact rfl)
      | (apply eq_boxo; exact rfl)
      | (apply cell_agg; exact rfl; exact rfl; exact rfl)
      | (apply cell_one; exact rfl; exact rfl)
      | exact rfl
      | trivial
      )
    refine Stop.mk ?_
    first
      | done
      | (rw [Bool.eq_iff_iff]; simp [jobOkB, vecOkB, inB] at *; omega)
      | (rw [Bool.eq_iff_iff]; simp [jobOkB, vecOkB, inB] at *; done)
      | (rw [Bool.eq_iff_iff]; simp [jobOkB, vecOkB, inB] at *; simp [*]; done)
      | (rw [Bool.eq_iff_iff]; simp [jobOkB, vecOkB, inB] at *; simp [*]; omega)
      | (rw [Bool.eq_iff_iff]; simp [jobOkB, vecOkB, inB] at *; simp [*]; intros; omega)
set_option maxRecDepth 100000 in
set_option maxHeartbeats 1000000 in
set_option maxRecDepth 100000 in
theorem cmdOk_e {c : Cmd} : ACalls Try.prog 37 [cmdA c] [.d (.b (cmdOkB c))] [] := by
  refine acalls_of tt Try.func37 rfl rfl rfl (fun w0 Z => ?_)
  repeat' (first
    | apply awp_seq
    | (apply awp_regionN; exact rfl)
    | (refine Hb.mk (fun hb => ?_); (first | rw [inB_t] at hb | rw [inB_f] at hb | rw [inB_nt] at hb | rw [inB_nf] at hb | rw [decide_eq_true_eq] at hb | rw [decide_eq_false_iff_not] at hb | rw [beq_iff_eq] at hb | rw [beq_eq_false_iff_ne] at hb | rw [Bool.not_eq_true'] at hb | rw [Bool.not_eq_false'] at hb | rw [bne_iff_ne] at hb | rw [bne_eq_false_iff_eq] at hb | skip); (first | (exfalso; omega) | (exact absurd rfl hb) | skip))
    | (apply aopG_ok; exact rfl)
    | apply ops_nil
    | (apply awp_cond_t; exact rfl)
    | (apply awp_cond_f; exact rfl)
    | (apply cond_x; exact rfl)
    | apply awp_block
    | apply awp_skip
    | apply awp_exit
    | apply awp_ret'
    | (first | (apply ops_cons; exact rfl) | (apply ops_yes; exact rfl; exact rfl; exact rfl))
    | (apply ops_x; exact rfl; exact rfl; (fail_if_success exact (rfl : _ = AV.d (.b true))); (fail_if_success exact (rfl : _ = AV.d (.b false))); exact rfl)
    | (apply op_id; first | refine st_call (within_c) rfl rfl rfl rfl rfl ?_ | refine st_call (isTime_c2) rfl rfl rfl rfl rfl ?_ | refine st_call (vecOk_e (v := c.lic)) rfl rfl rfl rfl rfl ?_ | refine st_call (jobOk_e (j := c.job)) rfl rfl rfl rfl rfl ?_ | (apply qok_q; exact rfl))
    | (apply q_id; first | refine zk23 rfl rfl rfl rfl rfl rfl ?_ | refine zk28 ns_ok rfl rfl rfl rfl rfl rfl rfl rfl ?_)
    )
  all_goals
    refine Stop.mk ?_
    refine ret_intro [] rfl rfl ?_ ?_
    repeat' (first
      | apply And.intro
      | (apply eq_b; exact rfl; exact Stop.mk (by with_reducible rfl))
      | (apply eq_b; exact rfl)
      | (apply eq_n; exact rfl; exact Stop.mk (by first | with_reducible rfl | omega))
      | (apply eq_n; exact rfl)
      | (apply eq_s; exact rfl; exact Stop.mk (by with_reducible rfl))
      | (apply eq_s; exact rfl)
      | (apply eq_sl; exact rfl; exact Stop.mk (by with_reducible rfl))
      | (apply eq_sl; exact rfl)
      | (apply eq_row; exact rfl; exact Stop.mk (by with_reducible rfl))
      | (apply eq_row; exact rfl)
      | (apply eq_agg; exact rfl)
      | (apply eq_cons; exact rfl)
      | (apply eq_boxo; exact rfl)
      | (apply cell_agg; exact rfl; exact rfl; exact rfl)
      | (apply cell_one; exact rfl; exact rfl)
      | exact rfl
      | trivial
      )
    refine Stop.mk ?_
    first
      | done
      | (rw [Bool.eq_iff_iff]; simp [cmdOkB, jobOkB, vecOkB, jobNo, vecNo, inB] at *; omega)
      | (rw [Bool.eq_iff_iff]; simp [cmdOkB, jobOkB, vecOkB, jobNo, vecNo, inB] at *; done)
      | (rw [Bool.eq_iff_iff]; simp [cmdOkB, jobOkB, vecOkB, jobNo, vecNo, inB] at *; simp [*]; done)
      | (rw [Bool.eq_iff_iff]; simp [cmdOkB, jobOkB, vecOkB, jobNo, vecNo, inB] at *; simp [*]; omega)
      | (rw [Bool.eq_iff_iff]; simp [cmdOkB, jobOkB, vecOkB, jobNo, vecNo, inB] at *; simp [*]; intros; omega)
set_option maxRecDepth 100000 in
set_option maxHeartbeats 1000000 in
set_option maxRecDepth 100000 in
theorem cmdOk_s {c : Cmd} : ACalls Try.prog 35 [cmdA c] [.d (.b (cmdOkB c))] [] := by
  refine acalls_of tt Try.func35 rfl rfl rfl (fun w0 Z => ?_)
  repeat' (first
    | apply awp_seq
    | (apply awp_regionN; exact rfl)
    | (refine Hb.mk (fun hb => ?_); (first | rw [inB_t] at hb | rw [inB_f] at hb | rw [inB_nt] at hb | rw [inB_nf] at hb | rw [decide_eq_true_eq] at hb | rw [decide_eq_false_iff_not] at hb | rw [beq_iff_eq] at hb | rw [beq_eq_false_iff_ne] at hb | rw [Bool.not_eq_true'] at hb | rw [Bool.not_eq_false'] at hb | rw [bne_iff_ne] at hb | rw [bne_eq_false_iff_eq] at hb | skip); (first | (exfalso; omega) | (exact absurd rfl hb) | skip))
    | (apply aopG_ok; exact rfl)
    | apply ops_nil
    | (apply awp_cond_t; exact rfl)
    | (apply awp_cond_f; exact rfl)
    | (apply cond_x; exact rfl)
    | apply awp_block
    | apply awp_skip
    | apply awp_exit
    | apply awp_ret'
    | (first | (apply ops_cons; exact rfl) | (apply ops_yes; exact rfl; exact rfl; exact rfl))
    | (apply ops_x; exact rfl; exact rfl; (fail_if_success exact (rfl : _ = AV.d (.b true))); (fail_if_success exact (rfl : _ = AV.d (.b false))); exact rfl)
    | (apply op_id; first | refine st_call (time_s) rfl rfl rfl rfl rfl ?_ | refine st_call (vecOk_s (v := c.lic)) rfl rfl rfl rfl rfl ?_ | refine st_call (jobOk_s (j := c.job)) rfl rfl rfl rfl rfl ?_ | (apply qok_q; exact rfl))
    | (apply q_id; first | refine zk23 rfl rfl rfl rfl rfl rfl ?_ | refine zk28 ns_ok rfl rfl rfl rfl rfl rfl rfl rfl ?_)
    )
  all_goals
    refine Stop.mk ?_
    refine ret_intro [] rfl rfl ?_ ?_
    repeat' (first
      | apply And.intro
      | (apply eq_b; exact rfl; exact Stop.mk (by with_reducible rfl))
      | (apply eq_b; exact rfl)
      | (apply eq_n; exact rfl; exact Stop.mk (by first | with_reducible rfl | omega))
      | (apply eq_n; exact rfl)
      | (apply eq_s; exact rfl; exact Stop.mk (by with_reducible rfl))
      | (apply eq_s; exact rfl)
      | (apply eq_sl; exact rfl; exact Stop.mk (by with_reducible rfl))
      | (apply eq_sl; exact rfl)
      | (apply eq_row; exact rfl; exact Stop.mk (by with_reducible rfl))
      | (apply eq_row; exact rfl)
      | (apply eq_agg; exact rfl)
      | (apply eq_cons; exact rfl)
      | (apply eq_boxo; exact rfl)
      | (apply cell_agg; exact rfl; exact rfl; exact rfl)
      | (apply cell_one; exact rfl; exact rfl)
      | exact rfl
      | trivial
      )
    refine Stop.mk ?_
    first
      | done
      | (rw [Bool.eq_iff_iff]; simp [cmdOkB, jobOkB, vecOkB, jobNo, vecNo, inB] at *; omega)
      | (rw [Bool.eq_iff_iff]; simp [cmdOkB, jobOkB, vecOkB, jobNo, vecNo, inB] at *; done)
      | (rw [Bool.eq_iff_iff]; simp [cmdOkB, jobOkB, vecOkB, jobNo, vecNo, inB] at *; simp [*]; done)
      | (rw [Bool.eq_iff_iff]; simp [cmdOkB, jobOkB, vecOkB, jobNo, vecNo, inB] at *; simp [*]; omega)
      | (rw [Bool.eq_iff_iff]; simp [cmdOkB, jobOkB, vecOkB, jobNo, vecNo, inB] at *; simp [*]; intros; omega)
end Go.Proofs.Ythmajaeekkbnnaa
