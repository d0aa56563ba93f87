/-
  Draws: jobs, commands, steps.
-/
import Derived.Test.YthmajaeekkbnnaaDrA
import Derived.Test.YthmajaeekkbnnaaTxO
namespace Go.Proofs.Ythmajaeekkbnnaa
open Go Go.RowKit
attribute [local irreducible] AWp OpsOk OpOk ACalls ChA QsOk MCalls

set_option maxRecDepth 100000 in
set_option maxHeartbeats 4000000 in
theorem l01Vec_c {b : List UInt8} {i h : Int} (hL : b.length ≤ 1048576) (hI : 0 ≤ i ∧ i ≤ b.length) : MCalls Try.prog 142 [.ptr 1000000 0] [(1000000, curO b i h)] (fun (x : V3 × Int × Int) => match x with | (_, p, _) => 0 ≤ p ∧ p ≤ b.length) (fun x => match x with | (v, _, _) => [vecA v]) (fun x => match x with | (_, p, q) => [(1000000, curO b p q)]) (fun _ => []) := by
  refine mcalls_of tt Try.func142 rfl rfl rfl ⟨rfl, trivial⟩ (fun _ _ => ⟨⟨⟨rfl, rfl, rfl⟩, trivial⟩, rfl, trivial⟩) (fun w0 Z O => ?_)
  repeat' (first
    | apply awp_seq
    | (apply awp_regionN; exact rfl)
    | (apply aopG_ok; exact rfl)
    | apply ops_nil
    | (apply awp_cond_t; exact rfl)
    | (apply awp_cond_f; exact rfl)
    | ((apply awp_cond; exact rfl) <;> intro hb <;> (first | rw [inB_t] at hb | rw [inB_f] at hb | rw [inB_nt] at hb | rw [inB_nf] at hb | rw [decide_eq_true_eq] at hb | rw [decide_eq_false_iff_not] at hb | rw [beq_iff_eq] at hb | rw [beq_eq_false_iff_ne] at hb | rw [Bool.not_eq_true'] at hb | rw [Bool.not_eq_false'] at hb | rw [bne_iff_ne] at hb | rw [bne_eq_false_iff_eq] at hb | skip) <;> (first | (exfalso; omega) | (exact absurd rfl hb) | skip))
    | apply awp_block
    | apply awp_skip
    | apply awp_exit
    | apply awp_ret'
    | ((first | (apply ops_cons; exact rfl) | (apply ops_yes; exact rfl; exact rfl; exact rfl)); first | (apply QOk.ok; first | refine st_subn rfl rfl rfl (by first | with_reducible rfl | exact nlit _ | exact (Int.toNat_of_nonneg (by omega)).symm | rfl) rfl (by first | with_reducible rfl | exact nlit _ | exact (Int.toNat_of_nonneg (by omega)).symm | rfl) (by omega) rfl ?_ | refine st_sub rfl rfl rfl rfl (by omega) rfl ?_ | refine st_sub8 rfl rfl rfl rfl (by omega) rfl ?_ | refine st_build rfl rfl rfl rfl rfl rfl ?_ | refine st_eqagg ns_ok (by kernel_rfl) rfl rfl rfl rfl rfl rfl rfl rfl ?_) | refine st_callm [1000000] (l01Below_c hL (by omega)) rfl rfl rfl rfl rfl (fun _ _ => rfl) rfl (fun i hi => ?_); obtain ⟨iv, ip, ih⟩ := i; (try dsimp only at hi))
    | ((apply ops_gsplit; exact rfl; exact rfl; (fail_if_success exact (rfl : _ = AV.d (.b true))); (fail_if_success exact (rfl : _ = AV.d (.b false))); exact rfl) <;> intro hb <;> (first | rw [inB_t] at hb | rw [inB_f] at hb | rw [inB_nt] at hb | rw [inB_nf] at hb | rw [decide_eq_true_eq] at hb | rw [decide_eq_false_iff_not] at hb | rw [beq_iff_eq] at hb | rw [beq_eq_false_iff_ne] at hb | rw [Bool.not_eq_true'] at hb | rw [Bool.not_eq_false'] at hb | rw [bne_iff_ne] at hb | rw [bne_eq_false_iff_eq] at hb | skip) <;> (first | (exfalso; omega) | (exact absurd rfl hb) | skip))
    )
  all_goals
    refine Stop.mk ?_
    refine' retM_x ⟨⟨_, _, _⟩, _, _⟩ _ [] rfl ?_
    any_goals refine RetG.mk ?_ ?_ ?_ ?_ ?_
    any_goals (refine Later.mk ?_; (try dsimp only [vecA, jobA, cmdA, stepA]); exact rfl)
    repeat' (first
      | apply And.intro
      | (apply eq_b; exact rfl; exact Stop.mk (by with_reducible rfl))
      | (apply eq_b; exact rfl)
      | (apply eq_n; exact rfl; exact Stop.mk (by first | with_reducible rfl | omega))
      | (apply eq_n; exact rfl)
      | (apply eq_s; exact rfl; exact Stop.mk (by with_reducible rfl))
      | (apply eq_s; exact rfl)
      | (apply eq_sl; exact rfl; exact Stop.mk (by with_reducible rfl))
      | (apply eq_sl; exact rfl)
      | (apply eq_row; exact rfl; exact Stop.mk (by with_reducible rfl))
      | (apply eq_row; exact rfl)
      | (apply eq_agg; exact rfl)
      | (apply eq_cons; exact rfl)
      | (apply eq_boxo; exact rfl)
      | (apply cell_agg; exact rfl; exact rfl; exact rfl)
      | (apply cell_one; exact rfl; exact rfl)
      | exact rfl
      | exact trivial
      )
    all_goals first | exact Stop.mk rfl | (refine Later.mk ?_; dsimp only; (try simp only [ncast]); (try simp only [Int.ofNat_eq_natCast]); omega)
set_option maxRecDepth 100000 in
set_option maxHeartbeats 4000000 in
theorem l01Any_c {b : List UInt8} {i h : Int} (hL : b.length ≤ 1048576) (hI : 0 ≤ i ∧ i ≤ b.length) : MCalls Try.prog 140 [.ptr 1000000 0] [(1000000, curO b i h)] (fun (x : V3 × Int × Int) => match x with | (_, p, _) => 0 ≤ p ∧ p ≤ b.length) (fun x => match x with | (v, _, _) => [vecA v]) (fun x => match x with | (_, p, q) => [(1000000, curO b p q)]) (fun _ => []) := by
  refine mcalls_of tt Try.func140 rfl rfl rfl ⟨rfl, trivial⟩ (fun _ _ => ⟨⟨⟨rfl, rfl, rfl⟩, trivial⟩, rfl, trivial⟩) (fun w0 Z O => ?_)
  repeat' (first
    | apply awp_seq
    | (apply awp_regionN; exact rfl)
    | (apply aopG_ok; exact rfl)
    | apply ops_nil
    | (apply awp_cond_t; exact rfl)
    | (apply awp_cond_f; exact rfl)
    | ((apply awp_cond; exact rfl) <;> intro hb <;> (first | rw [inB_t] at hb | rw [inB_f] at hb | rw [inB_nt] at hb | rw [inB_nf] at hb | rw [decide_eq_true_eq] at hb | rw [decide_eq_false_iff_not] at hb | rw [beq_iff_eq] at hb | rw [beq_eq_false_iff_ne] at hb | rw [Bool.not_eq_true'] at hb | rw [Bool.not_eq_false'] at hb | rw [bne_iff_ne] at hb | rw [bne_eq_false_iff_eq] at hb | skip) <;> (first | (exfalso; omega) | (exact absurd rfl hb) | skip))
    | apply awp_block
    | apply awp_skip
    | apply awp_exit
    | apply awp_ret'
    | ((first | (apply ops_cons; exact rfl) | (apply ops_yes; exact rfl; exact rfl; exact rfl)); first | (apply QOk.ok; first | refine st_eqagg ns_ok (by kernel_rfl) rfl rfl rfl rfl rfl rfl rfl rfl ?_) | refine st_callm [1000000] (l01Below_c hL (by omega)) rfl rfl rfl rfl rfl (fun _ _ => rfl) rfl (fun i hi => ?_); obtain ⟨iv, ip, ih⟩ := i; (try dsimp only at hi) | refine st_callm [1000000] (l01Raw_c hL (by omega)) rfl rfl rfl rfl rfl (fun _ _ => rfl) rfl (fun i hi => ?_); obtain ⟨iv, ip, ih⟩ := i; (try dsimp only at hi) | refine st_callm [1000000] (l01Vec_c hL (by omega)) rfl rfl rfl rfl rfl (fun _ _ => rfl) rfl (fun i hi => ?_); obtain ⟨iv, ip, ih⟩ := i; (try dsimp only at hi))
    | ((apply ops_gsplit; exact rfl; exact rfl; (fail_if_success exact (rfl : _ = AV.d (.b true))); (fail_if_success exact (rfl : _ = AV.d (.b false))); exact rfl) <;> intro hb <;> (first | rw [inB_t] at hb | rw [inB_f] at hb | rw [inB_nt] at hb | rw [inB_nf] at hb | rw [decide_eq_true_eq] at hb | rw [decide_eq_false_iff_not] at hb | rw [beq_iff_eq] at hb | rw [beq_eq_false_iff_ne] at hb | rw [Bool.not_eq_true'] at hb | rw [Bool.not_eq_false'] at hb | rw [bne_iff_ne] at hb | rw [bne_eq_false_iff_eq] at hb | skip) <;> (first | (exfalso; omega) | (exact absurd rfl hb) | skip))
    )
  all_goals
    refine Stop.mk ?_
    refine' retM_x ⟨⟨_, _, _⟩, _, _⟩ _ [] rfl ?_
    any_goals refine RetG.mk ?_ ?_ ?_ ?_ ?_
    any_goals (refine Later.mk ?_; (try dsimp only [vecA, jobA, cmdA, stepA]); exact rfl)
    repeat' (first
      | apply And.intro
      | (apply eq_b; exact rfl; exact Stop.mk (by with_reducible rfl))
      | (apply eq_b; exact rfl)
      | (apply eq_n; exact rfl; exact Stop.mk (by first | with_reducible rfl | omega))
      | (apply eq_n; exact rfl)
      | (apply eq_s; exact rfl; exact Stop.mk (by with_reducible rfl))
      | (apply eq_s; exact rfl)
      | (apply eq_sl; exact rfl; exact Stop.mk (by with_reducible rfl))
      | (apply eq_sl; exact rfl)
      | (apply eq_row; exact rfl; exact Stop.mk (by with_reducible rfl))
      | (apply eq_row; exact rfl)
      | (apply eq_agg; exact rfl)
      | (apply eq_cons; exact rfl)
      | (apply eq_boxo; exact rfl)
      | (apply cell_agg; exact rfl; exact rfl; exact rfl)
      | (apply cell_one; exact rfl; exact rfl)
      | exact rfl
      | exact trivial
      )
    all_goals first | exact Stop.mk rfl | (refine Later.mk ?_; dsimp only; (try simp only [ncast]); (try simp only [Int.ofNat_eq_natCast]); omega)
set_option maxRecDepth 100000 in
set_option maxHeartbeats 4000000 in
theorem l04Job_c {b : List UInt8} {i h : Int} (hL : b.length ≤ 1048576) (hI : 0 ≤ i ∧ i ≤ b.length) : MCalls Try.prog 141 [.ptr 1000000 0] [(1000000, curO b i h)] (fun (x : Job × Int × Int) => match x with | (_, p, _) => 0 ≤ p ∧ p ≤ b.length) (fun x => match x with | (v, _, _) => [jobA v]) (fun x => match x with | (_, p, q) => [(1000000, curO b p q)]) (fun _ => []) := by
  refine mcalls_of tt Try.func141 rfl rfl rfl ⟨rfl, trivial⟩ (fun _ _ => ⟨⟨⟨rfl, rfl, rfl⟩, trivial⟩, rfl, trivial⟩) (fun w0 Z O => ?_)
  repeat' (first
    | apply awp_seq
    | (apply awp_regionN; exact rfl)
    | (apply aopG_ok; exact rfl)
    | apply ops_nil
    | (apply awp_cond_t; exact rfl)
    | (apply awp_cond_f; exact rfl)
    | ((apply awp_cond; exact rfl) <;> intro hb <;> (first | rw [inB_t] at hb | rw [inB_f] at hb | rw [inB_nt] at hb | rw [inB_nf] at hb | rw [decide_eq_true_eq] at hb | rw [decide_eq_false_iff_not] at hb | rw [beq_iff_eq] at hb | rw [beq_eq_false_iff_ne] at hb | rw [Bool.not_eq_true'] at hb | rw [Bool.not_eq_false'] at hb | rw [bne_iff_ne] at hb | rw [bne_eq_false_iff_eq] at hb | skip) <;> (first | (exfalso; omega) | (exact absurd rfl hb) | skip))
    | apply awp_block
    | apply awp_skip
    | apply awp_exit
    | apply awp_ret'
    | ((first | (apply ops_cons; exact rfl) | (apply ops_yes; exact rfl; exact rfl; exact rfl)); first | (apply QOk.ok; first | refine st_addn rfl rfl rfl (by first | with_reducible rfl | exact nlit _ | exact (Int.toNat_of_nonneg (by omega)).symm | rfl) rfl (by first | with_reducible rfl | exact nlit _ | exact (Int.toNat_of_nonneg (by omega)).symm | rfl) (by omega) rfl ?_ | refine st_quon rfl rfl rfl (by first | with_reducible rfl | exact nlit _ | exact (Int.toNat_of_nonneg (by omega)).symm | rfl) rfl (by first | with_reducible rfl | exact nlit _ | exact (Int.toNat_of_nonneg (by omega)).symm | rfl) (by omega) rfl ?_ | refine st_add rfl rfl rfl rfl (by omega) rfl ?_ | refine st_quo rfl rfl rfl rfl (by omega) rfl ?_ | refine st_catn rfl rfl rfl rfl (by first | omega | (simp only [List.length_cons, List.length_nil]; omega) | (simp only [List.length_append]; omega) | (simp only [List.length_append, List.length_cons, List.length_nil]; omega)) rfl ?_ | refine st_build rfl rfl rfl rfl rfl rfl ?_ | refine st_eqagg ns_ok (by kernel_rfl) rfl rfl rfl rfl rfl rfl rfl rfl ?_) | refine st_callm [1000000] (l01Below_c hL (by omega)) rfl rfl rfl rfl rfl (fun _ _ => rfl) rfl (fun i hi => ?_); obtain ⟨iv, ip, ih⟩ := i; (try dsimp only at hi))
    | ((apply ops_gsplit; exact rfl; exact rfl; (fail_if_success exact (rfl : _ = AV.d (.b true))); (fail_if_success exact (rfl : _ = AV.d (.b false))); exact rfl) <;> intro hb <;> (first | rw [inB_t] at hb | rw [inB_f] at hb | rw [inB_nt] at hb | rw [inB_nf] at hb | rw [decide_eq_true_eq] at hb | rw [decide_eq_false_iff_not] at hb | rw [beq_iff_eq] at hb | rw [beq_eq_false_iff_ne] at hb | rw [Bool.not_eq_true'] at hb | rw [Bool.not_eq_false'] at hb | rw [bne_iff_ne] at hb | rw [bne_eq_false_iff_eq] at hb | skip) <;> (first | (exfalso; omega) | (exact absurd rfl hb) | skip))
    )
  all_goals
    refine Stop.mk ?_
    refine' retM_x ⟨⟨_, _, _, ⟨_, _, _⟩, ⟨_, _, _⟩, _, _⟩, _, _⟩ _ [] rfl ?_
    any_goals refine RetG.mk ?_ ?_ ?_ ?_ ?_
    any_goals (refine Later.mk ?_; (try dsimp only [vecA, jobA, cmdA, stepA]); exact rfl)
    repeat' (first
      | apply And.intro
      | (apply eq_b; exact rfl; exact Stop.mk (by with_reducible rfl))
      | (apply eq_b; exact rfl)
      | (apply eq_n; exact rfl; exact Stop.mk (by first | with_reducible rfl | omega))
      | (apply eq_n; exact rfl)
      | (apply eq_s; exact rfl; exact Stop.mk (by with_reducible rfl))
      | (apply eq_s; exact rfl)
      | (apply eq_sl; exact rfl; exact Stop.mk (by with_reducible rfl))
      | (apply eq_sl; exact rfl)
      | (apply eq_row; exact rfl; exact Stop.mk (by with_reducible rfl))
      | (apply eq_row; exact rfl)
      | (apply eq_agg; exact rfl)
      | (apply eq_cons; exact rfl)
      | (apply eq_boxo; exact rfl)
      | (apply cell_agg; exact rfl; exact rfl; exact rfl)
      | (apply cell_one; exact rfl; exact rfl)
      | exact rfl
      | exact trivial
      )
    all_goals first | exact Stop.mk rfl | (refine Later.mk ?_; dsimp only; (try simp only [ncast]); (try simp only [Int.ofNat_eq_natCast]); omega)
set_option maxRecDepth 100000 in
set_option maxHeartbeats 4000000 in
theorem l04AnyJob_c {b : List UInt8} {i h : Int} (hL : b.length ≤ 1048576) (hI : 0 ≤ i ∧ i ≤ b.length) : MCalls Try.prog 139 [.ptr 1000000 0] [(1000000, curO b i h)] (fun (x : Job × Int × Int) => match x with | (_, p, _) => 0 ≤ p ∧ p ≤ b.length) (fun x => match x with | (v, _, _) => [jobA v]) (fun x => match x with | (_, p, q) => [(1000000, curO b p q)]) (fun _ => []) := by
  refine mcalls_of tt Try.func139 rfl rfl rfl ⟨rfl, trivial⟩ (fun _ _ => ⟨⟨⟨rfl, rfl, rfl⟩, trivial⟩, rfl, trivial⟩) (fun w0 Z O => ?_)
  repeat' (first
    | apply awp_seq
    | (apply awp_regionN; exact rfl)
    | (apply aopG_ok; exact rfl)
    | apply ops_nil
    | (apply awp_cond_t; exact rfl)
    | (apply awp_cond_f; exact rfl)
    | ((apply awp_cond; exact rfl) <;> intro hb <;> (first | rw [inB_t] at hb | rw [inB_f] at hb | rw [inB_nt] at hb | rw [inB_nf] at hb | rw [decide_eq_true_eq] at hb | rw [decide_eq_false_iff_not] at hb | rw [beq_iff_eq] at hb | rw [beq_eq_false_iff_ne] at hb | rw [Bool.not_eq_true'] at hb | rw [Bool.not_eq_false'] at hb | rw [bne_iff_ne] at hb | rw [bne_eq_false_iff_eq] at hb | skip) <;> (first | (exfalso; omega) | (exact absurd rfl hb) | skip))
    | apply awp_block
    | apply awp_skip
    | apply awp_exit
    | apply awp_ret'
    | ((first | (apply ops_cons; exact rfl) | (apply ops_yes; exact rfl; exact rfl; exact rfl)); first | (apply QOk.ok; first | refine st_eqagg ns_ok (by kernel_rfl) rfl rfl rfl rfl rfl rfl rfl rfl ?_) | refine st_callm [1000000] (l01Below_c hL (by omega)) rfl rfl rfl rfl rfl (fun _ _ => rfl) rfl (fun i hi => ?_); obtain ⟨iv, ip, ih⟩ := i; (try dsimp only at hi) | refine st_callm [1000000] (l01Raw_c hL (by omega)) rfl rfl rfl rfl rfl (fun _ _ => rfl) rfl (fun i hi => ?_); obtain ⟨iv, ip, ih⟩ := i; (try dsimp only at hi) | refine st_callm [1000000] (l01Any_c hL (by omega)) rfl rfl rfl rfl rfl (fun _ _ => rfl) rfl (fun i hi => ?_); obtain ⟨iv, ip, ih⟩ := i; (try dsimp only at hi) | refine st_callm [1000000] (l04Job_c hL (by omega)) rfl rfl rfl rfl rfl (fun _ _ => rfl) rfl (fun i hi => ?_); obtain ⟨iv, ip, ih⟩ := i; (try dsimp only at hi))
    | ((apply ops_gsplit; exact rfl; exact rfl; (fail_if_success exact (rfl : _ = AV.d (.b true))); (fail_if_success exact (rfl : _ = AV.d (.b false))); exact rfl) <;> intro hb <;> (first | rw [inB_t] at hb | rw [inB_f] at hb | rw [inB_nt] at hb | rw [inB_nf] at hb | rw [decide_eq_true_eq] at hb | rw [decide_eq_false_iff_not] at hb | rw [beq_iff_eq] at hb | rw [beq_eq_false_iff_ne] at hb | rw [Bool.not_eq_true'] at hb | rw [Bool.not_eq_false'] at hb | rw [bne_iff_ne] at hb | rw [bne_eq_false_iff_eq] at hb | skip) <;> (first | (exfalso; omega) | (exact absurd rfl hb) | skip))
    )
  all_goals
    refine Stop.mk ?_
    refine' retM_x ⟨⟨_, _, _, ⟨_, _, _⟩, ⟨_, _, _⟩, _, _⟩, _, _⟩ _ [] rfl ?_
    any_goals refine RetG.mk ?_ ?_ ?_ ?_ ?_
    any_goals (refine Later.mk ?_; (try dsimp only [vecA, jobA, cmdA, stepA]); exact rfl)
    repeat' (first
      | apply And.intro
      | (apply eq_b; exact rfl; exact Stop.mk (by with_reducible rfl))
      | (apply eq_b; exact rfl)
      | (apply eq_n; exact rfl; exact Stop.mk (by first | with_reducible rfl | omega))
      | (apply eq_n; exact rfl)
      | (apply eq_s; exact rfl; exact Stop.mk (by with_reducible rfl))
      | (apply eq_s; exact rfl)
      | (apply eq_sl; exact rfl; exact Stop.mk (by with_reducible rfl))
      | (apply eq_sl; exact rfl)
      | (apply eq_row; exact rfl; exact Stop.mk (by with_reducible rfl))
      | (apply eq_row; exact rfl)
      | (apply eq_agg; exact rfl)
      | (apply eq_cons; exact rfl)
      | (apply eq_boxo; exact rfl)
      | (apply cell_agg; exact rfl; exact rfl; exact rfl)
      | (apply cell_one; exact rfl; exact rfl)
      | exact rfl
      | exact trivial
      )
    all_goals first | exact Stop.mk rfl | (refine Later.mk ?_; dsimp only; (try simp only [ncast]); (try simp only [Int.ofNat_eq_natCast]); omega)
set_option maxRecDepth 100000 in
set_option maxHeartbeats 4000000 in
theorem l08Cmd_c {b : List UInt8} {i h : Int} (hL : b.length ≤ 1048576) (hI : 0 ≤ i ∧ i ≤ b.length) : MCalls Try.prog 138 [.ptr 1000000 0] [(1000000, curO b i h)] (fun (x : Cmd × Int × Int) => match x with | (_, p, _) => 0 ≤ p ∧ p ≤ b.length) (fun x => match x with | (v, _, _) => [cmdA v]) (fun x => match x with | (_, p, q) => [(1000000, curO b p q)]) (fun _ => []) := by
  refine mcalls_of tt Try.func138 rfl rfl rfl ⟨rfl, trivial⟩ (fun _ _ => ⟨⟨⟨rfl, rfl, rfl⟩, trivial⟩, rfl, trivial⟩) (fun w0 Z O => ?_)
  repeat' (first
    | apply awp_seq
    | (apply awp_regionN; exact rfl)
    | (apply aopG_ok; exact rfl)
    | apply ops_nil
    | (apply awp_cond_t; exact rfl)
    | (apply awp_cond_f; exact rfl)
    | ((apply awp_cond; exact rfl) <;> intro hb <;> (first | rw [inB_t] at hb | rw [inB_f] at hb | rw [inB_nt] at hb | rw [inB_nf] at hb | rw [decide_eq_true_eq] at hb | rw [decide_eq_false_iff_not] at hb | rw [beq_iff_eq] at hb | rw [beq_eq_false_iff_ne] at hb | rw [Bool.not_eq_true'] at hb | rw [Bool.not_eq_false'] at hb | rw [bne_iff_ne] at hb | rw [bne_eq_false_iff_eq] at hb | skip) <;> (first | (exfalso; omega) | (exact absurd rfl hb) | skip))
    | apply awp_block
    | apply awp_skip
    | apply awp_exit
    | apply awp_ret'
    | ((first | (apply ops_cons; exact rfl) | (apply ops_yes; exact rfl; exact rfl; exact rfl)); first | (apply QOk.ok; first | refine st_addn rfl rfl rfl (by first | with_reducible rfl | exact nlit _ | exact (Int.toNat_of_nonneg (by omega)).symm | rfl) rfl (by first | with_reducible rfl | exact nlit _ | exact (Int.toNat_of_nonneg (by omega)).symm | rfl) (by omega) rfl ?_ | refine st_add rfl rfl rfl rfl (by omega) rfl ?_ | refine st_catn rfl rfl rfl rfl (by first | omega | (simp only [List.length_cons, List.length_nil]; omega) | (simp only [List.length_append]; omega) | (simp only [List.length_append, List.length_cons, List.length_nil]; omega)) rfl ?_ | refine st_build rfl rfl rfl rfl rfl rfl ?_ | refine st_eqagg ns_ok (by kernel_rfl) rfl rfl rfl rfl rfl rfl rfl rfl ?_) | refine st_callm [1000000] (l01Below_c hL (by omega)) rfl rfl rfl rfl rfl (fun _ _ => rfl) rfl (fun i hi => ?_); obtain ⟨iv, ip, ih⟩ := i; (try dsimp only at hi) | refine st_callm [1000000] (l04Job_c hL (by omega)) rfl rfl rfl rfl rfl (fun _ _ => rfl) rfl (fun i hi => ?_); obtain ⟨iv, ip, ih⟩ := i; (try dsimp only at hi))
    | ((apply ops_gsplit; exact rfl; exact rfl; (fail_if_success exact (rfl : _ = AV.d (.b true))); (fail_if_success exact (rfl : _ = AV.d (.b false))); exact rfl) <;> intro hb <;> (first | rw [inB_t] at hb | rw [inB_f] at hb | rw [inB_nt] at hb | rw [inB_nf] at hb | rw [decide_eq_true_eq] at hb | rw [decide_eq_false_iff_not] at hb | rw [beq_iff_eq] at hb | rw [beq_eq_false_iff_ne] at hb | rw [Bool.not_eq_true'] at hb | rw [Bool.not_eq_false'] at hb | rw [bne_iff_ne] at hb | rw [bne_eq_false_iff_eq] at hb | skip) <;> (first | (exfalso; omega) | (exact absurd rfl hb) | skip))
    )
  all_goals
    refine Stop.mk ?_
    refine' retM_x ⟨⟨_, ⟨_, _, _, ⟨_, _, _⟩, ⟨_, _, _⟩, _, _⟩, _, ⟨_, _, _⟩⟩, _, _⟩ _ [] rfl ?_
    any_goals refine RetG.mk ?_ ?_ ?_ ?_ ?_
    any_goals (refine Later.mk ?_; (try dsimp only [vecA, jobA, cmdA, stepA]); exact rfl)
    repeat' (first
      | apply And.intro
      | (apply eq_b; exact rfl; exact Stop.mk (by with_reducible rfl))
      | (apply eq_b; exact rfl)
      | (apply eq_n; exact rfl; exact Stop.mk (by first | with_reducible rfl | omega))
      | (apply eq_n; exact rfl)
      | (apply eq_s; exact rfl; exact Stop.mk (by with_reducible rfl))
      | (apply eq_s; exact rfl)
      | (apply eq_sl; exact rfl; exact Stop.mk (by with_reducible rfl))
      | (apply eq_sl; exact rfl)
      | (apply eq_row; exact rfl; exact Stop.mk (by with_reducible rfl))
      | (apply eq_row; exact rfl)
      | (apply eq_agg; exact rfl)
      | (apply eq_cons; exact rfl)
      | (apply eq_boxo; exact rfl)
      | (apply cell_agg; exact rfl; exact rfl; exact rfl)
      | (apply cell_one; exact rfl; exact rfl)
      | exact rfl
      | exact trivial
      )
    all_goals first | exact Stop.mk rfl | (refine Later.mk ?_; dsimp only; (try simp only [ncast]); (try simp only [Int.ofNat_eq_natCast]); omega)
set_option maxRecDepth 100000 in
set_option maxHeartbeats 4000000 in
theorem l08AnyCmd_c {b : List UInt8} {i h : Int} (hL : b.length ≤ 1048576) (hI : 0 ≤ i ∧ i ≤ b.length) : MCalls Try.prog 122 [.ptr 1000000 0] [(1000000, curO b i h)] (fun (x : Cmd × Int × Int) => match x with | (_, p, _) => 0 ≤ p ∧ p ≤ b.length) (fun x => match x with | (v, _, _) => [cmdA v]) (fun x => match x with | (_, p, q) => [(1000000, curO b p q)]) (fun _ => []) := by
  refine mcalls_of tt Try.func122 rfl rfl rfl ⟨rfl, trivial⟩ (fun _ _ => ⟨⟨⟨rfl, rfl, rfl⟩, trivial⟩, rfl, trivial⟩) (fun w0 Z O => ?_)
  repeat' (first
    | apply awp_seq
    | (apply awp_regionN; exact rfl)
    | (apply aopG_ok; exact rfl)
    | apply ops_nil
    | (apply awp_cond_t; exact rfl)
    | (apply awp_cond_f; exact rfl)
    | ((apply awp_cond; exact rfl) <;> intro hb <;> (first | rw [inB_t] at hb | rw [inB_f] at hb | rw [inB_nt] at hb | rw [inB_nf] at hb | rw [decide_eq_true_eq] at hb | rw [decide_eq_false_iff_not] at hb | rw [beq_iff_eq] at hb | rw [beq_eq_false_iff_ne] at hb | rw [Bool.not_eq_true'] at hb | rw [Bool.not_eq_false'] at hb | rw [bne_iff_ne] at hb | rw [bne_eq_false_iff_eq] at hb | skip) <;> (first | (exfalso; omega) | (exact absurd rfl hb) | skip))
    | apply awp_block
    | apply awp_skip
    | apply awp_exit
    | apply awp_ret'
    | ((first | (apply ops_cons; exact rfl) | (apply ops_yes; exact rfl; exact rfl; exact rfl)); first | (apply QOk.ok; first | refine st_eqagg ns_ok (by kernel_rfl) rfl rfl rfl rfl rfl rfl rfl rfl ?_) | refine st_callm [1000000] (l01Below_c hL (by omega)) rfl rfl rfl rfl rfl (fun _ _ => rfl) rfl (fun i hi => ?_); obtain ⟨iv, ip, ih⟩ := i; (try dsimp only at hi) | refine st_callm [1000000] (l01Raw_c hL (by omega)) rfl rfl rfl rfl rfl (fun _ _ => rfl) rfl (fun i hi => ?_); obtain ⟨iv, ip, ih⟩ := i; (try dsimp only at hi) | refine st_callm [1000000] (l01Any_c hL (by omega)) rfl rfl rfl rfl rfl (fun _ _ => rfl) rfl (fun i hi => ?_); obtain ⟨iv, ip, ih⟩ := i; (try dsimp only at hi) | refine st_callm [1000000] (l04AnyJob_c hL (by omega)) rfl rfl rfl rfl rfl (fun _ _ => rfl) rfl (fun i hi => ?_); obtain ⟨iv, ip, ih⟩ := i; (try dsimp only at hi) | refine st_callm [1000000] (l08Cmd_c hL (by omega)) rfl rfl rfl rfl rfl (fun _ _ => rfl) rfl (fun i hi => ?_); obtain ⟨iv, ip, ih⟩ := i; (try dsimp only at hi))
    | ((apply ops_gsplit; exact rfl; exact rfl; (fail_if_success exact (rfl : _ = AV.d (.b true))); (fail_if_success exact (rfl : _ = AV.d (.b false))); exact rfl) <;> intro hb <;> (first | rw [inB_t] at hb | rw [inB_f] at hb | rw [inB_nt] at hb | rw [inB_nf] at hb | rw [decide_eq_true_eq] at hb | rw [decide_eq_false_iff_not] at hb | rw [beq_iff_eq] at hb | rw [beq_eq_false_iff_ne] at hb | rw [Bool.not_eq_true'] at hb | rw [Bool.not_eq_false'] at hb | rw [bne_iff_ne] at hb | rw [bne_eq_false_iff_eq] at hb | skip) <;> (first | (exfalso; omega) | (exact absurd rfl hb) | skip))
    )
  all_goals
    refine Stop.mk ?_
    refine' retM_x ⟨⟨_, ⟨_, _, _, ⟨_, _, _⟩, ⟨_, _, _⟩, _, _⟩, _, ⟨_, _, _⟩⟩, _, _⟩ _ [] rfl ?_
    any_goals refine RetG.mk ?_ ?_ ?_ ?_ ?_
    any_goals (refine Later.mk ?_; (try dsimp only [vecA, jobA, cmdA, stepA]); exact rfl)
    repeat' (first
      | apply And.intro
      | (apply eq_b; exact rfl; exact Stop.mk (by with_reducible rfl))
      | (apply eq_b; exact rfl)
      | (apply eq_n; exact rfl; exact Stop.mk (by first | with_reducible rfl | omega))
      | (apply eq_n; exact rfl)
      | (apply eq_s; exact rfl; exact Stop.mk (by with_reducible rfl))
      | (apply eq_s; exact rfl)
      | (apply eq_sl; exact rfl; exact Stop.mk (by with_reducible rfl))
      | (apply eq_sl; exact rfl)
      | (apply eq_row; exact rfl; exact Stop.mk (by with_reducible rfl))
      | (apply eq_row; exact rfl)
      | (apply eq_agg; exact rfl)
      | (apply eq_cons; exact rfl)
      | (apply eq_boxo; exact rfl)
      | (apply cell_agg; exact rfl; exact rfl; exact rfl)
      | (apply cell_one; exact rfl; exact rfl)
      | exact rfl
      | exact trivial
      )
    all_goals first | exact Stop.mk rfl | (refine Later.mk ?_; dsimp only; (try simp only [ncast]); (try simp only [Int.ofNat_eq_natCast]); omega)
set_option maxRecDepth 100000 in
set_option maxHeartbeats 4000000 in
theorem l09AnyStep_c {b : List UInt8} {i h : Int} (hL : b.length ≤ 1048576) (hI : 0 ≤ i ∧ i ≤ b.length) : MCalls Try.prog 132 [.ptr 1000000 0] [(1000000, curO b i h)] (fun (x : Step × Int × Int) => match x with | (_, p, _) => 0 ≤ p ∧ p ≤ b.length) (fun x => match x with | (v, _, _) => [stepA v]) (fun x => match x with | (_, p, q) => [(1000000, curO b p q)]) (fun _ => []) := by
  refine mcalls_of tt Try.func132 rfl rfl rfl ⟨rfl, trivial⟩ (fun _ _ => ⟨⟨⟨rfl, rfl, rfl⟩, trivial⟩, rfl, trivial⟩) (fun w0 Z O => ?_)
  repeat' (first
    | apply awp_seq
    | (apply awp_regionN; exact rfl)
    | (apply aopG_ok; exact rfl)
    | apply ops_nil
    | (apply awp_cond_t; exact rfl)
    | (apply awp_cond_f; exact rfl)
    | ((apply awp_cond; exact rfl) <;> intro hb <;> (first | rw [inB_t] at hb | rw [inB_f] at hb | rw [inB_nt] at hb | rw [inB_nf] at hb | rw [decide_eq_true_eq] at hb | rw [decide_eq_false_iff_not] at hb | rw [beq_iff_eq] at hb | rw [beq_eq_false_iff_ne] at hb | rw [Bool.not_eq_true'] at hb | rw [Bool.not_eq_false'] at hb | rw [bne_iff_ne] at hb | rw [bne_eq_false_iff_eq] at hb | skip) <;> (first | (exfalso; omega) | (exact absurd rfl hb) | skip))
    | apply awp_block
    | apply awp_skip
    | apply awp_exit
    | apply awp_ret'
    | ((first | (apply ops_cons; exact rfl) | (apply ops_yes; exact rfl; exact rfl; exact rfl)); first | (apply QOk.ok; first | refine st_addn rfl rfl rfl (by first | with_reducible rfl | exact nlit _ | exact (Int.toNat_of_nonneg (by omega)).symm | rfl) rfl (by first | with_reducible rfl | exact nlit _ | exact (Int.toNat_of_nonneg (by omega)).symm | rfl) (by omega) rfl ?_ | refine st_add rfl rfl rfl rfl (by omega) rfl ?_ | refine st_catn rfl rfl rfl rfl (by first | omega | (simp only [List.length_cons, List.length_nil]; omega) | (simp only [List.length_append]; omega) | (simp only [List.length_append, List.length_cons, List.length_nil]; omega)) rfl ?_ | refine st_build rfl rfl rfl rfl rfl rfl ?_ | refine st_eqagg ns_ok (by kernel_rfl) rfl rfl rfl rfl rfl rfl rfl rfl ?_) | refine st_callm [1000000] (l01Below_c hL (by omega)) rfl rfl rfl rfl rfl (fun _ _ => rfl) rfl (fun i hi => ?_); obtain ⟨iv, ip, ih⟩ := i; (try dsimp only at hi) | refine st_callm [1000000] (l01Raw_c hL (by omega)) rfl rfl rfl rfl rfl (fun _ _ => rfl) rfl (fun i hi => ?_); obtain ⟨iv, ip, ih⟩ := i; (try dsimp only at hi) | refine st_callm [1000000] (l08AnyCmd_c hL (by omega)) rfl rfl rfl rfl rfl (fun _ _ => rfl) rfl (fun i hi => ?_); obtain ⟨iv, ip, ih⟩ := i; (try dsimp only at hi) | refine st_callm [1000000] (l08Cmd_c hL (by omega)) rfl rfl rfl rfl rfl (fun _ _ => rfl) rfl (fun i hi => ?_); obtain ⟨iv, ip, ih⟩ := i; (try dsimp only at hi))
    | ((apply ops_gsplit; exact rfl; exact rfl; (fail_if_success exact (rfl : _ = AV.d (.b true))); (fail_if_success exact (rfl : _ = AV.d (.b false))); exact rfl) <;> intro hb <;> (first | rw [inB_t] at hb | rw [inB_f] at hb | rw [inB_nt] at hb | rw [inB_nf] at hb | rw [decide_eq_true_eq] at hb | rw [decide_eq_false_iff_not] at hb | rw [beq_iff_eq] at hb | rw [beq_eq_false_iff_ne] at hb | rw [Bool.not_eq_true'] at hb | rw [Bool.not_eq_false'] at hb | rw [bne_iff_ne] at hb | rw [bne_eq_false_iff_eq] at hb | skip) <;> (first | (exfalso; omega) | (exact absurd rfl hb) | skip))
    )
  all_goals
    refine Stop.mk ?_
    refine' retM_x ⟨⟨_, ⟨_, ⟨_, _, _, ⟨_, _, _⟩, ⟨_, _, _⟩, _, _⟩, _, ⟨_, _, _⟩⟩, _⟩, _, _⟩ _ [] rfl ?_
    any_goals refine RetG.mk ?_ ?_ ?_ ?_ ?_
    any_goals (refine Later.mk ?_; (try dsimp only [vecA, jobA, cmdA, stepA]); exact rfl)
    repeat' (first
      | apply And.intro
      | (apply eq_b; exact rfl; exact Stop.mk (by with_reducible rfl))
      | (apply eq_b; exact rfl)
      | (apply eq_n; exact rfl; exact Stop.mk (by first | with_reducible rfl | omega))
      | (apply eq_n; exact rfl)
      | (apply eq_s; exact rfl; exact Stop.mk (by with_reducible rfl))
      | (apply eq_s; exact rfl)
      | (apply eq_sl; exact rfl; exact Stop.mk (by with_reducible rfl))
      | (apply eq_sl; exact rfl)
      | (apply eq_row; exact rfl; exact Stop.mk (by with_reducible rfl))
      | (apply eq_row; exact rfl)
      | (apply eq_agg; exact rfl)
      | (apply eq_cons; exact rfl)
      | (apply eq_boxo; exact rfl)
      | (apply cell_agg; exact rfl; exact rfl; exact rfl)
      | (apply cell_one; exact rfl; exact rfl)
      | exact rfl
      | exact trivial
      )
    all_goals first | exact Stop.mk rfl | (refine Later.mk ?_; dsimp only; (try simp only [ncast]); (try simp only [Int.ofNat_eq_natCast]); omega)
end Go.Proofs.Ythmajaeekkbnnaa
