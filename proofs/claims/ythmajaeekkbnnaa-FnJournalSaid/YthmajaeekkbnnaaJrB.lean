/-
  Draws of journals.
-/
import Derived.Test.YthmajaeekkbnnaaSh
import Derived.Test.YthmajaeekkbnnaaJrA
import Derived.Test.YthmajaeekkbnnaaTxY
import Derived.Test.YthmajaeekkbnnaaDrA
import Derived.Test.YthmajaeekkbnnaaEnB
namespace Go.Proofs.Ythmajaeekkbnnaa
open Go Go.RowKit
attribute [local irreducible] AWp OpsOk OpOk ACalls ChA QsOk MCalls EnC PY

set_option maxRecDepth 100000 in
set_option maxHeartbeats 4000000 in
theorem l07Text_c {b : List UInt8} {i h : Int} (hL : b.length ≤ 1048576) (hI : 0 ≤ i ∧ i ≤ b.length) : MCalls Try.prog 137 [.ptr 1000000 0] [(1000000, curO b i h)] (fun (x : List UInt8 × Int × Int) => match x with | (v, p, _) => v.length ≤ 9 ∧ 0 ≤ p ∧ p ≤ b.length) (fun x => match x with | (v, _, _) => [.d (.s v)]) (fun x => match x with | (_, p, q) => [(1000000, curO b p q)]) (fun _ => []) := by
  refine mcalls_of tt Try.func137 rfl rfl rfl ⟨rfl, trivial⟩ (fun _ _ => ⟨⟨⟨rfl, rfl, rfl⟩, trivial⟩, rfl, trivial⟩) (fun w0 Z O => ?_)
  repeat' (first
    | apply awp_seq
    | (apply awp_regionN; exact rfl)
    | (refine Hb.mk (fun hb => ?_); (first | rw [inB_t] at hb | rw [inB_f] at hb | rw [inB_nt] at hb | rw [inB_nf] at hb | rw [decide_eq_true_eq] at hb | rw [decide_eq_false_iff_not] at hb | rw [beq_iff_eq] at hb | rw [beq_eq_false_iff_ne] at hb | rw [Bool.not_eq_true'] at hb | rw [Bool.not_eq_false'] at hb | rw [bne_iff_ne] at hb | rw [bne_eq_false_iff_eq] at hb | skip); (first | (exfalso; omega) | (exact absurd rfl hb) | skip))
    | (apply aopG_ok; exact rfl)
    | apply ops_nil
    | (apply awp_cond_t; exact rfl)
    | (apply awp_cond_f; exact rfl)
    | (apply cond_x; exact rfl)
    | apply awp_block
    | apply awp_skip
    | apply awp_exit
    | apply awp_ret'
    | (first | (apply ops_cons; exact rfl) | (apply ops_yes; exact rfl; exact rfl; exact rfl))
    | (apply ops_x; exact rfl; exact rfl; (fail_if_success exact (rfl : _ = AV.d (.b true))); (fail_if_success exact (rfl : _ = AV.d (.b false))); exact rfl)
    | (apply op_id; first | refine zk35 rfl rfl rfl ⟨rfl, rfl, rfl⟩ rfl rfl rfl rfl rfl rfl rfl rfl rfl ?_ | refine zk38 rfl rfl rfl rfl rfl rfl rfl rfl rfl rfl ?_ | (refine st_callm [1000000] (l01Below_c hL (by omega)) rfl rfl rfl rfl rfl (fun _ _ => rfl) rfl (fun i hi => ?_); obtain ⟨iv, ip, ih⟩ := i; (try dsimp only at hi)) | (apply qok_q; exact rfl))
    | (apply q_id; first | refine zk13 rfl rfl rfl rfl rfl rfl rfl ?_ | refine zk14 rfl rfl rfl rfl rfl rfl rfl ?_ | refine zk30 rfl rfl rfl rfl rfl rfl rfl ?_ | refine zk31 rfl rfl rfl rfl rfl rfl rfl rfl ?_)
    )
  have hv : iv = 0 ∨ iv = 1 ∨ iv = 2 ∨ iv = 3 ∨ iv = 4 ∨ iv = 5 ∨ iv = 6 ∨ iv = 7 ∨ iv = 8 := by omega
  rcases hv with rfl | rfl | rfl | rfl | rfl | rfl | rfl | rfl | rfl
  all_goals
    repeat' (first
      | apply awp_seq
      | (apply awp_regionN; exact rfl)
      | (refine Hb.mk (fun hb => ?_); (first | rw [inB_t] at hb | rw [inB_f] at hb | rw [inB_nt] at hb | rw [inB_nf] at hb | rw [decide_eq_true_eq] at hb | rw [decide_eq_false_iff_not] at hb | rw [beq_iff_eq] at hb | rw [beq_eq_false_iff_ne] at hb | rw [Bool.not_eq_true'] at hb | rw [Bool.not_eq_false'] at hb | rw [bne_iff_ne] at hb | rw [bne_eq_false_iff_eq] at hb | skip); (first | (exfalso; omega) | (exact absurd rfl hb) | skip))
      | (apply aopG_ok; exact rfl)
      | apply ops_nil
      | (apply awp_cond_t; exact rfl)
      | (apply awp_cond_f; exact rfl)
      | (apply cond_x; exact rfl)
      | apply awp_block
      | apply awp_skip
      | apply awp_exit
      | apply awp_ret'
      | (first | (apply ops_cons; exact rfl) | (apply ops_yes; exact rfl; exact rfl; exact rfl))
      | (apply ops_x; exact rfl; exact rfl; (fail_if_success exact (rfl : _ = AV.d (.b true))); (fail_if_success exact (rfl : _ = AV.d (.b false))); exact rfl)
      | (apply op_id; first | refine zk35 rfl rfl rfl ⟨rfl, rfl, rfl⟩ rfl rfl rfl rfl rfl rfl rfl rfl rfl ?_ | refine zk38 rfl rfl rfl rfl rfl rfl rfl rfl rfl rfl ?_ | (apply qok_q; exact rfl))
      | (apply q_id; first | refine zk13 rfl rfl rfl rfl rfl rfl rfl ?_ | refine zk14 rfl rfl rfl rfl rfl rfl rfl ?_ | refine zk30 rfl rfl rfl rfl rfl rfl rfl ?_ | refine zk31 rfl rfl rfl rfl rfl rfl rfl rfl ?_)
      )
    refine Stop.mk ?_
    refine' retM_x ⟨_, _, _⟩ _ [] rfl ?_
    any_goals refine RetG.mk ?_ ?_ ?_ ?_ ?_
    any_goals (refine Later.mk ?_; (try dsimp only []); exact rfl)
    repeat' (first
      | apply And.intro
      | (apply eq_b; exact rfl; exact Stop.mk (by with_reducible rfl))
      | (apply eq_b; exact rfl)
      | (apply eq_n; exact rfl; exact Stop.mk (by first | with_reducible rfl | omega))
      | (apply eq_n; exact rfl)
      | (apply eq_s; exact rfl; exact Stop.mk (by with_reducible rfl))
      | (apply eq_s; exact rfl)
      | (apply eq_sl; exact rfl; exact Stop.mk (by with_reducible rfl))
      | (apply eq_sl; exact rfl)
      | (apply eq_row; exact rfl; exact Stop.mk (by with_reducible rfl))
      | (apply eq_row; exact rfl)
      | (apply eq_agg; exact rfl)
      | (apply eq_cons; exact rfl)
      | (apply eq_boxo; exact rfl)
      | (apply cell_agg; exact rfl; exact rfl; exact rfl)
      | (apply cell_one; exact rfl; exact rfl)
      | exact rfl
      | exact trivial
      )
    all_goals first | exact Stop.mk rfl | (refine Later.mk ?_; dsimp only; (try simp only [ncast]); (try simp only [Int.ofNat_eq_natCast]); (exact ⟨by decide, by omega⟩))
abbrev jz : Journal := ⟨[], 0, 0⟩
theorem jz_ok : jnOk jz = true := by rfl
theorem jn_len {j : Journal} (h : jnOk j = true) : j.bytes.length ≤ 40000 := (jnOk_in h).1
/-- A draw's journal: without bytes (then it is nothing), or with a row of its own. -/
abbrev JX := Bool × Journal
abbrev jxOk (x : JX) : Prop := jnOk x.2 = true ∧ (x.1 = true → x.2 = jz)
abbrev jxR (x : JX) : List AV := match x with
  | (true, _) => jn0
  | (false, j) => [jnR j]
abbrev jxO (x : JX) : List (Nat × AO) := match x with
  | (true, _) => []
  | (false, j) => jnO j
set_option maxRecDepth 100000 in
set_option maxHeartbeats 4000000 in
theorem l07Draw_c {b : List UInt8} {i h : Int} (hL : b.length ≤ 1048576) (hI : 0 ≤ i ∧ i ≤ b.length) : MCalls Try.prog 136 [.ptr 1000000 0] [(1000000, curO b i h)] (fun (x : JX × Int × Int) => match x with | (j, p, _) => jxOk j ∧ 0 ≤ p ∧ p ≤ b.length) (fun x => match x with | (j, _, _) => jxR j) (fun x => match x with | (_, p, q) => [(1000000, curO b p q)]) (fun x => match x with | (j, _, _) => jxO j) := by
  refine mcalls_of tt Try.func136 rfl rfl rfl ⟨rfl, trivial⟩ (fun _ _ => ⟨⟨⟨rfl, rfl, rfl⟩, trivial⟩, rfl, trivial⟩) (fun w0 Z O => ?_)
  repeat' (first
    | apply awp_seq
    | (apply awp_regionN; exact rfl)
    | (refine Hb.mk (fun hb => ?_); (first | rw [inB_t] at hb | rw [inB_f] at hb | rw [inB_nt] at hb | rw [inB_nf] at hb | rw [decide_eq_true_eq] at hb | rw [decide_eq_false_iff_not] at hb | rw [beq_iff_eq] at hb | rw [beq_eq_false_iff_ne] at hb | rw [Bool.not_eq_true'] at hb | rw [Bool.not_eq_false'] at hb | rw [bne_iff_ne] at hb | rw [bne_eq_false_iff_eq] at hb | skip); (first | (exfalso; omega) | (exact absurd rfl hb) | skip))
    | (apply aopG_ok; exact rfl)
    | apply ops_nil
    | (apply awp_drawq; exact rfl; kernel_rfl; kernel_rfl; exact rfl)
    | (apply awp_drawx; exact rfl; kernel_rfl; exact rfl)
    | (apply aopQ_ok; exact rfl)
    | apply qs_nil
    | (apply ch_nil; exact rfl)
    | (apply ch_cons; (· exact rfl); (· exact rfl); (· exact rfl); (· exact rfl); (· (intro w0 Z O; first | (apply aop_ok; exact rfl) | (apply QOk.ok; first | refine zk1 rfl rfl rfl rfl rfl ?_ | refine zk6 rfl rfl rfl rfl rfl ?_ | refine zk10 rfl rfl rfl rfl rfl ?_ | refine zk23 rfl rfl rfl rfl rfl rfl ?_ | refine zk28 ns_ok rfl rfl rfl rfl rfl rfl rfl rfl ?_) | refine st_callm [1000000] (l01Below_c hL (by omega)) rfl rfl rfl rfl rfl (fun _ _ => rfl) rfl (fun i hi => ?_); obtain ⟨iv, ip, ih⟩ := i; (try dsimp only at hi)); exact ⟨rfl, rfl, rfl⟩); (· exact rfl); (· exact rfl); (· (repeat' (first | apply And.intro | exact Or.inl rfl | exact Or.inr ⟨rfl, rfl⟩ | exact trivial))); (· (repeat' (first | apply And.intro | exact trivial | exact rfl | exact flatE_map (fun _ => rfl) | apply flatE_app))); (· exact rfl); (· exact rfl); (· exact rfl); (· exact rfl))
    | (apply awp_cond_t; exact rfl)
    | (apply awp_cond_f; exact rfl)
    | (apply cond_x; exact rfl)
    | apply awp_block
    | apply awp_skip
    | apply awp_exit
    | apply awp_ret'
    | (first | (apply ops_cons; exact rfl) | (apply ops_yes; exact rfl; exact rfl; exact rfl))
    | (apply ops_x; exact rfl; exact rfl; (fail_if_success exact (rfl : _ = AV.d (.b true))); (fail_if_success exact (rfl : _ = AV.d (.b false))); exact rfl)
    | (first | (apply qs_cons; exact rfl) | (apply qs_yes; exact rfl; exact rfl; exact rfl))
    | (apply qs_x; exact rfl; exact rfl; (fail_if_success exact (rfl : _ = AV.d (.b true))); (fail_if_success exact (rfl : _ = AV.d (.b false))); exact rfl)
    | (apply op_id; first | (refine st_callm [1000000] (l01Below_c hL (by omega)) rfl rfl rfl rfl rfl (fun _ _ => rfl) rfl (fun i hi => ?_); obtain ⟨iv, ip, ih⟩ := i; (try dsimp only at hi)) | (apply qok_q; exact rfl))
    | (apply q_id; first | refine zk1 rfl rfl rfl rfl rfl ?_ | refine zk6 rfl rfl rfl rfl rfl ?_ | refine zk10 rfl rfl rfl rfl rfl ?_ | refine zk23 rfl rfl rfl rfl rfl rfl ?_ | refine zk28 ns_ok rfl rfl rfl rfl rfl rfl rfl rfl ?_)
    )
  refine awp_loop (fun (x : Nat × JX × Int × Int) => match x with | (n, (true, _), p, q) => ⟨25, [(0, .ptr 1000000 0), (2, .ptr 2 0), (3, .ptr 3 0), (4, .d (.n .i64 n))], [(2, .box 72 [.nil, .d (.n .i64 0), .d (.n .i64 0)]), (3, .box 72 [.nil, .d (.n .i64 0), .d (.n .i64 0)]), (1000000, curO b p q)]⟩ | (n, (false, j), p, q) => ⟨25, [(0, .ptr 1000000 0), (2, .ptr 2 0), (3, .ptr 3 0), (4, .d (.n .i64 n))], [(2, .box 72 [.nil, .d (.n .i64 0), .d (.n .i64 0)]), (3, .box 72 [.row 21, .d (.n .i64 j.synced), .d (.n .i64 j.count)]), (21, .row 5 (byteE j.bytes) true), (1000000, curO b p q)]⟩) (fun x => (jxOk x.2.1 ∧ 0 ≤ x.2.2.1 ∧ x.2.2.1 ≤ b.length) ∧ x.1 ≤ 1000) (fun x => x.1) (iv.toNat, (true, jz), ip, ih) (by exact ⟨⟨⟨jz_ok, fun _ => rfl⟩, by dsimp only; omega⟩, by dsimp only; omega⟩) ?_ ?_
  · refine ⟨rfl, ?_, ?_, rfl⟩
    repeat' (first
      | apply And.intro
      | (apply eq_b; exact rfl; exact Stop.mk (by with_reducible rfl))
      | (apply eq_b; exact rfl)
      | (apply eq_n; exact rfl; exact Stop.mk (by first | with_reducible rfl | omega))
      | (apply eq_n; exact rfl)
      | (apply eq_s; exact rfl; exact Stop.mk (by with_reducible rfl))
      | (apply eq_s; exact rfl)
      | (apply eq_sl; exact rfl; exact Stop.mk (by with_reducible rfl))
      | (apply eq_sl; exact rfl)
      | (apply eq_row; exact rfl; exact Stop.mk (by with_reducible rfl))
      | (apply eq_row; exact rfl)
      | (apply eq_agg; exact rfl)
      | (apply eq_cons; exact rfl)
      | (apply eq_boxo; exact rfl)
      | (apply cell_agg; exact rfl; exact rfl; exact rfl)
      | (apply cell_one; exact rfl; exact rfl)
      | exact rfl
      | trivial
      )
    all_goals exact Stop.mk (by first | rfl | omega)
  · rintro ⟨n, ⟨f, j⟩, p, q⟩ ⟨⟨⟨hj, hz⟩, hp⟩, hn⟩
    dsimp only at hj hz hp hn
    have hjl := jn_len hj
    have hsl : (jnSync j).bytes.length ≤ 40000 := hjl
    cases f with
    | true =>
      obtain rfl := hz rfl
      dsimp only
      repeat' (first
        | apply awp_seq
        | (apply awp_regionN; exact rfl)
        | (refine Hb.mk (fun hb => ?_); (first | rw [inB_t] at hb | rw [inB_f] at hb | rw [inB_nt] at hb | rw [inB_nf] at hb | rw [decide_eq_true_eq] at hb | rw [decide_eq_false_iff_not] at hb | rw [beq_iff_eq] at hb | rw [beq_eq_false_iff_ne] at hb | rw [Bool.not_eq_true'] at hb | rw [Bool.not_eq_false'] at hb | rw [bne_iff_ne] at hb | rw [bne_eq_false_iff_eq] at hb | skip); (first | (exfalso; omega) | (exact absurd rfl hb) | skip))
        | (apply aopG_ok; exact rfl)
        | apply ops_nil
        | (apply awp_enum 7; exact rfl; exact rfl; exact rfl)
        | (apply awp_drawq; exact rfl; kernel_rfl; kernel_rfl; exact rfl)
        | (apply awp_drawx; exact rfl; kernel_rfl; exact rfl)
        | (apply aopQ_ok; exact rfl)
        | apply qs_nil
        | (apply ch_nil; exact rfl)
        | (apply ch_cons; (· exact rfl); (· exact rfl); (· exact rfl); (· exact rfl); (· (intro w0 Z O; first | (apply aop_ok; exact rfl) | (apply QOk.ok; first | refine zk1 rfl rfl rfl rfl rfl ?_ | refine zk6 rfl rfl rfl rfl rfl ?_ | refine zk10 rfl rfl rfl rfl rfl ?_ | refine zk23 rfl rfl rfl rfl rfl rfl ?_ | refine zk28 ns_ok rfl rfl rfl rfl rfl rfl rfl rfl ?_) | refine st_call (journalSync_s (j := jz) (by omega) jz_ok) rfl rfl rfl rfl rfl ?_ | refine st_callm [1000000] (l01Below_c hL (by omega)) rfl rfl rfl rfl rfl (fun _ _ => rfl) rfl (fun i hi => ?_); obtain ⟨iv, ip, ih⟩ := i; (try dsimp only at hi) | refine st_callm [1000000] (l07Text_c hL (by omega)) rfl rfl rfl rfl rfl (fun _ _ => rfl) rfl (fun i hi => ?_); obtain ⟨iv, ip, ih⟩ := i; (try dsimp only at hi)); exact ⟨rfl, rfl, rfl⟩); (· exact rfl); (· exact rfl); (· (repeat' (first | apply And.intro | exact Or.inl rfl | exact Or.inr ⟨rfl, rfl⟩ | exact trivial))); (· (repeat' (first | apply And.intro | exact trivial | exact rfl | exact flatE_map (fun _ => rfl) | apply flatE_app))); (· exact rfl); (· exact rfl); (· exact rfl); (· exact rfl))
        | (apply aop_ok; exact rfl)
        | (apply ec_take; exact rfl; exact rfl; exact rfl; kernel_rfl; kernel_rfl; exact rfl)
        | (apply ec_end; exact rfl)
        | (apply ec_go; exact rfl)
        | apply ec_none
        | (apply ec_each; exact rfl; exact rfl; exact rfl)
        | (apply awp_cond_t; exact rfl)
        | (apply awp_cond_f; exact rfl)
        | (apply cond_x; exact rfl)
        | apply awp_block
        | apply awp_skip
        | apply awp_exit
        | apply awp_ret'
        | (first | (apply ops_cons; exact rfl) | (apply ops_yes; exact rfl; exact rfl; exact rfl))
        | (apply ops_x; exact rfl; exact rfl; (fail_if_success exact (rfl : _ = AV.d (.b true))); (fail_if_success exact (rfl : _ = AV.d (.b false))); exact rfl)
        | (first | (apply qs_cons; exact rfl) | (apply qs_yes; exact rfl; exact rfl; exact rfl))
        | (apply qs_x; exact rfl; exact rfl; (fail_if_success exact (rfl : _ = AV.d (.b true))); (fail_if_success exact (rfl : _ = AV.d (.b false))); exact rfl)
        | (apply q_id; first | refine st_callq (journalSync_s (j := jz) (by omega) jz_ok) rfl rfl rfl rfl rfl ?_)
        | (apply op_id; first | refine st_call (journalSync_s (j := jz) (by omega) jz_ok) rfl rfl rfl rfl rfl ?_ | (refine st_callm [1000000] (l01Below_c hL (by omega)) rfl rfl rfl rfl rfl (fun _ _ => rfl) rfl (fun i hi => ?_); obtain ⟨iv, ip, ih⟩ := i; (try dsimp only at hi)) | (refine st_callm [1000000] (l07Text_c hL (by omega)) rfl rfl rfl rfl rfl (fun _ _ => rfl) rfl (fun i hi => ?_); obtain ⟨iv, ip, ih⟩ := i; (try dsimp only at hi)) | (apply qok_q; exact rfl))
        | (apply q_id; first | refine zk1 rfl rfl rfl rfl rfl ?_ | refine zk6 rfl rfl rfl rfl rfl ?_ | refine zk10 rfl rfl rfl rfl rfl ?_ | refine zk23 rfl rfl rfl rfl rfl rfl ?_ | refine zk28 ns_ok rfl rfl rfl rfl rfl rfl rfl rfl ?_)
        )
      · all_goals
          by_cases hc : addC (jnSync jz) iv = 0
          · repeat' (first
              | apply awp_seq
              | (apply awp_regionN; exact rfl)
              | (refine Hb.mk (fun hb => ?_); (first | rw [inB_t] at hb | rw [inB_f] at hb | rw [inB_nt] at hb | rw [inB_nf] at hb | rw [decide_eq_true_eq] at hb | rw [decide_eq_false_iff_not] at hb | rw [beq_iff_eq] at hb | rw [beq_eq_false_iff_ne] at hb | rw [Bool.not_eq_true'] at hb | rw [Bool.not_eq_false'] at hb | rw [bne_iff_ne] at hb | rw [bne_eq_false_iff_eq] at hb | skip); (first | (exfalso; omega) | (exact absurd rfl hb) | skip))
              | (apply aopG_ok; exact rfl)
              | apply ops_nil
              | (apply awp_enum 7; exact rfl; exact rfl; exact rfl)
              | (apply awp_drawq; exact rfl; kernel_rfl; kernel_rfl; exact rfl)
              | (apply awp_drawx; exact rfl; kernel_rfl; exact rfl)
              | (apply aopQ_ok; exact rfl)
              | apply qs_nil
              | (apply ch_nil; exact rfl)
              | (apply ch_cons; (· exact rfl); (· exact rfl); (· exact rfl); (· exact rfl); (· (intro w0 Z O; first | (apply aop_ok; exact rfl) | (apply QOk.ok; first | refine zk1 rfl rfl rfl rfl rfl ?_ | refine zk6 rfl rfl rfl rfl rfl ?_ | refine zk10 rfl rfl rfl rfl rfl ?_ | refine zk23 rfl rfl rfl rfl rfl rfl ?_ | refine zk28 ns_ok rfl rfl rfl rfl rfl rfl rfl rfl ?_) | refine st_call (journalAdd_s hc) rfl rfl rfl rfl rfl ?_); exact ⟨rfl, rfl, rfl⟩); (· exact rfl); (· exact rfl); (· (repeat' (first | apply And.intro | exact Or.inl rfl | exact Or.inr ⟨rfl, rfl⟩ | exact trivial))); (· (repeat' (first | apply And.intro | exact trivial | exact rfl | exact flatE_map (fun _ => rfl) | apply flatE_app))); (· exact rfl); (· exact rfl); (· exact rfl); (· exact rfl))
              | (apply aop_ok; exact rfl)
              | (apply ec_take; exact rfl; exact rfl; exact rfl; kernel_rfl; kernel_rfl; exact rfl)
              | (apply ec_end; exact rfl)
              | (apply ec_go; exact rfl)
              | apply ec_none
              | (apply ec_each; exact rfl; exact rfl; exact rfl)
              | (apply awp_cond_t; exact rfl)
              | (apply awp_cond_f; exact rfl)
              | (apply cond_x; exact rfl)
              | apply awp_block
              | apply awp_skip
              | apply awp_exit
              | apply awp_ret'
              | (first | (apply ops_cons; exact rfl) | (apply ops_yes; exact rfl; exact rfl; exact rfl))
              | (apply ops_x; exact rfl; exact rfl; (fail_if_success exact (rfl : _ = AV.d (.b true))); (fail_if_success exact (rfl : _ = AV.d (.b false))); exact rfl)
              | (first | (apply qs_cons; exact rfl) | (apply qs_yes; exact rfl; exact rfl; exact rfl))
              | (apply qs_x; exact rfl; exact rfl; (fail_if_success exact (rfl : _ = AV.d (.b true))); (fail_if_success exact (rfl : _ = AV.d (.b false))); exact rfl)
              | (apply q_id; first | refine st_callq (journalAdd_s hc) rfl rfl rfl rfl rfl ?_)
              | (apply op_id; first | refine st_call (journalAdd_s hc) rfl rfl rfl rfl rfl ?_ | (apply qok_q; exact rfl))
              | (apply q_id; first | refine zk1 rfl rfl rfl rfl rfl ?_ | refine zk6 rfl rfl rfl rfl rfl ?_ | refine zk10 rfl rfl rfl rfl rfl ?_ | refine zk23 rfl rfl rfl rfl rfl rfl ?_ | refine zk28 ns_ok rfl rfl rfl rfl rfl rfl rfl rfl ?_)
              )
            all_goals
              refine ⟨(n - 1, (false, jnAdd (jnSync jz) iv), ip, ih), ⟨⟨⟨(jnAdd_read hc).2, fun h => nomatch h⟩, by dsimp only; omega⟩, by dsimp only; omega⟩, by dsimp only; omega, ?_⟩
              refine ⟨rfl, ?_, ?_, rfl⟩
              repeat' (first
                | apply And.intro
                | (apply eq_b; exact rfl; exact Stop.mk (by with_reducible rfl))
                | (apply eq_b; exact rfl)
                | (apply eq_n; exact rfl; exact Stop.mk (by first | with_reducible rfl | omega))
                | (apply eq_n; exact rfl)
                | (apply eq_s; exact rfl; exact Stop.mk (by with_reducible rfl))
                | (apply eq_s; exact rfl)
                | (apply eq_sl; exact rfl; exact Stop.mk (by with_reducible rfl))
                | (apply eq_sl; exact rfl)
                | (apply eq_row; exact rfl; exact Stop.mk (by with_reducible rfl))
                | (apply eq_row; exact rfl)
                | (apply eq_agg; exact rfl)
                | (apply eq_cons; exact rfl)
                | (apply eq_boxo; exact rfl)
                | (apply cell_agg; exact rfl; exact rfl; exact rfl)
                | (apply cell_one; exact rfl; exact rfl)
                | exact rfl
                | trivial
                )
              all_goals exact Stop.mk (by first | rfl | omega)
          · repeat' (first
              | apply awp_seq
              | (apply awp_regionN; exact rfl)
              | (refine Hb.mk (fun hb => ?_); (first | rw [inB_t] at hb | rw [inB_f] at hb | rw [inB_nt] at hb | rw [inB_nf] at hb | rw [decide_eq_true_eq] at hb | rw [decide_eq_false_iff_not] at hb | rw [beq_iff_eq] at hb | rw [beq_eq_false_iff_ne] at hb | rw [Bool.not_eq_true'] at hb | rw [Bool.not_eq_false'] at hb | rw [bne_iff_ne] at hb | rw [bne_eq_false_iff_eq] at hb | skip); (first | (exfalso; omega) | (exact absurd rfl hb) | skip))
              | (apply aopG_ok; exact rfl)
              | apply ops_nil
              | (apply awp_enum 7; exact rfl; exact rfl; exact rfl)
              | (apply awp_drawq; exact rfl; kernel_rfl; kernel_rfl; exact rfl)
              | (apply awp_drawx; exact rfl; kernel_rfl; exact rfl)
              | (apply aopQ_ok; exact rfl)
              | apply qs_nil
              | (apply ch_nil; exact rfl)
              | (apply ch_cons; (· exact rfl); (· exact rfl); (· exact rfl); (· exact rfl); (· (intro w0 Z O; first | (apply aop_ok; exact rfl) | (apply QOk.ok; first | refine zk1 rfl rfl rfl rfl rfl ?_ | refine zk6 rfl rfl rfl rfl rfl ?_ | refine zk10 rfl rfl rfl rfl rfl ?_ | refine zk23 rfl rfl rfl rfl rfl rfl ?_ | refine zk28 ns_ok rfl rfl rfl rfl rfl rfl rfl rfl ?_) | refine st_call (journalAdd_s0 (j := jnSync jz) (s := iv) (by omega) (by omega) hc) rfl rfl rfl rfl rfl ?_); exact ⟨rfl, rfl, rfl⟩); (· exact rfl); (· exact rfl); (· (repeat' (first | apply And.intro | exact Or.inl rfl | exact Or.inr ⟨rfl, rfl⟩ | exact trivial))); (· (repeat' (first | apply And.intro | exact trivial | exact rfl | exact flatE_map (fun _ => rfl) | apply flatE_app))); (· exact rfl); (· exact rfl); (· exact rfl); (· exact rfl))
              | (apply aop_ok; exact rfl)
              | (apply ec_take; exact rfl; exact rfl; exact rfl; kernel_rfl; kernel_rfl; exact rfl)
              | (apply ec_end; exact rfl)
              | (apply ec_go; exact rfl)
              | apply ec_none
              | (apply ec_each; exact rfl; exact rfl; exact rfl)
              | (apply awp_cond_t; exact rfl)
              | (apply awp_cond_f; exact rfl)
              | (apply cond_x; exact rfl)
              | apply awp_block
              | apply awp_skip
              | apply awp_exit
              | apply awp_ret'
              | (first | (apply ops_cons; exact rfl) | (apply ops_yes; exact rfl; exact rfl; exact rfl))
              | (apply ops_x; exact rfl; exact rfl; (fail_if_success exact (rfl : _ = AV.d (.b true))); (fail_if_success exact (rfl : _ = AV.d (.b false))); exact rfl)
              | (first | (apply qs_cons; exact rfl) | (apply qs_yes; exact rfl; exact rfl; exact rfl))
              | (apply qs_x; exact rfl; exact rfl; (fail_if_success exact (rfl : _ = AV.d (.b true))); (fail_if_success exact (rfl : _ = AV.d (.b false))); exact rfl)
              | (apply q_id; first | refine st_callq (journalAdd_s0 (j := jnSync jz) (s := iv) (by omega) (by omega) hc) rfl rfl rfl rfl rfl ?_)
              | (apply op_id; first | refine st_call (journalAdd_s0 (j := jnSync jz) (s := iv) (by omega) (by omega) hc) rfl rfl rfl rfl rfl ?_ | (apply qok_q; exact rfl))
              | (apply q_id; first | refine zk1 rfl rfl rfl rfl rfl ?_ | refine zk6 rfl rfl rfl rfl rfl ?_ | refine zk10 rfl rfl rfl rfl rfl ?_ | refine zk23 rfl rfl rfl rfl rfl rfl ?_ | refine zk28 ns_ok rfl rfl rfl rfl rfl rfl rfl rfl ?_)
              )
            all_goals
              refine ⟨(n - 1, (true, jz), ip, ih), ⟨⟨⟨jz_ok, fun _ => rfl⟩, by dsimp only; omega⟩, by dsimp only; omega⟩, by dsimp only; omega, ?_⟩
              refine ⟨rfl, ?_, ?_, rfl⟩
              repeat' (first
                | apply And.intro
                | (apply eq_b; exact rfl; exact Stop.mk (by with_reducible rfl))
                | (apply eq_b; exact rfl)
                | (apply eq_n; exact rfl; exact Stop.mk (by first | with_reducible rfl | omega))
                | (apply eq_n; exact rfl)
                | (apply eq_s; exact rfl; exact Stop.mk (by with_reducible rfl))
                | (apply eq_s; exact rfl)
                | (apply eq_sl; exact rfl; exact Stop.mk (by with_reducible rfl))
                | (apply eq_sl; exact rfl)
                | (apply eq_row; exact rfl; exact Stop.mk (by with_reducible rfl))
                | (apply eq_row; exact rfl)
                | (apply eq_agg; exact rfl)
                | (apply eq_cons; exact rfl)
                | (apply eq_boxo; exact rfl)
                | (apply cell_agg; exact rfl; exact rfl; exact rfl)
                | (apply cell_one; exact rfl; exact rfl)
                | exact rfl
                | trivial
                )
              all_goals exact Stop.mk (by first | rfl | omega)
      · all_goals
          by_cases hc : addC (jnSync jz) iv = 0
          · repeat' (first
              | apply awp_seq
              | (apply awp_regionN; exact rfl)
              | (refine Hb.mk (fun hb => ?_); (first | rw [inB_t] at hb | rw [inB_f] at hb | rw [inB_nt] at hb | rw [inB_nf] at hb | rw [decide_eq_true_eq] at hb | rw [decide_eq_false_iff_not] at hb | rw [beq_iff_eq] at hb | rw [beq_eq_false_iff_ne] at hb | rw [Bool.not_eq_true'] at hb | rw [Bool.not_eq_false'] at hb | rw [bne_iff_ne] at hb | rw [bne_eq_false_iff_eq] at hb | skip); (first | (exfalso; omega) | (exact absurd rfl hb) | skip))
              | (apply aopG_ok; exact rfl)
              | apply ops_nil
              | (apply awp_enum 7; exact rfl; exact rfl; exact rfl)
              | (apply awp_drawq; exact rfl; kernel_rfl; kernel_rfl; exact rfl)
              | (apply awp_drawx; exact rfl; kernel_rfl; exact rfl)
              | (apply aopQ_ok; exact rfl)
              | apply qs_nil
              | (apply ch_nil; exact rfl)
              | (apply ch_cons; (· exact rfl); (· exact rfl); (· exact rfl); (· exact rfl); (· (intro w0 Z O; first | (apply aop_ok; exact rfl) | (apply QOk.ok; first | refine zk1 rfl rfl rfl rfl rfl ?_ | refine zk6 rfl rfl rfl rfl rfl ?_ | refine zk10 rfl rfl rfl rfl rfl ?_ | refine zk23 rfl rfl rfl rfl rfl rfl ?_ | refine zk28 ns_ok rfl rfl rfl rfl rfl rfl rfl rfl ?_) | refine st_call (journalAdd_s hc) rfl rfl rfl rfl rfl ?_); exact ⟨rfl, rfl, rfl⟩); (· exact rfl); (· exact rfl); (· (repeat' (first | apply And.intro | exact Or.inl rfl | exact Or.inr ⟨rfl, rfl⟩ | exact trivial))); (· (repeat' (first | apply And.intro | exact trivial | exact rfl | exact flatE_map (fun _ => rfl) | apply flatE_app))); (· exact rfl); (· exact rfl); (· exact rfl); (· exact rfl))
              | (apply aop_ok; exact rfl)
              | (apply ec_take; exact rfl; exact rfl; exact rfl; kernel_rfl; kernel_rfl; exact rfl)
              | (apply ec_end; exact rfl)
              | (apply ec_go; exact rfl)
              | apply ec_none
              | (apply ec_each; exact rfl; exact rfl; exact rfl)
              | (apply awp_cond_t; exact rfl)
              | (apply awp_cond_f; exact rfl)
              | (apply cond_x; exact rfl)
              | apply awp_block
              | apply awp_skip
              | apply awp_exit
              | apply awp_ret'
              | (first | (apply ops_cons; exact rfl) | (apply ops_yes; exact rfl; exact rfl; exact rfl))
              | (apply ops_x; exact rfl; exact rfl; (fail_if_success exact (rfl : _ = AV.d (.b true))); (fail_if_success exact (rfl : _ = AV.d (.b false))); exact rfl)
              | (first | (apply qs_cons; exact rfl) | (apply qs_yes; exact rfl; exact rfl; exact rfl))
              | (apply qs_x; exact rfl; exact rfl; (fail_if_success exact (rfl : _ = AV.d (.b true))); (fail_if_success exact (rfl : _ = AV.d (.b false))); exact rfl)
              | (apply q_id; first | refine st_callq (journalAdd_s hc) rfl rfl rfl rfl rfl ?_)
              | (apply op_id; first | refine st_call (journalAdd_s hc) rfl rfl rfl rfl rfl ?_ | (apply qok_q; exact rfl))
              | (apply q_id; first | refine zk1 rfl rfl rfl rfl rfl ?_ | refine zk6 rfl rfl rfl rfl rfl ?_ | refine zk10 rfl rfl rfl rfl rfl ?_ | refine zk23 rfl rfl rfl rfl rfl rfl ?_ | refine zk28 ns_ok rfl rfl rfl rfl rfl rfl rfl rfl ?_)
              )
            all_goals
              refine ⟨(n - 1, (false, jnAdd (jnSync jz) iv), ip, ih), ⟨⟨⟨(jnAdd_read hc).2, fun h => nomatch h⟩, by dsimp only; omega⟩, by dsimp only; omega⟩, by dsimp only; omega, ?_⟩
              refine ⟨rfl, ?_, ?_, rfl⟩
              repeat' (first
                | apply And.intro
                | (apply eq_b; exact rfl; exact Stop.mk (by with_reducible rfl))
                | (apply eq_b; exact rfl)
                | (apply eq_n; exact rfl; exact Stop.mk (by first | with_reducible rfl | omega))
                | (apply eq_n; exact rfl)
                | (apply eq_s; exact rfl; exact Stop.mk (by with_reducible rfl))
                | (apply eq_s; exact rfl)
                | (apply eq_sl; exact rfl; exact Stop.mk (by with_reducible rfl))
                | (apply eq_sl; exact rfl)
                | (apply eq_row; exact rfl; exact Stop.mk (by with_reducible rfl))
                | (apply eq_row; exact rfl)
                | (apply eq_agg; exact rfl)
                | (apply eq_cons; exact rfl)
                | (apply eq_boxo; exact rfl)
                | (apply cell_agg; exact rfl; exact rfl; exact rfl)
                | (apply cell_one; exact rfl; exact rfl)
                | exact rfl
                | trivial
                )
              all_goals exact Stop.mk (by first | rfl | omega)
          · repeat' (first
              | apply awp_seq
              | (apply awp_regionN; exact rfl)
              | (refine Hb.mk (fun hb => ?_); (first | rw [inB_t] at hb | rw [inB_f] at hb | rw [inB_nt] at hb | rw [inB_nf] at hb | rw [decide_eq_true_eq] at hb | rw [decide_eq_false_iff_not] at hb | rw [beq_iff_eq] at hb | rw [beq_eq_false_iff_ne] at hb | rw [Bool.not_eq_true'] at hb | rw [Bool.not_eq_false'] at hb | rw [bne_iff_ne] at hb | rw [bne_eq_false_iff_eq] at hb | skip); (first | (exfalso; omega) | (exact absurd rfl hb) | skip))
              | (apply aopG_ok; exact rfl)
              | apply ops_nil
              | (apply awp_enum 7; exact rfl; exact rfl; exact rfl)
              | (apply awp_drawq; exact rfl; kernel_rfl; kernel_rfl; exact rfl)
              | (apply awp_drawx; exact rfl; kernel_rfl; exact rfl)
              | (apply aopQ_ok; exact rfl)
              | apply qs_nil
              | (apply ch_nil; exact rfl)
              | (apply ch_cons; (· exact rfl); (· exact rfl); (· exact rfl); (· exact rfl); (· (intro w0 Z O; first | (apply aop_ok; exact rfl) | (apply QOk.ok; first | refine zk1 rfl rfl rfl rfl rfl ?_ | refine zk6 rfl rfl rfl rfl rfl ?_ | refine zk10 rfl rfl rfl rfl rfl ?_ | refine zk23 rfl rfl rfl rfl rfl rfl ?_ | refine zk28 ns_ok rfl rfl rfl rfl rfl rfl rfl rfl ?_) | refine st_call (journalAdd_s0 (j := jnSync jz) (s := iv) (by omega) (by omega) hc) rfl rfl rfl rfl rfl ?_); exact ⟨rfl, rfl, rfl⟩); (· exact rfl); (· exact rfl); (· (repeat' (first | apply And.intro | exact Or.inl rfl | exact Or.inr ⟨rfl, rfl⟩ | exact trivial))); (· (repeat' (first | apply And.intro | exact trivial | exact rfl | exact flatE_map (fun _ => rfl) | apply flatE_app))); (· exact rfl); (· exact rfl); (· exact rfl); (· exact rfl))
              | (apply aop_ok; exact rfl)
              | (apply ec_take; exact rfl; exact rfl; exact rfl; kernel_rfl; kernel_rfl; exact rfl)
              | (apply ec_end; exact rfl)
              | (apply ec_go; exact rfl)
              | apply ec_none
              | (apply ec_each; exact rfl; exact rfl; exact rfl)
              | (apply awp_cond_t; exact rfl)
              | (apply awp_cond_f; exact rfl)
              | (apply cond_x; exact rfl)
              | apply awp_block
              | apply awp_skip
              | apply awp_exit
              | apply awp_ret'
              | (first | (apply ops_cons; exact rfl) | (apply ops_yes; exact rfl; exact rfl; exact rfl))
              | (apply ops_x; exact rfl; exact rfl; (fail_if_success exact (rfl : _ = AV.d (.b true))); (fail_if_success exact (rfl : _ = AV.d (.b false))); exact rfl)
              | (first | (apply qs_cons; exact rfl) | (apply qs_yes; exact rfl; exact rfl; exact rfl))
              | (apply qs_x; exact rfl; exact rfl; (fail_if_success exact (rfl : _ = AV.d (.b true))); (fail_if_success exact (rfl : _ = AV.d (.b false))); exact rfl)
              | (apply q_id; first | refine st_callq (journalAdd_s0 (j := jnSync jz) (s := iv) (by omega) (by omega) hc) rfl rfl rfl rfl rfl ?_)
              | (apply op_id; first | refine st_call (journalAdd_s0 (j := jnSync jz) (s := iv) (by omega) (by omega) hc) rfl rfl rfl rfl rfl ?_ | (apply qok_q; exact rfl))
              | (apply q_id; first | refine zk1 rfl rfl rfl rfl rfl ?_ | refine zk6 rfl rfl rfl rfl rfl ?_ | refine zk10 rfl rfl rfl rfl rfl ?_ | refine zk23 rfl rfl rfl rfl rfl rfl ?_ | refine zk28 ns_ok rfl rfl rfl rfl rfl rfl rfl rfl ?_)
              )
            all_goals
              refine ⟨(n - 1, (true, jz), ip, ih), ⟨⟨⟨jz_ok, fun _ => rfl⟩, by dsimp only; omega⟩, by dsimp only; omega⟩, by dsimp only; omega, ?_⟩
              refine ⟨rfl, ?_, ?_, rfl⟩
              repeat' (first
                | apply And.intro
                | (apply eq_b; exact rfl; exact Stop.mk (by with_reducible rfl))
                | (apply eq_b; exact rfl)
                | (apply eq_n; exact rfl; exact Stop.mk (by first | with_reducible rfl | omega))
                | (apply eq_n; exact rfl)
                | (apply eq_s; exact rfl; exact Stop.mk (by with_reducible rfl))
                | (apply eq_s; exact rfl)
                | (apply eq_sl; exact rfl; exact Stop.mk (by with_reducible rfl))
                | (apply eq_sl; exact rfl)
                | (apply eq_row; exact rfl; exact Stop.mk (by with_reducible rfl))
                | (apply eq_row; exact rfl)
                | (apply eq_agg; exact rfl)
                | (apply eq_cons; exact rfl)
                | (apply eq_boxo; exact rfl)
                | (apply cell_agg; exact rfl; exact rfl; exact rfl)
                | (apply cell_one; exact rfl; exact rfl)
                | exact rfl
                | trivial
                )
              all_goals exact Stop.mk (by first | rfl | omega)
      · all_goals
          by_cases hc : addC (jz) iv = 0
          · repeat' (first
              | apply awp_seq
              | (apply awp_regionN; exact rfl)
              | (refine Hb.mk (fun hb => ?_); (first | rw [inB_t] at hb | rw [inB_f] at hb | rw [inB_nt] at hb | rw [inB_nf] at hb | rw [decide_eq_true_eq] at hb | rw [decide_eq_false_iff_not] at hb | rw [beq_iff_eq] at hb | rw [beq_eq_false_iff_ne] at hb | rw [Bool.not_eq_true'] at hb | rw [Bool.not_eq_false'] at hb | rw [bne_iff_ne] at hb | rw [bne_eq_false_iff_eq] at hb | skip); (first | (exfalso; omega) | (exact absurd rfl hb) | skip))
              | (apply aopG_ok; exact rfl)
              | apply ops_nil
              | (apply awp_enum 7; exact rfl; exact rfl; exact rfl)
              | (apply awp_drawq; exact rfl; kernel_rfl; kernel_rfl; exact rfl)
              | (apply awp_drawx; exact rfl; kernel_rfl; exact rfl)
              | (apply aopQ_ok; exact rfl)
              | apply qs_nil
              | (apply ch_nil; exact rfl)
              | (apply ch_cons; (· exact rfl); (· exact rfl); (· exact rfl); (· exact rfl); (· (intro w0 Z O; first | (apply aop_ok; exact rfl) | (apply QOk.ok; first | refine zk1 rfl rfl rfl rfl rfl ?_ | refine zk6 rfl rfl rfl rfl rfl ?_ | refine zk10 rfl rfl rfl rfl rfl ?_ | refine zk23 rfl rfl rfl rfl rfl rfl ?_ | refine zk28 ns_ok rfl rfl rfl rfl rfl rfl rfl rfl ?_) | refine st_call (journalAdd_s hc) rfl rfl rfl rfl rfl ?_); exact ⟨rfl, rfl, rfl⟩); (· exact rfl); (· exact rfl); (· (repeat' (first | apply And.intro | exact Or.inl rfl | exact Or.inr ⟨rfl, rfl⟩ | exact trivial))); (· (repeat' (first | apply And.intro | exact trivial | exact rfl | exact flatE_map (fun _ => rfl) | apply flatE_app))); (· exact rfl); (· exact rfl); (· exact rfl); (· exact rfl))
              | (apply aop_ok; exact rfl)
              | (apply ec_take; exact rfl; exact rfl; exact rfl; kernel_rfl; kernel_rfl; exact rfl)
              | (apply ec_end; exact rfl)
              | (apply ec_go; exact rfl)
              | apply ec_none
              | (apply ec_each; exact rfl; exact rfl; exact rfl)
              | (apply awp_cond_t; exact rfl)
              | (apply awp_cond_f; exact rfl)
              | (apply cond_x; exact rfl)
              | apply awp_block
              | apply awp_skip
              | apply awp_exit
              | apply awp_ret'
              | (first | (apply ops_cons; exact rfl) | (apply ops_yes; exact rfl; exact rfl; exact rfl))
              | (apply ops_x; exact rfl; exact rfl; (fail_if_success exact (rfl : _ = AV.d (.b true))); (fail_if_success exact (rfl : _ = AV.d (.b false))); exact rfl)
              | (first | (apply qs_cons; exact rfl) | (apply qs_yes; exact rfl; exact rfl; exact rfl))
              | (apply qs_x; exact rfl; exact rfl; (fail_if_success exact (rfl : _ = AV.d (.b true))); (fail_if_success exact (rfl : _ = AV.d (.b false))); exact rfl)
              | (apply q_id; first | refine st_callq (journalAdd_s hc) rfl rfl rfl rfl rfl ?_)
              | (apply op_id; first | refine st_call (journalAdd_s hc) rfl rfl rfl rfl rfl ?_ | (apply qok_q; exact rfl))
              | (apply q_id; first | refine zk1 rfl rfl rfl rfl rfl ?_ | refine zk6 rfl rfl rfl rfl rfl ?_ | refine zk10 rfl rfl rfl rfl rfl ?_ | refine zk23 rfl rfl rfl rfl rfl rfl ?_ | refine zk28 ns_ok rfl rfl rfl rfl rfl rfl rfl rfl ?_)
              )
            all_goals
              refine ⟨(n - 1, (false, jnAdd (jz) iv), ip, ih), ⟨⟨⟨(jnAdd_read hc).2, fun h => nomatch h⟩, by dsimp only; omega⟩, by dsimp only; omega⟩, by dsimp only; omega, ?_⟩
              refine ⟨rfl, ?_, ?_, rfl⟩
              repeat' (first
                | apply And.intro
                | (apply eq_b; exact rfl; exact Stop.mk (by with_reducible rfl))
                | (apply eq_b; exact rfl)
                | (apply eq_n; exact rfl; exact Stop.mk (by first | with_reducible rfl | omega))
                | (apply eq_n; exact rfl)
                | (apply eq_s; exact rfl; exact Stop.mk (by with_reducible rfl))
                | (apply eq_s; exact rfl)
                | (apply eq_sl; exact rfl; exact Stop.mk (by with_reducible rfl))
                | (apply eq_sl; exact rfl)
                | (apply eq_row; exact rfl; exact Stop.mk (by with_reducible rfl))
                | (apply eq_row; exact rfl)
                | (apply eq_agg; exact rfl)
                | (apply eq_cons; exact rfl)
                | (apply eq_boxo; exact rfl)
                | (apply cell_agg; exact rfl; exact rfl; exact rfl)
                | (apply cell_one; exact rfl; exact rfl)
                | exact rfl
                | trivial
                )
              all_goals exact Stop.mk (by first | rfl | omega)
          · repeat' (first
              | apply awp_seq
              | (apply awp_regionN; exact rfl)
              | (refine Hb.mk (fun hb => ?_); (first | rw [inB_t] at hb | rw [inB_f] at hb | rw [inB_nt] at hb | rw [inB_nf] at hb | rw [decide_eq_true_eq] at hb | rw [decide_eq_false_iff_not] at hb | rw [beq_iff_eq] at hb | rw [beq_eq_false_iff_ne] at hb | rw [Bool.not_eq_true'] at hb | rw [Bool.not_eq_false'] at hb | rw [bne_iff_ne] at hb | rw [bne_eq_false_iff_eq] at hb | skip); (first | (exfalso; omega) | (exact absurd rfl hb) | skip))
              | (apply aopG_ok; exact rfl)
              | apply ops_nil
              | (apply awp_enum 7; exact rfl; exact rfl; exact rfl)
              | (apply awp_drawq; exact rfl; kernel_rfl; kernel_rfl; exact rfl)
              | (apply awp_drawx; exact rfl; kernel_rfl; exact rfl)
              | (apply aopQ_ok; exact rfl)
              | apply qs_nil
              | (apply ch_nil; exact rfl)
              | (apply ch_cons; (· exact rfl); (· exact rfl); (· exact rfl); (· exact rfl); (· (intro w0 Z O; first | (apply aop_ok; exact rfl) | (apply QOk.ok; first | refine zk1 rfl rfl rfl rfl rfl ?_ | refine zk6 rfl rfl rfl rfl rfl ?_ | refine zk10 rfl rfl rfl rfl rfl ?_ | refine zk23 rfl rfl rfl rfl rfl rfl ?_ | refine zk28 ns_ok rfl rfl rfl rfl rfl rfl rfl rfl ?_) | refine st_call (journalAdd_s0 (j := jz) (s := iv) (by omega) (by omega) hc) rfl rfl rfl rfl rfl ?_); exact ⟨rfl, rfl, rfl⟩); (· exact rfl); (· exact rfl); (· (repeat' (first | apply And.intro | exact Or.inl rfl | exact Or.inr ⟨rfl, rfl⟩ | exact trivial))); (· (repeat' (first | apply And.intro | exact trivial | exact rfl | exact flatE_map (fun _ => rfl) | apply flatE_app))); (· exact rfl); (· exact rfl); (· exact rfl); (· exact rfl))
              | (apply aop_ok; exact rfl)
              | (apply ec_take; exact rfl; exact rfl; exact rfl; kernel_rfl; kernel_rfl; exact rfl)
              | (apply ec_end; exact rfl)
              | (apply ec_go; exact rfl)
              | apply ec_none
              | (apply ec_each; exact rfl; exact rfl; exact rfl)
              | (apply awp_cond_t; exact rfl)
              | (apply awp_cond_f; exact rfl)
              | (apply cond_x; exact rfl)
              | apply awp_block
              | apply awp_skip
              | apply awp_exit
              | apply awp_ret'
              | (first | (apply ops_cons; exact rfl) | (apply ops_yes; exact rfl; exact rfl; exact rfl))
              | (apply ops_x; exact rfl; exact rfl; (fail_if_success exact (rfl : _ = AV.d (.b true))); (fail_if_success exact (rfl : _ = AV.d (.b false))); exact rfl)
              | (first | (apply qs_cons; exact rfl) | (apply qs_yes; exact rfl; exact rfl; exact rfl))
              | (apply qs_x; exact rfl; exact rfl; (fail_if_success exact (rfl : _ = AV.d (.b true))); (fail_if_success exact (rfl : _ = AV.d (.b false))); exact rfl)
              | (apply q_id; first | refine st_callq (journalAdd_s0 (j := jz) (s := iv) (by omega) (by omega) hc) rfl rfl rfl rfl rfl ?_)
              | (apply op_id; first | refine st_call (journalAdd_s0 (j := jz) (s := iv) (by omega) (by omega) hc) rfl rfl rfl rfl rfl ?_ | (apply qok_q; exact rfl))
              | (apply q_id; first | refine zk1 rfl rfl rfl rfl rfl ?_ | refine zk6 rfl rfl rfl rfl rfl ?_ | refine zk10 rfl rfl rfl rfl rfl ?_ | refine zk23 rfl rfl rfl rfl rfl rfl ?_ | refine zk28 ns_ok rfl rfl rfl rfl rfl rfl rfl rfl ?_)
              )
            all_goals
              refine ⟨(n - 1, (true, jz), ip, ih), ⟨⟨⟨jz_ok, fun _ => rfl⟩, by dsimp only; omega⟩, by dsimp only; omega⟩, by dsimp only; omega, ?_⟩
              refine ⟨rfl, ?_, ?_, rfl⟩
              repeat' (first
                | apply And.intro
                | (apply eq_b; exact rfl; exact Stop.mk (by with_reducible rfl))
                | (apply eq_b; exact rfl)
                | (apply eq_n; exact rfl; exact Stop.mk (by first | with_reducible rfl | omega))
                | (apply eq_n; exact rfl)
                | (apply eq_s; exact rfl; exact Stop.mk (by with_reducible rfl))
                | (apply eq_s; exact rfl)
                | (apply eq_sl; exact rfl; exact Stop.mk (by with_reducible rfl))
                | (apply eq_sl; exact rfl)
                | (apply eq_row; exact rfl; exact Stop.mk (by with_reducible rfl))
                | (apply eq_row; exact rfl)
                | (apply eq_agg; exact rfl)
                | (apply eq_cons; exact rfl)
                | (apply eq_boxo; exact rfl)
                | (apply cell_agg; exact rfl; exact rfl; exact rfl)
                | (apply cell_one; exact rfl; exact rfl)
                | exact rfl
                | trivial
                )
              all_goals exact Stop.mk (by first | rfl | omega)
      · all_goals
          by_cases hc : addC (jz) iv = 0
          · repeat' (first
              | apply awp_seq
              | (apply awp_regionN; exact rfl)
              | (refine Hb.mk (fun hb => ?_); (first | rw [inB_t] at hb | rw [inB_f] at hb | rw [inB_nt] at hb | rw [inB_nf] at hb | rw [decide_eq_true_eq] at hb | rw [decide_eq_false_iff_not] at hb | rw [beq_iff_eq] at hb | rw [beq_eq_false_iff_ne] at hb | rw [Bool.not_eq_true'] at hb | rw [Bool.not_eq_false'] at hb | rw [bne_iff_ne] at hb | rw [bne_eq_false_iff_eq] at hb | skip); (first | (exfalso; omega) | (exact absurd rfl hb) | skip))
              | (apply aopG_ok; exact rfl)
              | apply ops_nil
              | (apply awp_enum 7; exact rfl; exact rfl; exact rfl)
              | (apply awp_drawq; exact rfl; kernel_rfl; kernel_rfl; exact rfl)
              | (apply awp_drawx; exact rfl; kernel_rfl; exact rfl)
              | (apply aopQ_ok; exact rfl)
              | apply qs_nil
              | (apply ch_nil; exact rfl)
              | (apply ch_cons; (· exact rfl); (· exact rfl); (· exact rfl); (· exact rfl); (· (intro w0 Z O; first | (apply aop_ok; exact rfl) | (apply QOk.ok; first | refine zk1 rfl rfl rfl rfl rfl ?_ | refine zk6 rfl rfl rfl rfl rfl ?_ | refine zk10 rfl rfl rfl rfl rfl ?_ | refine zk23 rfl rfl rfl rfl rfl rfl ?_ | refine zk28 ns_ok rfl rfl rfl rfl rfl rfl rfl rfl ?_) | refine st_call (journalAdd_s hc) rfl rfl rfl rfl rfl ?_); exact ⟨rfl, rfl, rfl⟩); (· exact rfl); (· exact rfl); (· (repeat' (first | apply And.intro | exact Or.inl rfl | exact Or.inr ⟨rfl, rfl⟩ | exact trivial))); (· (repeat' (first | apply And.intro | exact trivial | exact rfl | exact flatE_map (fun _ => rfl) | apply flatE_app))); (· exact rfl); (· exact rfl); (· exact rfl); (· exact rfl))
              | (apply aop_ok; exact rfl)
              | (apply ec_take; exact rfl; exact rfl; exact rfl; kernel_rfl; kernel_rfl; exact rfl)
              | (apply ec_end; exact rfl)
              | (apply ec_go; exact rfl)
              | apply ec_none
              | (apply ec_each; exact rfl; exact rfl; exact rfl)
              | (apply awp_cond_t; exact rfl)
              | (apply awp_cond_f; exact rfl)
              | (apply cond_x; exact rfl)
              | apply awp_block
              | apply awp_skip
              | apply awp_exit
              | apply awp_ret'
              | (first | (apply ops_cons; exact rfl) | (apply ops_yes; exact rfl; exact rfl; exact rfl))
              | (apply ops_x; exact rfl; exact rfl; (fail_if_success exact (rfl : _ = AV.d (.b true))); (fail_if_success exact (rfl : _ = AV.d (.b false))); exact rfl)
              | (first | (apply qs_cons; exact rfl) | (apply qs_yes; exact rfl; exact rfl; exact rfl))
              | (apply qs_x; exact rfl; exact rfl; (fail_if_success exact (rfl : _ = AV.d (.b true))); (fail_if_success exact (rfl : _ = AV.d (.b false))); exact rfl)
              | (apply q_id; first | refine st_callq (journalAdd_s hc) rfl rfl rfl rfl rfl ?_)
              | (apply op_id; first | refine st_call (journalAdd_s hc) rfl rfl rfl rfl rfl ?_ | (apply qok_q; exact rfl))
              | (apply q_id; first | refine zk1 rfl rfl rfl rfl rfl ?_ | refine zk6 rfl rfl rfl rfl rfl ?_ | refine zk10 rfl rfl rfl rfl rfl ?_ | refine zk23 rfl rfl rfl rfl rfl rfl ?_ | refine zk28 ns_ok rfl rfl rfl rfl rfl rfl rfl rfl ?_)
              )
            all_goals
              refine ⟨(n - 1, (false, jnAdd (jz) iv), ip, ih), ⟨⟨⟨(jnAdd_read hc).2, fun h => nomatch h⟩, by dsimp only; omega⟩, by dsimp only; omega⟩, by dsimp only; omega, ?_⟩
              refine ⟨rfl, ?_, ?_, rfl⟩
              repeat' (first
                | apply And.intro
                | (apply eq_b; exact rfl; exact Stop.mk (by with_reducible rfl))
                | (apply eq_b; exact rfl)
                | (apply eq_n; exact rfl; exact Stop.mk (by first | with_reducible rfl | omega))
                | (apply eq_n; exact rfl)
                | (apply eq_s; exact rfl; exact Stop.mk (by with_reducible rfl))
                | (apply eq_s; exact rfl)
                | (apply eq_sl; exact rfl; exact Stop.mk (by with_reducible rfl))
                | (apply eq_sl; exact rfl)
                | (apply eq_row; exact rfl; exact Stop.mk (by with_reducible rfl))
                | (apply eq_row; exact rfl)
                | (apply eq_agg; exact rfl)
                | (apply eq_cons; exact rfl)
                | (apply eq_boxo; exact rfl)
                | (apply cell_agg; exact rfl; exact rfl; exact rfl)
                | (apply cell_one; exact rfl; exact rfl)
                | exact rfl
                | trivial
                )
              all_goals exact Stop.mk (by first | rfl | omega)
          · repeat' (first
              | apply awp_seq
              | (apply awp_regionN; exact rfl)
              | (refine Hb.mk (fun hb => ?_); (first | rw [inB_t] at hb | rw [inB_f] at hb | rw [inB_nt] at hb | rw [inB_nf] at hb | rw [decide_eq_true_eq] at hb | rw [decide_eq_false_iff_not] at hb | rw [beq_iff_eq] at hb | rw [beq_eq_false_iff_ne] at hb | rw [Bool.not_eq_true'] at hb | rw [Bool.not_eq_false'] at hb | rw [bne_iff_ne] at hb | rw [bne_eq_false_iff_eq] at hb | skip); (first | (exfalso; omega) | (exact absurd rfl hb) | skip))
              | (apply aopG_ok; exact rfl)
              | apply ops_nil
              | (apply awp_enum 7; exact rfl; exact rfl; exact rfl)
              | (apply awp_drawq; exact rfl; kernel_rfl; kernel_rfl; exact rfl)
              | (apply awp_drawx; exact rfl; kernel_rfl; exact rfl)
              | (apply aopQ_ok; exact rfl)
              | apply qs_nil
              | (apply ch_nil; exact rfl)
              | (apply ch_cons; (· exact rfl); (· exact rfl); (· exact rfl); (· exact rfl); (· (intro w0 Z O; first | (apply aop_ok; exact rfl) | (apply QOk.ok; first | refine zk1 rfl rfl rfl rfl rfl ?_ | refine zk6 rfl rfl rfl rfl rfl ?_ | refine zk10 rfl rfl rfl rfl rfl ?_ | refine zk23 rfl rfl rfl rfl rfl rfl ?_ | refine zk28 ns_ok rfl rfl rfl rfl rfl rfl rfl rfl ?_) | refine st_call (journalAdd_s0 (j := jz) (s := iv) (by omega) (by omega) hc) rfl rfl rfl rfl rfl ?_); exact ⟨rfl, rfl, rfl⟩); (· exact rfl); (· exact rfl); (· (repeat' (first | apply And.intro | exact Or.inl rfl | exact Or.inr ⟨rfl, rfl⟩ | exact trivial))); (· (repeat' (first | apply And.intro | exact trivial | exact rfl | exact flatE_map (fun _ => rfl) | apply flatE_app))); (· exact rfl); (· exact rfl); (· exact rfl); (· exact rfl))
              | (apply aop_ok; exact rfl)
              | (apply ec_take; exact rfl; exact rfl; exact rfl; kernel_rfl; kernel_rfl; exact rfl)
              | (apply ec_end; exact rfl)
              | (apply ec_go; exact rfl)
              | apply ec_none
              | (apply ec_each; exact rfl; exact rfl; exact rfl)
              | (apply awp_cond_t; exact rfl)
              | (apply awp_cond_f; exact rfl)
              | (apply cond_x; exact rfl)
              | apply awp_block
              | apply awp_skip
              | apply awp_exit
              | apply awp_ret'
              | (first | (apply ops_cons; exact rfl) | (apply ops_yes; exact rfl; exact rfl; exact rfl))
              | (apply ops_x; exact rfl; exact rfl; (fail_if_success exact (rfl : _ = AV.d (.b true))); (fail_if_success exact (rfl : _ = AV.d (.b false))); exact rfl)
              | (first | (apply qs_cons; exact rfl) | (apply qs_yes; exact rfl; exact rfl; exact rfl))
              | (apply qs_x; exact rfl; exact rfl; (fail_if_success exact (rfl : _ = AV.d (.b true))); (fail_if_success exact (rfl : _ = AV.d (.b false))); exact rfl)
              | (apply q_id; first | refine st_callq (journalAdd_s0 (j := jz) (s := iv) (by omega) (by omega) hc) rfl rfl rfl rfl rfl ?_)
              | (apply op_id; first | refine st_call (journalAdd_s0 (j := jz) (s := iv) (by omega) (by omega) hc) rfl rfl rfl rfl rfl ?_ | (apply qok_q; exact rfl))
              | (apply q_id; first | refine zk1 rfl rfl rfl rfl rfl ?_ | refine zk6 rfl rfl rfl rfl rfl ?_ | refine zk10 rfl rfl rfl rfl rfl ?_ | refine zk23 rfl rfl rfl rfl rfl rfl ?_ | refine zk28 ns_ok rfl rfl rfl rfl rfl rfl rfl rfl ?_)
              )
            all_goals
              refine ⟨(n - 1, (true, jz), ip, ih), ⟨⟨⟨jz_ok, fun _ => rfl⟩, by dsimp only; omega⟩, by dsimp only; omega⟩, by dsimp only; omega, ?_⟩
              refine ⟨rfl, ?_, ?_, rfl⟩
              repeat' (first
                | apply And.intro
                | (apply eq_b; exact rfl; exact Stop.mk (by with_reducible rfl))
                | (apply eq_b; exact rfl)
                | (apply eq_n; exact rfl; exact Stop.mk (by first | with_reducible rfl | omega))
                | (apply eq_n; exact rfl)
                | (apply eq_s; exact rfl; exact Stop.mk (by with_reducible rfl))
                | (apply eq_s; exact rfl)
                | (apply eq_sl; exact rfl; exact Stop.mk (by with_reducible rfl))
                | (apply eq_sl; exact rfl)
                | (apply eq_row; exact rfl; exact Stop.mk (by with_reducible rfl))
                | (apply eq_row; exact rfl)
                | (apply eq_agg; exact rfl)
                | (apply eq_cons; exact rfl)
                | (apply eq_boxo; exact rfl)
                | (apply cell_agg; exact rfl; exact rfl; exact rfl)
                | (apply cell_one; exact rfl; exact rfl)
                | exact rfl
                | trivial
                )
              all_goals exact Stop.mk (by first | rfl | omega)
      · refine Stop.mk ?_
        refine' retM_x ⟨(true, jz), _, _⟩ _ [] rfl ?_
        any_goals refine RetG.mk ?_ ?_ ?_ ?_ ?_
        any_goals (refine Later.mk ?_; (try dsimp only [jxR, jxO]); exact rfl)
        repeat' (first
          | apply And.intro
          | (apply eq_b; exact rfl; exact Stop.mk (by with_reducible rfl))
          | (apply eq_b; exact rfl)
          | (apply eq_n; exact rfl; exact Stop.mk (by first | with_reducible rfl | omega))
          | (apply eq_n; exact rfl)
          | (apply eq_s; exact rfl; exact Stop.mk (by with_reducible rfl))
          | (apply eq_s; exact rfl)
          | (apply eq_sl; exact rfl; exact Stop.mk (by with_reducible rfl))
          | (apply eq_sl; exact rfl)
          | (apply eq_row; exact rfl; exact Stop.mk (by with_reducible rfl))
          | (apply eq_row; exact rfl)
          | (apply eq_agg; exact rfl)
          | (apply eq_cons; exact rfl)
          | (apply eq_boxo; exact rfl)
          | (apply cell_agg; exact rfl; exact rfl; exact rfl)
          | (apply cell_one; exact rfl; exact rfl)
          | exact rfl
          | exact trivial
          )
        all_goals first | exact Stop.mk rfl | (refine Later.mk ?_; dsimp only; (try simp only [ncast]); (try simp only [Int.ofNat_eq_natCast]); exact ⟨⟨jz_ok, fun _ => rfl⟩, by omega⟩)
    | false =>
      clear hz
      dsimp only
      by_cases hn0 : n = 0
      · subst hn0
        repeat' (first
          | apply awp_seq
          | (apply awp_regionN; exact rfl)
          | (refine Hb.mk (fun hb => ?_); (first | rw [inB_t] at hb | rw [inB_f] at hb | rw [inB_nt] at hb | rw [inB_nf] at hb | rw [decide_eq_true_eq] at hb | rw [decide_eq_false_iff_not] at hb | rw [beq_iff_eq] at hb | rw [beq_eq_false_iff_ne] at hb | rw [Bool.not_eq_true'] at hb | rw [Bool.not_eq_false'] at hb | rw [bne_iff_ne] at hb | rw [bne_eq_false_iff_eq] at hb | skip); (first | (exfalso; omega) | (exact absurd rfl hb) | skip))
          | (apply aopG_ok; exact rfl)
          | apply ops_nil
          | (apply awp_drawq; exact rfl; kernel_rfl; kernel_rfl; exact rfl)
          | (apply awp_drawx; exact rfl; kernel_rfl; exact rfl)
          | (apply aopQ_ok; exact rfl)
          | apply qs_nil
          | (apply ch_nil; exact rfl)
          | (apply ch_cons; (· exact rfl); (· exact rfl); (· exact rfl); (· exact rfl); (· (intro w0 Z O; first | (apply aop_ok; exact rfl) | (apply QOk.ok; first | refine zk1 rfl rfl rfl rfl rfl ?_ | refine zk6 rfl rfl rfl rfl rfl ?_ | refine zk10 rfl rfl rfl rfl rfl ?_ | refine zk23 rfl rfl rfl rfl rfl rfl ?_ | refine zk28 ns_ok rfl rfl rfl rfl rfl rfl rfl rfl ?_)); exact ⟨rfl, rfl, rfl⟩); (· exact rfl); (· exact rfl); (· (repeat' (first | apply And.intro | exact Or.inl rfl | exact Or.inr ⟨rfl, rfl⟩ | exact trivial))); (· (repeat' (first | apply And.intro | exact trivial | exact rfl | exact flatE_map (fun _ => rfl) | apply flatE_app))); (· exact rfl); (· exact rfl); (· exact rfl); (· exact rfl))
          | (apply awp_cond_t; exact rfl)
          | (apply awp_cond_f; exact rfl)
          | (apply cond_x; exact rfl)
          | apply awp_block
          | apply awp_skip
          | apply awp_exit
          | apply awp_ret'
          | (first | (apply ops_cons; exact rfl) | (apply ops_yes; exact rfl; exact rfl; exact rfl))
          | (apply ops_x; exact rfl; exact rfl; (fail_if_success exact (rfl : _ = AV.d (.b true))); (fail_if_success exact (rfl : _ = AV.d (.b false))); exact rfl)
          | (first | (apply qs_cons; exact rfl) | (apply qs_yes; exact rfl; exact rfl; exact rfl))
          | (apply qs_x; exact rfl; exact rfl; (fail_if_success exact (rfl : _ = AV.d (.b true))); (fail_if_success exact (rfl : _ = AV.d (.b false))); exact rfl)
          | (apply op_id; first | (apply qok_q; exact rfl))
          | (apply q_id; first | refine zk1 rfl rfl rfl rfl rfl ?_ | refine zk6 rfl rfl rfl rfl rfl ?_ | refine zk10 rfl rfl rfl rfl rfl ?_ | refine zk23 rfl rfl rfl rfl rfl rfl ?_ | refine zk28 ns_ok rfl rfl rfl rfl rfl rfl rfl rfl ?_)
          )
        refine Stop.mk ?_
        refine' retM_x ⟨(false, j), _, _⟩ _ [21] rfl ?_
        any_goals refine RetG.mk ?_ ?_ ?_ ?_ ?_
        any_goals (refine Later.mk ?_; (try dsimp only [jxR, jxO]); exact rfl)
        repeat' (first
          | apply And.intro
          | (apply eq_b; exact rfl; exact Stop.mk (by with_reducible rfl))
          | (apply eq_b; exact rfl)
          | (apply eq_n; exact rfl; exact Stop.mk (by first | with_reducible rfl | omega))
          | (apply eq_n; exact rfl)
          | (apply eq_s; exact rfl; exact Stop.mk (by with_reducible rfl))
          | (apply eq_s; exact rfl)
          | (apply eq_sl; exact rfl; exact Stop.mk (by with_reducible rfl))
          | (apply eq_sl; exact rfl)
          | (apply eq_row; exact rfl; exact Stop.mk (by with_reducible rfl))
          | (apply eq_row; exact rfl)
          | (apply eq_agg; exact rfl)
          | (apply eq_cons; exact rfl)
          | (apply eq_boxo; exact rfl)
          | (apply cell_agg; exact rfl; exact rfl; exact rfl)
          | (apply cell_one; exact rfl; exact rfl)
          | exact rfl
          | exact trivial
          )
        all_goals first | exact Stop.mk rfl | (refine Later.mk ?_; dsimp only; (try simp only [ncast]); (try simp only [Int.ofNat_eq_natCast]); exact ⟨⟨hj, fun h => nomatch h⟩, by omega⟩)
      refine awp_frz 21 rfl ?_
      repeat' (first
        | apply awp_seq
        | (apply awp_regionN; exact rfl)
        | (refine Hb.mk (fun hb => ?_); (first | rw [inB_t] at hb | rw [inB_f] at hb | rw [inB_nt] at hb | rw [inB_nf] at hb | rw [decide_eq_true_eq] at hb | rw [decide_eq_false_iff_not] at hb | rw [beq_iff_eq] at hb | rw [beq_eq_false_iff_ne] at hb | rw [Bool.not_eq_true'] at hb | rw [Bool.not_eq_false'] at hb | rw [bne_iff_ne] at hb | rw [bne_eq_false_iff_eq] at hb | skip); (first | (exfalso; omega) | (exact absurd rfl hb) | skip))
        | (apply aopG_ok; exact rfl)
        | apply ops_nil
        | (apply awp_enum 7; exact rfl; exact rfl; exact rfl)
        | (apply awp_drawq; exact rfl; kernel_rfl; kernel_rfl; exact rfl)
        | (apply awp_drawx; exact rfl; kernel_rfl; exact rfl)
        | (apply aopQ_ok; exact rfl)
        | apply qs_nil
        | (apply ch_nil; exact rfl)
        | (apply ch_cons; (· exact rfl); (· exact rfl); (· exact rfl); (· exact rfl); (· (intro w0 Z O; first | (apply aop_ok; exact rfl) | (apply QOk.ok; first | refine zk1 rfl rfl rfl rfl rfl ?_ | refine zk6 rfl rfl rfl rfl rfl ?_ | refine zk10 rfl rfl rfl rfl rfl ?_ | refine zk23 rfl rfl rfl rfl rfl rfl ?_ | refine zk28 ns_ok rfl rfl rfl rfl rfl rfl rfl rfl ?_) | refine st_call (journalSync_s (j := j) (by omega) hj) rfl rfl rfl rfl rfl ?_ | refine st_callm [1000000] (l01Below_c hL (by omega)) rfl rfl rfl rfl rfl (fun _ _ => rfl) rfl (fun i hi => ?_); obtain ⟨iv, ip, ih⟩ := i; (try dsimp only at hi) | refine st_callm [1000000] (l07Text_c hL (by omega)) rfl rfl rfl rfl rfl (fun _ _ => rfl) rfl (fun i hi => ?_); obtain ⟨iv, ip, ih⟩ := i; (try dsimp only at hi)); exact ⟨rfl, rfl, rfl⟩); (· exact rfl); (· exact rfl); (· (repeat' (first | apply And.intro | exact Or.inl rfl | exact Or.inr ⟨rfl, rfl⟩ | exact trivial))); (· (repeat' (first | apply And.intro | exact trivial | exact rfl | exact flatE_map (fun _ => rfl) | apply flatE_app))); (· exact rfl); (· exact rfl); (· exact rfl); (· exact rfl))
        | (apply aop_ok; exact rfl)
        | (apply ec_take; exact rfl; exact rfl; exact rfl; kernel_rfl; kernel_rfl; exact rfl)
        | (apply ec_end; exact rfl)
        | (apply ec_go; exact rfl)
        | apply ec_none
        | (apply ec_each; exact rfl; exact rfl; exact rfl)
        | (apply awp_cond_t; exact rfl)
        | (apply awp_cond_f; exact rfl)
        | (apply cond_x; exact rfl)
        | apply awp_block
        | apply awp_skip
        | apply awp_exit
        | apply awp_ret'
        | (first | (apply ops_cons; exact rfl) | (apply ops_yes; exact rfl; exact rfl; exact rfl))
        | (apply ops_x; exact rfl; exact rfl; (fail_if_success exact (rfl : _ = AV.d (.b true))); (fail_if_success exact (rfl : _ = AV.d (.b false))); exact rfl)
        | (first | (apply qs_cons; exact rfl) | (apply qs_yes; exact rfl; exact rfl; exact rfl))
        | (apply qs_x; exact rfl; exact rfl; (fail_if_success exact (rfl : _ = AV.d (.b true))); (fail_if_success exact (rfl : _ = AV.d (.b false))); exact rfl)
        | (apply q_id; first | refine st_callq (journalSync_s (j := j) (by omega) hj) rfl rfl rfl rfl rfl ?_)
        | (apply op_id; first | refine st_call (journalSync_s (j := j) (by omega) hj) rfl rfl rfl rfl rfl ?_ | (refine st_callm [1000000] (l01Below_c hL (by omega)) rfl rfl rfl rfl rfl (fun _ _ => rfl) rfl (fun i hi => ?_); obtain ⟨iv, ip, ih⟩ := i; (try dsimp only at hi)) | (refine st_callm [1000000] (l07Text_c hL (by omega)) rfl rfl rfl rfl rfl (fun _ _ => rfl) rfl (fun i hi => ?_); obtain ⟨iv, ip, ih⟩ := i; (try dsimp only at hi)) | (apply qok_q; exact rfl))
        | (apply q_id; first | refine zk1 rfl rfl rfl rfl rfl ?_ | refine zk6 rfl rfl rfl rfl rfl ?_ | refine zk10 rfl rfl rfl rfl rfl ?_ | refine zk23 rfl rfl rfl rfl rfl rfl ?_ | refine zk28 ns_ok rfl rfl rfl rfl rfl rfl rfl rfl ?_)
        )
      · all_goals
          by_cases hc : addC (jnSync j) iv = 0
          · repeat' (first
              | apply awp_seq
              | (apply awp_regionN; exact rfl)
              | (refine Hb.mk (fun hb => ?_); (first | rw [inB_t] at hb | rw [inB_f] at hb | rw [inB_nt] at hb | rw [inB_nf] at hb | rw [decide_eq_true_eq] at hb | rw [decide_eq_false_iff_not] at hb | rw [beq_iff_eq] at hb | rw [beq_eq_false_iff_ne] at hb | rw [Bool.not_eq_true'] at hb | rw [Bool.not_eq_false'] at hb | rw [bne_iff_ne] at hb | rw [bne_eq_false_iff_eq] at hb | skip); (first | (exfalso; omega) | (exact absurd rfl hb) | skip))
              | (apply aopG_ok; exact rfl)
              | apply ops_nil
              | (apply awp_enum 7; exact rfl; exact rfl; exact rfl)
              | (apply awp_drawq; exact rfl; kernel_rfl; kernel_rfl; exact rfl)
              | (apply awp_drawx; exact rfl; kernel_rfl; exact rfl)
              | (apply aopQ_ok; exact rfl)
              | apply qs_nil
              | (apply ch_nil; exact rfl)
              | (apply ch_cons; (· exact rfl); (· exact rfl); (· exact rfl); (· exact rfl); (· (intro w0 Z O; first | (apply aop_ok; exact rfl) | (apply QOk.ok; first | refine zk1 rfl rfl rfl rfl rfl ?_ | refine zk6 rfl rfl rfl rfl rfl ?_ | refine zk10 rfl rfl rfl rfl rfl ?_ | refine zk23 rfl rfl rfl rfl rfl rfl ?_ | refine zk28 ns_ok rfl rfl rfl rfl rfl rfl rfl rfl ?_) | refine st_call (journalAdd_s hc) rfl rfl rfl rfl rfl ?_); exact ⟨rfl, rfl, rfl⟩); (· exact rfl); (· exact rfl); (· (repeat' (first | apply And.intro | exact Or.inl rfl | exact Or.inr ⟨rfl, rfl⟩ | exact trivial))); (· (repeat' (first | apply And.intro | exact trivial | exact rfl | exact flatE_map (fun _ => rfl) | apply flatE_app))); (· exact rfl); (· exact rfl); (· exact rfl); (· exact rfl))
              | (apply aop_ok; exact rfl)
              | (apply ec_take; exact rfl; exact rfl; exact rfl; kernel_rfl; kernel_rfl; exact rfl)
              | (apply ec_end; exact rfl)
              | (apply ec_go; exact rfl)
              | apply ec_none
              | (apply ec_each; exact rfl; exact rfl; exact rfl)
              | (apply awp_cond_t; exact rfl)
              | (apply awp_cond_f; exact rfl)
              | (apply cond_x; exact rfl)
              | apply awp_block
              | apply awp_skip
              | apply awp_exit
              | apply awp_ret'
              | (first | (apply ops_cons; exact rfl) | (apply ops_yes; exact rfl; exact rfl; exact rfl))
              | (apply ops_x; exact rfl; exact rfl; (fail_if_success exact (rfl : _ = AV.d (.b true))); (fail_if_success exact (rfl : _ = AV.d (.b false))); exact rfl)
              | (first | (apply qs_cons; exact rfl) | (apply qs_yes; exact rfl; exact rfl; exact rfl))
              | (apply qs_x; exact rfl; exact rfl; (fail_if_success exact (rfl : _ = AV.d (.b true))); (fail_if_success exact (rfl : _ = AV.d (.b false))); exact rfl)
              | (apply q_id; first | refine st_callq (journalAdd_s hc) rfl rfl rfl rfl rfl ?_)
              | (apply op_id; first | refine st_call (journalAdd_s hc) rfl rfl rfl rfl rfl ?_ | (apply qok_q; exact rfl))
              | (apply q_id; first | refine zk1 rfl rfl rfl rfl rfl ?_ | refine zk6 rfl rfl rfl rfl rfl ?_ | refine zk10 rfl rfl rfl rfl rfl ?_ | refine zk23 rfl rfl rfl rfl rfl rfl ?_ | refine zk28 ns_ok rfl rfl rfl rfl rfl rfl rfl rfl ?_)
              )
            all_goals
              refine ⟨(n - 1, (false, jnAdd (jnSync j) iv), ip, ih), ⟨⟨⟨(jnAdd_read hc).2, fun h => nomatch h⟩, by dsimp only; omega⟩, by dsimp only; omega⟩, by dsimp only; omega, ?_⟩
              refine ⟨rfl, ?_, ?_, rfl⟩
              repeat' (first
                | apply And.intro
                | (apply eq_b; exact rfl; exact Stop.mk (by with_reducible rfl))
                | (apply eq_b; exact rfl)
                | (apply eq_n; exact rfl; exact Stop.mk (by first | with_reducible rfl | omega))
                | (apply eq_n; exact rfl)
                | (apply eq_s; exact rfl; exact Stop.mk (by with_reducible rfl))
                | (apply eq_s; exact rfl)
                | (apply eq_sl; exact rfl; exact Stop.mk (by with_reducible rfl))
                | (apply eq_sl; exact rfl)
                | (apply eq_row; exact rfl; exact Stop.mk (by with_reducible rfl))
                | (apply eq_row; exact rfl)
                | (apply eq_agg; exact rfl)
                | (apply eq_cons; exact rfl)
                | (apply eq_boxo; exact rfl)
                | (apply cell_agg; exact rfl; exact rfl; exact rfl)
                | (apply cell_one; exact rfl; exact rfl)
                | exact rfl
                | trivial
                )
              all_goals exact Stop.mk (by first | rfl | omega)
          · repeat' (first
              | apply awp_seq
              | (apply awp_regionN; exact rfl)
              | (refine Hb.mk (fun hb => ?_); (first | rw [inB_t] at hb | rw [inB_f] at hb | rw [inB_nt] at hb | rw [inB_nf] at hb | rw [decide_eq_true_eq] at hb | rw [decide_eq_false_iff_not] at hb | rw [beq_iff_eq] at hb | rw [beq_eq_false_iff_ne] at hb | rw [Bool.not_eq_true'] at hb | rw [Bool.not_eq_false'] at hb | rw [bne_iff_ne] at hb | rw [bne_eq_false_iff_eq] at hb | skip); (first | (exfalso; omega) | (exact absurd rfl hb) | skip))
              | (apply aopG_ok; exact rfl)
              | apply ops_nil
              | (apply awp_enum 7; exact rfl; exact rfl; exact rfl)
              | (apply awp_drawq; exact rfl; kernel_rfl; kernel_rfl; exact rfl)
              | (apply awp_drawx; exact rfl; kernel_rfl; exact rfl)
              | (apply aopQ_ok; exact rfl)
              | apply qs_nil
              | (apply ch_nil; exact rfl)
              | (apply ch_cons; (· exact rfl); (· exact rfl); (· exact rfl); (· exact rfl); (· (intro w0 Z O; first | (apply aop_ok; exact rfl) | (apply QOk.ok; first | refine zk1 rfl rfl rfl rfl rfl ?_ | refine zk6 rfl rfl rfl rfl rfl ?_ | refine zk10 rfl rfl rfl rfl rfl ?_ | refine zk23 rfl rfl rfl rfl rfl rfl ?_ | refine zk28 ns_ok rfl rfl rfl rfl rfl rfl rfl rfl ?_) | refine st_call (journalAdd_s0 (j := jnSync j) (s := iv) (by omega) (by omega) hc) rfl rfl rfl rfl rfl ?_); exact ⟨rfl, rfl, rfl⟩); (· exact rfl); (· exact rfl); (· (repeat' (first | apply And.intro | exact Or.inl rfl | exact Or.inr ⟨rfl, rfl⟩ | exact trivial))); (· (repeat' (first | apply And.intro | exact trivial | exact rfl | exact flatE_map (fun _ => rfl) | apply flatE_app))); (· exact rfl); (· exact rfl); (· exact rfl); (· exact rfl))
              | (apply aop_ok; exact rfl)
              | (apply ec_take; exact rfl; exact rfl; exact rfl; kernel_rfl; kernel_rfl; exact rfl)
              | (apply ec_end; exact rfl)
              | (apply ec_go; exact rfl)
              | apply ec_none
              | (apply ec_each; exact rfl; exact rfl; exact rfl)
              | (apply awp_cond_t; exact rfl)
              | (apply awp_cond_f; exact rfl)
              | (apply cond_x; exact rfl)
              | apply awp_block
              | apply awp_skip
              | apply awp_exit
              | apply awp_ret'
              | (first | (apply ops_cons; exact rfl) | (apply ops_yes; exact rfl; exact rfl; exact rfl))
              | (apply ops_x; exact rfl; exact rfl; (fail_if_success exact (rfl : _ = AV.d (.b true))); (fail_if_success exact (rfl : _ = AV.d (.b false))); exact rfl)
              | (first | (apply qs_cons; exact rfl) | (apply qs_yes; exact rfl; exact rfl; exact rfl))
              | (apply qs_x; exact rfl; exact rfl; (fail_if_success exact (rfl : _ = AV.d (.b true))); (fail_if_success exact (rfl : _ = AV.d (.b false))); exact rfl)
              | (apply q_id; first | refine st_callq (journalAdd_s0 (j := jnSync j) (s := iv) (by omega) (by omega) hc) rfl rfl rfl rfl rfl ?_)
              | (apply op_id; first | refine st_call (journalAdd_s0 (j := jnSync j) (s := iv) (by omega) (by omega) hc) rfl rfl rfl rfl rfl ?_ | (apply qok_q; exact rfl))
              | (apply q_id; first | refine zk1 rfl rfl rfl rfl rfl ?_ | refine zk6 rfl rfl rfl rfl rfl ?_ | refine zk10 rfl rfl rfl rfl rfl ?_ | refine zk23 rfl rfl rfl rfl rfl rfl ?_ | refine zk28 ns_ok rfl rfl rfl rfl rfl rfl rfl rfl ?_)
              )
            all_goals
              refine ⟨(n - 1, (true, jz), ip, ih), ⟨⟨⟨jz_ok, fun _ => rfl⟩, by dsimp only; omega⟩, by dsimp only; omega⟩, by dsimp only; omega, ?_⟩
              refine ⟨rfl, ?_, ?_, rfl⟩
              repeat' (first
                | apply And.intro
                | (apply eq_b; exact rfl; exact Stop.mk (by with_reducible rfl))
                | (apply eq_b; exact rfl)
                | (apply eq_n; exact rfl; exact Stop.mk (by first | with_reducible rfl | omega))
                | (apply eq_n; exact rfl)
                | (apply eq_s; exact rfl; exact Stop.mk (by with_reducible rfl))
                | (apply eq_s; exact rfl)
                | (apply eq_sl; exact rfl; exact Stop.mk (by with_reducible rfl))
                | (apply eq_sl; exact rfl)
                | (apply eq_row; exact rfl; exact Stop.mk (by with_reducible rfl))
                | (apply eq_row; exact rfl)
                | (apply eq_agg; exact rfl)
                | (apply eq_cons; exact rfl)
                | (apply eq_boxo; exact rfl)
                | (apply cell_agg; exact rfl; exact rfl; exact rfl)
                | (apply cell_one; exact rfl; exact rfl)
                | exact rfl
                | trivial
                )
              all_goals exact Stop.mk (by first | rfl | omega)
      · all_goals
          by_cases hc : addC (jnSync j) iv = 0
          · repeat' (first
              | apply awp_seq
              | (apply awp_regionN; exact rfl)
              | (refine Hb.mk (fun hb => ?_); (first | rw [inB_t] at hb | rw [inB_f] at hb | rw [inB_nt] at hb | rw [inB_nf] at hb | rw [decide_eq_true_eq] at hb | rw [decide_eq_false_iff_not] at hb | rw [beq_iff_eq] at hb | rw [beq_eq_false_iff_ne] at hb | rw [Bool.not_eq_true'] at hb | rw [Bool.not_eq_false'] at hb | rw [bne_iff_ne] at hb | rw [bne_eq_false_iff_eq] at hb | skip); (first | (exfalso; omega) | (exact absurd rfl hb) | skip))
              | (apply aopG_ok; exact rfl)
              | apply ops_nil
              | (apply awp_enum 7; exact rfl; exact rfl; exact rfl)
              | (apply awp_drawq; exact rfl; kernel_rfl; kernel_rfl; exact rfl)
              | (apply awp_drawx; exact rfl; kernel_rfl; exact rfl)
              | (apply aopQ_ok; exact rfl)
              | apply qs_nil
              | (apply ch_nil; exact rfl)
              | (apply ch_cons; (· exact rfl); (· exact rfl); (· exact rfl); (· exact rfl); (· (intro w0 Z O; first | (apply aop_ok; exact rfl) | (apply QOk.ok; first | refine zk1 rfl rfl rfl rfl rfl ?_ | refine zk6 rfl rfl rfl rfl rfl ?_ | refine zk10 rfl rfl rfl rfl rfl ?_ | refine zk23 rfl rfl rfl rfl rfl rfl ?_ | refine zk28 ns_ok rfl rfl rfl rfl rfl rfl rfl rfl ?_) | refine st_call (journalAdd_s hc) rfl rfl rfl rfl rfl ?_); exact ⟨rfl, rfl, rfl⟩); (· exact rfl); (· exact rfl); (· (repeat' (first | apply And.intro | exact Or.inl rfl | exact Or.inr ⟨rfl, rfl⟩ | exact trivial))); (· (repeat' (first | apply And.intro | exact trivial | exact rfl | exact flatE_map (fun _ => rfl) | apply flatE_app))); (· exact rfl); (· exact rfl); (· exact rfl); (· exact rfl))
              | (apply aop_ok; exact rfl)
              | (apply ec_take; exact rfl; exact rfl; exact rfl; kernel_rfl; kernel_rfl; exact rfl)
              | (apply ec_end; exact rfl)
              | (apply ec_go; exact rfl)
              | apply ec_none
              | (apply ec_each; exact rfl; exact rfl; exact rfl)
              | (apply awp_cond_t; exact rfl)
              | (apply awp_cond_f; exact rfl)
              | (apply cond_x; exact rfl)
              | apply awp_block
              | apply awp_skip
              | apply awp_exit
              | apply awp_ret'
              | (first | (apply ops_cons; exact rfl) | (apply ops_yes; exact rfl; exact rfl; exact rfl))
              | (apply ops_x; exact rfl; exact rfl; (fail_if_success exact (rfl : _ = AV.d (.b true))); (fail_if_success exact (rfl : _ = AV.d (.b false))); exact rfl)
              | (first | (apply qs_cons; exact rfl) | (apply qs_yes; exact rfl; exact rfl; exact rfl))
              | (apply qs_x; exact rfl; exact rfl; (fail_if_success exact (rfl : _ = AV.d (.b true))); (fail_if_success exact (rfl : _ = AV.d (.b false))); exact rfl)
              | (apply q_id; first | refine st_callq (journalAdd_s hc) rfl rfl rfl rfl rfl ?_)
              | (apply op_id; first | refine st_call (journalAdd_s hc) rfl rfl rfl rfl rfl ?_ | (apply qok_q; exact rfl))
              | (apply q_id; first | refine zk1 rfl rfl rfl rfl rfl ?_ | refine zk6 rfl rfl rfl rfl rfl ?_ | refine zk10 rfl rfl rfl rfl rfl ?_ | refine zk23 rfl rfl rfl rfl rfl rfl ?_ | refine zk28 ns_ok rfl rfl rfl rfl rfl rfl rfl rfl ?_)
              )
            all_goals
              refine ⟨(n - 1, (false, jnAdd (jnSync j) iv), ip, ih), ⟨⟨⟨(jnAdd_read hc).2, fun h => nomatch h⟩, by dsimp only; omega⟩, by dsimp only; omega⟩, by dsimp only; omega, ?_⟩
              refine ⟨rfl, ?_, ?_, rfl⟩
              repeat' (first
                | apply And.intro
                | (apply eq_b; exact rfl; exact Stop.mk (by with_reducible rfl))
                | (apply eq_b; exact rfl)
                | (apply eq_n; exact rfl; exact Stop.mk (by first | with_reducible rfl | omega))
                | (apply eq_n; exact rfl)
                | (apply eq_s; exact rfl; exact Stop.mk (by with_reducible rfl))
                | (apply eq_s; exact rfl)
                | (apply eq_sl; exact rfl; exact Stop.mk (by with_reducible rfl))
                | (apply eq_sl; exact rfl)
                | (apply eq_row; exact rfl; exact Stop.mk (by with_reducible rfl))
                | (apply eq_row; exact rfl)
                | (apply eq_agg; exact rfl)
                | (apply eq_cons; exact rfl)
                | (apply eq_boxo; exact rfl)
                | (apply cell_agg; exact rfl; exact rfl; exact rfl)
                | (apply cell_one; exact rfl; exact rfl)
                | exact rfl
                | trivial
                )
              all_goals exact Stop.mk (by first | rfl | omega)
          · repeat' (first
              | apply awp_seq
              | (apply awp_regionN; exact rfl)
              | (refine Hb.mk (fun hb => ?_); (first | rw [inB_t] at hb | rw [inB_f] at hb | rw [inB_nt] at hb | rw [inB_nf] at hb | rw [decide_eq_true_eq] at hb | rw [decide_eq_false_iff_not] at hb | rw [beq_iff_eq] at hb | rw [beq_eq_false_iff_ne] at hb | rw [Bool.not_eq_true'] at hb | rw [Bool.not_eq_false'] at hb | rw [bne_iff_ne] at hb | rw [bne_eq_false_iff_eq] at hb | skip); (first | (exfalso; omega) | (exact absurd rfl hb) | skip))
              | (apply aopG_ok; exact rfl)
              | apply ops_nil
              | (apply awp_enum 7; exact rfl; exact rfl; exact rfl)
              | (apply awp_drawq; exact rfl; kernel_rfl; kernel_rfl; exact rfl)
              | (apply awp_drawx; exact rfl; kernel_rfl; exact rfl)
              | (apply aopQ_ok; exact rfl)
              | apply qs_nil
              | (apply ch_nil; exact rfl)
              | (apply ch_cons; (· exact rfl); (· exact rfl); (· exact rfl); (· exact rfl); (· (intro w0 Z O; first | (apply aop_ok; exact rfl) | (apply QOk.ok; first | refine zk1 rfl rfl rfl rfl rfl ?_ | refine zk6 rfl rfl rfl rfl rfl ?_ | refine zk10 rfl rfl rfl rfl rfl ?_ | refine zk23 rfl rfl rfl rfl rfl rfl ?_ | refine zk28 ns_ok rfl rfl rfl rfl rfl rfl rfl rfl ?_) | refine st_call (journalAdd_s0 (j := jnSync j) (s := iv) (by omega) (by omega) hc) rfl rfl rfl rfl rfl ?_); exact ⟨rfl, rfl, rfl⟩); (· exact rfl); (· exact rfl); (· (repeat' (first | apply And.intro | exact Or.inl rfl | exact Or.inr ⟨rfl, rfl⟩ | exact trivial))); (· (repeat' (first | apply And.intro | exact trivial | exact rfl | exact flatE_map (fun _ => rfl) | apply flatE_app))); (· exact rfl); (· exact rfl); (· exact rfl); (· exact rfl))
              | (apply aop_ok; exact rfl)
              | (apply ec_take; exact rfl; exact rfl; exact rfl; kernel_rfl; kernel_rfl; exact rfl)
              | (apply ec_end; exact rfl)
              | (apply ec_go; exact rfl)
              | apply ec_none
              | (apply ec_each; exact rfl; exact rfl; exact rfl)
              | (apply awp_cond_t; exact rfl)
              | (apply awp_cond_f; exact rfl)
              | (apply cond_x; exact rfl)
              | apply awp_block
              | apply awp_skip
              | apply awp_exit
              | apply awp_ret'
              | (first | (apply ops_cons; exact rfl) | (apply ops_yes; exact rfl; exact rfl; exact rfl))
              | (apply ops_x; exact rfl; exact rfl; (fail_if_success exact (rfl : _ = AV.d (.b true))); (fail_if_success exact (rfl : _ = AV.d (.b false))); exact rfl)
              | (first | (apply qs_cons; exact rfl) | (apply qs_yes; exact rfl; exact rfl; exact rfl))
              | (apply qs_x; exact rfl; exact rfl; (fail_if_success exact (rfl : _ = AV.d (.b true))); (fail_if_success exact (rfl : _ = AV.d (.b false))); exact rfl)
              | (apply q_id; first | refine st_callq (journalAdd_s0 (j := jnSync j) (s := iv) (by omega) (by omega) hc) rfl rfl rfl rfl rfl ?_)
              | (apply op_id; first | refine st_call (journalAdd_s0 (j := jnSync j) (s := iv) (by omega) (by omega) hc) rfl rfl rfl rfl rfl ?_ | (apply qok_q; exact rfl))
              | (apply q_id; first | refine zk1 rfl rfl rfl rfl rfl ?_ | refine zk6 rfl rfl rfl rfl rfl ?_ | refine zk10 rfl rfl rfl rfl rfl ?_ | refine zk23 rfl rfl rfl rfl rfl rfl ?_ | refine zk28 ns_ok rfl rfl rfl rfl rfl rfl rfl rfl ?_)
              )
            all_goals
              refine ⟨(n - 1, (true, jz), ip, ih), ⟨⟨⟨jz_ok, fun _ => rfl⟩, by dsimp only; omega⟩, by dsimp only; omega⟩, by dsimp only; omega, ?_⟩
              refine ⟨rfl, ?_, ?_, rfl⟩
              repeat' (first
                | apply And.intro
                | (apply eq_b; exact rfl; exact Stop.mk (by with_reducible rfl))
                | (apply eq_b; exact rfl)
                | (apply eq_n; exact rfl; exact Stop.mk (by first | with_reducible rfl | omega))
                | (apply eq_n; exact rfl)
                | (apply eq_s; exact rfl; exact Stop.mk (by with_reducible rfl))
                | (apply eq_s; exact rfl)
                | (apply eq_sl; exact rfl; exact Stop.mk (by with_reducible rfl))
                | (apply eq_sl; exact rfl)
                | (apply eq_row; exact rfl; exact Stop.mk (by with_reducible rfl))
                | (apply eq_row; exact rfl)
                | (apply eq_agg; exact rfl)
                | (apply eq_cons; exact rfl)
                | (apply eq_boxo; exact rfl)
                | (apply cell_agg; exact rfl; exact rfl; exact rfl)
                | (apply cell_one; exact rfl; exact rfl)
                | exact rfl
                | trivial
                )
              all_goals exact Stop.mk (by first | rfl | omega)
      · all_goals
          by_cases hc : addC (j) iv = 0
          · repeat' (first
              | apply awp_seq
              | (apply awp_regionN; exact rfl)
              | (refine Hb.mk (fun hb => ?_); (first | rw [inB_t] at hb | rw [inB_f] at hb | rw [inB_nt] at hb | rw [inB_nf] at hb | rw [decide_eq_true_eq] at hb | rw [decide_eq_false_iff_not] at hb | rw [beq_iff_eq] at hb | rw [beq_eq_false_iff_ne] at hb | rw [Bool.not_eq_true'] at hb | rw [Bool.not_eq_false'] at hb | rw [bne_iff_ne] at hb | rw [bne_eq_false_iff_eq] at hb | skip); (first | (exfalso; omega) | (exact absurd rfl hb) | skip))
              | (apply aopG_ok; exact rfl)
              | apply ops_nil
              | (apply awp_enum 7; exact rfl; exact rfl; exact rfl)
              | (apply awp_drawq; exact rfl; kernel_rfl; kernel_rfl; exact rfl)
              | (apply awp_drawx; exact rfl; kernel_rfl; exact rfl)
              | (apply aopQ_ok; exact rfl)
              | apply qs_nil
              | (apply ch_nil; exact rfl)
              | (apply ch_cons; (· exact rfl); (· exact rfl); (· exact rfl); (· exact rfl); (· (intro w0 Z O; first | (apply aop_ok; exact rfl) | (apply QOk.ok; first | refine zk1 rfl rfl rfl rfl rfl ?_ | refine zk6 rfl rfl rfl rfl rfl ?_ | refine zk10 rfl rfl rfl rfl rfl ?_ | refine zk23 rfl rfl rfl rfl rfl rfl ?_ | refine zk28 ns_ok rfl rfl rfl rfl rfl rfl rfl rfl ?_) | refine st_call (journalAdd_s hc) rfl rfl rfl rfl rfl ?_); exact ⟨rfl, rfl, rfl⟩); (· exact rfl); (· exact rfl); (· (repeat' (first | apply And.intro | exact Or.inl rfl | exact Or.inr ⟨rfl, rfl⟩ | exact trivial))); (· (repeat' (first | apply And.intro | exact trivial | exact rfl | exact flatE_map (fun _ => rfl) | apply flatE_app))); (· exact rfl); (· exact rfl); (· exact rfl); (· exact rfl))
              | (apply aop_ok; exact rfl)
              | (apply ec_take; exact rfl; exact rfl; exact rfl; kernel_rfl; kernel_rfl; exact rfl)
              | (apply ec_end; exact rfl)
              | (apply ec_go; exact rfl)
              | apply ec_none
              | (apply ec_each; exact rfl; exact rfl; exact rfl)
              | (apply awp_cond_t; exact rfl)
              | (apply awp_cond_f; exact rfl)
              | (apply cond_x; exact rfl)
              | apply awp_block
              | apply awp_skip
              | apply awp_exit
              | apply awp_ret'
              | (first | (apply ops_cons; exact rfl) | (apply ops_yes; exact rfl; exact rfl; exact rfl))
              | (apply ops_x; exact rfl; exact rfl; (fail_if_success exact (rfl : _ = AV.d (.b true))); (fail_if_success exact (rfl : _ = AV.d (.b false))); exact rfl)
              | (first | (apply qs_cons; exact rfl) | (apply qs_yes; exact rfl; exact rfl; exact rfl))
              | (apply qs_x; exact rfl; exact rfl; (fail_if_success exact (rfl : _ = AV.d (.b true))); (fail_if_success exact (rfl : _ = AV.d (.b false))); exact rfl)
              | (apply q_id; first | refine st_callq (journalAdd_s hc) rfl rfl rfl rfl rfl ?_)
              | (apply op_id; first | refine st_call (journalAdd_s hc) rfl rfl rfl rfl rfl ?_ | (apply qok_q; exact rfl))
              | (apply q_id; first | refine zk1 rfl rfl rfl rfl rfl ?_ | refine zk6 rfl rfl rfl rfl rfl ?_ | refine zk10 rfl rfl rfl rfl rfl ?_ | refine zk23 rfl rfl rfl rfl rfl rfl ?_ | refine zk28 ns_ok rfl rfl rfl rfl rfl rfl rfl rfl ?_)
              )
            all_goals
              refine ⟨(n - 1, (false, jnAdd (j) iv), ip, ih), ⟨⟨⟨(jnAdd_read hc).2, fun h => nomatch h⟩, by dsimp only; omega⟩, by dsimp only; omega⟩, by dsimp only; omega, ?_⟩
              refine ⟨rfl, ?_, ?_, rfl⟩
              repeat' (first
                | apply And.intro
                | (apply eq_b; exact rfl; exact Stop.mk (by with_reducible rfl))
                | (apply eq_b; exact rfl)
                | (apply eq_n; exact rfl; exact Stop.mk (by first | with_reducible rfl | omega))
                | (apply eq_n; exact rfl)
                | (apply eq_s; exact rfl; exact Stop.mk (by with_reducible rfl))
                | (apply eq_s; exact rfl)
                | (apply eq_sl; exact rfl; exact Stop.mk (by with_reducible rfl))
                | (apply eq_sl; exact rfl)
                | (apply eq_row; exact rfl; exact Stop.mk (by with_reducible rfl))
                | (apply eq_row; exact rfl)
                | (apply eq_agg; exact rfl)
                | (apply eq_cons; exact rfl)
                | (apply eq_boxo; exact rfl)
                | (apply cell_agg; exact rfl; exact rfl; exact rfl)
                | (apply cell_one; exact rfl; exact rfl)
                | exact rfl
                | trivial
                )
              all_goals exact Stop.mk (by first | rfl | omega)
          · repeat' (first
              | apply awp_seq
              | (apply awp_regionN; exact rfl)
              | (refine Hb.mk (fun hb => ?_); (first | rw [inB_t] at hb | rw [inB_f] at hb | rw [inB_nt] at hb | rw [inB_nf] at hb | rw [decide_eq_true_eq] at hb | rw [decide_eq_false_iff_not] at hb | rw [beq_iff_eq] at hb | rw [beq_eq_false_iff_ne] at hb | rw [Bool.not_eq_true'] at hb | rw [Bool.not_eq_false'] at hb | rw [bne_iff_ne] at hb | rw [bne_eq_false_iff_eq] at hb | skip); (first | (exfalso; omega) | (exact absurd rfl hb) | skip))
              | (apply aopG_ok; exact rfl)
              | apply ops_nil
              | (apply awp_enum 7; exact rfl; exact rfl; exact rfl)
              | (apply awp_drawq; exact rfl; kernel_rfl; kernel_rfl; exact rfl)
              | (apply awp_drawx; exact rfl; kernel_rfl; exact rfl)
              | (apply aopQ_ok; exact rfl)
              | apply qs_nil
              | (apply ch_nil; exact rfl)
              | (apply ch_cons; (· exact rfl); (· exact rfl); (· exact rfl); (· exact rfl); (· (intro w0 Z O; first | (apply aop_ok; exact rfl) | (apply QOk.ok; first | refine zk1 rfl rfl rfl rfl rfl ?_ | refine zk6 rfl rfl rfl rfl rfl ?_ | refine zk10 rfl rfl rfl rfl rfl ?_ | refine zk23 rfl rfl rfl rfl rfl rfl ?_ | refine zk28 ns_ok rfl rfl rfl rfl rfl rfl rfl rfl ?_) | refine st_call (journalAdd_s0 (j := j) (s := iv) (by omega) (by omega) hc) rfl rfl rfl rfl rfl ?_); exact ⟨rfl, rfl, rfl⟩); (· exact rfl); (· exact rfl); (· (repeat' (first | apply And.intro | exact Or.inl rfl | exact Or.inr ⟨rfl, rfl⟩ | exact trivial))); (· (repeat' (first | apply And.intro | exact trivial | exact rfl | exact flatE_map (fun _ => rfl) | apply flatE_app))); (· exact rfl); (· exact rfl); (· exact rfl); (· exact rfl))
              | (apply aop_ok; exact rfl)
              | (apply ec_take; exact rfl; exact rfl; exact rfl; kernel_rfl; kernel_rfl; exact rfl)
              | (apply ec_end; exact rfl)
              | (apply ec_go; exact rfl)
              | apply ec_none
              | (apply ec_each; exact rfl; exact rfl; exact rfl)
              | (apply awp_cond_t; exact rfl)
              | (apply awp_cond_f; exact rfl)
              | (apply cond_x; exact rfl)
              | apply awp_block
              | apply awp_skip
              | apply awp_exit
              | apply awp_ret'
              | (first | (apply ops_cons; exact rfl) | (apply ops_yes; exact rfl; exact rfl; exact rfl))
              | (apply ops_x; exact rfl; exact rfl; (fail_if_success exact (rfl : _ = AV.d (.b true))); (fail_if_success exact (rfl : _ = AV.d (.b false))); exact rfl)
              | (first | (apply qs_cons; exact rfl) | (apply qs_yes; exact rfl; exact rfl; exact rfl))
              | (apply qs_x; exact rfl; exact rfl; (fail_if_success exact (rfl : _ = AV.d (.b true))); (fail_if_success exact (rfl : _ = AV.d (.b false))); exact rfl)
              | (apply q_id; first | refine st_callq (journalAdd_s0 (j := j) (s := iv) (by omega) (by omega) hc) rfl rfl rfl rfl rfl ?_)
              | (apply op_id; first | refine st_call (journalAdd_s0 (j := j) (s := iv) (by omega) (by omega) hc) rfl rfl rfl rfl rfl ?_ | (apply qok_q; exact rfl))
              | (apply q_id; first | refine zk1 rfl rfl rfl rfl rfl ?_ | refine zk6 rfl rfl rfl rfl rfl ?_ | refine zk10 rfl rfl rfl rfl rfl ?_ | refine zk23 rfl rfl rfl rfl rfl rfl ?_ | refine zk28 ns_ok rfl rfl rfl rfl rfl rfl rfl rfl ?_)
              )
            all_goals
              refine ⟨(n - 1, (true, jz), ip, ih), ⟨⟨⟨jz_ok, fun _ => rfl⟩, by dsimp only; omega⟩, by dsimp only; omega⟩, by dsimp only; omega, ?_⟩
              refine ⟨rfl, ?_, ?_, rfl⟩
              repeat' (first
                | apply And.intro
                | (apply eq_b; exact rfl; exact Stop.mk (by with_reducible rfl))
                | (apply eq_b; exact rfl)
                | (apply eq_n; exact rfl; exact Stop.mk (by first | with_reducible rfl | omega))
                | (apply eq_n; exact rfl)
                | (apply eq_s; exact rfl; exact Stop.mk (by with_reducible rfl))
                | (apply eq_s; exact rfl)
                | (apply eq_sl; exact rfl; exact Stop.mk (by with_reducible rfl))
                | (apply eq_sl; exact rfl)
                | (apply eq_row; exact rfl; exact Stop.mk (by with_reducible rfl))
                | (apply eq_row; exact rfl)
                | (apply eq_agg; exact rfl)
                | (apply eq_cons; exact rfl)
                | (apply eq_boxo; exact rfl)
                | (apply cell_agg; exact rfl; exact rfl; exact rfl)
                | (apply cell_one; exact rfl; exact rfl)
                | exact rfl
                | trivial
                )
              all_goals exact Stop.mk (by first | rfl | omega)
      · all_goals
          by_cases hc : addC (j) iv = 0
          · repeat' (first
              | apply awp_seq
              | (apply awp_regionN; exact rfl)
              | (refine Hb.mk (fun hb => ?_); (first | rw [inB_t] at hb | rw [inB_f] at hb | rw [inB_nt] at hb | rw [inB_nf] at hb | rw [decide_eq_true_eq] at hb | rw [decide_eq_false_iff_not] at hb | rw [beq_iff_eq] at hb | rw [beq_eq_false_iff_ne] at hb | rw [Bool.not_eq_true'] at hb | rw [Bool.not_eq_false'] at hb | rw [bne_iff_ne] at hb | rw [bne_eq_false_iff_eq] at hb | skip); (first | (exfalso; omega) | (exact absurd rfl hb) | skip))
              | (apply aopG_ok; exact rfl)
              | apply ops_nil
              | (apply awp_enum 7; exact rfl; exact rfl; exact rfl)
              | (apply awp_drawq; exact rfl; kernel_rfl; kernel_rfl; exact rfl)
              | (apply awp_drawx; exact rfl; kernel_rfl; exact rfl)
              | (apply aopQ_ok; exact rfl)
              | apply qs_nil
              | (apply ch_nil; exact rfl)
              | (apply ch_cons; (· exact rfl); (· exact rfl); (· exact rfl); (· exact rfl); (· (intro w0 Z O; first | (apply aop_ok; exact rfl) | (apply QOk.ok; first | refine zk1 rfl rfl rfl rfl rfl ?_ | refine zk6 rfl rfl rfl rfl rfl ?_ | refine zk10 rfl rfl rfl rfl rfl ?_ | refine zk23 rfl rfl rfl rfl rfl rfl ?_ | refine zk28 ns_ok rfl rfl rfl rfl rfl rfl rfl rfl ?_) | refine st_call (journalAdd_s hc) rfl rfl rfl rfl rfl ?_); exact ⟨rfl, rfl, rfl⟩); (· exact rfl); (· exact rfl); (· (repeat' (first | apply And.intro | exact Or.inl rfl | exact Or.inr ⟨rfl, rfl⟩ | exact trivial))); (· (repeat' (first | apply And.intro | exact trivial | exact rfl | exact flatE_map (fun _ => rfl) | apply flatE_app))); (· exact rfl); (· exact rfl); (· exact rfl); (· exact rfl))
              | (apply aop_ok; exact rfl)
              | (apply ec_take; exact rfl; exact rfl; exact rfl; kernel_rfl; kernel_rfl; exact rfl)
              | (apply ec_end; exact rfl)
              | (apply ec_go; exact rfl)
              | apply ec_none
              | (apply ec_each; exact rfl; exact rfl; exact rfl)
              | (apply awp_cond_t; exact rfl)
              | (apply awp_cond_f; exact rfl)
              | (apply cond_x; exact rfl)
              | apply awp_block
              | apply awp_skip
              | apply awp_exit
              | apply awp_ret'
              | (first | (apply ops_cons; exact rfl) | (apply ops_yes; exact rfl; exact rfl; exact rfl))
              | (apply ops_x; exact rfl; exact rfl; (fail_if_success exact (rfl : _ = AV.d (.b true))); (fail_if_success exact (rfl : _ = AV.d (.b false))); exact rfl)
              | (first | (apply qs_cons; exact rfl) | (apply qs_yes; exact rfl; exact rfl; exact rfl))
              | (apply qs_x; exact rfl; exact rfl; (fail_if_success exact (rfl : _ = AV.d (.b true))); (fail_if_success exact (rfl : _ = AV.d (.b false))); exact rfl)
              | (apply q_id; first | refine st_callq (journalAdd_s hc) rfl rfl rfl rfl rfl ?_)
              | (apply op_id; first | refine st_call (journalAdd_s hc) rfl rfl rfl rfl rfl ?_ | (apply qok_q; exact rfl))
              | (apply q_id; first | refine zk1 rfl rfl rfl rfl rfl ?_ | refine zk6 rfl rfl rfl rfl rfl ?_ | refine zk10 rfl rfl rfl rfl rfl ?_ | refine zk23 rfl rfl rfl rfl rfl rfl ?_ | refine zk28 ns_ok rfl rfl rfl rfl rfl rfl rfl rfl ?_)
              )
            all_goals
              refine ⟨(n - 1, (false, jnAdd (j) iv), ip, ih), ⟨⟨⟨(jnAdd_read hc).2, fun h => nomatch h⟩, by dsimp only; omega⟩, by dsimp only; omega⟩, by dsimp only; omega, ?_⟩
              refine ⟨rfl, ?_, ?_, rfl⟩
              repeat' (first
                | apply And.intro
                | (apply eq_b; exact rfl; exact Stop.mk (by with_reducible rfl))
                | (apply eq_b; exact rfl)
                | (apply eq_n; exact rfl; exact Stop.mk (by first | with_reducible rfl | omega))
                | (apply eq_n; exact rfl)
                | (apply eq_s; exact rfl; exact Stop.mk (by with_reducible rfl))
                | (apply eq_s; exact rfl)
                | (apply eq_sl; exact rfl; exact Stop.mk (by with_reducible rfl))
                | (apply eq_sl; exact rfl)
                | (apply eq_row; exact rfl; exact Stop.mk (by with_reducible rfl))
                | (apply eq_row; exact rfl)
                | (apply eq_agg; exact rfl)
                | (apply eq_cons; exact rfl)
                | (apply eq_boxo; exact rfl)
                | (apply cell_agg; exact rfl; exact rfl; exact rfl)
                | (apply cell_one; exact rfl; exact rfl)
                | exact rfl
                | trivial
                )
              all_goals exact Stop.mk (by first | rfl | omega)
          · repeat' (first
              | apply awp_seq
              | (apply awp_regionN; exact rfl)
              | (refine Hb.mk (fun hb => ?_); (first | rw [inB_t] at hb | rw [inB_f] at hb | rw [inB_nt] at hb | rw [inB_nf] at hb | rw [decide_eq_true_eq] at hb | rw [decide_eq_false_iff_not] at hb | rw [beq_iff_eq] at hb | rw [beq_eq_false_iff_ne] at hb | rw [Bool.not_eq_true'] at hb | rw [Bool.not_eq_false'] at hb | rw [bne_iff_ne] at hb | rw [bne_eq_false_iff_eq] at hb | skip); (first | (exfalso; omega) | (exact absurd rfl hb) | skip))
              | (apply aopG_ok; exact rfl)
              | apply ops_nil
              | (apply awp_enum 7; exact rfl; exact rfl; exact rfl)
              | (apply awp_drawq; exact rfl; kernel_rfl; kernel_rfl; exact rfl)
              | (apply awp_drawx; exact rfl; kernel_rfl; exact rfl)
              | (apply aopQ_ok; exact rfl)
              | apply qs_nil
              | (apply ch_nil; exact rfl)
              | (apply ch_cons; (· exact rfl); (· exact rfl); (· exact rfl); (· exact rfl); (· (intro w0 Z O; first | (apply aop_ok; exact rfl) | (apply QOk.ok; first | refine zk1 rfl rfl rfl rfl rfl ?_ | refine zk6 rfl rfl rfl rfl rfl ?_ | refine zk10 rfl rfl rfl rfl rfl ?_ | refine zk23 rfl rfl rfl rfl rfl rfl ?_ | refine zk28 ns_ok rfl rfl rfl rfl rfl rfl rfl rfl ?_) | refine st_call (journalAdd_s0 (j := j) (s := iv) (by omega) (by omega) hc) rfl rfl rfl rfl rfl ?_); exact ⟨rfl, rfl, rfl⟩); (· exact rfl); (· exact rfl); (· (repeat' (first | apply And.intro | exact Or.inl rfl | exact Or.inr ⟨rfl, rfl⟩ | exact trivial))); (· (repeat' (first | apply And.intro | exact trivial | exact rfl | exact flatE_map (fun _ => rfl) | apply flatE_app))); (· exact rfl); (· exact rfl); (· exact rfl); (· exact rfl))
              | (apply aop_ok; exact rfl)
              | (apply ec_take; exact rfl; exact rfl; exact rfl; kernel_rfl; kernel_rfl; exact rfl)
              | (apply ec_end; exact rfl)
              | (apply ec_go; exact rfl)
              | apply ec_none
              | (apply ec_each; exact rfl; exact rfl; exact rfl)
              | (apply awp_cond_t; exact rfl)
              | (apply awp_cond_f; exact rfl)
              | (apply cond_x; exact rfl)
              | apply awp_block
              | apply awp_skip
              | apply awp_exit
              | apply awp_ret'
              | (first | (apply ops_cons; exact rfl) | (apply ops_yes; exact rfl; exact rfl; exact rfl))
              | (apply ops_x; exact rfl; exact rfl; (fail_if_success exact (rfl : _ = AV.d (.b true))); (fail_if_success exact (rfl : _ = AV.d (.b false))); exact rfl)
              | (first | (apply qs_cons; exact rfl) | (apply qs_yes; exact rfl; exact rfl; exact rfl))
              | (apply qs_x; exact rfl; exact rfl; (fail_if_success exact (rfl : _ = AV.d (.b true))); (fail_if_success exact (rfl : _ = AV.d (.b false))); exact rfl)
              | (apply q_id; first | refine st_callq (journalAdd_s0 (j := j) (s := iv) (by omega) (by omega) hc) rfl rfl rfl rfl rfl ?_)
              | (apply op_id; first | refine st_call (journalAdd_s0 (j := j) (s := iv) (by omega) (by omega) hc) rfl rfl rfl rfl rfl ?_ | (apply qok_q; exact rfl))
              | (apply q_id; first | refine zk1 rfl rfl rfl rfl rfl ?_ | refine zk6 rfl rfl rfl rfl rfl ?_ | refine zk10 rfl rfl rfl rfl rfl ?_ | refine zk23 rfl rfl rfl rfl rfl rfl ?_ | refine zk28 ns_ok rfl rfl rfl rfl rfl rfl rfl rfl ?_)
              )
            all_goals
              refine ⟨(n - 1, (true, jz), ip, ih), ⟨⟨⟨jz_ok, fun _ => rfl⟩, by dsimp only; omega⟩, by dsimp only; omega⟩, by dsimp only; omega, ?_⟩
              refine ⟨rfl, ?_, ?_, rfl⟩
              repeat' (first
                | apply And.intro
                | (apply eq_b; exact rfl; exact Stop.mk (by with_reducible rfl))
                | (apply eq_b; exact rfl)
                | (apply eq_n; exact rfl; exact Stop.mk (by first | with_reducible rfl | omega))
                | (apply eq_n; exact rfl)
                | (apply eq_s; exact rfl; exact Stop.mk (by with_reducible rfl))
                | (apply eq_s; exact rfl)
                | (apply eq_sl; exact rfl; exact Stop.mk (by with_reducible rfl))
                | (apply eq_sl; exact rfl)
                | (apply eq_row; exact rfl; exact Stop.mk (by with_reducible rfl))
                | (apply eq_row; exact rfl)
                | (apply eq_agg; exact rfl)
                | (apply eq_cons; exact rfl)
                | (apply eq_boxo; exact rfl)
                | (apply cell_agg; exact rfl; exact rfl; exact rfl)
                | (apply cell_one; exact rfl; exact rfl)
                | exact rfl
                | trivial
                )
              all_goals exact Stop.mk (by first | rfl | omega)
end Go.Proofs.Ythmajaeekkbnnaa
