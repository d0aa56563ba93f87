/-
  Draws of journals of any kind.
-/
import Derived.Test.YthmajaeekkbnnaaSh
import Derived.Test.YthmajaeekkbnnaaJrB
namespace Go.Proofs.Ythmajaeekkbnnaa
open Go Go.RowKit
attribute [local irreducible] AWp OpsOk OpOk ACalls ChA QsOk MCalls EnC PY

theorem byteE_set {b : List UInt8} {i : Nat} {v : Int} (h : 0 ≤ v ∧ v ≤ 255) : (byteE b).set i [D.n .u8 v] = byteE (b.set i (UInt8.ofNat v.toNat)) := by
  have e := byteE_one h
  simp only [byteE, List.map_cons, List.map_nil, List.cons.injEq, and_true] at e
  simp only [byteE, List.map_set, e]
set_option maxRecDepth 100000 in
set_option maxHeartbeats 4000000 in
theorem l07Any_c {b : List UInt8} {i h : Int} (hL : b.length ≤ 1048576) (hI : 0 ≤ i ∧ i ≤ b.length) : MCalls Try.prog 120 [.ptr 1000000 0] [(1000000, curO b i h)] (fun (x : Journal × Int × Int) => match x with | (j, p, _) => j.bytes.length ≤ 40000 ∧ 0 ≤ p ∧ p ≤ b.length) (fun x => match x with | (j, _, _) => [jnA j]) (fun x => match x with | (_, p, q) => [(1000000, curO b p q)]) (fun _ => []) := by
  refine mcalls_of tt Try.func120 rfl rfl rfl ⟨rfl, trivial⟩ (fun _ _ => ⟨⟨⟨rfl, rfl, rfl⟩, trivial⟩, rfl, trivial⟩) (fun w0 Z O => ?_)
  repeat' (first
    | apply awp_seq
    | (apply awp_regionN; exact rfl)
    | (refine Hb.mk (fun hb => ?_); (first | rw [inB_t] at hb | rw [inB_f] at hb | rw [inB_nt] at hb | rw [inB_nf] at hb | rw [decide_eq_true_eq] at hb | rw [decide_eq_false_iff_not] at hb | rw [beq_iff_eq] at hb | rw [beq_eq_false_iff_ne] at hb | rw [Bool.not_eq_true'] at hb | rw [Bool.not_eq_false'] at hb | rw [bne_iff_ne] at hb | rw [bne_eq_false_iff_eq] at hb | skip); (first | (exfalso; omega) | (exact absurd rfl hb) | skip))
    | (apply aopG_ok; exact rfl)
    | apply ops_nil
    | (apply awp_drawq; exact rfl; kernel_rfl; kernel_rfl; exact rfl)
    | (apply awp_drawx; exact rfl; kernel_rfl; exact rfl)
    | (apply aopQ_ok; exact rfl)
    | apply qs_nil
    | (apply ch_nil; exact rfl)
    | (apply ch_cons; (· exact rfl); (· exact rfl); (· exact rfl); (· exact rfl); (· (intro w0 Z O; first | (apply aop_ok; exact rfl) | (apply QOk.ok; first | refine zk1 rfl rfl rfl rfl rfl ?_ | refine zk6 rfl rfl rfl rfl rfl ?_ | refine zk10 rfl rfl rfl rfl rfl ?_ | refine zk11 rfl rfl rfl rfl rfl ?_ | refine zk12 rfl rfl rfl rfl rfl (fun _ => ?_) | refine zk13 rfl rfl rfl rfl rfl rfl rfl ?_ | refine zk14 rfl rfl rfl rfl rfl rfl rfl ?_ | refine zk15 rfl rfl rfl rfl rfl rfl rfl ?_ | refine zk16 rfl rfl rfl rfl rfl rfl rfl ?_ | refine zk17 rfl rfl rfl rfl rfl rfl rfl ?_ | refine zk20 rfl rfl rfl rfl rfl rfl ?_ | refine zk21 rfl rfl rfl rfl rfl rfl ?_ | refine zk22 rfl rfl rfl rfl rfl rfl ?_ | refine zk28 ns_ok rfl rfl rfl rfl rfl rfl rfl rfl ?_ | refine zk30 rfl rfl rfl rfl rfl rfl rfl ?_ | refine zk31 rfl rfl rfl rfl rfl rfl rfl rfl ?_) | refine zk37 rfl rfl rfl rfl rfl rfl rfl ?_ | refine zk38 rfl rfl rfl rfl rfl rfl rfl rfl rfl rfl ?_); exact ⟨rfl, rfl, rfl⟩); (· exact rfl); (· exact rfl); (· (repeat' (first | apply And.intro | exact Or.inl rfl | exact Or.inr ⟨rfl, rfl⟩ | exact trivial))); (· (repeat' (first | apply And.intro | exact trivial | exact rfl | exact flatE_map (fun _ => rfl) | apply flatE_app))); (· exact rfl); (· exact rfl); (· exact rfl); (· exact rfl))
    | (apply awp_cond_t; exact rfl)
    | (apply awp_cond_f; exact rfl)
    | (apply cond_x; exact rfl)
    | apply awp_block
    | apply awp_skip
    | apply awp_exit
    | (first | (apply ops_cons; exact rfl) | (apply ops_yes; exact rfl; exact rfl; exact rfl))
    | (apply ops_x; exact rfl; exact rfl; (fail_if_success exact (rfl : _ = AV.d (.b true))); (fail_if_success exact (rfl : _ = AV.d (.b false))); exact rfl)
    | (first | (apply qs_cons; exact rfl) | (apply qs_yes; exact rfl; exact rfl; exact rfl))
    | (apply qs_x; exact rfl; exact rfl; (fail_if_success exact (rfl : _ = AV.d (.b true))); (fail_if_success exact (rfl : _ = AV.d (.b false))); exact rfl)
    | (apply op_id; first | refine zk37 rfl rfl rfl rfl rfl rfl rfl ?_ | refine zk38 rfl rfl rfl rfl rfl rfl rfl rfl rfl rfl ?_ | (apply qok_q; exact rfl))
    | (apply q_id; first | refine zk1 rfl rfl rfl rfl rfl ?_ | refine zk6 rfl rfl rfl rfl rfl ?_ | refine zk10 rfl rfl rfl rfl rfl ?_ | refine zk11 rfl rfl rfl rfl rfl ?_ | refine zk12 rfl rfl rfl rfl rfl (fun _ => ?_) | refine zk13 rfl rfl rfl rfl rfl rfl rfl ?_ | refine zk14 rfl rfl rfl rfl rfl rfl rfl ?_ | refine zk15 rfl rfl rfl rfl rfl rfl rfl ?_ | refine zk16 rfl rfl rfl rfl rfl rfl rfl ?_ | refine zk17 rfl rfl rfl rfl rfl rfl rfl ?_ | refine zk20 rfl rfl rfl rfl rfl rfl ?_ | refine zk21 rfl rfl rfl rfl rfl rfl ?_ | refine zk22 rfl rfl rfl rfl rfl rfl ?_ | refine zk28 ns_ok rfl rfl rfl rfl rfl rfl rfl rfl ?_ | refine zk30 rfl rfl rfl rfl rfl rfl rfl ?_ | refine zk31 rfl rfl rfl rfl rfl rfl rfl rfl ?_)
    )
  refine op_id ?_
  refine st_callm [1000000] (l07Draw_c hL (by omega)) rfl rfl rfl rfl rfl (fun i _ => by rcases i with ⟨⟨_ | _, _⟩, _, _⟩ <;> rfl) rfl (fun i hi => ?_)
  obtain ⟨⟨f, j⟩, ip, ih⟩ := i
  have hjl := jn_len hi.1.1
  dsimp only at hjl
  cases f
  · dsimp only at hi ⊢
    repeat' (first
      | apply awp_seq
      | (apply awp_regionN; exact rfl)
      | (refine Hb.mk (fun hb => ?_); (first | rw [inB_t] at hb | rw [inB_f] at hb | rw [inB_nt] at hb | rw [inB_nf] at hb | rw [decide_eq_true_eq] at hb | rw [decide_eq_false_iff_not] at hb | rw [beq_iff_eq] at hb | rw [beq_eq_false_iff_ne] at hb | rw [Bool.not_eq_true'] at hb | rw [Bool.not_eq_false'] at hb | rw [bne_iff_ne] at hb | rw [bne_eq_false_iff_eq] at hb | skip); (first | (exfalso; omega) | (exact absurd rfl hb) | skip))
      | (apply aopG_ok; exact rfl)
      | apply ops_nil
      | (apply awp_enum 10; exact rfl; exact rfl; exact rfl)
      | (apply awp_drawq; exact rfl; kernel_rfl; kernel_rfl; exact rfl)
      | (apply awp_drawx; exact rfl; kernel_rfl; exact rfl)
      | (apply aopQ_ok; exact rfl)
      | apply qs_nil
      | (apply ch_nil; exact rfl)
      | (apply ch_cons; (· exact rfl); (· exact rfl); (· exact rfl); (· exact rfl); (· (intro w0 Z O; first | (apply aop_ok; exact rfl) | (apply QOk.ok; first | refine zk1 rfl rfl rfl rfl rfl ?_ | refine zk6 rfl rfl rfl rfl rfl ?_ | refine zk10 rfl rfl rfl rfl rfl ?_ | refine zk11 rfl rfl rfl rfl rfl ?_ | refine zk12 rfl rfl rfl rfl rfl (fun _ => ?_) | refine zk13 rfl rfl rfl rfl rfl rfl rfl ?_ | refine zk14 rfl rfl rfl rfl rfl rfl rfl ?_ | refine zk15 rfl rfl rfl rfl rfl rfl rfl ?_ | refine zk16 rfl rfl rfl rfl rfl rfl rfl ?_ | refine zk17 rfl rfl rfl rfl rfl rfl rfl ?_ | refine zk20 rfl rfl rfl rfl rfl rfl ?_ | refine zk21 rfl rfl rfl rfl rfl rfl ?_ | refine zk22 rfl rfl rfl rfl rfl rfl ?_ | refine zk28 ns_ok rfl rfl rfl rfl rfl rfl rfl rfl ?_ | refine zk30 rfl rfl rfl rfl rfl rfl rfl ?_ | refine zk31 rfl rfl rfl rfl rfl rfl rfl rfl ?_) | refine zk37 rfl rfl rfl rfl rfl rfl rfl ?_ | refine zk38 rfl rfl rfl rfl rfl rfl rfl rfl rfl rfl ?_ | refine st_callm [1000000] (l01Below_c hL (by omega)) rfl rfl rfl rfl rfl (fun _ _ => rfl) rfl (fun i hi => ?_); obtain ⟨iv, ip, ih⟩ := i; (try dsimp only at hi) | refine st_callm [1000000] (l01Raw_c hL (by omega)) rfl rfl rfl rfl rfl (fun _ _ => rfl) rfl (fun i hi => ?_); obtain ⟨iv, ip, ih⟩ := i; (try dsimp only at hi) | refine st_callm [1000000] (l01Byte_c hL (by omega)) rfl rfl rfl rfl rfl (fun _ _ => rfl) rfl (fun i hi => ?_); obtain ⟨iv, ip, ih⟩ := i; (try dsimp only at hi)); exact ⟨rfl, rfl, rfl⟩); (· exact rfl); (· exact rfl); (· (repeat' (first | apply And.intro | exact Or.inl rfl | exact Or.inr ⟨rfl, rfl⟩ | exact trivial))); (· (repeat' (first | apply And.intro | exact trivial | exact rfl | exact flatE_map (fun _ => rfl) | apply flatE_app))); (· exact rfl); (· exact rfl); (· exact rfl); (· exact rfl))
      | (apply aop_ok; exact rfl)
      | (apply ec_take; exact rfl; exact rfl; exact rfl; kernel_rfl; kernel_rfl; exact rfl)
      | (apply ec_end; exact rfl)
      | (apply ec_go; exact rfl)
      | apply ec_none
      | (apply ec_each; exact rfl; exact rfl; exact rfl)
      | (apply awp_cond_t; exact rfl)
      | (apply awp_cond_f; exact rfl)
      | (apply cond_x; exact rfl)
      | apply awp_block
      | apply awp_skip
      | apply awp_exit
      | (first | (apply ops_cons; exact rfl) | (apply ops_yes; exact rfl; exact rfl; exact rfl))
      | (apply ops_x; exact rfl; exact rfl; (fail_if_success exact (rfl : _ = AV.d (.b true))); (fail_if_success exact (rfl : _ = AV.d (.b false))); exact rfl)
      | (first | (apply qs_cons; exact rfl) | (apply qs_yes; exact rfl; exact rfl; exact rfl))
      | (apply qs_x; exact rfl; exact rfl; (fail_if_success exact (rfl : _ = AV.d (.b true))); (fail_if_success exact (rfl : _ = AV.d (.b false))); exact rfl)
      | (apply op_id; first | refine zk37 rfl rfl rfl rfl rfl rfl rfl ?_ | refine zk38 rfl rfl rfl rfl rfl rfl rfl rfl rfl rfl ?_ | (refine st_callm [1000000] (l01Below_c hL (by omega)) rfl rfl rfl rfl rfl (fun _ _ => rfl) rfl (fun i hi => ?_); obtain ⟨iv, ip, ih⟩ := i; (try dsimp only at hi)) | (refine st_callm [1000000] (l01Raw_c hL (by omega)) rfl rfl rfl rfl rfl (fun _ _ => rfl) rfl (fun i hi => ?_); obtain ⟨iv, ip, ih⟩ := i; (try dsimp only at hi)) | (refine st_callm [1000000] (l01Byte_c hL (by omega)) rfl rfl rfl rfl rfl (fun _ _ => rfl) rfl (fun i hi => ?_); obtain ⟨iv, ip, ih⟩ := i; (try dsimp only at hi)) | (apply qok_q; exact rfl))
      | (apply q_id; first | refine zk1 rfl rfl rfl rfl rfl ?_ | refine zk6 rfl rfl rfl rfl rfl ?_ | refine zk10 rfl rfl rfl rfl rfl ?_ | refine zk11 rfl rfl rfl rfl rfl ?_ | refine zk12 rfl rfl rfl rfl rfl (fun _ => ?_) | refine zk13 rfl rfl rfl rfl rfl rfl rfl ?_ | refine zk14 rfl rfl rfl rfl rfl rfl rfl ?_ | refine zk15 rfl rfl rfl rfl rfl rfl rfl ?_ | refine zk16 rfl rfl rfl rfl rfl rfl rfl ?_ | refine zk17 rfl rfl rfl rfl rfl rfl rfl ?_ | refine zk20 rfl rfl rfl rfl rfl rfl ?_ | refine zk21 rfl rfl rfl rfl rfl rfl ?_ | refine zk22 rfl rfl rfl rfl rfl rfl ?_ | refine zk28 ns_ok rfl rfl rfl rfl rfl rfl rfl rfl ?_ | refine zk30 rfl rfl rfl rfl rfl rfl rfl ?_ | refine zk31 rfl rfl rfl rfl rfl rfl rfl rfl ?_)
      )
    all_goals
      try refine qok_frz 6 rfl ?_
      repeat' (first
        | apply awp_seq
        | (apply awp_regionN; exact rfl)
        | (refine Hb.mk (fun hb => ?_); (first | rw [inB_t] at hb | rw [inB_f] at hb | rw [inB_nt] at hb | rw [inB_nf] at hb | rw [decide_eq_true_eq] at hb | rw [decide_eq_false_iff_not] at hb | rw [beq_iff_eq] at hb | rw [beq_eq_false_iff_ne] at hb | rw [Bool.not_eq_true'] at hb | rw [Bool.not_eq_false'] at hb | rw [bne_iff_ne] at hb | rw [bne_eq_false_iff_eq] at hb | skip); (first | (exfalso; omega) | (exact absurd rfl hb) | skip))
        | (apply aopG_ok; exact rfl)
        | apply ops_nil
        | (apply awp_enum 10; exact rfl; exact rfl; exact rfl)
        | (apply awp_drawq; exact rfl; kernel_rfl; kernel_rfl; exact rfl)
        | (apply awp_drawx; exact rfl; kernel_rfl; exact rfl)
        | (apply aopQ_ok; exact rfl)
        | apply qs_nil
        | (apply ch_nil; exact rfl)
        | (apply ch_cons; (· exact rfl); (· exact rfl); (· exact rfl); (· exact rfl); (· (intro w0 Z O; first | (apply aop_ok; exact rfl) | (apply QOk.ok; first | refine zk1 rfl rfl rfl rfl rfl ?_ | refine zk6 rfl rfl rfl rfl rfl ?_ | refine zk10 rfl rfl rfl rfl rfl ?_ | refine zk11 rfl rfl rfl rfl rfl ?_ | refine zk12 rfl rfl rfl rfl rfl (fun _ => ?_) | refine zk13 rfl rfl rfl rfl rfl rfl rfl ?_ | refine zk14 rfl rfl rfl rfl rfl rfl rfl ?_ | refine zk15 rfl rfl rfl rfl rfl rfl rfl ?_ | refine zk16 rfl rfl rfl rfl rfl rfl rfl ?_ | refine zk17 rfl rfl rfl rfl rfl rfl rfl ?_ | refine zk20 rfl rfl rfl rfl rfl rfl ?_ | refine zk21 rfl rfl rfl rfl rfl rfl ?_ | refine zk22 rfl rfl rfl rfl rfl rfl ?_ | refine zk28 ns_ok rfl rfl rfl rfl rfl rfl rfl rfl ?_ | refine zk30 rfl rfl rfl rfl rfl rfl rfl ?_ | refine zk31 rfl rfl rfl rfl rfl rfl rfl rfl ?_) | refine zk37 rfl rfl rfl rfl rfl rfl rfl ?_ | refine zk38 rfl rfl rfl rfl rfl rfl rfl rfl rfl rfl ?_ | refine st_callm [1000000] (l01Below_c hL (by omega)) rfl rfl rfl rfl rfl (fun _ _ => rfl) rfl (fun i hi => ?_); obtain ⟨iv, ip, ih⟩ := i; (try dsimp only at hi) | refine st_callm [1000000] (l01Raw_c hL (by omega)) rfl rfl rfl rfl rfl (fun _ _ => rfl) rfl (fun i hi => ?_); obtain ⟨iv, ip, ih⟩ := i; (try dsimp only at hi) | refine st_callm [1000000] (l01Byte_c hL (by omega)) rfl rfl rfl rfl rfl (fun _ _ => rfl) rfl (fun i hi => ?_); obtain ⟨iv, ip, ih⟩ := i; (try dsimp only at hi)); exact ⟨rfl, rfl, rfl⟩); (· exact rfl); (· exact rfl); (· (repeat' (first | apply And.intro | exact Or.inl rfl | exact Or.inr ⟨rfl, rfl⟩ | exact trivial))); (· (repeat' (first | apply And.intro | exact trivial | exact rfl | exact flatE_map (fun _ => rfl) | apply flatE_app))); (· exact rfl); (· exact rfl); (· exact rfl); (· exact rfl))
        | (apply aop_ok; exact rfl)
        | (apply ec_take; exact rfl; exact rfl; exact rfl; kernel_rfl; kernel_rfl; exact rfl)
        | (apply ec_end; exact rfl)
        | (apply ec_go; exact rfl)
        | apply ec_none
        | (apply ec_each; exact rfl; exact rfl; exact rfl)
        | (apply awp_cond_t; exact rfl)
        | (apply awp_cond_f; exact rfl)
        | (apply cond_x; exact rfl)
        | apply awp_block
        | apply awp_skip
        | apply awp_exit
        | (first | (apply ops_cons; exact rfl) | (apply ops_yes; exact rfl; exact rfl; exact rfl))
        | (apply ops_x; exact rfl; exact rfl; (fail_if_success exact (rfl : _ = AV.d (.b true))); (fail_if_success exact (rfl : _ = AV.d (.b false))); exact rfl)
        | (first | (apply qs_cons; exact rfl) | (apply qs_yes; exact rfl; exact rfl; exact rfl))
        | (apply qs_x; exact rfl; exact rfl; (fail_if_success exact (rfl : _ = AV.d (.b true))); (fail_if_success exact (rfl : _ = AV.d (.b false))); exact rfl)
        | (apply op_id; first | refine zk37 rfl rfl rfl rfl rfl rfl rfl ?_ | refine zk38 rfl rfl rfl rfl rfl rfl rfl rfl rfl rfl ?_ | (refine st_callm [1000000] (l01Below_c hL (by omega)) rfl rfl rfl rfl rfl (fun _ _ => rfl) rfl (fun i hi => ?_); obtain ⟨iv, ip, ih⟩ := i; (try dsimp only at hi)) | (refine st_callm [1000000] (l01Raw_c hL (by omega)) rfl rfl rfl rfl rfl (fun _ _ => rfl) rfl (fun i hi => ?_); obtain ⟨iv, ip, ih⟩ := i; (try dsimp only at hi)) | (refine st_callm [1000000] (l01Byte_c hL (by omega)) rfl rfl rfl rfl rfl (fun _ _ => rfl) rfl (fun i hi => ?_); obtain ⟨iv, ip, ih⟩ := i; (try dsimp only at hi)) | (apply qok_q; exact rfl))
        | (apply q_id; first | refine zk1 rfl rfl rfl rfl rfl ?_ | refine zk6 rfl rfl rfl rfl rfl ?_ | refine zk10 rfl rfl rfl rfl rfl ?_ | refine zk11 rfl rfl rfl rfl rfl ?_ | refine zk12 rfl rfl rfl rfl rfl (fun _ => ?_) | refine zk13 rfl rfl rfl rfl rfl rfl rfl ?_ | refine zk14 rfl rfl rfl rfl rfl rfl rfl ?_ | refine zk15 rfl rfl rfl rfl rfl rfl rfl ?_ | refine zk16 rfl rfl rfl rfl rfl rfl rfl ?_ | refine zk17 rfl rfl rfl rfl rfl rfl rfl ?_ | refine zk20 rfl rfl rfl rfl rfl rfl ?_ | refine zk21 rfl rfl rfl rfl rfl rfl ?_ | refine zk22 rfl rfl rfl rfl rfl rfl ?_ | refine zk28 ns_ok rfl rfl rfl rfl rfl rfl rfl rfl ?_ | refine zk30 rfl rfl rfl rfl rfl rfl rfl ?_ | refine zk31 rfl rfl rfl rfl rfl rfl rfl rfl ?_)
        )
    all_goals
      show AWp _ _ _ _
      first
        | refine awp_frz 6 rfl ?_
        | skip
      refine awp_dena ?_
      apply awp_ret'
      refine Stop.mk ?_
      refine' retM_x ⟨⟨_, _, _⟩, _, _⟩ _ [] rfl ?_
      any_goals refine RetG.mk ?_ ?_ ?_ ?_ ?_
      any_goals (refine Later.mk ?_; (try dsimp only [jnA]); exact rfl)
      repeat' (first
        | apply And.intro
        | (apply eq_b; exact rfl; exact Stop.mk (by with_reducible rfl))
        | (apply eq_b; exact rfl)
        | (apply eq_n; exact rfl; exact Stop.mk (by first | with_reducible rfl | omega))
        | (apply eq_n; exact rfl)
        | (apply eq_s; exact rfl; exact Stop.mk (by with_reducible rfl))
        | (apply eq_s; exact rfl)
        | (apply eq_sl; exact rfl; exact Stop.mk (by with_reducible rfl))
        | (apply eq_sl; exact rfl)
        | (apply eq_row; exact rfl; exact Stop.mk (by with_reducible rfl))
        | (apply eq_row; exact rfl)
        | (apply eq_agg; exact rfl)
        | (apply eq_cons; exact rfl)
        | (apply eq_boxo; exact rfl)
        | (apply cell_agg; exact rfl; exact rfl; exact rfl)
        | (apply cell_one; exact rfl; exact rfl)
        | exact rfl
        | exact trivial
        )
      all_goals try first
        | exact Stop.mk (by rw [byteE_cut])
        | exact Stop.mk (by change (byteE _).set _ [D.n .u8 _] = _; rw [byteE_set (by omega)])
        | exact Stop.mk (by change byteE [] = _; with_reducible rfl)
        | exact Stop.mk rfl
      all_goals (refine Later.mk ?_; (try dsimp only); exact ⟨by first | omega | (simp only [List.length_take, List.length_drop]; omega) | (simp only [List.length_set]; omega) | (simp only [List.length_nil]; omega), by omega⟩)
  · dsimp only at hi ⊢
    repeat' (first
      | apply awp_seq
      | (apply awp_regionN; exact rfl)
      | (refine Hb.mk (fun hb => ?_); (first | rw [inB_t] at hb | rw [inB_f] at hb | rw [inB_nt] at hb | rw [inB_nf] at hb | rw [decide_eq_true_eq] at hb | rw [decide_eq_false_iff_not] at hb | rw [beq_iff_eq] at hb | rw [beq_eq_false_iff_ne] at hb | rw [Bool.not_eq_true'] at hb | rw [Bool.not_eq_false'] at hb | rw [bne_iff_ne] at hb | rw [bne_eq_false_iff_eq] at hb | skip); (first | (exfalso; omega) | (exact absurd rfl hb) | skip))
      | (apply aopG_ok; exact rfl)
      | apply ops_nil
      | (apply awp_enum 10; exact rfl; exact rfl; exact rfl)
      | (apply awp_drawq; exact rfl; kernel_rfl; kernel_rfl; exact rfl)
      | (apply awp_drawx; exact rfl; kernel_rfl; exact rfl)
      | (apply aopQ_ok; exact rfl)
      | apply qs_nil
      | (apply ch_nil; exact rfl)
      | (apply ch_cons; (· exact rfl); (· exact rfl); (· exact rfl); (· exact rfl); (· (intro w0 Z O; first | (apply aop_ok; exact rfl) | (apply QOk.ok; first | refine zk1 rfl rfl rfl rfl rfl ?_ | refine zk6 rfl rfl rfl rfl rfl ?_ | refine zk10 rfl rfl rfl rfl rfl ?_ | refine zk11 rfl rfl rfl rfl rfl ?_ | refine zk12 rfl rfl rfl rfl rfl (fun _ => ?_) | refine zk13 rfl rfl rfl rfl rfl rfl rfl ?_ | refine zk14 rfl rfl rfl rfl rfl rfl rfl ?_ | refine zk15 rfl rfl rfl rfl rfl rfl rfl ?_ | refine zk16 rfl rfl rfl rfl rfl rfl rfl ?_ | refine zk17 rfl rfl rfl rfl rfl rfl rfl ?_ | refine zk20 rfl rfl rfl rfl rfl rfl ?_ | refine zk21 rfl rfl rfl rfl rfl rfl ?_ | refine zk22 rfl rfl rfl rfl rfl rfl ?_ | refine zk28 ns_ok rfl rfl rfl rfl rfl rfl rfl rfl ?_ | refine zk30 rfl rfl rfl rfl rfl rfl rfl ?_ | refine zk31 rfl rfl rfl rfl rfl rfl rfl rfl ?_) | refine zk37 rfl rfl rfl rfl rfl rfl rfl ?_ | refine zk38 rfl rfl rfl rfl rfl rfl rfl rfl rfl rfl ?_ | refine st_callm [1000000] (l01Below_c hL (by omega)) rfl rfl rfl rfl rfl (fun _ _ => rfl) rfl (fun i hi => ?_); obtain ⟨iv, ip, ih⟩ := i; (try dsimp only at hi) | refine st_callm [1000000] (l01Raw_c hL (by omega)) rfl rfl rfl rfl rfl (fun _ _ => rfl) rfl (fun i hi => ?_); obtain ⟨iv, ip, ih⟩ := i; (try dsimp only at hi) | refine st_callm [1000000] (l01Byte_c hL (by omega)) rfl rfl rfl rfl rfl (fun _ _ => rfl) rfl (fun i hi => ?_); obtain ⟨iv, ip, ih⟩ := i; (try dsimp only at hi)); exact ⟨rfl, rfl, rfl⟩); (· exact rfl); (· exact rfl); (· (repeat' (first | apply And.intro | exact Or.inl rfl | exact Or.inr ⟨rfl, rfl⟩ | exact trivial))); (· (repeat' (first | apply And.intro | exact trivial | exact rfl | exact flatE_map (fun _ => rfl) | apply flatE_app))); (· exact rfl); (· exact rfl); (· exact rfl); (· exact rfl))
      | (apply aop_ok; exact rfl)
      | (apply ec_take; exact rfl; exact rfl; exact rfl; kernel_rfl; kernel_rfl; exact rfl)
      | (apply ec_end; exact rfl)
      | (apply ec_go; exact rfl)
      | apply ec_none
      | (apply ec_each; exact rfl; exact rfl; exact rfl)
      | (apply awp_cond_t; exact rfl)
      | (apply awp_cond_f; exact rfl)
      | (apply cond_x; exact rfl)
      | apply awp_block
      | apply awp_skip
      | apply awp_exit
      | (first | (apply ops_cons; exact rfl) | (apply ops_yes; exact rfl; exact rfl; exact rfl))
      | (apply ops_x; exact rfl; exact rfl; (fail_if_success exact (rfl : _ = AV.d (.b true))); (fail_if_success exact (rfl : _ = AV.d (.b false))); exact rfl)
      | (first | (apply qs_cons; exact rfl) | (apply qs_yes; exact rfl; exact rfl; exact rfl))
      | (apply qs_x; exact rfl; exact rfl; (fail_if_success exact (rfl : _ = AV.d (.b true))); (fail_if_success exact (rfl : _ = AV.d (.b false))); exact rfl)
      | (apply op_id; first | refine zk37 rfl rfl rfl rfl rfl rfl rfl ?_ | refine zk38 rfl rfl rfl rfl rfl rfl rfl rfl rfl rfl ?_ | (refine st_callm [1000000] (l01Below_c hL (by omega)) rfl rfl rfl rfl rfl (fun _ _ => rfl) rfl (fun i hi => ?_); obtain ⟨iv, ip, ih⟩ := i; (try dsimp only at hi)) | (refine st_callm [1000000] (l01Raw_c hL (by omega)) rfl rfl rfl rfl rfl (fun _ _ => rfl) rfl (fun i hi => ?_); obtain ⟨iv, ip, ih⟩ := i; (try dsimp only at hi)) | (refine st_callm [1000000] (l01Byte_c hL (by omega)) rfl rfl rfl rfl rfl (fun _ _ => rfl) rfl (fun i hi => ?_); obtain ⟨iv, ip, ih⟩ := i; (try dsimp only at hi)) | (apply qok_q; exact rfl))
      | (apply q_id; first | refine zk1 rfl rfl rfl rfl rfl ?_ | refine zk6 rfl rfl rfl rfl rfl ?_ | refine zk10 rfl rfl rfl rfl rfl ?_ | refine zk11 rfl rfl rfl rfl rfl ?_ | refine zk12 rfl rfl rfl rfl rfl (fun _ => ?_) | refine zk13 rfl rfl rfl rfl rfl rfl rfl ?_ | refine zk14 rfl rfl rfl rfl rfl rfl rfl ?_ | refine zk15 rfl rfl rfl rfl rfl rfl rfl ?_ | refine zk16 rfl rfl rfl rfl rfl rfl rfl ?_ | refine zk17 rfl rfl rfl rfl rfl rfl rfl ?_ | refine zk20 rfl rfl rfl rfl rfl rfl ?_ | refine zk21 rfl rfl rfl rfl rfl rfl ?_ | refine zk22 rfl rfl rfl rfl rfl rfl ?_ | refine zk28 ns_ok rfl rfl rfl rfl rfl rfl rfl rfl ?_ | refine zk30 rfl rfl rfl rfl rfl rfl rfl ?_ | refine zk31 rfl rfl rfl rfl rfl rfl rfl rfl ?_)
      )
    all_goals
      show AWp _ _ _ _
      first
        | refine awp_frz 6 rfl ?_
        | skip
      refine awp_dena ?_
      apply awp_ret'
      refine Stop.mk ?_
      refine' retM_x ⟨⟨_, _, _⟩, _, _⟩ _ [] rfl ?_
      any_goals refine RetG.mk ?_ ?_ ?_ ?_ ?_
      any_goals (refine Later.mk ?_; (try dsimp only [jnA]); exact rfl)
      repeat' (first
        | apply And.intro
        | (apply eq_b; exact rfl; exact Stop.mk (by with_reducible rfl))
        | (apply eq_b; exact rfl)
        | (apply eq_n; exact rfl; exact Stop.mk (by first | with_reducible rfl | omega))
        | (apply eq_n; exact rfl)
        | (apply eq_s; exact rfl; exact Stop.mk (by with_reducible rfl))
        | (apply eq_s; exact rfl)
        | (apply eq_sl; exact rfl; exact Stop.mk (by with_reducible rfl))
        | (apply eq_sl; exact rfl)
        | (apply eq_row; exact rfl; exact Stop.mk (by with_reducible rfl))
        | (apply eq_row; exact rfl)
        | (apply eq_agg; exact rfl)
        | (apply eq_cons; exact rfl)
        | (apply eq_boxo; exact rfl)
        | (apply cell_agg; exact rfl; exact rfl; exact rfl)
        | (apply cell_one; exact rfl; exact rfl)
        | exact rfl
        | exact trivial
        )
      all_goals try first
        | exact Stop.mk (by rw [byteE_cut])
        | exact Stop.mk (by change (byteE _).set _ [D.n .u8 _] = _; rw [byteE_set (by omega)])
        | exact Stop.mk (by change byteE [] = _; with_reducible rfl)
        | exact Stop.mk rfl
      all_goals (refine Later.mk ?_; (try dsimp only); exact ⟨by first | omega | (simp only [List.length_take, List.length_drop]; omega) | (simp only [List.length_set]; omega) | (simp only [List.length_nil]; omega), by omega⟩)
end Go.Proofs.Ythmajaeekkbnnaa
