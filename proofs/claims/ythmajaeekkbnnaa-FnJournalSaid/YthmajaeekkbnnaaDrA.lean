/-
  Draws: the cursor.
-/
import Derived.Test.YthmajaeekkbnnaaSh
import Derived.Test.YthmajaeekkbnnaaAbsZ
import Derived.Test.YthmajaeekkbnnaaTxC
namespace Go.Proofs.Ythmajaeekkbnnaa
open Go Go.RowKit
attribute [local irreducible] AWp OpsOk OpOk ACalls ChA QsOk MCalls

theorem bytesOf : ∀ {es : List (List D)}, (∀ q ∈ es, ∃ z, q = [D.n .u8 z] ∧ (Lit.int .u8 z).wf = true) → ∃ b, es = byteE b
  | [], _ => ⟨[], rfl⟩
  | q :: es, h => by
    obtain ⟨z, rfl, hz⟩ := h q List.mem_cons_self
    obtain ⟨b, rfl⟩ := bytesOf (es := es) fun q hq => h q (List.mem_cons_of_mem _ hq)
    have hz' : 0 ≤ z ∧ z ≤ 255 := by
      simp [Lit.wf, IntKind.min, IntKind.max, IntKind.signed, IntKind.bits] at hz
      omega
    refine ⟨UInt8.ofNat z.toNat :: b, ?_⟩
    have := byteE_one hz'
    simp only [byteE, List.map_cons, List.map_nil, List.cons.injEq, and_true] at this ⊢
    exact this
/-- A cursor: the bytes, the place, the mix. -/
abbrev curO (b : List UInt8) (i h : Int) : AO := .box 136 [.d (.sl (byteE b)), .d (.n .i64 i), .d (.n .i64 h)]
set_option maxRecDepth 100000 in
theorem l01Byte_c {b : List UInt8} {i h : Int} (hL : b.length ≤ 1048576) (hI : 0 ≤ i ∧ i ≤ b.length) : MCalls Try.prog 134 [.ptr 1000000 0] [(1000000, curO b i h)] (fun (x : Int × Int × Int) => match x with | (v, p, _) => (0 ≤ v ∧ v ≤ 255) ∧ 0 ≤ p ∧ p ≤ b.length) (fun x => match x with | (v, _, _) => [.d (.n .i64 v)]) (fun x => match x with | (_, p, q) => [(1000000, curO b p q)]) (fun _ => []) := by
  refine mcalls_of tt Try.func134 rfl rfl rfl ⟨rfl, trivial⟩ (fun _ _ => ⟨⟨⟨rfl, rfl, rfl⟩, trivial⟩, rfl, trivial⟩) (fun w0 Z O => ?_)
  repeat' (first
    | apply awp_seq
    | (apply awp_regionN; exact rfl)
    | (refine Hb.mk (fun hb => ?_); (first | rw [inB_t] at hb | rw [inB_f] at hb | rw [inB_nt] at hb | rw [inB_nf] at hb | rw [decide_eq_true_eq] at hb | rw [decide_eq_false_iff_not] at hb | rw [beq_iff_eq] at hb | rw [beq_eq_false_iff_ne] at hb | rw [Bool.not_eq_true'] at hb | rw [Bool.not_eq_false'] at hb | rw [bne_iff_ne] at hb | rw [bne_eq_false_iff_eq] at hb | skip); (first | (exfalso; omega) | (exact absurd rfl hb) | skip))
    | (apply aopG_ok; exact rfl)
    | apply ops_nil
    | (apply awp_drawq; exact rfl; kernel_rfl; kernel_rfl; exact rfl)
    | (apply awp_drawx; exact rfl; kernel_rfl; exact rfl)
    | (apply aopQ_ok; exact rfl)
    | apply qs_nil
    | (apply ch_nil; exact rfl)
    | (apply ch_cons; (· exact rfl); (· exact rfl); (· exact rfl); (· exact rfl); (· (intro w0 Z O; first | (apply aop_ok; exact rfl) | (apply QOk.ok; first | refine zk0 rfl rfl rfl rfl rfl ?_ | refine zk2 rfl rfl rfl rfl rfl ?_ | refine zk5 rfl rfl rfl rfl rfl ?_ | refine zk7 rfl rfl rfl rfl rfl ?_ | refine zk11 rfl rfl rfl rfl rfl ?_ | refine zk12 rfl rfl rfl rfl rfl (fun _ => ?_) | refine zk13 rfl rfl rfl rfl rfl rfl rfl ?_ | refine zk14 rfl rfl rfl rfl rfl rfl rfl ?_ | refine zk17 rfl rfl rfl rfl rfl rfl rfl ?_ | refine zk19 rfl rfl rfl rfl rfl ?_ | refine zk20 rfl rfl rfl rfl rfl rfl ?_ | refine zk21 rfl rfl rfl rfl rfl rfl ?_ | refine zk22 rfl rfl rfl rfl rfl rfl ?_ | refine zk30 rfl rfl rfl rfl rfl rfl rfl ?_ | refine zk31 rfl rfl rfl rfl rfl rfl rfl rfl ?_ | refine zk39 rfl rfl rfl rfl rfl (u8_in _) rfl ?_ | refine zk40 rfl rfl rfl rfl rfl (fun r => ?_) | refine zk41 rfl rfl rfl rfl rfl (fun r => ?_) | refine zk42 rfl rfl rfl rfl rfl (fun r => ?_) | refine zk43 rfl rfl rfl rfl rfl (fun r => ?_) | refine zk44 rfl rfl rfl rfl rfl (fun r hr => ?_)) | refine zk37 rfl rfl rfl rfl rfl rfl rfl ?_ | refine zk38 rfl rfl rfl rfl rfl rfl rfl rfl rfl rfl ?_); exact ⟨rfl, rfl, rfl⟩); (· exact rfl); (· exact rfl); (· (repeat' (first | apply And.intro | exact Or.inl rfl | exact Or.inr ⟨rfl, rfl⟩ | exact trivial))); (· (repeat' (first | apply And.intro | exact trivial | exact rfl | exact flatE_map (fun _ => rfl) | apply flatE_app))); (· exact rfl); (· exact rfl); (· exact rfl); (· exact rfl))
    | (apply awp_cond_t; exact rfl)
    | (apply awp_cond_f; exact rfl)
    | (apply cond_x; exact rfl)
    | apply awp_block
    | apply awp_skip
    | apply awp_exit
    | apply awp_ret'
    | (first | (apply ops_cons; exact rfl) | (apply ops_yes; exact rfl; exact rfl; exact rfl))
    | (apply ops_x; exact rfl; exact rfl; (fail_if_success exact (rfl : _ = AV.d (.b true))); (fail_if_success exact (rfl : _ = AV.d (.b false))); exact rfl)
    | (first | (apply qs_cons; exact rfl) | (apply qs_yes; exact rfl; exact rfl; exact rfl))
    | (apply qs_x; exact rfl; exact rfl; (fail_if_success exact (rfl : _ = AV.d (.b true))); (fail_if_success exact (rfl : _ = AV.d (.b false))); exact rfl)
    | (apply op_id; first | refine zk37 rfl rfl rfl rfl rfl rfl rfl ?_ | refine zk38 rfl rfl rfl rfl rfl rfl rfl rfl rfl rfl ?_ | (apply qok_q; exact rfl))
    | (apply q_id; first | refine zk0 rfl rfl rfl rfl rfl ?_ | refine zk2 rfl rfl rfl rfl rfl ?_ | refine zk5 rfl rfl rfl rfl rfl ?_ | refine zk7 rfl rfl rfl rfl rfl ?_ | refine zk11 rfl rfl rfl rfl rfl ?_ | refine zk12 rfl rfl rfl rfl rfl (fun _ => ?_) | refine zk13 rfl rfl rfl rfl rfl rfl rfl ?_ | refine zk14 rfl rfl rfl rfl rfl rfl rfl ?_ | refine zk17 rfl rfl rfl rfl rfl rfl rfl ?_ | refine zk19 rfl rfl rfl rfl rfl ?_ | refine zk20 rfl rfl rfl rfl rfl rfl ?_ | refine zk21 rfl rfl rfl rfl rfl rfl ?_ | refine zk22 rfl rfl rfl rfl rfl rfl ?_ | refine zk30 rfl rfl rfl rfl rfl rfl rfl ?_ | refine zk31 rfl rfl rfl rfl rfl rfl rfl rfl ?_ | refine zk39 rfl rfl rfl rfl rfl (u8_in _) rfl ?_ | refine zk40 rfl rfl rfl rfl rfl (fun r => ?_) | refine zk41 rfl rfl rfl rfl rfl (fun r => ?_) | refine zk42 rfl rfl rfl rfl rfl (fun r => ?_) | refine zk43 rfl rfl rfl rfl rfl (fun r => ?_) | refine zk44 rfl rfl rfl rfl rfl (fun r hr => ?_))
    )
  all_goals
    refine Stop.mk ?_
    refine' retM_x ⟨_, _, _⟩ _ [] rfl ?_
    any_goals refine RetG.mk ?_ ?_ ?_ ?_ ?_
    any_goals (refine Later.mk ?_; (try dsimp only []); exact rfl)
    repeat' (first
      | apply And.intro
      | (apply eq_b; exact rfl; exact Stop.mk (by with_reducible rfl))
      | (apply eq_b; exact rfl)
      | (apply eq_n; exact rfl; exact Stop.mk (by first | with_reducible rfl | omega))
      | (apply eq_n; exact rfl)
      | (apply eq_s; exact rfl; exact Stop.mk (by with_reducible rfl))
      | (apply eq_s; exact rfl)
      | (apply eq_sl; exact rfl; exact Stop.mk (by with_reducible rfl))
      | (apply eq_sl; exact rfl)
      | (apply eq_row; exact rfl; exact Stop.mk (by with_reducible rfl))
      | (apply eq_row; exact rfl)
      | (apply eq_agg; exact rfl)
      | (apply eq_cons; exact rfl)
      | (apply eq_boxo; exact rfl)
      | (apply cell_agg; exact rfl; exact rfl; exact rfl)
      | (apply cell_one; exact rfl; exact rfl)
      | exact rfl
      | exact trivial
      )
    all_goals first | exact Stop.mk rfl | (refine Later.mk ?_; dsimp only; (try simp only [ncast]); (try simp only [Int.ofNat_eq_natCast]); omega)
theorem mod_in {k : Nat} {n : Int} (h : 0 < n) : n ≤ 0 ∧ ((k % n.toNat : Nat) : Int) = 0 ∨ 0 ≤ ((k % n.toNat : Nat) : Int) ∧ ((k % n.toNat : Nat) : Int) < n := by
  have := Nat.mod_lt k (show 0 < n.toNat by omega)
  omega
set_option maxRecDepth 100000 in
theorem l01Below_c {b : List UInt8} {i h n : Int} (hL : b.length ≤ 1048576) (hI : 0 ≤ i ∧ i ≤ b.length) : MCalls Try.prog 116 [.ptr 1000000 0, .d (.n .i64 n)] [(1000000, curO b i h)] (fun (x : Int × Int × Int) => match x with | (v, p, _) => (n ≤ 0 ∧ v = 0 ∨ 0 ≤ v ∧ v < n) ∧ 0 ≤ p ∧ p ≤ b.length) (fun x => match x with | (v, _, _) => [.d (.n .i64 v)]) (fun x => match x with | (_, p, q) => [(1000000, curO b p q)]) (fun _ => []) := by
  refine mcalls_of tt Try.func116 rfl rfl rfl ⟨rfl, trivial⟩ (fun _ _ => ⟨⟨⟨rfl, rfl, rfl⟩, trivial⟩, rfl, trivial⟩) (fun w0 Z O => ?_)
  repeat' (first
    | apply awp_seq
    | (apply awp_regionN; exact rfl)
    | (refine Hb.mk (fun hb => ?_); (first | rw [inB_t] at hb | rw [inB_f] at hb | rw [inB_nt] at hb | rw [inB_nf] at hb | rw [decide_eq_true_eq] at hb | rw [decide_eq_false_iff_not] at hb | rw [beq_iff_eq] at hb | rw [beq_eq_false_iff_ne] at hb | rw [Bool.not_eq_true'] at hb | rw [Bool.not_eq_false'] at hb | rw [bne_iff_ne] at hb | rw [bne_eq_false_iff_eq] at hb | skip); (first | (exfalso; omega) | (exact absurd rfl hb) | skip))
    | (apply aopG_ok; exact rfl)
    | apply ops_nil
    | (apply awp_cond_t; exact rfl)
    | (apply awp_cond_f; exact rfl)
    | (apply cond_x; exact rfl)
    | apply awp_block
    | apply awp_skip
    | apply awp_exit
    | apply awp_ret'
    | (first | (apply ops_cons; exact rfl) | (apply ops_yes; exact rfl; exact rfl; exact rfl))
    | (apply ops_x; exact rfl; exact rfl; (fail_if_success exact (rfl : _ = AV.d (.b true))); (fail_if_success exact (rfl : _ = AV.d (.b false))); exact rfl)
    | (apply op_id; first | (refine st_callm [1000000] (l01Byte_c hL (by omega)) rfl rfl rfl rfl rfl (fun _ _ => rfl) rfl (fun i hi => ?_); obtain ⟨iv, ip, ih⟩ := i; (try dsimp only at hi)) | (apply qok_q; exact rfl))
    | (apply q_id; first | refine zk0 rfl rfl rfl rfl rfl ?_ | refine zk2 rfl rfl rfl rfl rfl ?_ | refine zk4 rfl rfl rfl rfl rfl ?_ | refine zk5 rfl rfl rfl rfl rfl ?_ | refine zk7 rfl rfl rfl rfl rfl ?_ | refine zk9 rfl rfl rfl rfl rfl ?_ | refine zk19 rfl rfl rfl rfl rfl ?_)
    )
  · refine Stop.mk ?_
    refine' retM_x ⟨_, _, _⟩ _ [] rfl ?_
    any_goals refine RetG.mk ?_ ?_ ?_ ?_ ?_
    any_goals (refine Later.mk ?_; (try dsimp only []); exact rfl)
    repeat' (first
      | apply And.intro
      | (apply eq_b; exact rfl; exact Stop.mk (by with_reducible rfl))
      | (apply eq_b; exact rfl)
      | (apply eq_n; exact rfl; exact Stop.mk (by first | with_reducible rfl | omega))
      | (apply eq_n; exact rfl)
      | (apply eq_s; exact rfl; exact Stop.mk (by with_reducible rfl))
      | (apply eq_s; exact rfl)
      | (apply eq_sl; exact rfl; exact Stop.mk (by with_reducible rfl))
      | (apply eq_sl; exact rfl)
      | (apply eq_row; exact rfl; exact Stop.mk (by with_reducible rfl))
      | (apply eq_row; exact rfl)
      | (apply eq_agg; exact rfl)
      | (apply eq_cons; exact rfl)
      | (apply eq_boxo; exact rfl)
      | (apply cell_agg; exact rfl; exact rfl; exact rfl)
      | (apply cell_one; exact rfl; exact rfl)
      | exact rfl
      | exact trivial
      )
    all_goals first | exact Stop.mk rfl | (refine Later.mk ?_; dsimp only; (try simp only [ncast]); (try simp only [Int.ofNat_eq_natCast]); exact ⟨Or.inl ⟨by omega, trivial⟩, by omega⟩)
  all_goals
    refine Stop.mk ?_
    refine' retM_x ⟨_, _, _⟩ _ [] rfl ?_
    any_goals refine RetG.mk ?_ ?_ ?_ ?_ ?_
    any_goals (refine Later.mk ?_; (try dsimp only []); exact rfl)
    repeat' (first
      | apply And.intro
      | (apply eq_b; exact rfl; exact Stop.mk (by with_reducible rfl))
      | (apply eq_b; exact rfl)
      | (apply eq_n; exact rfl; exact Stop.mk (by first | with_reducible rfl | omega))
      | (apply eq_n; exact rfl)
      | (apply eq_s; exact rfl; exact Stop.mk (by with_reducible rfl))
      | (apply eq_s; exact rfl)
      | (apply eq_sl; exact rfl; exact Stop.mk (by with_reducible rfl))
      | (apply eq_sl; exact rfl)
      | (apply eq_row; exact rfl; exact Stop.mk (by with_reducible rfl))
      | (apply eq_row; exact rfl)
      | (apply eq_agg; exact rfl)
      | (apply eq_cons; exact rfl)
      | (apply eq_boxo; exact rfl)
      | (apply cell_agg; exact rfl; exact rfl; exact rfl)
      | (apply cell_one; exact rfl; exact rfl)
      | exact rfl
      | exact trivial
      )
    all_goals first | exact Stop.mk rfl | (refine Later.mk ?_; dsimp only; (try simp only [ncast]); (try simp only [Int.ofNat_eq_natCast]); exact ⟨mod_in (by omega), by omega⟩)
set_option maxRecDepth 100000 in
theorem l01Raw_c {b : List UInt8} {i h : Int} (hL : b.length ≤ 1048576) (hI : 0 ≤ i ∧ i ≤ b.length) : MCalls Try.prog 135 [.ptr 1000000 0] [(1000000, curO b i h)] (fun (x : Int × Int × Int) => match x with | (v, p, _) => (-9223372036854775808 ≤ v ∧ v ≤ 9223372036854775807) ∧ 0 ≤ p ∧ p ≤ b.length) (fun x => match x with | (v, _, _) => [.d (.n .i64 v)]) (fun x => match x with | (_, p, q) => [(1000000, curO b p q)]) (fun _ => []) := by
  refine mcalls_of tt Try.func135 rfl rfl rfl ⟨rfl, trivial⟩ (fun _ _ => ⟨⟨⟨rfl, rfl, rfl⟩, trivial⟩, rfl, trivial⟩) (fun w0 Z O => ?_)
  repeat' (first
    | apply awp_seq
    | (apply awp_regionN; exact rfl)
    | (refine Hb.mk (fun hb => ?_); (first | rw [inB_t] at hb | rw [inB_f] at hb | rw [inB_nt] at hb | rw [inB_nf] at hb | rw [decide_eq_true_eq] at hb | rw [decide_eq_false_iff_not] at hb | rw [beq_iff_eq] at hb | rw [beq_eq_false_iff_ne] at hb | rw [Bool.not_eq_true'] at hb | rw [Bool.not_eq_false'] at hb | rw [bne_iff_ne] at hb | rw [bne_eq_false_iff_eq] at hb | skip); (first | (exfalso; omega) | (exact absurd rfl hb) | skip))
    | (apply aopG_ok; exact rfl)
    | apply ops_nil
    | (apply awp_cond_t; exact rfl)
    | (apply awp_cond_f; exact rfl)
    | (apply cond_x; exact rfl)
    | apply awp_block
    | apply awp_skip
    | apply awp_exit
    | apply awp_ret'
    | (first | (apply ops_cons; exact rfl) | (apply ops_yes; exact rfl; exact rfl; exact rfl))
    | (apply ops_x; exact rfl; exact rfl; (fail_if_success exact (rfl : _ = AV.d (.b true))); (fail_if_success exact (rfl : _ = AV.d (.b false))); exact rfl)
    | (apply op_id; first | (refine st_callm [1000000] (l01Below_c hL (by omega)) rfl rfl rfl rfl rfl (fun _ _ => rfl) rfl (fun i hi => ?_); obtain ⟨iv, ip, ih⟩ := i; (try dsimp only at hi)) | (apply qok_q; exact rfl))
    | (apply q_id; first | refine zk0 rfl rfl rfl rfl rfl ?_ | refine zk1 rfl rfl rfl rfl rfl ?_ | refine zk5 rfl rfl rfl rfl rfl ?_ | refine zk6 rfl rfl rfl rfl rfl ?_ | refine zk10 rfl rfl rfl rfl rfl ?_ | refine zk19 rfl rfl rfl rfl rfl ?_ | refine zk28 ns_ok rfl rfl rfl rfl rfl rfl rfl rfl ?_)
    )
  all_goals
    refine Stop.mk ?_
    refine' retM_x ⟨_, _, _⟩ _ [] rfl ?_
    any_goals refine RetG.mk ?_ ?_ ?_ ?_ ?_
    any_goals (refine Later.mk ?_; (try dsimp only []); exact rfl)
    repeat' (first
      | apply And.intro
      | (apply eq_b; exact rfl; exact Stop.mk (by with_reducible rfl))
      | (apply eq_b; exact rfl)
      | (apply eq_n; exact rfl; exact Stop.mk (by first | with_reducible rfl | omega))
      | (apply eq_n; exact rfl)
      | (apply eq_s; exact rfl; exact Stop.mk (by with_reducible rfl))
      | (apply eq_s; exact rfl)
      | (apply eq_sl; exact rfl; exact Stop.mk (by with_reducible rfl))
      | (apply eq_sl; exact rfl)
      | (apply eq_row; exact rfl; exact Stop.mk (by with_reducible rfl))
      | (apply eq_row; exact rfl)
      | (apply eq_agg; exact rfl)
      | (apply eq_cons; exact rfl)
      | (apply eq_boxo; exact rfl)
      | (apply cell_agg; exact rfl; exact rfl; exact rfl)
      | (apply cell_one; exact rfl; exact rfl)
      | exact rfl
      | exact trivial
      )
    all_goals first | exact Stop.mk rfl | (refine Later.mk ?_; dsimp only; (try simp only [ncast]); (try simp only [Int.ofNat_eq_natCast]); omega)
set_option maxRecDepth 100000 in
theorem l01New_c {b : List UInt8} (hL : b.length ≤ 1048576) : MCalls Try.prog 114 [.d (.sl (byteE b))] [] (fun (_ : Int) => True) (fun _ => [.ptr 0 0]) (fun _ => []) (fun h => [(0, curO b 0 h)]) := by
  refine mcalls_of tt Try.func114 rfl rfl rfl trivial (fun _ _ => ⟨trivial, trivial⟩) (fun w0 Z O => ?_)
  repeat' (first
    | apply awp_seq
    | (apply awp_regionN; exact rfl)
    | (refine Hb.mk (fun hb => ?_); (first | rw [inB_t] at hb | rw [inB_f] at hb | rw [inB_nt] at hb | rw [inB_nf] at hb | rw [decide_eq_true_eq] at hb | rw [decide_eq_false_iff_not] at hb | rw [beq_iff_eq] at hb | rw [beq_eq_false_iff_ne] at hb | rw [Bool.not_eq_true'] at hb | rw [Bool.not_eq_false'] at hb | rw [bne_iff_ne] at hb | rw [bne_eq_false_iff_eq] at hb | skip); (first | (exfalso; omega) | (exact absurd rfl hb) | skip))
    | (apply aopG_ok; exact rfl)
    | apply ops_nil
    | (apply awp_cond_t; exact rfl)
    | (apply awp_cond_f; exact rfl)
    | (apply cond_x; exact rfl)
    | apply awp_block
    | apply awp_skip
    | apply awp_exit
    | apply awp_ret'
    | (first | (apply ops_cons; exact rfl) | (apply ops_yes; exact rfl; exact rfl; exact rfl))
    | (apply ops_x; exact rfl; exact rfl; (fail_if_success exact (rfl : _ = AV.d (.b true))); (fail_if_success exact (rfl : _ = AV.d (.b false))); exact rfl)
    | (apply op_id; first | refine zk37 rfl rfl rfl rfl rfl rfl rfl ?_ | refine zk38 rfl rfl rfl rfl rfl rfl rfl rfl rfl rfl ?_ | (apply qok_q; exact rfl))
    | (apply q_id; first | refine zk0 rfl rfl rfl rfl rfl ?_ | refine zk2 rfl rfl rfl rfl rfl ?_ | refine zk5 rfl rfl rfl rfl rfl ?_ | refine zk7 rfl rfl rfl rfl rfl ?_ | refine zk11 rfl rfl rfl rfl rfl ?_ | refine zk12 rfl rfl rfl rfl rfl (fun _ => ?_) | refine zk13 rfl rfl rfl rfl rfl rfl rfl ?_ | refine zk14 rfl rfl rfl rfl rfl rfl rfl ?_ | refine zk17 rfl rfl rfl rfl rfl rfl rfl ?_ | refine zk19 rfl rfl rfl rfl rfl ?_ | refine zk20 rfl rfl rfl rfl rfl rfl ?_ | refine zk21 rfl rfl rfl rfl rfl rfl ?_ | refine zk22 rfl rfl rfl rfl rfl rfl ?_ | refine zk23 rfl rfl rfl rfl rfl rfl ?_ | refine zk30 rfl rfl rfl rfl rfl rfl rfl ?_ | refine zk31 rfl rfl rfl rfl rfl rfl rfl rfl ?_ | refine zk39 rfl rfl rfl rfl rfl (u8_in _) rfl ?_ | refine zk40 rfl rfl rfl rfl rfl (fun r => ?_) | refine zk41 rfl rfl rfl rfl rfl (fun r => ?_) | refine zk44 rfl rfl rfl rfl rfl (fun r hr => ?_))
    )
  refine awp_loop (fun (x : Nat × Int) => ⟨32, [(0, .d (.sl (byteE b))), (2, .any), (3, .d (.n .i64 x.2)), (4, .d (.n .i64 x.1))], []⟩) (fun x => x.1 ≤ b.length) (fun x => b.length - x.1) (0, ((958001 + b.length : Nat) : Int)) (Nat.zero_le _) ?_ ?_
  · refine ⟨rfl, ?_, ?_, rfl⟩
    repeat' (first
      | apply And.intro
      | (apply eq_b; exact rfl; exact Stop.mk (by with_reducible rfl))
      | (apply eq_b; exact rfl)
      | (apply eq_n; exact rfl; exact Stop.mk (by first | with_reducible rfl | omega))
      | (apply eq_n; exact rfl)
      | (apply eq_s; exact rfl; exact Stop.mk (by with_reducible rfl))
      | (apply eq_s; exact rfl)
      | (apply eq_sl; exact rfl; exact Stop.mk (by with_reducible rfl))
      | (apply eq_sl; exact rfl)
      | (apply eq_row; exact rfl; exact Stop.mk (by with_reducible rfl))
      | (apply eq_row; exact rfl)
      | (apply eq_agg; exact rfl)
      | (apply eq_cons; exact rfl)
      | (apply eq_boxo; exact rfl)
      | (apply cell_agg; exact rfl; exact rfl; exact rfl)
      | (apply cell_one; exact rfl; exact rfl)
      | exact rfl
      | trivial
      )
    all_goals exact Stop.mk rfl
  · intro x hx
    repeat' (first
      | apply awp_seq
      | (apply awp_regionN; exact rfl)
      | (refine Hb.mk (fun hb => ?_); (first | rw [inB_t] at hb | rw [inB_f] at hb | rw [inB_nt] at hb | rw [inB_nf] at hb | rw [decide_eq_true_eq] at hb | rw [decide_eq_false_iff_not] at hb | rw [beq_iff_eq] at hb | rw [beq_eq_false_iff_ne] at hb | rw [Bool.not_eq_true'] at hb | rw [Bool.not_eq_false'] at hb | rw [bne_iff_ne] at hb | rw [bne_eq_false_iff_eq] at hb | skip); (first | (exfalso; omega) | (exact absurd rfl hb) | skip))
      | (apply aopG_ok; exact rfl)
      | apply ops_nil
      | (apply awp_cond_t; exact rfl)
      | (apply awp_cond_f; exact rfl)
      | (apply cond_x; exact rfl)
      | apply awp_block
      | apply awp_skip
      | apply awp_exit
      | apply awp_ret'
      | (first | (apply ops_cons; exact rfl) | (apply ops_yes; exact rfl; exact rfl; exact rfl))
      | (apply ops_x; exact rfl; exact rfl; (fail_if_success exact (rfl : _ = AV.d (.b true))); (fail_if_success exact (rfl : _ = AV.d (.b false))); exact rfl)
      | (apply op_id; first | refine zk37 rfl rfl rfl rfl rfl rfl rfl ?_ | refine zk38 rfl rfl rfl rfl rfl rfl rfl rfl rfl rfl ?_ | (apply qok_q; exact rfl))
      | (apply q_id; first | refine zk0 rfl rfl rfl rfl rfl ?_ | refine zk2 rfl rfl rfl rfl rfl ?_ | refine zk5 rfl rfl rfl rfl rfl ?_ | refine zk7 rfl rfl rfl rfl rfl ?_ | refine zk11 rfl rfl rfl rfl rfl ?_ | refine zk12 rfl rfl rfl rfl rfl (fun _ => ?_) | refine zk13 rfl rfl rfl rfl rfl rfl rfl ?_ | refine zk14 rfl rfl rfl rfl rfl rfl rfl ?_ | refine zk17 rfl rfl rfl rfl rfl rfl rfl ?_ | refine zk19 rfl rfl rfl rfl rfl ?_ | refine zk20 rfl rfl rfl rfl rfl rfl ?_ | refine zk21 rfl rfl rfl rfl rfl rfl ?_ | refine zk22 rfl rfl rfl rfl rfl rfl ?_ | refine zk23 rfl rfl rfl rfl rfl rfl ?_ | refine zk30 rfl rfl rfl rfl rfl rfl rfl ?_ | refine zk31 rfl rfl rfl rfl rfl rfl rfl rfl ?_ | refine zk39 rfl rfl rfl rfl rfl (u8_in _) rfl ?_ | refine zk40 rfl rfl rfl rfl rfl (fun r => ?_) | refine zk41 rfl rfl rfl rfl rfl (fun r => ?_) | refine zk44 rfl rfl rfl rfl rfl (fun r hr => ?_))
      )
    · refine ⟨(x.1 + 1, r), by dsimp only; omega, by dsimp only; omega, ?_⟩
      refine ⟨rfl, ?_, ?_, rfl⟩
      repeat' (first
        | apply And.intro
        | (apply eq_b; exact rfl; exact Stop.mk (by with_reducible rfl))
        | (apply eq_b; exact rfl)
        | (apply eq_n; exact rfl; exact Stop.mk (by first | with_reducible rfl | omega))
        | (apply eq_n; exact rfl)
        | (apply eq_s; exact rfl; exact Stop.mk (by with_reducible rfl))
        | (apply eq_s; exact rfl)
        | (apply eq_sl; exact rfl; exact Stop.mk (by with_reducible rfl))
        | (apply eq_sl; exact rfl)
        | (apply eq_row; exact rfl; exact Stop.mk (by with_reducible rfl))
        | (apply eq_row; exact rfl)
        | (apply eq_agg; exact rfl)
        | (apply eq_cons; exact rfl)
        | (apply eq_boxo; exact rfl)
        | (apply cell_agg; exact rfl; exact rfl; exact rfl)
        | (apply cell_one; exact rfl; exact rfl)
        | exact rfl
        | trivial
        )
      all_goals exact Stop.mk rfl
    all_goals
      refine Stop.mk ?_
      refine' retM_x _ _ [31] rfl ?_
      any_goals refine RetG.mk ?_ ?_ ?_ ?_ ?_
      any_goals (refine Later.mk ?_; (try dsimp only []); exact rfl)
      repeat' (first
        | apply And.intro
        | (apply eq_b; exact rfl; exact Stop.mk (by with_reducible rfl))
        | (apply eq_b; exact rfl)
        | (apply eq_n; exact rfl; exact Stop.mk (by first | with_reducible rfl | omega))
        | (apply eq_n; exact rfl)
        | (apply eq_s; exact rfl; exact Stop.mk (by with_reducible rfl))
        | (apply eq_s; exact rfl)
        | (apply eq_sl; exact rfl; exact Stop.mk (by with_reducible rfl))
        | (apply eq_sl; exact rfl)
        | (apply eq_row; exact rfl; exact Stop.mk (by with_reducible rfl))
        | (apply eq_row; exact rfl)
        | (apply eq_agg; exact rfl)
        | (apply eq_cons; exact rfl)
        | (apply eq_boxo; exact rfl)
        | (apply cell_agg; exact rfl; exact rfl; exact rfl)
        | (apply cell_one; exact rfl; exact rfl)
        | exact rfl
        | exact trivial
        )
      all_goals first | exact Stop.mk rfl | (refine Later.mk ?_; dsimp only; (try simp only [ncast]); (try simp only [Int.ofNat_eq_natCast]); skip)
end Go.Proofs.Ythmajaeekkbnnaa
