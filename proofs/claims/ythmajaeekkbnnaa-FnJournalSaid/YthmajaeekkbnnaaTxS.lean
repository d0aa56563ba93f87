/-
  The journal's bytes: ReadRecords, both.
-/
import Derived.Test.YthmajaeekkbnnaaSh
import Derived.Test.YthmajaeekkbnnaaAbsX
import Derived.Test.YthmajaeekkbnnaaTxK
namespace Go.Proofs.Ythmajaeekkbnnaa
open Go Go.RowKit
attribute [local irreducible] AWp OpsOk OpOk ACalls ChA QsOk

theorem byteE_cut (b : List UInt8) (j i : Nat) : ((byteE b).take j).drop i = byteE ((b.take j).drop i) := by simp [byteE, List.map_take, List.map_drop]
abbrev nlAt (b : List UInt8) (i : Nat) : Prop := ((nth b i).toNat : Int) = 10
def eolF (b : List UInt8) : Nat → Nat → Nat
  | 0, i => i
  | f + 1, i => if nlAt b i then i else eolF b f (i + 1)
/-- The place of the first line's end at a place or behind it. -/
def eol (b : List UInt8) (i : Nat) : Nat := eolF b (b.length - i) i
theorem eol_hit {b : List UInt8} {i : Nat} (hi : i < b.length) (h : nlAt b i) : eol b i = i := by
  unfold eol
  obtain ⟨f, hf⟩ : ∃ f, b.length - i = f + 1 := ⟨b.length - i - 1, by omega⟩
  rw [hf, eolF, if_pos h]
theorem eol_miss {b : List UInt8} {i : Nat} (hi : i < b.length) (h : ¬ nlAt b i) : eol b i = eol b (i + 1) := by
  unfold eol
  obtain ⟨f, hf⟩ : ∃ f, b.length - i = f + 1 := ⟨b.length - i - 1, by omega⟩
  rw [hf, eolF, if_neg h, show b.length - (i + 1) = f by omega]
theorem eol_end {b : List UInt8} : eol b b.length = b.length := by
  unfold eol
  rw [Nat.sub_self, eolF]
theorem eol_spec (b : List UInt8) : ∀ (k i : Nat), i + k = b.length → i ≤ eol b i ∧ eol b i ≤ b.length ∧ (eol b i < b.length → nlAt b (eol b i))
  | 0, i, h => by
    obtain rfl : i = b.length := by omega
    rw [eol_end]
    exact ⟨Nat.le_refl _, Nat.le_refl _, fun h => by omega⟩
  | k + 1, i, h => by
    by_cases hn : nlAt b i
    · rw [eol_hit (by omega) hn]
      exact ⟨Nat.le_refl _, by omega, fun _ => hn⟩
    · rw [eol_miss (by omega) hn]
      have := eol_spec b k (i + 1) (by omega)
      exact ⟨by omega, this.2⟩
theorem eol_in {b : List UInt8} {i : Nat} (h : i ≤ b.length) : i ≤ eol b i ∧ eol b i ≤ b.length ∧ (eol b i < b.length → nlAt b (eol b i)) := eol_spec b (b.length - i) i (by omega)
abbrev hdT (n : Nat) : List UInt8 := numTx n ++ [32]
theorem hdT_len (n : Nat) : (hdT n).length ≤ 11 := by
  have := numTx_len n
  simp [hdT]; omega
abbrev subB (b : List UInt8) (i j : Nat) : List UInt8 := (b.take j).drop i
theorem sub_len {b : List UInt8} (h : b.length ≤ 1000000000) (i j : Nat) : (subB b i j).length ≤ 1000000000 := by
  simp only [List.length_drop, List.length_take]; omega
abbrev RdSt := List (List UInt8) × Nat
def rdOk (b : List UInt8) (x : RdSt) : Prop := eol b x.2 < b.length ∧ (hdT x.1.length).length ≤ eol b x.2 - x.2 ∧ subB b x.2 (x.2 + (hdT x.1.length).length) = hdT x.1.length ∧ recOkB (subB b (x.2 + (hdT x.1.length).length) (eol b x.2)) = true
instance (b : List UInt8) (x : RdSt) : Decidable (rdOk b x) := by unfold rdOk; infer_instance
def rdNext (b : List UInt8) (x : RdSt) : RdSt := (x.1 ++ [subB b (x.2 + (hdT x.1.length).length) (eol b x.2)], eol b x.2 + 1)
def rdF (b : List UInt8) : Nat → RdSt → RdSt
  | 0, x => x
  | f + 1, x => if rdOk b x then rdF b f (rdNext b x) else x
/-- What is read: the records, and how far they reach. -/
def readR (b : List UInt8) : RdSt := rdF b (b.length + 1) ([], 0)
/-- On the way. -/
def rdAt (b : List UInt8) (x : RdSt) : Prop := x.2 ≤ b.length ∧ x.1.length ≤ x.2 ∧ ∃ f, b.length < f + x.2 ∧ rdF b f x = readR b
theorem rdAt_0 (b : List UInt8) : rdAt b ([], 0) := ⟨Nat.zero_le _, Nat.le_refl _, b.length + 1, by simp, rfl⟩
theorem rdAt_yes {b : List UInt8} {x : RdSt} (h : rdAt b x) (hk : rdOk b x) : rdAt b (rdNext b x) := by
  obtain ⟨h1, h2, f, h3, h4⟩ := h
  have he := eol_in h1
  have k1 := hk.1
  have k2 := hk.2.1
  cases f with
  | zero => omega
  | succ f =>
    rw [rdF, if_pos hk] at h4
    refine ⟨by simp only [rdNext]; omega, by simp only [rdNext, List.length_append, List.length_singleton]; omega, f, by simp only [rdNext]; omega, h4⟩
theorem rdAt_no {b : List UInt8} {x : RdSt} (h : rdAt b x) (hk : ¬ rdOk b x) : readR b = x := by
  obtain ⟨h1, h2, f, h3, h4⟩ := h
  cases f with
  | zero => omega
  | succ f => rw [rdF, if_neg hk] at h4; exact h4.symm
theorem rdAt_end {b : List UInt8} {x : RdSt} (h : rdAt b x) (he : eol b x.2 = b.length) : readR b = x := rdAt_no h (fun hk => by have := hk.1; omega)
set_option maxRecDepth 100000 in
set_option maxHeartbeats 4000000 in
theorem readRecords_e {b : List UInt8} (h : b.length ≤ 1000000000) : ACalls Try.prog 51 [.d (.sl (byteE b))] [.row 0, .d (.n .i64 (readR b).2)] [(0, .row 9 (strE (readR b).1) true)] := by
  refine acalls_of tt Try.func51 rfl rfl rfl (fun w0 Z => ?_)
  repeat' (first
    | apply awp_seq
    | (apply awp_regionN; exact rfl)
    | (refine Hb.mk (fun hb => ?_); (first | rw [inB_t] at hb | rw [inB_f] at hb | rw [inB_nt] at hb | rw [inB_nf] at hb | rw [decide_eq_true_eq] at hb | rw [decide_eq_false_iff_not] at hb | rw [beq_iff_eq] at hb | rw [beq_eq_false_iff_ne] at hb | rw [Bool.not_eq_true'] at hb | rw [Bool.not_eq_false'] at hb | rw [bne_iff_ne] at hb | rw [bne_eq_false_iff_eq] at hb | skip); (first | (exfalso; omega) | (exact absurd rfl hb) | skip))
    | (apply aopG_ok; exact rfl)
    | apply ops_nil
    | (apply awp_cond_t; exact rfl)
    | (apply awp_cond_f; exact rfl)
    | (apply cond_x; exact rfl)
    | apply awp_block
    | apply awp_skip
    | apply awp_exit
    | apply awp_ret'
    | (first | (apply ops_cons; exact rfl) | (apply ops_yes; exact rfl; exact rfl; exact rfl))
    | (apply ops_x; exact rfl; exact rfl; (fail_if_success exact (rfl : _ = AV.d (.b true))); (fail_if_success exact (rfl : _ = AV.d (.b false))); exact rfl)
    | (apply op_id; first | refine zk32 rfl rfl rfl rfl rfl rfl rfl rfl rfl rfl rfl rfl ?_ | refine zk33 rfl rfl rfl rfl rfl rfl ⟨rfl, rfl, rfl⟩ rfl rfl ?_ | refine zk34 rfl rfl rfl rfl rfl ⟨rfl, rfl, rfl⟩ rfl rfl ?_ | refine zk35 rfl rfl rfl ⟨rfl, rfl, rfl⟩ rfl rfl rfl rfl rfl rfl rfl rfl rfl ?_ | refine zk37 rfl rfl rfl rfl rfl rfl rfl ?_ | refine zk38 rfl rfl rfl rfl rfl rfl rfl rfl rfl rfl ?_ | (apply qok_q; exact rfl))
    | (apply q_id; first | refine zk0 rfl rfl rfl rfl rfl ?_ | refine zk1 rfl rfl rfl rfl rfl ?_ | refine zk5 rfl rfl rfl rfl rfl ?_ | refine zk6 rfl rfl rfl rfl rfl ?_ | refine zk10 rfl rfl rfl rfl rfl ?_ | refine zk11 rfl rfl rfl rfl rfl ?_ | refine zk12 rfl rfl rfl rfl rfl (fun _ => ?_) | refine zk13 rfl rfl rfl rfl rfl rfl rfl ?_ | refine zk14 rfl rfl rfl rfl rfl rfl rfl ?_ | refine zk15 rfl rfl rfl rfl rfl rfl rfl ?_ | refine zk16 rfl rfl rfl rfl rfl rfl rfl ?_ | refine zk17 rfl rfl rfl rfl rfl rfl rfl ?_ | refine zk19 rfl rfl rfl rfl rfl ?_ | refine zk20 rfl rfl rfl rfl rfl rfl ?_ | refine zk21 rfl rfl rfl rfl rfl rfl ?_ | refine zk22 rfl rfl rfl rfl rfl rfl ?_ | refine zk28 ns_ok rfl rfl rfl rfl rfl rfl rfl rfl ?_ | refine zk29 ns_ok rfl rfl rfl rfl rfl rfl rfl rfl ?_ | refine zk30 rfl rfl rfl rfl rfl rfl rfl ?_ | refine zk31 rfl rfl rfl rfl rfl rfl rfl rfl ?_)
    )
  refine awp_loop (fun (x : RdSt) => ⟨77, [(0, .d (.sl (byteE b))), (4, .row 10), (5, .d (.n .i64 x.2)), (6, .d (.n .i64 x.2))], [(10, .row 9 (strE x.1) true)]⟩) (rdAt b) (fun x => b.length - x.2) ([], 0) (rdAt_0 b) ?_ ?_
  · refine ⟨rfl, ?_, ?_, rfl⟩
    repeat' (first
      | apply And.intro
      | (apply eq_b; exact rfl; exact Stop.mk (by with_reducible rfl))
      | (apply eq_b; exact rfl)
      | (apply eq_n; exact rfl; exact Stop.mk (by first | with_reducible rfl | omega))
      | (apply eq_n; exact rfl)
      | (apply eq_s; exact rfl; exact Stop.mk (by with_reducible rfl))
      | (apply eq_s; exact rfl)
      | (apply eq_sl; exact rfl; exact Stop.mk (by with_reducible rfl))
      | (apply eq_sl; exact rfl)
      | (apply eq_row; exact rfl; exact Stop.mk (by with_reducible rfl))
      | (apply eq_row; exact rfl)
      | (apply eq_agg; exact rfl)
      | (apply eq_cons; exact rfl)
      | (apply eq_boxo; exact rfl)
      | (apply cell_agg; exact rfl; exact rfl; exact rfl)
      | (apply cell_one; exact rfl; exact rfl)
      | exact rfl
      | trivial
      )
    all_goals exact Stop.mk rfl
  · intro x hx
    have hx1 := hx.1
    have hx2 := hx.2.1
    have he := eol_in hx1
    repeat' (first
      | apply awp_seq
      | (apply awp_regionN; exact rfl)
      | (refine Hb.mk (fun hb => ?_); (first | rw [inB_t] at hb | rw [inB_f] at hb | rw [inB_nt] at hb | rw [inB_nf] at hb | rw [decide_eq_true_eq] at hb | rw [decide_eq_false_iff_not] at hb | rw [beq_iff_eq] at hb | rw [beq_eq_false_iff_ne] at hb | rw [Bool.not_eq_true'] at hb | rw [Bool.not_eq_false'] at hb | rw [bne_iff_ne] at hb | rw [bne_eq_false_iff_eq] at hb | skip); (first | (exfalso; omega) | (exact absurd rfl hb) | skip))
      | (apply aopG_ok; exact rfl)
      | apply ops_nil
      | (apply awp_cond_t; exact rfl)
      | (apply awp_cond_f; exact rfl)
      | (apply cond_x; exact rfl)
      | apply awp_block
      | apply awp_skip
      | apply awp_exit
      | apply awp_ret'
      | (first | (apply ops_cons; exact rfl) | (apply ops_yes; exact rfl; exact rfl; exact rfl))
      | (apply ops_x; exact rfl; exact rfl; (fail_if_success exact (rfl : _ = AV.d (.b true))); (fail_if_success exact (rfl : _ = AV.d (.b false))); exact rfl)
      | (apply op_id; first | refine zk32 rfl rfl rfl rfl rfl rfl rfl rfl rfl rfl rfl rfl ?_ | refine zk33 rfl rfl rfl rfl rfl rfl ⟨rfl, rfl, rfl⟩ rfl rfl ?_ | refine zk34 rfl rfl rfl rfl rfl ⟨rfl, rfl, rfl⟩ rfl rfl ?_ | refine zk35 rfl rfl rfl ⟨rfl, rfl, rfl⟩ rfl rfl rfl rfl rfl rfl rfl rfl rfl ?_ | refine zk37 rfl rfl rfl rfl rfl rfl rfl ?_ | refine zk38 rfl rfl rfl rfl rfl rfl rfl rfl rfl rfl ?_ | (apply qok_q; exact rfl))
      | (apply q_id; first | refine zk0 rfl rfl rfl rfl rfl ?_ | refine zk1 rfl rfl rfl rfl rfl ?_ | refine zk5 rfl rfl rfl rfl rfl ?_ | refine zk6 rfl rfl rfl rfl rfl ?_ | refine zk10 rfl rfl rfl rfl rfl ?_ | refine zk11 rfl rfl rfl rfl rfl ?_ | refine zk12 rfl rfl rfl rfl rfl (fun _ => ?_) | refine zk13 rfl rfl rfl rfl rfl rfl rfl ?_ | refine zk14 rfl rfl rfl rfl rfl rfl rfl ?_ | refine zk15 rfl rfl rfl rfl rfl rfl rfl ?_ | refine zk16 rfl rfl rfl rfl rfl rfl rfl ?_ | refine zk17 rfl rfl rfl rfl rfl rfl rfl ?_ | refine zk19 rfl rfl rfl rfl rfl ?_ | refine zk20 rfl rfl rfl rfl rfl rfl ?_ | refine zk21 rfl rfl rfl rfl rfl rfl ?_ | refine zk22 rfl rfl rfl rfl rfl rfl ?_ | refine zk28 ns_ok rfl rfl rfl rfl rfl rfl rfl rfl ?_ | refine zk29 ns_ok rfl rfl rfl rfl rfl rfl rfl rfl ?_ | refine zk30 rfl rfl rfl rfl rfl rfl rfl ?_ | refine zk31 rfl rfl rfl rfl rfl rfl rfl rfl ?_)
      )
    · refine awp_loop (fun (i : Nat) => ⟨77, [(0, .d (.sl (byteE b))), (4, .row 10), (5, .d (.n .i64 x.2)), (6, .d (.n .i64 x.2)), (7, .d (.n .i64 i))], [(10, .row 9 (strE x.1) true)]⟩) (fun i => x.2 ≤ i ∧ i ≤ b.length ∧ eol b i = eol b x.2) (fun i => b.length - i) x.2 (by exact ⟨by omega, hx1, rfl⟩) ?_ ?_
      · refine ⟨rfl, ?_, ?_, rfl⟩
        repeat' (first
          | apply And.intro
          | (apply eq_b; exact rfl; exact Stop.mk (by with_reducible rfl))
          | (apply eq_b; exact rfl)
          | (apply eq_n; exact rfl; exact Stop.mk (by first | with_reducible rfl | omega))
          | (apply eq_n; exact rfl)
          | (apply eq_s; exact rfl; exact Stop.mk (by with_reducible rfl))
          | (apply eq_s; exact rfl)
          | (apply eq_sl; exact rfl; exact Stop.mk (by with_reducible rfl))
          | (apply eq_sl; exact rfl)
          | (apply eq_row; exact rfl; exact Stop.mk (by with_reducible rfl))
          | (apply eq_row; exact rfl)
          | (apply eq_agg; exact rfl)
          | (apply eq_cons; exact rfl)
          | (apply eq_boxo; exact rfl)
          | (apply cell_agg; exact rfl; exact rfl; exact rfl)
          | (apply cell_one; exact rfl; exact rfl)
          | exact rfl
          | trivial
          )
        all_goals exact Stop.mk rfl
      · rintro i ⟨hi1, hi2, hi3⟩
        have hl := hdT_len x.1.length
        have hnl := numTx_len x.1.length
        have hdl : (numTx (x.1.length : Int) ++ ({ data := #[32] } : ByteArray).data.toList).length = (hdT x.1.length).length := rfl
        have hE : nlAt b i → i < b.length → eol b x.2 = i := fun hn hl => by rw [← hi3]; exact eol_hit hl hn
        repeat' (first
          | apply awp_seq
          | (apply awp_regionN; exact rfl)
          | (refine Hb.mk (fun hb => ?_); (first | rw [inB_t] at hb | rw [inB_f] at hb | rw [inB_nt] at hb | rw [inB_nf] at hb | rw [decide_eq_true_eq] at hb | rw [decide_eq_false_iff_not] at hb | rw [beq_iff_eq] at hb | rw [beq_eq_false_iff_ne] at hb | rw [Bool.not_eq_true'] at hb | rw [Bool.not_eq_false'] at hb | rw [bne_iff_ne] at hb | rw [bne_eq_false_iff_eq] at hb | skip); (first | (exfalso; omega) | (exact absurd rfl hb) | skip))
          | (apply aopG_ok; exact rfl)
          | apply ops_nil
          | (apply awp_cond_t; exact rfl)
          | (apply awp_cond_f; exact rfl)
          | (apply cond_x; exact rfl)
          | apply awp_block
          | apply awp_skip
          | apply awp_exit
          | apply awp_ret'
          | (first | (apply ops_cons; exact rfl) | (apply ops_yes; exact rfl; exact rfl; exact rfl))
          | (apply ops_x; exact rfl; exact rfl; (fail_if_success exact (rfl : _ = AV.d (.b true))); (fail_if_success exact (rfl : _ = AV.d (.b false))); exact rfl)
          | (apply op_id; first | refine zk32 rfl rfl rfl rfl rfl rfl rfl rfl rfl rfl rfl rfl ?_ | refine zk33 rfl rfl rfl rfl rfl rfl ⟨rfl, rfl, rfl⟩ rfl rfl ?_ | refine zk34 rfl rfl rfl rfl rfl ⟨rfl, rfl, rfl⟩ rfl rfl ?_ | refine zk35 rfl rfl rfl ⟨rfl, rfl, rfl⟩ rfl rfl rfl rfl rfl rfl rfl rfl rfl ?_ | refine zk37 rfl rfl rfl rfl rfl rfl rfl ?_ | refine zk38 rfl rfl rfl rfl rfl rfl rfl rfl rfl rfl ?_ | refine st_call (numText_e) rfl rfl rfl rfl rfl ?_ | refine st_call (recordOk_e (sub_len h _ _)) rfl rfl rfl rfl rfl ?_ | (apply qok_q; exact rfl))
          | (apply q_id; first | refine zk0 rfl rfl rfl rfl rfl ?_ | refine zk1 rfl rfl rfl rfl rfl ?_ | refine zk5 rfl rfl rfl rfl rfl ?_ | refine zk6 rfl rfl rfl rfl rfl ?_ | refine zk10 rfl rfl rfl rfl rfl ?_ | refine zk11 rfl rfl rfl rfl rfl ?_ | refine zk12 rfl rfl rfl rfl rfl (fun _ => ?_) | refine zk13 rfl rfl rfl rfl rfl rfl rfl ?_ | refine zk14 rfl rfl rfl rfl rfl rfl rfl ?_ | refine zk15 rfl rfl rfl rfl rfl rfl rfl ?_ | refine zk16 rfl rfl rfl rfl rfl rfl rfl ?_ | refine zk17 rfl rfl rfl rfl rfl rfl rfl ?_ | refine zk19 rfl rfl rfl rfl rfl ?_ | refine zk20 rfl rfl rfl rfl rfl rfl ?_ | refine zk21 rfl rfl rfl rfl rfl rfl ?_ | refine zk22 rfl rfl rfl rfl rfl rfl ?_ | refine zk28 ns_ok rfl rfl rfl rfl rfl rfl rfl rfl ?_ | refine zk29 ns_ok rfl rfl rfl rfl rfl rfl rfl rfl ?_ | refine zk30 rfl rfl rfl rfl rfl rfl rfl ?_ | refine zk31 rfl rfl rfl rfl rfl rfl rfl rfl ?_)
          )
        · refine ⟨i + 1, ⟨by omega, by omega, by rw [← hi3]; exact (eol_miss (by omega) (by assumption)).symm⟩, by omega, ?_⟩
          refine ⟨rfl, ?_, ?_, rfl⟩
          repeat' (first
            | apply And.intro
            | (apply eq_b; exact rfl; exact Stop.mk (by with_reducible rfl))
            | (apply eq_b; exact rfl)
            | (apply eq_n; exact rfl; exact Stop.mk (by first | with_reducible rfl | omega))
            | (apply eq_n; exact rfl)
            | (apply eq_s; exact rfl; exact Stop.mk (by with_reducible rfl))
            | (apply eq_s; exact rfl)
            | (apply eq_sl; exact rfl; exact Stop.mk (by with_reducible rfl))
            | (apply eq_sl; exact rfl)
            | (apply eq_row; exact rfl; exact Stop.mk (by with_reducible rfl))
            | (apply eq_row; exact rfl)
            | (apply eq_agg; exact rfl)
            | (apply eq_cons; exact rfl)
            | (apply eq_boxo; exact rfl)
            | (apply cell_agg; exact rfl; exact rfl; exact rfl)
            | (apply cell_one; exact rfl; exact rfl)
            | exact rfl
            | trivial
            )
          all_goals exact Stop.mk rfl
        · have hE := hE (by assumption) (by omega)
          have hR := rdAt_no hx fun hk => by have := hk.2.1; omega
          rw [hR]
          refine Stop.mk ?_
          refine ret_intro [10] rfl rfl ?_ ?_
          repeat' (first
            | apply And.intro
            | (apply eq_b; exact rfl; exact Stop.mk (by with_reducible rfl))
            | (apply eq_b; exact rfl)
            | (apply eq_n; exact rfl; exact Stop.mk (by first | with_reducible rfl | omega))
            | (apply eq_n; exact rfl)
            | (apply eq_s; exact rfl; exact Stop.mk (by with_reducible rfl))
            | (apply eq_s; exact rfl)
            | (apply eq_sl; exact rfl; exact Stop.mk (by with_reducible rfl))
            | (apply eq_sl; exact rfl)
            | (apply eq_row; exact rfl; exact Stop.mk (by with_reducible rfl))
            | (apply eq_row; exact rfl)
            | (apply eq_agg; exact rfl)
            | (apply eq_cons; exact rfl)
            | (apply eq_boxo; exact rfl)
            | (apply cell_agg; exact rfl; exact rfl; exact rfl)
            | (apply cell_one; exact rfl; exact rfl)
            | exact rfl
            | trivial
            )
          all_goals exact Stop.mk rfl
        · have hE := hE (by assumption) (by omega)
          have hR := rdAt_no hx fun hk => by have := hk.2.2.1; contradiction
          rw [hR]
          refine Stop.mk ?_
          refine ret_intro [10] rfl rfl ?_ ?_
          repeat' (first
            | apply And.intro
            | (apply eq_b; exact rfl; exact Stop.mk (by with_reducible rfl))
            | (apply eq_b; exact rfl)
            | (apply eq_n; exact rfl; exact Stop.mk (by first | with_reducible rfl | omega))
            | (apply eq_n; exact rfl)
            | (apply eq_s; exact rfl; exact Stop.mk (by with_reducible rfl))
            | (apply eq_s; exact rfl)
            | (apply eq_sl; exact rfl; exact Stop.mk (by with_reducible rfl))
            | (apply eq_sl; exact rfl)
            | (apply eq_row; exact rfl; exact Stop.mk (by with_reducible rfl))
            | (apply eq_row; exact rfl)
            | (apply eq_agg; exact rfl)
            | (apply eq_cons; exact rfl)
            | (apply eq_boxo; exact rfl)
            | (apply cell_agg; exact rfl; exact rfl; exact rfl)
            | (apply cell_one; exact rfl; exact rfl)
            | exact rfl
            | trivial
            )
          all_goals exact Stop.mk rfl
        · have hE := hE (by assumption) (by omega)
          have hR := rdAt_no hx fun hk => by have := hk.2.2.2; rw [hE] at this; exact Bool.noConfusion (Eq.trans (Eq.symm this) (by assumption : recOkB (subB b (x.2 + (hdT x.1.length).length) i) = false))
          rw [hR]
          refine Stop.mk ?_
          refine ret_intro [10] rfl rfl ?_ ?_
          repeat' (first
            | apply And.intro
            | (apply eq_b; exact rfl; exact Stop.mk (by with_reducible rfl))
            | (apply eq_b; exact rfl)
            | (apply eq_n; exact rfl; exact Stop.mk (by first | with_reducible rfl | omega))
            | (apply eq_n; exact rfl)
            | (apply eq_s; exact rfl; exact Stop.mk (by with_reducible rfl))
            | (apply eq_s; exact rfl)
            | (apply eq_sl; exact rfl; exact Stop.mk (by with_reducible rfl))
            | (apply eq_sl; exact rfl)
            | (apply eq_row; exact rfl; exact Stop.mk (by with_reducible rfl))
            | (apply eq_row; exact rfl)
            | (apply eq_agg; exact rfl)
            | (apply eq_cons; exact rfl)
            | (apply eq_boxo; exact rfl)
            | (apply cell_agg; exact rfl; exact rfl; exact rfl)
            | (apply cell_one; exact rfl; exact rfl)
            | exact rfl
            | trivial
            )
          all_goals exact Stop.mk rfl
        · have hE := hE (by assumption) (by omega)
          have hok : rdOk b x := ⟨by omega, by omega, by assumption, by rw [hE]; assumption⟩
          refine ⟨rdNext b x, rdAt_yes hx hok, by simp only [rdNext]; omega, ?_⟩
          refine ⟨rfl, ?_, ?_, rfl⟩
          repeat' (first
            | apply And.intro
            | (apply eq_b; exact rfl; exact Stop.mk (by with_reducible rfl))
            | (apply eq_b; exact rfl)
            | (apply eq_n; exact rfl; exact Stop.mk (by first | with_reducible rfl | omega))
            | (apply eq_n; exact rfl)
            | (apply eq_s; exact rfl; exact Stop.mk (by with_reducible rfl))
            | (apply eq_s; exact rfl)
            | (apply eq_sl; exact rfl; exact Stop.mk (by with_reducible rfl))
            | (apply eq_sl; exact rfl)
            | (apply eq_row; exact rfl; exact Stop.mk (by with_reducible rfl))
            | (apply eq_row; exact rfl)
            | (apply eq_agg; exact rfl)
            | (apply eq_cons; exact rfl)
            | (apply eq_boxo; exact rfl)
            | (apply cell_agg; exact rfl; exact rfl; exact rfl)
            | (apply cell_one; exact rfl; exact rfl)
            | exact rfl
            | trivial
            )
          all_goals exact Stop.mk (by simp only [rdNext, hE, ← strE_snoc])
        · have hR := rdAt_end hx (by rw [← hi3, show i = b.length by omega, eol_end])
          rw [hR]
          refine Stop.mk ?_
          refine ret_intro [10] rfl rfl ?_ ?_
          repeat' (first
            | apply And.intro
            | (apply eq_b; exact rfl; exact Stop.mk (by with_reducible rfl))
            | (apply eq_b; exact rfl)
            | (apply eq_n; exact rfl; exact Stop.mk (by first | with_reducible rfl | omega))
            | (apply eq_n; exact rfl)
            | (apply eq_s; exact rfl; exact Stop.mk (by with_reducible rfl))
            | (apply eq_s; exact rfl)
            | (apply eq_sl; exact rfl; exact Stop.mk (by with_reducible rfl))
            | (apply eq_sl; exact rfl)
            | (apply eq_row; exact rfl; exact Stop.mk (by with_reducible rfl))
            | (apply eq_row; exact rfl)
            | (apply eq_agg; exact rfl)
            | (apply eq_cons; exact rfl)
            | (apply eq_boxo; exact rfl)
            | (apply cell_agg; exact rfl; exact rfl; exact rfl)
            | (apply cell_one; exact rfl; exact rfl)
            | exact rfl
            | trivial
            )
          all_goals exact Stop.mk rfl
    · have hR := rdAt_end hx (by rw [show x.2 = b.length by omega, eol_end])
      rw [hR]
      refine Stop.mk ?_
      refine ret_intro [10] rfl rfl ?_ ?_
      repeat' (first
        | apply And.intro
        | (apply eq_b; exact rfl; exact Stop.mk (by with_reducible rfl))
        | (apply eq_b; exact rfl)
        | (apply eq_n; exact rfl; exact Stop.mk (by first | with_reducible rfl | omega))
        | (apply eq_n; exact rfl)
        | (apply eq_s; exact rfl; exact Stop.mk (by with_reducible rfl))
        | (apply eq_s; exact rfl)
        | (apply eq_sl; exact rfl; exact Stop.mk (by with_reducible rfl))
        | (apply eq_sl; exact rfl)
        | (apply eq_row; exact rfl; exact Stop.mk (by with_reducible rfl))
        | (apply eq_row; exact rfl)
        | (apply eq_agg; exact rfl)
        | (apply eq_cons; exact rfl)
        | (apply eq_boxo; exact rfl)
        | (apply cell_agg; exact rfl; exact rfl; exact rfl)
        | (apply cell_one; exact rfl; exact rfl)
        | exact rfl
        | trivial
        )
      all_goals exact Stop.mk rfl
end Go.Proofs.Ythmajaeekkbnnaa
