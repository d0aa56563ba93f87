/-
  The law FnJournal, without its argument.
-/
import Derived.Test.YthmajaeekkbnnaaSh
import Derived.Test.YthmajaeekkbnnaaJrE
import Derived.Test.YthmajaeekkbnnaaEnD
namespace Go.Proofs.Ythmajaeekkbnnaa
open Go Go.RowKit
attribute [local irreducible] AWp OpsOk OpOk ACalls ChA QsOk MCalls EnC PY

/-- What a law asks of a journal with one more record. -/
theorem jr_facts {j : Journal} {s : List UInt8} (h : addC j s = 0) : ∃ (K : Journal) (L : List (List UInt8)), jnAdd j s = K ∧ readR K.bytes = (L, K.bytes.length) ∧ (L.length : Int) = K.count ∧ 0 < L.length ∧ nth L (L.length - 1) = s ∧ jnOk K = true ∧ K.synced = j.synced ∧
    (∀ keep, (readR (j.bytes.take j.synced.toNat)).2 ≤ (jnOpen (K.bytes.take (crashN K keep))).bytes.length ∧ (jnOpen (K.bytes.take (crashN K keep))).count ≤ K.count ∧ jnOk (jnOpen (K.bytes.take (crashN K keep))) = true) := by
  obtain ⟨hr, hk⟩ := jnAdd_read h
  obtain ⟨h1, h2, h3⟩ := addC_yes h
  obtain ⟨a, b, c, d⟩ := jnOk_iff.1 h1
  refine ⟨_, _, rfl, hr, ?_, ?_, ?_, hk, rfl, fun keep => ⟨(crash_law h).1, (crash_law h).2, jnOpen_ok ?_⟩⟩
  · simp only [jnAdd, List.length_append, List.length_singleton]
    omega
  · simp
  · simp [nth, List.getD]
  · rw [List.length_take]
    have := (jnOk_iff.1 hk).1
    omega
set_option maxRecDepth 100000 in
set_option maxHeartbeats 4000000 in
theorem lawJournal_e {b : List UInt8} : ACalls Try.prog 20 [.d (.sl (byteE b))] [.d (.b true)] [] := by
  refine acalls_of tt Try.func20 rfl rfl rfl (fun w0 Z => ?_)
  by_cases hL : b.length ≤ 1048576
  · repeat' (first
      | apply awp_seq
      | (apply awp_regionN; exact rfl)
      | (refine Hb.mk (fun hb => ?_); (first | rw [inB_t] at hb | rw [inB_f] at hb | rw [inB_nt] at hb | rw [inB_nf] at hb | rw [decide_eq_true_eq] at hb | rw [decide_eq_false_iff_not] at hb | rw [beq_iff_eq] at hb | rw [beq_eq_false_iff_ne] at hb | rw [Bool.not_eq_true'] at hb | rw [Bool.not_eq_false'] at hb | rw [bne_iff_ne] at hb | rw [bne_eq_false_iff_eq] at hb | skip); (first | (exfalso; omega) | (exact absurd rfl hb) | skip))
      | (apply aopG_ok; exact rfl)
      | apply ops_nil
      | (apply awp_drawq; exact rfl; kernel_rfl; kernel_rfl; exact rfl)
      | (apply awp_drawx; exact rfl; kernel_rfl; exact rfl)
      | (apply aopQ_ok; exact rfl)
      | apply qs_nil
      | (apply ch_nil; exact rfl)
      | (apply ch_cons; (· exact rfl); (· exact rfl); (· exact rfl); (· exact rfl); (· (intro w0 Z O; first | (apply aop_ok; exact rfl) | (apply QOk.ok; first | refine zk0 rfl rfl rfl rfl rfl ?_ | refine zk1 rfl rfl rfl rfl rfl ?_ | refine zk5 rfl rfl rfl rfl rfl ?_ | refine zk6 rfl rfl rfl rfl rfl ?_ | refine zk10 rfl rfl rfl rfl rfl ?_ | refine zk11 rfl rfl rfl rfl rfl ?_ | refine zk12 rfl rfl rfl rfl rfl (fun _ => ?_) | refine zk13 rfl rfl rfl rfl rfl rfl rfl ?_ | refine zk14 rfl rfl rfl rfl rfl rfl rfl ?_ | refine zk15 rfl rfl rfl rfl rfl rfl rfl ?_ | refine zk16 rfl rfl rfl rfl rfl rfl rfl ?_ | refine zk19 rfl rfl rfl rfl rfl ?_ | refine zk24 rfl rfl rfl rfl rfl rfl rfl ?_ | refine zk25 rfl rfl rfl rfl rfl rfl rfl ?_ | refine zk28 ns_ok rfl rfl rfl rfl rfl rfl rfl rfl ?_ | refine zk29 ns_ok rfl rfl rfl rfl rfl rfl rfl rfl ?_ | refine zk30 rfl rfl rfl rfl rfl rfl rfl ?_ | refine zk31 rfl rfl rfl rfl rfl rfl rfl rfl ?_) | refine zk38 rfl rfl rfl rfl rfl rfl rfl rfl rfl rfl ?_ | (refine st_callm [] (DrawJournalAdd_c hL) rfl rfl rfl rfl rfl (fun _ _ => rfl) rfl (fun i hi => ?_); obtain ⟨j, s⟩ := i; dsimp only at hi ⊢)); exact ⟨rfl, rfl, rfl⟩); (· exact rfl); (· exact rfl); (· (repeat' (first | apply And.intro | exact Or.inl rfl | exact Or.inr ⟨rfl, rfl⟩ | exact trivial))); (· (repeat' (first | apply And.intro | exact trivial | exact rfl | exact flatE_map (fun _ => rfl) | apply flatE_app))); (· exact rfl); (· exact rfl); (· exact rfl); (· exact rfl))
      | (apply awp_cond_t; exact rfl)
      | (apply awp_cond_f; exact rfl)
      | (apply cond_x; exact rfl)
      | apply awp_block
      | apply awp_skip
      | apply awp_exit
      | apply awp_ret'
      | (first | (apply ops_cons; exact rfl) | (apply ops_yes; exact rfl; exact rfl; exact rfl))
      | (apply ops_x; exact rfl; exact rfl; (fail_if_success exact (rfl : _ = AV.d (.b true))); (fail_if_success exact (rfl : _ = AV.d (.b false))); exact rfl)
      | (first | (apply qs_cons; exact rfl) | (apply qs_yes; exact rfl; exact rfl; exact rfl))
      | (apply qs_x; exact rfl; exact rfl; (fail_if_success exact (rfl : _ = AV.d (.b true))); (fail_if_success exact (rfl : _ = AV.d (.b false))); exact rfl)
      | (apply op_id; first | refine zk38 rfl rfl rfl rfl rfl rfl rfl rfl rfl rfl ?_ | (refine st_callm [] (DrawJournalAdd_c hL) rfl rfl rfl rfl rfl (fun _ _ => rfl) rfl (fun i hi => ?_); obtain ⟨j, s⟩ := i; dsimp only at hi ⊢) | (apply qok_q; exact rfl))
      | (apply q_id; first | refine zk0 rfl rfl rfl rfl rfl ?_ | refine zk1 rfl rfl rfl rfl rfl ?_ | refine zk5 rfl rfl rfl rfl rfl ?_ | refine zk6 rfl rfl rfl rfl rfl ?_ | refine zk10 rfl rfl rfl rfl rfl ?_ | refine zk11 rfl rfl rfl rfl rfl ?_ | refine zk12 rfl rfl rfl rfl rfl (fun _ => ?_) | refine zk13 rfl rfl rfl rfl rfl rfl rfl ?_ | refine zk14 rfl rfl rfl rfl rfl rfl rfl ?_ | refine zk15 rfl rfl rfl rfl rfl rfl rfl ?_ | refine zk16 rfl rfl rfl rfl rfl rfl rfl ?_ | refine zk19 rfl rfl rfl rfl rfl ?_ | refine zk24 rfl rfl rfl rfl rfl rfl rfl ?_ | refine zk25 rfl rfl rfl rfl rfl rfl rfl ?_ | refine zk28 ns_ok rfl rfl rfl rfl rfl rfl rfl rfl ?_ | refine zk29 ns_ok rfl rfl rfl rfl rfl rfl rfl rfl ?_ | refine zk30 rfl rfl rfl rfl rfl rfl rfl ?_ | refine zk31 rfl rfl rfl rfl rfl rfl rfl rfl ?_)
      )
    by_cases hc : addC j s = 0
    · have he := journalAdd_e hc
      have hs := journalAdd_s hc
      have hj := (addC_yes hc).1
      have hj2 := (jnOk_in hj)
      obtain ⟨K, L, e, hr, hcnt, hpos, hlast, hK, hsy, hcr⟩ := jr_facts hc
      rw [e] at he hs
      have hK2 := jnOk_in hK
      have hre := readRecords_e (b := K.bytes) (by omega)
      rw [hr] at hre
      dsimp only at hre
      have hrs := readRecords_s (b := j.bytes.take j.synced.toNat) (by rw [List.length_take]; omega)
      rw [← cut_eq (b := j.bytes) (m := j.synced.toNat) rfl] at hrs
      have hrl := readR_len (j.bytes.take j.synced.toNat)
      have htl : (j.bytes.take j.synced.toNat).length ≤ j.bytes.length := by rw [List.length_take]; omega
      repeat' (first
        | apply awp_seq
        | (apply awp_regionN; exact rfl)
        | (refine Hb.mk (fun hb => ?_); (first | rw [inB_t] at hb | rw [inB_f] at hb | rw [inB_nt] at hb | rw [inB_nf] at hb | rw [decide_eq_true_eq] at hb | rw [decide_eq_false_iff_not] at hb | rw [beq_iff_eq] at hb | rw [beq_eq_false_iff_ne] at hb | rw [Bool.not_eq_true'] at hb | rw [Bool.not_eq_false'] at hb | rw [bne_iff_ne] at hb | rw [bne_eq_false_iff_eq] at hb | skip); (first | (exfalso; omega) | (exact absurd rfl hb) | skip))
        | (apply aopG_ok; exact rfl)
        | apply ops_nil
        | (apply awp_drawq; exact rfl; kernel_rfl; kernel_rfl; exact rfl)
        | (apply awp_drawx; exact rfl; kernel_rfl; exact rfl)
        | (apply aopQ_ok; exact rfl)
        | apply qs_nil
        | (apply ch_nil; exact rfl)
        | (apply ch_cons; (· exact rfl); (· exact rfl); (· exact rfl); (· exact rfl); (· (intro w0 Z O; first | (apply aop_ok; exact rfl) | (apply QOk.ok; first | refine zk0 rfl rfl rfl rfl rfl ?_ | refine zk1 rfl rfl rfl rfl rfl ?_ | refine zk5 rfl rfl rfl rfl rfl ?_ | refine zk6 rfl rfl rfl rfl rfl ?_ | refine zk10 rfl rfl rfl rfl rfl ?_ | refine zk11 rfl rfl rfl rfl rfl ?_ | refine zk12 rfl rfl rfl rfl rfl (fun _ => ?_) | refine zk13 rfl rfl rfl rfl rfl rfl rfl ?_ | refine zk14 rfl rfl rfl rfl rfl rfl rfl ?_ | refine zk15 rfl rfl rfl rfl rfl rfl rfl ?_ | refine zk16 rfl rfl rfl rfl rfl rfl rfl ?_ | refine zk19 rfl rfl rfl rfl rfl ?_ | refine zk24 rfl rfl rfl rfl rfl rfl rfl ?_ | refine zk25 rfl rfl rfl rfl rfl rfl rfl ?_ | refine zk28 ns_ok rfl rfl rfl rfl rfl rfl rfl rfl ?_ | refine zk29 ns_ok rfl rfl rfl rfl rfl rfl rfl rfl ?_ | refine zk30 rfl rfl rfl rfl rfl rfl rfl ?_ | refine zk31 rfl rfl rfl rfl rfl rfl rfl rfl ?_) | refine zk38 rfl rfl rfl rfl rfl rfl rfl rfl rfl rfl ?_ | refine st_call (he) rfl rfl rfl rfl rfl ?_ | refine st_call (hs) rfl rfl rfl rfl rfl ?_ | refine st_call (hre) rfl rfl rfl rfl rfl ?_ | refine st_call (hrs) rfl rfl rfl rfl rfl ?_); exact ⟨rfl, rfl, rfl⟩); (· exact rfl); (· exact rfl); (· (repeat' (first | apply And.intro | exact Or.inl rfl | exact Or.inr ⟨rfl, rfl⟩ | exact trivial))); (· (repeat' (first | apply And.intro | exact trivial | exact rfl | exact flatE_map (fun _ => rfl) | apply flatE_app))); (· exact rfl); (· exact rfl); (· exact rfl); (· exact rfl))
        | (apply awp_cond_t; exact rfl)
        | (apply awp_cond_f; exact rfl)
        | (apply cond_x; exact rfl)
        | apply awp_block
        | apply awp_skip
        | apply awp_exit
        | apply awp_ret'
        | (first | (apply ops_cons; exact rfl) | (apply ops_yes; exact rfl; exact rfl; exact rfl))
        | (apply ops_x; exact rfl; exact rfl; (fail_if_success exact (rfl : _ = AV.d (.b true))); (fail_if_success exact (rfl : _ = AV.d (.b false))); exact rfl)
        | (first | (apply qs_cons; exact rfl) | (apply qs_yes; exact rfl; exact rfl; exact rfl))
        | (apply qs_x; exact rfl; exact rfl; (fail_if_success exact (rfl : _ = AV.d (.b true))); (fail_if_success exact (rfl : _ = AV.d (.b false))); exact rfl)
        | (apply q_id; first | refine st_callq (he) rfl rfl rfl rfl rfl ?_ | refine st_callq (hs) rfl rfl rfl rfl rfl ?_ | refine st_callq (hre) rfl rfl rfl rfl rfl ?_ | refine st_callq (hrs) rfl rfl rfl rfl rfl ?_)
        | (apply op_id; first | refine zk38 rfl rfl rfl rfl rfl rfl rfl rfl rfl rfl ?_ | refine st_call (he) rfl rfl rfl rfl rfl ?_ | refine st_call (hs) rfl rfl rfl rfl rfl ?_ | refine st_call (hre) rfl rfl rfl rfl rfl ?_ | refine st_call (hrs) rfl rfl rfl rfl rfl ?_ | (apply qok_q; exact rfl))
        | (apply q_id; first | refine zk0 rfl rfl rfl rfl rfl ?_ | refine zk1 rfl rfl rfl rfl rfl ?_ | refine zk5 rfl rfl rfl rfl rfl ?_ | refine zk6 rfl rfl rfl rfl rfl ?_ | refine zk10 rfl rfl rfl rfl rfl ?_ | refine zk11 rfl rfl rfl rfl rfl ?_ | refine zk12 rfl rfl rfl rfl rfl (fun _ => ?_) | refine zk13 rfl rfl rfl rfl rfl rfl rfl ?_ | refine zk14 rfl rfl rfl rfl rfl rfl rfl ?_ | refine zk15 rfl rfl rfl rfl rfl rfl rfl ?_ | refine zk16 rfl rfl rfl rfl rfl rfl rfl ?_ | refine zk19 rfl rfl rfl rfl rfl ?_ | refine zk24 rfl rfl rfl rfl rfl rfl rfl ?_ | refine zk25 rfl rfl rfl rfl rfl rfl rfl ?_ | refine zk28 ns_ok rfl rfl rfl rfl rfl rfl rfl rfl ?_ | refine zk29 ns_ok rfl rfl rfl rfl rfl rfl rfl rfl ?_ | refine zk30 rfl rfl rfl rfl rfl rfl rfl ?_ | refine zk31 rfl rfl rfl rfl rfl rfl rfl rfl ?_)
        )
      · exact absurd hlast hb
      refine awp_loop (fun (keep : Nat) => ⟨124, [(3, .ptr 3 0), (4, .d (.s s)), (5, .ptr 5 0), (12, .d (.n .i64 ((readR (j.bytes.take j.synced.toNat)).2 : Nat))), (13, .d (.n .i64 keep))], [(3, .box 72 [.d (.sl (byteE j.bytes)), .d (.n .i64 j.synced), .d (.n .i64 j.count)]), (5, .box 72 [.row 26, .d (.n .i64 K.synced), .d (.n .i64 K.count)]), (26, .row 5 (byteE K.bytes) true)]⟩) (fun k => k ≤ 60) (fun k => 60 - k) 0 (Nat.zero_le _) ?_ ?_
      · refine ⟨rfl, ?_, ?_, rfl⟩
        repeat' (first
          | apply And.intro
          | (apply eq_b; exact rfl; exact Stop.mk (by with_reducible rfl))
          | (apply eq_b; exact rfl)
          | (apply eq_n; exact rfl; exact Stop.mk (by first | with_reducible rfl | omega))
          | (apply eq_n; exact rfl)
          | (apply eq_s; exact rfl; exact Stop.mk (by with_reducible rfl))
          | (apply eq_s; exact rfl)
          | (apply eq_sl; exact rfl; exact Stop.mk (by with_reducible rfl))
          | (apply eq_sl; exact rfl)
          | (apply eq_row; exact rfl; exact Stop.mk (by with_reducible rfl))
          | (apply eq_row; exact rfl)
          | (apply eq_agg; exact rfl)
          | (apply eq_cons; exact rfl)
          | (apply eq_boxo; exact rfl)
          | (apply cell_agg; exact rfl; exact rfl; exact rfl)
          | (apply cell_one; exact rfl; exact rfl)
          | exact rfl
          | trivial
          )
        all_goals exact Stop.mk rfl
      · intro keep hkp
        have hce := journalCrash_e (keep := keep) hK
        obtain ⟨q1, q2, q3⟩ := hcr keep
        have htl2 : (K.bytes.take (crashN K keep)).length ≤ 40000 := by rw [List.length_take]; omega
        have hoe := journalOpen_e htl2
        have hok := journalOk_e (j := jnOpen (K.bytes.take (crashN K keep))) (by have := jn_len q3; omega)
        rw [q3] at hok
        have hsl := sync_law hK
        have hy := journalSync_e (j := K) (by omega) hK
        have hce0 := journalCrash_e (keep := 0) hsl.1
        rw [hsl.2.1] at hce0
        have hoe0 := journalOpen_e (b := K.bytes) (by omega)
        repeat' (first
          | apply awp_seq
          | (apply awp_regionN; exact rfl)
          | (refine Hb.mk (fun hb => ?_); (first | rw [inB_t] at hb | rw [inB_f] at hb | rw [inB_nt] at hb | rw [inB_nf] at hb | rw [decide_eq_true_eq] at hb | rw [decide_eq_false_iff_not] at hb | rw [beq_iff_eq] at hb | rw [beq_eq_false_iff_ne] at hb | rw [Bool.not_eq_true'] at hb | rw [Bool.not_eq_false'] at hb | rw [bne_iff_ne] at hb | rw [bne_eq_false_iff_eq] at hb | skip); (first | (exfalso; omega) | (exact absurd rfl hb) | skip))
          | (apply aopG_ok; exact rfl)
          | apply ops_nil
          | (apply awp_enum 20; exact rfl; exact rfl; exact rfl)
          | (apply awp_drawq; exact rfl; kernel_rfl; kernel_rfl; exact rfl)
          | (apply awp_drawx; exact rfl; kernel_rfl; exact rfl)
          | (apply aopQ_ok; exact rfl)
          | apply qs_nil
          | (apply ch_nil; exact rfl)
          | (apply ch_cons; (· exact rfl); (· exact rfl); (· exact rfl); (· exact rfl); (· (intro w0 Z O; first | (apply aop_ok; exact rfl) | (apply QOk.ok; first | refine zk0 rfl rfl rfl rfl rfl ?_ | refine zk1 rfl rfl rfl rfl rfl ?_ | refine zk5 rfl rfl rfl rfl rfl ?_ | refine zk6 rfl rfl rfl rfl rfl ?_ | refine zk10 rfl rfl rfl rfl rfl ?_ | refine zk11 rfl rfl rfl rfl rfl ?_ | refine zk12 rfl rfl rfl rfl rfl (fun _ => ?_) | refine zk13 rfl rfl rfl rfl rfl rfl rfl ?_ | refine zk14 rfl rfl rfl rfl rfl rfl rfl ?_ | refine zk15 rfl rfl rfl rfl rfl rfl rfl ?_ | refine zk16 rfl rfl rfl rfl rfl rfl rfl ?_ | refine zk19 rfl rfl rfl rfl rfl ?_ | refine zk24 rfl rfl rfl rfl rfl rfl rfl ?_ | refine zk25 rfl rfl rfl rfl rfl rfl rfl ?_ | refine zk28 ns_ok rfl rfl rfl rfl rfl rfl rfl rfl ?_ | refine zk29 ns_ok rfl rfl rfl rfl rfl rfl rfl rfl ?_ | refine zk30 rfl rfl rfl rfl rfl rfl rfl ?_ | refine zk31 rfl rfl rfl rfl rfl rfl rfl rfl ?_) | refine zk38 rfl rfl rfl rfl rfl rfl rfl rfl rfl rfl ?_ | (apply QOk.ok; apply st_fieldA; exact rfl) | refine st_call (hce) rfl rfl rfl rfl rfl ?_ | refine st_call (hoe) rfl rfl rfl rfl rfl ?_ | refine st_call (hok) rfl rfl rfl rfl rfl ?_ | refine st_call (hy) rfl rfl rfl rfl rfl ?_ | refine st_call (hce0) rfl rfl rfl rfl rfl ?_ | refine st_call (hoe0) rfl rfl rfl rfl rfl ?_); exact ⟨rfl, rfl, rfl⟩); (· exact rfl); (· exact rfl); (· (repeat' (first | apply And.intro | exact Or.inl rfl | exact Or.inr ⟨rfl, rfl⟩ | exact trivial))); (· (repeat' (first | apply And.intro | exact trivial | exact rfl | exact flatE_map (fun _ => rfl) | apply flatE_app))); (· exact rfl); (· exact rfl); (· exact rfl); (· exact rfl))
          | (apply aop_ok; exact rfl)
          | (apply ec_take; exact rfl; exact rfl; exact rfl; kernel_rfl; kernel_rfl; exact rfl)
          | (apply ec_end; exact rfl)
          | (apply ec_go; exact rfl)
          | apply ec_none
          | (apply ec_each; exact rfl; exact rfl; exact rfl)
          | (apply awp_cond_t; exact rfl)
          | (apply awp_cond_f; exact rfl)
          | (apply cond_x; exact rfl)
          | apply awp_block
          | apply awp_skip
          | apply awp_exit
          | apply awp_ret'
          | (first | (apply ops_cons; exact rfl) | (apply ops_yes; exact rfl; exact rfl; exact rfl))
          | (apply ops_x; exact rfl; exact rfl; (fail_if_success exact (rfl : _ = AV.d (.b true))); (fail_if_success exact (rfl : _ = AV.d (.b false))); exact rfl)
          | (first | (apply qs_cons; exact rfl) | (apply qs_yes; exact rfl; exact rfl; exact rfl))
          | (apply qs_x; exact rfl; exact rfl; (fail_if_success exact (rfl : _ = AV.d (.b true))); (fail_if_success exact (rfl : _ = AV.d (.b false))); exact rfl)
          | (apply q_id; first | refine st_callq (hce) rfl rfl rfl rfl rfl ?_ | refine st_callq (hoe) rfl rfl rfl rfl rfl ?_ | refine st_callq (hok) rfl rfl rfl rfl rfl ?_ | refine st_callq (hy) rfl rfl rfl rfl rfl ?_ | refine st_callq (hce0) rfl rfl rfl rfl rfl ?_ | refine st_callq (hoe0) rfl rfl rfl rfl rfl ?_)
          | (apply op_id; first | refine zk38 rfl rfl rfl rfl rfl rfl rfl rfl rfl rfl ?_ | (apply QOk.ok; apply st_fieldA; exact rfl) | refine st_call (hce) rfl rfl rfl rfl rfl ?_ | refine st_call (hoe) rfl rfl rfl rfl rfl ?_ | refine st_call (hok) rfl rfl rfl rfl rfl ?_ | refine st_call (hy) rfl rfl rfl rfl rfl ?_ | refine st_call (hce0) rfl rfl rfl rfl rfl ?_ | refine st_call (hoe0) rfl rfl rfl rfl rfl ?_ | (apply qok_q; exact rfl))
          | (apply q_id; first | refine zk0 rfl rfl rfl rfl rfl ?_ | refine zk1 rfl rfl rfl rfl rfl ?_ | refine zk5 rfl rfl rfl rfl rfl ?_ | refine zk6 rfl rfl rfl rfl rfl ?_ | refine zk10 rfl rfl rfl rfl rfl ?_ | refine zk11 rfl rfl rfl rfl rfl ?_ | refine zk12 rfl rfl rfl rfl rfl (fun _ => ?_) | refine zk13 rfl rfl rfl rfl rfl rfl rfl ?_ | refine zk14 rfl rfl rfl rfl rfl rfl rfl ?_ | refine zk15 rfl rfl rfl rfl rfl rfl rfl ?_ | refine zk16 rfl rfl rfl rfl rfl rfl rfl ?_ | refine zk19 rfl rfl rfl rfl rfl ?_ | refine zk24 rfl rfl rfl rfl rfl rfl rfl ?_ | refine zk25 rfl rfl rfl rfl rfl rfl rfl ?_ | refine zk28 ns_ok rfl rfl rfl rfl rfl rfl rfl rfl ?_ | refine zk29 ns_ok rfl rfl rfl rfl rfl rfl rfl rfl ?_ | refine zk30 rfl rfl rfl rfl rfl rfl rfl ?_ | refine zk31 rfl rfl rfl rfl rfl rfl rfl rfl ?_)
          )
        · refine ⟨keep + 1, by omega, by omega, ?_⟩
          refine ⟨rfl, ?_, ?_, rfl⟩
          repeat' (first
            | apply And.intro
            | (apply eq_b; exact rfl; exact Stop.mk (by with_reducible rfl))
            | (apply eq_b; exact rfl)
            | (apply eq_n; exact rfl; exact Stop.mk (by first | with_reducible rfl | omega))
            | (apply eq_n; exact rfl)
            | (apply eq_s; exact rfl; exact Stop.mk (by with_reducible rfl))
            | (apply eq_s; exact rfl)
            | (apply eq_sl; exact rfl; exact Stop.mk (by with_reducible rfl))
            | (apply eq_sl; exact rfl)
            | (apply eq_row; exact rfl; exact Stop.mk (by with_reducible rfl))
            | (apply eq_row; exact rfl)
            | (apply eq_agg; exact rfl)
            | (apply eq_cons; exact rfl)
            | (apply eq_boxo; exact rfl)
            | (apply cell_agg; exact rfl; exact rfl; exact rfl)
            | (apply cell_one; exact rfl; exact rfl)
            | exact rfl
            | trivial
            )
          all_goals exact Stop.mk rfl
        all_goals
          refine Stop.mk ?_
          refine ret_intro [] rfl rfl ?_ ?_
          repeat' (first
            | apply And.intro
            | (apply eq_b; exact rfl; exact Stop.mk (by with_reducible rfl))
            | (apply eq_b; exact rfl)
            | (apply eq_n; exact rfl; exact Stop.mk (by first | with_reducible rfl | omega))
            | (apply eq_n; exact rfl)
            | (apply eq_s; exact rfl; exact Stop.mk (by with_reducible rfl))
            | (apply eq_s; exact rfl)
            | (apply eq_sl; exact rfl; exact Stop.mk (by with_reducible rfl))
            | (apply eq_sl; exact rfl)
            | (apply eq_row; exact rfl; exact Stop.mk (by with_reducible rfl))
            | (apply eq_row; exact rfl)
            | (apply eq_agg; exact rfl)
            | (apply eq_cons; exact rfl)
            | (apply eq_boxo; exact rfl)
            | (apply cell_agg; exact rfl; exact rfl; exact rfl)
            | (apply cell_one; exact rfl; exact rfl)
            | exact rfl
            | trivial
            )
          all_goals exact Stop.mk (by rw [beq_iff_eq]; exact hsl.2.2)
    · repeat' (first
        | apply awp_seq
        | (apply awp_regionN; exact rfl)
        | (refine Hb.mk (fun hb => ?_); (first | rw [inB_t] at hb | rw [inB_f] at hb | rw [inB_nt] at hb | rw [inB_nf] at hb | rw [decide_eq_true_eq] at hb | rw [decide_eq_false_iff_not] at hb | rw [beq_iff_eq] at hb | rw [beq_eq_false_iff_ne] at hb | rw [Bool.not_eq_true'] at hb | rw [Bool.not_eq_false'] at hb | rw [bne_iff_ne] at hb | rw [bne_eq_false_iff_eq] at hb | skip); (first | (exfalso; omega) | (exact absurd rfl hb) | skip))
        | (apply aopG_ok; exact rfl)
        | apply ops_nil
        | (apply awp_drawq; exact rfl; kernel_rfl; kernel_rfl; exact rfl)
        | (apply awp_drawx; exact rfl; kernel_rfl; exact rfl)
        | (apply aopQ_ok; exact rfl)
        | apply qs_nil
        | (apply ch_nil; exact rfl)
        | (apply ch_cons; (· exact rfl); (· exact rfl); (· exact rfl); (· exact rfl); (· (intro w0 Z O; first | (apply aop_ok; exact rfl) | (apply QOk.ok; first | refine zk0 rfl rfl rfl rfl rfl ?_ | refine zk1 rfl rfl rfl rfl rfl ?_ | refine zk5 rfl rfl rfl rfl rfl ?_ | refine zk6 rfl rfl rfl rfl rfl ?_ | refine zk10 rfl rfl rfl rfl rfl ?_ | refine zk11 rfl rfl rfl rfl rfl ?_ | refine zk12 rfl rfl rfl rfl rfl (fun _ => ?_) | refine zk13 rfl rfl rfl rfl rfl rfl rfl ?_ | refine zk14 rfl rfl rfl rfl rfl rfl rfl ?_ | refine zk15 rfl rfl rfl rfl rfl rfl rfl ?_ | refine zk16 rfl rfl rfl rfl rfl rfl rfl ?_ | refine zk19 rfl rfl rfl rfl rfl ?_ | refine zk24 rfl rfl rfl rfl rfl rfl rfl ?_ | refine zk25 rfl rfl rfl rfl rfl rfl rfl ?_ | refine zk28 ns_ok rfl rfl rfl rfl rfl rfl rfl rfl ?_ | refine zk29 ns_ok rfl rfl rfl rfl rfl rfl rfl rfl ?_ | refine zk30 rfl rfl rfl rfl rfl rfl rfl ?_ | refine zk31 rfl rfl rfl rfl rfl rfl rfl rfl ?_) | refine zk38 rfl rfl rfl rfl rfl rfl rfl rfl rfl rfl ?_ | refine st_call (journalAdd_e0 (j := j) (s := s) (by omega) (by omega) hc) rfl rfl rfl rfl rfl ?_ | refine st_call (journalAdd_s0 (j := j) (s := s) (by omega) (by omega) hc) rfl rfl rfl rfl rfl ?_); exact ⟨rfl, rfl, rfl⟩); (· exact rfl); (· exact rfl); (· (repeat' (first | apply And.intro | exact Or.inl rfl | exact Or.inr ⟨rfl, rfl⟩ | exact trivial))); (· (repeat' (first | apply And.intro | exact trivial | exact rfl | exact flatE_map (fun _ => rfl) | apply flatE_app))); (· exact rfl); (· exact rfl); (· exact rfl); (· exact rfl))
        | (apply awp_cond_t; exact rfl)
        | (apply awp_cond_f; exact rfl)
        | (apply cond_x; exact rfl)
        | apply awp_block
        | apply awp_skip
        | apply awp_exit
        | apply awp_ret'
        | (first | (apply ops_cons; exact rfl) | (apply ops_yes; exact rfl; exact rfl; exact rfl))
        | (apply ops_x; exact rfl; exact rfl; (fail_if_success exact (rfl : _ = AV.d (.b true))); (fail_if_success exact (rfl : _ = AV.d (.b false))); exact rfl)
        | (first | (apply qs_cons; exact rfl) | (apply qs_yes; exact rfl; exact rfl; exact rfl))
        | (apply qs_x; exact rfl; exact rfl; (fail_if_success exact (rfl : _ = AV.d (.b true))); (fail_if_success exact (rfl : _ = AV.d (.b false))); exact rfl)
        | (apply q_id; first | refine st_callq (journalAdd_e0 (j := j) (s := s) (by omega) (by omega) hc) rfl rfl rfl rfl rfl ?_ | refine st_callq (journalAdd_s0 (j := j) (s := s) (by omega) (by omega) hc) rfl rfl rfl rfl rfl ?_)
        | (apply op_id; first | refine zk38 rfl rfl rfl rfl rfl rfl rfl rfl rfl rfl ?_ | refine st_call (journalAdd_e0 (j := j) (s := s) (by omega) (by omega) hc) rfl rfl rfl rfl rfl ?_ | refine st_call (journalAdd_s0 (j := j) (s := s) (by omega) (by omega) hc) rfl rfl rfl rfl rfl ?_ | (apply qok_q; exact rfl))
        | (apply q_id; first | refine zk0 rfl rfl rfl rfl rfl ?_ | refine zk1 rfl rfl rfl rfl rfl ?_ | refine zk5 rfl rfl rfl rfl rfl ?_ | refine zk6 rfl rfl rfl rfl rfl ?_ | refine zk10 rfl rfl rfl rfl rfl ?_ | refine zk11 rfl rfl rfl rfl rfl ?_ | refine zk12 rfl rfl rfl rfl rfl (fun _ => ?_) | refine zk13 rfl rfl rfl rfl rfl rfl rfl ?_ | refine zk14 rfl rfl rfl rfl rfl rfl rfl ?_ | refine zk15 rfl rfl rfl rfl rfl rfl rfl ?_ | refine zk16 rfl rfl rfl rfl rfl rfl rfl ?_ | refine zk19 rfl rfl rfl rfl rfl ?_ | refine zk24 rfl rfl rfl rfl rfl rfl rfl ?_ | refine zk25 rfl rfl rfl rfl rfl rfl rfl ?_ | refine zk28 ns_ok rfl rfl rfl rfl rfl rfl rfl rfl ?_ | refine zk29 ns_ok rfl rfl rfl rfl rfl rfl rfl rfl ?_ | refine zk30 rfl rfl rfl rfl rfl rfl rfl ?_ | refine zk31 rfl rfl rfl rfl rfl rfl rfl rfl ?_)
        )
      refine Stop.mk ?_
      refine ret_intro [] rfl rfl ?_ ?_
      repeat' (first
        | apply And.intro
        | (apply eq_b; exact rfl; exact Stop.mk (by with_reducible rfl))
        | (apply eq_b; exact rfl)
        | (apply eq_n; exact rfl; exact Stop.mk (by first | with_reducible rfl | omega))
        | (apply eq_n; exact rfl)
        | (apply eq_s; exact rfl; exact Stop.mk (by with_reducible rfl))
        | (apply eq_s; exact rfl)
        | (apply eq_sl; exact rfl; exact Stop.mk (by with_reducible rfl))
        | (apply eq_sl; exact rfl)
        | (apply eq_row; exact rfl; exact Stop.mk (by with_reducible rfl))
        | (apply eq_row; exact rfl)
        | (apply eq_agg; exact rfl)
        | (apply eq_cons; exact rfl)
        | (apply eq_boxo; exact rfl)
        | (apply cell_agg; exact rfl; exact rfl; exact rfl)
        | (apply cell_one; exact rfl; exact rfl)
        | exact rfl
        | trivial
        )
      all_goals exact Stop.mk rfl
  · repeat' (first
      | apply awp_seq
      | (apply awp_regionN; exact rfl)
      | (refine Hb.mk (fun hb => ?_); (first | rw [inB_t] at hb | rw [inB_f] at hb | rw [inB_nt] at hb | rw [inB_nf] at hb | rw [decide_eq_true_eq] at hb | rw [decide_eq_false_iff_not] at hb | rw [beq_iff_eq] at hb | rw [beq_eq_false_iff_ne] at hb | rw [Bool.not_eq_true'] at hb | rw [Bool.not_eq_false'] at hb | rw [bne_iff_ne] at hb | rw [bne_eq_false_iff_eq] at hb | skip); (first | (exfalso; omega) | (exact absurd rfl hb) | skip))
      | (apply aopG_ok; exact rfl)
      | apply ops_nil
      | (apply awp_drawq; exact rfl; kernel_rfl; kernel_rfl; exact rfl)
      | (apply awp_drawx; exact rfl; kernel_rfl; exact rfl)
      | (apply aopQ_ok; exact rfl)
      | apply qs_nil
      | (apply ch_nil; exact rfl)
      | (apply ch_cons; (· exact rfl); (· exact rfl); (· exact rfl); (· exact rfl); (· (intro w0 Z O; first | (apply aop_ok; exact rfl) | (apply QOk.ok; first | refine zk0 rfl rfl rfl rfl rfl ?_ | refine zk1 rfl rfl rfl rfl rfl ?_ | refine zk5 rfl rfl rfl rfl rfl ?_ | refine zk6 rfl rfl rfl rfl rfl ?_ | refine zk10 rfl rfl rfl rfl rfl ?_ | refine zk11 rfl rfl rfl rfl rfl ?_ | refine zk12 rfl rfl rfl rfl rfl (fun _ => ?_) | refine zk13 rfl rfl rfl rfl rfl rfl rfl ?_ | refine zk14 rfl rfl rfl rfl rfl rfl rfl ?_ | refine zk15 rfl rfl rfl rfl rfl rfl rfl ?_ | refine zk16 rfl rfl rfl rfl rfl rfl rfl ?_ | refine zk19 rfl rfl rfl rfl rfl ?_ | refine zk24 rfl rfl rfl rfl rfl rfl rfl ?_ | refine zk25 rfl rfl rfl rfl rfl rfl rfl ?_ | refine zk28 ns_ok rfl rfl rfl rfl rfl rfl rfl rfl ?_ | refine zk29 ns_ok rfl rfl rfl rfl rfl rfl rfl rfl ?_ | refine zk30 rfl rfl rfl rfl rfl rfl rfl ?_ | refine zk31 rfl rfl rfl rfl rfl rfl rfl rfl ?_) | refine zk38 rfl rfl rfl rfl rfl rfl rfl rfl rfl rfl ?_); exact ⟨rfl, rfl, rfl⟩); (· exact rfl); (· exact rfl); (· (repeat' (first | apply And.intro | exact Or.inl rfl | exact Or.inr ⟨rfl, rfl⟩ | exact trivial))); (· (repeat' (first | apply And.intro | exact trivial | exact rfl | exact flatE_map (fun _ => rfl) | apply flatE_app))); (· exact rfl); (· exact rfl); (· exact rfl); (· exact rfl))
      | (apply awp_cond_t; exact rfl)
      | (apply awp_cond_f; exact rfl)
      | (apply cond_x; exact rfl)
      | apply awp_block
      | apply awp_skip
      | apply awp_exit
      | apply awp_ret'
      | (first | (apply ops_cons; exact rfl) | (apply ops_yes; exact rfl; exact rfl; exact rfl))
      | (apply ops_x; exact rfl; exact rfl; (fail_if_success exact (rfl : _ = AV.d (.b true))); (fail_if_success exact (rfl : _ = AV.d (.b false))); exact rfl)
      | (first | (apply qs_cons; exact rfl) | (apply qs_yes; exact rfl; exact rfl; exact rfl))
      | (apply qs_x; exact rfl; exact rfl; (fail_if_success exact (rfl : _ = AV.d (.b true))); (fail_if_success exact (rfl : _ = AV.d (.b false))); exact rfl)
      | (apply op_id; first | refine zk38 rfl rfl rfl rfl rfl rfl rfl rfl rfl rfl ?_ | (apply qok_q; exact rfl))
      | (apply q_id; first | refine zk0 rfl rfl rfl rfl rfl ?_ | refine zk1 rfl rfl rfl rfl rfl ?_ | refine zk5 rfl rfl rfl rfl rfl ?_ | refine zk6 rfl rfl rfl rfl rfl ?_ | refine zk10 rfl rfl rfl rfl rfl ?_ | refine zk11 rfl rfl rfl rfl rfl ?_ | refine zk12 rfl rfl rfl rfl rfl (fun _ => ?_) | refine zk13 rfl rfl rfl rfl rfl rfl rfl ?_ | refine zk14 rfl rfl rfl rfl rfl rfl rfl ?_ | refine zk15 rfl rfl rfl rfl rfl rfl rfl ?_ | refine zk16 rfl rfl rfl rfl rfl rfl rfl ?_ | refine zk19 rfl rfl rfl rfl rfl ?_ | refine zk24 rfl rfl rfl rfl rfl rfl rfl ?_ | refine zk25 rfl rfl rfl rfl rfl rfl rfl ?_ | refine zk28 ns_ok rfl rfl rfl rfl rfl rfl rfl rfl ?_ | refine zk29 ns_ok rfl rfl rfl rfl rfl rfl rfl rfl ?_ | refine zk30 rfl rfl rfl rfl rfl rfl rfl ?_ | refine zk31 rfl rfl rfl rfl rfl rfl rfl rfl ?_)
      )
    refine Stop.mk ?_
    refine ret_intro [] rfl rfl ?_ ?_
    repeat' (first
      | apply And.intro
      | (apply eq_b; exact rfl; exact Stop.mk (by with_reducible rfl))
      | (apply eq_b; exact rfl)
      | (apply eq_n; exact rfl; exact Stop.mk (by first | with_reducible rfl | omega))
      | (apply eq_n; exact rfl)
      | (apply eq_s; exact rfl; exact Stop.mk (by with_reducible rfl))
      | (apply eq_s; exact rfl)
      | (apply eq_sl; exact rfl; exact Stop.mk (by with_reducible rfl))
      | (apply eq_sl; exact rfl)
      | (apply eq_row; exact rfl; exact Stop.mk (by with_reducible rfl))
      | (apply eq_row; exact rfl)
      | (apply eq_agg; exact rfl)
      | (apply eq_cons; exact rfl)
      | (apply eq_boxo; exact rfl)
      | (apply cell_agg; exact rfl; exact rfl; exact rfl)
      | (apply cell_one; exact rfl; exact rfl)
      | exact rfl
      | trivial
      )
end Go.Proofs.Ythmajaeekkbnnaa
