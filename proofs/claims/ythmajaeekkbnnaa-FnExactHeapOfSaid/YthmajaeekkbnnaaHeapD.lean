/-
  Contracts: HeapPush.
-/
import Derived.Test.YthmajaeekkbnnaaHeapN
import Derived.Test.YthmajaeekkbnnaaHeapB
import Derived.Test.YthmajaeekkbnnaaHeapC
import Derived.Deep.RegionHeld3
import Derived.BigRegion
import Derived.Deep.DeepMust
import Derived.Deep.DeepCutAuto
namespace Go.Proofs.Ythmajaeekkbnnaa
open Go Go.RowKit

set_option maxRecDepth 100000 in
set_option maxHeartbeats 2000000 in
theorem heapPush_yes (A : Option Addr) (n cap : Nat) (l : List Due) (d : Due) (w : World) (h : Rd w 2 A n cap (dueCells l)) (hl : l.length = n) (hok : heapOkB l = true) (hd : dueOkB d = true) (hn : n < 200) :
    Calls Try.prog 39 #[.slice A n cap, .agg d.cs] w fun e w' => ∃ g c, e = .returned (.tuple #[.slice (some ⟨g, 0, none⟩) (n + 1) c, .bool true]) ∧ w'.ownsRow w.heap.size 25 2 (.slice (some ⟨g, 0, none⟩) (n + 1) c) (n + 1) (dueCells (pushD l d)) ∧ Ext w w' := by
  have hl' := Lib.hid hl; clear hl
  have hm : (n : Int) ≤ 9223372036854775807 := h.max
  obtain ⟨i0, hi, hz0, hz1, hz2⟩ := info_parts info_due
  have hne : ((n : Int) == 200) = false := by simp; omega
  go_enter Try.func39, Try.ntmps39
  go_wp2_with fail
  refine (hok ▸ heapOk_c _ _ _ l _ (h.ext (Ext.alloc_ _ _)) hl'.out).mono ?_
  rintro e w1 ⟨rfl, hx1⟩
  obtain ⟨hc1, hf1, hz3⟩ := bcell hx1
  go_wp2_with fail
  refine (hd ▸ dueOk_c d _).mono ?_
  rintro e w2 ⟨rfl, hx2⟩
  obtain ⟨hc2, hf2, hz4⟩ := bcell hx2
  have hlt1 : w.heap.size < w1.heap.size := by simp at hz3; omega
  go_wp2_with fail
  have hw2 : Ext w w2 := (Ext.alloc_ _ _).trans (hx1.trans hx2)
  have k0 : w2.cell? ⟨w.heap.size, 0, none⟩ = some (.int .i64 d.a) := by rw [hc2 _ _ hlt1, hc1 _ _ (by simp)]; simp
  have k1 : w2.cell? ⟨w.heap.size, 1, none⟩ = some (.int .i64 d.i) := by rw [hc2 _ _ hlt1, hc1 _ _ (by simp)]; simp
  clear hc1 hc2 hf1 hf2 hz3 hz4 hx1 hx2 hlt1
  go_cut [6] (fun v w' => ∃ g c, v = .slice (some ⟨g, 0, none⟩) (n + 1) c ∧ w'.ownsRow w.heap.size 25 2 v (n + 1) (dueCells (l ++ [d])) ∧ Ext w w')
  case first =>
    have hE0 : ∀ W, Ext w2 W → Ext w2 W ∧ W.cell? ⟨w.heap.size, 0, none⟩ = some (.int .i64 d.a) ∧ W.cell? ⟨w.heap.size, 1, none⟩ = some (.int .i64 d.i) := fun W hE => ⟨hE, hE.cell k0, hE.cell k1⟩
    have hE0' := Lib.hid hE0; clear hE0
    go_region_held3 (fun w' => Ext w2 w' ∧ w'.cell? ⟨w.heap.size, 0, none⟩ = some (.int .i64 d.a) ∧ w'.cell? ⟨w.heap.size, 1, none⟩ = some (.int .i64 d.i))
      ((refine hE0'.out _ ?_; first | exact hE2 | exact hE1 | exact (Ext.trans hE1 (Ext.alloc_ _ _)) | (repeat (first | exact Ext.refl _ | refine Ext.alloc1 ?_ _ | refine Ext.drew1 ?_))))
      (first
        | (refine ite_in ?_ ?_
           · rfl
           refine wp_append_E w2 (.tmp 21) (.tmp 22) 32 rfl 25 i0 _ 2 16 Try.underlying32 hi hz0 hz1 hz2 rfl (Nat.succ_pos 1) _ 0 [] rfl A n cap (dueCells l) rfl (dueCells_one l) ?_ ?_ ?_ ?_ ?_ ?_
           · go_must (unfold maxLen; omega)
           · go_must (omega)
           · go_must (first | exact (own_empty w2 _ 2 _ (Nat.le_refl _)).drew | exact ((own_empty w2 _ 2 _ (Nat.le_refl _)).alloc _).drew | exact (own_empty2 w2 _ _ 2 _ (Nat.le_refl _)).drew)
           · go_must (refine h.ext (hw2.trans ?_); (repeat (first | exact Ext.refl _ | refine Ext.alloc1 ?_ _ | refine Ext.drew1 ?_)))
           · go_must (repeat (first | exact Ext.refl _ | refine Ext.alloc1 ?_ _ | refine Ext.drew1 ?_))
           go_must (intro v1 w3 ho1 hE1 hkeep)
           go_must (have hk' := Lib.hid hkeep)
           go_must (clear hkeep)
           go_must (simp only [Nat.zero_add, List.nil_append] at ho1))
        | (refine ite_in ?_ ?_
           · rfl
           refine wp_append_E w2 (.tmp 23) (.tmp 25) 32 rfl 25 i0 _ 2 16 Try.underlying32 hi hz0 hz1 hz2 rfl (Nat.succ_pos 1) _ n (dueCells l) rfl _ 1 1 (dueCells [d]) rfl (dueCells_one [d]) ?_ ?_ ?_ ?_ ?_ ?_
           · go_must (unfold maxLen; omega)
           · go_must (omega)
           · go_must (first | exact ho1 | exact ho1.alloc _)
           · go_must (refine Rd.one ?_ ?_ <;> (first | (simp; done) | (refine hk'.out _ _ ?_ ?_ <;> (simp [Value.ownBlock, go_sem]; done))))
           · go_must (first | exact hE1 | exact Ext.trans hE1 (Ext.alloc_ _ _))
           intro v2 w4 ho2 hE2 _))
    all_goals
      go_wp2_with fail
      go_meet
    all_goals
      go_must (obtain ⟨g, c, hv⟩ := own_some ho2 (Nat.succ_pos n))
      go_must (rw [← dueCells_append] at ho2)
      go_must (exact ⟨g, c, hv, own_mono ho2 hw2.size, hw2.trans hE2⟩)
  case rest =>
    obtain ⟨g, c, rfl, hown0, hx0⟩ := hcut
    clear k0 k1 hw2
    have hpush : siftUp n (l ++ [d]) n = pushD l d := by rw [pushD, hl'.out]
    have hlen0 : (l ++ [d]).length = n + 1 := by simp [hl'.out]
    have hpush' := Lib.hid hpush; clear hpush
    have hlen0' := Lib.hid hlen0; clear hlen0
    go_wp2_with fail
    go_loopw [7] (fun i wr => ∃ (k : Nat) (L : List Due), k ≤ n ∧ i = .int .i64 k ∧ Hid (L.length = n + 1) ∧ wr.ownsRow w.heap.size 25 2 (.slice (some ⟨g, 0, none⟩) (n + 1) c) (n + 1) (dueCells L) ∧ Hid (siftUp k L k = pushD l d) ∧ Ext w wr) (fun i _ => (intOf i).toNat)
    case atStart => exact ⟨n, l ++ [d], Nat.le_refl _, rfl, hlen0', hown0, hpush', hx0⟩
    case round =>
      obtain ⟨k, L, hk, rfl, hL, hown, hs, hx⟩ := hrel
      clear hown0 hx0
      have hcap : n + 1 ≤ c := (Rd.of_own hown).2.1
      obtain ⟨hg1, hg2⟩ := own_lt hown
      by_cases h0 : k = 0
      · have hk0 : ¬ 0 < k := by omega
        have h0' := Lib.hid h0; clear h0
        go_wp2_with fail
        refine wp_region_ext (by kernel_rfl) (by kernel_rfl) ?_
        repeat
          first
            | go_big_quiet_skip
            | go_big_quiet_want
              apply Exists.intro
              refine ⟨fun wq hq => ?_, ?_⟩
              · obtain ⟨hc1, hf1, hz3⟩ := bcell hq
                go_simp
                try go_bits
                first
                  | fail
                  | exact ⟨rfl, rfl⟩
                  | rfl
              go_big_quiet_on
              simp only [Act.put, List.setIfInBounds_toArray, List.set_cons_zero, List.set_cons_succ]
        refine wpQuiet_nil ?_
        intro w5 hx5
        go_wp2_with fail
        go_ret2
        refine ⟨g, c, rfl, ?_, hx.trans hx5⟩
        rw [← hs.out, siftUp_no (.inl h0'.out)]
        exact hx5.own hown
      · have hk0 : 0 < k := by omega
        have hkI : (0 : Int) < (k : Int) := by omega
        have hp1 : (0 : Int) ≤ ((k : Int) - 1) / 2 := by omega
        have hp2 : ((k : Int) - 1) / 2 < (n : Int) + 1 := by omega
        have hki : (k : Int) < (n : Int) + 1 := by omega
        obtain ⟨b, o, hbo, hbl, hc⟩ := (Rd.of_own hown).due (by omega)
        obtain ⟨rfl, rfl⟩ : b = g ∧ o = 0 := by injection hbo with e; injection e with e1 e2; exact ⟨e1.symm, e2.symm⟩
        obtain ⟨c0, c1⟩ := hc k (by omega)
        obtain ⟨p0, p1⟩ := hc ((k - 1) / 2) (by omega)
        simp only [Nat.zero_add] at c0 c1 p0 p1
        have hyes := siftUp_yes (l := L) hk0
        have hno := siftUp_no (l := L) (i := k)
        generalize hgd : L.getD k zdue = x at *
        generalize hgp : L.getD ((k - 1) / 2) zdue = p at *
        have hyes' := Lib.hid hyes; have hno' := Lib.hid hno; clear hyes hno hc hbo
        have hgd' := Lib.hid hgd; have hgp' := Lib.hid hgp; clear hgd hgp
        cases he : dueFirst x p with
        | false =>
          go_wp2_with fail
          refine wp_region_ext (by kernel_rfl) (by kernel_rfl) ?_
          repeat
            first
              | go_big_quiet_skip
              | go_big_quiet_want
                apply Exists.intro
                refine ⟨fun wq hq => ?_, ?_⟩
                · obtain ⟨hc1, hf1, hz3⟩ := bcell hq
                  go_simp
                  try go_bits
                  first
                    | (go_at_call 27; exact Calls.ext_of hq (he ▸ dueFirst_c x p _))
                    | exact ⟨rfl, rfl⟩
                    | rfl
                go_big_quiet_on
                simp only [Act.put, List.setIfInBounds_toArray, List.set_cons_zero, List.set_cons_succ]
          refine wpQuiet_nil ?_
          intro w5 hx5
          go_wp2_with fail
          go_ret2
          refine ⟨_, c, rfl, ?_, hx.trans hx5⟩
          rw [← hs.out, hno'.out (.inr he)]
          exact hx5.own hown
        | true =>
          go_wp2_with fail
          refine wp_region_ext (by kernel_rfl) (by kernel_rfl) ?_
          repeat
            first
              | go_big_quiet_skip
              | go_big_quiet_want
                apply Exists.intro
                refine ⟨fun wq hq => ?_, ?_⟩
                · obtain ⟨hc1, hf1, hz3⟩ := bcell hq
                  go_simp
                  try go_bits
                  first
                    | (go_at_call 27; exact Calls.ext_of hq (he ▸ dueFirst_c x p _))
                    | exact ⟨rfl, rfl⟩
                    | rfl
                go_big_quiet_on
                simp only [Act.put, List.setIfInBounds_toArray, List.set_cons_zero, List.set_cons_succ]
          refine wpQuiet_nil ?_
          intro w5 hx5
          have hown5 := hx5.own hown
          have q0 := hx5.cell c0
          have q1 := hx5.cell c1
          have q2 := hx5.cell p0
          have q3 := hx5.cell p1
          have f0 := hown5.frozenAt (k * 2)
          have f1 := hown5.frozenAt (k * 2 + 1)
          have f2 := hown5.frozenAt ((k - 1) / 2 * 2)
          have f3 := hown5.frozenAt ((k - 1) / 2 * 2 + 1)
          go_wp2_with fail
          go_big_region
          go_wp2_with fail
          go_roundw
          case rel =>
            have hp3 : (k - 1) / 2 ≤ n := by omega
            have s1 := ((((hown5.stored (k * 2) (.int .i64 p.a)).1.stored (k * 2 + 1) (.int .i64 p.i)).1.stored ((k - 1) / 2 * 2) (.int .i64 x.a)).1.stored ((k - 1) / 2 * 2 + 1) (.int .i64 x.i)).1.drew
            rw [← dueCells_set, ← dueCells_set] at s1
            have e1 : (L.set k p).set ((k - 1) / 2) x = swapD L k ((k - 1) / 2) := by rw [swapD, hgd'.out, hgp'.out]
            rw [e1] at s1
            have e2 : Hid ((swapD L k ((k - 1) / 2)).length = n + 1) := (swapD_length L k ((k - 1) / 2)).trans hL.out
            have e3 : Hid (siftUp ((k - 1) / 2) (swapD L k ((k - 1) / 2)) ((k - 1) / 2) = pushD l d) := (hyes'.out he).symm.trans hs.out
            have e4 : Value.int .i64 (((k : Int) - 1) / 2) = .int .i64 (((k - 1) / 2 : Nat) : Int) := by congr 1; omega
            refine ⟨(k - 1) / 2, swapD L k ((k - 1) / 2), hp3, e4, e2, s1, e3, ?_⟩
            have e5 := hx.trans hx5
            exact ((((e5.setCell hg1 _).setCell hg1 _).setCell hg1 _).setCell hg1 _).drew
          case measure => simp [intOf]; omega
set_option maxRecDepth 100000 in
set_option maxHeartbeats 1000000 in
theorem heapPush_no (A : Option Addr) (n cap : Nat) (l : List Due) (d : Due) (w : World) (h : Rd w 2 A n cap (dueCells l)) (hl : l.length = n) (hno : pushOkB l d = false) :
    Calls Try.prog 39 #[.slice A n cap, .agg d.cs] w fun e w' => e = .returned (.tuple #[.slice none 0 0, .bool false]) ∧ Ext w w' := by
  have hl' := Lib.hid hl; clear hl
  have hm : (n : Int) ≤ 9223372036854775807 := h.max
  have hno' := Lib.hid hno; clear hno
  cases hok : heapOkB l with
  | false =>
    go_enter Try.func39, Try.ntmps39
    go_wp2_with fail
    refine (hok ▸ heapOk_c _ _ _ l _ (h.ext (Ext.alloc_ _ _)) hl'.out).mono ?_
    rintro e w1 ⟨rfl, hx1⟩
    go_wp2_with fail
    go_ret2
    exact ⟨rfl, (Ext.alloc_ _ _).trans hx1⟩
  | true =>
    cases hd : dueOkB d with
    | false =>
      go_enter Try.func39, Try.ntmps39
      go_wp2_with fail
      refine (hok ▸ heapOk_c _ _ _ l _ (h.ext (Ext.alloc_ _ _)) hl'.out).mono ?_
      rintro e w1 ⟨rfl, hx1⟩
      obtain ⟨hc1, hf1, hz3⟩ := bcell hx1
      go_wp2_with fail
      refine (hd ▸ dueOk_c d _).mono ?_
      rintro e w2 ⟨rfl, hx2⟩
      go_wp2_with fail
      go_ret2
      exact ⟨rfl, (Ext.alloc_ _ _).trans (hx1.trans hx2)⟩
    | true =>
      have hn : n = 200 := by
        have h1 := hno'.out
        rw [pushOkB, hok, hd, hl'.out] at h1
        simpa using h1
      have hne : ((n : Int) == 200) = true := by rw [hn]; rfl
      have hn' := Lib.hid hn; clear hn
      go_enter Try.func39, Try.ntmps39
      go_wp2_with fail
      refine (hok ▸ heapOk_c _ _ _ l _ (h.ext (Ext.alloc_ _ _)) hl'.out).mono ?_
      rintro e w1 ⟨rfl, hx1⟩
      obtain ⟨hc1, hf1, hz3⟩ := bcell hx1
      go_wp2_with fail
      refine (hd ▸ dueOk_c d _).mono ?_
      rintro e w2 ⟨rfl, hx2⟩
      go_wp2_with fail
      go_ret2
      exact ⟨rfl, (Ext.alloc_ _ _).trans (hx1.trans hx2)⟩
end Go.Proofs.Ythmajaeekkbnnaa
