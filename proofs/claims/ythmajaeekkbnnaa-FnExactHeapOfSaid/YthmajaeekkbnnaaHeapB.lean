/-
  Contracts: HeapOk, the program's and the reference's.
-/
import Derived.Test.YthmajaeekkbnnaaHeapA
namespace Go.Proofs.Ythmajaeekkbnnaa
open Go Go.RowKit

set_option maxRecDepth 100000 in
set_option maxHeartbeats 1000000 in
theorem heapOk_c (A : Option Addr) (n cap : Nat) (l : List Due) (w : World) (h : Rd w 2 A n cap (dueCells l)) (hl : l.length = n) :
    Calls Try.prog 33 #[.slice A n cap] w fun e w' => e = .returned (.bool (heapOkB l)) ∧ Ext w w' := by
  have hm : (n : Int) ≤ 9223372036854775807 := h.max
  have hl' := Lib.hid hl; clear hl
  go_enter Try.func33, Try.ntmps33
  go_wp2_with fail
  go_loopw [7] (fun i wr => ∃ k : Nat, k ≤ n ∧ i = .int .i64 k ∧ heapTo l k = true ∧ Ext w wr) (fun i _ => n - (intOf i).toNat)
  case atStart => exact ⟨0, Nat.zero_le _, rfl, rfl, Ext.refl _⟩
  case round =>
    obtain ⟨k, hk, rfl, hto, hx⟩ := hrel
    have hto' := Lib.hid hto; clear hto
    by_cases hlt : k < n
    · obtain ⟨b, o, rfl, hbl, hc⟩ := (h.ext hx).due (by omega)
      have hbl1 : b ≤ wr.heap.size := Nat.le_of_lt hbl
      obtain ⟨c0, c1⟩ := hc k hlt
      obtain ⟨p0, p1⟩ := hc ((k - 1) / 2) (by omega)
      have hs := heapTo_succ l k
      generalize hgd : l.getD k zdue = d at *
      generalize hgp : l.getD ((k - 1) / 2) zdue = p at *
      have hs' := Lib.hid hs; clear hs hc hgd hgp
      cases hd : dueOkB d with
      | false =>
        go_wp2_with fail
        refine wp_region_ext (by kernel_rfl) (by kernel_rfl) ?_
        repeat
          first
            | go_big_quiet_skip
            | go_big_quiet_want
              apply Exists.intro
              refine ⟨fun wq hq => ?_, ?_⟩
              · obtain ⟨hc1, hf1, hz1⟩ := bcell hq
                go_simp
                try go_bits
                first
                  | (first | (go_at_call 91; exact Calls.ext_of hq (hd ▸ dueOk_c d _)) | (go_at_call 27; exact Calls.ext_of hq (he ▸ dueFirst_c d p _)))
                  | exact ⟨rfl, rfl⟩
                  | rfl
              go_big_quiet_on
              simp only [Act.put, List.setIfInBounds_toArray, List.set_cons_zero, List.set_cons_succ]
        refine wpQuiet_nil ?_
        intro w2 hx2
        go_wp2_with fail
        go_ret
        have hf : heapOkB l = false := by
          have : heapTo l (k + 1) = false := by rw [hs'.out, hd]; simp
          simp [heapOkB, heapTo_false this (Nat.le_trans hlt (Nat.le_of_eq hl'.out.symm))]
        exact ⟨by rw [hf]; rfl, hx.trans (Ext.below ((Below.refl _ _).alloc (Nat.le_refl _) _) hx2 (by simp))⟩
      | true =>
        by_cases h0 : k = 0
        · have hk0 : ¬ 0 < k := by omega
          have h0' := Lib.hid h0; clear h0
          go_wp2_with fail
          refine wp_region_ext (by kernel_rfl) (by kernel_rfl) ?_
          repeat
            first
              | go_big_quiet_skip
              | go_big_quiet_want
                apply Exists.intro
                refine ⟨fun wq hq => ?_, ?_⟩
                · obtain ⟨hc1, hf1, hz1⟩ := bcell hq
                  go_simp
                  try go_bits
                  first
                    | (first | (go_at_call 91; exact Calls.ext_of hq (hd ▸ dueOk_c d _)) | (go_at_call 27; exact Calls.ext_of hq (he ▸ dueFirst_c d p _)))
                    | exact ⟨rfl, rfl⟩
                    | rfl
                go_big_quiet_on
                simp only [Act.put, List.setIfInBounds_toArray, List.set_cons_zero, List.set_cons_succ]
          refine wpQuiet_nil ?_
          intro w2 hx2
          go_wp2_with fail
          go_roundw
          case rel => exact ⟨k + 1, by omega, by go_num, by rw [hs'.out, hto'.out, hd, h0'.out]; simp, hx.trans (Ext.below ((Below.refl _ _).alloc (Nat.le_refl _) _) hx2 (by simp))⟩
          case measure => simp [intOf]; omega
        · have hk0 : 0 < k := by omega
          have hkI : (0 : Int) < (k : Int) := by omega
          have hp1 : (0 : Int) ≤ ((k : Int) - 1) / 2 := by omega
          have hp2 : ((k : Int) - 1) / 2 < (n : Int) := by omega
          cases he : dueFirst d p with
          | true =>
            go_wp2_with fail
            refine wp_region_ext (by kernel_rfl) (by kernel_rfl) ?_
            repeat
              first
                | go_big_quiet_skip
                | go_big_quiet_want
                  apply Exists.intro
                  refine ⟨fun wq hq => ?_, ?_⟩
                  · obtain ⟨hc1, hf1, hz1⟩ := bcell hq
                    go_simp
                    try go_bits
                    first
                      | (first | (go_at_call 91; exact Calls.ext_of hq (hd ▸ dueOk_c d _)) | (go_at_call 27; exact Calls.ext_of hq (he ▸ dueFirst_c d p _)))
                      | exact ⟨rfl, rfl⟩
                      | rfl
                  go_big_quiet_on
                  simp only [Act.put, List.setIfInBounds_toArray, List.set_cons_zero, List.set_cons_succ]
            refine wpQuiet_nil ?_
            intro w2 hx2
            go_wp2_with fail
            go_ret
            have hf : heapOkB l = false := by
              have : heapTo l (k + 1) = false := by rw [hs'.out, hd, he]; simp [hk0]
              simp [heapOkB, heapTo_false this (Nat.le_trans hlt (Nat.le_of_eq hl'.out.symm))]
            exact ⟨by rw [hf]; rfl, hx.trans (Ext.below ((Below.refl _ _).alloc (Nat.le_refl _) _) hx2 (by simp))⟩
          | false =>
            go_wp2_with fail
            refine wp_region_ext (by kernel_rfl) (by kernel_rfl) ?_
            repeat
              first
                | go_big_quiet_skip
                | go_big_quiet_want
                  apply Exists.intro
                  refine ⟨fun wq hq => ?_, ?_⟩
                  · obtain ⟨hc1, hf1, hz1⟩ := bcell hq
                    go_simp
                    try go_bits
                    first
                      | (first | (go_at_call 91; exact Calls.ext_of hq (hd ▸ dueOk_c d _)) | (go_at_call 27; exact Calls.ext_of hq (he ▸ dueFirst_c d p _)))
                      | exact ⟨rfl, rfl⟩
                      | rfl
                  go_big_quiet_on
                  simp only [Act.put, List.setIfInBounds_toArray, List.set_cons_zero, List.set_cons_succ]
            refine wpQuiet_nil ?_
            intro w2 hx2
            go_wp2_with fail
            go_roundw
            case rel => exact ⟨k + 1, by omega, by go_num, by rw [hs'.out, hto'.out, hd, he]; simp, hx.trans (Ext.below ((Below.refl _ _).alloc (Nat.le_refl _) _) hx2 (by simp))⟩
            case measure => simp [intOf]; omega
    · have hkn : k = n := by omega
      go_wp2_with fail
      go_ret
      have hto2 := hto'.out
      subst hkn
      have hll := hl'.out
      exact ⟨by simp [heapOkB, hll, hto2]; omega, hx⟩
set_option maxRecDepth 100000 in
set_option maxHeartbeats 1000000 in
theorem sheapOk_c (A : Option Addr) (n cap : Nat) (l : List Due) (w : World) (h : Rd w 2 A n cap (dueCells l)) (hl : l.length = n) :
    Calls Try.prog 31 #[.slice A n cap] w fun e w' => e = .returned (.bool (heapOkB l)) ∧ Ext w w' := by
  have hm : (n : Int) ≤ 9223372036854775807 := h.max
  have hl' := Lib.hid hl; clear hl
  by_cases hbig : n ≤ 200
  · go_enter Try.func31, Try.ntmps31
    go_wp2_with fail
    go_loopw [10] (fun i wr => ∃ k : Nat, k ≤ n ∧ i = .int .i64 k ∧ heapTo l k = true ∧ Ext w wr) (fun i _ => n - (intOf i).toNat)
    case atStart => exact ⟨0, Nat.zero_le _, rfl, rfl, Ext.refl _⟩
    case round =>
      obtain ⟨k, hk, rfl, hto, hx⟩ := hrel
      have hto' := Lib.hid hto; clear hto
      by_cases hlt : k < n
      · obtain ⟨b, o, rfl, hbl, hc⟩ := (h.ext hx).due (by omega)
        have hbl1 : b ≤ wr.heap.size := Nat.le_of_lt hbl
        obtain ⟨c0, c1⟩ := hc k hlt
        obtain ⟨p0, p1⟩ := hc ((k - 1) / 2) (by omega)
        have hs := heapTo_succ l k
        generalize hgd : l.getD k zdue = d at *
        generalize hgp : l.getD ((k - 1) / 2) zdue = p at *
        have hs' := Lib.hid hs; clear hs hc hgd hgp
        cases hd : dueOkB d with
        | false =>
          go_wp2_with fail
          refine wp_region_ext (by kernel_rfl) (by kernel_rfl) ?_
          repeat
            first
              | go_big_quiet_skip
              | go_big_quiet_want
                apply Exists.intro
                refine ⟨fun wq hq => ?_, ?_⟩
                · obtain ⟨hc1, hf1, hz1⟩ := bcell hq
                  go_simp
                  try go_bits
                  first
                    | (first | (go_at_call 90; exact Calls.ext_of hq (hd ▸ l10Due_c d _)) | (go_at_call 25; exact Calls.ext_of hq (he ▸ sdueFirst_c d p _)))
                    | exact ⟨rfl, rfl⟩
                    | rfl
                go_big_quiet_on
                simp only [Act.put, List.setIfInBounds_toArray, List.set_cons_zero, List.set_cons_succ]
          refine wpQuiet_nil ?_
          intro w2 hx2
          go_wp2_with fail
          go_ret
          have hf : heapOkB l = false := by
            have : heapTo l (k + 1) = false := by rw [hs'.out, hd]; simp
            simp [heapOkB, heapTo_false this (Nat.le_trans hlt (Nat.le_of_eq hl'.out.symm))]
          exact ⟨by rw [hf]; rfl, hx.trans (Ext.below ((Below.refl _ _).alloc (Nat.le_refl _) _) hx2 (by simp))⟩
        | true =>
          by_cases h0 : k = 0
          · have hk0 : ¬ 0 < k := by omega
            have h0' := Lib.hid h0; clear h0
            go_wp2_with fail
            refine wp_region_ext (by kernel_rfl) (by kernel_rfl) ?_
            repeat
              first
                | go_big_quiet_skip
                | go_big_quiet_want
                  apply Exists.intro
                  refine ⟨fun wq hq => ?_, ?_⟩
                  · obtain ⟨hc1, hf1, hz1⟩ := bcell hq
                    go_simp
                    try go_bits
                    first
                      | (first | (go_at_call 90; exact Calls.ext_of hq (hd ▸ l10Due_c d _)) | (go_at_call 25; exact Calls.ext_of hq (he ▸ sdueFirst_c d p _)))
                      | exact ⟨rfl, rfl⟩
                      | rfl
                  go_big_quiet_on
                  simp only [Act.put, List.setIfInBounds_toArray, List.set_cons_zero, List.set_cons_succ]
            refine wpQuiet_nil ?_
            intro w2 hx2
            go_wp2_with fail
            go_roundw
            case rel => exact ⟨k + 1, by omega, by go_num, by rw [hs'.out, hto'.out, hd, h0'.out]; simp, hx.trans (Ext.below ((Below.refl _ _).alloc (Nat.le_refl _) _) hx2 (by simp))⟩
            case measure => simp [intOf]; omega
          · have hk0 : 0 < k := by omega
            have hkI : (0 : Int) < (k : Int) := by omega
            have hp1 : (0 : Int) ≤ ((k : Int) - 1) / 2 := by omega
            have hp2 : ((k : Int) - 1) / 2 < (n : Int) := by omega
            cases he : dueFirst d p with
            | true =>
              go_wp2_with fail
              refine wp_region_ext (by kernel_rfl) (by kernel_rfl) ?_
              repeat
                first
                  | go_big_quiet_skip
                  | go_big_quiet_want
                    apply Exists.intro
                    refine ⟨fun wq hq => ?_, ?_⟩
                    · obtain ⟨hc1, hf1, hz1⟩ := bcell hq
                      go_simp
                      try go_bits
                      first
                        | (first | (go_at_call 90; exact Calls.ext_of hq (hd ▸ l10Due_c d _)) | (go_at_call 25; exact Calls.ext_of hq (he ▸ sdueFirst_c d p _)))
                        | exact ⟨rfl, rfl⟩
                        | rfl
                    go_big_quiet_on
                    simp only [Act.put, List.setIfInBounds_toArray, List.set_cons_zero, List.set_cons_succ]
              refine wpQuiet_nil ?_
              intro w2 hx2
              go_wp2_with fail
              go_ret
              have hf : heapOkB l = false := by
                have : heapTo l (k + 1) = false := by rw [hs'.out, hd, he]; simp [hk0]
                simp [heapOkB, heapTo_false this (Nat.le_trans hlt (Nat.le_of_eq hl'.out.symm))]
              exact ⟨by rw [hf]; rfl, hx.trans (Ext.below ((Below.refl _ _).alloc (Nat.le_refl _) _) hx2 (by simp))⟩
            | false =>
              go_wp2_with fail
              refine wp_region_ext (by kernel_rfl) (by kernel_rfl) ?_
              repeat
                first
                  | go_big_quiet_skip
                  | go_big_quiet_want
                    apply Exists.intro
                    refine ⟨fun wq hq => ?_, ?_⟩
                    · obtain ⟨hc1, hf1, hz1⟩ := bcell hq
                      go_simp
                      try go_bits
                      first
                        | (first | (go_at_call 90; exact Calls.ext_of hq (hd ▸ l10Due_c d _)) | (go_at_call 25; exact Calls.ext_of hq (he ▸ sdueFirst_c d p _)))
                        | exact ⟨rfl, rfl⟩
                        | rfl
                    go_big_quiet_on
                    simp only [Act.put, List.setIfInBounds_toArray, List.set_cons_zero, List.set_cons_succ]
              refine wpQuiet_nil ?_
              intro w2 hx2
              go_wp2_with fail
              go_roundw
              case rel => exact ⟨k + 1, by omega, by go_num, by rw [hs'.out, hto'.out, hd, he]; simp, hx.trans (Ext.below ((Below.refl _ _).alloc (Nat.le_refl _) _) hx2 (by simp))⟩
              case measure => simp [intOf]; omega
      · have hkn : k = n := by omega
        go_wp2_with fail
        go_ret
        have hto2 := hto'.out
        subst hkn
        have hll := hl'.out
        exact ⟨by simp [heapOkB, hll, hto2]; omega, hx⟩
  · go_enter Try.func31, Try.ntmps31
    go_wp2_with fail
    go_ret
    have hf : heapOkB l = false := by have := hl'.out; simp [heapOkB]; omega
    exact ⟨by rw [hf]; rfl, Ext.refl _⟩
end Go.Proofs.Ythmajaeekkbnnaa
