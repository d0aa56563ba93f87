/-
  Contracts: the law's own helpers over due times.
-/
import Derived.Test.YthmajaeekkbnnaaHeapA
namespace Go.Proofs.Ythmajaeekkbnnaa
open Go Go.RowKit

theorem info_due : (Try.prog.info? 25).map (fun i => (i.zero, i.size, i.bytes)) = some (some (.agg #[.int .i64 0, .int .i64 0]), 2, 16) := by kernel_rfl
theorem toDue_c (d : Due) (w : World) : Calls Try.prog 26 #[.agg d.cs] w fun e w' => e = .returned (.agg d.cs) ∧ Ext w w' := by
  obtain ⟨a, i⟩ := d
  unfold Due.cs
  go_enter Try.func26, Try.ntmps26
  go_wp2
  exact bodyPost_ret (v := .agg #[.int .i64 a, .int .i64 i]) (by simp [results, Try.results26, go_sem]) rfl ⟨rfl, by repeat (first | exact Below.refl _ _ | refine Below.setCell ?_ (by simp <;> omega) _ | refine Below.alloc ?_ (by simp <;> omega) _)⟩
theorem toDue_i (a i : Int) (w : World) : Calls Try.prog 26 #[.agg #[.int .i64 a, .int .i64 i]] w fun e w' => e = .returned (.agg #[.int .i64 a, .int .i64 i]) ∧ Ext w w' := toDue_c ⟨a, i⟩ w
theorem szDueS_c (A : Option Addr) (n cap : Nat) (x : Int) (w : World) (hn : (n : Int) ≤ 9223372036854775807) (hx : 0 ≤ x) (hx2 : x ≤ 1048576) :
    Calls Try.prog 30 #[.slice A n cap, .int .i64 x] w fun e w' => e = .returned (.int .i64 (if x - n < 0 then -1 else x - n)) ∧ Ext w w' := by
  by_cases h : x - n < 0
  all_goals
    go_enter Try.func30, Try.ntmps30
    go_wp2
    go_ret
    exact ⟨rfl, Ext.refl _⟩
theorem szDueS_yes (A : Option Addr) (n cap : Nat) (w : World) (hn : n ≤ 1048576) :
    Calls Try.prog 30 #[.slice A n cap, .int .i64 1048576] w fun e w' => e = .returned (.int .i64 (1048576 - n)) ∧ Ext w w' :=
  (szDueS_c A n cap 1048576 w (by omega) (by omega) (by omega)).mono fun _ _ h => by rwa [if_neg (by omega)] at h
theorem szDueS_no (A : Option Addr) (n cap : Nat) (w : World) (hn : 1048576 < n) (hm : (n : Int) ≤ 9223372036854775807) :
    Calls Try.prog 30 #[.slice A n cap, .int .i64 1048576] w fun e w' => e = .returned (.int .i64 (-1)) ∧ Ext w w' :=
  (szDueS_c A n cap 1048576 w hm (by omega) (by omega)).mono fun _ _ h => by rwa [if_pos (by omega)] at h
theorem eqDue_c (a b : Due) (w : World) : Calls Try.prog 46 #[.agg a.cs, .agg b.cs] w fun e w' => e = .returned (.bool (decide (a = b))) ∧ Ext w w' := by
  obtain ⟨a1, a2⟩ := a
  obtain ⟨b1, b2⟩ := b
  unfold Due.cs
  by_cases h1 : a1 = b1 <;> by_cases h2 : a2 = b2
  all_goals
    go_enter Try.func46, Try.ntmps46
    go_wp2
    go_ret
    exact ⟨by simp [h1, h2], ((Below.refl _ _).alloc (Nat.le_refl _) _).alloc (by simp) _⟩
set_option maxRecDepth 100000 in
set_option maxHeartbeats 1000000 in
theorem toDueS_c (A : Option Addr) (n cap : Nat) (l : List Due) (w : World) (h : Rd w 2 A n cap (dueCells l)) (hl : l.length = n) (hn : n ≤ 1048576) :
    Calls Try.prog 32 #[.slice A n cap] w fun e w' => ∃ g c, e = .returned (.slice (some ⟨g, 0, none⟩) n c) ∧ w'.ownsRow w.heap.size 25 2 (.slice (some ⟨g, 0, none⟩) n c) n (dueCells l) ∧ Ext w w' := by
  have hm : (n : Int) ≤ 9223372036854775807 := by omega
  have hl' := Lib.hid hl; clear hl
  obtain ⟨i0, hi, hz0, hz1, hz2⟩ := info_parts info_due
  go_enter Try.func32, Try.ntmps32
  go_wp2_with (at_make; refine wpList_make_full _ rfl _ _ 32 rfl w.heap.size 25 i0 _ 2 Try.underlying32 hi hz0 hz1 _ _ _ _ n rfl rfl rfl rfl (by rw [hz2]; omega) (by unfold maxLen; omega) (Nat.le_refl _) ?_; intro w1 hown1 hgrow1)
  have hb1 : Below w.heap.size w w1 := (Below.refl _ _).grown hgrow1 (Nat.le_refl _) (fun k hk => by cases hk)
  rw [dueCells_made] at hown1
  clear hgrow1
  go_loopw [4] (fun i wr => ∃ k : Nat, k ≤ n ∧ i = .int .i64 k ∧ wr.ownsRow w.heap.size 25 2 (.slice (some ⟨w.heap.size, 0, none⟩) n n) n (dueCells (l.take k ++ List.replicate (n - k) zdue)) ∧ Ext w wr) (fun i _ => n - (intOf i).toNat)
  case atStart => exact ⟨0, Nat.zero_le _, rfl, by simpa using hown1, hb1⟩
  case round =>
    obtain ⟨k, hk, rfl, hown, hx⟩ := hrel
    clear hown1 hb1
    by_cases hlt : k < n
    · obtain ⟨b, o, rfl, hbl, hc⟩ := (h.ext hx).due (by omega)
      obtain ⟨c0, c1⟩ := hc k hlt
      have hs := fill_step l zdue k n hl'.out hlt
      generalize hgd : l.getD k zdue = d at *
      have hs' := Lib.hid hs; clear hs hc hgd
      have hown' := Lib.hid hown; clear hown
      go_wp2_with (go_at_call 26; refine (toDue_c d _).mono ?_; rintro e w2 ⟨rfl, hx2⟩; have hown2 := hx2.own hown'.out; obtain ⟨u0, hu0, hf0⟩ := own_cell hown2 (j := k * 2) (by omega); obtain ⟨u1, hu1, hf1⟩ := own_cell hown2 (j := k * 2 + 1) (by omega))
      go_roundw
      case rel =>
        refine ⟨k + 1, by omega, by go_num, ?_, ?_⟩
        · have h1 := (hown2.stored (k * 2) (.int .i64 d.a)).1
          have h2 := (h1.stored (k * 2 + 1) (.int .i64 d.i)).1
          rw [← dueCells_set, hs'.out] at h2
          exact h2
        · exact ((hx.trans hx2).setCell (by simp) _).setCell (by simp) _
      case measure => simp [intOf]; omega
    · have hkn : k = n := by omega
      go_wp2_with fail
      go_ret
      subst hkn
      rw [fill_done l zdue k hl'.out] at hown
      exact ⟨_, _, rfl, hown, hx⟩
def eqTo (l r : List Due) (k : Nat) : Bool := (List.range k).all fun i => decide (l.getD i zdue = r.getD i zdue)
theorem eqTo_succ (l r : List Due) (k : Nat) : eqTo l r (k + 1) = (eqTo l r k && decide (l.getD k zdue = r.getD k zdue)) := by simp [eqTo, List.range_succ, List.all_append]
set_option maxRecDepth 100000 in
set_option maxHeartbeats 1000000 in
/-- Of one list: it says so. -/
theorem eqDueS_c (A B : Option Addr) (n ca cb : Nat) (l : List Due) (w : World) (h : Rd w 2 A n ca (dueCells l)) (h' : Rd w 2 B n cb (dueCells l)) :
    Calls Try.prog 34 #[.slice A n ca, .slice B n cb] w fun e w' => e = .returned (.bool true) ∧ Ext w w' := by
  have hm : (n : Int) ≤ 9223372036854775807 := h.max
  go_enter Try.func34, Try.ntmps34
  go_wp2_with fail
  go_loopw [5] (fun i wr => ∃ k : Nat, k ≤ n ∧ i = .int .i64 k ∧ Ext w wr) (fun i _ => n - (intOf i).toNat)
  case atStart => exact ⟨0, Nat.zero_le _, rfl, Ext.refl _⟩
  case round =>
    obtain ⟨k, hk, rfl, hx⟩ := hrel
    by_cases hlt : k < n
    · obtain ⟨b, o, rfl, hbl, hc⟩ := (h.ext hx).due (by omega)
      obtain ⟨b', o', rfl, hbl', hc'⟩ := (h'.ext hx).due (by omega)
      obtain ⟨c0, c1⟩ := hc k hlt
      obtain ⟨d0, d1⟩ := hc' k hlt
      generalize l.getD k zdue = d at *
      clear hc hc'
      go_wp2_with fail
      refine wp_region_ext (by kernel_rfl) (by kernel_rfl) ?_
      repeat
        first
          | go_big_quiet_skip
          | go_big_quiet_want
            apply Exists.intro
            refine ⟨fun wq hq => ?_, ?_⟩
            · obtain ⟨hc1, hf1, hz1⟩ := bcell hq
              go_simp
              try go_bits
              first
                | (go_at_call 46; exact Calls.ext_of hq ((show decide (d = d) = true by simp) ▸ eqDue_c d d _))
                | exact ⟨rfl, rfl⟩
                | rfl
            go_big_quiet_on
            simp only [Act.put, List.setIfInBounds_toArray, List.set_cons_zero, List.set_cons_succ]
      refine wpQuiet_nil ?_
      intro w2 hx2
      go_wp2_with fail
      go_roundw
      case rel => exact ⟨k + 1, by omega, by go_num, hx.trans hx2⟩
      case measure => simp [intOf]; omega
    · have hkn : k = n := by omega
      go_wp2_with fail
      go_ret
      exact ⟨rfl, hx⟩
set_option maxRecDepth 100000 in
set_option maxHeartbeats 1000000 in
theorem markDueS_c (base g n cap : Nat) (l : List Due) (m : Int) (w : World) (h : w.ownsRow base 25 2 (.slice (some ⟨g, 0, none⟩) n cap) n (dueCells l)) (hl : l.length = n) (hn : n ≤ 2097152) (hm0 : 0 ≤ m) (hm1 : m ≤ 1048576) :
    Calls Try.prog 40 #[.slice (some ⟨g, 0, none⟩) n cap, .int .i64 m] w fun e w' => e = .returned (.int .i64 (m + 2 * n)) ∧ w'.ownsRow base 25 2 (.slice (some ⟨g, 0, none⟩) n cap) n (dueCells (dueMarks n m)) ∧ w.grownBy w' (some g) := by
  have hl' := Lib.hid hl; clear hl
  have hh := Lib.hid h; clear h
  go_enter Try.func40, Try.ntmps40
  go_wp2_with fail
  go_loopw [1, 5] (fun q i wr => ∃ k : Nat, k ≤ n ∧ i = .int .i64 k ∧ q = .int .i64 (m + 2 * k) ∧ wr.ownsRow base 25 2 (.slice (some ⟨g, 0, none⟩) n cap) n (dueCells ((dueMarks n m).take k ++ l.drop k)) ∧ w.grownBy wr (some g)) (fun _ i _ => n - (intOf i).toNat)
  case atStart => exact ⟨0, Nat.zero_le _, rfl, by simp, by simpa using hh.out, World.grownBy.refl _ _⟩
  case round =>
    obtain ⟨k, hk, rfl, rfl, hown, hg⟩ := hrel
    by_cases hlt : k < n
    · have hcap : n ≤ cap := by
        rcases hown.2 with ⟨e, _⟩ | ⟨_, _, _, e, _, _, hc, _⟩
        · cases e
        · injection e with _ _ e3; omega
      obtain ⟨u0, hu0, hf0⟩ := own_cell hown (j := k * 2) (by omega)
      obtain ⟨u1, hu1, hf1⟩ := own_cell hown (j := k * 2 + 1) (by omega)
      have hown' := Lib.hid hown; clear hown
      go_wp2_with fail
      go_roundw
      case rel =>
        refine ⟨k + 1, by omega, by go_num, by go_num, ?_, ?_⟩
        · have h1 := (hown'.out.stored (k * 2) (.int .i64 (m + 2 * k))).1
          have h2 := (h1.stored (k * 2 + 1) (.int .i64 (m + 2 * k + 1))).1
          rw [← dueCells_set (d := ⟨m + 2 * k, m + 2 * k + 1⟩)] at h2
          rw [← mark_step (dueMarks n m) l k n (dueMarks_length n m) hl'.out hlt, dueMarks_get n m k hlt]
          exact h2
        · exact only_setCell (only_setCell hg rfl _) rfl _
      case measure => simp [intOf]; omega
    · have hkn : k = n := by omega
      go_wp2_with fail
      go_ret
      subst hkn
      refine ⟨rfl, ?_, hg⟩
      rw [List.take_of_length_le (by rw [dueMarks_length]; omega), List.drop_eq_nil_of_le (by rw [hl'.out]; omega), List.append_nil] at hown
      exact hown
set_option maxRecDepth 100000 in
set_option maxHeartbeats 1000000 in
theorem heldDueS_c (A : Option Addr) (n cap : Nat) (m : Int) (w : World) (h : Rd w 2 A n cap (dueCells (dueMarks n m))) (hn : n ≤ 2097152) (hm0 : 0 ≤ m) (hm1 : m ≤ 1048576) :
    Calls Try.prog 41 #[.slice A n cap, .int .i64 m] w fun e w' => e = .returned (.int .i64 (m + 2 * n)) ∧ Ext w w' := by
  have hm : (n : Int) ≤ 9223372036854775807 := by omega
  go_enter Try.func41, Try.ntmps41
  go_wp2_with fail
  go_loopw [1, 5] (fun q i wr => ∃ k : Nat, k ≤ n ∧ i = .int .i64 k ∧ q = .int .i64 (m + 2 * k) ∧ Ext w wr) (fun _ i _ => n - (intOf i).toNat)
  case atStart => exact ⟨0, Nat.zero_le _, rfl, by simp, Ext.refl _⟩
  case round =>
    obtain ⟨k, hk, rfl, rfl, hx⟩ := hrel
    by_cases hlt : k < n
    · obtain ⟨b, o, rfl, hbl, hc⟩ := (h.ext hx).due (by omega)
      obtain ⟨c0, c1⟩ := hc k hlt
      rw [dueMarks_get n m k hlt] at c0 c1
      clear hc
      go_wp2_with fail
      go_roundw
      case rel => exact ⟨k + 1, by omega, by go_num, by go_num, hx⟩
      case measure => simp [intOf]; omega
    · have hkn : k = n := by omega
      go_wp2_with fail
      go_ret
      subst hkn
      exact ⟨rfl, hx⟩
end Go.Proofs.Ythmajaeekkbnnaa
