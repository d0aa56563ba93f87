/-
  Contracts: the small functions over due times.
-/
import Derived.Test.YthmajaeekkbnnaaChecked
import Derived.Test.YthmajaeekkbnnaaHeapM
namespace Go.Proofs.Ythmajaeekkbnnaa
open Go Go.RowKit

theorem within_c (x lo hi : Int) (w : World) : Calls Try.prog 88 #[.int .i64 x, .int .i64 lo, .int .i64 hi] w fun e w' => e = .returned (.bool (decide (lo ≤ x) && decide (x ≤ hi))) ∧ Ext w w' := by
  by_cases h1 : lo ≤ x <;> by_cases h2 : x ≤ hi
  all_goals
    go_enter Try.func88, Try.ntmps88
    go_wp2
    go_ret
    exact ⟨by simp [*], Ext.refl _⟩
theorem isTime_c (x : Int) (w : World) : Calls Try.prog 99 #[.int .i64 x] w fun e w' => e = .returned (.bool (isTimeB x)) ∧ Ext w w' := by
  go_enter Try.func99, Try.ntmps99
  go_wp2_with (go_at_call 88; refine (within_c _ _ _ _).mono ?_; rintro e w' ⟨rfl, hx⟩)
  go_ret
  exact ⟨rfl, by assumption⟩
theorem l01Time_c (x : Int) (w : World) : Calls Try.prog 94 #[.int .i64 x] w fun e w' => e = .returned (.bool (isTimeB x)) ∧ Ext w w' := by
  unfold isTimeB
  by_cases h1 : 0 ≤ x <;> by_cases h2 : x ≤ 1000000000
  all_goals
    go_enter Try.func94, Try.ntmps94
    go_wp2
    go_ret
    exact ⟨by simp [*], Ext.refl _⟩
theorem dueFirst_c (a b : Due) (w : World) : Calls Try.prog 27 #[.agg a.cs, .agg b.cs] w fun e w' => e = .returned (.bool (dueFirst a b)) ∧ Ext w w' := by
  obtain ⟨a1, a2⟩ := a
  obtain ⟨b1, b2⟩ := b
  unfold Due.cs
  by_cases h1 : a1 < b1
  · go_enter Try.func27, Try.ntmps27
    go_wp2
    go_ret
    exact ⟨by simp [dueFirst, h1], ((Below.refl _ _).alloc (Nat.le_refl _) _).alloc (by simp) _⟩
  · by_cases h2 : a1 = b1
    · subst h2
      go_enter Try.func27, Try.ntmps27
      go_wp2
      go_ret
      exact ⟨by simp [dueFirst], ((Below.refl _ _).alloc (Nat.le_refl _) _).alloc (by simp) _⟩
    · go_enter Try.func27, Try.ntmps27
      go_wp2
      go_ret
      exact ⟨by simp [dueFirst, h1, h2], ((Below.refl _ _).alloc (Nat.le_refl _) _).alloc (by simp) _⟩
theorem sdueFirst_c (a b : Due) (w : World) : Calls Try.prog 25 #[.agg a.cs, .agg b.cs] w fun e w' => e = .returned (.bool (dueFirst a b)) ∧ Ext w w' := by
  obtain ⟨a1, a2⟩ := a
  obtain ⟨b1, b2⟩ := b
  unfold Due.cs
  by_cases h1 : a1 < b1
  · go_enter Try.func25, Try.ntmps25
    go_wp2
    go_ret
    exact ⟨by simp [dueFirst, h1], ((Below.refl _ _).alloc (Nat.le_refl _) _).alloc (by simp) _⟩
  · by_cases h2 : a1 = b1
    · subst h2
      go_enter Try.func25, Try.ntmps25
      go_wp2
      go_ret
      exact ⟨by simp [dueFirst], ((Below.refl _ _).alloc (Nat.le_refl _) _).alloc (by simp) _⟩
    · go_enter Try.func25, Try.ntmps25
      go_wp2
      go_ret
      exact ⟨by simp [dueFirst, h1, h2], ((Below.refl _ _).alloc (Nat.le_refl _) _).alloc (by simp) _⟩
theorem dueOk_c (d : Due) (w : World) : Calls Try.prog 91 #[.agg d.cs] w fun e w' => e = .returned (.bool (dueOkB d)) ∧ Ext w w' := by
  obtain ⟨a, i⟩ := d
  unfold Due.cs
  by_cases h : isTimeB a = true
  all_goals
    go_enter Try.func91, Try.ntmps91
    go_wp2_with (first | (go_at_call 99; refine (isTime_c _ _).mono ?_; rintro e w1 ⟨rfl, hx⟩; obtain ⟨hc1, hf1, hz1⟩ := bcell hx) | (go_at_call 88; refine (within_c _ _ _ _).mono ?_; rintro e w2 ⟨rfl, hy⟩))
    go_ret
    first | exact ⟨by simp [dueOkB, h], ((Ext.refl _).alloc (Nat.le_refl _) _).trans (hx.mono (by simp))⟩ | exact ⟨by simp [dueOkB, h], ((Ext.refl _).alloc (Nat.le_refl _) _).trans ((hx.trans hy).mono (by simp))⟩
theorem l10Due_c (d : Due) (w : World) : Calls Try.prog 90 #[.agg d.cs] w fun e w' => e = .returned (.bool (dueOkB d)) ∧ Ext w w' := by
  obtain ⟨a, i⟩ := d
  unfold Due.cs
  by_cases h : isTimeB a = true <;> by_cases h1 : 1 ≤ i <;> by_cases h2 : i ≤ 999 <;> try (exfalso; omega)
  all_goals
    go_enter Try.func90, Try.ntmps90
    go_wp2_with (first | (go_at_call 94; refine (l01Time_c _ _).mono ?_; rintro e w1 ⟨rfl, hx⟩; obtain ⟨hc1, hf1, hz1⟩ := bcell hx))
    go_ret
    exact ⟨by simp [dueOkB, h, h1, h2], ((Ext.refl _).alloc (Nat.le_refl _) _).trans (hx.mono (by simp))⟩
end Go.Proofs.Ythmajaeekkbnnaa
