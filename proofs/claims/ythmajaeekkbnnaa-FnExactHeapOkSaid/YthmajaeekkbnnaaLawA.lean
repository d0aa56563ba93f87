/-
  The program's HeapOk and the reference's give the same answer for all arguments, and the argument is left as it was. No condition.
-/
import Derived.Test.YthmajaeekkbnnaaHeapB
import Derived.Test.YthmajaeekkbnnaaHeapC
import Derived.Test.YthmajaeekkbnnaaRows
import Derived.Test.YthmajaeekkbnnaaFacts
namespace Go.Proofs.Ythmajaeekkbnnaa
open Go Go.RowKit Go.ChangeShapes Go.WideShapes

theorem dueOf (n : Nat) : ∀ xs : List Value, xs.length = n * 2 → (∀ (j : Nat) (u : Value), xs[j]? = some u → isI64 u) → ∃ l : List Due, xs = dueCells l ∧ l.length = n := by
  induction n with
  | zero => intro xs h _; exact ⟨[], List.eq_nil_of_length_eq_zero (by simpa using h), rfl⟩
  | succ n ih =>
    intro xs h hi
    match xs, h with
    | [], h => simp at h
    | [_], h => simp at h; omega
    | a :: b :: xs, h =>
      obtain ⟨l, rfl, hl⟩ := ih xs (by simp at h; omega) (fun j u hu => hi (j + 2) u (by simpa using hu))
      obtain ⟨x, rfl, _⟩ := hi 0 a rfl
      obtain ⟨y, rfl, _⟩ := hi 1 b rfl
      exact ⟨⟨x, y⟩ :: l, by simp [dueCells], by simp [hl]⟩
set_option maxRecDepth 100000 in
set_option maxHeartbeats 1000000 in
theorem lawHeapOk_c (A : Option Addr) (n cap : Nat) (l : List Due) (w : World) (h : Rd w 2 A n cap (dueCells l)) (hl : l.length = n) :
    Calls Try.prog 5 #[.slice A n cap] w fun e w' => e = .returned (.bool true) ∧ Ext w w' := by
  have hm : (n : Int) ≤ 9223372036854775807 := by have := h.2.2.1; have := h.2.1; omega
  have hl' := Lib.hid hl; clear hl
  by_cases hn : n ≤ 1048576
  · go_enter Try.func5, Try.ntmps5
    go_wp2_with fail
    refine (szDueS_yes _ _ _ _ hn).mono ?_
    rintro e w1 ⟨rfl, hx1⟩
    have h1 := h.ext hx1
    go_wp2_with fail
    refine (toDueS_c _ _ _ l _ h1 hl'.out hn).mono ?_
    rintro e w2 ⟨g2, c2, rfl, ho2, hx2⟩
    go_wp2_with fail
    refine (sheapOk_c _ _ _ l _ (Rd.of_own ho2) hl'.out).mono ?_
    rintro e w3 ⟨rfl, hx3⟩
    have h3 := h1.ext (hx2.trans hx3)
    go_wp2_with fail
    refine (toDueS_c _ _ _ l _ h3 hl'.out hn).mono ?_
    rintro e w4 ⟨g4, c4, rfl, ho4, hx4⟩
    go_wp2_with fail
    refine (heapOk_c _ _ _ l _ (Rd.of_own ho4) hl'.out).mono ?_
    rintro e w5 ⟨rfl, hx5⟩
    have h5 := h3.ext (hx4.trans hx5)
    go_wp2_with fail
    refine (toDueS_c _ _ _ l _ h5 hl'.out hn).mono ?_
    rintro e w6 ⟨g6, c6, rfl, ho6, hx6⟩
    go_wp2_with fail
    refine (eqDueS_c _ _ _ _ _ l _ ((Rd.of_own ho4).ext (hx5.trans hx6)) (Rd.of_own ho6)).mono ?_
    rintro e w7 ⟨rfl, hx7⟩
    go_wp2_with fail
    go_ret
    exact ⟨rfl, hx1.trans (hx2.trans (hx3.trans (hx4.trans (hx5.trans (hx6.trans hx7)))))⟩
  · go_enter Try.func5, Try.ntmps5
    go_wp2_with fail
    refine (szDueS_no _ _ _ _ (by omega) hm).mono ?_
    rintro e w1 ⟨rfl, hx1⟩
    go_wp2_with fail
    go_ret
    exact ⟨rfl, hx1⟩
set_option maxRecDepth 100000 in
theorem lawHeapOk_lifted (os : Os) (started : os.Started) (H : Type) (enc : TypeId × Value → H) :
    ReturnsInHanded {} Try.checked os 5 .any (Rows.fnExactHeapOkSpec.pre6 enc Try.prog Try.f5 Rows.fnExactHeapOkRow.domain false) (Rows.fnExactHeapOkSpec.post enc Try.prog Try.f5 false true false false) := by
  refine returnsInHanded_of_change (C := Try.checked) own_ started (by kernel_rfl) Try.func5 (ChangeSpec.witness6 (enc := enc) (C := Try.checked) false ⟨#[], #[.slice none 0 0], []⟩ 8 (by kernel_rfl) (by kernel_rfl) (by kernel_rfl) (by kernel_rfl)) ?_
  intro W base args ds gs before hval0 hW _ _
  have hval : ∀ (j : Nat) t v, Try.f5.params[j]? = some t → args[j]? = some v → Value.okWide Try.prog W .any base t v := hval0
  have hW' : DataW.Whole enc Try.prog Try.f5.params.toList Rows.fnExactHeapOkSpec.vars false W args.toList ds gs before := hW
  obtain ⟨pp, qq, hA0, _, _, _, _⟩ := hW
  have hA : DataW.TrodAll enc Try.prog W 0 (fun _ => true) true Try.f5.params.toList args.toList ds pp := hA0
  rw [Try.params5] at hA hval
  obtain ⟨v0, vs0, d0, ds0, p0, q0, hargs, hds, _, h0, r0⟩ := trodAll_cons hA
  obtain ⟨hvs, hds0, _⟩ := trodAll_nil r0
  have hds : ds = [d0] := by rw [hds, hds0]
  obtain rfl : args = #[v0] := by cases args; simp_all
  obtain ⟨A, n, cap, xs, rfl, hr, hi⟩ := open_ints_slice (m := 2) Try.underlying29 (by kernel_rfl) (by omega) (by kernel_rfl) (hval 0 _ v0 rfl rfl) h0
  obtain ⟨l, rfl, hl⟩ := dueOf n xs hr.1 hi
  refine (lawHeapOk_c A n cap l W hr hl).mono fun e W' ⟨he, hb⟩ => ⟨_, he, ?_⟩
  exact law_post laid_ rfl rfl Try.underlying4 (by kernel_rfl) (by rw [hds]; rfl) hW' hb
theorem lawHeapOk_closed : joinedFacts Try.prog 5 Try.f5 Rows.fnExactHeapOkSpec Rows.fnExactHeapOkRow = true := by
  unfold joinedFacts
  repeat refine Bool.and_eq_true_iff.2 ⟨?_, ?_⟩
  all_goals first
    | with_reducible exact fc_mayEnter
    | with_reducible exact fc_lifts _ rfl
    | with_reducible exact fc_make _ rfl
    | with_reducible exact laid_
    | with_reducible exact fc_maps
    | with_reducible exact fc_heard
    | as_aux_lemma => kernel_rfl
theorem lawHeapOk_holds : Rows.FnExactHeapOkSaid :=
  OpenClaim.holds_of_wide 5 Try.f5 rfl rfl rfl rfl rfl rfl rfl ⟨rfl, rfl, rfl, rfl, rfl⟩ rfl rfl rfl rfl rfl (by as_aux_lemma => kernel_rfl) Try.func5 lawHeapOk_closed
    (of_decide_eq_true (by as_aux_lemma => kernel_rfl)) (by unfold Func.isWrapper; rw [if_neg (of_decide_eq_false (by as_aux_lemma => kernel_rfl))]; exact ⟨rfl, rfl⟩)
    (fun os started H enc _ => lawHeapOk_lifted os started H enc)
end Go.Proofs.Ythmajaeekkbnnaa
