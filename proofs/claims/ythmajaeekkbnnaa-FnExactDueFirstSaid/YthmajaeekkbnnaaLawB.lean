/-
  The program's DueFirst and the reference's give the same answer for all arguments. No condition.
-/
import Derived.Test.YthmajaeekkbnnaaHeapC
import Derived.Test.YthmajaeekkbnnaaRows
import Derived.Test.YthmajaeekkbnnaaFacts
namespace Go.Proofs.Ythmajaeekkbnnaa
open Go Go.RowKit Go.ChangeShapes Go.WideShapes

set_option maxRecDepth 100000 in
set_option maxHeartbeats 1000000 in
theorem lawDueFirst_c (a b : Due) (w : World) :
    Calls Try.prog 3 #[.agg a.cs, .agg b.cs] w fun e w' => e = .returned (.bool true) ∧ Ext w w' := by
  obtain ⟨a1, a2⟩ := a
  obtain ⟨b1, b2⟩ := b
  have hd := dueFirst_c ⟨a1, a2⟩ ⟨b1, b2⟩
  have hs := sdueFirst_c ⟨a1, a2⟩ ⟨b1, b2⟩
  unfold Due.cs at hd hs ⊢
  generalize dueFirst ⟨a1, a2⟩ ⟨b1, b2⟩ = q at hd hs
  have hd' := Lib.hid hd; clear hd
  have hs' := Lib.hid hs; clear hs
  cases q
  all_goals
    go_enter Try.func3, Try.ntmps3
    go_wp2_with fail
    refine wp_region_ext (by kernel_rfl) (by kernel_rfl) ?_
    repeat
      first
        | go_big_quiet_skip
        | go_big_quiet_want
          apply Exists.intro
          refine ⟨fun wq hq => ?_, ?_⟩
          · obtain ⟨hc1, hf1, hz1⟩ := bcell hq
            go_simp
            try go_bits
            first
              | (first | (go_at_call 26; exact Calls.ext_of hq (toDue_i _ _ _)) | (go_at_call 25; exact Calls.ext_of hq (hs'.out _)))
              | exact ⟨rfl, rfl⟩
              | rfl
          go_big_quiet_on
          simp only [Act.put, List.setIfInBounds_toArray, List.set_cons_zero, List.set_cons_succ]
    refine wpQuiet_nil ?_
    intro w2 hx2
    obtain ⟨hc1, hf1, hz1⟩ := bcell hx2
    have hz2 : w.heap.size < w2.heap.size := by simp at hz1; omega
    have hz3 : w.heap.size + 1 < w2.heap.size := by simp at hz1; omega
    go_wp2_with fail
    refine wp_region_ext (by kernel_rfl) (by kernel_rfl) ?_
    repeat
      first
        | go_big_quiet_skip
        | go_big_quiet_want
          apply Exists.intro
          refine ⟨fun wq hq => ?_, ?_⟩
          · obtain ⟨hc2, hf2, _⟩ := bcell hq
            go_simp
            try go_bits
            first
              | (first | (go_at_call 26; exact Calls.ext_of hq (toDue_i _ _ _)) | (go_at_call 27; exact Calls.ext_of hq (hd'.out _)))
              | exact ⟨rfl, rfl⟩
              | rfl
          go_big_quiet_on
          simp only [Act.put, List.setIfInBounds_toArray, List.set_cons_zero, List.set_cons_succ]
    refine wpQuiet_nil ?_
    intro w3 hx3
    go_wp2_with fail
    go_ret
    exact ⟨rfl, Ext.below (((Below.refl _ _).alloc (Nat.le_refl _) _).alloc (by simp) _) (hx2.trans hx3) (by simp; omega)⟩
set_option maxRecDepth 100000 in
theorem lawDueFirst_lifted (os : Os) (started : os.Started) (H : Type) (enc : TypeId × Value → H) :
    ReturnsInHanded {} Try.checked os 3 .any (Rows.fnExactDueFirstSpec.pre6 enc Try.prog Try.f3 Rows.fnExactDueFirstRow.domain false) (Rows.fnExactDueFirstSpec.post enc Try.prog Try.f3 false true false false) := by
  refine returnsInHanded_of_change (C := Try.checked) own_ started (by kernel_rfl) Try.func3 (ChangeSpec.witness6 (enc := enc) (C := Try.checked) false ⟨#[], #[.agg #[.int .i64 0, .int .i64 0], .agg #[.int .i64 0, .int .i64 0]], []⟩ 8 (by kernel_rfl) (by kernel_rfl) (by kernel_rfl) (by kernel_rfl)) ?_
  intro W base args ds gs before hval0 hW _ _
  have hval : ∀ (j : Nat) t v, Try.f3.params[j]? = some t → args[j]? = some v → Value.okWide Try.prog W .any base t v := hval0
  have hW' : DataW.Whole enc Try.prog Try.f3.params.toList Rows.fnExactDueFirstSpec.vars false W args.toList ds gs before := hW
  obtain ⟨pp, qq, hA0, _, _, _, _⟩ := hW
  have hA : DataW.TrodAll enc Try.prog W 0 (fun _ => true) true Try.f3.params.toList args.toList ds pp := hA0
  rw [Try.params3] at hA hval
  obtain ⟨v0, vs0, d0, ds0, p0, q0, hargs, hds, _, h0, r0⟩ := trodAll_cons hA
  obtain ⟨v1, vs1, d1, ds1, p1, q1, hvs, hds0, _, h1, r1⟩ := trodAll_cons r0
  obtain ⟨hvs1, hds1, _⟩ := trodAll_nil r1
  have hds : ds = [d0, d1] := by rw [hds, hds0, hds1]
  obtain rfl : args = #[v0, v1] := by cases args; simp_all
  obtain ⟨x, y, rfl⟩ := open_ints2 Try.underlying23 (by kernel_rfl) (by kernel_rfl) (hval 0 _ v0 rfl rfl) h0
  obtain ⟨x', y', rfl⟩ := open_ints2 Try.underlying23 (by kernel_rfl) (by kernel_rfl) (hval 1 _ v1 rfl rfl) h1
  refine (lawDueFirst_c ⟨x, y⟩ ⟨x', y'⟩ W).mono fun e W' ⟨he, hb⟩ => ⟨_, he, ?_⟩
  exact law_post laid_ rfl rfl Try.underlying4 (by kernel_rfl) (by rw [hds]; rfl) hW' hb
theorem lawDueFirst_closed : joinedFacts Try.prog 3 Try.f3 Rows.fnExactDueFirstSpec Rows.fnExactDueFirstRow = true := by
  unfold joinedFacts
  repeat refine Bool.and_eq_true_iff.2 ⟨?_, ?_⟩
  all_goals first
    | with_reducible exact fc_mayEnter
    | with_reducible exact fc_lifts _ rfl
    | with_reducible exact fc_make _ rfl
    | with_reducible exact laid_
    | with_reducible exact fc_maps
    | with_reducible exact fc_heard
    | as_aux_lemma => kernel_rfl
theorem lawDueFirst_holds : Rows.FnExactDueFirstSaid :=
  OpenClaim.holds_of_wide 3 Try.f3 rfl rfl rfl rfl rfl rfl rfl ⟨rfl, rfl, rfl, rfl, rfl⟩ rfl rfl rfl rfl rfl (by as_aux_lemma => kernel_rfl) Try.func3 lawDueFirst_closed
    (of_decide_eq_true (by as_aux_lemma => kernel_rfl)) (by unfold Func.isWrapper; rw [if_neg (of_decide_eq_false (by as_aux_lemma => kernel_rfl))]; exact ⟨rfl, rfl⟩)
    (fun os started H enc _ => lawDueFirst_lifted os started H enc)
end Go.Proofs.Ythmajaeekkbnnaa
