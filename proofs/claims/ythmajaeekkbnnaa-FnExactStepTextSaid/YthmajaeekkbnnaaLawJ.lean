/-
  The law FnExactStepText: the program's StepText returns what the reference's returns, for all arguments.
-/
import Derived.Test.YthmajaeekkbnnaaTxR
import Derived.Test.YthmajaeekkbnnaaRows
namespace Go.Proofs.Ythmajaeekkbnnaa
open Go Go.RowKit Go.ChangeShapes Go.WideShapes
attribute [local irreducible] AWp OpsOk OpOk ACalls
set_option maxRecDepth 100000 in
theorem lawStepText_lifted (os : Os) (started : os.Started) (H : Type) (enc : TypeId × Value → H) :
    ReturnsInHanded {} Try.checked os 18 .any (Rows.fnExactStepTextSpec.pre6 enc Try.prog Try.f18 Rows.fnExactStepTextRow.domain false) (Rows.fnExactStepTextSpec.post enc Try.prog Try.f18 false true false false) := by
  refine returnsInHanded_of_change (C := Try.checked) own_ started (by kernel_rfl) Try.func18 (ChangeSpec.witness6 (enc := enc) (C := Try.checked) false ⟨#[], #[.agg #[.int .i64 0, .int .i64 0, .int .i64 0, .int .i64 0, .int .i64 0, .int .i64 0, .int .i64 0, .int .i64 0, .int .i64 0, .int .i64 0, .int .i64 0, .int .i64 0, .int .i64 0, .int .i64 0, .int .i64 0, .int .i64 0, .int .i64 0, .int .i64 0]], []⟩ 8 (by kernel_rfl) (by kernel_rfl) (by kernel_rfl) (by kernel_rfl)) ?_
  intro W base args ds gs before hval0 hW _ _
  have hval : ∀ (j : Nat) t v, Try.f18.params[j]? = some t → args[j]? = some v → Value.okWide Try.prog W .any base t v := hval0
  have hW' : DataW.Whole enc Try.prog Try.f18.params.toList Rows.fnExactStepTextSpec.vars false W args.toList ds gs before := hW
  obtain ⟨pp, qq, hA0, _, _, _, _⟩ := hW
  have hA : DataW.TrodAll enc Try.prog W 0 (fun _ => true) true Try.f18.params.toList args.toList ds pp := hA0
  rw [Try.params18] at hA hval
  obtain ⟨v0, vs0, d0, ds0, p0, q0, hargs, hds, _, h0, r0⟩ := trodAll_cons hA
  obtain ⟨hvs, hds0, _⟩ := trodAll_nil r0
  have hds : ds = [d0] := by rw [hds, hds0]
  obtain rfl : args = #[v0] := by cases args; simp_all
  obtain ⟨ds', F, g1, g2, g3, _, g4, _⟩ := law_arg 39 (X := ⟨Try.prog, W, _, NoZ, NoB, tt⟩) (ti := ti84) rfl rfl (hval 0 _ v0 rfl rfl) h0
  obtain ⟨cs, rfl⟩ := g4 rfl
  obtain ⟨_, _, rfl, ⟨kk, rfl, _⟩, _, _, rfl, ⟨_, _, rfl, ⟨k, rfl, _⟩, _, _, rfl, ⟨_, _, rfl, ⟨j1, rfl, _⟩, _, _, rfl, ⟨j2, rfl, _⟩, _, _, rfl, ⟨j3, rfl, _⟩, _, _, rfl, ⟨_, _, rfl, ⟨a1, rfl, _⟩, _, _, rfl, ⟨a2, rfl, _⟩, _, _, rfl, ⟨a3, rfl, _⟩, rfl⟩, _, _, rfl, ⟨_, _, rfl, ⟨b1, rfl, _⟩, _, _, rfl, ⟨b2, rfl, _⟩, _, _, rfl, ⟨b3, rfl, _⟩, rfl⟩, _, _, rfl, ⟨j4, rfl, _⟩, _, _, rfl, ⟨j5, rfl, _⟩, rfl⟩, _, _, rfl, ⟨n, rfl, _⟩, _, _, rfl, ⟨_, _, rfl, ⟨c1, rfl, _⟩, _, _, rfl, ⟨c2, rfl, _⟩, _, _, rfl, ⟨c3, rfl, _⟩, rfl⟩, rfl⟩, _, _, rfl, ⟨kp, rfl, _⟩, rfl⟩ := g3
  refine (law_of (lawStepText_e (x := ⟨kk, ⟨k, ⟨j1, j2, j3, ⟨a1, a2, a3⟩, ⟨b1, b2, b3⟩, j4, j5⟩, n, ⟨c1, c2, c3⟩⟩, kp⟩)) ⟨.agg cs, [], rfl, arg_agg g1 g2, rfl⟩).mono fun e W' ⟨he, hb⟩ => ⟨_, he, ?_⟩
  exact law_post laid_ rfl rfl Try.underlying4 (by kernel_rfl) (by rw [hds]; rfl) hW' hb
theorem lawStepText_closed : joinedFacts Try.prog 18 Try.f18 Rows.fnExactStepTextSpec Rows.fnExactStepTextRow = true := by
  unfold joinedFacts
  repeat refine Bool.and_eq_true_iff.2 ⟨?_, ?_⟩
  all_goals first
    | with_reducible exact fc_mayEnter
    | with_reducible exact fc_lifts _ rfl
    | with_reducible exact fc_make _ rfl
    | with_reducible exact laid_
    | with_reducible exact fc_maps
    | with_reducible exact fc_heard
    | as_aux_lemma => kernel_rfl
theorem lawStepText_holds : Rows.FnExactStepTextSaid :=
  OpenClaim.holds_of_wide 18 Try.f18 rfl rfl rfl rfl rfl rfl rfl ⟨rfl, rfl, rfl, rfl, rfl⟩ rfl rfl rfl rfl rfl (by as_aux_lemma => kernel_rfl) Try.func18 lawStepText_closed
    (of_decide_eq_true (by as_aux_lemma => kernel_rfl)) (by unfold Func.isWrapper; rw [if_neg (of_decide_eq_false (by as_aux_lemma => kernel_rfl))]; exact ⟨rfl, rfl⟩)
    (fun os started H enc _ => lawStepText_lifted os started H enc)
end Go.Proofs.Ythmajaeekkbnnaa
