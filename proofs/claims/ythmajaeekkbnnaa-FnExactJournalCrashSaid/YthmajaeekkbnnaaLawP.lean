/-
  The law FnExactJournalCrash: the program's JournalCrash returns what the reference's returns, for all arguments.
-/
import Derived.Test.YthmajaeekkbnnaaTxZ
import Derived.Test.YthmajaeekkbnnaaRows
namespace Go.Proofs.Ythmajaeekkbnnaa
open Go Go.RowKit Go.ChangeShapes Go.WideShapes
attribute [local irreducible] AWp OpsOk OpOk ACalls
set_option maxRecDepth 100000 in
theorem lawJournalCrash_lifted (os : Os) (started : os.Started) (H : Type) (enc : TypeId × Value → H) :
    ReturnsInHanded {} Try.checked os 16 .any (Rows.fnExactJournalCrashSpec.pre6 enc Try.prog Try.f16 Rows.fnExactJournalCrashRow.domain false) (Rows.fnExactJournalCrashSpec.post enc Try.prog Try.f16 false true false false) := by
  refine returnsInHanded_of_change (C := Try.checked) own_ started (by kernel_rfl) Try.func16 (ChangeSpec.witness6 (enc := enc) (C := Try.checked) false ⟨#[], #[.agg #[.slice none 0 0, .int .i64 0, .int .i64 0], .int .i64 0], []⟩ 8 (by kernel_rfl) (by kernel_rfl) (by kernel_rfl) (by kernel_rfl)) ?_
  intro W base args ds gs before hval0 hW _ _
  have hval : ∀ (j : Nat) t v, Try.f16.params[j]? = some t → args[j]? = some v → Value.okWide Try.prog W .any base t v := hval0
  have hW' : DataW.Whole enc Try.prog Try.f16.params.toList Rows.fnExactJournalCrashSpec.vars false W args.toList ds gs before := hW
  obtain ⟨pp, qq, hA0, _, _, _, _⟩ := hW
  have hA : DataW.TrodAll enc Try.prog W 0 (fun _ => true) true Try.f16.params.toList args.toList ds pp := hA0
  rw [Try.params16] at hA hval
  obtain ⟨v0, vs0, d0, ds0, p0, q0, hargs, hds, _, h0, r0⟩ := trodAll_cons hA
  obtain ⟨v1, vs1, d1, ds1, p1, q1, hvs, hds0, _, h1, r1⟩ := trodAll_cons r0
  obtain ⟨hvs1, hds1, _⟩ := trodAll_nil r1
  have hds : ds = [d0, d1] := by rw [hds, hds0, hds1]
  obtain rfl : args = #[v0, v1] := by cases args; simp_all
  obtain ⟨ds', F, g1, g2, g3, _, g4, _⟩ := law_arg 39 (X := ⟨Try.prog, W, _, NoZ, NoB, tt⟩) (ti := ti69) rfl rfl (hval 0 _ v0 rfl rfl) h0
  obtain ⟨cs, rfl⟩ := g4 rfl
  obtain ⟨_, _, rfl, ⟨es, rfl, hl, hq⟩, _, _, rfl, ⟨s, rfl, _⟩, _, _, rfl, ⟨c, rfl, _⟩, rfl⟩ := g3
  obtain ⟨b, rfl⟩ := bytes_of hq
  obtain ⟨_, F2, k1, k2, k3, _, _, k4⟩ := law_arg 39 (X := ⟨Try.prog, W, _, NoZ, NoB, tt⟩) (ti := ti3) rfl rfl (hval 1 _ v1 rfl rfl) h1
  obtain ⟨t, rfl, _⟩ := k3
  refine (law_of (lawJournalCrash_e (j := ⟨b, s, c⟩) (keep := t) (by rw [byteE_length] at hl; exact hl)) ⟨.agg cs, [v1], rfl, arg_agg g1 g2, v1, [], rfl, arg_one k1 k2 (k4 rfl), rfl⟩).mono fun e W' ⟨he, hb⟩ => ⟨_, he, ?_⟩
  exact law_post laid_ rfl rfl Try.underlying4 (by kernel_rfl) (by rw [hds]; rfl) hW' hb
theorem lawJournalCrash_closed : joinedFacts Try.prog 16 Try.f16 Rows.fnExactJournalCrashSpec Rows.fnExactJournalCrashRow = true := by
  unfold joinedFacts
  repeat refine Bool.and_eq_true_iff.2 ⟨?_, ?_⟩
  all_goals first
    | with_reducible exact fc_mayEnter
    | with_reducible exact fc_lifts _ rfl
    | with_reducible exact fc_make _ rfl
    | with_reducible exact laid_
    | with_reducible exact fc_maps
    | with_reducible exact fc_heard
    | as_aux_lemma => kernel_rfl
theorem lawJournalCrash_holds : Rows.FnExactJournalCrashSaid :=
  OpenClaim.holds_of_wide 16 Try.f16 rfl rfl rfl rfl rfl rfl rfl ⟨rfl, rfl, rfl, rfl, rfl⟩ rfl rfl rfl rfl rfl (by as_aux_lemma => kernel_rfl) Try.func16 lawJournalCrash_closed
    (of_decide_eq_true (by as_aux_lemma => kernel_rfl)) (by unfold Func.isWrapper; rw [if_neg (of_decide_eq_false (by as_aux_lemma => kernel_rfl))]; exact ⟨rfl, rfl⟩)
    (fun os started H enc _ => lawJournalCrash_lifted os started H enc)
end Go.Proofs.Ythmajaeekkbnnaa
