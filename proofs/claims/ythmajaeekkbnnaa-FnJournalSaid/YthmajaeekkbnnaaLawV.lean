/-
  The law FnJournal: an added record is read at the end, what was synced survives every crash, whatever is drawn.
-/
import Derived.Test.YthmajaeekkbnnaaJrF
import Derived.Test.YthmajaeekkbnnaaRows
namespace Go.Proofs.Ythmajaeekkbnnaa
open Go Go.RowKit Go.ChangeShapes Go.WideShapes
attribute [local irreducible] AWp OpsOk OpOk ACalls
set_option maxRecDepth 100000 in
theorem lawJournal_lifted (os : Os) (started : os.Started) (H : Type) (enc : TypeId × Value → H) :
    ReturnsInHanded {} Try.checked os 20 .any (Rows.fnJournalSpec.pre6 enc Try.prog Try.f20 Rows.fnJournalRow.domain false) (Rows.fnJournalSpec.post enc Try.prog Try.f20 false true false false) := by
  refine returnsInHanded_of_change (C := Try.checked) own_ started (by kernel_rfl) Try.func20 (ChangeSpec.witness6 (enc := enc) (C := Try.checked) false ⟨#[], #[.slice none 0 0], []⟩ 8 (by kernel_rfl) (by kernel_rfl) (by kernel_rfl) (by kernel_rfl)) ?_
  intro W base args ds gs before hval0 hW _ _
  have hval : ∀ (j : Nat) t v, Try.f20.params[j]? = some t → args[j]? = some v → Value.okWide Try.prog W .any base t v := hval0
  have hW' : DataW.Whole enc Try.prog Try.f20.params.toList Rows.fnJournalSpec.vars false W args.toList ds gs before := hW
  obtain ⟨pp, qq, hA0, _, _, _, _⟩ := hW
  have hA : DataW.TrodAll enc Try.prog W 0 (fun _ => true) true Try.f20.params.toList args.toList ds pp := hA0
  rw [Try.params20] at hA hval
  obtain ⟨v0, vs0, d0, ds0, p0, q0, hargs, hds, _, h0, r0⟩ := trodAll_cons hA
  obtain ⟨hvs, hds0, _⟩ := trodAll_nil r0
  have hds : ds = [d0] := by rw [hds, hds0]
  obtain rfl : args = #[v0] := by cases args; simp_all
  obtain ⟨ds', F, g1, g2, g3, _, _, g4⟩ := law_arg 39 (X := ⟨Try.prog, W, _, NoZ, NoB, tt⟩) (ti := ti58) rfl rfl (hval 0 _ v0 rfl rfl) h0
  obtain ⟨es, rfl, _, hq⟩ := g3
  obtain ⟨b, rfl⟩ := bytesOf hq
  refine (law_of lawJournal_e ⟨v0, [], rfl, arg_one g1 g2 (g4 rfl), rfl⟩).mono fun e W' ⟨he, hb⟩ => ⟨_, he, ?_⟩
  exact law_post laid_ rfl rfl Try.underlying4 (by kernel_rfl) (by rw [hds]; rfl) hW' hb
theorem lawJournal_closed : joinedFacts Try.prog 20 Try.f20 Rows.fnJournalSpec Rows.fnJournalRow = true := by
  unfold joinedFacts
  repeat refine Bool.and_eq_true_iff.2 ⟨?_, ?_⟩
  all_goals first
    | with_reducible exact fc_mayEnter
    | with_reducible exact fc_lifts _ rfl
    | with_reducible exact fc_make _ rfl
    | with_reducible exact laid_
    | with_reducible exact fc_maps
    | with_reducible exact fc_heard
    | as_aux_lemma => kernel_rfl
theorem lawJournal_holds : Rows.FnJournalSaid :=
  OpenClaim.holds_of_wide 20 Try.f20 rfl rfl rfl rfl rfl rfl rfl ⟨rfl, rfl, rfl, rfl, rfl⟩ rfl rfl rfl rfl rfl (by as_aux_lemma => kernel_rfl) Try.func20 lawJournal_closed
    (of_decide_eq_true (by as_aux_lemma => kernel_rfl)) (by unfold Func.isWrapper; rw [if_neg (of_decide_eq_false (by as_aux_lemma => kernel_rfl))]; exact ⟨rfl, rfl⟩)
    (fun os started H enc _ => lawJournal_lifted os started H enc)
end Go.Proofs.Ythmajaeekkbnnaa
