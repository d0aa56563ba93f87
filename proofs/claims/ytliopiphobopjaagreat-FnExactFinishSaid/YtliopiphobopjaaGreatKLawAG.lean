/-
  The law FnExactFinish: the program's Finish returns what the reference's returns, for all arguments.
-/
import Derived.Test.YtliopiphobopjaaGreatKFiL
import Derived.Test.YtliopiphobopjaaGreatKB24
import Derived.Test.YtliopiphobopjaaGreatKFacts
import Derived.Test.YtliopiphobopjaaGreatRows
set_option maxRecDepth 100000
set_option maxHeartbeats 16000000
namespace Go.Proofs.YtliopiphobopjaaGreat
open Go Go.RowKit Go.ChangeShapes Go.WideShapes
attribute [local irreducible] AWp OpsOk OpOk ACalls
theorem lawFinish_lifted (os : Os) (started : os.Started) (H : Type) (enc : TypeId × Value → H) :
  ReturnsInHanded {} Tryz.checked os 15 .any (Rows.fnExactFinishSpec.pre6 enc Tryz.prog Tryz.f15 Rows.fnExactFinishRow.domain false) (Rows.fnExactFinishSpec.post enc Tryz.prog Tryz.f15 false true false false) := by
 refine returnsInHanded_of_change (C := Tryz.checked) own_ started (by kernel_rfl) Tryz.func15 (ChangeSpec.witness6 (enc := enc) (C := Tryz.checked) false ⟨#[], #[.agg #[.slice none 0 0, .slice none 0 0, .slice none 0 0, .int .i64 0, .int .i64 0, .int .i64 0, .int .i64 0, .int .i64 0, .slice none 0 0, .slice none 0 0, .slice none 0 0], .int .i64 0, .int .i64 0], []⟩ 8 (by kernel_rfl) (by kernel_rfl) (by kernel_rfl) (by kernel_rfl)) ?_
 intro W base args ds gs before hval0 hW _ _
 have hval : ∀ (j : Nat) t v, Tryz.f15.params[j]? = some t → args[j]? = some v → Value.okWide Tryz.prog W .any base t v := hval0
 have hW' : DataW.Whole enc Tryz.prog Tryz.f15.params.toList Rows.fnExactFinishSpec.vars false W args.toList ds gs before := hW
 obtain ⟨pp, qq, hA0, _, _, _, _⟩ := hW
 have hA : DataW.TrodAll enc Tryz.prog W 0 (fun _ => true) true Tryz.f15.params.toList args.toList ds pp := hA0
 rw [Tryz.params15] at hA hval
 obtain ⟨v0, vs0, d0, ds0, p0, q0, hargs, hds, _, h0, r0⟩ := trodAll_cons hA
 obtain ⟨v1, vs1, d1, ds1, p1, q1, hvs, hds0, _, h1, r1⟩ := trodAll_cons r0
 obtain ⟨v2, vs2, d2, ds2, p2, q2, hvs1, hds1, _, h2, r2⟩ := trodAll_cons r1
 obtain ⟨hvs2, hds2, _⟩ := trodAll_nil r2
 have hds : ds = [d0, d1, d2] := by rw [hds, hds0, hds1, hds2]
 obtain rfl : args = #[v0, v1, v2] := by cases args; simp_all
 obtain ⟨ds', F, g1, g2, g3, _, g4, _⟩ := law_arg 39 (X := ⟨Tryz.prog, W, _, NoZ, NoB, tt⟩) (ti := ti33) rfl rfl (hval 0 _ v0 rfl rfl) h0
 obtain ⟨cs, rfl⟩ := g4 rfl
 obtain ⟨s, rfl, hsm⟩ := state_of g3
 obtain ⟨_, F2, k1, k2, k3, _, _, k4⟩ := law_arg 39 (X := ⟨Tryz.prog, W, _, NoZ, NoB, tt⟩) (ti := ti3) rfl rfl (hval 1 _ v1 rfl rfl) h1
 obtain ⟨t, rfl, _⟩ := k3
 obtain ⟨_, F3, m1, m2, m3, _, _, m4⟩ := law_arg 39 (X := ⟨Tryz.prog, W, _, NoZ, NoB, tt⟩) (ti := ti3) rfl rfl (hval 2 _ v2 rfl rfl) h2
 obtain ⟨y, rfl, _⟩ := m3
 refine (law_of (lawFinish_e (s := s) (id := t) (why := y) hsm) ⟨.agg cs, [v1, v2], rfl, arg_agg g1 g2, v1, [v2], rfl, arg_one k1 k2 (k4 rfl), v2, [], rfl, arg_one m1 m2 (m4 rfl), rfl⟩).mono fun e W' ⟨he, hb⟩ => ⟨_, he, ?_⟩
 exact law_post laid_ rfl rfl Tryz.underlying4 (by kernel_rfl) (by rw [hds]; rfl) hW' hb
theorem lawFinish_closed : joinedFacts Tryz.prog 15 Tryz.f15 Rows.fnExactFinishSpec Rows.fnExactFinishRow = true := by
 unfold joinedFacts
 repeat refine Bool.and_eq_true_iff.2 ⟨?_, ?_⟩
 all_goals first
  | with_reducible exact fc_mayEnter
  | with_reducible exact fc_lifts _ rfl
  | with_reducible exact fc_make _ rfl
  | with_reducible exact laid_
  | with_reducible exact fc_maps
  | with_reducible exact fc_heard
  | as_aux_lemma => kernel_rfl
theorem lawFinish_holds : Rows.FnExactFinishSaid :=
 OpenClaim.holds_of_wide 15 Tryz.f15 rfl rfl rfl rfl rfl rfl rfl ⟨rfl, rfl, rfl, rfl, rfl⟩ rfl rfl rfl rfl rfl (by as_aux_lemma => kernel_rfl) Tryz.func15 lawFinish_closed
  (of_decide_eq_true (by as_aux_lemma => kernel_rfl)) (by unfold Func.isWrapper; rw [if_neg (of_decide_eq_false (by as_aux_lemma => kernel_rfl))]; exact ⟨rfl, rfl⟩)
  (fun os started H enc _ => lawFinish_lifted os started H enc)
end Go.Proofs.YtliopiphobopjaaGreat
