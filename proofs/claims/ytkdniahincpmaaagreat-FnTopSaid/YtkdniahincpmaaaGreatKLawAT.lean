/-
  The law FnTop: the machine is found again and nothing is used beyond what there is, whatever is drawn.
-/
import Derived.Test.YtkdniahincpmaaaGreatKTpL
import Derived.Test.YtkdniahincpmaaaGreatKFacts
import Derived.Test.YtkdniahincpmaaaGreatRows
set_option maxRecDepth 100000
set_option maxHeartbeats 16000000
namespace Go.Proofs.YtkdniahincpmaaaGreat
open Go Go.RowKit Go.ChangeShapes Go.WideShapes
attribute [local irreducible] AWp QI OpOk ACalls
theorem lawTop_lifted(os:Os)(started:os.Started)(H:Type)(enc:TypeId×Value->H) :
  ReturnsInHanded {} Tryz.checked os 4 .any (Rows.fnTopSpec.pre6 enc Tryz.prog Tryz.f4 Rows.fnTopRow.domain false) (Rows.fnTopSpec.post enc Tryz.prog Tryz.f4 false true false false):=by
 refine returnsInHanded_of_change (C:=Tryz.checked) own_ started (by kernel_rfl) Tryz.func4 (ChangeSpec.witness6 (enc:=enc) (C:=Tryz.checked) false ⟨#[],#[.slice none 0 0],[]⟩ 8 (by kernel_rfl) (by kernel_rfl) (by kernel_rfl) (by kernel_rfl)) ?_
 intro W base args ds gs before hval0 hW _ _
 have hval:∀(j:Nat) t v,Tryz.f4.params[j]?=some t->args[j]?=some v->Value.okWide Tryz.prog W .any base t v:=hval0
 have hW':DataW.Whole enc Tryz.prog Tryz.f4.params.toList Rows.fnTopSpec.vars false W args.toList ds gs before:=hW
 obtain⟨pp,qq,hA0,_,_,_,_⟩:=hW
 have hA:DataW.TrodAll enc Tryz.prog W 0 (fun _=>true) true Tryz.f4.params.toList args.toList ds pp:=hA0
 rw[Tryz.params4]at hA hval
 obtain⟨v0,vs0,d0,ds0,p0,q0,hargs,hds,_,h0,r0⟩:=trodAll_cons hA
 obtain⟨hvs,hds0,_⟩:=trodAll_nil r0
 have hds:ds=[d0]:=by rw[hds,hds0]
 obtain rfl:args=#[v0]:=by cases args;simp_all
 obtain⟨ds',F,g1,g2,g3,_,_,g4⟩:=law_arg 39 (X:=⟨Tryz.prog,W,_,NoZ,NoB,tt⟩) (ti:=ti22) rfl rfl (hval 0 _ v0 rfl rfl) h0
 obtain⟨es,rfl,_,hq⟩:=g3
 obtain⟨b,rfl⟩:=QhO hq
 refine(law_of lawTop_e ⟨v0,[],rfl,QjX g1 g2 (g4 rfl),rfl⟩).mono fun e W' ⟨he,hb⟩=>⟨_,he,?_⟩
 exact law_post Qod rfl rfl Tryz.underlying4 (by kernel_rfl) (by rw[hds];rfl) hW' hb
theorem lawTop_closed:joinedFacts Tryz.prog 4 Tryz.f4 Rows.fnTopSpec Rows.fnTopRow=true:=by
 unfold joinedFacts
 repeat refine Xct.2 ⟨?_,?_⟩
 all_goals first
  | with_reducible exact QaU
  | with_reducible exact QhL _ rfl
  | with_reducible exact QjY _ rfl
  | with_reducible exact Qod
  | with_reducible exact Qkq
  | with_reducible exact QgX
  | as_aux_lemma=>kernel_rfl
theorem lawTop_holds:Rows.FnTopSaid:=
 OpenClaim.holds_of_wide 4 Tryz.f4 rfl rfl rfl rfl rfl rfl rfl ⟨rfl,rfl,rfl,rfl,rfl⟩ rfl rfl rfl rfl rfl (by as_aux_lemma=>kernel_rfl) Tryz.func4 lawTop_closed
  (of_decide_eq_true (by as_aux_lemma=>kernel_rfl)) (by unfold Func.isWrapper;rw[if_neg (of_decide_eq_false (by as_aux_lemma=>kernel_rfl))];exact⟨rfl,rfl⟩)
  (fun os started H enc _=>lawTop_lifted os started H enc)
end Go.Proofs.YtkdniahincpmaaaGreat
