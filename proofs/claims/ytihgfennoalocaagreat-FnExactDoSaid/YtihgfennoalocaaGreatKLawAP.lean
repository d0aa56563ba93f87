/-
  The law FnExactDo: the program's Do returns what the reference's returns, for all arguments.
-/
import Derived.Test.YtihgfennoalocaaGreatKDoL
import Derived.Test.YtihgfennoalocaaGreatKFacts
import Derived.Test.YtihgfennoalocaaGreatRows
set_option maxRecDepth 100000
set_option maxHeartbeats 16000000
namespace Go.Proofs.YtihgfennoalocaaGreat
open Go Go.RowKit Go.ChangeShapes Go.WideShapes
attribute [local irreducible] AWp QJ OpOk ACalls
theorem lawDo_lifted(os:Os)(started:os.Started)(H:Type)(enc:TypeId×Value->H) :
  ReturnsInHanded {} Tryz.checked os 8 .any (Rows.fnExactDoSpec.pre6 enc Tryz.prog Tryz.f8 Rows.fnExactDoRow.domain false) (Rows.fnExactDoSpec.post enc Tryz.prog Tryz.f8 false true false false):=by
 refine returnsInHanded_of_change (C:=Tryz.checked) own_ started (by kernel_rfl) Tryz.func8 (ChangeSpec.witness6 (enc:=enc) (C:=Tryz.checked) false ⟨#[],#[.agg #[.bool false,.slice none 0 0,.slice none 0 0,.slice none 0 0,.int .i64 0,.int .i64 0,.int .i64 0,.int .i64 0,.int .i64 0,.slice none 0 0,.slice none 0 0,.slice none 0 0,.slice none 0 0,.slice none 0 0,.slice none 0 0,.int .i64 0,.int .i64 0,.int .i64 0,.int .i64 0,.int .i64 0,.slice none 0 0,.slice none 0 0,.slice none 0 0,.slice none 0 0,.slice none 0 0,.slice none 0 0,.int .i64 0,.int .i64 0,.int .i64 0,.int .i64 0,.int .i64 0,.slice none 0 0,.slice none 0 0,.slice none 0 0,.slice none 0 0,.int .i64 0,.int .i64 0,.slice none 0 0,.slice none 0 0],.agg #[.int .i64 0,.int .i64 0,.int .i64 0,.int .i64 0,.int .i64 0,.int .i64 0,.int .i64 0,.int .i64 0,.int .i64 0,.int .i64 0,.int .i64 0,.int .i64 0,.int .i64 0,.int .i64 0,.int .i64 0,.int .i64 0,.int .i64 0,.int .i64 0]],[]⟩ 8 (by kernel_rfl) (by kernel_rfl) (by kernel_rfl) (by kernel_rfl)) ?_
 intro W base args ds gs before hval0 hW _ _
 have hval:∀(j:Nat) t v,Tryz.f8.params[j]?=some t->args[j]?=some v->Value.okWide Tryz.prog W .any base t v:=hval0
 have hW':DataW.Whole enc Tryz.prog Tryz.f8.params.toList Rows.fnExactDoSpec.vars false W args.toList ds gs before:=hW
 obtain⟨pp,qq,hA0,_,_,_,_⟩:=hW
 have hA:DataW.TrodAll enc Tryz.prog W 0 (fun _=>true) true Tryz.f8.params.toList args.toList ds pp:=hA0
 rw[Tryz.params8]at hA hval
 obtain⟨v0,vs0,d0,ds0,p0,q0,hargs,hds,_,h0,r0⟩:=trodAll_cons hA
 obtain⟨v1,vs1,d1,ds1,p1,q1,hvs,hds0,_,h1,r1⟩:=trodAll_cons r0
 obtain⟨hvs1,hds1,_⟩:=trodAll_nil r1
 have hds:ds=[d0,d1]:=by rw[hds,hds0,hds1]
 obtain rfl:args=#[v0,v1]:=by cases args;simp_all
 obtain⟨ds',F,g1,g2,g3,_,g4,_⟩:=law_arg 39 (X:=⟨Tryz.prog,W,_,NoZ,NoB,tt⟩) (ti:=ti57) rfl rfl (hval 0 _ v0 rfl rfl) h0
 obtain⟨cs,rfl⟩:=g4 rfl
 obtain⟨w,rfl,hsm⟩:=Qq9 g3
 obtain⟨_,F2,k1,k2,k3,_,k5,_⟩:=law_arg 39 (X:=⟨Tryz.prog,W,_,NoZ,NoB,tt⟩) (ti:=ti91) rfl rfl (hval 1 _ v1 rfl rfl) h1
 obtain⟨cs2,rfl⟩:=k5 rfl
 obtain⟨x,rfl⟩:=Qwe k3
 refine(law_of (lawDo_e (w:=w) (x:=x) hsm) ⟨.agg cs,[.agg cs2],rfl,Qc5 g1 g2,.agg cs2,[],rfl,Qc5 k1 k2,rfl⟩).mono fun e W' ⟨he,hb⟩=>⟨_,he,?_⟩
 exact law_post QgJ rfl rfl Tryz.underlying4 (by kernel_rfl) (by rw[hds];rfl) hW' hb
theorem lawDo_closed:joinedFacts Tryz.prog 8 Tryz.f8 Rows.fnExactDoSpec Rows.fnExactDoRow=true:=by
 unfold joinedFacts
 repeat refine Xb2.2 ⟨?_,?_⟩
 all_goals first
  | with_reducible exact V4
  | with_reducible exact Qcr _ rfl
  | with_reducible exact Qf6 _ rfl
  | with_reducible exact QgJ
  | with_reducible exact QfB
  | with_reducible exact Qb7
  | as_aux_lemma=>kernel_rfl
theorem lawDo_holds:Rows.FnExactDoSaid:=
 OpenClaim.holds_of_wide 8 Tryz.f8 rfl rfl rfl rfl rfl rfl rfl ⟨rfl,rfl,rfl,rfl,rfl⟩ rfl rfl rfl rfl rfl (by as_aux_lemma=>kernel_rfl) Tryz.func8 lawDo_closed
  (of_decide_eq_true (by as_aux_lemma=>kernel_rfl)) (by unfold Func.isWrapper;rw[if_neg (of_decide_eq_false (by as_aux_lemma=>kernel_rfl))];exact⟨rfl,rfl⟩)
  (fun os started H enc _=>lawDo_lifted os started H enc)
end Go.Proofs.YtihgfennoalocaaGreat
