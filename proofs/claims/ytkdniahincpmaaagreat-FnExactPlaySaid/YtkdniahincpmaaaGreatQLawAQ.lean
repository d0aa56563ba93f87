/-
  The law FnExactPlay: the program's Play returns what the reference's returns, for all arguments.
-/
import Derived.Test.YtkdniahincpmaaaGreatQB43
import Derived.Test.YtkdniahincpmaaaGreatQFacts
import Derived.Test.YtkdniahincpmaaaGreatRows
set_option maxRecDepth 100000
set_option maxHeartbeats 16000000
namespace Go.Proofs.YtkdniahincpmaaaGreat
open Go Go.RowKit Go.ChangeShapes Go.WideShapes
attribute [local irreducible] AWp QM OpOk ACalls
theorem lawPlay_lifted(os:Os)(started:os.Started)(H:Type)(enc:TypeId×Value->H) :
  ReturnsInHanded {} Tryz.checked os 6 .any (Rows.fnExactPlaySpec.pre6 enc Tryz.prog Tryz.f6 Rows.fnExactPlayRow.domain false) (Rows.fnExactPlaySpec.post enc Tryz.prog Tryz.f6 false true false false):=by
 refine returnsInHanded_of_change (C:=Tryz.checked) own_ started (by kernel_rfl) Tryz.func6 (ChangeSpec.witness6 (enc:=enc) (C:=Tryz.checked) false ⟨#[],#[.agg #[.bool false,.slice none 0 0,.slice none 0 0,.slice none 0 0,.int .i64 0,.int .i64 0,.int .i64 0,.int .i64 0,.int .i64 0,.slice none 0 0,.slice none 0 0,.slice none 0 0,.slice none 0 0,.slice none 0 0,.slice none 0 0,.int .i64 0,.int .i64 0,.int .i64 0,.int .i64 0,.int .i64 0,.slice none 0 0,.slice none 0 0,.slice none 0 0,.slice none 0 0,.slice none 0 0,.slice none 0 0,.int .i64 0,.int .i64 0,.int .i64 0,.int .i64 0,.int .i64 0,.slice none 0 0,.slice none 0 0,.slice none 0 0,.slice none 0 0,.int .i64 0,.int .i64 0,.slice none 0 0,.slice none 0 0],.slice none 0 0],[]⟩ 8 (by kernel_rfl) (by kernel_rfl) (by kernel_rfl) (by kernel_rfl)) ?_
 intro W base args ds gs before hval0 hW _ _
 have hval:∀(j:Nat) t v,Tryz.f6.params[j]?=some t->args[j]?=some v->Value.okWide Tryz.prog W .any base t v:=hval0
 have hW':DataW.Whole enc Tryz.prog Tryz.f6.params.toList Rows.fnExactPlaySpec.vars false W args.toList ds gs before:=hW
 obtain⟨pp,qq,hA0,_,_,_,_⟩:=hW
 have hA:DataW.TrodAll enc Tryz.prog W 0 (fun _=>true) true Tryz.f6.params.toList args.toList ds pp:=hA0
 rw[Tryz.params6]at hA hval
 obtain⟨v0,vs0,d0,ds0,p0,q0,hargs,hds,_,h0,r0⟩:=trodAll_cons hA
 obtain⟨v1,vs1,d1,ds1,p1,q1,hvs,hds0,_,h1,r1⟩:=trodAll_cons r0
 obtain⟨hvs1,hds1,_⟩:=trodAll_nil r1
 have hds:ds=[d0,d1]:=by rw[hds,hds0,hds1]
 obtain rfl:args=#[v0,v1]:=by cases args;simp_all
 obtain⟨ds',F,g1,g2,g3,_,g4,_⟩:=law_arg 39 (X:=⟨Tryz.prog,W,_,NoZ,NoB,tt⟩) (ti:=ti84) rfl rfl (hval 0 _ v0 rfl rfl) h0
 obtain⟨cs,rfl⟩:=g4 rfl
 obtain⟨w,rfl,hsm⟩:=QrW g3
 obtain⟨_,F2,k1,k2,k3,_,_,k4⟩:=law_arg 39 (X:=⟨Tryz.prog,W,_,NoZ,NoB,tt⟩) (ti:=ti85) rfl rfl (hval 1 _ v1 rfl rfl) h1
 obtain⟨es,rfl,hl,hq⟩:=k3
 obtain⟨l,rfl,_⟩:=Qao (f:=Qo9) (p:=fun _=>True) (es:=es) fun q hq'=>by
  obtain⟨x,rfl⟩:=QuU (hq q hq')
  exact⟨x,rfl,trivial⟩
 rw[Xar]at hl
 refine(law_of (lawPlay_e (w:=w) (l:=l) hsm hl) ⟨.agg cs,[v1],rfl,QvZ g1 g2,v1,[],rfl,Qv2 k1 k2 (k4 rfl),rfl⟩).mono fun e W' ⟨he,hb⟩=>⟨_,he,?_⟩
 exact law_post Qyb rfl rfl Tryz.underlying4 (by kernel_rfl) (by rw[hds];rfl) hW' hb
theorem lawPlay_closed:joinedFacts Tryz.prog 6 Tryz.f6 Rows.fnExactPlaySpec Rows.fnExactPlayRow=true:=by
 unfold joinedFacts
 repeat refine Bool.and_eq_true_iff.2 ⟨?_,?_⟩
 all_goals first
  | with_reducible exact Qks
  | with_reducible exact Qr4 _ rfl
  | with_reducible exact Qvk _ rfl
  | with_reducible exact Qyb
  | with_reducible exact Qv3
  | with_reducible exact QtZ
  | as_aux_lemma=>kernel_rfl
theorem lawPlay_holds:Rows.FnExactPlaySaid:=
 OpenClaim.holds_of_wide 6 Tryz.f6 rfl rfl rfl rfl rfl rfl rfl ⟨rfl,rfl,rfl,rfl,rfl⟩ rfl rfl rfl rfl rfl (by as_aux_lemma=>kernel_rfl) Tryz.func6 lawPlay_closed
  (of_decide_eq_true (by as_aux_lemma=>kernel_rfl)) (by unfold Func.isWrapper;rw[if_neg (of_decide_eq_false (by as_aux_lemma=>kernel_rfl))];exact⟨rfl,rfl⟩)
  (fun os started H enc _=>lawPlay_lifted os started H enc)
end Go.Proofs.YtkdniahincpmaaaGreat
