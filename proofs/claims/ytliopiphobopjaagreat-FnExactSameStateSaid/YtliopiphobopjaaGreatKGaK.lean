/-
  Profiles: taking, both.
-/
import Derived.Test.YtliopiphobopjaaGreatKSh
import Derived.Test.YtliopiphobopjaaGreatKGaL
set_option maxRecDepth 100000
set_option maxHeartbeats 16000000
namespace Go.Proofs.YtliopiphobopjaaGreat
open Go Go.RowKit
attribute [local irreducible] AWp OpsOk OpOk ACalls ChA QsOk MCalls EnC PY

theorem takeP_f {l : List Pt} {a b : Int} {v : V3} (h : profOkB l = false ∨ spanB a b = false ∨ vecOkB v = false) : takeP l a b v = none := by
  unfold takeP
  rw [if_neg]
  rcases h with h | h | h <;> simp [h]
theorem takeP_t {l : List Pt} {a b : Int} {v : V3} (h1 : profOkB l = true) (h2 : spanB a b = true) (h3 : vecOkB v = true) : takeP l a b v = chgP l a b (fun x => subO x v) := by
  unfold takeP
  rw [if_pos]
  simp [h1, h2, h3]
theorem profTake_e {l : List Pt} {a b : Int} {v : V3} (hl : l.length ≤ 1000000000) : DC Tryz.prog 198 [profA l, .d (.n .i64 a), .d (.n .i64 b), vecA v] (resP (takeP l a b v)) := by
  refine mcalls_of tt Tryz.func198 rfl rfl rfl trivial (fun _ _ => ⟨trivial, trivial⟩) (fun w0 Z O => ?_)
  have c1 := profOk_e hl
  have c2 := isSpan_e (a := a) (b := b)
  have c3 := vecOk_e (v := v)
  cases h1 : profOkB l with
  | false =>
    rw [h1] at c1
    rw [takeP_f (.inl h1)]
    repeat' (first|refine zsr ?_|(refine zhm fun hb=>?_;try first|omega|exact absurd rfl hb)|refine zgc ?_ ?_|refine zgx ?_ ?_|(apply op_id;first|refine kc (c1) rfl rfl ?_|refine zgq ?_)|(apply q_id;first|refine zk23 rfl ?_))
    show AWp _ _ _ _
    refine awp_dena ?_
    apply awp_ret'
    refine zm () [] trivial ?_ ?_ ?_
    repeat'(first|apply And.intro|exact zeb|refine zec ?_|exact zen|refine zeo ?_|exact zel|refine zem ?_|exact zep|refine zeq1 ?_|refine zea ?_|refine zei ?_ ?_|refine zex ?_|refine zca (hv := ?_)|refine zcb (hv := ?_)|exact rfl|trivial)
    all_goals exact Stop.mk rfl
  | true =>
    rw [h1] at c1
    cases h2 : spanB a b with
    | false =>
      rw [h2] at c2
      rw [takeP_f (.inr (.inl h2))]
      repeat' (first|refine zsr ?_|(refine zhm fun hb=>?_;try first|omega|exact absurd rfl hb)|refine zgc ?_ ?_|refine zgx ?_ ?_|(apply op_id;first|refine kc (c1) rfl rfl ?_|refine kc (c2) rfl rfl ?_|refine zgq ?_)|(apply q_id;first|refine zk23 rfl ?_))
      show AWp _ _ _ _
      refine awp_dena ?_
      apply awp_ret'
      refine zm () [] trivial ?_ ?_ ?_
      repeat'(first|apply And.intro|exact zeb|refine zec ?_|exact zen|refine zeo ?_|exact zel|refine zem ?_|exact zep|refine zeq1 ?_|refine zea ?_|refine zei ?_ ?_|refine zex ?_|refine zca (hv := ?_)|refine zcb (hv := ?_)|exact rfl|trivial)
      all_goals exact Stop.mk rfl
    | true =>
      rw [h2] at c2
      cases h3 : vecOkB v with
      | false =>
        rw [h3] at c3
        rw [takeP_f (.inr (.inr h3))]
        repeat' (first|refine zsr ?_|(refine zhm fun hb=>?_;try first|omega|exact absurd rfl hb)|refine zgc ?_ ?_|refine zgx ?_ ?_|(apply op_id;first|refine kc (c1) rfl rfl ?_|refine kc (c2) rfl rfl ?_|refine kc (c3) rfl rfl ?_|refine zgq ?_)|(apply q_id;first|refine zk23 rfl ?_))
        show AWp _ _ _ _
        refine awp_dena ?_
        apply awp_ret'
        refine zm () [] trivial ?_ ?_ ?_
        repeat'(first|apply And.intro|exact zeb|refine zec ?_|exact zen|refine zeo ?_|exact zel|refine zem ?_|exact zep|refine zeq1 ?_|refine zea ?_|refine zei ?_ ?_|refine zex ?_|refine zca (hv := ?_)|refine zcb (hv := ?_)|exact rfl|trivial)
        all_goals exact Stop.mk rfl
      | true =>
        rw [h3] at c3
        rw [takeP_t h1 h2 h3]
        have hch := changed_e (a := a) (b := b) (g := 244) (ds := [.n .i64 v.a, .n .i64 v.b, .n .i64 v.c]) (by' := fun x => subO x v) (profOkB_t.1 h1) (fun x hx => takeClo_e h3 hx)
        repeat' (first|refine zsr ?_|(refine zhm fun hb=>?_;try first|omega|exact absurd rfl hb)|refine zgc ?_ ?_|refine zgx ?_ ?_|(apply op_id;first|(refine opok_fzb 7 rfl rfl ?_;refine st_callm [] hch rfl rfl rfl rfl rfl (fun _ _ => rfl) rfl (fun i hi => ?_))|refine kc (c1) rfl rfl ?_|refine kc (c2) rfl rfl ?_|refine kc (c3) rfl rfl ?_|refine zgq ?_)|(apply q_id;first|refine zk23 rfl ?_))
        show AWp _ _ _ _
        refine awp_dena ?_
        apply awp_ret'
        refine zm () [] trivial ?_ ?_ ?_
        repeat'(first|apply And.intro|exact zeb|refine zec ?_|exact zen|refine zeo ?_|exact zel|refine zem ?_|exact zep|refine zeq1 ?_|refine zea ?_|refine zei ?_ ?_|refine zex ?_|refine zca (hv := ?_)|refine zcb (hv := ?_)|exact rfl|trivial)
        all_goals exact Stop.mk rfl
theorem profTake_s {l : List Pt} {a b : Int} {v : V3} (hl : l.length ≤ 1000000000) : DC Tryz.prog 233 [profA l, .d (.n .i64 a), .d (.n .i64 b), vecA v] (resP (takeP l a b v)) := by
  refine mcalls_of tt Tryz.func233 rfl rfl rfl trivial (fun _ _ => ⟨trivial, trivial⟩) (fun w0 Z O => ?_)
  have c1 := profMin_s (a := a) (b := b) hl
  cases h : (profOkB l && spanB a b) with
  | false =>
    rw [h] at c1
    rw [takeP_f (by cases e : profOkB l with | false => exact .inl rfl | true => rw [e] at h; exact .inr (.inl h))]
    repeat' (first|refine zsr ?_|(refine zhm fun hb=>?_;try first|omega|exact absurd rfl hb)|refine zgc ?_ ?_|refine zgx ?_ ?_|(apply op_id;first|refine kc (c1) rfl rfl ?_|refine zgq ?_)|(apply q_id;first|refine zk23 rfl ?_))
    show AWp _ _ _ _
    refine awp_dena ?_
    apply awp_ret'
    refine zm () [] trivial ?_ ?_ ?_
    repeat'(first|apply And.intro|exact zeb|refine zec ?_|exact zen|refine zeo ?_|exact zel|refine zem ?_|exact zep|refine zeq1 ?_|refine zea ?_|refine zei ?_ ?_|refine zex ?_|refine zca (hv := ?_)|refine zcb (hv := ?_)|exact rfl|trivial)
    all_goals exact Stop.mk rfl
  | true =>
    rw [h] at c1
    rw [Bool.and_eq_true] at h
    have hch := l03Change_s (a := a) (b := b) (v := v) (profOkB_t.1 h.1) h.2
    rw [show takeP l a b v = chgP l a b (fun x => subO x v) by
      cases h3 : vecOkB v with
      | false => rw [takeP_f (.inr (.inr h3)), chgP, takeP_no (profOkB_t.1 h.1) h.2 h3]; rfl
      | true => exact takeP_t h.1 h.2 h3]
    repeat' (first|refine zsr ?_|(refine zhm fun hb=>?_;try first|omega|exact absurd rfl hb)|refine zgc ?_ ?_|refine zgx ?_ ?_|(apply op_id;first|refine kc (c1) rfl rfl ?_|(refine km [] (hch) rfl rfl (fun i hi => ?_);(try dsimp only at hi))|refine zgq ?_)|(apply q_id;first|refine zk23 rfl ?_))
    show AWp _ _ _ _
    refine awp_dena ?_
    apply awp_ret'
    refine zm () [] trivial ?_ ?_ ?_
    repeat'(first|apply And.intro|exact zeb|refine zec ?_|exact zen|refine zeo ?_|exact zel|refine zem ?_|exact zep|refine zeq1 ?_|refine zea ?_|refine zei ?_ ?_|refine zex ?_|refine zca (hv := ?_)|refine zcb (hv := ?_)|exact rfl|trivial)
    all_goals exact Stop.mk rfl
end Go.Proofs.YtliopiphobopjaaGreat
