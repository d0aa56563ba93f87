/-
  Profiles: what is free least, a change, taking; both.
-/
import Derived.Test.YtliopiphobopjaaGreatKSh
import Derived.Test.YtliopiphobopjaaGreatKB8
set_option maxRecDepth 100000
set_option maxHeartbeats 16000000
namespace Go.Proofs.YtliopiphobopjaaGreat
open Go Go.RowKit
attribute [local irreducible] AWp OpsOk OpOk ACalls ChA QsOk MCalls EnC PY

/-! ### The least, the reference's -/
def leastS (l : List Pt) (a b : Int) : V3 := l.foldl (fun v x => if a ≤ x.at' ∧ x.at' < b then minO v x.free else v) (freeP l a)
def leastF (l : List Pt) (a b : Int) (v0 : V3) : V3 := l.foldl (fun v x => if a ≤ x.at' ∧ x.at' < b then minO v x.free else v) v0
theorem leastF_step {l : List Pt} {i : Nat} (h : i < l.length) (a b : Int) (v0 : V3) : leastF (l.take (i + 1)) a b v0 = if a ≤ (nth l i).at' ∧ (nth l i).at' < b then minO (leastF (l.take i) a b v0) (nth l i).free else leastF (l.take i) a b v0 := by
  rw [take_snoc h, leastF, List.foldl_append]
  rfl
@[reducible] def minR (ok : Bool) (v : V3) : List AV := [vecA (bif ok then v else zV), .d (.b ok)]
theorem profMin_s {l : List Pt} {a b : Int} (hl : l.length ≤ 1000000000) : ACalls Tryz.prog 256 [profA l, .d (.n .i64 a), .d (.n .i64 b)] (minR (profOkB l && spanB a b) (leastS l a b)) [] := by
  refine acalls_of tt Tryz.func256 rfl rfl rfl (fun w0 Z => ?_)
  have hpl : (ptE l).length = l.length := ptE_length l
  cases hb0 : (profOkB l && spanB a b) with
  | false =>
    have hcs := profOk_s hl
    cases hp : profOkB l with
    | false =>
      rw [hp] at hcs
      repeat' (first|refine zst ?_|(refine zhm fun hb=>?_;try first|omega|exact absurd rfl hb)|refine zgc ?_ ?_|refine zgx ?_ ?_|(apply op_id;first|refine zk45 rfl ?_|refine zk46 rfl ?_|refine kc (hcs) rfl rfl ?_|refine zgq ?_)|(apply q_id;first|refine zk0 ?_|refine zk5 ?_|refine zk11 ?_|refine zk12 (fun _ => ?_)|refine zk13 rfl rfl rfl ?_|refine zk14 ?_|refine zk19 ?_|refine zk23 rfl ?_|refine zk31 ?_|refine zk32 rfl rfl rfl ?_|refine zk33 rfl ?_|refine zk34 rfl ?_))
      refine zr [] ?_ ?_
      repeat'(first|apply And.intro|exact zeb|refine zec ?_|exact zen|refine zeo ?_|exact zel|refine zem ?_|exact zep|refine zeq1 ?_|refine zea ?_|refine zei ?_ ?_|refine zex ?_|refine zca (hv := ?_)|refine zcb (hv := ?_)|exact rfl|trivial)
      all_goals exact Stop.mk rfl
    | true =>
      rw [hp] at hcs
      rw [hp, Bool.true_and] at hb0
      have hsp : ¬ ((0 ≤ a ∧ a ≤ 1000000000) ∧ (0 ≤ b ∧ b ≤ 1000000000) ∧ a < b) := fun h => by rw [spanB_iff.2 h] at hb0; cases hb0
      repeat' (first|refine zst ?_|(refine zhm fun hb=>?_;try first|omega|exact absurd rfl hb)|refine zgc ?_ ?_|refine zgx ?_ ?_|(apply op_id;first|refine zk45 rfl ?_|refine zk46 rfl ?_|refine kc (hcs) rfl rfl ?_|refine kc (time_s (x := a)) rfl rfl ?_|refine kc (time_s (x := b)) rfl rfl ?_|refine zgq ?_)|(apply q_id;first|refine zk0 ?_|refine zk5 ?_|refine zk11 ?_|refine zk12 (fun _ => ?_)|refine zk13 rfl rfl rfl ?_|refine zk14 ?_|refine zk19 ?_|refine zk23 rfl ?_|refine zk31 ?_|refine zk32 rfl rfl rfl ?_|refine zk33 rfl ?_|refine zk34 rfl ?_))
      all_goals
        refine zr [] ?_ ?_
        repeat'(first|apply And.intro|exact zeb|refine zec ?_|exact zen|refine zeo ?_|exact zel|refine zem ?_|exact zep|refine zeq1 ?_|refine zea ?_|refine zei ?_ ?_|refine zex ?_|refine zca (hv := ?_)|refine zcb (hv := ?_)|exact rfl|trivial)
        all_goals exact Stop.mk rfl
  | true =>
    rw [Bool.and_eq_true] at hb0
    have hcs := profOk_s hl
    rw [hb0.1] at hcs
    obtain ⟨h1, h2, h3⟩ := spanB_iff.1 hb0.2
    repeat' (first|refine zst ?_|(refine zhm fun hb=>?_;try first|omega|exact absurd rfl hb)|refine zgc ?_ ?_|refine zgx ?_ ?_|(apply op_id;first|refine zk45 rfl ?_|refine zk46 rfl ?_|refine kc (hcs) rfl rfl ?_|refine kc (time_s (x := a)) rfl rfl ?_|refine kc (time_s (x := b)) rfl rfl ?_|refine kc (l03At_s hl) rfl rfl ?_|refine zgq ?_)|(apply q_id;first|refine zk0 ?_|refine zk5 ?_|refine zk11 ?_|refine zk12 (fun _ => ?_)|refine zk13 rfl rfl rfl ?_|refine zk14 ?_|refine zk19 ?_|refine zk23 rfl ?_|refine zk31 ?_|refine zk32 rfl rfl rfl ?_|refine zk33 rfl ?_|refine zk34 rfl ?_))
    refine awp_loop (fun (i : Nat) => ⟨56, [(1, .d (.n .i64 a)), (2, .d (.n .i64 b)), (6, .ptr 6 0), (8, .ptr 8 0), (34, .d (.sl (ptE l))), (35, .d (.n .i64 (l.length : Nat))), (36, .d (.n .i64 i))], [(6, .box 35 (vecC zV)), (8, .box 35 (vecC (leastF (l.take i) a b (freeP l a))))]⟩) (fun i => i ≤ l.length) (fun i => l.length - i) 0 (by exact Nat.zero_le _) ?_ ?_
    · refine ⟨rfl, ?_, ?_, rfl⟩
      repeat'(first|apply And.intro|exact zeb|refine zec ?_|exact zen|refine zeo ?_|exact zel|refine zem ?_|exact zep|refine zeq1 ?_|refine zea ?_|refine zei ?_ ?_|refine zex ?_|refine zca (hv := ?_)|refine zcb (hv := ?_)|exact rfl|trivial)
      all_goals exact Stop.mk (by first | rfl | exact ptE_length _)
    · intro i hi
      repeat' (first|refine zst ?_|(refine zhm fun hb=>?_;try first|omega|exact absurd rfl hb)|refine zgc ?_ ?_|refine zgx ?_ ?_|(apply op_id;first|refine zk45 rfl ?_|refine zk46 rfl ?_|refine kc (vecMin_s (a := leastF (l.take i) a b (freeP l a)) (b := (nth l i).free)) rfl rfl ?_|refine zgq ?_)|(apply q_id;first|refine zk0 ?_|refine zk5 ?_|refine zk11 ?_|refine zk12 (fun _ => ?_)|refine zk13 rfl rfl rfl ?_|refine zk14 ?_|refine zk19 ?_|refine zk23 rfl ?_|refine zk31 ?_|refine zk32 rfl rfl rfl ?_|refine zk33 rfl ?_|refine zk34 rfl ?_))
      · refine ⟨i + 1, by omega, by omega, ?_⟩
        refine ⟨rfl, ?_, ?_, rfl⟩
        repeat'(first|apply And.intro|exact zeb|refine zec ?_|exact zen|refine zeo ?_|exact zel|refine zem ?_|exact zep|refine zeq1 ?_|refine zea ?_|refine zei ?_ ?_|refine zex ?_|refine zca (hv := ?_)|refine zcb (hv := ?_)|exact rfl|trivial)
        all_goals exact Stop.mk (by first | rfl | (rw [leastF_step (by omega), if_pos ⟨by assumption, by assumption⟩]))
      · refine ⟨i + 1, by omega, by omega, ?_⟩
        refine ⟨rfl, ?_, ?_, rfl⟩
        repeat'(first|apply And.intro|exact zeb|refine zec ?_|exact zen|refine zeo ?_|exact zel|refine zem ?_|exact zep|refine zeq1 ?_|refine zea ?_|refine zei ?_ ?_|refine zex ?_|refine zca (hv := ?_)|refine zcb (hv := ?_)|exact rfl|trivial)
        all_goals exact Stop.mk (by first | rfl | (rw [leastF_step (by omega), if_neg (by omega)]))
      · refine ⟨i + 1, by omega, by omega, ?_⟩
        refine ⟨rfl, ?_, ?_, rfl⟩
        repeat'(first|apply And.intro|exact zeb|refine zec ?_|exact zen|refine zeo ?_|exact zel|refine zem ?_|exact zep|refine zeq1 ?_|refine zea ?_|refine zei ?_ ?_|refine zex ?_|refine zca (hv := ?_)|refine zcb (hv := ?_)|exact rfl|trivial)
        all_goals exact Stop.mk (by first | rfl | (rw [leastF_step (by omega), if_neg (by omega)]))
      · rw [show leastS l a b = leastF (l.take i) a b (freeP l a) by rw [List.take_of_length_le (by omega)]; rfl]
        refine zr [] ?_ ?_
        repeat'(first|apply And.intro|exact zeb|refine zec ?_|exact zen|refine zeo ?_|exact zel|refine zem ?_|exact zep|refine zeq1 ?_|refine zea ?_|refine zei ?_ ?_|refine zex ?_|refine zca (hv := ?_)|refine zcb (hv := ?_)|exact rfl|trivial)
        all_goals exact Stop.mk rfl
/-! ### A change, the program's -/
@[reducible] def resP (o : Option (List Pt)) : List AV := [profA (o.getD []), .d (.b o.isSome)]
theorem sub_times (L : List Int) : ((intE (cmpZ L)).take (cmpL L).length).drop 0 = intE (cmpL L) := by
  rw [List.drop_zero, intE_take, cmpZ, List.take_left]
theorem ptE_push (l : List Pt) (p : Pt) : ptE l ++ [[.n .i64 p.at', .n .i64 p.free.a, .n .i64 p.free.b, .n .i64 p.free.c]] = ptE (l ++ [p]) := by simp [ptE]
theorem ats_push {l : List Pt} {i : Nat} (h : i < l.length) (xs : List Int) : intE (xs ++ atsI (l.take i)) ++ [[.n .i64 (nth l i).at']] = intE (xs ++ atsI (l.take (i + 1))) := by
  rw [intE_push, take_snoc h]
  simp [atsI]
def pts0 (out : List Pt) : AV := match out with
  | [] => .nil
  | _ :: _ => .row 89
def ob0 (out : List Pt) : List (Nat × AO) := match out with
  | [] => []
  | _ :: _ => [(89, .row 219 (ptE out) true)]
theorem chgGo_none {l : List Pt} {a b : Int} {by' : V3 → Option V3} {ts : List Int} {i : Nat} {out : List Pt} (h : i < ts.length) (hv : chgV l a b by' (nth ts i) = none) : chgGo l a b by' (ts.drop i) out = none := by
  rw [List.drop_eq_getElem_cons h, ← nth_eq h, chgGo, hv]
theorem chgGo_some {l : List Pt} {a b : Int} {by' : V3 → Option V3} {ts : List Int} {i : Nat} {out : List Pt} {v : V3} (h : i < ts.length) (hv : chgV l a b by' (nth ts i) = some v) : chgGo l a b by' (ts.drop i) out = chgGo l a b by' (ts.drop (i + 1)) (pushP out (nth ts i) v) := by
  rw [List.drop_eq_getElem_cons h, ← nth_eq h, chgGo, hv]
theorem chgV_in {l : List Pt} {a b : Int} {by' : V3 → Option V3} {t : Int} (h : a ≤ t ∧ t < b) : chgV l a b by' t = by' (freeP l t) := if_pos h
theorem chgV_out {l : List Pt} {a b : Int} {by' : V3 → Option V3} {t : Int} (h : ¬ (a ≤ t ∧ t < b)) : chgV l a b by' t = some (freeP l t) := if_neg h
theorem opt_none {o : Option V3} (h : o.isSome = false) : o = none := by cases o with | none => rfl | some v => simp at h
theorem opt_some {o : Option V3} (h : o.isSome = true) : o = some (o.getD zV) := by cases o with | none => simp at h | some v => rfl
theorem changed_e {l : List Pt} {a b : Int} {g : FuncId} {ds : List D} {by' : V3 → Option V3} (hp : ProfOk l) (hby : ∀ v, vecOkB v = true → ACalls Tryz.prog g [vecA v, .pd ds 0] (resV (by' v)) []) :
    DC Tryz.prog 243 [profA l, .d (.n .i64 a), .d (.n .i64 b), .clo g [.pd ds 0]] (resP (chgP l a b by')) := by
  refine mcalls_of tt Tryz.func243 rfl rfl rfl trivial (fun _ _ => ⟨trivial, trivial⟩) (fun w0 Z O => ?_)
  have hl := hp.len
  have hpl : (ptE l).length = l.length := ptE_length l
  repeat' (first|refine zst ?_|(refine zhm fun hb=>?_;try first|omega|exact absurd rfl hb)|(apply awp_drawq;exact rfl;kernel_rfl;kernel_rfl;exact rfl)|(apply awp_drawx;exact rfl;kernel_rfl;exact rfl)|(apply aopQ_ok;exact rfl)|apply qs_nil|(apply ch_nil;exact rfl)|((first|(apply ch_cons;iterate 2 exact rfl)|(apply ch_yes;iterate 4 exact rfl));(iterate 2 exact rfl);(· (intro w0 Z O;first|(apply aop_ok;exact rfl)|(apply QOk.ok;first|refine zk0 ?_|refine zk1 ?_|refine zk5 ?_|refine zk6 ?_|refine zk10 ?_|refine zk11 ?_|refine zk12 (fun _ => ?_)|refine zk13 rfl rfl rfl ?_|refine zk14 ?_|refine zk19 ?_|refine zk23 rfl ?_|refine zk28 ns_ok (by kernel_rfl) ?_|refine zk29 ns_ok (by kernel_rfl) ?_|refine zk31 ?_|refine zk32 rfl rfl rfl ?_|refine zk33 rfl ?_|refine zk34 rfl ?_)|refine zk35 rfl rfl rfl ?_|refine zk36 rfl rfl rfl ?_|refine zk37 rfl rfl rfl ?_|refine zk38 rfl rfl rfl ?_|refine zk39 rfl rfl rfl ?_|refine zk40 rfl rfl rfl ?_|refine zk42 rfl rfl rfl ?_|refine zk45 rfl ?_|refine zk46 rfl ?_);exact ⟨rfl, rfl, rfl⟩);(iterate 2 exact rfl);exact zsl;exact zft;(iterate 4 exact rfl))|(apply ch_no;iterate 10 exact rfl)|(apply ch_no2;iterate 9 exact rfl)|refine zcx ?_ ?_|refine zgc ?_ ?_|refine zgx ?_ ?_|(first|(apply qs_cons;exact rfl)|(apply qs_yes;exact rfl;exact rfl;exact rfl))|refine zqx ?_ ?_|(apply op_id;first|refine zk35 rfl rfl rfl ?_|refine zk36 rfl rfl rfl ?_|refine zk37 rfl rfl rfl ?_|refine zk38 rfl rfl rfl ?_|refine zk39 rfl rfl rfl ?_|refine zk40 rfl rfl rfl ?_|refine zk42 rfl rfl rfl ?_|refine zk45 rfl ?_|refine zk46 rfl ?_|refine zgq ?_)|(apply q_id;first|refine zk0 ?_|refine zk1 ?_|refine zk5 ?_|refine zk6 ?_|refine zk10 ?_|refine zk11 ?_|refine zk12 (fun _ => ?_)|refine zk13 rfl rfl rfl ?_|refine zk14 ?_|refine zk19 ?_|refine zk23 rfl ?_|refine zk28 ns_ok (by kernel_rfl) ?_|refine zk29 ns_ok (by kernel_rfl) ?_|refine zk31 ?_|refine zk32 rfl rfl rfl ?_|refine zk33 rfl ?_|refine zk34 rfl ?_))
  refine awp_loop (fun (i : Nat) => ⟨98, [(1, .d (.n .i64 a)), (2, .d (.n .i64 b)), (3, .clo g [.pd ds 0]), (4, .ptr 4 0), (8, .ptr 8 0), (10, .row 22), (24, .d (.sl (ptE l))), (25, .d (.n .i64 (l.length : Nat))), (26, .d (.n .i64 i))], [(4, .box 150 (profC l)), (8, .box 150 [.nil]), (22, .row 3 (intE ([a, b] ++ atsI (l.take i))) true)]⟩) (fun i => i ≤ l.length) (fun i => l.length - i) 0 (by exact Nat.zero_le _) ?_ ?_
  · refine ⟨rfl, ?_, ?_, rfl⟩
    repeat'(first|apply And.intro|exact zeb|refine zec ?_|exact zen|refine zeo ?_|exact zel|refine zem ?_|exact zep|refine zeq1 ?_|refine zea ?_|refine zei ?_ ?_|refine zex ?_|refine zca (hv := ?_)|refine zcb (hv := ?_)|exact rfl|trivial)
    all_goals exact Stop.mk (by first | rfl | exact ptE_length _)
  · intro i hi
    have hil0 : ([a, b] ++ atsI (l.take i)).length = i + 2 := by simp [atsI]; omega
    have hil : (intE ([a, b] ++ atsI (l.take i))).length = i + 2 := by rw [intE_length]; exact hil0
    by_cases hi' : i < l.length
    · repeat' (first|refine zst ?_|(refine zhm fun hb=>?_;try first|omega|exact absurd rfl hb)|(apply awp_drawq;exact rfl;kernel_rfl;kernel_rfl;exact rfl)|(apply awp_drawx;exact rfl;kernel_rfl;exact rfl)|(apply aopQ_ok;exact rfl)|apply qs_nil|(apply ch_nil;exact rfl)|((first|(apply ch_cons;iterate 2 exact rfl)|(apply ch_yes;iterate 4 exact rfl));(iterate 2 exact rfl);(· (intro w0 Z O;first|(apply aop_ok;exact rfl)|(apply QOk.ok;first|refine zk0 ?_|refine zk1 ?_|refine zk5 ?_|refine zk6 ?_|refine zk10 ?_|refine zk11 ?_|refine zk12 (fun _ => ?_)|refine zk13 rfl rfl rfl ?_|refine zk14 ?_|refine zk19 ?_|refine zk23 rfl ?_|refine zk28 ns_ok (by kernel_rfl) ?_|refine zk29 ns_ok (by kernel_rfl) ?_|refine zk31 ?_|refine zk32 rfl rfl rfl ?_|refine zk33 rfl ?_|refine zk34 rfl ?_)|refine zk35 rfl rfl rfl ?_|refine zk36 rfl rfl rfl ?_|refine zk37 rfl rfl rfl ?_|refine zk38 rfl rfl rfl ?_|refine zk39 rfl rfl rfl ?_|refine zk40 rfl rfl rfl ?_|refine zk42 rfl rfl rfl ?_|refine zk45 rfl ?_|refine zk46 rfl ?_);exact ⟨rfl, rfl, rfl⟩);(iterate 2 exact rfl);exact zsl;exact zft;(iterate 4 exact rfl))|(apply ch_no;iterate 10 exact rfl)|(apply ch_no2;iterate 9 exact rfl)|refine zcx ?_ ?_|refine zgc ?_ ?_|refine zgx ?_ ?_|(first|(apply qs_cons;exact rfl)|(apply qs_yes;exact rfl;exact rfl;exact rfl))|refine zqx ?_ ?_|(apply op_id;first|refine zk35 rfl rfl rfl ?_|refine zk36 rfl rfl rfl ?_|refine zk37 rfl rfl rfl ?_|refine zk38 rfl rfl rfl ?_|refine zk39 rfl rfl rfl ?_|refine zk40 rfl rfl rfl ?_|refine zk42 rfl rfl rfl ?_|refine zk45 rfl ?_|refine zk46 rfl ?_|refine zgq ?_)|(apply q_id;first|refine zk0 ?_|refine zk1 ?_|refine zk5 ?_|refine zk6 ?_|refine zk10 ?_|refine zk11 ?_|refine zk12 (fun _ => ?_)|refine zk13 rfl rfl rfl ?_|refine zk14 ?_|refine zk19 ?_|refine zk23 rfl ?_|refine zk28 ns_ok (by kernel_rfl) ?_|refine zk29 ns_ok (by kernel_rfl) ?_|refine zk31 ?_|refine zk32 rfl rfl rfl ?_|refine zk33 rfl ?_|refine zk34 rfl ?_))
      · refine ⟨i + 1, by omega, by omega, ?_⟩
        refine ⟨rfl, ?_, ?_, rfl⟩
        repeat'(first|apply And.intro|exact zeb|refine zec ?_|exact zen|refine zeo ?_|exact zel|refine zem ?_|exact zep|refine zeq1 ?_|refine zea ?_|refine zei ?_ ?_|refine zex ?_|refine zca (hv := ?_)|refine zcb (hv := ?_)|exact rfl|trivial)
        all_goals exact Stop.mk (by first | rfl | exact ats_push hi' _)
    · rw [show l.take i = l from List.take_of_length_le (by omega)]
      have hsl : ([a, b] ++ atsI l).length ≤ 1000000000 := by simp [atsI]; omega
      have hsl2 : (srtI ([a, b] ++ atsI l)).length ≤ 1000000000 := by rw [srtI_length]; exact hsl
      repeat' (first|refine zst ?_|(refine zhm fun hb=>?_;try first|omega|exact absurd rfl hb)|(apply awp_drawq;exact rfl;kernel_rfl;kernel_rfl;exact rfl)|(apply awp_drawx;exact rfl;kernel_rfl;exact rfl)|(apply aopQ_ok;exact rfl)|apply qs_nil|(apply ch_nil;exact rfl)|((first|(apply ch_cons;iterate 2 exact rfl)|(apply ch_yes;iterate 4 exact rfl));(iterate 2 exact rfl);(· (intro w0 Z O;first|(apply aop_ok;exact rfl)|(apply QOk.ok;first|refine zk0 ?_|refine zk1 ?_|refine zk5 ?_|refine zk6 ?_|refine zk10 ?_|refine zk11 ?_|refine zk12 (fun _ => ?_)|refine zk13 rfl rfl rfl ?_|refine zk14 ?_|refine zk19 ?_|refine zk23 rfl ?_|refine zk28 ns_ok (by kernel_rfl) ?_|refine zk29 ns_ok (by kernel_rfl) ?_|refine zk31 ?_|refine zk32 rfl rfl rfl ?_|refine zk33 rfl ?_|refine zk34 rfl ?_)|refine zk35 rfl rfl rfl ?_|refine zk36 rfl rfl rfl ?_|refine zk37 rfl rfl rfl ?_|refine zk38 rfl rfl rfl ?_|refine zk39 rfl rfl rfl ?_|refine zk40 rfl rfl rfl ?_|refine zk42 rfl rfl rfl ?_|refine zk45 rfl ?_|refine zk46 rfl ?_|refine km [22] (sort_m (d := true) hsl) rfl rfl (fun i hi => ?_);(try dsimp only at hi)|refine km [22] (compact_m hsl2) rfl rfl (fun i hi => ?_);(try dsimp only at hi));exact ⟨rfl, rfl, rfl⟩);(iterate 2 exact rfl);exact zsl;exact zft;(iterate 4 exact rfl))|(apply ch_no;iterate 10 exact rfl)|(apply ch_no2;iterate 9 exact rfl)|refine zcx ?_ ?_|refine zgc ?_ ?_|refine zgx ?_ ?_|(first|(apply qs_cons;exact rfl)|(apply qs_yes;exact rfl;exact rfl;exact rfl))|refine zqx ?_ ?_|(apply op_id;first|refine zk35 rfl rfl rfl ?_|refine zk36 rfl rfl rfl ?_|refine zk37 rfl rfl rfl ?_|refine zk38 rfl rfl rfl ?_|refine zk39 rfl rfl rfl ?_|refine zk40 rfl rfl rfl ?_|refine zk42 rfl rfl rfl ?_|refine zk45 rfl ?_|refine zk46 rfl ?_|(refine km [22] (sort_m (d := true) hsl) rfl rfl (fun i hi => ?_);(try dsimp only at hi))|(refine km [22] (compact_m hsl2) rfl rfl (fun i hi => ?_);(try dsimp only at hi))|refine zgq ?_)|(apply q_id;first|refine zk0 ?_|refine zk1 ?_|refine zk5 ?_|refine zk6 ?_|refine zk10 ?_|refine zk11 ?_|refine zk12 (fun _ => ?_)|refine zk13 rfl rfl rfl ?_|refine zk14 ?_|refine zk19 ?_|refine zk23 rfl ?_|refine zk28 ns_ok (by kernel_rfl) ?_|refine zk29 ns_ok (by kernel_rfl) ?_|refine zk31 ?_|refine zk32 rfl rfl rfl ?_|refine zk33 rfl ?_|refine zk34 rfl ?_))
      refine awp_frz 22 rfl ?_
      have hts : timesI l a b = timesS l a b := times_eq hp a b
      have htl : (timesI l a b).length ≤ 202 := by
        refine Nat.le_trans (cmpL_le _) ?_
        rw [srtI_length]; simp [atsI]; omega
      refine awp_loop (fun (k : Nat × List Pt) => ⟨98, [(1, .d (.n .i64 a)), (2, .d (.n .i64 b)), (3, .clo g [.pd ds 0]), (4, .ptr 4 0), (8, .ptr 8 0), (13, .ptr 13 0), (40, .d (.sl (intE (timesI l a b)))), (41, .d (.n .i64 ((timesI l a b).length : Nat))), (42, .d (.n .i64 k.1))], [(4, .box 150 (profC l)), (8, .box 150 [.nil]), (13, .box 150 [pts0 k.2])] ++ ob0 k.2⟩)
        (fun k => k.1 ≤ (timesI l a b).length ∧ k.2.length ≤ k.1 ∧ chgGo l a b by' ((timesI l a b).drop k.1) k.2 = chgGo l a b by' (timesI l a b) []) (fun k => (timesI l a b).length - k.1) (0, []) (by exact ⟨Nat.zero_le _, Nat.le_refl _, rfl⟩) ?_ ?_
      · refine ⟨rfl, ?_, ?_, rfl⟩
        repeat'(first|apply And.intro|exact zeb|refine zec ?_|exact zen|refine zeo ?_|exact zel|refine zem ?_|exact zep|refine zeq1 ?_|refine zea ?_|refine zei ?_ ?_|refine zex ?_|refine zca (hv := ?_)|refine zcb (hv := ?_)|exact rfl|trivial)
        all_goals first | exact Stop.mk rfl | exact Stop.mk (sub_times _) | skip
      · rintro ⟨n, out⟩ ⟨hn, ho, hc⟩
        dsimp only at hn ho hc ⊢
        have htz : (intE (timesI l a b)).length = (timesI l a b).length := intE_length _
        have hop : (ptE out).length = out.length := ptE_length out
        by_cases hn' : n < (timesI l a b).length
        · cases out with
          | nil =>
            repeat' (first|(refine awp_cutc 56 (fun v : V3 => ⟨98, [(1, .d (.n .i64 a)), (2, .d (.n .i64 b)), (3, .clo g [.pd ds 0]), (4, .ptr 4 0), (8, .ptr 8 0), (13, .ptr 13 0), (15, .d (.n .i64 (nth (timesI l a b) n))), (16, .ptr 16 0), (40, .d (.sl (intE (timesI l a b)))), (41, .d (.n .i64 ((timesI l a b).length : Nat))), (42, .d (.n .i64 n))], [(4, .box 150 (profC l)), (8, .box 150 [.nil]), (13, .box 150 [pts0 ([])]), (16, .box 35 (vecC v))] ++ ob0 ([])⟩) (fun v => chgV l a b by' (nth (timesI l a b) n) = some v) ?_ ?_)|refine zsr ?_|(refine zhm fun hb=>?_;try first|omega|exact absurd rfl hb)|(apply awp_drawq;exact rfl;kernel_rfl;kernel_rfl;exact rfl)|(apply awp_drawx;exact rfl;kernel_rfl;exact rfl)|(apply aopQ_ok;exact rfl)|apply qs_nil|(apply ch_nil;exact rfl)|((first|(apply ch_cons;iterate 2 exact rfl)|(apply ch_yes;iterate 4 exact rfl));(iterate 2 exact rfl);(· (intro w0 Z O;first|(apply aop_ok;exact rfl)|(apply QOk.ok;first|refine zk0 ?_|refine zk1 ?_|refine zk5 ?_|refine zk6 ?_|refine zk10 ?_|refine zk11 ?_|refine zk12 (fun _ => ?_)|refine zk13 rfl rfl rfl ?_|refine zk14 ?_|refine zk19 ?_|refine zk23 rfl ?_|refine zk28 ns_ok (by kernel_rfl) ?_|refine zk29 ns_ok (by kernel_rfl) ?_|refine zk31 ?_|refine zk32 rfl rfl rfl ?_|refine zk33 rfl ?_|refine zk34 rfl ?_)|refine zk35 rfl rfl rfl ?_|refine zk36 rfl rfl rfl ?_|refine zk37 rfl rfl rfl ?_|refine zk38 rfl rfl rfl ?_|refine zk39 rfl rfl rfl ?_|refine zk40 rfl rfl rfl ?_|refine zk42 rfl rfl rfl ?_|refine zk45 rfl ?_|refine zk46 rfl ?_|refine kc (free_e (l := l) (by omega)) rfl rfl ?_|refine kv (hby _ (freeP_ok hp (nth (timesI l a b) n))) rfl rfl rfl rfl rfl ?_);exact ⟨rfl, rfl, rfl⟩);(iterate 2 exact rfl);exact zsl;exact zft;(iterate 4 exact rfl))|(apply ch_no;iterate 10 exact rfl)|(apply ch_no2;iterate 9 exact rfl)|refine zcx ?_ ?_|refine zgc ?_ ?_|refine zgx ?_ ?_|(first|(apply qs_cons;exact rfl)|(apply qs_yes;exact rfl;exact rfl;exact rfl))|refine zqx ?_ ?_|(apply q_id;first|refine kq (free_e (l := l) (by omega)) rfl rfl ?_)|(apply op_id;first|refine zk35 rfl rfl rfl ?_|refine zk36 rfl rfl rfl ?_|refine zk37 rfl rfl rfl ?_|refine zk38 rfl rfl rfl ?_|refine zk39 rfl rfl rfl ?_|refine zk40 rfl rfl rfl ?_|refine zk42 rfl rfl rfl ?_|refine zk45 rfl ?_|refine zk46 rfl ?_|refine kc (free_e (l := l) (by omega)) rfl rfl ?_|refine kv (hby _ (freeP_ok hp (nth (timesI l a b) n))) rfl rfl rfl rfl rfl ?_|refine zgq ?_)|(apply q_id;first|refine zk0 ?_|refine zk1 ?_|refine zk5 ?_|refine zk6 ?_|refine zk10 ?_|refine zk11 ?_|refine zk12 (fun _ => ?_)|refine zk13 rfl rfl rfl ?_|refine zk14 ?_|refine zk19 ?_|refine zk23 rfl ?_|refine zk28 ns_ok (by kernel_rfl) ?_|refine zk29 ns_ok (by kernel_rfl) ?_|refine zk31 ?_|refine zk32 rfl rfl rfl ?_|refine zk33 rfl ?_|refine zk34 rfl ?_))
            · rw [show chgP l a b by' = none by rw [chgP, ← hts, ← hc, chgGo_none hn' (by rw [chgV_in ⟨by assumption, by assumption⟩]; exact opt_none (by assumption))]; rfl]
              show AWp _ _ _ _
              refine awp_dena ?_
              apply awp_ret'
              refine zm () [] trivial ?_ ?_ ?_
              repeat'(first|apply And.intro|exact zeb|refine zec ?_|exact zen|refine zeo ?_|exact zel|refine zem ?_|exact zep|refine zeq1 ?_|refine zea ?_|refine zei ?_ ?_|refine zex ?_|refine zca (hv := ?_)|refine zcb (hv := ?_)|exact rfl|trivial)
              all_goals exact Stop.mk rfl
            · refine ⟨(by' (freeP l (nth (timesI l a b) n))).getD zV, by rw [chgV_in ⟨by assumption, by assumption⟩]; exact opt_some (by assumption), ?_⟩
              refine ⟨rfl, ?_, ?_, rfl⟩
              repeat'(first|apply And.intro|exact zeb|refine zec ?_|exact zen|refine zeo ?_|exact zel|refine zem ?_|exact zep|refine zeq1 ?_|refine zea ?_|refine zei ?_ ?_|refine zex ?_|refine zca (hv := ?_)|refine zcb (hv := ?_)|exact rfl|trivial)
              all_goals exact Stop.mk rfl
            · refine ⟨freeP l (nth (timesI l a b) n), chgV_out (by omega), ?_⟩
              refine ⟨rfl, ?_, ?_, rfl⟩
              repeat'(first|apply And.intro|exact zeb|refine zec ?_|exact zen|refine zeo ?_|exact zel|refine zem ?_|exact zep|refine zeq1 ?_|refine zea ?_|refine zei ?_ ?_|refine zex ?_|refine zca (hv := ?_)|refine zcb (hv := ?_)|exact rfl|trivial)
              all_goals exact Stop.mk rfl
            · refine ⟨freeP l (nth (timesI l a b) n), chgV_out (by omega), ?_⟩
              refine ⟨rfl, ?_, ?_, rfl⟩
              repeat'(first|apply And.intro|exact zeb|refine zec ?_|exact zen|refine zeo ?_|exact zel|refine zem ?_|exact zep|refine zeq1 ?_|refine zea ?_|refine zei ?_ ?_|refine zex ?_|refine zca (hv := ?_)|refine zcb (hv := ?_)|exact rfl|trivial)
              all_goals exact Stop.mk rfl
            intro v hv
            rw [chgGo_some hn' hv] at hc
            repeat' (first|refine zst ?_|(refine zhm fun hb=>?_;try first|omega|exact absurd rfl hb)|(apply awp_drawq;exact rfl;kernel_rfl;kernel_rfl;exact rfl)|(apply awp_drawx;exact rfl;kernel_rfl;exact rfl)|(apply aopQ_ok;exact rfl)|apply qs_nil|(apply ch_nil;exact rfl)|((first|(apply ch_cons;iterate 2 exact rfl)|(apply ch_yes;iterate 4 exact rfl));(iterate 2 exact rfl);(· (intro w0 Z O;first|(apply aop_ok;exact rfl)|(apply QOk.ok;first|refine zk0 ?_|refine zk1 ?_|refine zk5 ?_|refine zk6 ?_|refine zk10 ?_|refine zk11 ?_|refine zk12 (fun _ => ?_)|refine zk13 rfl rfl rfl ?_|refine zk14 ?_|refine zk19 ?_|refine zk23 rfl ?_|refine zk28 ns_ok (by kernel_rfl) ?_|refine zk29 ns_ok (by kernel_rfl) ?_|refine zk31 ?_|refine zk32 rfl rfl rfl ?_|refine zk33 rfl ?_|refine zk34 rfl ?_)|refine zk35 rfl rfl rfl ?_|refine zk36 rfl rfl rfl ?_|refine zk37 rfl rfl rfl ?_|refine zk38 rfl rfl rfl ?_|refine zk39 rfl rfl rfl ?_|refine zk40 rfl rfl rfl ?_|refine zk42 rfl rfl rfl ?_|refine zk45 rfl ?_|refine zk46 rfl ?_);exact ⟨rfl, rfl, rfl⟩);(iterate 2 exact rfl);exact zsl;exact zft;(iterate 4 exact rfl))|(apply ch_no;iterate 10 exact rfl)|(apply ch_no2;iterate 9 exact rfl)|refine zcx ?_ ?_|refine zgc ?_ ?_|refine zgx ?_ ?_|(first|(apply qs_cons;exact rfl)|(apply qs_yes;exact rfl;exact rfl;exact rfl))|refine zqx ?_ ?_|(apply op_id;first|refine zk35 rfl rfl rfl ?_|refine zk36 rfl rfl rfl ?_|refine zk37 rfl rfl rfl ?_|refine zk38 rfl rfl rfl ?_|refine zk39 rfl rfl rfl ?_|refine zk40 rfl rfl rfl ?_|refine zk42 rfl rfl rfl ?_|refine zk45 rfl ?_|refine zk46 rfl ?_|refine zgq ?_)|(apply q_id;first|refine zk0 ?_|refine zk1 ?_|refine zk5 ?_|refine zk6 ?_|refine zk10 ?_|refine zk11 ?_|refine zk12 (fun _ => ?_)|refine zk13 rfl rfl rfl ?_|refine zk14 ?_|refine zk19 ?_|refine zk23 rfl ?_|refine zk28 ns_ok (by kernel_rfl) ?_|refine zk29 ns_ok (by kernel_rfl) ?_|refine zk31 ?_|refine zk32 rfl rfl rfl ?_|refine zk33 rfl ?_|refine zk34 rfl ?_))
            refine ⟨(n + 1, pushP [] (nth (timesI l a b) n) v), ⟨by omega, by dsimp only; exact Nat.le_trans (pushP_length _ _ _) (Nat.succ_le_succ ho), hc⟩, by omega, ?_⟩
            refine ⟨rfl, ?_, ?_, rfl⟩
            repeat'(first|apply And.intro|exact zeb|refine zec ?_|exact zen|refine zeo ?_|exact zel|refine zem ?_|exact zep|refine zeq1 ?_|refine zea ?_|refine zei ?_ ?_|refine zex ?_|refine zca (hv := ?_)|refine zcb (hv := ?_)|exact rfl|trivial)
            all_goals exact Stop.mk rfl
          | cons p0 o0 =>
            have hpos : 0 < (p0 :: o0).length := Nat.succ_pos _
            repeat' (first|(refine awp_cutc 56 (fun v : V3 => ⟨98, [(1, .d (.n .i64 a)), (2, .d (.n .i64 b)), (3, .clo g [.pd ds 0]), (4, .ptr 4 0), (8, .ptr 8 0), (13, .ptr 13 0), (15, .d (.n .i64 (nth (timesI l a b) n))), (16, .ptr 16 0), (40, .d (.sl (intE (timesI l a b)))), (41, .d (.n .i64 ((timesI l a b).length : Nat))), (42, .d (.n .i64 n))], [(4, .box 150 (profC l)), (8, .box 150 [.nil]), (13, .box 150 [pts0 (p0 :: o0)]), (16, .box 35 (vecC v))] ++ ob0 (p0 :: o0)⟩) (fun v => chgV l a b by' (nth (timesI l a b) n) = some v) ?_ ?_)|refine zsr ?_|(refine zhm fun hb=>?_;try first|omega|exact absurd rfl hb)|(apply awp_drawq;exact rfl;kernel_rfl;kernel_rfl;exact rfl)|(apply awp_drawx;exact rfl;kernel_rfl;exact rfl)|(apply aopQ_ok;exact rfl)|apply qs_nil|(apply ch_nil;exact rfl)|((first|(apply ch_cons;iterate 2 exact rfl)|(apply ch_yes;iterate 4 exact rfl));(iterate 2 exact rfl);(· (intro w0 Z O;first|(apply aop_ok;exact rfl)|(apply QOk.ok;first|refine zk0 ?_|refine zk1 ?_|refine zk5 ?_|refine zk6 ?_|refine zk10 ?_|refine zk11 ?_|refine zk12 (fun _ => ?_)|refine zk13 rfl rfl rfl ?_|refine zk14 ?_|refine zk19 ?_|refine zk23 rfl ?_|refine zk28 ns_ok (by kernel_rfl) ?_|refine zk29 ns_ok (by kernel_rfl) ?_|refine zk31 ?_|refine zk32 rfl rfl rfl ?_|refine zk33 rfl ?_|refine zk34 rfl ?_)|refine zk35 rfl rfl rfl ?_|refine zk36 rfl rfl rfl ?_|refine zk37 rfl rfl rfl ?_|refine zk38 rfl rfl rfl ?_|refine zk39 rfl rfl rfl ?_|refine zk40 rfl rfl rfl ?_|refine zk42 rfl rfl rfl ?_|refine zk45 rfl ?_|refine zk46 rfl ?_|refine kc (free_e (l := l) (by omega)) rfl rfl ?_|refine kv (hby _ (freeP_ok hp (nth (timesI l a b) n))) rfl rfl rfl rfl rfl ?_);exact ⟨rfl, rfl, rfl⟩);(iterate 2 exact rfl);exact zsl;exact zft;(iterate 4 exact rfl))|(apply ch_no;iterate 10 exact rfl)|(apply ch_no2;iterate 9 exact rfl)|refine zcx ?_ ?_|refine zgc ?_ ?_|refine zgx ?_ ?_|(first|(apply qs_cons;exact rfl)|(apply qs_yes;exact rfl;exact rfl;exact rfl))|refine zqx ?_ ?_|(apply q_id;first|refine kq (free_e (l := l) (by omega)) rfl rfl ?_)|(apply op_id;first|refine zk35 rfl rfl rfl ?_|refine zk36 rfl rfl rfl ?_|refine zk37 rfl rfl rfl ?_|refine zk38 rfl rfl rfl ?_|refine zk39 rfl rfl rfl ?_|refine zk40 rfl rfl rfl ?_|refine zk42 rfl rfl rfl ?_|refine zk45 rfl ?_|refine zk46 rfl ?_|refine kc (free_e (l := l) (by omega)) rfl rfl ?_|refine kv (hby _ (freeP_ok hp (nth (timesI l a b) n))) rfl rfl rfl rfl rfl ?_|refine zgq ?_)|(apply q_id;first|refine zk0 ?_|refine zk1 ?_|refine zk5 ?_|refine zk6 ?_|refine zk10 ?_|refine zk11 ?_|refine zk12 (fun _ => ?_)|refine zk13 rfl rfl rfl ?_|refine zk14 ?_|refine zk19 ?_|refine zk23 rfl ?_|refine zk28 ns_ok (by kernel_rfl) ?_|refine zk29 ns_ok (by kernel_rfl) ?_|refine zk31 ?_|refine zk32 rfl rfl rfl ?_|refine zk33 rfl ?_|refine zk34 rfl ?_))
            · rw [show chgP l a b by' = none by rw [chgP, ← hts, ← hc, chgGo_none hn' (by rw [chgV_in ⟨by assumption, by assumption⟩]; exact opt_none (by assumption))]; rfl]
              show AWp _ _ _ _
              refine awp_dena ?_
              apply awp_ret'
              refine zm () [] trivial ?_ ?_ ?_
              repeat'(first|apply And.intro|exact zeb|refine zec ?_|exact zen|refine zeo ?_|exact zel|refine zem ?_|exact zep|refine zeq1 ?_|refine zea ?_|refine zei ?_ ?_|refine zex ?_|refine zca (hv := ?_)|refine zcb (hv := ?_)|exact rfl|trivial)
              all_goals exact Stop.mk rfl
            · refine ⟨(by' (freeP l (nth (timesI l a b) n))).getD zV, by rw [chgV_in ⟨by assumption, by assumption⟩]; exact opt_some (by assumption), ?_⟩
              refine ⟨rfl, ?_, ?_, rfl⟩
              repeat'(first|apply And.intro|exact zeb|refine zec ?_|exact zen|refine zeo ?_|exact zel|refine zem ?_|exact zep|refine zeq1 ?_|refine zea ?_|refine zei ?_ ?_|refine zex ?_|refine zca (hv := ?_)|refine zcb (hv := ?_)|exact rfl|trivial)
              all_goals exact Stop.mk rfl
            · refine ⟨freeP l (nth (timesI l a b) n), chgV_out (by omega), ?_⟩
              refine ⟨rfl, ?_, ?_, rfl⟩
              repeat'(first|apply And.intro|exact zeb|refine zec ?_|exact zen|refine zeo ?_|exact zel|refine zem ?_|exact zep|refine zeq1 ?_|refine zea ?_|refine zei ?_ ?_|refine zex ?_|refine zca (hv := ?_)|refine zcb (hv := ?_)|exact rfl|trivial)
              all_goals exact Stop.mk rfl
            · refine ⟨freeP l (nth (timesI l a b) n), chgV_out (by omega), ?_⟩
              refine ⟨rfl, ?_, ?_, rfl⟩
              repeat'(first|apply And.intro|exact zeb|refine zec ?_|exact zen|refine zeo ?_|exact zel|refine zem ?_|exact zep|refine zeq1 ?_|refine zea ?_|refine zei ?_ ?_|refine zex ?_|refine zca (hv := ?_)|refine zcb (hv := ?_)|exact rfl|trivial)
              all_goals exact Stop.mk rfl
            intro v hv
            rw [chgGo_some hn' hv] at hc
            repeat' (first|refine zst ?_|(refine zhm fun hb=>?_;try first|omega|exact absurd rfl hb)|(apply awp_drawq;exact rfl;kernel_rfl;kernel_rfl;exact rfl)|(apply awp_drawx;exact rfl;kernel_rfl;exact rfl)|(apply aopQ_ok;exact rfl)|apply qs_nil|(apply ch_nil;exact rfl)|((first|(apply ch_cons;iterate 2 exact rfl)|(apply ch_yes;iterate 4 exact rfl));(iterate 2 exact rfl);(· (intro w0 Z O;first|(apply aop_ok;exact rfl)|(apply QOk.ok;first|refine zk0 ?_|refine zk1 ?_|refine zk5 ?_|refine zk6 ?_|refine zk10 ?_|refine zk11 ?_|refine zk12 (fun _ => ?_)|refine zk13 rfl rfl rfl ?_|refine zk14 ?_|refine zk19 ?_|refine zk23 rfl ?_|refine zk28 ns_ok (by kernel_rfl) ?_|refine zk29 ns_ok (by kernel_rfl) ?_|refine zk31 ?_|refine zk32 rfl rfl rfl ?_|refine zk33 rfl ?_|refine zk34 rfl ?_)|refine zk35 rfl rfl rfl ?_|refine zk36 rfl rfl rfl ?_|refine zk37 rfl rfl rfl ?_|refine zk38 rfl rfl rfl ?_|refine zk39 rfl rfl rfl ?_|refine zk40 rfl rfl rfl ?_|refine zk42 rfl rfl rfl ?_|refine zk45 rfl ?_|refine zk46 rfl ?_);exact ⟨rfl, rfl, rfl⟩);(iterate 2 exact rfl);exact zsl;exact zft;(iterate 4 exact rfl))|(apply ch_no;iterate 10 exact rfl)|(apply ch_no2;iterate 9 exact rfl)|refine zcx ?_ ?_|refine zgc ?_ ?_|refine zgx ?_ ?_|(first|(apply qs_cons;exact rfl)|(apply qs_yes;exact rfl;exact rfl;exact rfl))|refine zqx ?_ ?_|(apply op_id;first|refine zk35 rfl rfl rfl ?_|refine zk36 rfl rfl rfl ?_|refine zk37 rfl rfl rfl ?_|refine zk38 rfl rfl rfl ?_|refine zk39 rfl rfl rfl ?_|refine zk40 rfl rfl rfl ?_|refine zk42 rfl rfl rfl ?_|refine zk45 rfl ?_|refine zk46 rfl ?_|refine zgq ?_)|(apply q_id;first|refine zk0 ?_|refine zk1 ?_|refine zk5 ?_|refine zk6 ?_|refine zk10 ?_|refine zk11 ?_|refine zk12 (fun _ => ?_)|refine zk13 rfl rfl rfl ?_|refine zk14 ?_|refine zk19 ?_|refine zk23 rfl ?_|refine zk28 ns_ok (by kernel_rfl) ?_|refine zk29 ns_ok (by kernel_rfl) ?_|refine zk31 ?_|refine zk32 rfl rfl rfl ?_|refine zk33 rfl ?_|refine zk34 rfl ?_))
            · have hne : (nth (p0 :: o0) ((p0 :: o0).length - 1)).free ≠ v := veq_f.1 (by assumption)
              have hpu : pushP (p0 :: o0) (nth (timesI l a b) n) v = (p0 :: o0) ++ [⟨nth (timesI l a b) n, v⟩] := if_pos (.inr hne)
              rw [hpu] at hc
              refine ⟨(n + 1, (p0 :: o0) ++ [⟨nth (timesI l a b) n, v⟩]), ⟨by omega, by dsimp only; rw [List.length_append]; exact Nat.succ_le_succ ho, hc⟩, by omega, ?_⟩
              refine ⟨rfl, ?_, ?_, rfl⟩
              repeat'(first|apply And.intro|exact zeb|refine zec ?_|exact zen|refine zeo ?_|exact zel|refine zem ?_|exact zep|refine zeq1 ?_|refine zea ?_|refine zei ?_ ?_|refine zex ?_|refine zca (hv := ?_)|refine zcb (hv := ?_)|exact rfl|trivial)
              all_goals exact Stop.mk (by first | rfl | exact ptE_push (p0 :: o0) ⟨nth (timesI l a b) n, v⟩)
            · have hpu : pushP (p0 :: o0) (nth (timesI l a b) n) v = p0 :: o0 := if_neg (not_or.2 ⟨by simp, fun h => h (veq_t.1 (by assumption))⟩)
              rw [hpu] at hc
              refine ⟨(n + 1, p0 :: o0), ⟨by omega, Nat.le_succ_of_le ho, hc⟩, by omega, ?_⟩
              refine ⟨rfl, ?_, ?_, rfl⟩
              repeat'(first|apply And.intro|exact zeb|refine zec ?_|exact zen|refine zeo ?_|exact zel|refine zem ?_|exact zep|refine zeq1 ?_|refine zea ?_|refine zei ?_ ?_|refine zex ?_|refine zca (hv := ?_)|refine zcb (hv := ?_)|exact rfl|trivial)
              all_goals exact Stop.mk rfl
        · rw [List.drop_eq_nil_of_le (by omega)] at hc
          have hcp : chgP l a b by' = if out.length ≤ 200 then some out else none := by rw [chgP, ← hts, ← hc]; rfl
          rw [hcp]
          cases out with
          | nil =>
            repeat' (first|refine zsr ?_|(refine zhm fun hb=>?_;try first|omega|exact absurd rfl hb)|(apply awp_drawq;exact rfl;kernel_rfl;kernel_rfl;exact rfl)|(apply awp_drawx;exact rfl;kernel_rfl;exact rfl)|(apply aopQ_ok;exact rfl)|apply qs_nil|(apply ch_nil;exact rfl)|((first|(apply ch_cons;iterate 2 exact rfl)|(apply ch_yes;iterate 4 exact rfl));(iterate 2 exact rfl);(· (intro w0 Z O;first|(apply aop_ok;exact rfl)|(apply QOk.ok;first|refine zk0 ?_|refine zk1 ?_|refine zk5 ?_|refine zk6 ?_|refine zk10 ?_|refine zk11 ?_|refine zk12 (fun _ => ?_)|refine zk13 rfl rfl rfl ?_|refine zk14 ?_|refine zk19 ?_|refine zk23 rfl ?_|refine zk28 ns_ok (by kernel_rfl) ?_|refine zk29 ns_ok (by kernel_rfl) ?_|refine zk31 ?_|refine zk32 rfl rfl rfl ?_|refine zk33 rfl ?_|refine zk34 rfl ?_)|refine zk35 rfl rfl rfl ?_|refine zk36 rfl rfl rfl ?_|refine zk37 rfl rfl rfl ?_|refine zk38 rfl rfl rfl ?_|refine zk39 rfl rfl rfl ?_|refine zk40 rfl rfl rfl ?_|refine zk42 rfl rfl rfl ?_|refine zk45 rfl ?_|refine zk46 rfl ?_);exact ⟨rfl, rfl, rfl⟩);(iterate 2 exact rfl);exact zsl;exact zft;(iterate 4 exact rfl))|(apply ch_no;iterate 10 exact rfl)|(apply ch_no2;iterate 9 exact rfl)|refine zcx ?_ ?_|refine zgc ?_ ?_|refine zgx ?_ ?_|(first|(apply qs_cons;exact rfl)|(apply qs_yes;exact rfl;exact rfl;exact rfl))|refine zqx ?_ ?_|(apply op_id;first|refine zk35 rfl rfl rfl ?_|refine zk36 rfl rfl rfl ?_|refine zk37 rfl rfl rfl ?_|refine zk38 rfl rfl rfl ?_|refine zk39 rfl rfl rfl ?_|refine zk40 rfl rfl rfl ?_|refine zk42 rfl rfl rfl ?_|refine zk45 rfl ?_|refine zk46 rfl ?_|refine zgq ?_)|(apply q_id;first|refine zk0 ?_|refine zk1 ?_|refine zk5 ?_|refine zk6 ?_|refine zk10 ?_|refine zk11 ?_|refine zk12 (fun _ => ?_)|refine zk13 rfl rfl rfl ?_|refine zk14 ?_|refine zk19 ?_|refine zk23 rfl ?_|refine zk28 ns_ok (by kernel_rfl) ?_|refine zk29 ns_ok (by kernel_rfl) ?_|refine zk31 ?_|refine zk32 rfl rfl rfl ?_|refine zk33 rfl ?_|refine zk34 rfl ?_))
            show AWp _ _ _ _
            refine awp_dena ?_
            apply awp_ret'
            refine zm () [] trivial ?_ ?_ ?_
            repeat'(first|apply And.intro|exact zeb|refine zec ?_|exact zen|refine zeo ?_|exact zel|refine zem ?_|exact zep|refine zeq1 ?_|refine zea ?_|refine zei ?_ ?_|refine zex ?_|refine zca (hv := ?_)|refine zcb (hv := ?_)|exact rfl|trivial)
            all_goals exact Stop.mk rfl
          | cons p0 o0 =>
            by_cases h2 : (p0 :: o0).length ≤ 200
            · rw [if_pos h2]
              repeat' (first|refine zsr ?_|(refine zhm fun hb=>?_;try first|omega|exact absurd rfl hb)|(apply awp_drawq;exact rfl;kernel_rfl;kernel_rfl;exact rfl)|(apply awp_drawx;exact rfl;kernel_rfl;exact rfl)|(apply aopQ_ok;exact rfl)|apply qs_nil|(apply ch_nil;exact rfl)|((first|(apply ch_cons;iterate 2 exact rfl)|(apply ch_yes;iterate 4 exact rfl));(iterate 2 exact rfl);(· (intro w0 Z O;first|(apply aop_ok;exact rfl)|(apply QOk.ok;first|refine zk0 ?_|refine zk1 ?_|refine zk5 ?_|refine zk6 ?_|refine zk10 ?_|refine zk11 ?_|refine zk12 (fun _ => ?_)|refine zk13 rfl rfl rfl ?_|refine zk14 ?_|refine zk19 ?_|refine zk23 rfl ?_|refine zk28 ns_ok (by kernel_rfl) ?_|refine zk29 ns_ok (by kernel_rfl) ?_|refine zk31 ?_|refine zk32 rfl rfl rfl ?_|refine zk33 rfl ?_|refine zk34 rfl ?_)|refine zk35 rfl rfl rfl ?_|refine zk36 rfl rfl rfl ?_|refine zk37 rfl rfl rfl ?_|refine zk38 rfl rfl rfl ?_|refine zk39 rfl rfl rfl ?_|refine zk40 rfl rfl rfl ?_|refine zk42 rfl rfl rfl ?_|refine zk45 rfl ?_|refine zk46 rfl ?_);exact ⟨rfl, rfl, rfl⟩);(iterate 2 exact rfl);exact zsl;exact zft;(iterate 4 exact rfl))|(apply ch_no;iterate 10 exact rfl)|(apply ch_no2;iterate 9 exact rfl)|refine zcx ?_ ?_|refine zgc ?_ ?_|refine zgx ?_ ?_|(first|(apply qs_cons;exact rfl)|(apply qs_yes;exact rfl;exact rfl;exact rfl))|refine zqx ?_ ?_|(apply op_id;first|refine zk35 rfl rfl rfl ?_|refine zk36 rfl rfl rfl ?_|refine zk37 rfl rfl rfl ?_|refine zk38 rfl rfl rfl ?_|refine zk39 rfl rfl rfl ?_|refine zk40 rfl rfl rfl ?_|refine zk42 rfl rfl rfl ?_|refine zk45 rfl ?_|refine zk46 rfl ?_|refine zgq ?_)|(apply q_id;first|refine zk0 ?_|refine zk1 ?_|refine zk5 ?_|refine zk6 ?_|refine zk10 ?_|refine zk11 ?_|refine zk12 (fun _ => ?_)|refine zk13 rfl rfl rfl ?_|refine zk14 ?_|refine zk19 ?_|refine zk23 rfl ?_|refine zk28 ns_ok (by kernel_rfl) ?_|refine zk29 ns_ok (by kernel_rfl) ?_|refine zk31 ?_|refine zk32 rfl rfl rfl ?_|refine zk33 rfl ?_|refine zk34 rfl ?_))
              show AWp _ _ _ _
              refine awp_frz 89 rfl ?_
              refine awp_dena ?_
              apply awp_ret'
              refine zm () [] trivial ?_ ?_ ?_
              repeat'(first|apply And.intro|exact zeb|refine zec ?_|exact zen|refine zeo ?_|exact zel|refine zem ?_|exact zep|refine zeq1 ?_|refine zea ?_|refine zei ?_ ?_|refine zex ?_|refine zca (hv := ?_)|refine zcb (hv := ?_)|exact rfl|trivial)
              all_goals exact Stop.mk rfl
            · rw [if_neg h2]
              repeat' (first|refine zsr ?_|(refine zhm fun hb=>?_;try first|omega|exact absurd rfl hb)|(apply awp_drawq;exact rfl;kernel_rfl;kernel_rfl;exact rfl)|(apply awp_drawx;exact rfl;kernel_rfl;exact rfl)|(apply aopQ_ok;exact rfl)|apply qs_nil|(apply ch_nil;exact rfl)|((first|(apply ch_cons;iterate 2 exact rfl)|(apply ch_yes;iterate 4 exact rfl));(iterate 2 exact rfl);(· (intro w0 Z O;first|(apply aop_ok;exact rfl)|(apply QOk.ok;first|refine zk0 ?_|refine zk1 ?_|refine zk5 ?_|refine zk6 ?_|refine zk10 ?_|refine zk11 ?_|refine zk12 (fun _ => ?_)|refine zk13 rfl rfl rfl ?_|refine zk14 ?_|refine zk19 ?_|refine zk23 rfl ?_|refine zk28 ns_ok (by kernel_rfl) ?_|refine zk29 ns_ok (by kernel_rfl) ?_|refine zk31 ?_|refine zk32 rfl rfl rfl ?_|refine zk33 rfl ?_|refine zk34 rfl ?_)|refine zk35 rfl rfl rfl ?_|refine zk36 rfl rfl rfl ?_|refine zk37 rfl rfl rfl ?_|refine zk38 rfl rfl rfl ?_|refine zk39 rfl rfl rfl ?_|refine zk40 rfl rfl rfl ?_|refine zk42 rfl rfl rfl ?_|refine zk45 rfl ?_|refine zk46 rfl ?_);exact ⟨rfl, rfl, rfl⟩);(iterate 2 exact rfl);exact zsl;exact zft;(iterate 4 exact rfl))|(apply ch_no;iterate 10 exact rfl)|(apply ch_no2;iterate 9 exact rfl)|refine zcx ?_ ?_|refine zgc ?_ ?_|refine zgx ?_ ?_|(first|(apply qs_cons;exact rfl)|(apply qs_yes;exact rfl;exact rfl;exact rfl))|refine zqx ?_ ?_|(apply op_id;first|refine zk35 rfl rfl rfl ?_|refine zk36 rfl rfl rfl ?_|refine zk37 rfl rfl rfl ?_|refine zk38 rfl rfl rfl ?_|refine zk39 rfl rfl rfl ?_|refine zk40 rfl rfl rfl ?_|refine zk42 rfl rfl rfl ?_|refine zk45 rfl ?_|refine zk46 rfl ?_|refine zgq ?_)|(apply q_id;first|refine zk0 ?_|refine zk1 ?_|refine zk5 ?_|refine zk6 ?_|refine zk10 ?_|refine zk11 ?_|refine zk12 (fun _ => ?_)|refine zk13 rfl rfl rfl ?_|refine zk14 ?_|refine zk19 ?_|refine zk23 rfl ?_|refine zk28 ns_ok (by kernel_rfl) ?_|refine zk29 ns_ok (by kernel_rfl) ?_|refine zk31 ?_|refine zk32 rfl rfl rfl ?_|refine zk33 rfl ?_|refine zk34 rfl ?_))
              show AWp _ _ _ _
              refine awp_dena ?_
              apply awp_ret'
              refine zm () [] trivial ?_ ?_ ?_
              repeat'(first|apply And.intro|exact zeb|refine zec ?_|exact zen|refine zeo ?_|exact zel|refine zem ?_|exact zep|refine zeq1 ?_|refine zea ?_|refine zei ?_ ?_|refine zex ?_|refine zca (hv := ?_)|refine zcb (hv := ?_)|exact rfl|trivial)
              all_goals exact Stop.mk rfl
theorem takeClo_e {v x : V3} (hv : vecOkB v = true) (hx : vecOkB x = true) : ACalls Tryz.prog 244 [vecA x, .pd [.n .i64 v.a, .n .i64 v.b, .n .i64 v.c] 0] (resV (subO x v)) [] := by
  refine acalls_of tt Tryz.func244 rfl rfl rfl (fun w0 Z => ?_)
  repeat' (first|refine zst ?_|(refine zhm fun hb=>?_;try first|omega|exact absurd rfl hb)|refine zgc ?_ ?_|refine zgx ?_ ?_|(apply op_id;first|refine kc (vecSub_e hx hv) rfl rfl ?_))
  refine zr [] ?_ ?_
  repeat'(first|apply And.intro|exact zeb|refine zec ?_|exact zen|refine zeo ?_|exact zel|refine zem ?_|exact zep|refine zeq1 ?_|refine zea ?_|refine zei ?_ ?_|refine zex ?_|refine zca (hv := ?_)|refine zcb (hv := ?_)|exact rfl|trivial)
  all_goals exact Stop.mk rfl
end Go.Proofs.YtliopiphobopjaaGreat
