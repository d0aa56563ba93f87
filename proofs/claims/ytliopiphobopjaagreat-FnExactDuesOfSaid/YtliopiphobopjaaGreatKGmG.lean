/-
  DuesOf, both; the law's own functions over dues; the law, without its argument.
-/
import Derived.Test.YtliopiphobopjaaGreatKSh
import Derived.Test.YtliopiphobopjaaGreatKGmF
import Derived.Test.YtliopiphobopjaaGreatKGaV
namespace Go.Proofs.YtliopiphobopjaaGreat
set_option maxRecDepth 100000
set_option maxHeartbeats 16000000
open Go Go.RowKit
attribute [local irreducible] AWp OpsOk OpOk ACalls ChA QsOk MCalls EnC PY
structure Dx where
  a : Int
  i : Int
instance : Inhabited Dx := ⟨⟨0, 0⟩⟩
def dxE (l : List Dx) : List (List D) := l.map fun d => [.n .i64 d.a, .n .i64 d.i]
theorem dxE_length (l : List Dx) : (dxE l).length = l.length := by simp [dxE]
@[reducible] def dxA (d : Dx) : AV := .agg [.d (.n .i64 d.a), .d (.n .i64 d.i)]
def gX (k j : Nat) : Dx := ⟨((k + 2 * j : Nat) : Int), ((k + 2 * j + 1 : Nat) : Int)⟩
theorem markDueS_m {l : List Dx} {k : Nat} (h : l.length ≤ 1000000000) (hk : k ≤ 10000000000000000) : MCalls Tryz.prog 30 [.row 1000000, .d (.n .i64 k)] [(1000000, .row 136 (dxE l) true)] (fun (_ : Unit) => True) (fun _ => [.d (.n .i64 ((k + 2 * l.length : Nat) : Int))]) (fun _ => [(1000000, .row 136 (dxE (markL (gX k) l.length)) true)]) (fun _ => []) := by
  refine mcalls_of tt Tryz.func30 rfl rfl rfl ⟨.inl rfl, trivial⟩ (fun _ _ => ⟨⟨⟨rfl, rfl, (lens_map (f := (fun (d : Dx) => ([.n .i64 d.a, .n .i64 d.i] : List D))) (z := 2) (fun _ => rfl) (markL_length _ _)).symm⟩, trivial⟩, .inl rfl, trivial⟩) (fun w0 Z O => ?_)
  repeat' (first|refine zst ?_|(refine zhm fun hb=>?_;try first|omega|exact absurd rfl hb)|refine zgc ?_ ?_|refine zgx ?_ ?_|(apply op_id;first|refine zk45 rfl ?_|refine zk46 rfl ?_|refine zgq ?_)|(apply q_id;first|refine zk0 ?_|refine zk5 ?_|refine zk11 ?_|refine zk12 (fun _ => ?_)|refine zk13 rfl rfl rfl ?_|refine zk14 ?_|refine zk19 ?_|refine zk31 ?_|refine zk32 rfl rfl rfl ?_|refine zk33 rfl ?_|refine zk34 rfl ?_))
  refine awp_loop (fun (i : Nat) => ⟨27, [(0, .row 1000000), (1, .d (.n .i64 ((k + 2 * i : Nat) : Int))), (5, .d (.n .i64 i))], [(1000000, .row 136 (dxE (mkL (gX k) l i)) true)]⟩) (fun i => i ≤ l.length) (fun i => l.length - i) 0 (by omega) ?_ ?_
  · refine ⟨rfl, ?_, ?_, rfl⟩
    repeat'(first|apply And.intro|exact zeb|refine zec ?_|exact zen|refine zeo ?_|exact zel|refine zem ?_|exact zep|refine zeq1 ?_|refine zea ?_|refine zei ?_ ?_|refine zex ?_|refine zca (hv := ?_)|refine zcb (hv := ?_)|exact rfl|trivial)
    all_goals exact Stop.mk (by first | rfl | rw [mkL_0])
  · intro i hi
    have hl2 : (dxE (mkL (gX k) l i)).length = l.length := by rw [dxE, List.length_map, mkL_length (gX k) l hi]
    have hl3 := mkL_length (gX k) l hi
    repeat' (first|refine zst ?_|(refine zhm fun hb=>?_;try first|omega|exact absurd rfl hb)|refine zgc ?_ ?_|refine zgx ?_ ?_|(apply op_id;first|(refine st_storeDS rfl rfl rfl rfl rfl hl2 (by omega) rfl rfl rfl rfl ?_)|(refine st_storeD rfl rfl rfl rfl rfl hl2 (by omega) (map_at (by omega)) rfl rfl rfl rfl ?_)|refine zk45 rfl ?_|refine zk46 rfl ?_|refine zgq ?_)|(apply q_id;first|refine zk0 ?_|refine zk5 ?_|refine zk11 ?_|refine zk12 (fun _ => ?_)|refine zk13 rfl rfl rfl ?_|refine zk14 ?_|refine zk19 ?_|refine zk31 ?_|refine zk32 rfl rfl rfl ?_|refine zk33 rfl ?_|refine zk34 rfl ?_))
    · refine ⟨i + 1, by omega, by omega, ?_⟩
      refine ⟨rfl, ?_, ?_, rfl⟩
      repeat'(first|apply And.intro|exact zeb|refine zec ?_|exact zen|refine zeo ?_|exact zel|refine zem ?_|exact zep|refine zeq1 ?_|refine zea ?_|refine zei ?_ ?_|refine zex ?_|refine zca (hv := ?_)|refine zcb (hv := ?_)|exact rfl|trivial)
      all_goals exact Stop.mk (by first | rfl | exact mkL_set (f := (fun (d : Dx) => ([.n .i64 d.a, .n .i64 d.i] : List D))) (by omega))
    · obtain rfl : i = l.length := by omega
      refine zm () [] (by exact trivial) ?_ ?_ ?_
      repeat'(first|apply And.intro|exact zeb|refine zec ?_|exact zen|refine zeo ?_|exact zel|refine zem ?_|exact zep|refine zeq1 ?_|refine zea ?_|refine zei ?_ ?_|refine zex ?_|refine zca (hv := ?_)|refine zcb (hv := ?_)|exact rfl|trivial)
      all_goals exact Stop.mk (by first | rfl | rw [mkL_all])
theorem heldDueS_e {n k : Nat} (h : n ≤ 1000000000) (hk : k ≤ 10000000000000000) : ACalls Tryz.prog 31 [.d (.sl (dxE (markL (gX k) n))), .d (.n .i64 k)] [.d (.n .i64 ((k + 2 * n : Nat) : Int))] [] := by
  refine acalls_of tt Tryz.func31 rfl rfl rfl (fun w0 Z => ?_)
  have hl := markL_length (gX k) n
  repeat' (first|refine zst ?_|(refine zhm fun hb=>?_;try first|omega|exact absurd rfl hb)|refine zgc ?_ ?_|refine zgx ?_ ?_|(apply op_id;first|refine zk45 rfl ?_|refine zk46 rfl ?_|refine zgq ?_)|(apply q_id;first|refine zk0 ?_|refine zk5 ?_|refine zk11 ?_|refine zk12 (fun _ => ?_)|refine zk13 rfl rfl rfl ?_|refine zk14 ?_|refine zk19 ?_|refine zk29 ns_ok (by kernel_rfl) ?_|refine zk31 ?_|refine zk32 rfl rfl rfl ?_|refine zk33 rfl ?_|refine zk34 rfl ?_))
  refine awp_loop (fun (i : Nat) => ⟨31, [(0, .d (.sl (dxE (markL (gX k) n)))), (1, .d (.n .i64 ((k + 2 * i : Nat) : Int))), (5, .d (.n .i64 i))], []⟩) (fun i => i ≤ n) (fun i => n - i) 0 (by omega) ?_ ?_
  · refine ⟨rfl, ?_, ?_, rfl⟩
    repeat'(first|apply And.intro|exact zeb|refine zec ?_|exact zen|refine zeo ?_|exact zel|refine zem ?_|exact zep|refine zeq1 ?_|refine zea ?_|refine zei ?_ ?_|refine zex ?_|refine zca (hv := ?_)|refine zcb (hv := ?_)|exact rfl|trivial)
    all_goals exact Stop.mk rfl
  · intro i hi
    repeat' (first|refine zst ?_|(refine zhm fun hb=>?_;try first|omega|exact absurd rfl hb)|refine zgc ?_ ?_|refine zgx ?_ ?_|(apply op_id;first|refine zk45 rfl ?_|refine zk46 rfl ?_|refine zgq ?_)|(apply q_id;first|refine zk0 ?_|refine zk5 ?_|refine zk11 ?_|refine zk12 (fun _ => ?_)|refine zk13 rfl rfl rfl ?_|refine zk14 ?_|refine zk19 ?_|refine zk29 ns_ok (by kernel_rfl) ?_|refine zk31 ?_|refine zk32 rfl rfl rfl ?_|refine zk33 rfl ?_|refine zk34 rfl ?_))
    all_goals first
      | (exact absurd (by rw [markL_nth (by omega)]; rfl) hb)
      | (refine ⟨i + 1, by omega, by omega, ?_⟩
         refine ⟨rfl, ?_, ?_, rfl⟩
         repeat'(first|apply And.intro|exact zeb|refine zec ?_|exact zen|refine zeo ?_|exact zel|refine zem ?_|exact zep|refine zeq1 ?_|refine zea ?_|refine zei ?_ ?_|refine zex ?_|refine zca (hv := ?_)|refine zcb (hv := ?_)|exact rfl|trivial)
         all_goals exact Stop.mk rfl)
      | (obtain rfl : i = n := by omega
         refine zr [] ?_ ?_
         repeat'(first|apply And.intro|exact zeb|refine zec ?_|exact zen|refine zeo ?_|exact zel|refine zem ?_|exact zep|refine zeq1 ?_|refine zea ?_|refine zei ?_ ?_|refine zex ?_|refine zca (hv := ?_)|refine zcb (hv := ?_)|exact rfl|trivial)
         all_goals exact Stop.mk rfl)
theorem markDueS_0 {k : Nat} : ACalls Tryz.prog 30 [.d (.sl []), .d (.n .i64 k)] [.d (.n .i64 k)] [] := by
  refine acalls_of tt Tryz.func30 rfl rfl rfl (fun w0 Z => ?_)
  repeat' (first|refine zst ?_|(refine zhm fun hb=>?_;try first|omega|exact absurd rfl hb)|refine zgc ?_ ?_|refine zgx ?_ ?_|(apply op_id;first|refine zk45 rfl ?_|refine zk46 rfl ?_|refine zgq ?_)|(apply q_id;first|refine zk0 ?_|refine zk5 ?_|refine zk11 ?_|refine zk12 (fun _ => ?_)|refine zk13 rfl rfl rfl ?_|refine zk14 ?_|refine zk19 ?_|refine zk31 ?_|refine zk32 rfl rfl rfl ?_|refine zk33 rfl ?_|refine zk34 rfl ?_))
  refine awp_loop (fun (_ : Unit) => ⟨27, [(0, .d (.sl [])), (1, .d (.n .i64 k)), (5, .d (.n .i64 0))], []⟩) (fun _ => True) (fun _ => 0) () trivial ?_ ?_
  · refine ⟨rfl, ?_, ?_, rfl⟩
    repeat'(first|apply And.intro|exact zeb|refine zec ?_|exact zen|refine zeo ?_|exact zel|refine zem ?_|exact zep|refine zeq1 ?_|refine zea ?_|refine zei ?_ ?_|refine zex ?_|refine zca (hv := ?_)|refine zcb (hv := ?_)|exact rfl|trivial)
    all_goals exact Stop.mk rfl
  · intro i hi
    repeat' (first|refine zst ?_|(refine zhm fun hb=>?_;try first|omega|exact absurd rfl hb)|refine zgc ?_ ?_|refine zgx ?_ ?_|(apply op_id;first|refine zk45 rfl ?_|refine zk46 rfl ?_|refine zgq ?_)|(apply q_id;first|refine zk0 ?_|refine zk5 ?_|refine zk11 ?_|refine zk12 (fun _ => ?_)|refine zk13 rfl rfl rfl ?_|refine zk14 ?_|refine zk19 ?_|refine zk31 ?_|refine zk32 rfl rfl rfl ?_|refine zk33 rfl ?_|refine zk34 rfl ?_))
    refine zr [] ?_ ?_
    repeat'(first|apply And.intro|exact zeb|refine zec ?_|exact zen|refine zeo ?_|exact zel|refine zem ?_|exact zep|refine zeq1 ?_|refine zea ?_|refine zei ?_ ?_|refine zex ?_|refine zca (hv := ?_)|refine zcb (hv := ?_)|exact rfl|trivial)
    all_goals exact Stop.mk rfl
theorem eqDue_r {x : Dx} : ACalls Tryz.prog 96 [dxA x, dxA x] [.d (.b true)] [] := by
  refine acalls_of tt Tryz.func96 rfl rfl rfl (fun w0 Z => ?_)
  repeat' (first|refine zst ?_|(refine zhm fun hb=>?_;try first|omega|exact absurd rfl hb)|refine zgc ?_ ?_|refine zgx ?_ ?_|(apply op_id;first|refine zgq ?_)|(apply q_id;first|refine zk29 ns_ok (by kernel_rfl) ?_))
  all_goals first | exact absurd rfl (by assumption) | skip
  refine zr [] ?_ ?_
  repeat'(first|apply And.intro|exact zeb|refine zec ?_|exact zen|refine zeo ?_|exact zel|refine zem ?_|exact zep|refine zeq1 ?_|refine zea ?_|refine zei ?_ ?_|refine zex ?_|refine zca (hv := ?_)|refine zcb (hv := ?_)|exact rfl|trivial)
  all_goals exact Stop.mk rfl
theorem eqDueS_r {l : List Dx} (h : l.length ≤ 1000000000)  : ACalls Tryz.prog 28 [.d (.sl (dxE l)), .d (.sl (dxE l))] [.d (.b true)] [] := by
  refine acalls_of tt Tryz.func28 rfl rfl rfl (fun w0 Z => ?_)
  have hl := dxE_length l
  repeat' (first|refine zst ?_|(refine zhm fun hb=>?_;try first|omega|exact absurd rfl hb)|(apply awp_drawq;exact rfl;kernel_rfl;kernel_rfl;exact rfl)|(apply awp_drawx;exact rfl;kernel_rfl;exact rfl)|(apply aopQ_ok;exact rfl)|apply qs_nil|(apply ch_nil;exact rfl)|((first|(apply ch_cons;iterate 2 exact rfl)|(apply ch_yes;iterate 4 exact rfl));(iterate 2 exact rfl);(· (intro w0 Z O;first|(apply aop_ok;exact rfl)|(apply QOk.ok;first|refine zk0 ?_|refine zk5 ?_|refine zk11 ?_|refine zk12 (fun _ => ?_)|refine zk13 rfl rfl rfl ?_|refine zk14 ?_|refine zk19 ?_|refine zk29 ns_ok (by kernel_rfl) ?_|refine zk31 ?_|refine zk32 rfl rfl rfl ?_|refine zk33 rfl ?_|refine zk34 rfl ?_)|refine zk45 rfl ?_|refine zk46 rfl ?_);exact ⟨rfl, rfl, rfl⟩);(iterate 2 exact rfl);exact zsl;exact zft;(iterate 4 exact rfl))|(apply ch_no;iterate 10 exact rfl)|(apply ch_no2;iterate 9 exact rfl)|refine zcx ?_ ?_|refine zgc ?_ ?_|refine zgx ?_ ?_|(first|(apply qs_cons;exact rfl)|(apply qs_yes;exact rfl;exact rfl;exact rfl))|refine zqx ?_ ?_|(apply op_id;first|refine zk45 rfl ?_|refine zk46 rfl ?_|refine zgq ?_)|(apply q_id;first|refine zk0 ?_|refine zk5 ?_|refine zk11 ?_|refine zk12 (fun _ => ?_)|refine zk13 rfl rfl rfl ?_|refine zk14 ?_|refine zk19 ?_|refine zk29 ns_ok (by kernel_rfl) ?_|refine zk31 ?_|refine zk32 rfl rfl rfl ?_|refine zk33 rfl ?_|refine zk34 rfl ?_))
  all_goals first | exact absurd rfl (by assumption) | skip
  refine awp_loop (fun (i : Nat) => ⟨27, [(0, .d (.sl (dxE l))), (1, .d (.sl (dxE l))), (5, .d (.n .i64 i))], []⟩) (fun i => i ≤ l.length) (fun i => l.length - i) 0 (by exact Nat.zero_le _) ?_ ?_
  · refine ⟨rfl, ?_, ?_, rfl⟩
    repeat'(first|apply And.intro|exact zeb|refine zec ?_|exact zen|refine zeo ?_|exact zel|refine zem ?_|exact zep|refine zeq1 ?_|refine zea ?_|refine zei ?_ ?_|refine zex ?_|refine zca (hv := ?_)|refine zcb (hv := ?_)|exact rfl|trivial)
    all_goals exact Stop.mk rfl
  · intro i hi
    by_cases hi' : i < l.length
    · repeat' (first|refine zst ?_|(refine zhm fun hb=>?_;try first|omega|exact absurd rfl hb)|(apply awp_drawq;exact rfl;kernel_rfl;kernel_rfl;exact rfl)|(apply awp_drawx;exact rfl;kernel_rfl;exact rfl)|(apply aopQ_ok;exact rfl)|apply qs_nil|(apply ch_nil;exact rfl)|((first|(apply ch_cons;iterate 2 exact rfl)|(apply ch_yes;iterate 4 exact rfl));(iterate 2 exact rfl);(· (intro w0 Z O;first|(apply aop_ok;exact rfl)|(apply QOk.ok;first|refine zk0 ?_|refine zk5 ?_|refine zk11 ?_|refine zk12 (fun _ => ?_)|refine zk13 rfl rfl rfl ?_|refine zk14 ?_|refine zk19 ?_|refine zk29 ns_ok (by kernel_rfl) ?_|refine zk31 ?_|refine zk32 rfl rfl rfl ?_|refine zk33 rfl ?_|refine zk34 rfl ?_)|refine zk45 rfl ?_|refine zk46 rfl ?_|refine kc (eqDue_r (x := nth l i)) rfl rfl ?_);exact ⟨rfl, rfl, rfl⟩);(iterate 2 exact rfl);exact zsl;exact zft;(iterate 4 exact rfl))|(apply ch_no;iterate 10 exact rfl)|(apply ch_no2;iterate 9 exact rfl)|refine zcx ?_ ?_|refine zgc ?_ ?_|refine zgx ?_ ?_|(first|(apply qs_cons;exact rfl)|(apply qs_yes;exact rfl;exact rfl;exact rfl))|refine zqx ?_ ?_|(apply q_id;first|refine kq (eqDue_r (x := nth l i)) rfl rfl ?_)|(apply op_id;first|refine zk45 rfl ?_|refine zk46 rfl ?_|refine kc (eqDue_r (x := nth l i)) rfl rfl ?_|refine zgq ?_)|(apply q_id;first|refine zk0 ?_|refine zk5 ?_|refine zk11 ?_|refine zk12 (fun _ => ?_)|refine zk13 rfl rfl rfl ?_|refine zk14 ?_|refine zk19 ?_|refine zk29 ns_ok (by kernel_rfl) ?_|refine zk31 ?_|refine zk32 rfl rfl rfl ?_|refine zk33 rfl ?_|refine zk34 rfl ?_))
      all_goals first | exact absurd rfl (by assumption) | skip
      refine ⟨i + 1, by omega, by omega, ?_⟩
      refine ⟨rfl, ?_, ?_, rfl⟩
      repeat'(first|apply And.intro|exact zeb|refine zec ?_|exact zen|refine zeo ?_|exact zel|refine zem ?_|exact zep|refine zeq1 ?_|refine zea ?_|refine zei ?_ ?_|refine zex ?_|refine zca (hv := ?_)|refine zcb (hv := ?_)|exact rfl|trivial)
      all_goals exact Stop.mk rfl
    · repeat' (first|refine zst ?_|(refine zhm fun hb=>?_;try first|omega|exact absurd rfl hb)|(apply awp_drawq;exact rfl;kernel_rfl;kernel_rfl;exact rfl)|(apply awp_drawx;exact rfl;kernel_rfl;exact rfl)|(apply aopQ_ok;exact rfl)|apply qs_nil|(apply ch_nil;exact rfl)|((first|(apply ch_cons;iterate 2 exact rfl)|(apply ch_yes;iterate 4 exact rfl));(iterate 2 exact rfl);(· (intro w0 Z O;first|(apply aop_ok;exact rfl)|(apply QOk.ok;first|refine zk0 ?_|refine zk5 ?_|refine zk11 ?_|refine zk12 (fun _ => ?_)|refine zk13 rfl rfl rfl ?_|refine zk14 ?_|refine zk19 ?_|refine zk29 ns_ok (by kernel_rfl) ?_|refine zk31 ?_|refine zk32 rfl rfl rfl ?_|refine zk33 rfl ?_|refine zk34 rfl ?_)|refine zk45 rfl ?_|refine zk46 rfl ?_);exact ⟨rfl, rfl, rfl⟩);(iterate 2 exact rfl);exact zsl;exact zft;(iterate 4 exact rfl))|(apply ch_no;iterate 10 exact rfl)|(apply ch_no2;iterate 9 exact rfl)|refine zcx ?_ ?_|refine zgc ?_ ?_|refine zgx ?_ ?_|(first|(apply qs_cons;exact rfl)|(apply qs_yes;exact rfl;exact rfl;exact rfl))|refine zqx ?_ ?_|(apply op_id;first|refine zk45 rfl ?_|refine zk46 rfl ?_|refine zgq ?_)|(apply q_id;first|refine zk0 ?_|refine zk5 ?_|refine zk11 ?_|refine zk12 (fun _ => ?_)|refine zk13 rfl rfl rfl ?_|refine zk14 ?_|refine zk19 ?_|refine zk29 ns_ok (by kernel_rfl) ?_|refine zk31 ?_|refine zk32 rfl rfl rfl ?_|refine zk33 rfl ?_|refine zk34 rfl ?_))
      refine zr [] ?_ ?_
      repeat'(first|apply And.intro|exact zeb|refine zec ?_|exact zen|refine zeo ?_|exact zel|refine zem ?_|exact zep|refine zeq1 ?_|refine zea ?_|refine zei ?_ ?_|refine zex ?_|refine zca (hv := ?_)|refine zcb (hv := ?_)|exact rfl|trivial)
      all_goals exact Stop.mk rfl
def dueOf (r : Run) : Dx := ⟨r.at' + r.job.wall, r.job.id⟩
noncomputable def duesL (s : State) : List Dx := if stateOkB s = true then s.runs.map dueOf else []
theorem dx_push {l : List Run} {i : Nat} (h : i < l.length) : dxE ((l.take i).map dueOf) ++ [[.n .i64 ((nth l i).at' + (nth l i).job.wall), .n .i64 (nth l i).job.id]] = dxE ((l.take (i + 1)).map dueOf) := by
  rw [List.take_succ_eq_append_getElem h, List.map_append, dxE, dxE, List.map_append]
  have e : nth l i = l[i] := by simp [nth, h]
  rw [e]
  rfl
theorem stateRun_in {s : State} (hok : stateOkB s = true) {i : Nat} (hi : i < s.runs.length) : 0 ≤ (nth s.runs i).at' + (nth s.runs i).job.wall ∧ (nth s.runs i).at' + (nth s.runs i).job.wall ≤ 1000000000 := by
  have h := pB_t.1 hok
  have hr := h.room
  cases hq : roomOf s with
  | none => rw [hq] at hr; cases hr
  | some r =>
    obtain ⟨_, _, _, h4, h5⟩ := roomOf_ok hq
    obtain ⟨_, g1, g2, g3⟩ := runB_iff.1 (h5 _ (nth_mem hi)).1
    have := h4.now
    omega
theorem duesOf_e {s : State} (hs : Small 100000000 s) (hok : stateOkB s = true) : ACalls Tryz.prog 27 [stateA s] [.row 0] [(0, .row 136 (dxE (s.runs.map dueOf)) true)] := by
  refine acalls_of tt Tryz.func27 rfl rfl rfl (fun w0 Z => ?_)
  have c1 := stateOk_e hs
  rw [hok] at c1
  have hl := runE_length s.runs
  have h5 := hs.run
  repeat' (first|refine zst ?_|(refine zhm fun hb=>?_;try first|omega|exact absurd rfl hb)|refine zgc ?_ ?_|refine zgx ?_ ?_|(apply op_id;first|refine zk35 rfl rfl rfl ?_|refine zk36 rfl rfl rfl ?_|refine zk37 rfl rfl rfl ?_|refine zk38 rfl rfl rfl ?_|refine zk39 rfl rfl rfl ?_|refine zk40 rfl rfl rfl ?_|refine zk42 rfl rfl rfl ?_|refine zk45 rfl ?_|refine zk46 rfl ?_|refine kc (c1) rfl rfl ?_|refine zgq ?_)|(apply q_id;first|refine zk0 ?_|refine zk5 ?_|refine zk11 ?_|refine zk12 (fun _ => ?_)|refine zk13 rfl rfl rfl ?_|refine zk14 ?_|refine zk19 ?_|refine zk23 rfl ?_|refine zk31 ?_|refine zk32 rfl rfl rfl ?_|refine zk33 rfl ?_|refine zk34 rfl ?_))
  refine awp_loop (fun (i : Nat) => ⟨32, [(11, .d (.sl (runE s.runs))), (12, .d (.n .i64 (s.runs.length : Nat))), (13, .d (.n .i64 i)), (3, .row 9)], [(9, .row 136 (dxE ((s.runs.take i).map dueOf)) true)]⟩) (fun i => i ≤ s.runs.length) (fun i => s.runs.length - i) 0 (by exact Nat.zero_le _) ?_ ?_
  · refine ⟨rfl, ?_, ?_, rfl⟩
    repeat'(first|apply And.intro|exact zeb|refine zec ?_|exact zen|refine zeo ?_|exact zel|refine zem ?_|exact zep|refine zeq1 ?_|refine zea ?_|refine zei ?_ ?_|refine zex ?_|refine zca (hv := ?_)|refine zcb (hv := ?_)|exact rfl|trivial)
    all_goals exact Stop.mk rfl
  · intro i hi
    have hd : ((s.runs.take i).map dueOf).length = i := by rw [List.length_map, List.length_take]; omega
    by_cases hi' : i < s.runs.length
    · have hin := stateRun_in hok hi'
      repeat' (first|refine zst ?_|(refine zhm fun hb=>?_;try first|omega|exact absurd rfl hb)|refine zgc ?_ ?_|refine zgx ?_ ?_|(apply op_id;first|refine zk35 rfl rfl rfl ?_|refine zk36 rfl rfl rfl ?_|refine zk37 rfl rfl rfl ?_|refine zk38 rfl rfl rfl ?_|refine zk39 rfl rfl rfl ?_|refine zk40 rfl rfl rfl ?_|refine zk42 rfl rfl rfl ?_|refine zk45 rfl ?_|refine zk46 rfl ?_|refine zgq ?_)|(apply q_id;first|refine zk0 ?_|refine zk5 ?_|refine zk11 ?_|refine zk12 (fun _ => ?_)|refine zk13 rfl rfl rfl ?_|refine zk14 ?_|refine zk19 ?_|refine zk23 rfl ?_|refine zk31 ?_|refine zk32 rfl rfl rfl ?_|refine zk33 rfl ?_|refine zk34 rfl ?_))
      refine ⟨i + 1, by omega, by omega, ?_⟩
      refine ⟨rfl, ?_, ?_, rfl⟩
      repeat'(first|apply And.intro|exact zeb|refine zec ?_|exact zen|refine zeo ?_|exact zel|refine zem ?_|exact zep|refine zeq1 ?_|refine zea ?_|refine zei ?_ ?_|refine zex ?_|refine zca (hv := ?_)|refine zcb (hv := ?_)|exact rfl|trivial)
      all_goals exact Stop.mk (by first | rfl | exact dx_push hi')
    · obtain rfl : i = s.runs.length := by omega
      repeat' (first|refine zst ?_|(refine zhm fun hb=>?_;try first|omega|exact absurd rfl hb)|refine zgc ?_ ?_|refine zgx ?_ ?_|(apply op_id;first|refine zk35 rfl rfl rfl ?_|refine zk36 rfl rfl rfl ?_|refine zk37 rfl rfl rfl ?_|refine zk38 rfl rfl rfl ?_|refine zk39 rfl rfl rfl ?_|refine zk40 rfl rfl rfl ?_|refine zk42 rfl rfl rfl ?_|refine zk45 rfl ?_|refine zk46 rfl ?_|refine zgq ?_)|(apply q_id;first|refine zk0 ?_|refine zk5 ?_|refine zk11 ?_|refine zk12 (fun _ => ?_)|refine zk13 rfl rfl rfl ?_|refine zk14 ?_|refine zk19 ?_|refine zk23 rfl ?_|refine zk31 ?_|refine zk32 rfl rfl rfl ?_|refine zk33 rfl ?_|refine zk34 rfl ?_))
      refine zr [9] ?_ ?_
      repeat'(first|apply And.intro|exact zeb|refine zec ?_|exact zen|refine zeo ?_|exact zel|refine zem ?_|exact zep|refine zeq1 ?_|refine zea ?_|refine zei ?_ ?_|refine zex ?_|refine zca (hv := ?_)|refine zcb (hv := ?_)|exact rfl|trivial)
      all_goals exact Stop.mk (by first | rfl | rw [List.take_length])
theorem duesOf_e0 {s : State} (hs : Small 100000000 s) (hok : stateOkB s = false) : ACalls Tryz.prog 27 [stateA s] [.nil] [] := by
  refine acalls_of tt Tryz.func27 rfl rfl rfl (fun w0 Z => ?_)
  have c1 := stateOk_e hs
  rw [hok] at c1
  repeat' (first|refine zst ?_|(refine zhm fun hb=>?_;try first|omega|exact absurd rfl hb)|refine zgc ?_ ?_|refine zgx ?_ ?_|(apply op_id;first|refine zk35 rfl rfl rfl ?_|refine zk36 rfl rfl rfl ?_|refine zk37 rfl rfl rfl ?_|refine zk38 rfl rfl rfl ?_|refine zk39 rfl rfl rfl ?_|refine zk40 rfl rfl rfl ?_|refine zk42 rfl rfl rfl ?_|refine zk45 rfl ?_|refine zk46 rfl ?_|refine kc (c1) rfl rfl ?_|refine zgq ?_)|(apply q_id;first|refine zk0 ?_|refine zk5 ?_|refine zk11 ?_|refine zk12 (fun _ => ?_)|refine zk13 rfl rfl rfl ?_|refine zk14 ?_|refine zk19 ?_|refine zk23 rfl ?_|refine zk31 ?_|refine zk32 rfl rfl rfl ?_|refine zk33 rfl ?_|refine zk34 rfl ?_))
  refine zr [] ?_ ?_
  repeat'(first|apply And.intro|exact zeb|refine zec ?_|exact zen|refine zeo ?_|exact zel|refine zem ?_|exact zep|refine zeq1 ?_|refine zea ?_|refine zei ?_ ?_|refine zex ?_|refine zca (hv := ?_)|refine zcb (hv := ?_)|exact rfl|trivial)
  all_goals exact Stop.mk rfl
theorem duesOf_s {s : State} (hs : Small 100000000 s) : ACalls Tryz.prog 26 [stateA s] [.row 0] [(0, .row 136 (dxE (duesL s)) true)] := by
  refine acalls_of tt Tryz.func26 rfl rfl rfl (fun w0 Z => ?_)
  have c1 := stateOk_s hs
  have hl := runE_length s.runs
  have h5 := hs.run
  cases hok : stateOkB s with
  | false =>
    rw [hok] at c1
    have hd : duesL s = [] := by unfold duesL; rw [hok]; rfl
    rw [hd]
    repeat' (first|refine zst ?_|(refine zhm fun hb=>?_;try first|omega|exact absurd rfl hb)|refine zgc ?_ ?_|refine zgx ?_ ?_|(apply op_id;first|refine zk35 rfl rfl rfl ?_|refine zk36 rfl rfl rfl ?_|refine zk37 rfl rfl rfl ?_|refine zk38 rfl rfl rfl ?_|refine zk39 rfl rfl rfl ?_|refine zk40 rfl rfl rfl ?_|refine zk42 rfl rfl rfl ?_|refine zk45 rfl ?_|refine zk46 rfl ?_|refine kc (c1) rfl rfl ?_|refine zgq ?_)|(apply q_id;first|refine zk0 ?_|refine zk5 ?_|refine zk11 ?_|refine zk12 (fun _ => ?_)|refine zk13 rfl rfl rfl ?_|refine zk14 ?_|refine zk19 ?_|refine zk23 rfl ?_|refine zk31 ?_|refine zk32 rfl rfl rfl ?_|refine zk33 rfl ?_|refine zk34 rfl ?_))
    refine zr [6] ?_ ?_
    repeat'(first|apply And.intro|exact zeb|refine zec ?_|exact zen|refine zeo ?_|exact zel|refine zem ?_|exact zep|refine zeq1 ?_|refine zea ?_|refine zei ?_ ?_|refine zex ?_|refine zca (hv := ?_)|refine zcb (hv := ?_)|exact rfl|trivial)
    all_goals exact Stop.mk rfl
  | true =>
    rw [hok] at c1
    have hd : duesL s = s.runs.map dueOf := by unfold duesL; rw [hok]; rfl
    rw [hd]
    repeat' (first|refine zst ?_|(refine zhm fun hb=>?_;try first|omega|exact absurd rfl hb)|refine zgc ?_ ?_|refine zgx ?_ ?_|(apply op_id;first|refine zk35 rfl rfl rfl ?_|refine zk36 rfl rfl rfl ?_|refine zk37 rfl rfl rfl ?_|refine zk38 rfl rfl rfl ?_|refine zk39 rfl rfl rfl ?_|refine zk40 rfl rfl rfl ?_|refine zk42 rfl rfl rfl ?_|refine zk45 rfl ?_|refine zk46 rfl ?_|refine kc (c1) rfl rfl ?_|refine zgq ?_)|(apply q_id;first|refine zk0 ?_|refine zk5 ?_|refine zk11 ?_|refine zk12 (fun _ => ?_)|refine zk13 rfl rfl rfl ?_|refine zk14 ?_|refine zk19 ?_|refine zk23 rfl ?_|refine zk31 ?_|refine zk32 rfl rfl rfl ?_|refine zk33 rfl ?_|refine zk34 rfl ?_))
    refine awp_loop (fun (i : Nat) => ⟨33, [(12, .d (.sl (runE s.runs))), (13, .d (.n .i64 (s.runs.length : Nat))), (14, .d (.n .i64 i)), (3, .row 6)], [(6, .row 136 (dxE ((s.runs.take i).map dueOf)) true)]⟩) (fun i => i ≤ s.runs.length) (fun i => s.runs.length - i) 0 (by exact Nat.zero_le _) ?_ ?_
    · refine ⟨rfl, ?_, ?_, rfl⟩
      repeat'(first|apply And.intro|exact zeb|refine zec ?_|exact zen|refine zeo ?_|exact zel|refine zem ?_|exact zep|refine zeq1 ?_|refine zea ?_|refine zei ?_ ?_|refine zex ?_|refine zca (hv := ?_)|refine zcb (hv := ?_)|exact rfl|trivial)
      all_goals exact Stop.mk rfl
    · intro i hi
      have hd : ((s.runs.take i).map dueOf).length = i := by rw [List.length_map, List.length_take]; omega
      by_cases hi' : i < s.runs.length
      · have hin := stateRun_in hok hi'
        repeat' (first|refine zst ?_|(refine zhm fun hb=>?_;try first|omega|exact absurd rfl hb)|refine zgc ?_ ?_|refine zgx ?_ ?_|(apply op_id;first|refine zk35 rfl rfl rfl ?_|refine zk36 rfl rfl rfl ?_|refine zk37 rfl rfl rfl ?_|refine zk38 rfl rfl rfl ?_|refine zk39 rfl rfl rfl ?_|refine zk40 rfl rfl rfl ?_|refine zk42 rfl rfl rfl ?_|refine zk45 rfl ?_|refine zk46 rfl ?_|refine zgq ?_)|(apply q_id;first|refine zk0 ?_|refine zk5 ?_|refine zk11 ?_|refine zk12 (fun _ => ?_)|refine zk13 rfl rfl rfl ?_|refine zk14 ?_|refine zk19 ?_|refine zk23 rfl ?_|refine zk31 ?_|refine zk32 rfl rfl rfl ?_|refine zk33 rfl ?_|refine zk34 rfl ?_))
        refine ⟨i + 1, by omega, by omega, ?_⟩
        refine ⟨rfl, ?_, ?_, rfl⟩
        repeat'(first|apply And.intro|exact zeb|refine zec ?_|exact zen|refine zeo ?_|exact zel|refine zem ?_|exact zep|refine zeq1 ?_|refine zea ?_|refine zei ?_ ?_|refine zex ?_|refine zca (hv := ?_)|refine zcb (hv := ?_)|exact rfl|trivial)
        all_goals exact Stop.mk (by first | rfl | exact dx_push hi')
      · obtain rfl : i = s.runs.length := by omega
        repeat' (first|refine zst ?_|(refine zhm fun hb=>?_;try first|omega|exact absurd rfl hb)|refine zgc ?_ ?_|refine zgx ?_ ?_|(apply op_id;first|refine zk35 rfl rfl rfl ?_|refine zk36 rfl rfl rfl ?_|refine zk37 rfl rfl rfl ?_|refine zk38 rfl rfl rfl ?_|refine zk39 rfl rfl rfl ?_|refine zk40 rfl rfl rfl ?_|refine zk42 rfl rfl rfl ?_|refine zk45 rfl ?_|refine zk46 rfl ?_|refine zgq ?_)|(apply q_id;first|refine zk0 ?_|refine zk5 ?_|refine zk11 ?_|refine zk12 (fun _ => ?_)|refine zk13 rfl rfl rfl ?_|refine zk14 ?_|refine zk19 ?_|refine zk23 rfl ?_|refine zk31 ?_|refine zk32 rfl rfl rfl ?_|refine zk33 rfl ?_|refine zk34 rfl ?_))
        refine zr [6] ?_ ?_
        repeat'(first|apply And.intro|exact zeb|refine zec ?_|exact zen|refine zeo ?_|exact zel|refine zem ?_|exact zep|refine zeq1 ?_|refine zea ?_|refine zei ?_ ?_|refine zex ?_|refine zca (hv := ?_)|refine zcb (hv := ?_)|exact rfl|trivial)
        all_goals exact Stop.mk (by first | rfl | rw [List.take_length])
end Go.Proofs.YtliopiphobopjaaGreat
