/-
  Copies of states as rows of the caller's own; CtlNew, both.
-/
import Derived.Test.YtliopiphobopjaaGreatKSh
import Derived.Test.YtliopiphobopjaaGreatKGmF
import Derived.Test.YtliopiphobopjaaGreatKGaV
import Derived.Test.YtliopiphobopjaaGreatKB5
set_option maxRecDepth 100000
set_option maxHeartbeats 16000000
namespace Go.Proofs.YtliopiphobopjaaGreat
open Go Go.RowKit
attribute [local irreducible] AWp OpsOk OpOk ACalls ChA QsOk MCalls EnC PY
theorem copyInts_o {l : List Int} (h : l.length ≤ 1000000000) : ACalls Tryz.prog 188 [.d (.sl (intE l))] [.row 0] [(0, .row 3 (intE l) true)] := by
  refine acalls_of tt Tryz.func188 rfl rfl rfl (fun w0 Z => ?_)
  repeat' (first|refine zst ?_|(refine zhm fun hb=>?_;try first|omega|exact absurd rfl hb)|refine zgc ?_ ?_|refine zgx ?_ ?_|(apply op_id;first|refine zk35 rfl rfl rfl ?_|refine zk36 rfl rfl rfl ?_|refine zk37 rfl rfl rfl ?_|refine zk38 rfl rfl rfl ?_|refine zk39 rfl rfl rfl ?_))
  refine zr [4] ?_ ?_
  repeat'(first|apply And.intro|exact zeb|refine zec ?_|exact zen|refine zeo ?_|exact zel|refine zem ?_|exact zep|refine zeq1 ?_|refine zea ?_|refine zei ?_ ?_|refine zex ?_|refine zca (hv := ?_)|refine zcb (hv := ?_)|exact rfl|trivial)
  all_goals exact Stop.mk rfl
theorem copyTopo_o {t : Topo} (h1 : t.parents.length ≤ 1000000000) (h2 : t.nodes.length ≤ 1000000000) : ACalls Tryz.prog 187 [topoA t] [.agg [.row 0, .row 1]] [(0, .row 3 (intE t.parents) true), (1, .row 204 (nodeE t.nodes) true)] := by
  refine acalls_of tt Tryz.func187 rfl rfl rfl (fun w0 Z => ?_)
  repeat' (first|refine zst ?_|(refine zhm fun hb=>?_;try first|omega|exact absurd rfl hb)|(apply awp_drawq;exact rfl;kernel_rfl;kernel_rfl;exact rfl)|(apply awp_drawx;exact rfl;kernel_rfl;exact rfl)|(apply aopQ_ok;exact rfl)|apply qs_nil|(apply ch_nil;exact rfl)|((first|(apply ch_cons;iterate 2 exact rfl)|(apply ch_yes;iterate 4 exact rfl));(iterate 2 exact rfl);(· (intro w0 Z O;first|(apply aop_ok;exact rfl)|(apply QOk.ok;first|refine zk23 rfl ?_)|refine zk35 rfl rfl rfl ?_|refine zk36 rfl rfl rfl ?_|refine zk37 rfl rfl rfl ?_|refine zk38 rfl rfl rfl ?_|refine zk39 rfl rfl rfl ?_|refine kc (copyInts_o (l := t.parents) h1) rfl rfl ?_);exact ⟨rfl, rfl, rfl⟩);(iterate 2 exact rfl);exact zsl;exact zft;(iterate 4 exact rfl))|(apply ch_no;iterate 10 exact rfl)|(apply ch_no2;iterate 9 exact rfl)|refine zcx ?_ ?_|refine zgc ?_ ?_|refine zgx ?_ ?_|(first|(apply qs_cons;exact rfl)|(apply qs_yes;exact rfl;exact rfl;exact rfl))|refine zqx ?_ ?_|(apply q_id;first|refine kq (copyInts_o (l := t.parents) h1) rfl rfl ?_)|(apply op_id;first|refine zk35 rfl rfl rfl ?_|refine zk36 rfl rfl rfl ?_|refine zk37 rfl rfl rfl ?_|refine zk38 rfl rfl rfl ?_|refine zk39 rfl rfl rfl ?_|refine kc (copyInts_o (l := t.parents) h1) rfl rfl ?_|refine zgq ?_)|(apply q_id;first|refine zk23 rfl ?_))
  refine zr [5, 8] ?_ ?_
  repeat'(first|apply And.intro|exact zeb|refine zec ?_|exact zen|refine zeo ?_|exact zel|refine zem ?_|exact zep|refine zeq1 ?_|refine zea ?_|refine zei ?_ ?_|refine zex ?_|refine zca (hv := ?_)|refine zcb (hv := ?_)|exact rfl|trivial)
  all_goals exact Stop.mk rfl
theorem runs_push {l : List Run} {i : Nat} (h : i < l.length) : runE (l.take i) ++ [runD (nth l i)] = runE (l.take (i + 1)) := by
  rw [List.take_succ_eq_append_getElem h, runE, runE, List.map_append]
  have e : nth l i = l[i] := by simp [nth, h]
  rw [e]
  rfl
theorem copyState_o {s : State} (hs : Small 100000000 s) : ACalls Tryz.prog 104 [stateA s] [stateO s 0 1 2 3 4 5] (stateR s) := by
  refine acalls_of tt Tryz.func104 rfl rfl rfl (fun w0 Z => ?_)
  have hl := runE_length s.runs
  have h1 := hs.par; have h2 := hs.nod; have h3 := hs.up; have h4 := hs.que; have h5 := hs.run; have h6 := hs.end'
  repeat' (first|refine zst ?_|(refine zhm fun hb=>?_;try first|omega|exact absurd rfl hb)|refine zgc ?_ ?_|refine zgx ?_ ?_|(apply op_id;first|refine zk35 rfl rfl rfl ?_|refine zk36 rfl rfl rfl ?_|refine zk37 rfl rfl rfl ?_|refine zk38 rfl rfl rfl ?_|refine zk39 rfl rfl rfl ?_|refine zk40 rfl rfl rfl ?_|refine zk42 rfl rfl rfl ?_|refine zk45 rfl ?_|refine zk46 rfl ?_|refine kc (copyTopo_o (t := s.topo) (by omega) (by omega)) rfl rfl ?_|refine zgq ?_)|(apply q_id;first|refine zk0 ?_|refine zk5 ?_|refine zk11 ?_|refine zk12 (fun _ => ?_)|refine zk13 rfl rfl rfl ?_|refine zk14 ?_|refine zk19 ?_|refine zk31 ?_|refine zk32 rfl rfl rfl ?_|refine zk33 rfl ?_|refine zk34 rfl ?_))
  refine awp_nilrow 3 3 116 rfl rfl rfl ?_
  refine awp_loop (fun (k : Nat) => ⟨41, [(1, .ptr 1 0), (2, .ptr 2 0), (3, .row 3), (19, .d (.sl (runE s.runs))), (20, .d (.n .i64 (s.runs.length : Nat))), (21, .d (.n .i64 k))], [(3, .row 116 (runE (s.runs.take k)) true), (8, .row 3 (intE s.topo.parents) true), (1008, .row 204 (nodeE s.topo.nodes) true), (12, .row 4 (boolE s.up) true), (16, .row 94 (jobE s.queue) true), (1, .box 44 [.row 8, .row 1008, .row 12, .d (.n .i64 s.lic.a), .d (.n .i64 s.lic.b), .d (.n .i64 s.lic.c), .d (.n .i64 s.depth), .d (.n .i64 s.now), .row 16, .d (.sl (runE s.runs)), .d (.sl (endE s.ends))]), (2, .box 44 [.nil, .nil, .nil, .d (.n .i64 0), .d (.n .i64 0), .d (.n .i64 0), .d (.n .i64 0), .d (.n .i64 0), .nil, .nil, .nil])]⟩) (fun k => k ≤ s.runs.length) (fun k => s.runs.length - k) 0 (by exact Nat.zero_le _) ?_ ?_
  · refine ⟨rfl, ?_, ?_, rfl⟩
    repeat'(first|apply And.intro|exact zeb|refine zec ?_|exact zen|refine zeo ?_|exact zel|refine zem ?_|exact zep|refine zeq1 ?_|refine zea ?_|refine zei ?_ ?_|refine zex ?_|refine zca (hv := ?_)|refine zcb (hv := ?_)|exact rfl|trivial)
    all_goals exact Stop.mk rfl
  · intro k hk
    have hd2 : (runE (s.runs.take k)).length = k := by rw [runE_length, List.length_take]; omega
    by_cases hk' : k < s.runs.length
    · have hn := hs.rno k hk'
      repeat' (first|refine zst ?_|(refine zhm fun hb=>?_;try first|omega|exact absurd rfl hb)|refine zgc ?_ ?_|refine zgx ?_ ?_|(apply op_id;first|(refine st_litA rfl rfl rfl ⟨rfl, rfl, rfl⟩ rfl rfl rfl rfl rfl rfl rfl rfl (flatE_map fun _ => rfl) rfl rfl rfl rfl rfl ?_)|(refine st_appendA rfl rfl rfl rfl rfl rfl rfl rfl ⟨rfl, rfl, rfl⟩ hd2 (rfl : _ = 1) (by omega) rfl rfl ?_)|refine zk35 rfl rfl rfl ?_|refine zk36 rfl rfl rfl ?_|refine zk37 rfl rfl rfl ?_|refine zk38 rfl rfl rfl ?_|refine zk39 rfl rfl rfl ?_|refine zk40 rfl rfl rfl ?_|refine zk42 rfl rfl rfl ?_|refine zk45 rfl ?_|refine zk46 rfl ?_|refine kc (copyInts_o (l := (nth s.runs k).nodes) (by omega)) rfl rfl ?_|refine zgq ?_)|(apply q_id;first|refine zk0 ?_|refine zk5 ?_|refine zk11 ?_|refine zk12 (fun _ => ?_)|refine zk13 rfl rfl rfl ?_|refine zk14 ?_|refine zk19 ?_|refine zk31 ?_|refine zk32 rfl rfl rfl ?_|refine zk33 rfl ?_|refine zk34 rfl ?_))
      refine ⟨k + 1, by omega, by omega, ?_⟩
      refine ⟨rfl, ?_, ?_, rfl⟩
      repeat'(first|apply And.intro|exact zeb|refine zec ?_|exact zen|refine zeo ?_|exact zel|refine zem ?_|exact zep|refine zeq1 ?_|refine zea ?_|refine zei ?_ ?_|refine zex ?_|refine zca (hv := ?_)|refine zcb (hv := ?_)|exact rfl|trivial)
      all_goals exact Stop.mk (by first | rfl | exact runs_push hk')
    · obtain rfl : k = s.runs.length := by omega
      repeat' (first|refine zst ?_|(refine zhm fun hb=>?_;try first|omega|exact absurd rfl hb)|refine zgc ?_ ?_|refine zgx ?_ ?_|(apply op_id;first|refine zk35 rfl rfl rfl ?_|refine zk36 rfl rfl rfl ?_|refine zk37 rfl rfl rfl ?_|refine zk38 rfl rfl rfl ?_|refine zk39 rfl rfl rfl ?_|refine zk40 rfl rfl rfl ?_|refine zk42 rfl rfl rfl ?_|refine zk45 rfl ?_|refine zk46 rfl ?_|refine zgq ?_)|(apply q_id;first|refine zk0 ?_|refine zk5 ?_|refine zk11 ?_|refine zk12 (fun _ => ?_)|refine zk13 rfl rfl rfl ?_|refine zk14 ?_|refine zk19 ?_|refine zk31 ?_|refine zk32 rfl rfl rfl ?_|refine zk33 rfl ?_|refine zk34 rfl ?_))
      refine zr [8, 1008, 12, 16, 3, 38] ?_ ?_
      repeat'(first|apply And.intro|exact zeb|refine zec ?_|exact zen|refine zeo ?_|exact zel|refine zem ?_|exact zep|refine zeq1 ?_|refine zea ?_|refine zei ?_ ?_|refine zex ?_|refine zca (hv := ?_)|refine zcb (hv := ?_)|exact rfl|trivial)
      all_goals exact Stop.mk (by first | rfl | rw [List.take_length])
theorem l06Copy_o {s : State} (hs : Small 100000000 s) : ACalls Tryz.prog 103 [stateA s] [stateO s 0 1 2 3 4 5] (stateR s) := by
  refine acalls_of tt Tryz.func103 rfl rfl rfl (fun w0 Z => ?_)
  have hl := runE_length s.runs
  have h1 := hs.par; have h2 := hs.nod; have h3 := hs.up; have h4 := hs.que; have h5 := hs.run; have h6 := hs.end'
  repeat' (first|refine zst ?_|(refine zhm fun hb=>?_;try first|omega|exact absurd rfl hb)|(apply awp_drawq;exact rfl;kernel_rfl;kernel_rfl;exact rfl)|(apply awp_drawx;exact rfl;kernel_rfl;exact rfl)|(apply aopQ_ok;exact rfl)|apply qs_nil|(apply ch_nil;exact rfl)|((first|(apply ch_cons;iterate 2 exact rfl)|(apply ch_yes;iterate 4 exact rfl));(iterate 2 exact rfl);(· (intro w0 Z O;first|(apply aop_ok;exact rfl)|(apply QOk.ok;first|refine zk0 ?_|refine zk5 ?_|refine zk11 ?_|refine zk12 (fun _ => ?_)|refine zk13 rfl rfl rfl ?_|refine zk14 ?_|refine zk19 ?_|refine zk23 rfl ?_|refine zk31 ?_|refine zk32 rfl rfl rfl ?_|refine zk33 rfl ?_|refine zk34 rfl ?_)|refine zk35 rfl rfl rfl ?_|refine zk36 rfl rfl rfl ?_|refine zk37 rfl rfl rfl ?_|refine zk38 rfl rfl rfl ?_|refine zk39 rfl rfl rfl ?_|refine zk40 rfl rfl rfl ?_|refine zk42 rfl rfl rfl ?_|refine zk45 rfl ?_|refine zk46 rfl ?_);exact ⟨rfl, rfl, rfl⟩);(iterate 2 exact rfl);exact zsl;exact zft;(iterate 4 exact rfl))|(apply ch_no;iterate 10 exact rfl)|(apply ch_no2;iterate 9 exact rfl)|refine zcx ?_ ?_|refine zgc ?_ ?_|refine zgx ?_ ?_|(first|(apply qs_cons;exact rfl)|(apply qs_yes;exact rfl;exact rfl;exact rfl))|refine zqx ?_ ?_|(apply op_id;first|refine zk35 rfl rfl rfl ?_|refine zk36 rfl rfl rfl ?_|refine zk37 rfl rfl rfl ?_|refine zk38 rfl rfl rfl ?_|refine zk39 rfl rfl rfl ?_|refine zk40 rfl rfl rfl ?_|refine zk42 rfl rfl rfl ?_|refine zk45 rfl ?_|refine zk46 rfl ?_|refine zgq ?_)|(apply q_id;first|refine zk0 ?_|refine zk5 ?_|refine zk11 ?_|refine zk12 (fun _ => ?_)|refine zk13 rfl rfl rfl ?_|refine zk14 ?_|refine zk19 ?_|refine zk23 rfl ?_|refine zk31 ?_|refine zk32 rfl rfl rfl ?_|refine zk33 rfl ?_|refine zk34 rfl ?_))
  refine awp_loop (fun (k : Nat) => ⟨54, [(1, .ptr 1 0), (2, .ptr 2 0), (3, .row 28), (30, .d (.sl (runE s.runs))), (31, .d (.n .i64 (s.runs.length : Nat))), (32, .d (.n .i64 k))], [(28, .row 116 (runE (s.runs.take k)) true), (6, .row 3 (intE s.topo.parents) true), (11, .row 204 (nodeE s.topo.nodes) true), (18, .row 4 (boolE s.up) true), (23, .row 94 (jobE s.queue) true), (1, .box 44 [.row 6, .row 11, .row 18, .d (.n .i64 s.lic.a), .d (.n .i64 s.lic.b), .d (.n .i64 s.lic.c), .d (.n .i64 s.depth), .d (.n .i64 s.now), .row 23, .d (.sl (runE s.runs)), .d (.sl (endE s.ends))]), (2, .box 44 [.nil, .nil, .nil, .d (.n .i64 0), .d (.n .i64 0), .d (.n .i64 0), .d (.n .i64 0), .d (.n .i64 0), .nil, .nil, .nil])]⟩) (fun k => k ≤ s.runs.length) (fun k => s.runs.length - k) 0 (by exact Nat.zero_le _) ?_ ?_
  · refine ⟨rfl, ?_, ?_, rfl⟩
    repeat'(first|apply And.intro|exact zeb|refine zec ?_|exact zen|refine zeo ?_|exact zel|refine zem ?_|exact zep|refine zeq1 ?_|refine zea ?_|refine zei ?_ ?_|refine zex ?_|refine zca (hv := ?_)|refine zcb (hv := ?_)|exact rfl|trivial)
    all_goals exact Stop.mk rfl
  · intro k hk
    have hd2 : (runE (s.runs.take k)).length = k := by rw [runE_length, List.length_take]; omega
    by_cases hk' : k < s.runs.length
    · have hn := hs.rno k hk'
      repeat' (first|refine zst ?_|(refine zhm fun hb=>?_;try first|omega|exact absurd rfl hb)|(apply awp_drawq;exact rfl;kernel_rfl;kernel_rfl;exact rfl)|(apply awp_drawx;exact rfl;kernel_rfl;exact rfl)|(apply aopQ_ok;exact rfl)|apply qs_nil|(apply ch_nil;exact rfl)|((first|(apply ch_cons;iterate 2 exact rfl)|(apply ch_yes;iterate 4 exact rfl));(iterate 2 exact rfl);(· (intro w0 Z O;first|(apply aop_ok;exact rfl)|(apply QOk.ok;first|refine zk0 ?_|refine zk5 ?_|refine zk11 ?_|refine zk12 (fun _ => ?_)|refine zk13 rfl rfl rfl ?_|refine zk14 ?_|refine zk19 ?_|refine zk23 rfl ?_|refine zk31 ?_|refine zk32 rfl rfl rfl ?_|refine zk33 rfl ?_|refine zk34 rfl ?_)|refine zk35 rfl rfl rfl ?_|refine zk36 rfl rfl rfl ?_|refine zk37 rfl rfl rfl ?_|refine zk38 rfl rfl rfl ?_|refine zk39 rfl rfl rfl ?_|refine zk40 rfl rfl rfl ?_|refine zk42 rfl rfl rfl ?_|refine zk45 rfl ?_|refine zk46 rfl ?_);exact ⟨rfl, rfl, rfl⟩);(iterate 2 exact rfl);exact zsl;exact zft;(iterate 4 exact rfl))|(apply ch_no;iterate 10 exact rfl)|(apply ch_no2;iterate 9 exact rfl)|refine zcx ?_ ?_|refine zgc ?_ ?_|refine zgx ?_ ?_|(first|(apply qs_cons;exact rfl)|(apply qs_yes;exact rfl;exact rfl;exact rfl))|refine zqx ?_ ?_|(apply op_id;first|(refine st_litA rfl rfl rfl ⟨rfl, rfl, rfl⟩ rfl rfl rfl rfl rfl rfl rfl rfl (flatE_map fun _ => rfl) rfl rfl rfl rfl rfl ?_)|(refine st_appendA rfl rfl rfl rfl rfl rfl rfl rfl ⟨rfl, rfl, rfl⟩ hd2 (rfl : _ = 1) (by omega) rfl rfl ?_)|refine zk35 rfl rfl rfl ?_|refine zk36 rfl rfl rfl ?_|refine zk37 rfl rfl rfl ?_|refine zk38 rfl rfl rfl ?_|refine zk39 rfl rfl rfl ?_|refine zk40 rfl rfl rfl ?_|refine zk42 rfl rfl rfl ?_|refine zk45 rfl ?_|refine zk46 rfl ?_|refine zgq ?_)|(apply q_id;first|refine zk0 ?_|refine zk5 ?_|refine zk11 ?_|refine zk12 (fun _ => ?_)|refine zk13 rfl rfl rfl ?_|refine zk14 ?_|refine zk19 ?_|refine zk23 rfl ?_|refine zk31 ?_|refine zk32 rfl rfl rfl ?_|refine zk33 rfl ?_|refine zk34 rfl ?_))
      refine ⟨k + 1, by omega, by omega, ?_⟩
      refine ⟨rfl, ?_, ?_, rfl⟩
      repeat'(first|apply And.intro|exact zeb|refine zec ?_|exact zen|refine zeo ?_|exact zel|refine zem ?_|exact zep|refine zeq1 ?_|refine zea ?_|refine zei ?_ ?_|refine zex ?_|refine zca (hv := ?_)|refine zcb (hv := ?_)|exact rfl|trivial)
      all_goals exact Stop.mk (by first | rfl | exact runs_push hk')
    · obtain rfl : k = s.runs.length := by omega
      repeat' (first|refine zst ?_|(refine zhm fun hb=>?_;try first|omega|exact absurd rfl hb)|(apply awp_drawq;exact rfl;kernel_rfl;kernel_rfl;exact rfl)|(apply awp_drawx;exact rfl;kernel_rfl;exact rfl)|(apply aopQ_ok;exact rfl)|apply qs_nil|(apply ch_nil;exact rfl)|((first|(apply ch_cons;iterate 2 exact rfl)|(apply ch_yes;iterate 4 exact rfl));(iterate 2 exact rfl);(· (intro w0 Z O;first|(apply aop_ok;exact rfl)|(apply QOk.ok;first|refine zk0 ?_|refine zk5 ?_|refine zk11 ?_|refine zk12 (fun _ => ?_)|refine zk13 rfl rfl rfl ?_|refine zk14 ?_|refine zk19 ?_|refine zk23 rfl ?_|refine zk31 ?_|refine zk32 rfl rfl rfl ?_|refine zk33 rfl ?_|refine zk34 rfl ?_)|refine zk35 rfl rfl rfl ?_|refine zk36 rfl rfl rfl ?_|refine zk37 rfl rfl rfl ?_|refine zk38 rfl rfl rfl ?_|refine zk39 rfl rfl rfl ?_|refine zk40 rfl rfl rfl ?_|refine zk42 rfl rfl rfl ?_|refine zk45 rfl ?_|refine zk46 rfl ?_);exact ⟨rfl, rfl, rfl⟩);(iterate 2 exact rfl);exact zsl;exact zft;(iterate 4 exact rfl))|(apply ch_no;iterate 10 exact rfl)|(apply ch_no2;iterate 9 exact rfl)|refine zcx ?_ ?_|refine zgc ?_ ?_|refine zgx ?_ ?_|(first|(apply qs_cons;exact rfl)|(apply qs_yes;exact rfl;exact rfl;exact rfl))|refine zqx ?_ ?_|(apply op_id;first|refine zk35 rfl rfl rfl ?_|refine zk36 rfl rfl rfl ?_|refine zk37 rfl rfl rfl ?_|refine zk38 rfl rfl rfl ?_|refine zk39 rfl rfl rfl ?_|refine zk40 rfl rfl rfl ?_|refine zk42 rfl rfl rfl ?_|refine zk45 rfl ?_|refine zk46 rfl ?_|refine zgq ?_)|(apply q_id;first|refine zk0 ?_|refine zk5 ?_|refine zk11 ?_|refine zk12 (fun _ => ?_)|refine zk13 rfl rfl rfl ?_|refine zk14 ?_|refine zk19 ?_|refine zk23 rfl ?_|refine zk31 ?_|refine zk32 rfl rfl rfl ?_|refine zk33 rfl ?_|refine zk34 rfl ?_))
      refine zr [6, 11, 18, 23, 28, 48] ?_ ?_
      repeat'(first|apply And.intro|exact zeb|refine zec ?_|exact zen|refine zeo ?_|exact zel|refine zem ?_|exact zep|refine zeq1 ?_|refine zea ?_|refine zei ?_ ?_|refine zex ?_|refine zca (hv := ?_)|refine zcb (hv := ?_)|exact rfl|trivial)
      all_goals exact Stop.mk (by first | rfl | rw [List.take_length])
/-! ### CtlNew -/
structure FreshP (s : State) : Prop where
  ok : stateOkB s = true
  que : s.queue.length = 0
  run : s.runs.length = 0
  end' : s.ends.length = 0
@[reducible] def stC (s : State) (q0 q1 q2 q3 q4 q5 : Nat) : List AV := [.row q0, .row q1, .row q2, .d (.n .i64 s.lic.a), .d (.n .i64 s.lic.b), .d (.n .i64 s.lic.c), .d (.n .i64 s.depth), .d (.n .i64 s.now), .row q3, .row q4, .row q5]
@[reducible] def ctl0 : List AV := [.nil, .nil, .nil, .d (.n .i64 0), .d (.n .i64 0), .d (.n .i64 0), .d (.n .i64 0), .d (.n .i64 0), .nil, .nil, .nil]
@[reducible] def ctlR (s : State) : List (Nat × AO) := [(0, .row 3 (intE s.topo.parents) true), (1, .row 204 (nodeE s.topo.nodes) true), (2, .row 4 (boolE s.up) true), (3, .row 94 (jobE s.queue) true), (4, .row 116 (runE s.runs) true), (5, .row 134 (endE s.ends) true), (6, .row 3 (intE s.topo.parents) true), (7, .row 204 (nodeE s.topo.nodes) true), (8, .row 4 (boolE s.up) true), (9, .row 94 (jobE s.queue) true), (10, .row 116 (runE s.runs) true), (11, .row 134 (endE s.ends) true)]
theorem ctlNew_o {s : State} (hs : Small 100000000 s) (hf : FreshP s) : ACalls Tryz.prog 33 [stateA s] [.agg (stC s 0 1 2 3 4 5 ++ stC s 6 7 8 9 10 11 ++ [.nil, .d (.n .i64 0), .d (.n .i64 0)]), .d (.b true)] (ctlR s) := by
  refine acalls_of tt Tryz.func33 rfl rfl rfl (fun w0 Z => ?_)
  have c1 := stateOk_e hs
  rw [hf.ok] at c1
  have h4 := hf.que; have h5 := hf.run; have h6 := hf.end'
  repeat' (first|refine zst ?_|(refine zhm fun hb=>?_;try first|omega|exact absurd rfl hb)|(apply awp_drawq;exact rfl;kernel_rfl;kernel_rfl;exact rfl)|(apply awp_drawx;exact rfl;kernel_rfl;exact rfl)|(apply aopQ_ok;exact rfl)|apply qs_nil|(apply ch_nil;exact rfl)|((first|(apply ch_cons;iterate 2 exact rfl)|(apply ch_yes;iterate 4 exact rfl));(iterate 2 exact rfl);(· (intro w0 Z O;first|(apply aop_ok;exact rfl)|(apply QOk.ok;first|refine zk0 ?_|refine zk5 ?_|refine zk11 ?_|refine zk12 (fun _ => ?_)|refine zk19 ?_|refine zk23 rfl ?_|refine zk31 ?_)|refine kc (c1) rfl rfl ?_|refine kc (copyState_o hs) rfl rfl ?_);exact ⟨rfl, rfl, rfl⟩);(iterate 2 exact rfl);exact zsl;exact zft;(iterate 4 exact rfl))|(apply ch_no;iterate 10 exact rfl)|(apply ch_no2;iterate 9 exact rfl)|refine zcx ?_ ?_|refine zgc ?_ ?_|refine zgx ?_ ?_|(first|(apply qs_cons;exact rfl)|(apply qs_yes;exact rfl;exact rfl;exact rfl))|refine zqx ?_ ?_|(apply q_id;first|refine kq (c1) rfl rfl ?_|refine kq (copyState_o hs) rfl rfl ?_)|(apply op_id;first|refine kc (c1) rfl rfl ?_|refine kc (copyState_o hs) rfl rfl ?_|refine zgq ?_)|(apply q_id;first|refine zk0 ?_|refine zk5 ?_|refine zk11 ?_|refine zk12 (fun _ => ?_)|refine zk19 ?_|refine zk23 rfl ?_|refine zk31 ?_))
  refine zr [23, 1023, 2023, 3023, 4023, 5023, 25, 1025, 2025, 3025, 4025, 5025] ?_ ?_
  repeat'(first|apply And.intro|exact zeb|refine zec ?_|exact zen|refine zeo ?_|exact zel|refine zem ?_|exact zep|refine zeq1 ?_|refine zea ?_|refine zei ?_ ?_|refine zex ?_|refine zca (hv := ?_)|refine zcb (hv := ?_)|exact rfl|trivial)
  all_goals exact Stop.mk rfl
theorem ctlNew_f {s : State} (hs : Small 100000000 s) (hf : ¬ FreshP s) : ACalls Tryz.prog 33 [stateA s] [.agg (ctl0 ++ ctl0 ++ [.nil, .d (.n .i64 0), .d (.n .i64 0)]), .d (.b false)] [] := by
  refine acalls_of tt Tryz.func33 rfl rfl rfl (fun w0 Z => ?_)
  have c1 := stateOk_e hs
  have h4 := hs.que; have h5 := hs.run; have h6 := hs.end'
  cases hok : stateOkB s with
  | true =>
    rw [hok] at c1
    have hn : 0 < s.queue.length + s.runs.length + s.ends.length := by
      refine Nat.pos_of_ne_zero fun e => hf ⟨hok, by omega, by omega, by omega⟩
    repeat' (first|refine zst ?_|(refine zhm fun hb=>?_;try first|omega|exact absurd rfl hb)|(apply awp_drawq;exact rfl;kernel_rfl;kernel_rfl;exact rfl)|(apply awp_drawx;exact rfl;kernel_rfl;exact rfl)|(apply aopQ_ok;exact rfl)|apply qs_nil|(apply ch_nil;exact rfl)|((first|(apply ch_cons;iterate 2 exact rfl)|(apply ch_yes;iterate 4 exact rfl));(iterate 2 exact rfl);(· (intro w0 Z O;first|(apply aop_ok;exact rfl)|(apply QOk.ok;first|refine zk0 ?_|refine zk5 ?_|refine zk11 ?_|refine zk12 (fun _ => ?_)|refine zk19 ?_|refine zk23 rfl ?_|refine zk31 ?_)|refine kc (c1) rfl rfl ?_);exact ⟨rfl, rfl, rfl⟩);(iterate 2 exact rfl);exact zsl;exact zft;(iterate 4 exact rfl))|(apply ch_no;iterate 10 exact rfl)|(apply ch_no2;iterate 9 exact rfl)|refine zcx ?_ ?_|refine zgc ?_ ?_|refine zgx ?_ ?_|(first|(apply qs_cons;exact rfl)|(apply qs_yes;exact rfl;exact rfl;exact rfl))|refine zqx ?_ ?_|(apply q_id;first|refine kq (c1) rfl rfl ?_)|(apply op_id;first|refine kc (c1) rfl rfl ?_|refine zgq ?_)|(apply q_id;first|refine zk0 ?_|refine zk5 ?_|refine zk11 ?_|refine zk12 (fun _ => ?_)|refine zk19 ?_|refine zk23 rfl ?_|refine zk31 ?_))
    refine zr [] ?_ ?_
    repeat'(first|apply And.intro|exact zeb|refine zec ?_|exact zen|refine zeo ?_|exact zel|refine zem ?_|exact zep|refine zeq1 ?_|refine zea ?_|refine zei ?_ ?_|refine zex ?_|refine zca (hv := ?_)|refine zcb (hv := ?_)|exact rfl|trivial)
    all_goals exact Stop.mk rfl
  | false =>
    rw [hok] at c1
    repeat' (first|refine zst ?_|(refine zhm fun hb=>?_;try first|omega|exact absurd rfl hb)|(apply awp_drawq;exact rfl;kernel_rfl;kernel_rfl;exact rfl)|(apply awp_drawx;exact rfl;kernel_rfl;exact rfl)|(apply aopQ_ok;exact rfl)|apply qs_nil|(apply ch_nil;exact rfl)|((first|(apply ch_cons;iterate 2 exact rfl)|(apply ch_yes;iterate 4 exact rfl));(iterate 2 exact rfl);(· (intro w0 Z O;first|(apply aop_ok;exact rfl)|(apply QOk.ok;first|refine zk0 ?_|refine zk5 ?_|refine zk11 ?_|refine zk12 (fun _ => ?_)|refine zk19 ?_|refine zk23 rfl ?_|refine zk31 ?_)|refine kc (c1) rfl rfl ?_);exact ⟨rfl, rfl, rfl⟩);(iterate 2 exact rfl);exact zsl;exact zft;(iterate 4 exact rfl))|(apply ch_no;iterate 10 exact rfl)|(apply ch_no2;iterate 9 exact rfl)|refine zcx ?_ ?_|refine zgc ?_ ?_|refine zgx ?_ ?_|(first|(apply qs_cons;exact rfl)|(apply qs_yes;exact rfl;exact rfl;exact rfl))|refine zqx ?_ ?_|(apply q_id;first|refine kq (c1) rfl rfl ?_)|(apply op_id;first|refine kc (c1) rfl rfl ?_|refine zgq ?_)|(apply q_id;first|refine zk0 ?_|refine zk5 ?_|refine zk11 ?_|refine zk12 (fun _ => ?_)|refine zk19 ?_|refine zk23 rfl ?_|refine zk31 ?_))
    refine zr [] ?_ ?_
    repeat'(first|apply And.intro|exact zeb|refine zec ?_|exact zen|refine zeo ?_|exact zel|refine zem ?_|exact zep|refine zeq1 ?_|refine zea ?_|refine zei ?_ ?_|refine zex ?_|refine zca (hv := ?_)|refine zcb (hv := ?_)|exact rfl|trivial)
    all_goals exact Stop.mk rfl
noncomputable def freshB (s : State) : Bool := pB (FreshP s)
theorem l08Fresh_s {s : State} (hs : Small 100000000 s) : ACalls Tryz.prog 102 [stateA s] [.d (.b (freshB s))] [] := by
  refine acalls_of tt Tryz.func102 rfl rfl rfl (fun w0 Z => ?_)
  have c1 := stateOk_s hs
  have h4 := hs.que; have h5 := hs.run; have h6 := hs.end'
  cases hok : stateOkB s with
  | false =>
    rw [hok] at c1
    rw [show freshB s = false from pB_f.2 fun h => by rw [h.ok] at hok; cases hok]
    repeat' (first|refine zst ?_|(refine zhm fun hb=>?_;try first|omega|exact absurd rfl hb)|refine zgc ?_ ?_|refine zgx ?_ ?_|(apply op_id;first|refine kc (c1) rfl rfl ?_|refine zgq ?_)|(apply q_id;first|refine zk11 ?_|refine zk12 (fun _ => ?_)|refine zk28 ns_ok (by kernel_rfl) ?_|refine zk31 ?_))
    refine zr [] ?_ ?_
    repeat'(first|apply And.intro|exact zeb|refine zec ?_|exact zen|refine zeo ?_|exact zel|refine zem ?_|exact zep|refine zeq1 ?_|refine zea ?_|refine zei ?_ ?_|refine zex ?_|refine zca (hv := ?_)|refine zcb (hv := ?_)|exact rfl|trivial)
    all_goals exact Stop.mk rfl
  | true =>
    rw [hok] at c1
    by_cases hq : s.queue.length = 0
    · by_cases hr : s.runs.length = 0
      · by_cases he : s.ends.length = 0
        · rw [show freshB s = true from pB_t.2 ⟨hok, hq, hr, he⟩]
          repeat' (first|refine zst ?_|(refine zhm fun hb=>?_;try first|omega|exact absurd rfl hb)|refine zgc ?_ ?_|refine zgx ?_ ?_|(apply op_id;first|refine kc (c1) rfl rfl ?_|refine zgq ?_)|(apply q_id;first|refine zk11 ?_|refine zk12 (fun _ => ?_)|refine zk28 ns_ok (by kernel_rfl) ?_|refine zk31 ?_))
          refine zr [] ?_ ?_
          repeat'(first|apply And.intro|exact zeb|refine zec ?_|exact zen|refine zeo ?_|exact zel|refine zem ?_|exact zep|refine zeq1 ?_|refine zea ?_|refine zei ?_ ?_|refine zex ?_|refine zca (hv := ?_)|refine zcb (hv := ?_)|exact rfl|trivial)
          all_goals exact Stop.mk (by first | rfl | (rw [he]; rfl) | exact beq_eq_false_iff_ne.2 (by omega))
        · rw [show freshB s = false from pB_f.2 fun h => he h.end']
          repeat' (first|refine zst ?_|(refine zhm fun hb=>?_;try first|omega|exact absurd rfl hb)|refine zgc ?_ ?_|refine zgx ?_ ?_|(apply op_id;first|refine kc (c1) rfl rfl ?_|refine zgq ?_)|(apply q_id;first|refine zk11 ?_|refine zk12 (fun _ => ?_)|refine zk28 ns_ok (by kernel_rfl) ?_|refine zk31 ?_))
          refine zr [] ?_ ?_
          repeat'(first|apply And.intro|exact zeb|refine zec ?_|exact zen|refine zeo ?_|exact zel|refine zem ?_|exact zep|refine zeq1 ?_|refine zea ?_|refine zei ?_ ?_|refine zex ?_|refine zca (hv := ?_)|refine zcb (hv := ?_)|exact rfl|trivial)
          all_goals exact Stop.mk (by first | rfl | (rw [he]; rfl) | exact beq_eq_false_iff_ne.2 (by omega))
      · rw [show freshB s = false from pB_f.2 fun h => hr h.run]
        repeat' (first|refine zst ?_|(refine zhm fun hb=>?_;try first|omega|exact absurd rfl hb)|refine zgc ?_ ?_|refine zgx ?_ ?_|(apply op_id;first|refine kc (c1) rfl rfl ?_|refine zgq ?_)|(apply q_id;first|refine zk11 ?_|refine zk12 (fun _ => ?_)|refine zk28 ns_ok (by kernel_rfl) ?_|refine zk31 ?_))
        refine zr [] ?_ ?_
        repeat'(first|apply And.intro|exact zeb|refine zec ?_|exact zen|refine zeo ?_|exact zel|refine zem ?_|exact zep|refine zeq1 ?_|refine zea ?_|refine zei ?_ ?_|refine zex ?_|refine zca (hv := ?_)|refine zcb (hv := ?_)|exact rfl|trivial)
        all_goals exact Stop.mk rfl
    · rw [show freshB s = false from pB_f.2 fun h => hq h.que]
      repeat' (first|refine zst ?_|(refine zhm fun hb=>?_;try first|omega|exact absurd rfl hb)|refine zgc ?_ ?_|refine zgx ?_ ?_|(apply op_id;first|refine kc (c1) rfl rfl ?_|refine zgq ?_)|(apply q_id;first|refine zk11 ?_|refine zk12 (fun _ => ?_)|refine zk28 ns_ok (by kernel_rfl) ?_|refine zk31 ?_))
      refine zr [] ?_ ?_
      repeat'(first|apply And.intro|exact zeb|refine zec ?_|exact zen|refine zeo ?_|exact zel|refine zem ?_|exact zep|refine zeq1 ?_|refine zea ?_|refine zei ?_ ?_|refine zex ?_|refine zca (hv := ?_)|refine zcb (hv := ?_)|exact rfl|trivial)
      all_goals exact Stop.mk rfl
theorem ctlNew_s {s : State} (hs : Small 100000000 s) (hf : FreshP s) : ACalls Tryz.prog 32 [stateA s] [.agg (stC s 0 1 2 3 4 5 ++ stC s 6 7 8 9 10 11 ++ [.nil, .d (.n .i64 0), .d (.n .i64 0)]), .d (.b true)] (ctlR s) := by
  refine acalls_of tt Tryz.func32 rfl rfl rfl (fun w0 Z => ?_)
  have c1 := l08Fresh_s hs
  rw [show freshB s = true from pB_t.2 hf] at c1
  repeat' (first|refine zst ?_|(refine zhm fun hb=>?_;try first|omega|exact absurd rfl hb)|(apply awp_drawq;exact rfl;kernel_rfl;kernel_rfl;exact rfl)|(apply awp_drawx;exact rfl;kernel_rfl;exact rfl)|(apply aopQ_ok;exact rfl)|apply qs_nil|(apply ch_nil;exact rfl)|((first|(apply ch_cons;iterate 2 exact rfl)|(apply ch_yes;iterate 4 exact rfl));(iterate 2 exact rfl);(· (intro w0 Z O;first|(apply aop_ok;exact rfl)|(apply QOk.ok;first|refine zk23 rfl ?_)|refine kc (c1) rfl rfl ?_|refine kc (l06Copy_o hs) rfl rfl ?_);exact ⟨rfl, rfl, rfl⟩);(iterate 2 exact rfl);exact zsl;exact zft;(iterate 4 exact rfl))|(apply ch_no;iterate 10 exact rfl)|(apply ch_no2;iterate 9 exact rfl)|refine zcx ?_ ?_|refine zgc ?_ ?_|refine zgx ?_ ?_|(first|(apply qs_cons;exact rfl)|(apply qs_yes;exact rfl;exact rfl;exact rfl))|refine zqx ?_ ?_|(apply q_id;first|refine kq (c1) rfl rfl ?_|refine kq (l06Copy_o hs) rfl rfl ?_)|(apply op_id;first|refine kc (c1) rfl rfl ?_|refine kc (l06Copy_o hs) rfl rfl ?_|refine zgq ?_)|(apply q_id;first|refine zk23 rfl ?_))
  refine zr [9, 1009, 2009, 3009, 4009, 5009, 11, 1011, 2011, 3011, 4011, 5011] ?_ ?_
  repeat'(first|apply And.intro|exact zeb|refine zec ?_|exact zen|refine zeo ?_|exact zel|refine zem ?_|exact zep|refine zeq1 ?_|refine zea ?_|refine zei ?_ ?_|refine zex ?_|refine zca (hv := ?_)|refine zcb (hv := ?_)|exact rfl|trivial)
  all_goals exact Stop.mk rfl
theorem ctlNew_t {s : State} (hs : Small 100000000 s) (hf : ¬ FreshP s) : ACalls Tryz.prog 32 [stateA s] [.agg (ctl0 ++ ctl0 ++ [.nil, .d (.n .i64 0), .d (.n .i64 0)]), .d (.b false)] [] := by
  refine acalls_of tt Tryz.func32 rfl rfl rfl (fun w0 Z => ?_)
  have c1 := l08Fresh_s hs
  rw [show freshB s = false from pB_f.2 hf] at c1
  repeat' (first|refine zst ?_|(refine zhm fun hb=>?_;try first|omega|exact absurd rfl hb)|(apply awp_drawq;exact rfl;kernel_rfl;kernel_rfl;exact rfl)|(apply awp_drawx;exact rfl;kernel_rfl;exact rfl)|(apply aopQ_ok;exact rfl)|apply qs_nil|(apply ch_nil;exact rfl)|((first|(apply ch_cons;iterate 2 exact rfl)|(apply ch_yes;iterate 4 exact rfl));(iterate 2 exact rfl);(· (intro w0 Z O;first|(apply aop_ok;exact rfl)|(apply QOk.ok;first|refine zk23 rfl ?_)|refine kc (c1) rfl rfl ?_);exact ⟨rfl, rfl, rfl⟩);(iterate 2 exact rfl);exact zsl;exact zft;(iterate 4 exact rfl))|(apply ch_no;iterate 10 exact rfl)|(apply ch_no2;iterate 9 exact rfl)|refine zcx ?_ ?_|refine zgc ?_ ?_|refine zgx ?_ ?_|(first|(apply qs_cons;exact rfl)|(apply qs_yes;exact rfl;exact rfl;exact rfl))|refine zqx ?_ ?_|(apply q_id;first|refine kq (c1) rfl rfl ?_)|(apply op_id;first|refine kc (c1) rfl rfl ?_|refine zgq ?_)|(apply q_id;first|refine zk23 rfl ?_))
  refine zr [] ?_ ?_
  repeat'(first|apply And.intro|exact zeb|refine zec ?_|exact zen|refine zeo ?_|exact zel|refine zem ?_|exact zep|refine zeq1 ?_|refine zea ?_|refine zei ?_ ?_|refine zex ?_|refine zca (hv := ?_)|refine zcb (hv := ?_)|exact rfl|trivial)
  all_goals exact Stop.mk rfl
end Go.Proofs.YtliopiphobopjaaGreat
