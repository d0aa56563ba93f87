/-
  The law's functions over controllers; the law of CtlNew, without its argument.
-/
import Derived.Test.YtliopiphobopjaaGreatKSh
import Derived.Test.YtliopiphobopjaaGreatKGmI
set_option maxRecDepth 100000
set_option maxHeartbeats 16000000
namespace Go.Proofs.YtliopiphobopjaaGreat
open Go Go.RowKit
attribute [local irreducible] AWp OpsOk OpOk ACalls ChA QsOk MCalls EnC PY
theorem markNodeS_0 {k : Nat} : ACalls Tryz.prog 186 [.d (.sl []), .d (.n .i64 k)] [.d (.n .i64 k)] [] := by
  refine acalls_of tt Tryz.func186 rfl rfl rfl (fun w0 Z => ?_)
  repeat' (first|refine zst ?_|(refine zhm fun hb=>?_;try first|omega|exact absurd rfl hb)|refine zgc ?_ ?_|refine zgx ?_ ?_|(apply op_id;first|refine zk45 rfl ?_|refine zk46 rfl ?_|refine zgq ?_)|(apply q_id;first|refine zk0 ?_|refine zk5 ?_|refine zk11 ?_|refine zk12 (fun _ => ?_)|refine zk13 rfl rfl rfl ?_|refine zk14 ?_|refine zk19 ?_|refine zk31 ?_|refine zk32 rfl rfl rfl ?_|refine zk33 rfl ?_|refine zk34 rfl ?_))
  refine awp_loop (fun (_ : Unit) => ⟨44, [(0, .d (.sl [])), (1, .d (.n .i64 k)), (5, .d (.n .i64 0))], []⟩) (fun _ => True) (fun _ => 0) () trivial ?_ ?_
  · refine ⟨rfl, ?_, ?_, rfl⟩
    repeat'(first|apply And.intro|exact zeb|refine zec ?_|exact zen|refine zeo ?_|exact zel|refine zem ?_|exact zep|refine zeq1 ?_|refine zea ?_|refine zei ?_ ?_|refine zex ?_|refine zca (hv := ?_)|refine zcb (hv := ?_)|exact rfl|trivial)
    all_goals exact Stop.mk rfl
  · intro i hi
    repeat' (first|refine zst ?_|(refine zhm fun hb=>?_;try first|omega|exact absurd rfl hb)|refine zgc ?_ ?_|refine zgx ?_ ?_|(apply op_id;first|refine zk45 rfl ?_|refine zk46 rfl ?_|refine zgq ?_)|(apply q_id;first|refine zk0 ?_|refine zk5 ?_|refine zk11 ?_|refine zk12 (fun _ => ?_)|refine zk13 rfl rfl rfl ?_|refine zk14 ?_|refine zk19 ?_|refine zk31 ?_|refine zk32 rfl rfl rfl ?_|refine zk33 rfl ?_|refine zk34 rfl ?_))
    refine zr [] ?_ ?_
    repeat'(first|apply And.intro|exact zeb|refine zec ?_|exact zen|refine zeo ?_|exact zel|refine zem ?_|exact zep|refine zeq1 ?_|refine zea ?_|refine zei ?_ ?_|refine zex ?_|refine zca (hv := ?_)|refine zcb (hv := ?_)|exact rfl|trivial)
    all_goals exact Stop.mk rfl
theorem markBoolS_0 {k : Nat} : ACalls Tryz.prog 98 [.d (.sl []), .d (.n .i64 k)] [.d (.n .i64 k)] [] := by
  refine acalls_of tt Tryz.func98 rfl rfl rfl (fun w0 Z => ?_)
  repeat' (first|refine zst ?_|(refine zhm fun hb=>?_;try first|omega|exact absurd rfl hb)|refine zgc ?_ ?_|refine zgx ?_ ?_|(apply op_id;first|refine zk45 rfl ?_|refine zk46 rfl ?_|refine zgq ?_)|(apply q_id;first|refine zk0 ?_|refine zk4 ?_|refine zk5 ?_|refine zk9 ?_|refine zk11 ?_|refine zk12 (fun _ => ?_)|refine zk13 rfl rfl rfl ?_|refine zk14 ?_|refine zk19 ?_|refine zk28 ns_ok (by kernel_rfl) ?_|refine zk31 ?_|refine zk32 rfl rfl rfl ?_|refine zk33 rfl ?_|refine zk34 rfl ?_))
  refine awp_loop (fun (_ : Unit) => ⟨21, [(0, .d (.sl [])), (1, .d (.n .i64 k)), (5, .d (.n .i64 0))], []⟩) (fun _ => True) (fun _ => 0) () trivial ?_ ?_
  · refine ⟨rfl, ?_, ?_, rfl⟩
    repeat'(first|apply And.intro|exact zeb|refine zec ?_|exact zen|refine zeo ?_|exact zel|refine zem ?_|exact zep|refine zeq1 ?_|refine zea ?_|refine zei ?_ ?_|refine zex ?_|refine zca (hv := ?_)|refine zcb (hv := ?_)|exact rfl|trivial)
    all_goals exact Stop.mk rfl
  · intro i hi
    repeat' (first|refine zst ?_|(refine zhm fun hb=>?_;try first|omega|exact absurd rfl hb)|refine zgc ?_ ?_|refine zgx ?_ ?_|(apply op_id;first|refine zk45 rfl ?_|refine zk46 rfl ?_|refine zgq ?_)|(apply q_id;first|refine zk0 ?_|refine zk4 ?_|refine zk5 ?_|refine zk9 ?_|refine zk11 ?_|refine zk12 (fun _ => ?_)|refine zk13 rfl rfl rfl ?_|refine zk14 ?_|refine zk19 ?_|refine zk28 ns_ok (by kernel_rfl) ?_|refine zk31 ?_|refine zk32 rfl rfl rfl ?_|refine zk33 rfl ?_|refine zk34 rfl ?_))
    refine zr [] ?_ ?_
    repeat'(first|apply And.intro|exact zeb|refine zec ?_|exact zen|refine zeo ?_|exact zel|refine zem ?_|exact zep|refine zeq1 ?_|refine zea ?_|refine zei ?_ ?_|refine zex ?_|refine zca (hv := ?_)|refine zcb (hv := ?_)|exact rfl|trivial)
    all_goals exact Stop.mk rfl
theorem markJobS_0 {k : Nat} : ACalls Tryz.prog 99 [.d (.sl []), .d (.n .i64 k)] [.d (.n .i64 k)] [] := by
  refine acalls_of tt Tryz.func99 rfl rfl rfl (fun w0 Z => ?_)
  repeat' (first|refine zst ?_|(refine zhm fun hb=>?_;try first|omega|exact absurd rfl hb)|refine zgc ?_ ?_|refine zgx ?_ ?_|(apply op_id;first|refine zk45 rfl ?_|refine zk46 rfl ?_|refine zgq ?_)|(apply q_id;first|refine zk0 ?_|refine zk5 ?_|refine zk11 ?_|refine zk12 (fun _ => ?_)|refine zk13 rfl rfl rfl ?_|refine zk14 ?_|refine zk19 ?_|refine zk31 ?_|refine zk32 rfl rfl rfl ?_|refine zk33 rfl ?_|refine zk34 rfl ?_))
  refine awp_loop (fun (_ : Unit) => ⟨96, [(0, .d (.sl [])), (1, .d (.n .i64 k)), (5, .d (.n .i64 0))], []⟩) (fun _ => True) (fun _ => 0) () trivial ?_ ?_
  · refine ⟨rfl, ?_, ?_, rfl⟩
    repeat'(first|apply And.intro|exact zeb|refine zec ?_|exact zen|refine zeo ?_|exact zel|refine zem ?_|exact zep|refine zeq1 ?_|refine zea ?_|refine zei ?_ ?_|refine zex ?_|refine zca (hv := ?_)|refine zcb (hv := ?_)|exact rfl|trivial)
    all_goals exact Stop.mk rfl
  · intro i hi
    repeat' (first|refine zst ?_|(refine zhm fun hb=>?_;try first|omega|exact absurd rfl hb)|refine zgc ?_ ?_|refine zgx ?_ ?_|(apply op_id;first|refine zk45 rfl ?_|refine zk46 rfl ?_|refine zgq ?_)|(apply q_id;first|refine zk0 ?_|refine zk5 ?_|refine zk11 ?_|refine zk12 (fun _ => ?_)|refine zk13 rfl rfl rfl ?_|refine zk14 ?_|refine zk19 ?_|refine zk31 ?_|refine zk32 rfl rfl rfl ?_|refine zk33 rfl ?_|refine zk34 rfl ?_))
    refine zr [] ?_ ?_
    repeat'(first|apply And.intro|exact zeb|refine zec ?_|exact zen|refine zeo ?_|exact zel|refine zem ?_|exact zep|refine zeq1 ?_|refine zea ?_|refine zei ?_ ?_|refine zex ?_|refine zca (hv := ?_)|refine zcb (hv := ?_)|exact rfl|trivial)
    all_goals exact Stop.mk rfl
theorem markRunS_0 {k : Nat} : ACalls Tryz.prog 100 [.d (.sl []), .d (.n .i64 k)] [.d (.n .i64 k)] [] := by
  refine acalls_of tt Tryz.func100 rfl rfl rfl (fun w0 Z => ?_)
  repeat' (first|refine zst ?_|(refine zhm fun hb=>?_;try first|omega|exact absurd rfl hb)|refine zgc ?_ ?_|refine zgx ?_ ?_|(apply op_id;first|refine zk45 rfl ?_|refine zk46 rfl ?_|refine zgq ?_)|(apply q_id;first|refine zk0 ?_|refine zk5 ?_|refine zk11 ?_|refine zk12 (fun _ => ?_)|refine zk13 rfl rfl rfl ?_|refine zk14 ?_|refine zk19 ?_|refine zk31 ?_|refine zk32 rfl rfl rfl ?_|refine zk33 rfl ?_|refine zk34 rfl ?_))
  refine awp_loop (fun (_ : Unit) => ⟨121, [(0, .d (.sl [])), (1, .d (.n .i64 k)), (5, .d (.n .i64 0))], []⟩) (fun _ => True) (fun _ => 0) () trivial ?_ ?_
  · refine ⟨rfl, ?_, ?_, rfl⟩
    repeat'(first|apply And.intro|exact zeb|refine zec ?_|exact zen|refine zeo ?_|exact zel|refine zem ?_|exact zep|refine zeq1 ?_|refine zea ?_|refine zei ?_ ?_|refine zex ?_|refine zca (hv := ?_)|refine zcb (hv := ?_)|exact rfl|trivial)
    all_goals exact Stop.mk rfl
  · intro i hi
    repeat' (first|refine zst ?_|(refine zhm fun hb=>?_;try first|omega|exact absurd rfl hb)|refine zgc ?_ ?_|refine zgx ?_ ?_|(apply op_id;first|refine zk45 rfl ?_|refine zk46 rfl ?_|refine zgq ?_)|(apply q_id;first|refine zk0 ?_|refine zk5 ?_|refine zk11 ?_|refine zk12 (fun _ => ?_)|refine zk13 rfl rfl rfl ?_|refine zk14 ?_|refine zk19 ?_|refine zk31 ?_|refine zk32 rfl rfl rfl ?_|refine zk33 rfl ?_|refine zk34 rfl ?_))
    refine zr [] ?_ ?_
    repeat'(first|apply And.intro|exact zeb|refine zec ?_|exact zen|refine zeo ?_|exact zel|refine zem ?_|exact zep|refine zeq1 ?_|refine zea ?_|refine zei ?_ ?_|refine zex ?_|refine zca (hv := ?_)|refine zcb (hv := ?_)|exact rfl|trivial)
    all_goals exact Stop.mk rfl
theorem markEndS_0 {k : Nat} : ACalls Tryz.prog 101 [.d (.sl []), .d (.n .i64 k)] [.d (.n .i64 k)] [] := by
  refine acalls_of tt Tryz.func101 rfl rfl rfl (fun w0 Z => ?_)
  repeat' (first|refine zst ?_|(refine zhm fun hb=>?_;try first|omega|exact absurd rfl hb)|refine zgc ?_ ?_|refine zgx ?_ ?_|(apply op_id;first|refine zk45 rfl ?_|refine zk46 rfl ?_|refine zgq ?_)|(apply q_id;first|refine zk0 ?_|refine zk5 ?_|refine zk11 ?_|refine zk12 (fun _ => ?_)|refine zk13 rfl rfl rfl ?_|refine zk14 ?_|refine zk19 ?_|refine zk31 ?_|refine zk32 rfl rfl rfl ?_|refine zk33 rfl ?_|refine zk34 rfl ?_))
  refine awp_loop (fun (_ : Unit) => ⟨34, [(0, .d (.sl [])), (1, .d (.n .i64 k)), (5, .d (.n .i64 0))], []⟩) (fun _ => True) (fun _ => 0) () trivial ?_ ?_
  · refine ⟨rfl, ?_, ?_, rfl⟩
    repeat'(first|apply And.intro|exact zeb|refine zec ?_|exact zen|refine zeo ?_|exact zel|refine zem ?_|exact zep|refine zeq1 ?_|refine zea ?_|refine zei ?_ ?_|refine zex ?_|refine zca (hv := ?_)|refine zcb (hv := ?_)|exact rfl|trivial)
    all_goals exact Stop.mk rfl
  · intro i hi
    repeat' (first|refine zst ?_|(refine zhm fun hb=>?_;try first|omega|exact absurd rfl hb)|refine zgc ?_ ?_|refine zgx ?_ ?_|(apply op_id;first|refine zk45 rfl ?_|refine zk46 rfl ?_|refine zgq ?_)|(apply q_id;first|refine zk0 ?_|refine zk5 ?_|refine zk11 ?_|refine zk12 (fun _ => ?_)|refine zk13 rfl rfl rfl ?_|refine zk14 ?_|refine zk19 ?_|refine zk31 ?_|refine zk32 rfl rfl rfl ?_|refine zk33 rfl ?_|refine zk34 rfl ?_))
    refine zr [] ?_ ?_
    repeat'(first|apply And.intro|exact zeb|refine zec ?_|exact zen|refine zeo ?_|exact zel|refine zem ?_|exact zep|refine zeq1 ?_|refine zea ?_|refine zei ?_ ?_|refine zex ?_|refine zca (hv := ?_)|refine zcb (hv := ?_)|exact rfl|trivial)
    all_goals exact Stop.mk rfl
theorem markByteS_0 {k : Nat} : ACalls Tryz.prog 110 [.d (.sl []), .d (.n .i64 k)] [.d (.n .i64 k)] [] := by
  refine acalls_of tt Tryz.func110 rfl rfl rfl (fun w0 Z => ?_)
  repeat' (first|refine zst ?_|(refine zhm fun hb=>?_;try first|omega|exact absurd rfl hb)|refine zgc ?_ ?_|refine zgx ?_ ?_|(apply op_id;first|refine zk44 ?_|refine zk45 rfl ?_|refine zk46 rfl ?_|refine zgq ?_)|(apply q_id;first|refine zk0 ?_|refine zk5 ?_|refine zk11 ?_|refine zk12 (fun _ => ?_)|refine zk13 rfl rfl rfl ?_|refine zk14 ?_|refine zk17 ?_|refine zk19 ?_|refine zk20 ?_|refine zk21 ?_|refine zk22 ?_|refine zk31 ?_|refine zk32 rfl rfl rfl ?_|refine zk33 rfl ?_|refine zk34 rfl ?_))
  refine awp_loop (fun (_ : Unit) => ⟨20, [(0, .d (.sl [])), (1, .d (.n .i64 k)), (5, .d (.n .i64 0))], []⟩) (fun _ => True) (fun _ => 0) () trivial ?_ ?_
  · refine ⟨rfl, ?_, ?_, rfl⟩
    repeat'(first|apply And.intro|exact zeb|refine zec ?_|exact zen|refine zeo ?_|exact zel|refine zem ?_|exact zep|refine zeq1 ?_|refine zea ?_|refine zei ?_ ?_|refine zex ?_|refine zca (hv := ?_)|refine zcb (hv := ?_)|exact rfl|trivial)
    all_goals exact Stop.mk rfl
  · intro i hi
    repeat' (first|refine zst ?_|(refine zhm fun hb=>?_;try first|omega|exact absurd rfl hb)|refine zgc ?_ ?_|refine zgx ?_ ?_|(apply op_id;first|refine zk44 ?_|refine zk45 rfl ?_|refine zk46 rfl ?_|refine zgq ?_)|(apply q_id;first|refine zk0 ?_|refine zk5 ?_|refine zk11 ?_|refine zk12 (fun _ => ?_)|refine zk13 rfl rfl rfl ?_|refine zk14 ?_|refine zk17 ?_|refine zk19 ?_|refine zk20 ?_|refine zk21 ?_|refine zk22 ?_|refine zk31 ?_|refine zk32 rfl rfl rfl ?_|refine zk33 rfl ?_|refine zk34 rfl ?_))
    refine zr [] ?_ ?_
    repeat'(first|apply And.intro|exact zeb|refine zec ?_|exact zen|refine zeo ?_|exact zel|refine zem ?_|exact zep|refine zeq1 ?_|refine zea ?_|refine zei ?_ ?_|refine zex ?_|refine zca (hv := ?_)|refine zcb (hv := ?_)|exact rfl|trivial)
    all_goals exact Stop.mk rfl
theorem heldByteS_0 {k : Nat} : ACalls Tryz.prog 112 [.d (.sl []), .d (.n .i64 k)] [.d (.n .i64 k)] [] := by
  refine acalls_of tt Tryz.func112 rfl rfl rfl (fun w0 Z => ?_)
  repeat' (first|refine zst ?_|(refine zhm fun hb=>?_;try first|omega|exact absurd rfl hb)|refine zgc ?_ ?_|refine zgx ?_ ?_|(apply op_id;first|refine zk44 ?_|refine zk45 rfl ?_|refine zk46 rfl ?_|refine zgq ?_)|(apply q_id;first|refine zk0 ?_|refine zk5 ?_|refine zk11 ?_|refine zk12 (fun _ => ?_)|refine zk13 rfl rfl rfl ?_|refine zk14 ?_|refine zk17 ?_|refine zk19 ?_|refine zk20 ?_|refine zk21 ?_|refine zk22 ?_|refine zk29 ns_ok (by kernel_rfl) ?_|refine zk31 ?_|refine zk32 rfl rfl rfl ?_|refine zk33 rfl ?_|refine zk34 rfl ?_))
  refine awp_loop (fun (_ : Unit) => ⟨22, [(0, .d (.sl [])), (1, .d (.n .i64 k)), (5, .d (.n .i64 0))], []⟩) (fun _ => True) (fun _ => 0) () trivial ?_ ?_
  · refine ⟨rfl, ?_, ?_, rfl⟩
    repeat'(first|apply And.intro|exact zeb|refine zec ?_|exact zen|refine zeo ?_|exact zel|refine zem ?_|exact zep|refine zeq1 ?_|refine zea ?_|refine zei ?_ ?_|refine zex ?_|refine zca (hv := ?_)|refine zcb (hv := ?_)|exact rfl|trivial)
    all_goals exact Stop.mk rfl
  · intro i hi
    repeat' (first|refine zst ?_|(refine zhm fun hb=>?_;try first|omega|exact absurd rfl hb)|refine zgc ?_ ?_|refine zgx ?_ ?_|(apply op_id;first|refine zk44 ?_|refine zk45 rfl ?_|refine zk46 rfl ?_|refine zgq ?_)|(apply q_id;first|refine zk0 ?_|refine zk5 ?_|refine zk11 ?_|refine zk12 (fun _ => ?_)|refine zk13 rfl rfl rfl ?_|refine zk14 ?_|refine zk17 ?_|refine zk19 ?_|refine zk20 ?_|refine zk21 ?_|refine zk22 ?_|refine zk29 ns_ok (by kernel_rfl) ?_|refine zk31 ?_|refine zk32 rfl rfl rfl ?_|refine zk33 rfl ?_|refine zk34 rfl ?_))
    refine zr [] ?_ ?_
    repeat'(first|apply And.intro|exact zeb|refine zec ?_|exact zen|refine zeo ?_|exact zel|refine zem ?_|exact zep|refine zeq1 ?_|refine zea ?_|refine zei ?_ ?_|refine zex ?_|refine zca (hv := ?_)|refine zcb (hv := ?_)|exact rfl|trivial)
    all_goals exact Stop.mk rfl
theorem eqByteS_0 : ACalls Tryz.prog 108 [.d (.sl []), .d (.sl [])] [.d (.b true)] [] := by
  refine acalls_of tt Tryz.func108 rfl rfl rfl (fun w0 Z => ?_)
  repeat' (first|refine zst ?_|(refine zhm fun hb=>?_;try first|omega|exact absurd rfl hb)|(apply awp_drawq;exact rfl;kernel_rfl;kernel_rfl;exact rfl)|(apply awp_drawx;exact rfl;kernel_rfl;exact rfl)|(apply aopQ_ok;exact rfl)|apply qs_nil|(apply ch_nil;exact rfl)|((first|(apply ch_cons;iterate 2 exact rfl)|(apply ch_yes;iterate 4 exact rfl));(iterate 2 exact rfl);(· (intro w0 Z O;first|(apply aop_ok;exact rfl)|(apply QOk.ok;first|refine zk0 ?_|refine zk5 ?_|refine zk11 ?_|refine zk12 (fun _ => ?_)|refine zk13 rfl rfl rfl ?_|refine zk14 ?_|refine zk19 ?_|refine zk29 ns_ok (by kernel_rfl) ?_|refine zk31 ?_|refine zk32 rfl rfl rfl ?_|refine zk33 rfl ?_|refine zk34 rfl ?_)|refine zk45 rfl ?_|refine zk46 rfl ?_);exact ⟨rfl, rfl, rfl⟩);(iterate 2 exact rfl);exact zsl;exact zft;(iterate 4 exact rfl))|(apply ch_no;iterate 10 exact rfl)|(apply ch_no2;iterate 9 exact rfl)|refine zcx ?_ ?_|refine zgc ?_ ?_|refine zgx ?_ ?_|(first|(apply qs_cons;exact rfl)|(apply qs_yes;exact rfl;exact rfl;exact rfl))|refine zqx ?_ ?_|(apply op_id;first|refine zk45 rfl ?_|refine zk46 rfl ?_|refine zgq ?_)|(apply q_id;first|refine zk0 ?_|refine zk5 ?_|refine zk11 ?_|refine zk12 (fun _ => ?_)|refine zk13 rfl rfl rfl ?_|refine zk14 ?_|refine zk19 ?_|refine zk29 ns_ok (by kernel_rfl) ?_|refine zk31 ?_|refine zk32 rfl rfl rfl ?_|refine zk33 rfl ?_|refine zk34 rfl ?_))
  refine awp_loop (fun (_ : Unit) => ⟨26, [(0, .d (.sl [])), (1, .d (.sl [])), (5, .d (.n .i64 0))], []⟩) (fun _ => True) (fun _ => 0) () trivial ?_ ?_
  · refine ⟨rfl, ?_, ?_, rfl⟩
    repeat'(first|apply And.intro|exact zeb|refine zec ?_|exact zen|refine zeo ?_|exact zel|refine zem ?_|exact zep|refine zeq1 ?_|refine zea ?_|refine zei ?_ ?_|refine zex ?_|refine zca (hv := ?_)|refine zcb (hv := ?_)|exact rfl|trivial)
    all_goals exact Stop.mk rfl
  · intro i hi
    repeat' (first|refine zst ?_|(refine zhm fun hb=>?_;try first|omega|exact absurd rfl hb)|(apply awp_drawq;exact rfl;kernel_rfl;kernel_rfl;exact rfl)|(apply awp_drawx;exact rfl;kernel_rfl;exact rfl)|(apply aopQ_ok;exact rfl)|apply qs_nil|(apply ch_nil;exact rfl)|((first|(apply ch_cons;iterate 2 exact rfl)|(apply ch_yes;iterate 4 exact rfl));(iterate 2 exact rfl);(· (intro w0 Z O;first|(apply aop_ok;exact rfl)|(apply QOk.ok;first|refine zk0 ?_|refine zk5 ?_|refine zk11 ?_|refine zk12 (fun _ => ?_)|refine zk13 rfl rfl rfl ?_|refine zk14 ?_|refine zk19 ?_|refine zk29 ns_ok (by kernel_rfl) ?_|refine zk31 ?_|refine zk32 rfl rfl rfl ?_|refine zk33 rfl ?_|refine zk34 rfl ?_)|refine zk45 rfl ?_|refine zk46 rfl ?_);exact ⟨rfl, rfl, rfl⟩);(iterate 2 exact rfl);exact zsl;exact zft;(iterate 4 exact rfl))|(apply ch_no;iterate 10 exact rfl)|(apply ch_no2;iterate 9 exact rfl)|refine zcx ?_ ?_|refine zgc ?_ ?_|refine zgx ?_ ?_|(first|(apply qs_cons;exact rfl)|(apply qs_yes;exact rfl;exact rfl;exact rfl))|refine zqx ?_ ?_|(apply op_id;first|refine zk45 rfl ?_|refine zk46 rfl ?_|refine zgq ?_)|(apply q_id;first|refine zk0 ?_|refine zk5 ?_|refine zk11 ?_|refine zk12 (fun _ => ?_)|refine zk13 rfl rfl rfl ?_|refine zk14 ?_|refine zk19 ?_|refine zk29 ns_ok (by kernel_rfl) ?_|refine zk31 ?_|refine zk32 rfl rfl rfl ?_|refine zk33 rfl ?_|refine zk34 rfl ?_))
    refine zr [] ?_ ?_
    repeat'(first|apply And.intro|exact zeb|refine zec ?_|exact zen|refine zeo ?_|exact zel|refine zem ?_|exact zep|refine zeq1 ?_|refine zea ?_|refine zei ?_ ?_|refine zex ?_|refine zca (hv := ?_)|refine zcb (hv := ?_)|exact rfl|trivial)
    all_goals exact Stop.mk rfl
@[reducible] def jn0 : AV := .agg [.d (.sl []), .d (.n .i64 0), .d (.n .i64 0)]
theorem markJournal_0 {k : Nat} : ACalls Tryz.prog 106 [jn0, .d (.n .i64 k)] [.d (.n .i64 k)] [] := by
  refine acalls_of tt Tryz.func106 rfl rfl rfl (fun w0 Z => ?_)
  repeat' (first|refine zst ?_|(refine zhm fun hb=>?_;try first|omega|exact absurd rfl hb)|refine zgc ?_ ?_|refine zgx ?_ ?_|(apply op_id;first|refine kc (markByteS_0) rfl rfl ?_))
  refine zr [] ?_ ?_
  repeat'(first|apply And.intro|exact zeb|refine zec ?_|exact zen|refine zeo ?_|exact zel|refine zem ?_|exact zep|refine zeq1 ?_|refine zea ?_|refine zei ?_ ?_|refine zex ?_|refine zca (hv := ?_)|refine zcb (hv := ?_)|exact rfl|trivial)
  all_goals exact Stop.mk rfl
theorem heldJournal_0 {k : Nat} : ACalls Tryz.prog 107 [jn0, .d (.n .i64 k)] [.d (.n .i64 k)] [] := by
  refine acalls_of tt Tryz.func107 rfl rfl rfl (fun w0 Z => ?_)
  repeat' (first|refine zst ?_|(refine zhm fun hb=>?_;try first|omega|exact absurd rfl hb)|refine zgc ?_ ?_|refine zgx ?_ ?_|(apply op_id;first|refine kc (heldByteS_0) rfl rfl ?_))
  refine zr [] ?_ ?_
  repeat'(first|apply And.intro|exact zeb|refine zec ?_|exact zen|refine zeo ?_|exact zel|refine zem ?_|exact zep|refine zeq1 ?_|refine zea ?_|refine zei ?_ ?_|refine zex ?_|refine zca (hv := ?_)|refine zcb (hv := ?_)|exact rfl|trivial)
  all_goals exact Stop.mk rfl
theorem eqJournal_0 : ACalls Tryz.prog 105 [jn0, jn0] [.d (.b true)] [] := by
  refine acalls_of tt Tryz.func105 rfl rfl rfl (fun w0 Z => ?_)
  repeat' (first|refine zst ?_|(refine zhm fun hb=>?_;try first|omega|exact absurd rfl hb)|refine zgc ?_ ?_|refine zgx ?_ ?_|(apply op_id;first|refine kc (eqByteS_0) rfl rfl ?_|refine zgq ?_)|(apply q_id;first|refine zk29 ns_ok (by kernel_rfl) ?_))
  refine zr [] ?_ ?_
  repeat'(first|apply And.intro|exact zeb|refine zec ?_|exact zen|refine zeo ?_|exact zel|refine zem ?_|exact zep|refine zeq1 ?_|refine zea ?_|refine zei ?_ ?_|refine zex ?_|refine zca (hv := ?_)|refine zcb (hv := ?_)|exact rfl|trivial)
  all_goals exact Stop.mk rfl
theorem markTopo_0 {k : Nat} : ACalls Tryz.prog 97 [.agg [.d (.sl []), .d (.sl [])], .d (.n .i64 k)] [.d (.n .i64 k)] [] := by
  refine acalls_of tt Tryz.func97 rfl rfl rfl (fun w0 Z => ?_)
  repeat' (first|refine zst ?_|(refine zhm fun hb=>?_;try first|omega|exact absurd rfl hb)|refine zgc ?_ ?_|refine zgx ?_ ?_|(apply op_id;first|refine kc (markIntS_0) rfl rfl ?_|refine kc (markNodeS_0) rfl rfl ?_))
  refine zr [] ?_ ?_
  repeat'(first|apply And.intro|exact zeb|refine zec ?_|exact zen|refine zeo ?_|exact zel|refine zem ?_|exact zep|refine zeq1 ?_|refine zea ?_|refine zei ?_ ?_|refine zex ?_|refine zca (hv := ?_)|refine zcb (hv := ?_)|exact rfl|trivial)
  all_goals exact Stop.mk rfl
@[reducible] def st0 : List AV := [.d (.sl []), .d (.sl []), .d (.sl []), .d (.n .i64 0), .d (.n .i64 0), .d (.n .i64 0), .d (.n .i64 0), .d (.n .i64 0), .d (.sl []), .d (.sl []), .d (.sl [])]
theorem markState_0 {k : Nat} : ACalls Tryz.prog 29 [.agg st0, .d (.n .i64 k)] [.d (.n .i64 k)] [] := by
  refine acalls_of tt Tryz.func29 rfl rfl rfl (fun w0 Z => ?_)
  repeat' (first|refine zst ?_|(refine zhm fun hb=>?_;try first|omega|exact absurd rfl hb)|refine zgc ?_ ?_|refine zgx ?_ ?_|(apply op_id;first|refine kc (markTopo_0) rfl rfl ?_|refine kc (markBoolS_0) rfl rfl ?_|refine kc (markJobS_0) rfl rfl ?_|refine kc (markRunS_0) rfl rfl ?_|refine kc (markEndS_0) rfl rfl ?_))
  refine zr [] ?_ ?_
  repeat'(first|apply And.intro|exact zeb|refine zec ?_|exact zen|refine zeo ?_|exact zel|refine zem ?_|exact zep|refine zeq1 ?_|refine zea ?_|refine zei ?_ ?_|refine zex ?_|refine zca (hv := ?_)|refine zcb (hv := ?_)|exact rfl|trivial)
  all_goals exact Stop.mk rfl
theorem markCtl_0 {k : Nat} : ACalls Tryz.prog 35 [.agg (st0 ++ st0 ++ [.d (.sl []), .d (.n .i64 0), .d (.n .i64 0)]), .d (.n .i64 k)] [.d (.n .i64 k)] [] := by
  refine acalls_of tt Tryz.func35 rfl rfl rfl (fun w0 Z => ?_)
  repeat' (first|refine zst ?_|(refine zhm fun hb=>?_;try first|omega|exact absurd rfl hb)|refine zgc ?_ ?_|refine zgx ?_ ?_|(apply op_id;first|refine kc (markState_0) rfl rfl ?_|refine kc (markJournal_0) rfl rfl ?_))
  refine zr [] ?_ ?_
  repeat'(first|apply And.intro|exact zeb|refine zec ?_|exact zen|refine zeo ?_|exact zel|refine zem ?_|exact zep|refine zeq1 ?_|refine zea ?_|refine zei ?_ ?_|refine zex ?_|refine zca (hv := ?_)|refine zcb (hv := ?_)|exact rfl|trivial)
  all_goals exact Stop.mk rfl
@[reducible] def ctlD (a b : State) : AV := .agg (stateC a ++ stateC b ++ [.d (.sl []), .d (.n .i64 0), .d (.n .i64 0)])
theorem eqCtl_r {s : State} (hs : Small 1000000000 s) : ACalls Tryz.prog 34 [ctlD s s, ctlD s s] [.d (.b true)] [] := by
  refine acalls_of tt Tryz.func34 rfl rfl rfl (fun w0 Z => ?_)
  repeat' (first|refine zst ?_|(refine zhm fun hb=>?_;try first|omega|exact absurd rfl hb)|refine zgc ?_ ?_|refine zgx ?_ ?_|(apply op_id;first|refine kc (eqState_r hs) rfl rfl ?_|refine kc (eqJournal_0) rfl rfl ?_))
  refine zr [] ?_ ?_
  repeat'(first|apply And.intro|exact zeb|refine zec ?_|exact zen|refine zeo ?_|exact zel|refine zem ?_|exact zep|refine zeq1 ?_|refine zea ?_|refine zei ?_ ?_|refine zex ?_|refine zca (hv := ?_)|refine zcb (hv := ?_)|exact rfl|trivial)
  all_goals exact Stop.mk rfl
theorem heldCtl_e {s : State} {k : Nat} (h : Small 1048576 s) (hk : k ≤ 10000000000000) : ACalls Tryz.prog 36 [ctlD (mSt k s) (mSt (kSt k s) s), .d (.n .i64 k)] [.d (.n .i64 ((kSt (kSt k s) s : Nat) : Int))] [] := by
  refine acalls_of tt Tryz.func36 rfl rfl rfl (fun w0 Z => ?_)
  have hb := kRu_le h (k := k) (by omega)
  have hb2 := kRu_le h (k := kSt k s) (by omega)
  repeat' (first|refine zst ?_|(refine zhm fun hb=>?_;try first|omega|exact absurd rfl hb)|refine zgc ?_ ?_|refine zgx ?_ ?_|(apply op_id;first|refine kc (heldState_e (k := k) h (by omega)) rfl rfl ?_|refine kc (heldState_e (k := kSt k s) h (by omega)) rfl rfl ?_|refine kc (heldJournal_0) rfl rfl ?_))
  refine zr [] ?_ ?_
  repeat'(first|apply And.intro|exact zeb|refine zec ?_|exact zen|refine zeo ?_|exact zel|refine zem ?_|exact zep|refine zeq1 ?_|refine zea ?_|refine zei ?_ ?_|refine zex ?_|refine zca (hv := ?_)|refine zcb (hv := ?_)|exact rfl|trivial)
  all_goals exact Stop.mk rfl
@[reducible] def ctlM (s t : State) : List (Nat × AO) := [(1000000, .row 3 (intE s.topo.parents) true), (1000001, .row 204 (nodeE s.topo.nodes) true), (1000002, .row 4 (boolE s.up) true), (1000003, .row 94 (jobE s.queue) true), (1000004, .row 116 (runE s.runs) true), (1000005, .row 134 (endE s.ends) true), (1000006, .row 3 (intE t.topo.parents) true), (1000007, .row 204 (nodeE t.topo.nodes) true), (1000008, .row 4 (boolE t.up) true), (1000009, .row 94 (jobE t.queue) true), (1000010, .row 116 (runE t.runs) true), (1000011, .row 134 (endE t.ends) true)]
theorem markCtl_m {s : State} {k : Nat} (h : Small 1048576 s) (hk : k ≤ 10000000000000) : MCalls Tryz.prog 35 [.agg (stC s 1000000 1000001 1000002 1000003 1000004 1000005 ++ stC s 1000006 1000007 1000008 1000009 1000010 1000011 ++ [.nil, .d (.n .i64 0), .d (.n .i64 0)]), .d (.n .i64 k)] (ctlM s s) (fun (_ : Unit) => True) (fun _ => [.d (.n .i64 ((kSt (kSt k s) s : Nat) : Int))]) (fun _ => ctlM (mSt k s) (mSt (kSt k s) s)) (fun _ => []) := by
  refine mcalls_of tt Tryz.func35 rfl rfl rfl ⟨.inl rfl, .inl rfl, .inl rfl, .inl rfl, .inl rfl, .inl rfl, .inl rfl, .inl rfl, .inl rfl, .inl rfl, .inl rfl, .inl rfl, trivial⟩ (fun _ _ => ⟨⟨⟨rfl, rfl, lnI⟩, ⟨rfl, rfl, lnN⟩, ⟨rfl, rfl, lnB⟩, ⟨rfl, rfl, lnJ⟩, ⟨rfl, rfl, lnR⟩, ⟨rfl, rfl, lnE⟩, ⟨rfl, rfl, lnI⟩, ⟨rfl, rfl, lnN⟩, ⟨rfl, rfl, lnB⟩, ⟨rfl, rfl, lnJ⟩, ⟨rfl, rfl, lnR⟩, ⟨rfl, rfl, lnE⟩, trivial⟩, .inl rfl, .inl rfl, .inl rfl, .inl rfl, .inl rfl, .inl rfl, .inl rfl, .inl rfl, .inl rfl, .inl rfl, .inl rfl, .inl rfl, trivial⟩) (fun w0 Z O => ?_)
  have hb := kRu_le h (k := k) (by omega)
  have hb2 := kRu_le h (k := kSt k s) (by omega)
  repeat' (first|refine zst ?_|(refine zhm fun hb=>?_;try first|omega|exact absurd rfl hb)|refine zgc ?_ ?_|refine zgx ?_ ?_|(apply op_id;first|refine kc (markJournal_0) rfl rfl ?_|(refine km [1000000, 1000001, 1000002, 1000003, 1000004, 1000005] (markState_m (k := k) h (by omega)) rfl rfl (fun i hi => ?_);(try dsimp only at hi))|(refine km [1000006, 1000007, 1000008, 1000009, 1000010, 1000011] (markState_m (k := kSt k s) h (by omega)) rfl rfl (fun i hi => ?_);(try dsimp only at hi))))
  refine zm () [] (by exact trivial) ?_ ?_ ?_
  repeat'(first|apply And.intro|exact zeb|refine zec ?_|exact zen|refine zeo ?_|exact zel|refine zem ?_|exact zep|refine zeq1 ?_|refine zea ?_|refine zei ?_ ?_|refine zex ?_|refine zca (hv := ?_)|refine zcb (hv := ?_)|exact rfl|trivial)
  all_goals exact Stop.mk rfl
def zS : State := ⟨⟨[], []⟩, [], zV, 0, 0, [], [], []⟩
theorem zS_small (n : Nat) : Small n zS := ⟨Nat.zero_le _, Nat.zero_le _, Nat.zero_le _, Nat.zero_le _, Nat.zero_le _, Nat.zero_le _, fun _ hj => absurd hj (Nat.not_lt_zero _)⟩
theorem lawCtlNew_e {s : State} (h : Small 9223372036854775807 s) : ACalls Tryz.prog 6 [stateA s] [.d (.b true)] [] := by
  refine acalls_of tt Tryz.func6 rfl rfl rfl (fun w0 Z => ?_)
  by_cases hS : Small 1048576 s
  · have hm : Small 100000000 s := hS.mono (by omega)
    by_cases hf : FreshP s
    · repeat' (first|refine zst ?_|(refine zhm fun hb=>?_;try first|omega|exact absurd rfl hb)|(apply awp_drawm2 10;kernel_rfl;exact rfl)|(apply awp_drawq;exact rfl;kernel_rfl;kernel_rfl;exact rfl)|(apply awp_drawx;exact rfl;kernel_rfl;exact rfl)|(apply aopQ_ok;exact rfl)|apply qs_nil|(apply ch_nil;exact rfl)|((first|(apply ch_cons;iterate 2 exact rfl)|(apply ch_yes;iterate 4 exact rfl));(iterate 2 exact rfl);(· (intro w0 Z O;first|(apply aop_ok;exact rfl)|(apply QOk.ok;first|refine zk29 ns_ok (by kernel_rfl) ?_)|refine kc (toState_o hS) rfl rfl ?_|refine kc (ctlNew_s hm hf) rfl rfl ?_|refine kc (ctlNew_o hm hf) rfl rfl ?_|refine kc (eqCtl_r (hS.mono (by omega))) rfl rfl ?_|refine kc (eqState_r (hS.mono (by omega))) rfl rfl ?_|refine kc (heldCtl_e (k := 1) hS (by omega)) rfl rfl ?_|refine km [] (szState_e h) rfl rfl (fun i hi => ?_);(try dsimp only at hi)|refine km [] (toState_e hS) rfl rfl (fun i hi => ?_);(try dsimp only at hi)|refine km [26, 1026, 2026, 3026, 4026, 5026] (markState_m (k := 1) hS (by omega)) rfl rfl (fun i hi => ?_);(try dsimp only at hi)|refine km [29, 1029, 2029, 3029, 4029, 5029, 6029, 7029, 8029, 9029, 10029, 11029] (markCtl_m (k := 1) hS (by omega)) rfl rfl (fun i hi => ?_);(try dsimp only at hi));exact ⟨rfl, rfl, rfl⟩);(iterate 2 exact rfl);exact zsl;exact zft;(iterate 4 exact rfl))|(apply ch_no;iterate 10 exact rfl)|(apply ch_no2;iterate 9 exact rfl)|refine zcx ?_ ?_|refine zgc ?_ ?_|refine zgx ?_ ?_|(first|(apply qs_cons;exact rfl)|(apply qs_yes;exact rfl;exact rfl;exact rfl))|refine zqx ?_ ?_|(apply q_id;first|refine kq (toState_o hS) rfl rfl ?_|refine kq (ctlNew_s hm hf) rfl rfl ?_|refine kq (ctlNew_o hm hf) rfl rfl ?_|refine kq (eqCtl_r (hS.mono (by omega))) rfl rfl ?_|refine kq (eqState_r (hS.mono (by omega))) rfl rfl ?_|refine kq (heldCtl_e (k := 1) hS (by omega)) rfl rfl ?_)|(apply op_id;first|refine kc (toState_o hS) rfl rfl ?_|refine kc (ctlNew_s hm hf) rfl rfl ?_|refine kc (ctlNew_o hm hf) rfl rfl ?_|refine kc (eqCtl_r (hS.mono (by omega))) rfl rfl ?_|refine kc (eqState_r (hS.mono (by omega))) rfl rfl ?_|refine kc (heldCtl_e (k := 1) hS (by omega)) rfl rfl ?_|(refine km [] (szState_e h) rfl rfl (fun i hi => ?_);(try dsimp only at hi))|(refine km [] (toState_e hS) rfl rfl (fun i hi => ?_);(try dsimp only at hi))|(refine km [26, 1026, 2026, 3026, 4026, 5026] (markState_m (k := 1) hS (by omega)) rfl rfl (fun i hi => ?_);(try dsimp only at hi))|(refine km [29, 1029, 2029, 3029, 4029, 5029, 6029, 7029, 8029, 9029, 10029, 11029] (markCtl_m (k := 1) hS (by omega)) rfl rfl (fun i hi => ?_);(try dsimp only at hi))|refine zgq ?_)|(apply q_id;first|refine zk29 ns_ok (by kernel_rfl) ?_))
      all_goals
        refine zr [] ?_ ?_
        repeat'(first|apply And.intro|exact zeb|refine zec ?_|exact zen|refine zeo ?_|exact zel|refine zem ?_|exact zep|refine zeq1 ?_|refine zea ?_|refine zei ?_ ?_|refine zex ?_|refine zca (hv := ?_)|refine zcb (hv := ?_)|exact rfl|trivial)
        all_goals exact Stop.mk rfl
    · repeat' (first|refine zst ?_|(refine zhm fun hb=>?_;try first|omega|exact absurd rfl hb)|(apply awp_drawm2 10;kernel_rfl;exact rfl)|(apply awp_drawq;exact rfl;kernel_rfl;kernel_rfl;exact rfl)|(apply awp_drawx;exact rfl;kernel_rfl;exact rfl)|(apply aopQ_ok;exact rfl)|apply qs_nil|(apply ch_nil;exact rfl)|((first|(apply ch_cons;iterate 2 exact rfl)|(apply ch_yes;iterate 4 exact rfl));(iterate 2 exact rfl);(· (intro w0 Z O;first|(apply aop_ok;exact rfl)|(apply QOk.ok;first|refine zk29 ns_ok (by kernel_rfl) ?_)|refine kc (toState_o hS) rfl rfl ?_|refine kc (ctlNew_t hm hf) rfl rfl ?_|refine kc (ctlNew_f hm hf) rfl rfl ?_|refine kc (eqCtl_r (zS_small _)) rfl rfl ?_|refine kc (eqState_r (hS.mono (by omega))) rfl rfl ?_|refine kc (markCtl_0 (k := 1)) rfl rfl ?_|refine kc (heldCtl_e (s := zS) (k := 1) (zS_small _) (by omega)) rfl rfl ?_|refine km [] (szState_e h) rfl rfl (fun i hi => ?_);(try dsimp only at hi)|refine km [] (toState_e hS) rfl rfl (fun i hi => ?_);(try dsimp only at hi)|refine km [26, 1026, 2026, 3026, 4026, 5026] (markState_m (k := 1) hS (by omega)) rfl rfl (fun i hi => ?_);(try dsimp only at hi));exact ⟨rfl, rfl, rfl⟩);(iterate 2 exact rfl);exact zsl;exact zft;(iterate 4 exact rfl))|(apply ch_no;iterate 10 exact rfl)|(apply ch_no2;iterate 9 exact rfl)|refine zcx ?_ ?_|refine zgc ?_ ?_|refine zgx ?_ ?_|(first|(apply qs_cons;exact rfl)|(apply qs_yes;exact rfl;exact rfl;exact rfl))|refine zqx ?_ ?_|(apply q_id;first|refine kq (toState_o hS) rfl rfl ?_|refine kq (ctlNew_t hm hf) rfl rfl ?_|refine kq (ctlNew_f hm hf) rfl rfl ?_|refine kq (eqCtl_r (zS_small _)) rfl rfl ?_|refine kq (eqState_r (hS.mono (by omega))) rfl rfl ?_|refine kq (markCtl_0 (k := 1)) rfl rfl ?_|refine kq (heldCtl_e (s := zS) (k := 1) (zS_small _) (by omega)) rfl rfl ?_)|(apply op_id;first|refine kc (toState_o hS) rfl rfl ?_|refine kc (ctlNew_t hm hf) rfl rfl ?_|refine kc (ctlNew_f hm hf) rfl rfl ?_|refine kc (eqCtl_r (zS_small _)) rfl rfl ?_|refine kc (eqState_r (hS.mono (by omega))) rfl rfl ?_|refine kc (markCtl_0 (k := 1)) rfl rfl ?_|refine kc (heldCtl_e (s := zS) (k := 1) (zS_small _) (by omega)) rfl rfl ?_|(refine km [] (szState_e h) rfl rfl (fun i hi => ?_);(try dsimp only at hi))|(refine km [] (toState_e hS) rfl rfl (fun i hi => ?_);(try dsimp only at hi))|(refine km [26, 1026, 2026, 3026, 4026, 5026] (markState_m (k := 1) hS (by omega)) rfl rfl (fun i hi => ?_);(try dsimp only at hi))|refine zgq ?_)|(apply q_id;first|refine zk29 ns_ok (by kernel_rfl) ?_))
      all_goals
        refine zr [] ?_ ?_
        repeat'(first|apply And.intro|exact zeb|refine zec ?_|exact zen|refine zeo ?_|exact zel|refine zem ?_|exact zep|refine zeq1 ?_|refine zea ?_|refine zei ?_ ?_|refine zex ?_|refine zca (hv := ?_)|refine zcb (hv := ?_)|exact rfl|trivial)
        all_goals exact Stop.mk rfl
  · repeat' (first|refine zst ?_|(refine zhm fun hb=>?_;try first|omega|exact absurd rfl hb)|(apply awp_drawq;exact rfl;kernel_rfl;kernel_rfl;exact rfl)|(apply awp_drawx;exact rfl;kernel_rfl;exact rfl)|(apply aopQ_ok;exact rfl)|apply qs_nil|(apply ch_nil;exact rfl)|((first|(apply ch_cons;iterate 2 exact rfl)|(apply ch_yes;iterate 4 exact rfl));(iterate 2 exact rfl);(· (intro w0 Z O;first|(apply aop_ok;exact rfl)|(apply QOk.ok;first|refine zk29 ns_ok (by kernel_rfl) ?_)|refine km [] (szState_e h) rfl rfl (fun i hi => ?_);(try dsimp only at hi));exact ⟨rfl, rfl, rfl⟩);(iterate 2 exact rfl);exact zsl;exact zft;(iterate 4 exact rfl))|(apply ch_no;iterate 10 exact rfl)|(apply ch_no2;iterate 9 exact rfl)|refine zcx ?_ ?_|refine zgc ?_ ?_|refine zgx ?_ ?_|(first|(apply qs_cons;exact rfl)|(apply qs_yes;exact rfl;exact rfl;exact rfl))|refine zqx ?_ ?_|(apply op_id;first|(refine km [] (szState_e h) rfl rfl (fun i hi => ?_);(try dsimp only at hi))|refine zgq ?_)|(apply q_id;first|refine zk29 ns_ok (by kernel_rfl) ?_))
    all_goals first | (exfalso; exact hS (hi.2 (by omega))) | skip
    refine zr [] ?_ ?_
    repeat'(first|apply And.intro|exact zeb|refine zec ?_|exact zen|refine zeo ?_|exact zel|refine zem ?_|exact zep|refine zeq1 ?_|refine zea ?_|refine zei ?_ ?_|refine zex ?_|refine zca (hv := ?_)|refine zcb (hv := ?_)|exact rfl|trivial)
    all_goals exact Stop.mk rfl
end Go.Proofs.YtliopiphobopjaaGreat
