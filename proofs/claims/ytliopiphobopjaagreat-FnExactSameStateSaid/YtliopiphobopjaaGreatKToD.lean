/-
  The law of SameState, without its arguments.
-/
import Derived.Test.YtliopiphobopjaaGreatKSh
import Derived.Test.YtliopiphobopjaaGreatKToC
set_option maxRecDepth 100000
set_option maxHeartbeats 16000000
namespace Go.Proofs.YtliopiphobopjaaGreat
open Go Go.RowKit
attribute [local irreducible] AWp OpsOk OpOk ACalls ChA QsOk MCalls EnC PY
theorem szState_x {s : State} {x : Int} (h : Small 9223372036854775807 s) (hx : 0 ≤ x ∧ x ≤ 1048576) : SC Tryz.prog 18 (stateA s) x (Small 1048576 s) := by
  refine mcalls_of tt Tryz.func18 rfl rfl rfl trivial (fun _ _ => ⟨trivial, trivial⟩) (fun w0 Z O => ?_)
  repeat' (first|refine zst ?_|(refine zhm fun hb=>?_;try first|omega|exact absurd rfl hb)|refine zgc ?_ ?_|refine zgx ?_ ?_|(apply op_id;first|(refine km [] (szTopo_e (t := s.topo) (x := x) h.par h.nod (by omega)) rfl rfl (fun i hi => ?_);(try dsimp only at hi))|(refine km [] (szBoolS_e (l := s.up) h.up (by omega)) rfl rfl (fun i hi => ?_);(try dsimp only at hi))|(refine km [] (szJobS_e (l := s.queue) h.que (by omega)) rfl rfl (fun i hi => ?_);(try dsimp only at hi))|(refine km [] (szRunS_e (l := s.runs) h.run h.rno (by omega)) rfl rfl (fun i hi => ?_);(try dsimp only at hi))|(refine km [] (szEndS_e (l := s.ends) h.end' (by omega)) rfl rfl (fun i hi => ?_);(try dsimp only at hi))))
  · refine zm (-1) [] (by exact ⟨by omega, fun h => by omega⟩) ?_ ?_ ?_
    repeat'(first|apply And.intro|exact zeb|refine zec ?_|exact zen|refine zeo ?_|exact zel|refine zem ?_|exact zep|refine zeq1 ?_|refine zea ?_|refine zei ?_ ?_|refine zex ?_|refine zca (hv := ?_)|refine zcb (hv := ?_)|exact rfl|trivial)
    all_goals exact Stop.mk rfl
  · refine zm (-1) [] (by exact ⟨by omega, fun h => by omega⟩) ?_ ?_ ?_
    repeat'(first|apply And.intro|exact zeb|refine zec ?_|exact zen|refine zeo ?_|exact zel|refine zem ?_|exact zep|refine zeq1 ?_|refine zea ?_|refine zei ?_ ?_|refine zex ?_|refine zca (hv := ?_)|refine zcb (hv := ?_)|exact rfl|trivial)
    all_goals exact Stop.mk rfl
  · refine zm (-1) [] (by exact ⟨by omega, fun h => by omega⟩) ?_ ?_ ?_
    repeat'(first|apply And.intro|exact zeb|refine zec ?_|exact zen|refine zeo ?_|exact zel|refine zem ?_|exact zep|refine zeq1 ?_|refine zea ?_|refine zei ?_ ?_|refine zex ?_|refine zca (hv := ?_)|refine zcb (hv := ?_)|exact rfl|trivial)
    all_goals exact Stop.mk rfl
  · refine zm (-1) [] (by exact ⟨by omega, fun h => by omega⟩) ?_ ?_ ?_
    repeat'(first|apply And.intro|exact zeb|refine zec ?_|exact zen|refine zeo ?_|exact zel|refine zem ?_|exact zep|refine zeq1 ?_|refine zea ?_|refine zei ?_ ?_|refine zex ?_|refine zca (hv := ?_)|refine zcb (hv := ?_)|exact rfl|trivial)
    all_goals exact Stop.mk rfl
  · refine zm (-1) [] (by exact ⟨by omega, fun h => by omega⟩) ?_ ?_ ?_
    repeat'(first|apply And.intro|exact zeb|refine zec ?_|exact zen|refine zeo ?_|exact zel|refine zem ?_|exact zep|refine zeq1 ?_|refine zea ?_|refine zei ?_ ?_|refine zex ?_|refine zca (hv := ?_)|refine zcb (hv := ?_)|exact rfl|trivial)
    all_goals exact Stop.mk rfl
  · rename_i i0 hi0 _ i1 hi1 _ i2 hi2 _ i3 hi3 _
    refine zm i [] (by exact ⟨by omega, fun _ => ⟨(hi0.2 (by omega)).1, (hi0.2 (by omega)).2, hi1.2 (by omega), hi2.2 (by omega), (hi3.2 (by omega)).1, hi.2 (by omega), (hi3.2 (by omega)).2⟩⟩) ?_ ?_ ?_
    repeat'(first|apply And.intro|exact zeb|refine zec ?_|exact zen|refine zeo ?_|exact zel|refine zem ?_|exact zep|refine zeq1 ?_|refine zea ?_|refine zei ?_ ?_|refine zex ?_|refine zca (hv := ?_)|refine zcb (hv := ?_)|exact rfl|trivial)
    all_goals exact Stop.mk rfl
theorem lawSameState_e {a b : State} (h : Small 9223372036854775807 a) (h' : Small 9223372036854775807 b) : ACalls Tryz.prog 4 [stateA a, stateA b] [.d (.b true)] [] := by
  refine acalls_of tt Tryz.func4 rfl rfl rfl (fun w0 Z => ?_)
  by_cases hA : Small 1048576 a
  · by_cases hB : Small 1048576 b
    · have ma : Small 100000000 a := hA.mono (by omega)
      have mb : Small 100000000 b := hB.mono (by omega)
      cases hs : sameB a b with
      | true =>
        have c1 := sameState_s ma mb
        have c2 := sameState_e ma mb
        rw [hs] at c1 c2
        repeat' (first|refine zst ?_|(refine zhm fun hb=>?_;try first|omega|exact absurd rfl hb)|(apply awp_drawm2 8;kernel_rfl;exact rfl)|(apply awp_drawm2 14;kernel_rfl;exact rfl)|(apply awp_drawm2 16;kernel_rfl;exact rfl)|(apply awp_drawq;exact rfl;kernel_rfl;kernel_rfl;exact rfl)|(apply awp_drawx;exact rfl;kernel_rfl;exact rfl)|(apply aopQ_ok;exact rfl)|apply qs_nil|(apply ch_nil;exact rfl)|((first|(apply ch_cons;iterate 2 exact rfl)|(apply ch_yes;iterate 4 exact rfl));(iterate 2 exact rfl);(· (intro w0 Z O;first|(apply aop_ok;exact rfl)|(apply QOk.ok;first|refine zk29 ns_ok (by kernel_rfl) ?_)|refine kc (c1) rfl rfl ?_|refine kc (c2) rfl rfl ?_|refine kc (eqState_r (hA.mono (by omega))) rfl rfl ?_|refine kc (eqState_r (hB.mono (by omega))) rfl rfl ?_|refine km [] (szState_x h (x := 1048576) (by omega)) rfl rfl (fun i hi => ?_);(try dsimp only at hi)|refine km [] (szState_x h' (x := i) (by omega)) rfl rfl (fun i hi => ?_);(try dsimp only at hi)|refine km [] (toState_e hA) rfl rfl (fun i hi => ?_);(try dsimp only at hi)|refine km [] (toState_e hB) rfl rfl (fun i hi => ?_);(try dsimp only at hi));exact ⟨rfl, rfl, rfl⟩);(iterate 2 exact rfl);exact zsl;exact zft;(iterate 4 exact rfl))|(apply ch_no;iterate 10 exact rfl)|(apply ch_no2;iterate 9 exact rfl)|refine zcx ?_ ?_|refine zgc ?_ ?_|refine zgx ?_ ?_|(first|(apply qs_cons;exact rfl)|(apply qs_yes;exact rfl;exact rfl;exact rfl))|refine zqx ?_ ?_|(apply q_id;first|refine kq (c1) rfl rfl ?_|refine kq (c2) rfl rfl ?_|refine kq (eqState_r (hA.mono (by omega))) rfl rfl ?_|refine kq (eqState_r (hB.mono (by omega))) rfl rfl ?_)|(apply op_id;first|refine kc (c1) rfl rfl ?_|refine kc (c2) rfl rfl ?_|refine kc (eqState_r (hA.mono (by omega))) rfl rfl ?_|refine kc (eqState_r (hB.mono (by omega))) rfl rfl ?_|(refine km [] (szState_x h (x := 1048576) (by omega)) rfl rfl (fun i hi => ?_);(try dsimp only at hi))|(refine km [] (szState_x h' (x := i) (by omega)) rfl rfl (fun i hi => ?_);(try dsimp only at hi))|(refine km [] (toState_e hA) rfl rfl (fun i hi => ?_);(try dsimp only at hi))|(refine km [] (toState_e hB) rfl rfl (fun i hi => ?_);(try dsimp only at hi))|refine zgq ?_)|(apply q_id;first|refine zk29 ns_ok (by kernel_rfl) ?_))
        all_goals
          refine zr [] ?_ ?_
          repeat'(first|apply And.intro|exact zeb|refine zec ?_|exact zen|refine zeo ?_|exact zel|refine zem ?_|exact zep|refine zeq1 ?_|refine zea ?_|refine zei ?_ ?_|refine zex ?_|refine zca (hv := ?_)|refine zcb (hv := ?_)|exact rfl|trivial)
          all_goals exact Stop.mk rfl
      | false =>
        have c1 := sameState_s ma mb
        have c2 := sameState_e ma mb
        rw [hs] at c1 c2
        repeat' (first|refine zst ?_|(refine zhm fun hb=>?_;try first|omega|exact absurd rfl hb)|(apply awp_drawm2 8;kernel_rfl;exact rfl)|(apply awp_drawm2 14;kernel_rfl;exact rfl)|(apply awp_drawm2 16;kernel_rfl;exact rfl)|(apply awp_drawq;exact rfl;kernel_rfl;kernel_rfl;exact rfl)|(apply awp_drawx;exact rfl;kernel_rfl;exact rfl)|(apply aopQ_ok;exact rfl)|apply qs_nil|(apply ch_nil;exact rfl)|((first|(apply ch_cons;iterate 2 exact rfl)|(apply ch_yes;iterate 4 exact rfl));(iterate 2 exact rfl);(· (intro w0 Z O;first|(apply aop_ok;exact rfl)|(apply QOk.ok;first|refine zk29 ns_ok (by kernel_rfl) ?_)|refine kc (c1) rfl rfl ?_|refine kc (c2) rfl rfl ?_|refine kc (eqState_r (hA.mono (by omega))) rfl rfl ?_|refine kc (eqState_r (hB.mono (by omega))) rfl rfl ?_|refine km [] (szState_x h (x := 1048576) (by omega)) rfl rfl (fun i hi => ?_);(try dsimp only at hi)|refine km [] (szState_x h' (x := i) (by omega)) rfl rfl (fun i hi => ?_);(try dsimp only at hi)|refine km [] (toState_e hA) rfl rfl (fun i hi => ?_);(try dsimp only at hi)|refine km [] (toState_e hB) rfl rfl (fun i hi => ?_);(try dsimp only at hi));exact ⟨rfl, rfl, rfl⟩);(iterate 2 exact rfl);exact zsl;exact zft;(iterate 4 exact rfl))|(apply ch_no;iterate 10 exact rfl)|(apply ch_no2;iterate 9 exact rfl)|refine zcx ?_ ?_|refine zgc ?_ ?_|refine zgx ?_ ?_|(first|(apply qs_cons;exact rfl)|(apply qs_yes;exact rfl;exact rfl;exact rfl))|refine zqx ?_ ?_|(apply q_id;first|refine kq (c1) rfl rfl ?_|refine kq (c2) rfl rfl ?_|refine kq (eqState_r (hA.mono (by omega))) rfl rfl ?_|refine kq (eqState_r (hB.mono (by omega))) rfl rfl ?_)|(apply op_id;first|refine kc (c1) rfl rfl ?_|refine kc (c2) rfl rfl ?_|refine kc (eqState_r (hA.mono (by omega))) rfl rfl ?_|refine kc (eqState_r (hB.mono (by omega))) rfl rfl ?_|(refine km [] (szState_x h (x := 1048576) (by omega)) rfl rfl (fun i hi => ?_);(try dsimp only at hi))|(refine km [] (szState_x h' (x := i) (by omega)) rfl rfl (fun i hi => ?_);(try dsimp only at hi))|(refine km [] (toState_e hA) rfl rfl (fun i hi => ?_);(try dsimp only at hi))|(refine km [] (toState_e hB) rfl rfl (fun i hi => ?_);(try dsimp only at hi))|refine zgq ?_)|(apply q_id;first|refine zk29 ns_ok (by kernel_rfl) ?_))
        all_goals
          refine zr [] ?_ ?_
          repeat'(first|apply And.intro|exact zeb|refine zec ?_|exact zen|refine zeo ?_|exact zel|refine zem ?_|exact zep|refine zeq1 ?_|refine zea ?_|refine zei ?_ ?_|refine zex ?_|refine zca (hv := ?_)|refine zcb (hv := ?_)|exact rfl|trivial)
          all_goals exact Stop.mk rfl
    · repeat' (first|refine zst ?_|(refine zhm fun hb=>?_;try first|omega|exact absurd rfl hb)|(apply awp_drawq;exact rfl;kernel_rfl;kernel_rfl;exact rfl)|(apply awp_drawx;exact rfl;kernel_rfl;exact rfl)|(apply aopQ_ok;exact rfl)|apply qs_nil|(apply ch_nil;exact rfl)|((first|(apply ch_cons;iterate 2 exact rfl)|(apply ch_yes;iterate 4 exact rfl));(iterate 2 exact rfl);(· (intro w0 Z O;first|(apply aop_ok;exact rfl)|(apply QOk.ok;first|refine zk29 ns_ok (by kernel_rfl) ?_)|refine km [] (szState_x h (x := 1048576) (by omega)) rfl rfl (fun i hi => ?_);(try dsimp only at hi)|refine km [] (szState_x h' (x := i) (by omega)) rfl rfl (fun i hi => ?_);(try dsimp only at hi));exact ⟨rfl, rfl, rfl⟩);(iterate 2 exact rfl);exact zsl;exact zft;(iterate 4 exact rfl))|(apply ch_no;iterate 10 exact rfl)|(apply ch_no2;iterate 9 exact rfl)|refine zcx ?_ ?_|refine zgc ?_ ?_|refine zgx ?_ ?_|(first|(apply qs_cons;exact rfl)|(apply qs_yes;exact rfl;exact rfl;exact rfl))|refine zqx ?_ ?_|(apply op_id;first|(refine km [] (szState_x h (x := 1048576) (by omega)) rfl rfl (fun i hi => ?_);(try dsimp only at hi))|(refine km [] (szState_x h' (x := i) (by omega)) rfl rfl (fun i hi => ?_);(try dsimp only at hi))|refine zgq ?_)|(apply q_id;first|refine zk29 ns_ok (by kernel_rfl) ?_))
      all_goals first | (exfalso; exact hB (hi.2 (by omega))) | skip
      all_goals
        refine zr [] ?_ ?_
        repeat'(first|apply And.intro|exact zeb|refine zec ?_|exact zen|refine zeo ?_|exact zel|refine zem ?_|exact zep|refine zeq1 ?_|refine zea ?_|refine zei ?_ ?_|refine zex ?_|refine zca (hv := ?_)|refine zcb (hv := ?_)|exact rfl|trivial)
        all_goals exact Stop.mk rfl
  · repeat' (first|refine zst ?_|(refine zhm fun hb=>?_;try first|omega|exact absurd rfl hb)|(apply awp_drawq;exact rfl;kernel_rfl;kernel_rfl;exact rfl)|(apply awp_drawx;exact rfl;kernel_rfl;exact rfl)|(apply aopQ_ok;exact rfl)|apply qs_nil|(apply ch_nil;exact rfl)|((first|(apply ch_cons;iterate 2 exact rfl)|(apply ch_yes;iterate 4 exact rfl));(iterate 2 exact rfl);(· (intro w0 Z O;first|(apply aop_ok;exact rfl)|(apply QOk.ok;first|refine zk29 ns_ok (by kernel_rfl) ?_)|refine km [] (szState_x h (x := 1048576) (by omega)) rfl rfl (fun i hi => ?_);(try dsimp only at hi));exact ⟨rfl, rfl, rfl⟩);(iterate 2 exact rfl);exact zsl;exact zft;(iterate 4 exact rfl))|(apply ch_no;iterate 10 exact rfl)|(apply ch_no2;iterate 9 exact rfl)|refine zcx ?_ ?_|refine zgc ?_ ?_|refine zgx ?_ ?_|(first|(apply qs_cons;exact rfl)|(apply qs_yes;exact rfl;exact rfl;exact rfl))|refine zqx ?_ ?_|(apply op_id;first|(refine km [] (szState_x h (x := 1048576) (by omega)) rfl rfl (fun i hi => ?_);(try dsimp only at hi))|refine zgq ?_)|(apply q_id;first|refine zk29 ns_ok (by kernel_rfl) ?_))
    all_goals first | (exfalso; exact hA (hi.2 (by omega))) | skip
    all_goals
      refine zr [] ?_ ?_
      repeat'(first|apply And.intro|exact zeb|refine zec ?_|exact zen|refine zeo ?_|exact zel|refine zem ?_|exact zep|refine zeq1 ?_|refine zea ?_|refine zei ?_ ?_|refine zex ?_|refine zca (hv := ?_)|refine zcb (hv := ?_)|exact rfl|trivial)
      all_goals exact Stop.mk rfl
end Go.Proofs.YtliopiphobopjaaGreat
