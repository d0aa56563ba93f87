/-
  A law of the operations on a state, without its arguments.
-/
import Derived.Test.YtliopiphobopjaaGreatKFiA
import Derived.Test.YtliopiphobopjaaGreatKB21
set_option maxRecDepth 100000
set_option maxHeartbeats 16000000
namespace Go.Proofs.YtliopiphobopjaaGreat
open Go Go.RowKit
attribute [local irreducible] AWp OpsOk OpOk ACalls ChA QsOk MCalls NCalls EnC PY

theorem lawFinish_e {s : State} {id why : Int} (h : Small 9223372036854775807 s) : ACalls Tryz.prog 15 [stateA s, .d (.n .i64 id), .d (.n .i64 why)] [.d (.b true)] [] := by
 refine acalls_of tt Tryz.func15 rfl rfl rfl (fun w0 Z => ?_)
 by_cases hS : Small 1048576 s
 ·have c1 := finish_s (id := id) (why := why) hS
  have c2 := finish_e (id := id) (why := why) hS
  have hO := fnsO_small (id := id) (why := why) hS
  generalize fnsO s id why = o at c1 c2 hO
  obtain ⟨_ | s', c⟩ := o
  ·dsimp only [SO, SS, stR, stB, Option.getD] at c1 c2
   repeat' (first|refine zst ?_|(refine zhm fun hb=>?_;try exact zab)|(apply awp_drawm2 10;kernel_rfl;exact rfl)|refine zdr ?_|(apply zch;exact zcg)|refine HopS.mk fun w0 Z O=>?_|exact zhk|refine zg3 ?_ ?_|(apply op_id;first|(refine km (t := 25) [] (toState_e hS) rfl rfl (fun i hi => ?_)))|refine zop ?_|refine kc (toState_o hS) rfl rfl ?_|refine kc (c2) rfl rfl ?_|refine kc (eqState_r (s := zS) (zS_small _)) rfl rfl ?_|refine kc (eqState_r (s := s) (hS.mono (by omega))) rfl rfl ?_|refine kc (markState_0 (k := 1)) rfl rfl ?_|refine kc (heldState_e (s := zS) (k := 1) (zS_small _) (by omega)) rfl rfl ?_|(refine km [] (szState_e h) rfl rfl (fun i hi => ?_);(try dsimp only at hi))|(refine km [] (toState_e hS) rfl rfl (fun i hi => ?_);(try dsimp only at hi))|(refine km [] (c1) rfl rfl (fun i hi => ?_);(try dsimp only at hi))|(refine km [32, 1032, 2032, 3032, 4032, 5032] (markState_m (k := 1) hS (by omega)) rfl rfl (fun i hi => ?_);(try dsimp only at hi))|refine kq (toState_o hS) rfl rfl ?_|refine kq (c2) rfl rfl ?_|refine kq (eqState_r (s := zS) (zS_small _)) rfl rfl ?_|refine kq (eqState_r (s := s) (hS.mono (by omega))) rfl rfl ?_|refine kq (markState_0 (k := 1)) rfl rfl ?_|refine kq (heldState_e (s := zS) (k := 1) (zS_small _) (by omega)) rfl rfl ?_|fail)
   all_goals
    exact zr [] zae zae
  ·dsimp only [SO, SS, stR, stB, Option.getD] at c1 c2
   have hO := hO s' rfl
   repeat' (first|refine zst ?_|(refine zhm fun hb=>?_;try exact zab)|(apply awp_drawm2 10;kernel_rfl;exact rfl)|refine zdr ?_|(apply zch;exact zcg)|refine HopS.mk fun w0 Z O=>?_|exact zhk|refine zg3 ?_ ?_|(apply op_id;first|(refine km (t := 25) [] (toState_e hS) rfl rfl (fun i hi => ?_)))|refine zop ?_|refine kc (toState_o hS) rfl rfl ?_|refine kc (c2) rfl rfl ?_|refine kc (eqState_r (s := s') (hO.mono (by omega))) rfl rfl ?_|refine kc (eqState_r (s := s) (hS.mono (by omega))) rfl rfl ?_|refine kc (heldState_e (s := s') (k := 1) hO (by omega)) rfl rfl ?_|(refine km [] (szState_e h) rfl rfl (fun i hi => ?_);(try dsimp only at hi))|(refine km [] (toState_e hS) rfl rfl (fun i hi => ?_);(try dsimp only at hi))|(refine km [] (c1) rfl rfl (fun i hi => ?_);(try dsimp only at hi))|(refine km [32, 1032, 2032, 3032, 4032, 5032] (markState_m (k := 1) hS (by omega)) rfl rfl (fun i hi => ?_);(try dsimp only at hi))|(refine km [37, 1037, 2037, 3037, 4037, 5037] (markState_m (k := 1) hO (by omega)) rfl rfl (fun i hi => ?_);(try dsimp only at hi))|refine kq (toState_o hS) rfl rfl ?_|refine kq (c2) rfl rfl ?_|refine kq (eqState_r (s := s') (hO.mono (by omega))) rfl rfl ?_|refine kq (eqState_r (s := s) (hS.mono (by omega))) rfl rfl ?_|refine kq (heldState_e (s := s') (k := 1) hO (by omega)) rfl rfl ?_|fail)
   all_goals
    exact zr [] zae zae
 ·repeat' (first|refine zst ?_|(refine zhm fun hb=>?_;try exact zab)|refine zdr ?_|(apply zch;exact zcg)|refine HopS.mk fun w0 Z O=>?_|exact zhk|refine zg3 ?_ ?_|refine zop ?_|(refine km [] (sz_neg h hS) rfl rfl (fun i hi => ?_);(try dsimp only at hi))|fail)
  exact zr [] zae zae
end Go.Proofs.YtliopiphobopjaaGreat
