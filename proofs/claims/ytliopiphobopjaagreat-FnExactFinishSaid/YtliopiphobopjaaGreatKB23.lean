/-
  Copies of states of which only some rows are the caller's own.
-/
import Derived.Test.YtliopiphobopjaaGreatKShL
import Derived.Test.YtliopiphobopjaaGreatKB21
import Derived.Test.YtliopiphobopjaaGreatKRoS
import Derived.Test.YtliopiphobopjaaGreatKB6
import Derived.Test.YtliopiphobopjaaGreatKB18
set_option maxRecDepth 100000
set_option maxHeartbeats 16000000
namespace Go.Proofs.YtliopiphobopjaaGreat
open Go Go.RowKit
theorem mc_add {ι : Type} {P : Program} {f : FuncId} {args : List AV} {obs : List (Nat × AO)} {ok q : ι → Prop} {rs : ι → List AV} {obs' rob : ι → List (Nat × AO)} (h : MCalls P f args obs ok rs obs' rob) (hq : ∀ i, ok i → q i) : MCalls P f args obs (fun i => ok i ∧ q i) rs obs' rob := by
 refine ⟨⟨h.1.1, fun i hi => h.1.2 i hi.1⟩, fun w Zp eh us hm hk hs => ?_⟩
 obtain ⟨h1, h2⟩ := h.2 w Zp eh us hm hk hs
 exact ⟨h1, h2.mono fun e w' ⟨i, v, en, ⟨hi, x⟩, r⟩ => ⟨i, v, en, ⟨⟨hi, hq i hi⟩, x⟩, r⟩⟩
attribute [local irreducible] AWp OpsOk OpOk ACalls ChA QsOk MCalls NCalls EnC PY
theorem sz_neg {s : State} (h : Small 9223372036854775807 s) (hS : ¬ Small 1048576 s) : MCalls Tryz.prog 18 [stateA s, .d (.n .i64 1048576)] [] (fun y : Int => ((-1 ≤ y ∧ y ≤ 1048576) ∧ (0 ≤ y → Small 1048576 s)) ∧ y < 0) (fun y => [.d (.n .i64 y)]) (fun _ => []) (fun _ => []) := mc_add (szState_e h) (q := fun i => i < 0) (fun i hi => by
 rcases Int.lt_or_le i 0 with h1 | h1
 ·exact h1
 ·exact absurd (hi.2 h1) hS)
@[reducible] def stateHq (s : State) (q0 q1 q2 : Nat) : List AV := [.d (.sl (intE s.topo.parents)), .d (.sl (nodeE s.topo.nodes)), .d (.sl (boolE s.up)), .d (.n .i64 s.lic.a), .d (.n .i64 s.lic.b), .d (.n .i64 s.lic.c), .d (.n .i64 s.depth), .d (.n .i64 s.now), .row q0, .row q1, .row q2]
@[reducible] def stateHw (s : State) (q0 : Nat) : List AV := [.d (.sl (intE s.topo.parents)), .d (.sl (nodeE s.topo.nodes)), .d (.sl (boolE s.up)), .d (.n .i64 s.lic.a), .d (.n .i64 s.lic.b), .d (.n .i64 s.lic.c), .d (.n .i64 s.depth), .d (.n .i64 s.now), .row q0, .d (.sl (runE s.runs)), .d (.sl (endE s.ends))]
end Go.Proofs.YtliopiphobopjaaGreat
namespace Go.Proofs.YtliopiphobopjaaGreat
open Go Go.RowKit
attribute [local irreducible] AWp OpsOk OpOk ACalls ChA QsOk MCalls NCalls EnC PY
@[reducible] def stOwn (s : State) (u q : AV) (q2 : Nat) : List AV := [.d (.sl (intE s.topo.parents)), .d (.sl (nodeE s.topo.nodes)), u, .d (.n .i64 s.lic.a), .d (.n .i64 s.lic.b), .d (.n .i64 s.lic.c), .d (.n .i64 s.depth), .d (.n .i64 s.now), q, .d (.sl (runE s.runs)), .row q2]
@[reducible] def stMid (s : State) (u q : AV) : List AV := [.d (.sl (intE s.topo.parents)), .d (.sl (nodeE s.topo.nodes)), u, .d (.n .i64 s.lic.a), .d (.n .i64 s.lic.b), .d (.n .i64 s.lic.c), .d (.n .i64 s.depth), .d (.n .i64 s.now), q, .d (.sl (runE s.runs)), .d (.sl (endE s.ends))]
theorem l06Copy_f {s : State} (hs : Small 100000000 s) : MCalls Tryz.prog 103 [stateA s] [] (fun _ : Unit => True) (fun _ => [.agg (stOwn s (.row 0) (.row 1) 2)]) (fun _ => []) (fun _ => [(0, .row 4 (boolE s.up) true), (1, .row 94 (jobE s.queue) true), (2, .row 134 (endE s.ends) true)]) := by
 refine mcalls_of tt Tryz.func103 rfl rfl rfl trivial (fun _ _ => ⟨trivial, trivial⟩) (fun w0 Z O => ?_)
 have hl := runE_length s.runs
 have h1 := hs.par; have h2 := hs.nod; have h3 := hs.up; have h4 := hs.que; have h5 := hs.run; have h6 := hs.end'
 repeat' (first|(refine awp_frzr 2 6 rfl ?_)|(refine awp_frzr 2 11 rfl ?_)|refine zst ?_|(refine zhm fun hb=>?_;try exact zab)|refine zdr ?_|(apply zch;exact zcg)|refine HopS.mk fun w0 Z O=>?_|exact zhk|refine zg3 ?_ ?_|refine zln fun _=>?_|refine zop ?_|fail)
 refine awp_loop (fun (k : Nat) => ⟨54, [(1, .ptr 1 0), (2, .ptr 2 0), (3, .row 28), (30, .d (.sl (runE s.runs))), (31, .d (.n .i64 (s.runs.length : Nat))), (32, .d (.n .i64 k))], [(28, .row 116 (runE (s.runs.take k)) true), (18, .row 4 (boolE s.up) true), (23, .row 94 (jobE s.queue) true),(1, .box 44 (stMid s (.row 18) (.row 23))), (2, .box 44 [.nil, .nil, .nil, .d (.n .i64 0), .d (.n .i64 0), .d (.n .i64 0), .d (.n .i64 0), .d (.n .i64 0), .nil, .nil, .nil])]⟩) (fun k => k ≤ s.runs.length) (fun k => s.runs.length - k) 0 (by exact Nat.zero_le _) ?_ ?_
 ·exact ⟨rfl, zae, zae, rfl⟩
 ·intro k hk
  have hd2 : (runE (s.runs.take k)).length = k := by rw [runE_length, List.length_take]; omega
  by_cases hk' : k < s.runs.length
  ·have hn := hs.rno k hk'
   repeat' (first|refine zst ?_|(refine zhm fun hb=>?_;try exact zab)|refine zdr ?_|(apply zch;exact zcg)|refine HopS.mk fun w0 Z O=>?_|exact zhk|refine zg3 ?_ ?_|(apply op_id;first|(refine st_litA rfl rfl rfl ⟨rfl, rfl, rfl⟩ rfl rfl rfl rfl rfl rfl rfl rfl (flatE_map fun _ => rfl) rfl rfl rfl rfl rfl ?_)|(refine st_appendA rfl rfl rfl rfl rfl rfl rfl rfl ⟨rfl, rfl, rfl⟩ hd2 (rfl : _ = 1) (by omega) rfl rfl ?_))|refine zln fun _=>?_|refine zop ?_|fail)
   refine ⟨k + 1, by omega, by omega, ?_⟩
   refine ⟨rfl, ?_, ?_, rfl⟩
   repeat'(first|apply And.intro|exact ze0|refine ze1 ?_|refine zei ?_ ?_|exact rfl|trivial)
   all_goals exact Stop.mk (by first | rfl | exact runs_push hk')
  ·obtain rfl : k = s.runs.length := by omega
   rw [List.take_length]
   repeat' (first|refine zsr ?_|(refine zhm fun hb=>?_;try exact zab)|refine zdr ?_|(apply zch;exact zcg)|refine HopS.mk fun w0 Z O=>?_|exact zhk|refine zg3 ?_ ?_|refine zln fun _=>?_|refine zop ?_|fail)
   show AWp _ _ _ _
   refine awp_frz 28 rfl ?_
   show AWp _ _ _ _
   refine awp_dena ?_
   apply awp_ret'
   exact zm () [18, 23, 48] trivial zae zae zae
theorem l06Copy_e {s : State} (hs : Small 100000000 s) : MCalls Tryz.prog 103 [stateA s] [] (fun _ : Unit => True) (fun _ => [.agg (stOwn s (.d (.sl (boolE s.up))) (.d (.sl (jobE s.queue))) 0)]) (fun _ => []) (fun _ => [(0, .row 134 (endE s.ends) true)]) := by
 refine mcalls_of tt Tryz.func103 rfl rfl rfl trivial (fun _ _ => ⟨trivial, trivial⟩) (fun w0 Z O => ?_)
 have hl := runE_length s.runs
 have h1 := hs.par; have h2 := hs.nod; have h3 := hs.up; have h4 := hs.que; have h5 := hs.run; have h6 := hs.end'
 repeat' (first|(refine awp_frzr 2 6 rfl ?_)|(refine awp_frzr 2 11 rfl ?_)|(refine awp_frzr 3 18 rfl ?_)|(refine awp_frzr 4 23 rfl ?_)|refine zst ?_|(refine zhm fun hb=>?_;try exact zab)|refine zdr ?_|(apply zch;exact zcg)|refine HopS.mk fun w0 Z O=>?_|exact zhk|refine zg3 ?_ ?_|refine zln fun _=>?_|refine zop ?_|fail)
 refine awp_loop (fun (k : Nat) => ⟨54, [(1, .ptr 1 0), (2, .ptr 2 0), (3, .row 28), (30, .d (.sl (runE s.runs))), (31, .d (.n .i64 (s.runs.length : Nat))), (32, .d (.n .i64 k))], [(28, .row 116 (runE (s.runs.take k)) true), (1, .box 44 (stateC s)), (2, .box 44 [.nil, .nil, .nil, .d (.n .i64 0), .d (.n .i64 0), .d (.n .i64 0), .d (.n .i64 0), .d (.n .i64 0), .nil, .nil, .nil])]⟩) (fun k => k ≤ s.runs.length) (fun k => s.runs.length - k) 0 (by exact Nat.zero_le _) ?_ ?_
 ·exact ⟨rfl, zae, zae, rfl⟩
 ·intro k hk
  have hd2 : (runE (s.runs.take k)).length = k := by rw [runE_length, List.length_take]; omega
  by_cases hk' : k < s.runs.length
  ·have hn := hs.rno k hk'
   repeat' (first|refine zst ?_|(refine zhm fun hb=>?_;try exact zab)|refine zdr ?_|(apply zch;exact zcg)|refine HopS.mk fun w0 Z O=>?_|exact zhk|refine zg3 ?_ ?_|(apply op_id;first|(refine st_litA rfl rfl rfl ⟨rfl, rfl, rfl⟩ rfl rfl rfl rfl rfl rfl rfl rfl (flatE_map fun _ => rfl) rfl rfl rfl rfl rfl ?_)|(refine st_appendA rfl rfl rfl rfl rfl rfl rfl rfl ⟨rfl, rfl, rfl⟩ hd2 (rfl : _ = 1) (by omega) rfl rfl ?_))|refine zln fun _=>?_|refine zop ?_|fail)
   refine ⟨k + 1, by omega, by omega, ?_⟩
   refine ⟨rfl, ?_, ?_, rfl⟩
   repeat'(first|apply And.intro|exact ze0|refine ze1 ?_|refine zei ?_ ?_|exact rfl|trivial)
   all_goals exact Stop.mk (by first | rfl | exact runs_push hk')
  ·obtain rfl : k = s.runs.length := by omega
   rw [List.take_length]
   repeat' (first|refine zsr ?_|(refine zhm fun hb=>?_;try exact zab)|refine zdr ?_|(apply zch;exact zcg)|refine HopS.mk fun w0 Z O=>?_|exact zhk|refine zg3 ?_ ?_|refine zln fun _=>?_|refine zop ?_|fail)
   show AWp _ _ _ _
   refine awp_frz 28 rfl ?_
   show AWp _ _ _ _
   refine awp_dena ?_
   apply awp_ret'
   exact zm () [48] trivial zae zae zae
theorem copyState_f {s : State} (hs : Small 100000000 s) : MCalls Tryz.prog 104 [stateA s] [] (fun _ : Unit => True) (fun _ => [.agg (stOwn s (.row 0) (.row 1) 2)]) (fun _ => []) (fun _ => [(0, .row 4 (boolE s.up) true), (1, .row 94 (jobE s.queue) true), (2, .row 134 (endE s.ends) true)]) := by
 refine mcalls_of tt Tryz.func104 rfl rfl rfl trivial (fun _ _ => ⟨trivial, trivial⟩) (fun w0 Z O => ?_)
 have hl := runE_length s.runs
 have h1 := hs.par; have h2 := hs.nod; have h3 := hs.up; have h4 := hs.que; have h5 := hs.run; have h6 := hs.end'
 repeat' (first|refine zst ?_|(refine zhm fun hb=>?_;try exact zab)|refine zg2 ?_ ?_|refine zln fun _=>?_|refine zop ?_|(refine km [] (copyTopo_e (t := s.topo) (by omega) (by omega)) rfl rfl (fun i hi => ?_);(try dsimp only at hi))|fail)
 refine awp_nilrow 3 3 116 rfl rfl rfl ?_
 refine awp_loop (fun (k : Nat) => ⟨41, [(1, .ptr 1 0), (2, .ptr 2 0), (3, .row 3), (19, .d (.sl (runE s.runs))), (20, .d (.n .i64 (s.runs.length : Nat))), (21, .d (.n .i64 k))], [(3, .row 116 (runE (s.runs.take k)) true), (12, .row 4 (boolE s.up) true),(16, .row 94 (jobE s.queue) true), (1, .box 44 (stMid s (.row 12) (.row 16))), (2, .box 44 [.nil, .nil, .nil, .d (.n .i64 0), .d (.n .i64 0), .d (.n .i64 0), .d (.n .i64 0), .d (.n .i64 0), .nil, .nil, .nil])]⟩) (fun k => k ≤ s.runs.length) (fun k => s.runs.length - k) 0 (by exact Nat.zero_le _) ?_ ?_
 ·exact ⟨rfl, zae, zae, rfl⟩
 ·intro k hk
  have hd2 : (runE (s.runs.take k)).length = k := by rw [runE_length, List.length_take]; omega
  by_cases hk' : k < s.runs.length
  ·have hn := hs.rno k hk'
   repeat' (first|refine zst ?_|(refine zhm fun hb=>?_;try exact zab)|refine zg2 ?_ ?_|(apply op_id;first|(refine st_litA rfl rfl rfl ⟨rfl, rfl, rfl⟩ rfl rfl rfl rfl rfl rfl rfl rfl (flatE_map fun _ => rfl) rfl rfl rfl rfl rfl ?_)|(refine st_appendA rfl rfl rfl rfl rfl rfl rfl rfl ⟨rfl, rfl, rfl⟩ hd2 (rfl : _ = 1) (by omega) rfl rfl ?_))|refine zln fun _=>?_|refine zop ?_|refine kc (copyInts_o (l := (nth s.runs k).nodes) (by omega)) rfl rfl ?_|fail)
   refine ⟨k + 1, by omega, by omega, ?_⟩
   refine ⟨rfl, ?_, ?_, rfl⟩
   repeat'(first|apply And.intro|exact ze0|refine ze1 ?_|refine zei ?_ ?_|exact rfl|trivial)
   all_goals exact Stop.mk (by first | rfl | exact runs_push hk')
  ·obtain rfl : k = s.runs.length := by omega
   rw [List.take_length]
   repeat' (first|refine zsr ?_|(refine zhm fun hb=>?_;try exact zab)|refine zg2 ?_ ?_|refine zln fun _=>?_|refine zop ?_|fail)
   show AWp _ _ _ _
   refine awp_frz 3 rfl ?_
   show AWp _ _ _ _
   refine awp_dena ?_
   apply awp_ret'
   exact zm () [12, 16, 38] trivial zae zae zae
theorem copyState_q {s : State} (hs : Small 100000000 s) : MCalls Tryz.prog 104 [stateA s] [] (fun _ : Unit => True) (fun _ => [.agg (stOwn s (.d (.sl (boolE s.up))) (.row 0) 1)]) (fun _ => []) (fun _ => [(0, .row 94 (jobE s.queue) true), (1, .row 134 (endE s.ends) true)]) := by
 refine mcalls_of tt Tryz.func104 rfl rfl rfl trivial (fun _ _ => ⟨trivial, trivial⟩) (fun w0 Z O => ?_)
 have hl := runE_length s.runs
 have h1 := hs.par; have h2 := hs.nod; have h3 := hs.up; have h4 := hs.que; have h5 := hs.run; have h6 := hs.end'
 repeat' (first|(refine awp_frzr 3 12 rfl ?_)|refine zst ?_|(refine zhm fun hb=>?_;try exact zab)|refine zg2 ?_ ?_|refine zln fun _=>?_|refine zop ?_|(refine km [] (copyTopo_e (t := s.topo) (by omega) (by omega)) rfl rfl (fun i hi => ?_);(try dsimp only at hi))|fail)
 refine awp_nilrow 3 3 116 rfl rfl rfl ?_
 refine awp_loop (fun (k : Nat) => ⟨41, [(1, .ptr 1 0), (2, .ptr 2 0), (3, .row 3), (19, .d (.sl (runE s.runs))), (20, .d (.n .i64 (s.runs.length : Nat))), (21, .d (.n .i64 k))], [(3, .row 116 (runE (s.runs.take k)) true), (16, .row 94 (jobE s.queue) true), (1, .box 44 (stMid s (.d (.sl (boolE s.up))) (.row 16))), (2, .box 44 [.nil, .nil, .nil, .d (.n .i64 0), .d (.n .i64 0), .d (.n .i64 0), .d (.n .i64 0), .d (.n .i64 0), .nil, .nil, .nil])]⟩) (fun k => k ≤ s.runs.length) (fun k => s.runs.length - k) 0 (by exact Nat.zero_le _) ?_ ?_
 ·exact ⟨rfl, zae, zae, rfl⟩
 ·intro k hk
  have hd2 : (runE (s.runs.take k)).length = k := by rw [runE_length, List.length_take]; omega
  by_cases hk' : k < s.runs.length
  ·have hn := hs.rno k hk'
   repeat' (first|refine zst ?_|(refine zhm fun hb=>?_;try exact zab)|refine zg2 ?_ ?_|(apply op_id;first|(refine st_litA rfl rfl rfl ⟨rfl, rfl, rfl⟩ rfl rfl rfl rfl rfl rfl rfl rfl (flatE_map fun _ => rfl) rfl rfl rfl rfl rfl ?_)|(refine st_appendA rfl rfl rfl rfl rfl rfl rfl rfl ⟨rfl, rfl, rfl⟩ hd2 (rfl : _ = 1) (by omega) rfl rfl ?_))|refine zln fun _=>?_|refine zop ?_|refine kc (copyInts_o (l := (nth s.runs k).nodes) (by omega)) rfl rfl ?_|fail)
   refine ⟨k + 1, by omega, by omega, ?_⟩
   refine ⟨rfl, ?_, ?_, rfl⟩
   repeat'(first|apply And.intro|exact ze0|refine ze1 ?_|refine zei ?_ ?_|exact rfl|trivial)
   all_goals exact Stop.mk (by first | rfl | exact runs_push hk')
  ·obtain rfl : k = s.runs.length := by omega
   rw [List.take_length]
   repeat' (first|refine zsr ?_|(refine zhm fun hb=>?_;try exact zab)|refine zg2 ?_ ?_|refine zln fun _=>?_|refine zop ?_|fail)
   show AWp _ _ _ _
   refine awp_frz 3 rfl ?_
   show AWp _ _ _ _
   refine awp_dena ?_
   apply awp_ret'
   exact zm () [16, 38] trivial zae zae zae
end Go.Proofs.YtliopiphobopjaaGreat
