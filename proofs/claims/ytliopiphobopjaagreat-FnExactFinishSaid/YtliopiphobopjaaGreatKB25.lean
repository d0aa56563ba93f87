/-
  What starts, where there is no room; then for any state; both.
-/
import Derived.Test.YtliopiphobopjaaGreatKShL
import Derived.Test.YtliopiphobopjaaGreatKStC
import Derived.Test.YtliopiphobopjaaGreatKGaW
import Derived.Test.YtliopiphobopjaaGreatKB23
set_option maxRecDepth 100000
set_option maxHeartbeats 16000000
namespace Go.Proofs.YtliopiphobopjaaGreat
open Go Go.RowKit
attribute [local irreducible] AWp OpsOk OpOk ACalls ChA QsOk MCalls NCalls EnC PY

theorem topo_z : topoOkB ⟨[], []⟩ = false := by
 cases h : topoOkB ⟨[], []⟩ with
 | false => rfl
 | true =>
  have := (topoOkB_t.1 h).len
  simp at this
theorem roomOk_ze : ACalls Tryz.prog 199 [roomA zR] [.d (.b false)] [] := by
 refine acalls_of tt Tryz.func199 rfl rfl rfl (fun w0 Z => ?_)
 have c1 := topoOk_e (t := ⟨[], []⟩) (by simp) (by simp)
 rw [topo_z] at c1
 repeat' (first|refine zst ?_|(refine zhm fun hb=>?_;try exact zab)|refine zg2 ?_ ?_|refine zln fun _=>?_|refine zop ?_|refine kc (c1) rfl rfl ?_|fail)
 exact zr [] zae zae
theorem roomOk_zs : ACalls Tryz.prog 192 [roomA zR] [.d (.b false)] [] := by
 refine acalls_of tt Tryz.func192 rfl rfl rfl (fun w0 Z => ?_)
 have c1 := topoOk_s (t := ⟨[], []⟩) (by simp) (by simp)
 rw [topo_z] at c1
 repeat' (first|refine zst ?_|(refine zhm fun hb=>?_;try exact zab)|refine zg2 ?_ ?_|refine zln fun _=>?_|refine zop ?_|refine kc (c1) rfl rfl ?_|fail)
 exact zr [] zae zae
theorem plan_ze {now depth : Int} {l : List Job} : DC Tryz.prog 117 [roomA zR, .d (.n .i64 now), .d (.sl (jobE l)), .d (.n .i64 depth)] [.d (.sl []), .d (.sl []), .d (.b false)] := by
 refine mcalls_of tt Tryz.func117 rfl rfl rfl trivial (fun _ _ => ⟨trivial, trivial⟩) (fun w0 Z O => ?_)
 repeat' (first|refine zsr ?_|(refine zhm fun hb=>?_;try exact zab)|refine zg2 ?_ ?_|refine zln fun _=>?_|refine zop ?_|refine kc (roomOk_ze) rfl rfl ?_|fail)
 show AWp _ _ _ _
 refine awp_dena ?_
 apply awp_ret'
 exact zm () [] trivial zae zae zae
theorem plan_zs {now depth : Int} {l : List Job} : DC Tryz.prog 115 [roomA zR, .d (.n .i64 now), .d (.sl (jobE l)), .d (.n .i64 depth)] [.d (.sl []), .d (.sl []), .d (.b false)] := by
 refine mcalls_of tt Tryz.func115 rfl rfl rfl trivial (fun _ _ => ⟨trivial, trivial⟩) (fun w0 Z O => ?_)
 repeat' (first|refine zsr ?_|(refine zhm fun hb=>?_;try exact zab)|refine zg2 ?_ ?_|refine zln fun _=>?_|refine zop ?_|refine kc (roomOk_zs) rfl rfl ?_|fail)
 show AWp _ _ _ _
 refine awp_dena ?_
 apply awp_ret'
 exact zm () [] trivial zae zae zae
theorem startO_z {s : State} (h : roomOf s = none) : startO s = s := by
 have : planO s = ([], []) := by unfold planO; rw [h]
 unfold startO
 rw [this]
 rfl
theorem started_z {s : State} (hs : Small 100000000 s) (h : roomOf s = none) : ACalls Tryz.prog 128 [stateA s] [stateO s 0 1 2 3 4 5] (stateR s) := by
 refine acalls_of tt Tryz.func128 rfl rfl rfl (fun w0 Z => ?_)
 have c1 := roomOf_e (hs.mono (m := 1000000000) (by omega))
 rw [h] at c1
 have c3 := copyState_o hs
 repeat' (first|refine zst ?_|(refine zhm fun hb=>?_;try exact zab)|refine zdr ?_|(apply zch;exact zcg)|refine HopS.mk fun w0 Z O=>?_|exact zhk|refine zg3 ?_ ?_|refine zln fun _=>?_|refine zop ?_|refine kc (c3) rfl rfl ?_|(refine km [] (c1) rfl rfl (fun i hi => ?_);(try dsimp only at hi))|(refine km [] (plan_ze) rfl rfl (fun i hi => ?_);(try dsimp only at hi))|refine kq (c3) rfl rfl ?_|fail)
 refine awp_loop (fun (_ : Unit) => ⟨66, [(1, .ptr 1 0), (2, .ptr 2 0), (8, .ptr 8 0), (31, .d (.sl [])), (32, .d (.n .i64 0)), (33, .d (.n .i64 0))], [(1, .box 44 (stateC s)), (2, .box 44 ctl0), (8, .box 44 (stC s 30 1030 2030 3030 4030 5030)), (30, .row 3 (intE s.topo.parents) true), (1030, .row 204 (nodeE s.topo.nodes) true), (2030, .row 4 (boolE s.up) true), (3030, .row 94 (jobE s.queue) true), (4030, .row 116 (runE s.runs) true), (5030, .row 134 (endE s.ends) true)]⟩) (fun _ => True) (fun _ => 0) () trivial ?_ ?_
 ·exact ⟨rfl, zae, zae, rfl⟩
 intro _ _
 repeat' (first|refine zst ?_|(refine zhm fun hb=>?_;try exact zab)|refine zdr ?_|(apply zch;exact zcg)|refine HopS.mk fun w0 Z O=>?_|exact zhk|refine zg3 ?_ ?_|refine zln fun _=>?_|refine zop ?_|fail)
 exact zr [30, 1030, 2030, 3030, 4030, 5030] zae zae
theorem l06Start_z {s : State} (hs : Small 100000000 s) (h : roomOf s = none) : NCalls Tryz.prog 127 [.agg (stateH s 500000 500001)] [(500000, .row 116 (runE s.runs) false), (500001, .row 134 (endE s.ends) true)] (fun _ : Unit => True) (fun _ => [.agg (stateH s 0 1)]) (fun _ => [(0, .row 116 (runE s.runs) false), (1, .row 134 (endE s.ends) true)]) := by
 refine ncalls_of tt Tryz.func127 rfl rfl rfl (fun _ _ => rfl) (fun w0 Z O => ?_)
 have c1 := roomOf_h (hs.mono (m := 1000000000) (by omega))
 rw [h] at c1
 repeat' (first|refine zst ?_|(refine zhm fun hb=>?_;try exact zab)|refine zg2 ?_ ?_|refine zln fun _=>?_|refine zop ?_|(refine km [500000, 500001] (c1) rfl rfl (fun i hi => ?_);(try dsimp only at hi))|(refine km [] (plan_zs) rfl rfl (fun i hi => ?_);(try dsimp only at hi))|fail)
 refine awp_loop (fun (_ : Unit) => ⟨62, [(1, .ptr 1 0), (2, .ptr 2 0), (29, .d (.sl [])), (30, .d (.n .i64 0)), (31, .d (.n .i64 0))], [(1, .box 44 (stateH s 500000 500001)), (2, .box 44 ctl0), (500000, .row 116 (runE s.runs) false), (500001, .row 134 (endE s.ends) true)]⟩) (fun _ => True) (fun _ => 0) () trivial ?_ ?_
 ·exact ⟨rfl, zae, zae, rfl⟩
 intro _ _
 repeat' (first|refine zsr ?_|(refine zhm fun hb=>?_;try exact zab)|refine zg2 ?_ ?_|refine zln fun _=>?_|refine zop ?_|fail)
 show AWp _ _ _ _
 apply awp_ret'
 refine zn () [500000, 500001] (by exact trivial) ?_ ?_
 all_goals exact zae
/-! ### Any state -/
structure StartQ (s : State) : Prop where
 queue : QueueP s.queue
 depth : 0 ≤ s.depth ∧ s.depth ≤ 60
theorem started_c {s : State} (hs : Small 100000000 s) (h : StartQ s) : ACalls Tryz.prog 128 [stateA s] [stateO (startO s) 0 1 2 3 4 5] (stateR (startO s)) := by
 cases hr : roomOf s with
 | some r => exact started_o hs ⟨hr, h.queue, h.depth⟩
 | none => rw [startO_z hr]; exact started_z hs hr
theorem l06Start_c {s : State} (hs : Small 100000000 s) (h : StartQ s) : NCalls Tryz.prog 127 [.agg (stateH s 500000 500001)] [(500000, .row 116 (runE s.runs) false), (500001, .row 134 (endE s.ends) true)] (fun _ : Unit => True) (fun _ => [.agg (stateH (startO s) 0 1)]) (fun _ => [(0, .row 116 (runE (startO s).runs) false), (1, .row 134 (endE s.ends) true)]) := by
 cases hr : roomOf s with
 | some r => exact l06Start_n hs ⟨hr, h.queue, h.depth⟩
 | none => rw [startO_z hr]; exact l06Start_z hs hr
theorem startO_sm {s : State} (h : StartQ s) (hs : Small 1048576 s) (hr : s.runs.length ≤ 1000000) : Small 1048576 (startO s) := by
 cases hq : roomOf s with
 | some r => exact startO_small ⟨hq, h.queue, h.depth⟩ hs hr
 | none => rw [startO_z hq]; exact hs
/-! ### What an operation on a state answers -/
@[reducible] def stR (o : Option State) (c : Int) : List AV := match o with
 | none => [.agg ctl0, .d (.n .i64 c)]
 | some s => [stateO s 0 1 2 3 4 5, .d (.n .i64 c)]
@[reducible] def stB (o : Option State) : List (Nat × AO) := match o with
 | none => []
 | some s => stateR s
abbrev SO (f : FuncId) (args : List AV) (o : Option State) (c : Int) : Prop := ACalls Tryz.prog f args (stR o c) (stB o)
abbrev SS (f : FuncId) (args : List AV) (o : Option State) (c : Int) : Prop := DC Tryz.prog f args [stateA (o.getD zS), .d (.n .i64 c)]
/-! ### Resume -/
def resu (s : State) (n : Int) : State := { s with up := s.up.set n.toNat true }
noncomputable def resumeO (s : State) (n : Int) : Option State × Int :=
 if stateOkB s = true then if 0 ≤ n ∧ n < s.topo.nodes.length ∧ nth s.up n.toNat = false then (some (startO (resu s n)), 0) else (none, 8) else (none, 1)
theorem boolE_set (l : List Bool) (k : Nat) (x : Bool) : (boolE l).set k [.b x] = boolE (l.set k x) := by simp [boolE, List.map_set]
@[reducible] def stateU (s : State) (u : List (List D)) : AV := .agg [.d (.sl (intE s.topo.parents)), .d (.sl (nodeE s.topo.nodes)), .d (.sl u), .d (.n .i64 s.lic.a), .d (.n .i64 s.lic.b), .d (.n .i64 s.lic.c), .d (.n .i64 s.depth), .d (.n .i64 s.now), .d (.sl (jobE s.queue)), .d (.sl (runE s.runs)), .d (.sl (endE s.ends))]
@[reducible] def stateHU (s : State) (u : List (List D)) (q1 q2 : Nat) : List AV := [.d (.sl (intE s.topo.parents)), .d (.sl (nodeE s.topo.nodes)), .d (.sl u), .d (.n .i64 s.lic.a), .d (.n .i64 s.lic.b), .d (.n .i64 s.lic.c), .d (.n .i64 s.depth), .d (.n .i64 s.now), .d (.sl (jobE s.queue)), .row q1, .row q2]
end Go.Proofs.YtliopiphobopjaaGreat
namespace Go.Proofs.YtliopiphobopjaaGreat
open Go Go.RowKit
attribute [local irreducible] AWp OpsOk OpOk ACalls ChA QsOk MCalls NCalls EnC PY

def resz (s : State) (v : V3) : State := { s with lic := v }
noncomputable def resizeO (s : State) (v : V3) : Option State × Int :=
 if stateOkB s = true ∧ vecOkB v = true then if (roomOf (resz s v)).isSome = true then (some (startO (resz s v)), 0) else (none, 9) else (none, 1)
end Go.Proofs.YtliopiphobopjaaGreat
