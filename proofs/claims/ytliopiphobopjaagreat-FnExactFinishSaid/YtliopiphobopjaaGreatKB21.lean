/-
  Copies of states as rows of the caller's own; CtlNew, both.
-/
import Derived.Test.YtliopiphobopjaaGreatKShL
import Derived.Test.YtliopiphobopjaaGreatKGmF
import Derived.Test.YtliopiphobopjaaGreatKGaV
import Derived.Test.YtliopiphobopjaaGreatKB5
set_option maxRecDepth 100000
set_option maxHeartbeats 16000000
namespace Go.Proofs.YtliopiphobopjaaGreat
open Go Go.RowKit
attribute [local irreducible] AWp OpsOk OpOk ACalls ChA QsOk MCalls EnC PY
theorem copyInts_o {l : List Int} (h : l.length ≤ 1000000000) : ACalls Tryz.prog 188 [.d (.sl (intE l))] [.row 0] [(0, .row 3 (intE l) true)] := by
 refine acalls_of tt Tryz.func188 rfl rfl rfl (fun w0 Z => ?_)
 repeat' (first|refine zst ?_|(refine zhm fun hb=>?_;try exact zab)|refine zg2 ?_ ?_|refine zop ?_|fail)
 exact zr [4] zae zae
theorem copyTopo_o {t : Topo} (h1 : t.parents.length ≤ 1000000000) (h2 : t.nodes.length ≤ 1000000000) : ACalls Tryz.prog 187 [topoA t] [.agg [.row 0, .row 1]] [(0, .row 3 (intE t.parents) true), (1, .row 204 (nodeE t.nodes) true)] := by
 refine acalls_of tt Tryz.func187 rfl rfl rfl (fun w0 Z => ?_)
 repeat' (first|refine zst ?_|(refine zhm fun hb=>?_;try exact zab)|refine zdr ?_|(apply zch;exact zcg)|refine HopS.mk fun w0 Z O=>?_|exact zhk|refine zg3 ?_ ?_|refine zop ?_|refine kc (copyInts_o (l := t.parents) h1) rfl rfl ?_|refine kq (copyInts_o (l := t.parents) h1) rfl rfl ?_|fail)
 exact zr [5, 8] zae zae
theorem runs_push {l : List Run} {i : Nat} (h : i < l.length) : runE (l.take i) ++ [runD (nth l i)] = runE (l.take (i + 1)) := by
 rw [List.take_succ_eq_append_getElem h, runE, runE, List.map_append]
 have e : nth l i = l[i] := by simp [nth, h]
 rw [e]
 rfl
theorem copyState_o {s : State} (hs : Small 100000000 s) : ACalls Tryz.prog 104 [stateA s] [stateO s 0 1 2 3 4 5] (stateR s) := by
 refine acalls_of tt Tryz.func104 rfl rfl rfl (fun w0 Z => ?_)
 have hl := runE_length s.runs
 have h1 := hs.par; have h2 := hs.nod; have h3 := hs.up; have h4 := hs.que; have h5 := hs.run; have h6 := hs.end'
 repeat' (first|refine zst ?_|(refine zhm fun hb=>?_;try exact zab)|refine zg2 ?_ ?_|refine zln fun _=>?_|refine zop ?_|refine kc (copyTopo_o (t := s.topo) (by omega) (by omega)) rfl rfl ?_|fail)
 refine awp_nilrow 3 3 116 rfl rfl rfl ?_
 refine awp_loop (fun (k : Nat) => ⟨41, [(1, .ptr 1 0), (2, .ptr 2 0), (3, .row 3), (19, .d (.sl (runE s.runs))), (20, .d (.n .i64 (s.runs.length : Nat))), (21, .d (.n .i64 k))], [(3, .row 116 (runE (s.runs.take k)) true), (8, .row 3 (intE s.topo.parents) true), (1008, .row 204 (nodeE s.topo.nodes) true), (12, .row 4 (boolE s.up) true), (16, .row 94 (jobE s.queue) true), (1, .box 44 [.row 8, .row 1008, .row 12, .d (.n .i64 s.lic.a), .d (.n .i64 s.lic.b), .d (.n .i64 s.lic.c), .d (.n .i64 s.depth), .d (.n .i64 s.now), .row 16, .d (.sl (runE s.runs)), .d (.sl (endE s.ends))]), (2, .box 44 [.nil, .nil, .nil, .d (.n .i64 0), .d (.n .i64 0), .d (.n .i64 0), .d (.n .i64 0), .d (.n .i64 0), .nil, .nil, .nil])]⟩) (fun k => k ≤ s.runs.length) (fun k => s.runs.length - k) 0 (by exact Nat.zero_le _) ?_ ?_
 ·exact ⟨rfl, zae, zae, rfl⟩
 ·intro k hk
  have hd2 : (runE (s.runs.take k)).length = k := by rw [runE_length, List.length_take]; omega
  by_cases hk' : k < s.runs.length
  ·have hn := hs.rno k hk'
   repeat' (first|refine zst ?_|(refine zhm fun hb=>?_;try exact zab)|refine zg2 ?_ ?_|(apply op_id;first|(refine st_litA rfl rfl rfl ⟨rfl, rfl, rfl⟩ rfl rfl rfl rfl rfl rfl rfl rfl (flatE_map fun _ => rfl) rfl rfl rfl rfl rfl ?_)|(refine st_appendA rfl rfl rfl rfl rfl rfl rfl rfl ⟨rfl, rfl, rfl⟩ hd2 (rfl : _ = 1) (by omega) rfl rfl ?_))|refine zln fun _=>?_|refine zop ?_|refine kc (copyInts_o (l := (nth s.runs k).nodes) (by omega)) rfl rfl ?_|fail)
   refine ⟨k + 1, by omega, by omega, ?_⟩
   refine ⟨rfl, ?_, ?_, rfl⟩
   repeat'(first|apply And.intro|exact ze0|refine ze1 ?_|refine zei ?_ ?_|exact rfl|trivial)
   all_goals exact Stop.mk (by first | rfl | exact runs_push hk')
  ·obtain rfl : k = s.runs.length := by omega
   repeat' (first|refine zst ?_|(refine zhm fun hb=>?_;try exact zab)|refine zg2 ?_ ?_|refine zln fun _=>?_|refine zop ?_|fail)
   refine zr [8, 1008, 12, 16, 3, 38] ?_ ?_
   repeat'(first|apply And.intro|exact ze0|refine ze1 ?_|refine zei ?_ ?_|exact rfl|trivial)
   all_goals exact Stop.mk (by first | rfl | rw [List.take_length])
/-! ### CtlNew -/
structure FreshP (s : State) : Prop where
 ok : stateOkB s = true
 que : s.queue.length = 0
 run : s.runs.length = 0
 end' : s.ends.length = 0
@[reducible] def stC (s : State) (q0 q1 q2 q3 q4 q5 : Nat) : List AV := [.row q0, .row q1, .row q2, .d (.n .i64 s.lic.a), .d (.n .i64 s.lic.b), .d (.n .i64 s.lic.c), .d (.n .i64 s.depth), .d (.n .i64 s.now), .row q3, .row q4, .row q5]
@[reducible] def ctl0 : List AV := [.nil, .nil, .nil, .d (.n .i64 0), .d (.n .i64 0), .d (.n .i64 0), .d (.n .i64 0), .d (.n .i64 0), .nil, .nil, .nil]
@[reducible] def ctlR (s : State) : List (Nat × AO) := [(0, .row 3 (intE s.topo.parents) true), (1, .row 204 (nodeE s.topo.nodes) true), (2, .row 4 (boolE s.up) true), (3, .row 94 (jobE s.queue) true), (4, .row 116 (runE s.runs) true), (5, .row 134 (endE s.ends) true), (6, .row 3 (intE s.topo.parents) true), (7, .row 204 (nodeE s.topo.nodes) true), (8, .row 4 (boolE s.up) true), (9, .row 94 (jobE s.queue) true), (10, .row 116 (runE s.runs) true), (11, .row 134 (endE s.ends) true)]
noncomputable def freshB (s : State) : Bool := pB (FreshP s)
end Go.Proofs.YtliopiphobopjaaGreat
namespace Go.Proofs.YtliopiphobopjaaGreat
open Go Go.RowKit
attribute [local irreducible] AWp OpsOk OpOk ACalls ChA QsOk MCalls EnC PY
theorem markNodeS_0 {k : Nat} : ACalls Tryz.prog 186 [.d (.sl []), .d (.n .i64 k)] [.d (.n .i64 k)] [] := by
 refine acalls_of tt Tryz.func186 rfl rfl rfl (fun w0 Z => ?_)
 repeat' (first|refine zst ?_|(refine zhm fun hb=>?_;try exact zab)|refine zg2 ?_ ?_|refine zln fun _=>?_|refine zop ?_|fail)
 refine awp_loop (fun (_ : Unit) => ⟨44, [(0, .d (.sl [])), (1, .d (.n .i64 k)), (5, .d (.n .i64 0))], []⟩) (fun _ => True) (fun _ => 0) () trivial ?_ ?_
 ·exact ⟨rfl, zae, zae, rfl⟩
 ·intro i hi
  repeat' (first|refine zst ?_|(refine zhm fun hb=>?_;try exact zab)|refine zg2 ?_ ?_|refine zln fun _=>?_|refine zop ?_|fail)
  exact zr [] zae zae
theorem markBoolS_0 {k : Nat} : ACalls Tryz.prog 98 [.d (.sl []), .d (.n .i64 k)] [.d (.n .i64 k)] [] := by
 refine acalls_of tt Tryz.func98 rfl rfl rfl (fun w0 Z => ?_)
 repeat' (first|refine zst ?_|(refine zhm fun hb=>?_;try exact zab)|refine zg2 ?_ ?_|refine zln fun _=>?_|refine zop ?_|fail)
 refine awp_loop (fun (_ : Unit) => ⟨21, [(0, .d (.sl [])), (1, .d (.n .i64 k)), (5, .d (.n .i64 0))], []⟩) (fun _ => True) (fun _ => 0) () trivial ?_ ?_
 ·exact ⟨rfl, zae, zae, rfl⟩
 ·intro i hi
  repeat' (first|refine zst ?_|(refine zhm fun hb=>?_;try exact zab)|refine zg2 ?_ ?_|refine zln fun _=>?_|refine zop ?_|fail)
  exact zr [] zae zae
theorem markJobS_0 {k : Nat} : ACalls Tryz.prog 99 [.d (.sl []), .d (.n .i64 k)] [.d (.n .i64 k)] [] := by
 refine acalls_of tt Tryz.func99 rfl rfl rfl (fun w0 Z => ?_)
 repeat' (first|refine zst ?_|(refine zhm fun hb=>?_;try exact zab)|refine zg2 ?_ ?_|refine zln fun _=>?_|refine zop ?_|fail)
 refine awp_loop (fun (_ : Unit) => ⟨96, [(0, .d (.sl [])), (1, .d (.n .i64 k)), (5, .d (.n .i64 0))], []⟩) (fun _ => True) (fun _ => 0) () trivial ?_ ?_
 ·exact ⟨rfl, zae, zae, rfl⟩
 ·intro i hi
  repeat' (first|refine zst ?_|(refine zhm fun hb=>?_;try exact zab)|refine zg2 ?_ ?_|refine zln fun _=>?_|refine zop ?_|fail)
  exact zr [] zae zae
theorem markRunS_0 {k : Nat} : ACalls Tryz.prog 100 [.d (.sl []), .d (.n .i64 k)] [.d (.n .i64 k)] [] := by
 refine acalls_of tt Tryz.func100 rfl rfl rfl (fun w0 Z => ?_)
 repeat' (first|refine zst ?_|(refine zhm fun hb=>?_;try exact zab)|refine zg2 ?_ ?_|refine zln fun _=>?_|refine zop ?_|fail)
 refine awp_loop (fun (_ : Unit) => ⟨121, [(0, .d (.sl [])), (1, .d (.n .i64 k)), (5, .d (.n .i64 0))], []⟩) (fun _ => True) (fun _ => 0) () trivial ?_ ?_
 ·exact ⟨rfl, zae, zae, rfl⟩
 ·intro i hi
  repeat' (first|refine zst ?_|(refine zhm fun hb=>?_;try exact zab)|refine zg2 ?_ ?_|refine zln fun _=>?_|refine zop ?_|fail)
  exact zr [] zae zae
theorem markEndS_0 {k : Nat} : ACalls Tryz.prog 101 [.d (.sl []), .d (.n .i64 k)] [.d (.n .i64 k)] [] := by
 refine acalls_of tt Tryz.func101 rfl rfl rfl (fun w0 Z => ?_)
 repeat' (first|refine zst ?_|(refine zhm fun hb=>?_;try exact zab)|refine zg2 ?_ ?_|refine zln fun _=>?_|refine zop ?_|fail)
 refine awp_loop (fun (_ : Unit) => ⟨34, [(0, .d (.sl [])), (1, .d (.n .i64 k)), (5, .d (.n .i64 0))], []⟩) (fun _ => True) (fun _ => 0) () trivial ?_ ?_
 ·exact ⟨rfl, zae, zae, rfl⟩
 ·intro i hi
  repeat' (first|refine zst ?_|(refine zhm fun hb=>?_;try exact zab)|refine zg2 ?_ ?_|refine zln fun _=>?_|refine zop ?_|fail)
  exact zr [] zae zae
@[reducible] def jn0 : AV := .agg [.d (.sl []), .d (.n .i64 0), .d (.n .i64 0)]
theorem markTopo_0 {k : Nat} : ACalls Tryz.prog 97 [.agg [.d (.sl []), .d (.sl [])], .d (.n .i64 k)] [.d (.n .i64 k)] [] := by
 refine acalls_of tt Tryz.func97 rfl rfl rfl (fun w0 Z => ?_)
 repeat' (first|refine zst ?_|(refine zhm fun hb=>?_;try exact zab)|refine zg2 ?_ ?_|refine zop ?_|refine kc (markIntS_0) rfl rfl ?_|refine kc (markNodeS_0) rfl rfl ?_|fail)
 exact zr [] zae zae
@[reducible] def st0 : List AV := [.d (.sl []), .d (.sl []), .d (.sl []), .d (.n .i64 0), .d (.n .i64 0), .d (.n .i64 0), .d (.n .i64 0), .d (.n .i64 0), .d (.sl []), .d (.sl []), .d (.sl [])]
theorem markState_0 {k : Nat} : ACalls Tryz.prog 29 [.agg st0, .d (.n .i64 k)] [.d (.n .i64 k)] [] := by
 refine acalls_of tt Tryz.func29 rfl rfl rfl (fun w0 Z => ?_)
 repeat' (first|refine zst ?_|(refine zhm fun hb=>?_;try exact zab)|refine zg2 ?_ ?_|refine zop ?_|refine kc (markTopo_0) rfl rfl ?_|refine kc (markBoolS_0) rfl rfl ?_|refine kc (markJobS_0) rfl rfl ?_|refine kc (markRunS_0) rfl rfl ?_|refine kc (markEndS_0) rfl rfl ?_|fail)
 exact zr [] zae zae
@[reducible] def ctlD (a b : State) : AV := .agg (stateC a ++ stateC b ++ [.d (.sl []), .d (.n .i64 0), .d (.n .i64 0)])
@[reducible] def ctlM (s t : State) : List (Nat × AO) := [(1000000, .row 3 (intE s.topo.parents) true), (1000001, .row 204 (nodeE s.topo.nodes) true), (1000002, .row 4 (boolE s.up) true), (1000003, .row 94 (jobE s.queue) true), (1000004, .row 116 (runE s.runs) true), (1000005, .row 134 (endE s.ends) true), (1000006, .row 3 (intE t.topo.parents) true), (1000007, .row 204 (nodeE t.topo.nodes) true), (1000008, .row 4 (boolE t.up) true), (1000009, .row 94 (jobE t.queue) true), (1000010, .row 116 (runE t.runs) true), (1000011, .row 134 (endE t.ends) true)]
def zS : State := ⟨⟨[], []⟩, [], zV, 0, 0, [], [], []⟩
theorem zS_small (n : Nat) : Small n zS := ⟨Nat.zero_le _, Nat.zero_le _, Nat.zero_le _, Nat.zero_le _, Nat.zero_le _, Nat.zero_le _, fun _ hj => absurd hj (Nat.not_lt_zero _)⟩
end Go.Proofs.YtliopiphobopjaaGreat
