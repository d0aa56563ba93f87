/-
  The law's copies of states, as rows of the caller's own.
-/
import Derived.Test.YtliopiphobopjaaGreatKShL
import Derived.Test.YtliopiphobopjaaGreatKB10
set_option maxRecDepth 100000
set_option maxHeartbeats 16000000
namespace Go.Proofs.YtliopiphobopjaaGreat
open Go Go.RowKit
attribute [local irreducible] AWp OpsOk OpOk ACalls ChA QsOk MCalls EnC PY
theorem toIntS_o {l : List Int} (h : l.length ≤ 1048576) : ACalls Tryz.prog 125 [.d (.sl (intE l))] [.row 0] [(0, .row 3 (intE l) true)] := by
 refine acalls_of tt Tryz.func125 rfl rfl rfl (fun w0 Z => ?_)
 have hl := intE_length l
 repeat' (first|refine zst ?_|(refine zhm fun hb=>?_;try exact zab)|refine zg2 ?_ ?_|refine zln fun _=>?_|refine zop ?_|fail)
 refine awp_loop (fun (i : Nat) => ⟨22, [(0, .d (.sl (intE l))), (3, .row 7), (4, .d (.n .i64 i))], [(7, .row 3 (intE (cpyL l 0 i)) true)]⟩) (fun i => i ≤ l.length) (fun i => l.length - i) 0 (by exact Nat.zero_le _) ?_ ?_
 ·refine ⟨rfl, ?_, ?_, rfl⟩
  repeat'(first|apply And.intro|exact ze0|refine ze1 ?_|refine zei ?_ ?_|exact rfl|trivial)
  all_goals exact Stop.mk (by first | rfl | (rw [cpyL_0]; exact (List.map_replicate ..).symm) | (rw [cpyL_0]; simp [intE]))
 ·intro i hi
  have hcl : (intE (cpyL l 0 i)).length = l.length := by rw [intE_length]; exact cpyL_length _ _ hi
  have hcl2 := cpyL_length l 0 hi
  by_cases hi' : i < l.length
  ·repeat' (first|refine zst ?_|(refine zhm fun hb=>?_;try exact zab)|refine zg2 ?_ ?_|refine zln fun _=>?_|refine zop ?_|fail)
   refine ⟨i + 1, by omega, by omega, ?_⟩
   refine ⟨rfl, ?_, ?_, rfl⟩
   repeat'(first|apply And.intro|exact ze0|refine ze1 ?_|refine zei ?_ ?_|exact rfl|trivial)
   all_goals exact Stop.mk (by first | rfl | exact cpyL_set (f := (fun x => ([.n .i64 x] : List D))) hi')
  ·obtain rfl : i = l.length := by omega
   repeat' (first|refine zst ?_|(refine zhm fun hb=>?_;try exact zab)|refine zg2 ?_ ?_|refine zln fun _=>?_|refine zop ?_|fail)
   refine zr [7] ?_ ?_
   repeat'(first|apply And.intro|exact ze0|refine ze1 ?_|refine zei ?_ ?_|exact rfl|trivial)
   all_goals exact Stop.mk (by first | rfl | rw [cpyL_all])
theorem toBoolS_o {l : List Bool} (h : l.length ≤ 1048576) : ACalls Tryz.prog 81 [.d (.sl (boolE l))] [.row 0] [(0, .row 4 (boolE l) true)] := by
 refine acalls_of tt Tryz.func81 rfl rfl rfl (fun w0 Z => ?_)
 have hl := boolE_length l
 repeat' (first|refine zst ?_|(refine zhm fun hb=>?_;try exact zab)|refine zg2 ?_ ?_|refine zln fun _=>?_|refine zop ?_|fail)
 refine awp_loop (fun (i : Nat) => ⟨22, [(0, .d (.sl (boolE l))), (3, .row 7), (4, .d (.n .i64 i))], [(7, .row 4 (boolE (cpyL l false i)) true)]⟩) (fun i => i ≤ l.length) (fun i => l.length - i) 0 (by exact Nat.zero_le _) ?_ ?_
 ·refine ⟨rfl, ?_, ?_, rfl⟩
  repeat'(first|apply And.intro|exact ze0|refine ze1 ?_|refine zei ?_ ?_|exact rfl|trivial)
  all_goals exact Stop.mk (by first | rfl | (rw [cpyL_0]; exact (List.map_replicate ..).symm) | (rw [cpyL_0]; simp [boolE]))
 ·intro i hi
  have hcl : (boolE (cpyL l false i)).length = l.length := by rw [boolE_length]; exact cpyL_length _ _ hi
  have hcl2 := cpyL_length l false hi
  by_cases hi' : i < l.length
  ·repeat' (first|refine zst ?_|(refine zhm fun hb=>?_;try exact zab)|refine zg2 ?_ ?_|refine zln fun _=>?_|refine zop ?_|fail)
   refine ⟨i + 1, by omega, by omega, ?_⟩
   refine ⟨rfl, ?_, ?_, rfl⟩
   repeat'(first|apply And.intro|exact ze0|refine ze1 ?_|refine zei ?_ ?_|exact rfl|trivial)
   all_goals exact Stop.mk (by first | rfl | exact cpyL_set (f := (fun b => ([.b b] : List D))) hi')
  ·obtain rfl : i = l.length := by omega
   repeat' (first|refine zst ?_|(refine zhm fun hb=>?_;try exact zab)|refine zg2 ?_ ?_|refine zln fun _=>?_|refine zop ?_|fail)
   refine zr [7] ?_ ?_
   repeat'(first|apply And.intro|exact ze0|refine ze1 ?_|refine zei ?_ ?_|exact rfl|trivial)
   all_goals exact Stop.mk (by first | rfl | rw [cpyL_all])
theorem toNodeS_o {l : List Node} (h : l.length ≤ 1048576) : ACalls Tryz.prog 165 [.d (.sl (nodeE l))] [.row 0] [(0, .row 204 (nodeE l) true)] := by
 refine acalls_of tt Tryz.func165 rfl rfl rfl (fun w0 Z => ?_)
 have hl := nodeE_length l
 repeat' (first|refine zst ?_|(refine zhm fun hb=>?_;try exact zab)|refine zg2 ?_ ?_|refine zln fun _=>?_|refine zop ?_|fail)
 refine awp_loop (fun (i : Nat) => ⟨23, [(0, .d (.sl (nodeE l))), (3, .row 7), (4, .d (.n .i64 i))], [(7, .row 204 (nodeE (cpyL l ⟨0, ⟨0, 0, 0⟩⟩ i)) true)]⟩) (fun i => i ≤ l.length) (fun i => l.length - i) 0 (by exact Nat.zero_le _) ?_ ?_
 ·refine ⟨rfl, ?_, ?_, rfl⟩
  repeat'(first|apply And.intro|exact ze0|refine ze1 ?_|refine zei ?_ ?_|exact rfl|trivial)
  all_goals exact Stop.mk (by first | rfl | (rw [cpyL_0]; exact (List.map_replicate ..).symm) | (rw [cpyL_0]; simp [nodeE]))
 ·intro i hi
  have hcl : (nodeE (cpyL l ⟨0, ⟨0, 0, 0⟩⟩ i)).length = l.length := by rw [nodeE_length]; exact cpyL_length _ _ hi
  have hcl2 := cpyL_length l ⟨0, ⟨0, 0, 0⟩⟩ hi
  by_cases hi' : i < l.length
  ·repeat' (first|refine zst ?_|(refine zhm fun hb=>?_;try exact zab)|refine zg2 ?_ ?_|refine zln fun _=>?_|refine zop ?_|refine kc (toNode_e (x := nth l i)) rfl rfl ?_|fail)
   refine ⟨i + 1, by omega, by omega, ?_⟩
   refine ⟨rfl, ?_, ?_, rfl⟩
   repeat'(first|apply And.intro|exact ze0|refine ze1 ?_|refine zei ?_ ?_|exact rfl|trivial)
   all_goals exact Stop.mk (by first | rfl | exact cpyL_set (f := (fun n => ([.n .i64 n.leaf, .n .i64 n.cap.a, .n .i64 n.cap.b, .n .i64 n.cap.c] : List D))) hi')
  ·obtain rfl : i = l.length := by omega
   repeat' (first|refine zst ?_|(refine zhm fun hb=>?_;try exact zab)|refine zg2 ?_ ?_|refine zln fun _=>?_|refine zop ?_|fail)
   refine zr [7] ?_ ?_
   repeat'(first|apply And.intro|exact ze0|refine ze1 ?_|refine zei ?_ ?_|exact rfl|trivial)
   all_goals exact Stop.mk (by first | rfl | rw [cpyL_all])
theorem toJobS_o {l : List Job} (h : l.length ≤ 1048576) : ACalls Tryz.prog 82 [.d (.sl (jobE l))] [.row 0] [(0, .row 94 (jobE l) true)] := by
 refine acalls_of tt Tryz.func82 rfl rfl rfl (fun w0 Z => ?_)
 have hl := jobE_length l
 repeat' (first|refine zst ?_|(refine zhm fun hb=>?_;try exact zab)|refine zg2 ?_ ?_|refine zln fun _=>?_|refine zop ?_|fail)
 refine awp_loop (fun (i : Nat) => ⟨23, [(0, .d (.sl (jobE l))), (3, .row 7), (4, .d (.n .i64 i))], [(7, .row 94 (jobE (cpyL l ⟨0, 0, 0, ⟨0, 0, 0⟩, ⟨0, 0, 0⟩, 0, 0⟩ i)) true)]⟩) (fun i => i ≤ l.length) (fun i => l.length - i) 0 (by exact Nat.zero_le _) ?_ ?_
 ·refine ⟨rfl, ?_, ?_, rfl⟩
  repeat'(first|apply And.intro|exact ze0|refine ze1 ?_|refine zei ?_ ?_|exact rfl|trivial)
  all_goals exact Stop.mk (by first | rfl | (rw [cpyL_0]; exact (List.map_replicate ..).symm) | (rw [cpyL_0]; simp [jobE]))
 ·intro i hi
  have hcl : (jobE (cpyL l ⟨0, 0, 0, ⟨0, 0, 0⟩, ⟨0, 0, 0⟩, 0, 0⟩ i)).length = l.length := by rw [jobE_length]; exact cpyL_length _ _ hi
  have hcl2 := cpyL_length l ⟨0, 0, 0, ⟨0, 0, 0⟩, ⟨0, 0, 0⟩, 0, 0⟩ hi
  by_cases hi' : i < l.length
  ·repeat' (first|refine zst ?_|(refine zhm fun hb=>?_;try exact zab)|refine zg2 ?_ ?_|refine zln fun _=>?_|refine zop ?_|refine kc (toJob_e (x := nth l i)) rfl rfl ?_|fail)
   refine ⟨i + 1, by omega, by omega, ?_⟩
   refine ⟨rfl, ?_, ?_, rfl⟩
   repeat'(first|apply And.intro|exact ze0|refine ze1 ?_|refine zei ?_ ?_|exact rfl|trivial)
   all_goals exact Stop.mk (by first | rfl | exact cpyL_set (f := jobD) hi')
  ·obtain rfl : i = l.length := by omega
   repeat' (first|refine zst ?_|(refine zhm fun hb=>?_;try exact zab)|refine zg2 ?_ ?_|refine zln fun _=>?_|refine zop ?_|fail)
   refine zr [7] ?_ ?_
   repeat'(first|apply And.intro|exact ze0|refine ze1 ?_|refine zei ?_ ?_|exact rfl|trivial)
   all_goals exact Stop.mk (by first | rfl | rw [cpyL_all])
theorem toEndS_o {l : List EndS} (h : l.length ≤ 1048576) : ACalls Tryz.prog 84 [.d (.sl (endE l))] [.row 0] [(0, .row 134 (endE l) true)] := by
 refine acalls_of tt Tryz.func84 rfl rfl rfl (fun w0 Z => ?_)
 have hl := endE_length l
 repeat' (first|refine zst ?_|(refine zhm fun hb=>?_;try exact zab)|refine zg2 ?_ ?_|refine zln fun _=>?_|refine zop ?_|fail)
 refine awp_loop (fun (i : Nat) => ⟨23, [(0, .d (.sl (endE l))), (3, .row 7), (4, .d (.n .i64 i))], [(7, .row 134 (endE (cpyL l ⟨0, 0, 0⟩ i)) true)]⟩) (fun i => i ≤ l.length) (fun i => l.length - i) 0 (by exact Nat.zero_le _) ?_ ?_
 ·refine ⟨rfl, ?_, ?_, rfl⟩
  repeat'(first|apply And.intro|exact ze0|refine ze1 ?_|refine zei ?_ ?_|exact rfl|trivial)
  all_goals exact Stop.mk (by first | rfl | (rw [cpyL_0]; exact (List.map_replicate ..).symm) | (rw [cpyL_0]; simp [endE]))
 ·intro i hi
  have hcl : (endE (cpyL l ⟨0, 0, 0⟩ i)).length = l.length := by rw [endE_length]; exact cpyL_length _ _ hi
  have hcl2 := cpyL_length l ⟨0, 0, 0⟩ hi
  by_cases hi' : i < l.length
  ·repeat' (first|refine zst ?_|(refine zhm fun hb=>?_;try exact zab)|refine zg2 ?_ ?_|refine zln fun _=>?_|refine zop ?_|refine kc (toEnd_e (x := nth l i)) rfl rfl ?_|fail)
   refine ⟨i + 1, by omega, by omega, ?_⟩
   refine ⟨rfl, ?_, ?_, rfl⟩
   repeat'(first|apply And.intro|exact ze0|refine ze1 ?_|refine zei ?_ ?_|exact rfl|trivial)
   all_goals exact Stop.mk (by first | rfl | exact cpyL_set (f := (fun e => ([.n .i64 e.id, .n .i64 e.at', .n .i64 e.why] : List D))) hi')
  ·obtain rfl : i = l.length := by omega
   repeat' (first|refine zst ?_|(refine zhm fun hb=>?_;try exact zab)|refine zg2 ?_ ?_|refine zln fun _=>?_|refine zop ?_|fail)
   refine zr [7] ?_ ?_
   repeat'(first|apply And.intro|exact ze0|refine ze1 ?_|refine zei ?_ ?_|exact rfl|trivial)
   all_goals exact Stop.mk (by first | rfl | rw [cpyL_all])
theorem cpyL_nth {α : Type} [Inhabited α] {l : List α} {z : α} {i : Nat} (h : i < l.length) : nth (cpyL l z i) i = z := by
 have : (cpyL l z i)[i]? = some z := by
  unfold cpyL
  rw [List.getElem?_append_right (by simp; omega)]
  simp [show min i l.length = i by omega, List.getElem?_replicate]
  omega
 simp [nth, this]
@[reducible] def runO (r : Run) (q : Nat) : AV := .agg [.d (.n .i64 r.job.id), .d (.n .i64 r.job.prio), .d (.n .i64 r.job.nodes), .d (.n .i64 r.job.need.a), .d (.n .i64 r.job.need.b), .d (.n .i64 r.job.need.c), .d (.n .i64 r.job.lic.a), .d (.n .i64 r.job.lic.b), .d (.n .i64 r.job.lic.c), .d (.n .i64 r.job.wall), .d (.n .i64 r.job.level), .d (.n .i64 r.at'), .row q]
theorem toRun_o {r : Run} (h : r.nodes.length ≤ 1048576) : ACalls Tryz.prog 166 [runA r] [runO r 0] [(0, .row 3 (intE r.nodes) true)] := by
 refine acalls_of tt Tryz.func166 rfl rfl rfl (fun w0 Z => ?_)
 repeat' (first|refine zst ?_|(refine zhm fun hb=>?_;try exact zab)|refine zg2 ?_ ?_|refine zop ?_|refine kc (toJob_e (x := r.job)) rfl rfl ?_|refine kc (toIntS_o (l := r.nodes) h) rfl rfl ?_|fail)
 exact zr [13] zae zae
theorem toRunS_o {l : List Run} (h : l.length ≤ 1048576) (hr : ∀ j, j < l.length → (nth l j).nodes.length ≤ 1048576) : ACalls Tryz.prog 83 [.d (.sl (runE l))] [.row 0] [(0, .row 116 (runE l) true)] := by
 refine acalls_of tt Tryz.func83 rfl rfl rfl (fun w0 Z => ?_)
 have hl := runE_length l
 repeat' (first|refine zst ?_|(refine zhm fun hb=>?_;try exact zab)|refine zg2 ?_ ?_|(apply op_id;first|refine zom ?_|(refine st_makeN rfl rfl rfl rfl (by first|with_reducible rfl|exact nlit _|rfl) rfl (by first|with_reducible rfl|exact nlit _|rfl) (by omega) ⟨rfl, rfl, rfl⟩ rfl rfl rfl rfl rfl ?_))|refine zln fun _=>?_|refine zop ?_|fail)
 refine awp_loop (fun (i : Nat) => ⟨23, [(0, .d (.sl (runE l))), (3, .row 7), (4, .d (.n .i64 i))], [(7, .row 116 (runE (cpyL l zRun i)) true)]⟩) (fun i => i ≤ l.length) (fun i => l.length - i) 0 (by exact Nat.zero_le _) ?_ ?_
 ·refine ⟨rfl, ?_, ?_, rfl⟩
  repeat'(first|apply And.intro|exact ze0|refine ze1 ?_|refine zei ?_ ?_|exact rfl|trivial)
  all_goals exact Stop.mk (by first | rfl | (rw [cpyL_0]; exact (List.map_replicate ..).symm) | (rw [cpyL_0]; simp [runE, zRun, intE]))
 ·intro k hk
  have hcl : (runE (cpyL l zRun k)).length = l.length := by rw [runE_length]; exact cpyL_length _ _ hk
  have hcl2 := cpyL_length l zRun hk
  by_cases hk' : k < l.length
  ·have hat := runE_at (l := cpyL l zRun k) (j := k) (by omega)
   rw [cpyL_nth hk'] at hat
   repeat' (first|refine zst ?_|(refine zhm fun hb=>?_;try exact zab)|refine zg2 ?_ ?_|(apply op_id;first|(refine st_storeA rfl rfl rfl rfl rfl rfl rfl rfl rfl rfl hcl (by omega) hat rfl rfl rfl (flatE_map fun _ => rfl) rfl rfl ?_))|refine zln fun _=>?_|refine zop ?_|refine kc (toRun_o (r := nth l k) (hr k hk')) rfl rfl ?_|fail)
   refine ⟨k + 1, by omega, by omega, ?_⟩
   refine ⟨rfl, ?_, ?_, rfl⟩
   repeat'(first|apply And.intro|exact ze0|refine ze1 ?_|refine zei ?_ ?_|exact rfl|trivial)
   all_goals exact Stop.mk (by first | rfl | exact cpyL_set (f := runD) hk')
  ·obtain rfl : k = l.length := by omega
   repeat' (first|refine zst ?_|(refine zhm fun hb=>?_;try exact zab)|refine zg2 ?_ ?_|refine zln fun _=>?_|refine zop ?_|fail)
   refine zr [7] ?_ ?_
   repeat'(first|apply And.intro|exact ze0|refine ze1 ?_|refine zei ?_ ?_|exact rfl|trivial)
   all_goals exact Stop.mk (by first | rfl | rw [cpyL_all])
theorem toTopo_o {t : Topo} (h1 : t.parents.length ≤ 1048576) (h2 : t.nodes.length ≤ 1048576) : ACalls Tryz.prog 80 [topoA t] [.agg [.row 0, .row 1]] [(0, .row 3 (intE t.parents) true), (1, .row 204 (nodeE t.nodes) true)] := by
 refine acalls_of tt Tryz.func80 rfl rfl rfl (fun w0 Z => ?_)
 repeat' (first|refine zst ?_|(refine zhm fun hb=>?_;try exact zab)|refine zg2 ?_ ?_|refine zop ?_|refine kc (toIntS_o (l := t.parents) h1) rfl rfl ?_|refine kc (toNodeS_o (l := t.nodes) h2) rfl rfl ?_|fail)
 exact zr [6, 10] zae zae
@[reducible] def stateO (s : State) (q0 q1 q2 q3 q4 q5 : Nat) : AV := .agg [.row q0, .row q1, .row q2, .d (.n .i64 s.lic.a), .d (.n .i64 s.lic.b), .d (.n .i64 s.lic.c), .d (.n .i64 s.depth), .d (.n .i64 s.now), .row q3, .row q4, .row q5]
@[reducible] def stateR (s : State) : List (Nat × AO) := [(0, .row 3 (intE s.topo.parents) true), (1, .row 204 (nodeE s.topo.nodes) true), (2, .row 4 (boolE s.up) true), (3, .row 94 (jobE s.queue) true), (4, .row 116 (runE s.runs) true), (5, .row 134 (endE s.ends) true)]
theorem toState_o {s : State} (h : Small 1048576 s) : ACalls Tryz.prog 20 [stateA s] [stateO s 0 1 2 3 4 5] (stateR s) := by
 refine acalls_of tt Tryz.func20 rfl rfl rfl (fun w0 Z => ?_)
 repeat' (first|refine zst ?_|(refine zhm fun hb=>?_;try exact zab)|refine zg2 ?_ ?_|refine zop ?_|refine kc (toTopo_o (t := s.topo) h.par h.nod) rfl rfl ?_|refine kc (toBoolS_o (l := s.up) h.up) rfl rfl ?_|refine kc (toVec_e (x := s.lic)) rfl rfl ?_|refine kc (toJobS_o (l := s.queue) h.que) rfl rfl ?_|refine kc (toRunS_o (l := s.runs) h.run h.rno) rfl rfl ?_|refine kc (toEndS_o (l := s.ends) h.end') rfl rfl ?_|fail)
 exact zr [6, 1006, 10, 24, 28, 32] zae zae
end Go.Proofs.YtliopiphobopjaaGreat
