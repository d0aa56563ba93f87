/-
  Runs that end: what goes and what stays; the method and the function that drop them; the copies they start from.
-/
import Derived.Test.YtliopiphobopjaaGreatKShL
import Derived.Test.YtliopiphobopjaaGreatKB23
import Derived.Test.YtliopiphobopjaaGreatKB7
set_option maxRecDepth 100000
set_option maxHeartbeats 16000000
namespace Go.Proofs.YtliopiphobopjaaGreat
open Go Go.RowKit
attribute [local irreducible] AWp OpsOk OpOk ACalls ChA QsOk MCalls NCalls EnC PY

def goneJ (p : Run → Bool) (l : List Run) : List Job := (l.filter p).map Run.job
def keptR (p : Run → Bool) (l : List Run) : List Run := l.filter fun r => !p r
def goneE (now why : Int) (p : Run → Bool) (l : List Run) : List EndS := (l.filter p).map fun r => ⟨r.job.id, now, why⟩
theorem goneJ_yes {p : Run → Bool} {l : List Run} {i : Nat} (h : i < l.length) (hp : p (nth l i) = true) : goneJ p (l.take (i + 1)) = goneJ p (l.take i) ++ [(nth l i).job] := by
 rw [goneJ, take_snoc h, List.filter_append, List.map_append]; simp [goneJ, hp]
theorem goneJ_no {p : Run → Bool} {l : List Run} {i : Nat} (h : i < l.length) (hp : p (nth l i) = false) : goneJ p (l.take (i + 1)) = goneJ p (l.take i) := by
 rw [goneJ, take_snoc h, List.filter_append, List.map_append]; simp [goneJ, hp]
theorem keptR_yes {p : Run → Bool} {l : List Run} {i : Nat} (h : i < l.length) (hp : p (nth l i) = true) : keptR p (l.take (i + 1)) = keptR p (l.take i) := by
 rw [keptR, take_snoc h, List.filter_append]; simp [keptR, hp]
theorem keptR_no {p : Run → Bool} {l : List Run} {i : Nat} (h : i < l.length) (hp : p (nth l i) = false) : keptR p (l.take (i + 1)) = keptR p (l.take i) ++ [nth l i] := by
 rw [keptR, take_snoc h, List.filter_append]; simp [keptR, hp]
theorem goneE_yes {now why : Int} {p : Run → Bool} {l : List Run} {i : Nat} (h : i < l.length) (hp : p (nth l i) = true) : goneE now why p (l.take (i + 1)) = goneE now why p (l.take i) ++ [⟨(nth l i).job.id, now, why⟩] := by
 rw [goneE, take_snoc h, List.filter_append, List.map_append]; simp [goneE, hp]
theorem goneE_no {now why : Int} {p : Run → Bool} {l : List Run} {i : Nat} (h : i < l.length) (hp : p (nth l i) = false) : goneE now why p (l.take (i + 1)) = goneE now why p (l.take i) := by
 rw [goneE, take_snoc h, List.filter_append, List.map_append]; simp [goneE, hp]
theorem keptR_len {p : Run → Bool} {l : List Run} {i : Nat} : (keptR p (l.take i)).length ≤ i := Nat.le_trans (List.length_filter_le _ _) (by rw [List.length_take]; omega)
theorem goneJ_len {p : Run → Bool} {l : List Run} {i : Nat} : (goneJ p (l.take i)).length ≤ i := by rw [goneJ, List.length_map]; exact Nat.le_trans (List.length_filter_le _ _) (by rw [List.length_take]; omega)
theorem goneE_len {now why : Int} {p : Run → Bool} {l : List Run} {i : Nat} : (goneE now why p (l.take i)).length ≤ i := by rw [goneE, List.length_map]; exact Nat.le_trans (List.length_filter_le _ _) (by rw [List.length_take]; omega)
theorem endE_push (l : List EndS) (e : EndS) : endE l ++ [[.n .i64 e.id, .n .i64 e.at', .n .i64 e.why]] = endE (l ++ [e]) := by simp [endE]
theorem runE_snoc (l : List Run) (r : Run) : runE l ++ [[.n .i64 r.job.id, .n .i64 r.job.prio, .n .i64 r.job.nodes, .n .i64 r.job.need.a, .n .i64 r.job.need.b, .n .i64 r.job.need.c, .n .i64 r.job.lic.a, .n .i64 r.job.lic.b, .n .i64 r.job.lic.c, .n .i64 r.job.wall, .n .i64 r.job.level, .n .i64 r.at', .sl (intE r.nodes)]] = runE (l ++ [r]) := by simp [runE]
def drop (s : State) (why : Int) (p : Run → Bool) : State := { s with runs := keptR p s.runs, ends := s.ends ++ goneE s.now why p s.runs }
/-! ### The method -/
@[reducible] def stEnd (s : State) (u : List (List D)) (q1 q2 : Nat) (v : AV) : List AV := [.d (.sl (intE s.topo.parents)), .d (.sl (nodeE s.topo.nodes)), .d (.sl u), .d (.n .i64 s.lic.a), .d (.n .i64 s.lic.b), .d (.n .i64 s.lic.c), .d (.n .i64 s.depth), .d (.n .i64 s.now), .row q1, v, .row q2]
theorem ended_n {s : State} {why : Int} {p : Run → Bool} {g : FuncId} {ds : List D} {u : List (List D)} (hs : Small 100000000 s) (hg : ∀ r, r ∈ s.runs → ACalls Tryz.prog g [runA r, .pd ds 0] [.d (.b (p r))] []) : NCalls Tryz.prog 146 [.ptr 1000000 0, .d (.n .i64 why), .clo g [.pd ds 0]] [(1000000, .box 44 (stEnd s u 500001 500002 (.d (.sl (runE s.runs))))), (500001, .row 94 (jobE s.queue) true), (500002, .row 134 (endE s.ends) true)] (fun _ : Unit => True) (fun _ => [.row 3]) (fun _ => [(1000000, .box 44 (stEnd s u 0 2 (.row 1))), (0, .row 94 (jobE s.queue) true), (1, .row 116 (runE (keptR p s.runs)) false), (2, .row 134 (endE (s.ends ++ goneE s.now why p s.runs)) true), (3, .row 94 (jobE (goneJ p s.runs)) true)]) := by
 refine ncalls_of tt Tryz.func146 rfl rfl rfl (fun _ _ => rfl) (fun w0 Z O => ?_)
 refine awp_ren 500002 62 rfl ?_
 have hl := runE_length s.runs
 have h5 := hs.run
 have h6 := hs.end'
 repeat' (first|refine zst ?_|(refine zhm fun hb=>?_;try exact zab)|(apply ch_move;iterate 10 exact rfl)|refine zdr ?_|(apply zch;exact zcg)|refine HopS.mk fun w0 Z O=>?_|exact zhk|refine zg3 ?_ ?_|refine zln fun _=>?_|refine zop ?_|fail)
 refine awp_nilrow 8 8 116 rfl rfl rfl ?_
 refine awp_shal 8 rfl ?_
 refine awp_loop (fun (k : Nat) => ⟨58, [(0, .ptr 1000000 0), (1, .d (.n .i64 why)), (2, .clo g [.pd ds 0]), (7, .row 11), (8, .row 8), (15, .d (.sl (runE s.runs))), (16, .d (.n .i64 (s.runs.length : Nat))), (17, .d (.n .i64 k))], [(1000000, .box 44 (stEnd s u 500001 62 (.d (.sl (runE s.runs))))), (500001, .row 94 (jobE s.queue) true), (62, .row 134 (endE (s.ends ++ goneE s.now why p (s.runs.take k))) true), (8, .row 116 (runE (keptR p (s.runs.take k))) false), (11, .row 94 (jobE (goneJ p (s.runs.take k))) true)]⟩) (fun k => k ≤ s.runs.length) (fun k => s.runs.length - k) 0 (by exact Nat.zero_le _) ?_ ?_
 ·refine ⟨rfl, ?_, ?_, rfl⟩
  repeat'(first|apply And.intro|exact ze0|refine ze1 ?_|refine zei ?_ ?_|exact rfl|trivial)
  all_goals exact Stop.mk (by first | rfl | (simp [goneE]; done))
 ·intro k hk
  have hd1 := jobE_length (goneJ p (s.runs.take k))
  have hd2 := runE_length (keptR p (s.runs.take k))
  have hd3 := endE_length (s.ends ++ goneE s.now why p (s.runs.take k))
  have hd7 : (s.ends ++ goneE s.now why p (s.runs.take k)).length = s.ends.length + (goneE s.now why p (s.runs.take k)).length := List.length_append
  have hd4 := goneJ_len (p := p) (l := s.runs) (i := k)
  have hd5 := keptR_len (p := p) (l := s.runs) (i := k)
  have hd6 := goneE_len (now := s.now) (why := why) (p := p) (l := s.runs) (i := k)
  by_cases hk' : k < s.runs.length
  ·cases hp : p (nth s.runs k) with
   | true =>
    have c1 := hg (nth s.runs k) (nth_mem hk')
    rw [hp] at c1
    have e1 := goneJ_yes hk' hp
    have e2 := keptR_yes hk' hp
    have e3 := goneE_yes (now := s.now) (why := why) hk' hp
    generalize goneJ p (s.runs.take k) = gj at *
    generalize goneE s.now why p (s.runs.take k) = ge at *
    repeat' (first|refine zsr ?_|(refine zhm fun hb=>?_;try exact zab)|(apply ch_move;iterate 10 exact rfl)|refine zdr ?_|(apply zch;exact zcg)|refine HopS.mk fun w0 Z O=>?_|exact zhk|refine zg3 ?_ ?_|refine zln fun _=>?_|refine zop ?_|refine kv (c1) rfl rfl rfl rfl rfl ?_|fail)
    refine ⟨k + 1, by omega, by omega, ?_⟩
    refine ⟨rfl, ?_, ?_, rfl⟩
    repeat'(first|apply And.intro|exact ze0|refine ze1 ?_|refine zei ?_ ?_|exact rfl|trivial)
    all_goals exact Stop.mk (by first | rfl | (rw [e2]; done) | (rw [e1]; exact jobE_push _ _) | (rw [e3, ← List.append_assoc]; exact endE_push _ ⟨_, _, _⟩))
   | false =>
    have c1 := hg (nth s.runs k) (nth_mem hk')
    rw [hp] at c1
    have e1 := goneJ_no hk' hp
    have e2 := keptR_no hk' hp
    have e3 := goneE_no (now := s.now) (why := why) hk' hp
    repeat' (first|refine zsr ?_|(refine zhm fun hb=>?_;try exact zab)|(apply ch_move;iterate 10 exact rfl)|refine zdr ?_|(apply zch;exact zcg)|refine HopS.mk fun w0 Z O=>?_|exact zhk|refine zg3 ?_ ?_|refine zln fun _=>?_|refine zop ?_|refine kv (c1) rfl rfl rfl rfl rfl ?_|fail)
    refine ⟨k + 1, by omega, by omega, ?_⟩
    refine ⟨rfl, ?_, ?_, rfl⟩
    repeat'(first|apply And.intro|exact ze0|refine ze1 ?_|refine zei ?_ ?_|exact rfl|trivial)
    all_goals exact Stop.mk (by first | rfl | (rw [e1]; done) | (rw [e3]; done) | (rw [e2]; exact runE_snoc _ _))
  ·obtain rfl : k = s.runs.length := by omega
   rw [List.take_length] at *
   repeat' (first|refine zsr ?_|(refine zhm fun hb=>?_;try exact zab)|(apply ch_move;iterate 10 exact rfl)|refine zdr ?_|(apply zch;exact zcg)|refine HopS.mk fun w0 Z O=>?_|exact zhk|refine zg3 ?_ ?_|refine zln fun _=>?_|refine zop ?_|fail)
   show AWp _ _ _ _
   apply awp_ret'
   refine zn () [500001, 8, 62, 11] (by exact trivial) ?_ ?_
   all_goals exact zae
end Go.Proofs.YtliopiphobopjaaGreat
namespace Go.Proofs.YtliopiphobopjaaGreat
open Go Go.RowKit
attribute [local irreducible] AWp OpsOk OpOk ACalls ChA QsOk MCalls NCalls EnC PY

def dropP (id node : Int) (r : Run) : Bool := (r.job.id == id) || hasI r.nodes node
theorem dropP_1 {id node : Int} {r : Run} (h : r.job.id = id) : dropP id node r = true := by simp [dropP, h]
theorem dropP_2 {id node : Int} {r : Run} (h : hasI r.nodes node = true) : dropP id node r = true := by simp [dropP, h]
theorem dropP_3 {id node : Int} {r : Run} (h : r.job.id ≠ id) (h2 : hasI r.nodes node = false) : dropP id node r = false := by simp [dropP, h, h2]
@[reducible] def stDrop (s : State) (u : AV) (v : AV) (q : Nat) : List AV := [.d (.sl (intE s.topo.parents)), .d (.sl (nodeE s.topo.nodes)), u, .d (.n .i64 s.lic.a), .d (.n .i64 s.lic.b), .d (.n .i64 s.lic.c), .d (.n .i64 s.depth), .d (.n .i64 s.now), .d (.sl (jobE s.queue)), v, .row q]
theorem l06Drop_d {s : State} {why id node : Int} (hs : Small 100000000 s) : NCalls Tryz.prog 145 [.agg (stDrop s (.d (.sl (boolE s.up))) (.d (.sl (runE s.runs))) 500000), .d (.n .i64 why), .d (.n .i64 id), .d (.n .i64 node)] [(500000, .row 134 (endE s.ends) true)] (fun _ : Unit => True) (fun _ => [.agg (stDrop s (.d (.sl (boolE s.up))) (.row 0) 1)]) (fun _ => [(0, .row 116 (runE (keptR (dropP id node) s.runs)) false), (1, .row 134 (endE (s.ends ++ goneE s.now why (dropP id node) s.runs)) true)]) := by
 refine ncalls_of tt Tryz.func145 rfl rfl rfl (fun _ _ => rfl) (fun w0 Z O => ?_)
 have hl := runE_length s.runs
 have h5 := hs.run
 have h6 := hs.end'
 repeat' (first|refine zst ?_|(refine zhm fun hb=>?_;try exact zab)|refine zg2 ?_ ?_|refine zln fun _=>?_|refine zop ?_|fail)
 refine awp_shal 12 rfl ?_
 refine awp_loop (fun (k : Nat) => ⟨51, [(1, .d (.n .i64 why)), (2, .d (.n .i64 id)), (3, .d (.n .i64 node)), (4, .ptr 4 0), (8, .ptr 8 0), (9, .row 12), (14, .d (.sl (runE s.runs))), (15, .d (.n .i64 (s.runs.length : Nat))), (16, .d (.n .i64 k))], [(4, .box 44 (stDrop s (.d (.sl (boolE s.up))) (.d (.sl (runE s.runs))) 500000)), (8, .box 44 [.nil, .nil, .nil, .d (.n .i64 0), .d (.n .i64 0), .d (.n .i64 0), .d (.n .i64 0), .d (.n .i64 0), .nil, .nil, .nil]), (500000, .row 134 (endE (s.ends ++ goneE s.now why (dropP id node) (s.runs.take k))) true), (12, .row 116 (runE (keptR (dropP id node) (s.runs.take k))) false)]⟩) (fun k => k ≤ s.runs.length) (fun k => s.runs.length - k) 0 (by exact Nat.zero_le _) ?_ ?_
 ·refine ⟨rfl, ?_, ?_, rfl⟩
  repeat'(first|apply And.intro|exact ze0|refine ze1 ?_|refine zei ?_ ?_|exact rfl|trivial)
  all_goals exact Stop.mk (by first | rfl | (simp [goneE]; done))
 ·intro k hk
  have hd2 := runE_length (keptR (dropP id node) (s.runs.take k))
  have hd3 := endE_length (s.ends ++ goneE s.now why (dropP id node) (s.runs.take k))
  have hd7 : (s.ends ++ goneE s.now why (dropP id node) (s.runs.take k)).length = s.ends.length + (goneE s.now why (dropP id node) (s.runs.take k)).length := List.length_append
  have hd5 := keptR_len (p := dropP id node) (l := s.runs) (i := k)
  have hd6 := goneE_len (now := s.now) (why := why) (p := dropP id node) (l := s.runs) (i := k)
  by_cases hk' : k < s.runs.length
  ·have hno := hs.rno k hk'
   have c3 := l02Has_c (l := (nth s.runs k).nodes) (x := node) (by omega)
   by_cases h1 : (nth s.runs k).job.id = id
   ·have hp := dropP_1 (node := node) h1
    have e2 := keptR_yes hk' hp
    have e3 := goneE_yes (now := s.now) (why := why) hk' hp
    generalize goneE s.now why (dropP id node) (s.runs.take k) = ge at *
    repeat' (first|refine zsr ?_|(refine zhm fun hb=>?_;try exact zab)|refine zg2 ?_ ?_|refine zln fun _=>?_|refine zop ?_|refine kc (c3) rfl rfl ?_|fail)
    refine ⟨k + 1, by omega, by omega, ?_⟩
    refine ⟨rfl, ?_, ?_, rfl⟩
    repeat'(first|apply And.intro|exact ze0|refine ze1 ?_|refine zei ?_ ?_|exact rfl|trivial)
    all_goals exact Stop.mk (by first | rfl | (rw [e2]; done) | (rw [e3, ← List.append_assoc]; exact endE_push _ ⟨_, _, _⟩))
   ·cases h2 : hasI (nth s.runs k).nodes node with
    | true =>
     rw [h2] at c3
     have hp := dropP_2 (id := id) h2
     have e2 := keptR_yes hk' hp
     have e3 := goneE_yes (now := s.now) (why := why) hk' hp
     generalize goneE s.now why (dropP id node) (s.runs.take k) = ge at *
     repeat' (first|refine zsr ?_|(refine zhm fun hb=>?_;try exact zab)|refine zg2 ?_ ?_|refine zln fun _=>?_|refine zop ?_|refine kc (c3) rfl rfl ?_|fail)
     refine ⟨k + 1, by omega, by omega, ?_⟩
     refine ⟨rfl, ?_, ?_, rfl⟩
     repeat'(first|apply And.intro|exact ze0|refine ze1 ?_|refine zei ?_ ?_|exact rfl|trivial)
     all_goals exact Stop.mk (by first | rfl | (rw [e2]; done) | (rw [e3, ← List.append_assoc]; exact endE_push _ ⟨_, _, _⟩))
    | false =>
     rw [h2] at c3
     have hp := dropP_3 h1 h2
     have e2 := keptR_no hk' hp
     have e3 := goneE_no (now := s.now) (why := why) hk' hp
     repeat' (first|refine zsr ?_|(refine zhm fun hb=>?_;try exact zab)|refine zg2 ?_ ?_|refine zln fun _=>?_|refine zop ?_|refine kc (c3) rfl rfl ?_|fail)
     refine ⟨k + 1, by omega, by omega, ?_⟩
     refine ⟨rfl, ?_, ?_, rfl⟩
     repeat'(first|apply And.intro|exact ze0|refine ze1 ?_|refine zei ?_ ?_|exact rfl|trivial)
     all_goals exact Stop.mk (by first | rfl | (rw [e3]; done) | (rw [e2]; exact runE_snoc _ _))
  ·obtain rfl : k = s.runs.length := by omega
   rw [List.take_length] at *
   repeat' (first|refine zsr ?_|(refine zhm fun hb=>?_;try exact zab)|refine zg2 ?_ ?_|refine zln fun _=>?_|refine zop ?_|fail)
   show AWp _ _ _ _
   apply awp_ret'
   refine zn () [12, 500000] (by exact trivial) ?_ ?_
   all_goals exact zae
theorem l06Drop_u {s : State} {why id node : Int} (hs : Small 100000000 s) : NCalls Tryz.prog 145 [.agg (stDrop s (.row 500000) (.d (.sl (runE s.runs))) 500001), .d (.n .i64 why), .d (.n .i64 id), .d (.n .i64 node)] [(500000, .row 4 (boolE s.up) true),(500001, .row 134 (endE s.ends) true)] (fun _ : Unit => True) (fun _ => [.agg (stDrop s (.row 2) (.row 0) 1)]) (fun _ => [(0, .row 116 (runE (keptR (dropP id node) s.runs)) false), (1, .row 134 (endE (s.ends ++ goneE s.now why (dropP id node) s.runs)) true), (2, .row 4 (boolE s.up) true)]) := by
 refine ncalls_of tt Tryz.func145 rfl rfl rfl (fun _ _ => rfl) (fun w0 Z O => ?_)
 have hl := runE_length s.runs
 have h5 := hs.run
 have h6 := hs.end'
 repeat' (first|refine zst ?_|(refine zhm fun hb=>?_;try exact zab)|refine zg2 ?_ ?_|refine zln fun _=>?_|refine zop ?_|fail)
 refine awp_shal 12 rfl ?_
 refine awp_loop (fun (k : Nat) => ⟨51, [(1, .d (.n .i64 why)), (2, .d (.n .i64 id)), (3, .d (.n .i64 node)), (4, .ptr 4 0), (8, .ptr 8 0), (9, .row 12), (14, .d (.sl (runE s.runs))), (15, .d (.n .i64 (s.runs.length : Nat))), (16, .d (.n .i64 k))], [(4, .box 44 (stDrop s (.row 500000) (.d (.sl (runE s.runs))) 500001)), (8, .box 44 [.nil, .nil, .nil, .d (.n .i64 0), .d (.n .i64 0), .d (.n .i64 0), .d (.n .i64 0), .d (.n .i64 0), .nil, .nil, .nil]), (500000, .row 4 (boolE s.up) true),(500001, .row 134 (endE (s.ends ++ goneE s.now why (dropP id node) (s.runs.take k))) true), (12, .row 116 (runE (keptR (dropP id node) (s.runs.take k))) false)]⟩) (fun k => k ≤ s.runs.length) (fun k => s.runs.length - k) 0 (by exact Nat.zero_le _) ?_ ?_
 ·refine ⟨rfl, ?_, ?_, rfl⟩
  repeat'(first|apply And.intro|exact ze0|refine ze1 ?_|refine zei ?_ ?_|exact rfl|trivial)
  all_goals exact Stop.mk (by first | rfl | (simp [goneE]; done))
 ·intro k hk
  have hd2 := runE_length (keptR (dropP id node) (s.runs.take k))
  have hd3 := endE_length (s.ends ++ goneE s.now why (dropP id node) (s.runs.take k))
  have hd7 : (s.ends ++ goneE s.now why (dropP id node) (s.runs.take k)).length = s.ends.length + (goneE s.now why (dropP id node) (s.runs.take k)).length := List.length_append
  have hd5 := keptR_len (p := dropP id node) (l := s.runs) (i := k)
  have hd6 := goneE_len (now := s.now) (why := why) (p := dropP id node) (l := s.runs) (i := k)
  by_cases hk' : k < s.runs.length
  ·have hno := hs.rno k hk'
   have c3 := l02Has_c (l := (nth s.runs k).nodes) (x := node) (by omega)
   by_cases h1 : (nth s.runs k).job.id = id
   ·have hp := dropP_1 (node := node) h1
    have e2 := keptR_yes hk' hp
    have e3 := goneE_yes (now := s.now) (why := why) hk' hp
    generalize goneE s.now why (dropP id node) (s.runs.take k) = ge at *
    repeat' (first|refine zsr ?_|(refine zhm fun hb=>?_;try exact zab)|refine zg2 ?_ ?_|refine zln fun _=>?_|refine zop ?_|refine kc (c3) rfl rfl ?_|fail)
    refine ⟨k + 1, by omega, by omega, ?_⟩
    refine ⟨rfl, ?_, ?_, rfl⟩
    repeat'(first|apply And.intro|exact ze0|refine ze1 ?_|refine zei ?_ ?_|exact rfl|trivial)
    all_goals exact Stop.mk (by first | rfl | (rw [e2]; done) | (rw [e3, ← List.append_assoc]; exact endE_push _ ⟨_, _, _⟩))
   ·cases h2 : hasI (nth s.runs k).nodes node with
    | true =>
     rw [h2] at c3
     have hp := dropP_2 (id := id) h2
     have e2 := keptR_yes hk' hp
     have e3 := goneE_yes (now := s.now) (why := why) hk' hp
     generalize goneE s.now why (dropP id node) (s.runs.take k) = ge at *
     repeat' (first|refine zsr ?_|(refine zhm fun hb=>?_;try exact zab)|refine zg2 ?_ ?_|refine zln fun _=>?_|refine zop ?_|refine kc (c3) rfl rfl ?_|fail)
     refine ⟨k + 1, by omega, by omega, ?_⟩
     refine ⟨rfl, ?_, ?_, rfl⟩
     repeat'(first|apply And.intro|exact ze0|refine ze1 ?_|refine zei ?_ ?_|exact rfl|trivial)
     all_goals exact Stop.mk (by first | rfl | (rw [e2]; done) | (rw [e3, ← List.append_assoc]; exact endE_push _ ⟨_, _, _⟩))
    | false =>
     rw [h2] at c3
     have hp := dropP_3 h1 h2
     have e2 := keptR_no hk' hp
     have e3 := goneE_no (now := s.now) (why := why) hk' hp
     repeat' (first|refine zsr ?_|(refine zhm fun hb=>?_;try exact zab)|refine zg2 ?_ ?_|refine zln fun _=>?_|refine zop ?_|refine kc (c3) rfl rfl ?_|fail)
     refine ⟨k + 1, by omega, by omega, ?_⟩
     refine ⟨rfl, ?_, ?_, rfl⟩
     repeat'(first|apply And.intro|exact ze0|refine ze1 ?_|refine zei ?_ ?_|exact rfl|trivial)
     all_goals exact Stop.mk (by first | rfl | (rw [e3]; done) | (rw [e2]; exact runE_snoc _ _))
  ·obtain rfl : k = s.runs.length := by omega
   rw [List.take_length] at *
   repeat' (first|refine zsr ?_|(refine zhm fun hb=>?_;try exact zab)|refine zg2 ?_ ?_|refine zln fun _=>?_|refine zop ?_|fail)
   show AWp _ _ _ _
   apply awp_ret'
   refine zn () [12, 500001, 500000] (by exact trivial) ?_ ?_
   all_goals exact zae
end Go.Proofs.YtliopiphobopjaaGreat
namespace Go.Proofs.YtliopiphobopjaaGreat
open Go Go.RowKit
def keyL : List (Nat × AO) → List Nat
 | [] => []
 | (n, _) :: l => n :: keyL l
theorem keyL_eq : ∀ (l : List (Nat × AO)), keyL l = l.map Prod.fst
 | [] => rfl
 | (n, _) :: l => by rw [keyL, keyL_eq l]; rfl
def kept2 (ρ ks : List Nat) (n : Nat) : Bool := bif inN ρ n then ks.any (fun m => bif fre0 m then false else Nat.beq (ρ.getD (m - 1000000) 0) n) else true
def back2 (f : Nat → Bool) (t : Nat) (ρ : List Nat) (ob : List (Nat × AO)) (ks : List Nat) : Bool := nodupL (ks.map (backN t ρ)) && ks.all fun m => bif fre0 m then freeN f (nameOf t m) ob else true
theorem kept2_eq (ρ : List Nat) (fin : List (Nat × AO)) : keptN ρ fin = kept2 ρ (keyL fin) := by
 funext n
 unfold keptN kept2
 rw [keyL_eq, List.any_map]
 rfl
theorem back2_eq {f : Nat → Bool} {t : Nat} {ρ : List Nat} {ob fin : List (Nat × AO)} (h : back2 f t ρ ob (keyL fin) = true) : backB f t ρ ob fin = true := by
 unfold back2 at h
 unfold backB
 rw [keyL_eq, List.map_map, List.all_map] at h
 exact h
theorem kn2 {X : Cx} {σ : AS} {o : Oper} {K : AS → Prop} {t : Nat} {ι : Type} {f : FuncId} {ws : Array Operand} {ats : Array TypeId} {xs : List AV} {obs : List (Nat × AO)} {ok : ι → Prop} {rs : ι → List AV} {fin : ι → List (Nat × AO)} (ρ : List Nat) (hc : NCalls X.P f xs obs ok rs fin)
  (ho : o.op = .call { callee := .value (.func f), args := ws, argTypes := ats }) (hx : σ.handNA ρ ws.toList = some xs)
  (hK : ∀ i, ok i → K ⟨σ.nt, (t, (one (rs i)).mapN (backN t ρ)) :: cutS (kept2 ρ (keyL (fin i))) σ.sl, finO t ρ (fin i) ++ restOD (inN ρ) (kept2 ρ (keyL (fin i))) σ.ob⟩)
  (hd : o.dst = some t := by exact rfl) (hob : σ.handedN ρ 0 ρ = some obs := by exact rfl) (hn : nodupL ρ = true := by exact rfl) (hno : nodupN obs = true := by exact rfl)
  (hf : ∀ i, ok i → back2 X.fre t ρ σ.ob (keyL (fin i)) = true := by exact fun _ _ => rfl) (ht : Nat.blt t σ.nt = true := by exact rfl) : OpOk X o σ K :=
 st_calln ρ hc ho hd hx hob hn hno (fun i hi => back2_eq (hf i hi)) ht (fun i hi => by rw [kept2_eq]; exact hK i hi)
end Go.Proofs.YtliopiphobopjaaGreat
