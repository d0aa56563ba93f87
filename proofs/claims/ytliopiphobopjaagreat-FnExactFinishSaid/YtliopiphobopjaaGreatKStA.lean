/-
  What starts, of the program.
-/
import Derived.Test.YtliopiphobopjaaGreatKShL
import Derived.Test.YtliopiphobopjaaGreatKPlU
import Derived.Test.YtliopiphobopjaaGreatKDlA
import Derived.Test.YtliopiphobopjaaGreatKB21
set_option maxRecDepth 100000
set_option maxHeartbeats 16000000
namespace Go.Proofs.YtliopiphobopjaaGreat
open Go Go.RowKit
theorem awp_renr (id p q : Nat) {X : Cx} {Q : Exit → AS → Prop} {σ : AS} {ops : Array Oper} {dr : Bool} (hf : freeN X.fre q σ.ob = true) (h : AWp X (.region id ops dr) Q ⟨σ.nt, σ.sl.map fun y => (y.1, y.2.mapN (renN p q)), σ.ob.map fun y => (renN p q y.1, y.2.mapN (renN p q))⟩) : AWp X (.region id ops dr) Q σ := awp_ren p q hf h
attribute [local irreducible] AWp OpsOk OpOk ACalls ChA QsOk MCalls NCalls EnC PY

def heldU (h : HeldS) : List D := [.n .i64 h.id, .n .i64 h.at', .un]
def heldT (hs : List HeldS) (i : Nat) : List (List D) := (hs.take i).map heldU ++ (hs.drop i).map heldD
theorem heldT_length {hs : List HeldS} {i : Nat} (h : i ≤ hs.length) : (heldT hs i).length = hs.length := by simp [heldT]; omega
theorem heldT_at {hs : List HeldS} {i : Nat} (h : i < hs.length) : (heldT hs i)[i]? = some (heldD (nth hs i)) := by
 unfold heldT
 rw [List.getElem?_append_right (by simp; omega), List.getElem?_map, List.getElem?_drop]
 have : i + (i - ((hs.take i).map heldU).length) = i := by simp; omega
 rw [this, nth_lt h]
 rfl
theorem heldT_set {hs : List HeldS} {i : Nat} (h : i < hs.length) : (heldT hs i).set i (heldU (nth hs i)) = heldT hs (i + 1) := by
 unfold heldT
 rw [List.set_append_right _ _ (by simp; omega), drop_nth h, take_snoc h]
 have : i - ((hs.take i).map heldU).length = 0 := by simp; omega
 rw [this]
 simp
theorem runE_push (l : List Run) (x : Run) : runE l ++ [runD x] = runE (l ++ [x]) := by simp [runE, runD]
theorem idx_of {l : List Job} {id : Int} (h : id ∈ l.map Job.id) : ∃ k, k < l.length ∧ idxF l (fun j => j.id == id) = (k : Nat) ∧ (nth l k).id = id ∧ findJ l id = some (nth l k) := by
 obtain ⟨x, hx, e⟩ := List.mem_map.1 h
 obtain ⟨i, hi, rfl⟩ := mem_nth hx
 obtain ⟨k, ⟨h1, h2⟩, h3⟩ := least (p := fun k => k < l.length ∧ (nth l k).id = id) ⟨i, hi, e⟩
 have h4 : ∀ j, j < k → (nth l j).id ≠ id := fun j hj e => by
  have := h3 j ⟨by omega, e⟩
  omega
 exact ⟨k, h1, idxF_yes h1 (by simp [h2]) (fun j hj => by simpa using h4 j hj), h2, findJ_at h1 h2 h4⟩
structure PlanJ (s : State) (p : List HeldS × List HeldS) : Prop where
 len : p.1.length + p.2.length ≤ (ordJ s.queue).length
 sub : (p.1.map HeldS.id).Sublist ((ordJ s.queue).map Job.id)
 st : ∀ h ∈ p.1, h.at' = s.now ∧ 1 ≤ h.nodes.length ∧ h.nodes.length ≤ 24
 lt : ∀ h ∈ p.2, 1 ≤ h.nodes.length ∧ h.nodes.length ≤ 24
theorem planO_J {s : State} {r : Room} (h : roomOf s = some r) : PlanJ s (planO s) := by
 have hI := planO_I h
 rw [planO_some h]
 exact ⟨hI.len, hI.sub, hI.st, hI.lt⟩
structure StartP (s : State) (r : Room) : Prop where
 room : roomOf s = some r
 queue : QueueP s.queue
 depth : 0 ≤ s.depth ∧ s.depth ≤ 60
theorem StartP.now {s : State} {r : Room} (h : StartP s r) : 0 ≤ s.now ∧ s.now ≤ 1000000000 := (roomOf_ok h.room).2.2.2.1.now
theorem StartP.strP {s : State} {r : Room} (h : StartP s r) (i : Nat) (hi : i ≤ (planO s).1.length) : StrP s.now s.queue s.runs (planO s).1 i ∧ (i < (planO s).1.length → (nth (planO s).1 i).id ∈ (runF s.now s.queue s.runs ((planO s).1.take i)).1.map Job.id) := by
 have hI := planO_J h.room
 have hp : ((ordJ s.queue).map Job.id).Perm (s.queue.map Job.id) := (List.mergeSort_perm _ _).map _
 exact Proofs.YtliopiphobopjaaGreat.strP (hI.sub.nodup (hp.nodup_iff.2 h.queue.nodup)) (fun x hx => hp.mem_iff.1 (hI.sub.subset (List.mem_map.2 ⟨x, hx, rfl⟩))) i hi
theorem started_o {s : State} {r : Room} (hs : Small 100000000 s) (h : StartP s r) : ACalls Tryz.prog 128 [stateA s] [stateO (startO s) 0 1 2 3 4 5] (stateR (startO s)) := by
 refine acalls_of tt Tryz.func128 rfl rfl rfl (fun w0 Z => ?_)
 have c1 := roomOf_e (hs.mono (m := 1000000000) (by omega))
 rw [h.room] at c1
 have c2 := plan_m (depth := s.depth) (roomOf_room h.room) h.queue h.now h.depth
 have c3 := copyState_o hs
 have hI := planO_J h.room
 have hS := h.strP
 unfold startO
 rw [← planO_some h.room] at c2
 generalize planO s = pl at c2 hI hS ⊢
 obtain ⟨hl, lt⟩ := pl
 dsimp only at c2 hI hS ⊢
 have hql := h.queue.len
 have hrl := hs.run
 have hil := hI.len
 dsimp only at hil
 have hol := ordJ_length s.queue
 have hle := heldE_length hl
 repeat' (first|refine zst ?_|(refine zhm fun hb=>?_;try exact zab)|refine zdr ?_|(apply zch;exact zcg)|refine HopS.mk fun w0 Z O=>?_|exact zhk|refine zg3 ?_ ?_|refine zln fun _=>?_|refine zop ?_|refine kc (c3) rfl rfl ?_|(refine km [] (c1) rfl rfl (fun i hi => ?_);(try dsimp only at hi))|(refine km [] (c2) rfl rfl (fun i hi => ?_);(try dsimp only at hi))|refine kq (c3) rfl rfl ?_|fail)
 refine awp_ren 3030 63 rfl ?_
 refine awp_loop (fun (n : Nat) => ⟨66, [(1, .ptr 1 0), (2, .ptr 2 0), (8, .ptr 8 0), (31, .row 25), (32, .d (.n .i64 (hl.length : Nat))), (33, .d (.n .i64 n))], [(1, .box 44 (stateC s)), (2, .box 44 ctl0), (8, .box 44 (stC s 30 1030 2030 63 4030 5030)), (25, .row 159 (heldT hl n) true), (30, .row 3 (intE s.topo.parents) true), (1030, .row 204 (nodeE s.topo.nodes) true), (2030, .row 4 (boolE s.up) true), (63, .row 94 (jobE (runF s.now s.queue s.runs (hl.take n)).1) true), (4030, .row 116 (runE (runF s.now s.queue s.runs (hl.take n)).2) true), (5030, .row 134 (endE s.ends) true)]⟩) (fun n => n ≤ hl.length) (fun n => hl.length - n) 0 (by exact Nat.zero_le _) ?_ ?_
 ·refine ⟨rfl, ?_, ?_, rfl⟩
  repeat'(first|apply And.intro|exact ze0|refine ze1 ?_|refine zei ?_ ?_|exact rfl|trivial)
  all_goals exact Stop.mk (by first | rfl | exact hle)
 intro n hn
 obtain ⟨hP, hin⟩ := hS n hn
 have hpl := hP.len
 have hpq := hP.que
 by_cases hn' : n < hl.length
 ·have hst := runF_step (now := s.now) (qs := s.queue) (rs := s.runs) hn'
  obtain ⟨k, hk1, hk2, hk3, hk4⟩ := idx_of (hin hn')
  have hnd : ((runF s.now s.queue s.runs (hl.take n)).1.map Job.id).Nodup := (hP.sub.map Job.id).nodup h.queue.nodup
  have hx := hI.st _ (nth_mem hn')
  have hat := heldT_at hn'
  have hset := heldT_set hn'
  have hlen := heldT_length hn
  generalize nth hl n = x at hst hk1 hk2 hk3 hk4 hx hat hset
  generalize runF s.now s.queue s.runs (hl.take n) = q at hst hk1 hk2 hk3 hk4 hnd hpl hpq ⊢
  unfold runH at hst
  rw [hk4, Option.getD_some] at hst
  have hq1 := jobE_length q.1
  have hq2 := runE_length q.2
  have hne : intE x.nodes ≠ [] := fun e => by
   have := congrArg List.length e
   rw [intE_length] at this
   simp at this
   rw [this] at hx
   simp at hx
  have c4 := jobAt_e (l := q.1) (id := x.id) (by omega)
  rw [hk2] at c4
  repeat' (first|(refine awp_renr 10 62 63 rfl ?_)|refine zst ?_|(refine zhm fun hb=>?_;try exact zab)|refine zdr ?_|(apply zchE;exact zcg)|(apply zch;exact zcg)|refine HopS.mk fun w0 Z O=>?_|exact zhk|refine zg3 ?_ ?_|(apply op_id;first|(refine st_takeN rfl rfl rfl rfl hat rfl hne mapE_int (flatE_map fun _ => rfl) rfl rfl rfl rfl rfl rfl (fun e1 he1 => ?_))|(refine st_litE rfl rfl rfl ⟨rfl, rfl, rfl⟩ rfl rfl rfl rfl rfl rfl rfl rfl (flatE_map fun _ => rfl) rfl rfl rfl rfl rfl he1 rfl rfl ?_)|(refine st_appendE rfl rfl rfl rfl rfl rfl rfl rfl ⟨rfl, rfl, rfl⟩ (runE_length _) (rfl : _ = 1) (by omega) rfl rfl rfl ?_))|refine zln fun _=>?_|refine zop ?_|refine kc (c4) rfl rfl ?_|(refine kn [63] (delete_n hk1 (by omega)) rfl rfl (fun i hi => ?_);(try dsimp only at hi))|refine kq (c4) rfl rfl ?_|fail)
  refine ⟨n + 1, by omega, by omega, ?_⟩
  refine ⟨rfl, ?_, ?_, rfl⟩
  repeat'(first|apply And.intro|exact ze0|refine ze1 ?_|refine zei ?_ ?_|exact rfl|trivial)
  all_goals exact Stop.mk (by first | rfl | exact hset | (rw [hst, outJ_erase hnd hk1, hk3]; done) | (rw [hst]; exact runE_push _ ⟨nth q.1 k, _, _⟩))
 ·obtain rfl : n = hl.length := by omega
  rw [List.take_length] at *
  repeat' (first|refine zst ?_|(refine zhm fun hb=>?_;try exact zab)|refine zdr ?_|(apply zch;exact zcg)|refine HopS.mk fun w0 Z O=>?_|exact zhk|refine zg3 ?_ ?_|refine zln fun _=>?_|refine zop ?_|fail)
  exact zr [30, 1030, 2030, 63, 4030, 5030] zae zae
end Go.Proofs.YtliopiphobopjaaGreat
