/-
  The plan, and what starts by it; plain.
-/
import Derived.Test.YtliopiphobopjaaGreatKB15
import Derived.Test.YtliopiphobopjaaGreatKB14
import Derived.Test.YtliopiphobopjaaGreatKShL
import Derived.Test.YtliopiphobopjaaGreatKB11
import Derived.Test.YtliopiphobopjaaGreatKGaT
import Derived.Test.YtliopiphobopjaaGreatKB19
set_option maxRecDepth 100000
set_option maxHeartbeats 16000000
namespace Go.Proofs.YtliopiphobopjaaGreat
open Go Go.RowKit

structure HeldS where
 id : Int
 at' : Int
 nodes : List Int
instance : Inhabited HeldS := ⟨⟨0, 0, []⟩⟩
def heldD (h : HeldS) : List D := [.n .i64 h.id, .n .i64 h.at', .sl (intE h.nodes)]
def heldE (l : List HeldS) : List (List D) := l.map fun h => [.n .i64 h.id, .n .i64 h.at', .sl (intE h.nodes)]
theorem heldE_length (l : List HeldS) : (heldE l).length = l.length := by simp [heldE]
theorem heldE_push (l : List HeldS) (h : HeldS) : heldE l ++ [[.n .i64 h.id, .n .i64 h.at', .sl (intE h.nodes)]] = heldE (l ++ [h]) := by simp [heldE]
noncomputable def planS (now depth : Int) (q : Room × List HeldS × List HeldS) (j : Job) : Room × List HeldS × List HeldS :=
 match earO q.1 j now with
 | none => q
 | some x => if now < x.1 ∧ depth ≤ q.2.2.length then q else match resO q.1 j x.1 (x.1 + j.wall) x.2 with
  | none => q
  | some r' => if x.1 = now then (r', q.2.1 ++ [⟨j.id, x.1, x.2⟩], q.2.2) else (r', q.2.1, q.2.2 ++ [⟨j.id, x.1, x.2⟩])
noncomputable def planF (r : Room) (now depth : Int) (l : List Job) : Room × List HeldS × List HeldS := l.foldl (planS now depth) (r, [], [])
theorem planF_step {r : Room} {now depth : Int} {l : List Job} {i : Nat} (h : i < l.length) : planF r now depth (l.take (i + 1)) = planS now depth (planF r now depth (l.take i)) (nth l i) := by
 rw [take_snoc h, planF, List.foldl_append]
 rfl
structure PlanI (r : Room) (now : Int) (js : List Job) (q : Room × List HeldS × List HeldS) : Prop where
 room : RoomOk q.1
 topo : q.1.topo = r.topo ∧ q.1.up = r.up
 len : q.2.1.length + q.2.2.length ≤ js.length
 sub : (q.2.1.map HeldS.id).Sublist (js.map Job.id)
 st : ∀ h ∈ q.2.1, h.at' = now ∧ 1 ≤ h.nodes.length ∧ h.nodes.length ≤ 24
 lt : ∀ h ∈ q.2.2, 1 ≤ h.nodes.length ∧ h.nodes.length ≤ 24
theorem planI_step {r : Room} {now depth : Int} {js : List Job} {q : Room × List HeldS × List HeldS} {j : Job} (h : PlanI r now js q) : PlanI r now (js ++ [j]) (planS now depth q j) := by
 have same : PlanI r now (js ++ [j]) q := ⟨h.room, h.topo, by have := h.len; rw [List.length_append]; omega, by rw [List.map_append]; exact h.sub.trans (List.sublist_append_left _ _), h.st, h.lt⟩
 unfold planS
 split
 ·exact same
 ·rename_i x _
  split
  ·exact same
  ·split
   ·exact same
   ·rename_i r' hq
    obtain ⟨k1, k2, k3, k4, k5⟩ := resO_ok hq
    obtain ⟨k6, _⟩ := jobOk_in k5
    have hn : 1 ≤ x.2.length ∧ x.2.length ≤ 24 := by have := k4.num; omega
    have ht : r'.topo = r.topo ∧ r'.up = r.up := ⟨k2.trans h.topo.1, k3.trans h.topo.2⟩
    have hl := h.len
    split
    ·rename_i hx
     refine ⟨k1, ht, by simp; omega, ?_, fun y hy => ?_, h.lt⟩
     ·rw [List.map_append, List.map_append]
      exact h.sub.append (List.Sublist.refl _)
     ·rcases List.mem_append.1 hy with hy | hy
      ·exact h.st y hy
      ·obtain rfl := List.mem_singleton.1 hy
       exact ⟨hx, hn⟩
    ·refine ⟨k1, ht, by simp; omega, by rw [List.map_append]; exact h.sub.trans (List.sublist_append_left _ _), h.st, fun y hy => ?_⟩
     rcases List.mem_append.1 hy with hy | hy
     ·exact h.lt y hy
     ·obtain rfl := List.mem_singleton.1 hy
      exact hn
theorem planI {r : Room} {now depth : Int} {l : List Job} (h : RoomOk r) : ∀ (i : Nat), i ≤ l.length → PlanI r now (l.take i) (planF r now depth (l.take i))
 | 0, _ => ⟨h, ⟨rfl, rfl⟩, by simp [planF], by simp [planF], by simp [planF], by simp [planF]⟩
 | i + 1, hi => by
  rw [planF_step (by omega), take_snoc (by omega)]
  exact planI_step (planI h i (by omega))
/-! ### What starts -/
def runH (now : Int) (q : List Job × List Run) (h : HeldS) : List Job × List Run := (outJ q.1 h.id, q.2 ++ [⟨(findJ q.1 h.id).getD default, now, h.nodes⟩])
def runF (now : Int) (qs : List Job) (rs : List Run) (hs : List HeldS) : List Job × List Run := hs.foldl (runH now) (qs, rs)
theorem runF_step {now : Int} {qs : List Job} {rs : List Run} {hs : List HeldS} {i : Nat} (h : i < hs.length) : runF now qs rs (hs.take (i + 1)) = runH now (runF now qs rs (hs.take i)) (nth hs i) := by
 rw [take_snoc h, runF, List.foldl_append]
 rfl
theorem mem_outJ {l : List Job} {id : Int} {x : Job} : x ∈ outJ l id ↔ x ∈ l ∧ x.id ≠ id := by simp [outJ]
structure StrP (now : Int) (qs : List Job) (rs : List Run) (hs : List HeldS) (i : Nat) : Prop where
 mem : ∀ x, x ∈ (runF now qs rs (hs.take i)).1 ↔ x ∈ qs ∧ ∀ j, j < i → (nth hs j).id ≠ x.id
 sub : (runF now qs rs (hs.take i)).1.Sublist qs
 len : (runF now qs rs (hs.take i)).2.length = rs.length + i
 que : (runF now qs rs (hs.take i)).1.length + i ≤ qs.length
 new : ∀ y ∈ (runF now qs rs (hs.take i)).2, y ∈ rs ∨ ∃ h ∈ hs.take i, y.at' = now ∧ y.nodes = h.nodes ∧ y.job ∈ qs ∧ y.job.id = h.id
theorem findJ_some {l : List Job} {id : Int} {j : Job} (h : findJ l id = some j) : j ∈ l ∧ j.id = id :=
 ⟨List.mem_of_find?_eq_some h, by simpa using List.find?_some h⟩
theorem findJ_has {l : List Job} {id : Int} (h : id ∈ l.map Job.id) : ∃ j, findJ l id = some j := by
 obtain ⟨x, hx, e⟩ := List.mem_map.1 h
 cases hf : findJ l id with
 | some j => exact ⟨j, rfl⟩
 | none =>
  have := List.find?_eq_none.1 hf x hx
  simp [e] at this
theorem outJ_len {l : List Job} {id : Int} (h : id ∈ l.map Job.id) : (outJ l id).length + 1 ≤ l.length := by
 obtain ⟨x, hx, e⟩ := List.mem_map.1 h
 have := List.length_filter_lt_length_iff_exists (p := fun j : Job => !(j.id == id)) (l := l)
 have h2 := this.2 ⟨x, hx, by simp [e]⟩
 exact h2
theorem strP {now : Int} {qs : List Job} {rs : List Run} {hs : List HeldS} (hn : (hs.map HeldS.id).Nodup) (hsub : ∀ h ∈ hs, h.id ∈ qs.map Job.id) : ∀ (i : Nat), i ≤ hs.length → StrP now qs rs hs i ∧ (i < hs.length → (nth hs i).id ∈ (runF now qs rs (hs.take i)).1.map Job.id)
 | 0, _ => ⟨⟨by simp [runF], by simp [runF], by simp [runF], by simp [runF], by simp [runF]⟩, fun h => by
  simp only [List.take_zero, runF, List.foldl_nil]
  exact hsub _ (nth_mem h)⟩
 | i + 1, hi => by
  obtain ⟨h, hh⟩ := strP (now := now) (rs := rs) hn hsub i (by omega)
  have hin := hh (by omega)
  have hmem : ∀ x, x ∈ (runF now qs rs (hs.take (i + 1))).1 ↔ x ∈ qs ∧ ∀ j, j < i + 1 → (nth hs j).id ≠ x.id := fun x => by
   rw [runF_step (by omega)]
   show x ∈ outJ _ _ ↔ _
   rw [mem_outJ, h.mem]
   constructor
   ·rintro ⟨⟨h1, h2⟩, h3⟩
    refine ⟨h1, fun j hj => ?_⟩
    by_cases e : j = i
    ·subst e; exact fun e => h3 e.symm
    ·exact h2 j (by omega)
   ·rintro ⟨h1, h2⟩
    exact ⟨⟨h1, fun j hj => h2 j (by omega)⟩, fun e => h2 i (by omega) e.symm⟩
  refine ⟨⟨hmem, ?_, ?_, ?_, ?_⟩, fun hi' => ?_⟩
  ·rw [runF_step (by omega)]
   exact List.filter_sublist.trans h.sub
  ·rw [runF_step (by omega)]
   have := h.len
   simp only [runH, List.length_append, List.length_cons, List.length_nil]
   omega
  ·rw [runF_step (by omega)]
   have := outJ_len hin
   have := h.que
   simp only [runH]
   omega
  ·rw [runF_step (by omega)]
   intro y hy
   rcases List.mem_append.1 hy with hy | hy
   ·refine (h.new y hy).imp id fun ⟨x, hx, h2⟩ => ⟨x, ?_, h2⟩
    rw [take_snoc (by omega)]
    exact List.mem_append_left _ hx
   ·obtain rfl := List.mem_singleton.1 hy
    obtain ⟨j, hj⟩ := findJ_has hin
    obtain ⟨j1, j2⟩ := findJ_some hj
    refine .inr ⟨nth hs i, ?_, rfl, rfl, ?_, ?_⟩
    ·rw [take_snoc (by omega)]
     simp
    ·simp only [hj, Option.getD_some]
     exact ((h.mem j).1 j1).1
    ·simp only [hj, Option.getD_some]
     exact j2
  ·obtain ⟨x, hx, e⟩ := List.mem_map.1 (hsub _ (nth_mem hi'))
   refine List.mem_map.2 ⟨x, (hmem x).2 ⟨hx, fun j hj e2 => ?_⟩, e⟩
   have h1 : (hs.map HeldS.id)[j]'(by simp; omega) = (hs.map HeldS.id)[i + 1]'(by simpa using hi') := by
    simp only [List.getElem_map]
    rw [← nth_eq (by omega), ← nth_eq hi', e2, e]
   have := (List.getElem_inj (h₀ := by simp; omega) (h₁ := by simpa using hi') hn).1 h1
   omega
noncomputable def planO (s : State) : List HeldS × List HeldS := match roomOf s with
 | none => ([], [])
 | some r => (planF r s.now s.depth (ordJ s.queue)).2
noncomputable def startO (s : State) : State := { s with queue := (runF s.now s.queue s.runs (planO s).1).1, runs := (runF s.now s.queue s.runs (planO s).1).2 }
theorem planO_some {s : State} {r : Room} (h : roomOf s = some r) : planO s = (planF r s.now s.depth (ordJ s.queue)).2 := by unfold planO; rw [h]
theorem roomOf_room {s : State} {r : Room} (h : roomOf s = some r) : RoomOk r := by
 obtain ⟨h1, h2, h3, h4, h5⟩ := roomOf_ok h
 assumption
theorem planO_I {s : State} {r : Room} (h : roomOf s = some r) : PlanI r s.now (ordJ s.queue) (planF r s.now s.depth (ordJ s.queue)) := by
 have := planI (now := s.now) (depth := s.depth) (l := ordJ s.queue) (roomOf_room h) (ordJ s.queue).length (Nat.le_refl _)
 rwa [List.take_length] at this
end Go.Proofs.YtliopiphobopjaaGreat
namespace Go.Proofs.YtliopiphobopjaaGreat
open Go Go.RowKit
attribute [local irreducible] AWp OpsOk OpOk ACalls ChA QsOk MCalls NCalls EnC PY

theorem QueueP.ok {l : List Job} (h : QueueP l) : ∀ x ∈ l, jobOkB x = true := fun x hx => by
 obtain ⟨i, hi, rfl⟩ := mem_nth hx
 exact h.jobs i hi
theorem order_e {l : List Job} (hq : QueueP l) : DC Tryz.prog 200 [.d (.sl (jobE l))] [.d (.sl (jobE (ordJ l)))] := by
 refine mcalls_of tt Tryz.func200 rfl rfl rfl trivial (fun _ _ => ⟨trivial, trivial⟩) (fun w0 Z O => ?_)
 have hl := jobE_length l
 have hql := hq.len
 have c1 := sortJ_m (l := l) (dd := true) hq.ok hq.uni (by omega)
 repeat' (first|refine zsr ?_|(refine zhm fun hb=>?_;try exact zab)|refine zg2 ?_ ?_|refine zop ?_|(refine km [4] (c1) rfl rfl (fun i hi => ?_);(try dsimp only at hi))|fail)
 show AWp _ _ _ _
 refine awp_frz 4 rfl ?_
 refine awp_dena ?_
 apply awp_ret'
 exact zm () [] trivial zae zae zae
theorem order_s {l : List Job} (hq : QueueP l) : DC Tryz.prog 193 [.d (.sl (jobE l))] [.d (.sl (jobE (insL l)))] := by
 refine mcalls_of tt Tryz.func193 rfl rfl rfl trivial (fun _ _ => ⟨trivial, trivial⟩) (fun w0 Z O => ?_)
 have hle := jobE_length l
 have hql := hq.len
 have c0 := queueOk_s (l := l) (by omega)
 rw [show queueOkB l = true from pB_t.2 hq] at c0
 repeat' (first|refine zst ?_|(refine zhm fun hb=>?_;try exact zab)|refine zg2 ?_ ?_|refine zln fun _=>?_|refine zop ?_|refine kc (c0) rfl rfl ?_|fail)
 refine awp_frz 10 rfl ?_
 refine awp_loop (fun (i : Nat) => ⟨53, [(3, .d (.sl (jobE (insL (l.take i))))), (15, .d (.sl (jobE l))), (16, .d (.n .i64 (l.length : Nat))), (17, .d (.n .i64 i))], []⟩) (fun i => i ≤ l.length) (fun i => l.length - i) 0 (by exact Nat.zero_le _) ?_ ?_
 ·refine ⟨rfl, ?_, ?_, rfl⟩
  repeat'(first|apply And.intro|exact ze0|refine ze1 ?_|refine zei ?_ ?_|exact rfl|trivial)
  all_goals exact Stop.mk (by first | rfl | exact hle)
 intro i hi
 have hil : (insL (l.take i)).length = i := by rw [insL_len, List.length_take]; omega
 by_cases hi' : i < l.length
 ·have hst := insL_step hi'
  generalize insL (l.take i) = o at hil hst ⊢
  generalize hx : nth l i = x at hst
  have hol := jobE_length o
  repeat' (first|refine zst ?_|(refine zhm fun hb=>?_;try exact zab)|refine zg2 ?_ ?_|refine zln fun _=>?_|refine zop ?_|fail)
  rw [hx]
  refine awp_loop (fun (k : Nat) => ⟨53, [(5, .ptr 5 0), (6, .row 21), (7, .d (.b (insF' x (o.take k)).2)), (15, .d (.sl (jobE l))), (16, .d (.n .i64 (l.length : Nat))), (17, .d (.n .i64 i)), (22, .d (.sl (jobE o))), (23, .d (.n .i64 (o.length : Nat))), (24, .d (.n .i64 k))], [(5, .box 94 ((jobD x).map AV.d)), (21, .row 94 (jobE (insF' x (o.take k)).1) true)]⟩) (fun k => k ≤ o.length) (fun k => o.length - k) 0 (by exact Nat.zero_le _) ?_ ?_
  ·refine ⟨rfl, ?_, ?_, rfl⟩
   repeat'(first|apply And.intro|exact ze0|refine ze1 ?_|refine zei ?_ ?_|exact rfl|trivial)
   all_goals exact Stop.mk (by first | rfl | exact hol)
  intro k hk
  have hrl := insF'_len x (o.take k)
  rw [take_len hk] at hrl
  have hrl2 := jobE_length (insF' x (o.take k)).1
  by_cases hk' : k < o.length
  ·have hst2 := insF'_step (j := x) hk'
   unfold insS at hst2
   have c1 := l05Before_s (a := x) (b := nth o k)
   cases hd : (insF' x (o.take k)).2 with
   | true =>
    rw [hd, if_neg (by simp)] at hst2
    repeat' (first|refine zst ?_|(refine zhm fun hb=>?_;try exact zab)|refine zg2 ?_ ?_|refine zln fun _=>?_|refine zop ?_|fail)
    refine ⟨k + 1, by omega, by omega, ?_⟩
    refine ⟨rfl, ?_, ?_, rfl⟩
    repeat'(first|apply And.intro|exact ze0|refine ze1 ?_|refine zei ?_ ?_|exact rfl|trivial)
    all_goals exact Stop.mk (by first | rfl | (rw [hst2]; exact jobE_push _ _) | rw [hst2])
   | false =>
    cases hb0 : befB x (nth o k) with
    | true =>
     rw [hd, if_pos ⟨rfl, hb0⟩] at hst2
     rw [hb0] at c1
     have hl2 : (jobE (insF' x (o.take k)).1 ++ [jobD x]).length = (insF' x (o.take k)).1.length + 1 := by simp [jobE]
     repeat' (first|refine zst ?_|(refine zhm fun hb=>?_;try exact zab)|refine zg2 ?_ ?_|refine zln fun _=>?_|refine zop ?_|refine kc (c1) rfl rfl ?_|fail)
     refine ⟨k + 1, by omega, by omega, ?_⟩
     refine ⟨rfl, ?_, ?_, rfl⟩
     repeat'(first|apply And.intro|exact ze0|refine ze1 ?_|refine zei ?_ ?_|exact rfl|trivial)
     all_goals exact Stop.mk (by first | rfl | (rw [hst2]; simp [jobE]; done) | rw [hst2])
    | false =>
     rw [hd, if_neg (fun h => by rw [hb0] at h; cases h.2)] at hst2
     rw [hb0] at c1
     repeat' (first|refine zst ?_|(refine zhm fun hb=>?_;try exact zab)|refine zg2 ?_ ?_|refine zln fun _=>?_|refine zop ?_|refine kc (c1) rfl rfl ?_|fail)
     refine ⟨k + 1, by omega, by omega, ?_⟩
     refine ⟨rfl, ?_, ?_, rfl⟩
     repeat'(first|apply And.intro|exact ze0|refine ze1 ?_|refine zei ?_ ?_|exact rfl|trivial)
     all_goals exact Stop.mk (by first | rfl | (rw [hst2]; exact jobE_push _ _) | rw [hst2])
  ·obtain rfl : k = o.length := by omega
   rw [List.take_length] at *
   have he := insF'_eq (j := x) (l := o)
   cases hd : (insF' x o).2 with
   | true =>
    rw [hd, if_pos rfl] at he
    repeat' (first|(refine awp_frzr 19 21 rfl ?_)|refine zst ?_|(refine zhm fun hb=>?_;try exact zab)|refine zg2 ?_ ?_|refine zln fun _=>?_|refine zop ?_|fail)
    refine ⟨i + 1, by omega, by omega, ?_⟩
    refine ⟨rfl, ?_, ?_, rfl⟩
    repeat'(first|apply And.intro|exact ze0|refine ze1 ?_|refine zei ?_ ?_|exact rfl|trivial)
    all_goals exact Stop.mk (by first | rfl | rw [hst, he])
   | false =>
    rw [hd, if_neg (by simp)] at he
    repeat' (first|(refine awp_frzr 19 21 rfl ?_)|refine zst ?_|(refine zhm fun hb=>?_;try exact zab)|refine zg2 ?_ ?_|refine zln fun _=>?_|refine zop ?_|fail)
    refine ⟨i + 1, by omega, by omega, ?_⟩
    refine ⟨rfl, ?_, ?_, rfl⟩
    repeat'(first|apply And.intro|exact ze0|refine ze1 ?_|refine zei ?_ ?_|exact rfl|trivial)
    all_goals exact Stop.mk (by first | rfl | (rw [hst, ← he]; exact jobE_push _ _))
 ·obtain rfl : i = l.length := by omega
  rw [List.take_length] at *
  repeat' (first|refine zsr ?_|(refine zhm fun hb=>?_;try exact zab)|refine zg2 ?_ ?_|refine zln fun _=>?_|refine zop ?_|fail)
  show AWp _ _ _ _
  refine awp_dena ?_
  apply awp_ret'
  exact zm () [] trivial zae zae zae
theorem l05Find_s {l : List Job} {id : Int} (hl : l.length ≤ 1000000000) : ACalls Tryz.prog 138 [.d (.sl (jobE l)), .d (.n .i64 id)] [jobA ((findJ l id).getD default), .d (.b (findJ l id).isSome)] [] := by
 refine acalls_of tt Tryz.func138 rfl rfl rfl (fun w0 Z => ?_)
 have hle := jobE_length l
 repeat' (first|refine zst ?_|(refine zhm fun hb=>?_;try exact zab)|refine zg2 ?_ ?_|refine zln fun _=>?_|refine zop ?_|fail)
 refine awp_loop (fun (i : Nat) => ⟨21, [(1, .d (.n .i64 id)), (4, .ptr 4 0), (8, .d (.sl (jobE l))), (9, .d (.n .i64 (l.length : Nat))), (10, .d (.n .i64 i))], [(4, .box 94 ((jobD default).map AV.d))]⟩) (fun i => i ≤ l.length ∧ ∀ j, j < i → (nth l j).id ≠ id) (fun i => l.length - i) 0 (by exact ⟨Nat.zero_le _, fun j hj => absurd hj (Nat.not_lt_zero _)⟩) ?_ ?_
 ·refine ⟨rfl, ?_, ?_, rfl⟩
  repeat'(first|apply And.intro|exact ze0|refine ze1 ?_|refine zei ?_ ?_|exact rfl|trivial)
  all_goals exact Stop.mk (by first | rfl | exact hle)
 rintro i ⟨hi, hp⟩
 by_cases hi' : i < l.length
 ·repeat' (first|refine zst ?_|(refine zhm fun hb=>?_;try exact zab)|refine zg2 ?_ ?_|refine zln fun _=>?_|refine zop ?_|fail)
  ·rw [findJ_at hi' (by assumption) hp]
   exact zr [] zae zae
  ·refine ⟨i + 1, ⟨by omega, fun j hj => ?_⟩, by omega, ?_⟩
   ·by_cases e : j = i
    ·subst e; assumption
    ·exact hp j (by omega)
   exact ⟨rfl, zae, zae, rfl⟩
 ·rw [findJ_no fun j hj => hp j (by omega)]
  repeat' (first|refine zst ?_|(refine zhm fun hb=>?_;try exact zab)|refine zg2 ?_ ?_|refine zln fun _=>?_|refine zop ?_|fail)
  exact zr [] zae zae
theorem outJ_step {l : List Job} {id : Int} {i : Nat} (h : i < l.length) : outJ (l.take (i + 1)) id = if (nth l i).id = id then outJ (l.take i) id else outJ (l.take i) id ++ [nth l i] := by
 rw [take_snoc h, outJ, List.filter_append]
 split
 ·rename_i e; simp [outJ, e]
 ·rename_i e; simp [outJ, e]
theorem outJ_le (l : List Job) (id : Int) : (outJ l id).length ≤ l.length := List.length_filter_le _ _
theorem l06Out_s {l : List Job} {id : Int} (hl : l.length ≤ 1000000000) : DC Tryz.prog 149 [.d (.sl (jobE l)), .d (.n .i64 id)] [.d (.sl (jobE (outJ l id)))] := by
 refine mcalls_of tt Tryz.func149 rfl rfl rfl trivial (fun _ _ => ⟨trivial, trivial⟩) (fun w0 Z O => ?_)
 have hle := jobE_length l
 repeat' (first|refine zst ?_|(refine zhm fun hb=>?_;try exact zab)|refine zg2 ?_ ?_|refine zln fun _=>?_|refine zop ?_|fail)
 refine awp_loop (fun (i : Nat) => ⟨25, [(1, .d (.n .i64 id)), (5, .row 8), (9, .d (.sl (jobE l))), (10, .d (.n .i64 (l.length : Nat))), (11, .d (.n .i64 i))], [(8, .row 94 (jobE (outJ (l.take i) id)) true)]⟩) (fun i => i ≤ l.length) (fun i => l.length - i) 0 (by exact Nat.zero_le _) ?_ ?_
 ·refine ⟨rfl, ?_, ?_, rfl⟩
  repeat'(first|apply And.intro|exact ze0|refine ze1 ?_|refine zei ?_ ?_|exact rfl|trivial)
  all_goals exact Stop.mk (by first | rfl | exact hle)
 intro i hi
 have hol := outJ_le (l.take i) id
 rw [take_len hi] at hol
 have hol2 := jobE_length (outJ (l.take i) id)
 by_cases hi' : i < l.length
 ·have hst := outJ_step (id := id) hi'
  by_cases he : (nth l i).id = id
  ·rw [if_pos he] at hst
   repeat' (first|refine zst ?_|(refine zhm fun hb=>?_;try exact zab)|refine zg2 ?_ ?_|refine zln fun _=>?_|refine zop ?_|fail)
   refine ⟨i + 1, by omega, by omega, ?_⟩
   refine ⟨rfl, ?_, ?_, rfl⟩
   repeat'(first|apply And.intro|exact ze0|refine ze1 ?_|refine zei ?_ ?_|exact rfl|trivial)
   all_goals exact Stop.mk (by first | rfl | rw [hst])
  ·rw [if_neg he] at hst
   repeat' (first|refine zst ?_|(refine zhm fun hb=>?_;try exact zab)|refine zg2 ?_ ?_|refine zln fun _=>?_|refine zop ?_|fail)
   refine ⟨i + 1, by omega, by omega, ?_⟩
   refine ⟨rfl, ?_, ?_, rfl⟩
   repeat'(first|apply And.intro|exact ze0|refine ze1 ?_|refine zei ?_ ?_|exact rfl|trivial)
   all_goals exact Stop.mk (by first | rfl | (rw [hst]; exact jobE_push _ _))
 ·obtain rfl : i = l.length := by omega
  rw [List.take_length] at *
  repeat' (first|refine zsr ?_|(refine zhm fun hb=>?_;try exact zab)|refine zg2 ?_ ?_|refine zln fun _=>?_|refine zop ?_|fail)
  show AWp _ _ _ _
  refine awp_frz 8 rfl ?_
  refine awp_dena ?_
  apply awp_ret'
  exact zm () [] trivial zae zae zae
theorem jobClo_e {id : Int} {k : Job} : ACalls Tryz.prog 208 [jobA k, .pd [.n .i64 id] 0] [.d (.b (k.id == id))] [] := by
 refine acalls_of tt Tryz.func208 rfl rfl rfl (fun w0 Z => ?_)
 repeat' (first|refine zsc ?_|(refine Hb.mk (fun hb => ?_);(first|rw [decide_eq_true_eq] at hb|rw [decide_eq_false_iff_not] at hb|skip);(first|(exfalso;omega)|(exact absurd rfl hb)|skip))|refine zg2 ?_ ?_|refine zop ?_|fail)
 exact zr [] zae zae
theorem jobAt_e {l : List Job} {id : Int} (hl : l.length ≤ 1000000000) : ACalls Tryz.prog 142 [.d (.sl (jobE l)), .d (.n .i64 id)] [.d (.n .i64 (idxF l fun j => j.id == id))] [] := by
 refine acalls_of tt Tryz.func142 rfl rfl rfl (fun w0 Z => ?_)
 repeat' (first|refine zst ?_|(refine zhm fun hb=>?_;try exact zab)|refine zg2 ?_ ?_|refine zop ?_|refine kc (indexFunc_j (l := l) (p := fun j => j.id == id) (g := 208) (ds := [.n .i64 id]) hl (fun j => jobClo_e)) rfl rfl ?_|fail)
 exact zr [] zae zae
end Go.Proofs.YtliopiphobopjaaGreat
namespace Go.Proofs.YtliopiphobopjaaGreat
open Go Go.RowKit
attribute [local irreducible] AWp OpsOk OpOk ACalls ChA QsOk MCalls NCalls EnC PY

theorem moved_h {r : Room} {j : Job} {a b : Int} {l : List Int} (hr : RoomOk r) (hl : l.length ≤ 1000000000) : MCalls Tryz.prog 197 [roomA r, jobA j, .d (.n .i64 a), .d (.n .i64 b), .row 1000000, .clo 198 []] [(1000000, .row 3 (intE l) true)] (fun _ : Unit => True) (fun _ => resRoom (resO r j a b l)) (fun _ => [(1000000, .row 3 (intE l) true)]) (fun _ => []) := by
 refine mcalls_of tt Tryz.func197 rfl rfl rfl ⟨.inl rfl, trivial⟩ (fun _ _ => ⟨⟨⟨rfl, rfl, rfl⟩, trivial⟩, .inl rfl, trivial⟩) (fun w0 Z O => ?_)
 have hs := hr.small
 have c1 := roomOk_e hr
 have c2 := jobOk_e (j := j)
 have c3 := areJobNodes_e (j := j) hr.topo hl
 cases h2 : jobOkB j with
 | false =>
  rw [h2] at c2
  rw [resO_f1 h2]
  repeat' (first|refine zsr ?_|(refine zhm fun hb=>?_;try exact zab)|refine zdr ?_|(apply zch;exact zcg)|refine HopS.mk fun w0 Z O=>?_|exact zhk|refine zg3 ?_ ?_|refine zln fun _=>?_|refine zop ?_|refine kc (c1) rfl rfl ?_|refine kc (c2) rfl rfl ?_|refine kq (c1) rfl rfl ?_|refine kq (c2) rfl rfl ?_|fail)
  show AWp _ _ _ _
  refine awp_dena ?_
  apply awp_ret'
  exact zm () [] trivial zae zae zae
 | true =>
  rw [h2] at c2
  cases h3 : diffB r.topo j l with
  | false =>
   rw [h3] at c3
   rw [resO_f2 h3]
   repeat' (first|refine zsr ?_|(refine zhm fun hb=>?_;try exact zab)|refine zdr ?_|(apply zch;exact zcg)|refine HopS.mk fun w0 Z O=>?_|exact zhk|refine zg3 ?_ ?_|refine zln fun _=>?_|refine zop ?_|refine kc (c1) rfl rfl ?_|refine kc (c2) rfl rfl ?_|refine kc (c3) rfl rfl ?_|refine kq (c1) rfl rfl ?_|refine kq (c2) rfl rfl ?_|refine kq (c3) rfl rfl ?_|fail)
   show AWp _ _ _ _
   refine awp_dena ?_
   apply awp_ret'
   exact zm () [] trivial zae zae zae
  | true =>
   rw [h3] at c3
   rw [resO_t hr h2 h3]
   have hd := pB_t.1 h3
   have hjn : 1 ≤ j.nodes := by
    simp only [jobOkB, Bool.and_eq_true, inB_t] at h2
    omega
   have hnum := hd.num
   have hin0 := hd.nodes 0 (by omega)
   have hpn := hr.num
   have hil := intE_length l
   repeat' (first|refine zst ?_|(refine zhm fun hb=>?_;try exact zab)|refine zdr ?_|(apply zch;exact zcg)|refine HopS.mk fun w0 Z O=>?_|exact zhk|refine zg3 ?_ ?_|refine zln fun _=>?_|refine zop ?_|refine kc (c1) rfl rfl ?_|refine kc (c2) rfl rfl ?_|refine kc (c3) rfl rfl ?_|(refine km [] (copyRoom_e hr (by omega)) rfl rfl (fun i hi => ?_);(try dsimp only at hi))|refine kq (c1) rfl rfl ?_|refine kq (c2) rfl rfl ?_|refine kq (c3) rfl rfl ?_|fail)
   refine awp_loop (fun (k : Nat × List (List Pt)) => ⟨86, [(2, .d (.n .i64 a)), (3, .d (.n .i64 b)), (5, .clo 198 []), (7, .ptr 7 0), (12, .ptr 12 0), (14, .ptr 14 0), (40, .row 1000000), (41, .d (.n .i64 (l.length : Nat))), (42, .d (.n .i64 k.1))], [(1000000, .row 3 (intE l) true), (7, .box 94 ((jobD j).map AV.d)), (12, .box 152 [.nil, .nil, .nil, .nil, .nil]), (14, .box 152 [.d (.sl (intE r.topo.parents)), .d (.sl (nodeE r.topo.nodes)), .d (.sl (boolE r.up)), .row 39, .d (.sl (ptE r.lics))]), (39, .row 150 (profsE k.2) false)]⟩) (fun k => TakP r a b j.need l k.1 k.2) (fun k => l.length - k.1) (0, r.profs) (by exact ⟨Nat.zero_le _, rfl, hr.profs, rfl⟩) ?_ ?_
   ·refine ⟨rfl, ?_, ?_, rfl⟩
    repeat'(first|apply And.intro|exact ze0|refine ze1 ?_|refine zei ?_ ?_|exact rfl|trivial)
    all_goals exact Stop.mk (by first | rfl | exact intE_length _)
   ·rintro ⟨n, ps⟩ ht
    dsimp only at ht ⊢
    have hle := ht.le
    have hlen := ht.len
    have hpl := profsE_length ps
    by_cases hn' : n < l.length
    ·have hin := hd.nodes n hn'
     have hok := ht.ok (nth l n).toNat (by omega)
     have hokl := hok.len
     have c4 := profTake_e (l := nth ps (nth l n).toNat) (a := a) (b := b) (v := j.need) (by omega)
     cases hq : takeP (nth ps (nth l n).toNat) a b j.need with
     | none =>
      rw [hq] at c4
      rw [takP_none ht hn' hq]
      repeat' (first|refine zsr ?_|(refine zhm fun hb=>?_;try exact zab)|refine zdr ?_|(apply zch;exact zcg)|refine HopS.mk fun w0 Z O=>?_|exact zhk|refine zg3 ?_ ?_|refine zln fun _=>?_|refine zop ?_|(refine kw [] (c4) rfl rfl rfl rfl rfl (fun i hi => ?_);(try dsimp only at hi))|fail)
      show AWp _ _ _ _
      refine awp_dena ?_
      apply awp_ret'
      exact zm () [] trivial zae zae zae
     | some q =>
      rw [hq] at c4
      have hst := takP_some ht hn' (by omega) hq
      repeat' (first|refine zsr ?_|(refine zhm fun hb=>?_;try exact zab)|refine zdr ?_|(apply zch;exact zcg)|refine HopS.mk fun w0 Z O=>?_|exact zhk|refine zg3 ?_ ?_|refine zln fun _=>?_|refine zop ?_|(refine kw [] (c4) rfl rfl rfl rfl rfl (fun i hi => ?_);(try dsimp only at hi))|fail)
      refine ⟨(n + 1, ps.set (nth l n).toNat q), hst, by dsimp only; omega, ?_⟩
      refine ⟨rfl, ?_, ?_, rfl⟩
      repeat'(first|apply And.intro|exact ze0|refine ze1 ?_|refine zei ?_ ?_|exact rfl|trivial)
      all_goals exact Stop.mk (by first | rfl | exact profsE_set _ _ _)
    ·rw [takP_end ht hn']
     have hll := hr.lics.len
     have c4 := profTake_e (l := r.lics) (a := a) (b := b) (v := j.lic) (by omega)
     cases hq : takeP r.lics a b j.lic with
     | none =>
      rw [hq] at c4
      repeat' (first|refine zsr ?_|(refine zhm fun hb=>?_;try exact zab)|refine zdr ?_|(apply zch;exact zcg)|refine HopS.mk fun w0 Z O=>?_|exact zhk|refine zg3 ?_ ?_|refine zln fun _=>?_|refine zop ?_|(refine kw [] (c4) rfl rfl rfl rfl rfl (fun i hi => ?_);(try dsimp only at hi))|fail)
      show AWp _ _ _ _
      refine awp_dena ?_
      apply awp_ret'
      exact zm () [] trivial zae zae zae
     | some q =>
      rw [hq] at c4
      repeat' (first|refine zsr ?_|(refine zhm fun hb=>?_;try exact zab)|refine zdr ?_|(apply zch;exact zcg)|refine HopS.mk fun w0 Z O=>?_|exact zhk|refine zg3 ?_ ?_|refine zln fun _=>?_|refine zop ?_|(refine kw [] (c4) rfl rfl rfl rfl rfl (fun i hi => ?_);(try dsimp only at hi))|fail)
      show AWp _ _ _ _
      refine awp_frz 39 rfl ?_
      refine awp_dena ?_
      apply awp_ret'
      exact zm () [] trivial zae zae zae
theorem reserve_h {r : Room} {j : Job} {a : Int} {l : List Int} (hr : RoomOk r) (hj : jobOkB j = true) (hl : l.length ≤ 1000000000) (ha : 0 ≤ a ∧ a ≤ 1000000000) : MCalls Tryz.prog 201 [roomA r, jobA j, .d (.n .i64 a), .row 1000000] [(1000000, .row 3 (intE l) true)] (fun _ : Unit => True) (fun _ => resRoom (resO r j a (a + j.wall) l)) (fun _ => [(1000000, .row 3 (intE l) true)]) (fun _ => []) := by
 refine mcalls_of tt Tryz.func201 rfl rfl rfl ⟨.inl rfl, trivial⟩ (fun _ _ => ⟨⟨⟨rfl, rfl, rfl⟩, trivial⟩, .inl rfl, trivial⟩) (fun w0 Z O => ?_)
 obtain ⟨_, j2⟩ := jobOk_in hj
 have c2 := isTime_c2 (x := a)
 rw [show inB a 0 1000000000 = true from inB_t.mpr ha] at c2
 repeat' (first|refine zsr ?_|(refine zhm fun hb=>?_;try exact zab)|refine zg2 ?_ ?_|refine zon ?_|refine kc (c2) rfl rfl ?_|(refine km [1000000] (moved_h (j := j) (a := a) (b := a + j.wall) hr hl) rfl rfl (fun i hi => ?_);(try dsimp only at hi))|fail)
 show AWp _ _ _ _
 refine awp_dena ?_
 apply awp_ret'
 exact zm () [] trivial zae zae zae
end Go.Proofs.YtliopiphobopjaaGreat
