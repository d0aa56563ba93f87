/-
  The library's sort by a function, at jobs: the order of the queue.
-/
import Derived.Test.YtliopiphobopjaaGreatKB12
import Derived.Test.YtliopiphobopjaaGreatKB11
import Derived.Test.YtliopiphobopjaaGreatKB19
set_option maxRecDepth 100000
set_option maxHeartbeats 16000000
namespace Go.Proofs.YtliopiphobopjaaGreat
open Go Go.RowKit Go.Sort Go.Shelf

def cfJ (x y : Job) : Int := if x.prio ≠ y.prio then y.prio - x.prio else x.id - y.id
@[reducible] def jobV (j : Job) : List Value := [.int .i64 j.id, .int .i64 j.prio, .int .i64 j.nodes, .int .i64 j.need.a, .int .i64 j.need.b, .int .i64 j.need.c, .int .i64 j.lic.a, .int .i64 j.lic.b, .int .i64 j.lic.c, .int .i64 j.wall, .int .i64 j.level]
theorem order1_calls {x y : Job} (W : World) (hx : (1 ≤ x.id ∧ x.id ≤ 999) ∧ 0 ≤ x.prio ∧ x.prio ≤ 999) (hy : (1 ≤ y.id ∧ y.id ≤ 999) ∧ 0 ≤ y.prio ∧ y.prio ≤ 999) :
  Calls Tryz.prog 247 #[.agg (jobV x).toArray, .agg (jobV y).toArray] W fun e w' => e = .returned (.int .i64 (cfJ x y)) ∧ ∃ q os', w' = grow (W.drewN q) os' := by
 obtain ⟨⟨x1, x2⟩, x3, x4⟩ := hx
 obtain ⟨⟨y1, y2⟩, y3, y4⟩ := hy
 unfold cfJ
 by_cases hp : x.prio = y.prio
 ·rw [if_neg (fun h => h hp)]
  go_enter Tryz.func247, Tryz.ntmps247
  go_wp2
  go_ret
  exact ⟨rfl, 0, _, by rw [alloc_eq_grow, alloc_eq_grow, grow_grow]; rfl⟩
 ·rw [if_pos hp]
  go_enter Tryz.func247, Tryz.ntmps247
  go_wp2
  go_ret
  exact ⟨rfl, 0, _, by rw [alloc_eq_grow, alloc_eq_grow, grow_grow]; rfl⟩
/-! ### Rows of structs, flat -/
theorem flatMap_get {α β : Type} {enc : α → List β} {k : Nat} (hk : ∀ x, (enc x).length = k) (hk0 : 0 < k) : ∀ (d : List α) (t : Nat), (d.flatMap enc)[t]? = (d[t / k]?).bind fun x => (enc x)[t % k]?
 | [], t => by simp
 | x :: d, t => by
  rw [List.flatMap_cons]
  by_cases h : t < k
  ·rw [List.getElem?_append_left (by rw [hk]; exact h), Nat.div_eq_of_lt h, Nat.mod_eq_of_lt h]
   rfl
  ·rw [List.getElem?_append_right (by rw [hk]; omega), hk, flatMap_get hk hk0 d (t - k)]
   have e1 : t / k = (t - k) / k + 1 := by rw [Nat.div_eq_sub_div hk0 (by omega)]
   have e2 : t % k = (t - k) % k := Nat.mod_eq_sub_mod (by omega)
   rw [e1, e2]
   rfl
theorem flatMap_len {α β : Type} {enc : α → List β} {k : Nat} (hk : ∀ x, (enc x).length = k) : ∀ (d : List α), (d.flatMap enc).length = d.length * k
 | [] => by simp
 | x :: d => by rw [List.flatMap_cons, List.length_append, hk, flatMap_len hk d, List.length_cons, Nat.add_mul]; omega
theorem flatK_list {α : Type} [Inhabited α] {enc : α → List Value} {k : Nat} (hk : ∀ x, (enc x).length = k) (hk0 : 0 < k) (d : List α) : flatK enc k d.toArray = (d.flatMap enc).toArray := by
 apply Array.ext'
 refine List.ext_getElem? fun t => ?_
 have hg := flatMap_get hk hk0 d t
 have hl := flatMap_len hk d
 by_cases h : t < d.length * k
 ·have h1 : t / k < d.length := Nat.div_lt_of_lt_mul (by rw [Nat.mul_comm]; exact h)
  have h2 : t % k < (enc d[t / k]).length := by rw [hk]; exact Nat.mod_lt _ hk0
  rw [List.toList_toArray, hg, List.getElem?_eq_getElem h1, Option.bind_some, List.getElem?_eq_getElem h2]
  simp only [flatK, Array.toList_map, List.getElem?_map, Array.getElem?_toList, List.size_toArray]
  rw [Array.getElem?_eq_getElem (by simpa using h)]
  simp [h1, h2]
 ·rw [List.getElem?_eq_none (show (flatK enc k d.toArray).toList.length ≤ t by rw [Array.length_toList, size_flatK]; simpa using Nat.le_of_not_lt h), List.toList_toArray, List.getElem?_eq_none (by omega)]
theorem repL_ints {w : World} : ∀ {xs : List Int} {us : List Value} {F : List Nat}, repL w (xs.map (D.n .i64)) us F → us = xs.map (Value.int .i64)
 | [], _, _, h => h.1
 | x :: xs, us, F, h => by
  obtain ⟨u, us', F1, F2, rfl, _, h1, h2⟩ := h
  obtain ⟨rfl, _⟩ := h1
  rw [repL_ints h2]
  rfl
theorem repL_ints' (w : World) : ∀ (xs : List Int), repL w (xs.map (D.n .i64)) (xs.map (Value.int .i64)) []
 | [] => ⟨rfl, rfl⟩
 | _ :: xs => ⟨_, _, [], [], rfl, rfl, ⟨rfl, rfl⟩, repL_ints' w xs⟩
def jobI (j : Job) : List Int := [j.id, j.prio, j.nodes, j.need.a, j.need.b, j.need.c, j.lic.a, j.lic.b, j.lic.c, j.wall, j.level]
theorem rep_jobs {w : World} : ∀ {l : List Job} {us : List Value} {F : List Nat}, repE w (jobE l) us F → us = l.flatMap jobV
 | [], _, _, h => h.1
 | x :: l, us, F, h => by
  obtain ⟨u1, u2, F1, F2, rfl, _, h1, h2⟩ := h
  rw [rep_jobs h2, show u1 = jobV x from repL_ints (xs := jobI x) h1]
  rfl
theorem repE_jobs (w : World) : ∀ (l : List Job), repE w (jobE l) (l.flatMap jobV) []
 | [] => ⟨rfl, rfl⟩
 | x :: l => ⟨jobV x, l.flatMap jobV, [], [], rfl, rfl, repL_ints' w (jobI x), repE_jobs w l⟩
theorem holds_of_blockG {w : World} {g n : Nat} {cur : Array Value} {e : TypeId} {vs : List Value} (hb : w.heap[g]? = some (.cells cur e (0, 0))) (hn : n = vs.length) (ht : cur.toList.take n = vs) : Holds id w g 0 vs.toArray := by
 intro j hj
 have hj' : j < vs.length := by simpa using hj
 refine ⟨?_, by simp [World.frozen?, hb]⟩
 have h1 : (cur.toList.take n)[j]? = vs[j]? := by rw [ht]
 rw [List.getElem?_take_of_lt (by omega)] at h1
 simp only [World.cell?, hb, Nat.zero_add]
 simp only [Option.isSome_none, Bool.false_eq_true, if_false]
 rw [← Array.getElem?_toList, h1]
 simp [hj']
theorem heap_sortedG {w : World} {g n : Nat} {os : Array Obj} {cur : Array Value} {e : TypeId} {fr : Nat × Nat} (d : Array Value) (hb : w.heap[g]? = some (.cells cur e fr)) :
  (grow (putRow id (Sort.ahead w n) g 0 d) os).heap[g]? = some (.cells (putCells id 0 d cur) e fr) := by
 have hg : g < w.heap.size := (Array.getElem?_eq_some_iff.1 hb).1
 rw [heap_grow_old _ _ (by simpa using hg)]
 simp [putRow, mapBlock, Sort.ahead, Array.getElem?_modify, hb, onCells]
theorem grownBy_sortedG {w : World} {g n : Nat} {os : Array Obj} (d : Array Value) : w.grownBy (grow (putRow id (Sort.ahead w n) g 0 d) os) (some g) := by
 refine ⟨rfl, rfl, rfl, by simp, fun k hk hne => ?_⟩
 rw [heap_grow_old _ _ (by simpa using hk)]
 have : g ≠ k := fun e => hne (by rw [e])
 simp [putRow, mapBlock, Sort.ahead, Array.getElem?_modify, this]
theorem take_putCellsG (cur : Array Value) (ts : List Value) (h : ts.length ≤ cur.size) : (putCells id 0 ts.toArray cur).toList.take ts.length = ts := by
 apply List.ext_getElem?
 intro j
 by_cases hj : j < ts.length
 ·rw [List.getElem?_take_of_lt hj, Array.getElem?_toList]
  simp [putCells, hj, show j < cur.size by omega]
 ·rw [List.getElem?_take_eq_none (by omega), List.getElem?_eq_none (by omega)]
/-! ### The order -/
theorem cfJ_lt (x y : Job) : cfJ x y < 0 ↔ y.prio < x.prio ∨ x.prio = y.prio ∧ x.id < y.id := by
 unfold cfJ
 split <;> omega
theorem cfJ_swo {α : Type} (f : α → Job) : SWO (ltOf fun x y : α => cfJ (f x) (f y)) where
 irrefl x := decide_eq_false fun h => by have := (cfJ_lt _ _).1 h; omega
 trans x y z h1 h2 := decide_eq_true ((cfJ_lt _ _).2 (by
  have h1 := (cfJ_lt _ _).1 (of_decide_eq_true h1)
  have h2 := (cfJ_lt _ _).1 (of_decide_eq_true h2)
  omega))
 ntrans x y z h1 h2 := decide_eq_false fun h => by
  have h := (cfJ_lt _ _).1 h
  have h1 : ¬ _ := fun e => of_decide_eq_false h1 ((cfJ_lt _ _).2 e)
  have h2 : ¬ _ := fun e => of_decide_eq_false h2 ((cfJ_lt _ _).2 e)
  omega
def ordJ (l : List Job) : List Job := l.mergeSort fun x y => !decide (cfJ y x < 0)
theorem ordJ_length (l : List Job) : (ordJ l).length = l.length := List.length_mergeSort l
theorem mem_ordJ {l : List Job} {x : Job} : x ∈ ordJ l ↔ x ∈ l := (List.mergeSort_perm l _).mem_iff
theorem sortJ_m {l : List Job} {dd : Bool} (hl : ∀ x ∈ l, jobOkB x = true) (hd : ∀ x ∈ l, ∀ y ∈ l, x.id = y.id → x = y) (hll : l.length ≤ 1000000) :
  MCalls Tryz.prog 246 [.row 1000000, .clo 247 []] [(1000000, .row 94 (jobE l) dd)] (fun _ : Unit => True) (fun _ => []) (fun _ => [(1000000, .row 94 (jobE (ordJ l)) dd)]) (fun _ => []) := by
 refine mcalls_rowx (z := 11) ti94.sized (flatE_map fun _ => rfl) (flatE_map fun _ => rfl) (lens_map (f := jobD) (z := 11) (fun _ => rfl) (ordJ_length l)) (fun us w' => Go.MuLone.run_callFunc_enter Tryz.func246 rfl rfl us w') ?_
 intro w v us us2 en S ho hr hsh hS
 have hus := rep_jobs hr
 subst hus
 have hjl : (jobE l).length = l.length := List.length_map _
 rw [hjl] at ho ⊢
 obtain ⟨fv, us3, rfl, hf, h3⟩ := hsh
 have h3' : us3 = [] := h3
 subst h3'
 obtain ⟨cbs, rfl, hcb⟩ := hf
 have hcb' : cbs = [] := hcb
 subst hcb'
 rcases l with _ | ⟨x0, l'⟩
 ·have e0 : ordJ [] = [] := List.eq_nil_of_length_eq_zero (ordJ_length [])
  rw [e0]
  obtain ⟨p, cap, rfl⟩ : ∃ p cap, v = .slice p 0 cap := by
   rcases ho.2 with ⟨hv, _⟩ | ⟨g, cap, cur, hv, _⟩
   ·exact ⟨none, 0, hv⟩
   ·exact ⟨_, cap, hv⟩
  have hcon := AnyF.slices_SortFunc_none Tryz.sortJ p cap (.func (.func 247) #[] #[]) w
  change Calls Tryz.prog 246 _ _ _ at hcon
  refine hcon.mono fun e w' ⟨he, hw⟩ => ?_
  subst hw
  exact ⟨he, grown_refl _ _, [], ho, rfl, rfl⟩
 rcases ho.2 with ⟨hv, hn⟩ | ⟨g, cap, cur, hv, hbg, hg, hnc, hcm, hcs, htake⟩
 ·simp at hn
 subst hv
 have hgl := (Array.getElem?_eq_some_iff.1 hg).1
 haveI : Inhabited { x : Job // x ∈ x0 :: l' } := ⟨⟨x0, List.mem_cons_self⟩⟩
 have hat : (x0 :: l').attach.map Subtype.val = x0 :: l' := List.attach_map_subtype_val _
 generalize (x0 :: l').attach = d at hat
 have hdl : d.toArray.size = (x0 :: l').length := by have h := congrArg List.length hat; rw [List.length_map] at h; rw [List.size_toArray]; exact h
 have hfl : ∀ q : List { x : Job // x ∈ x0 :: l' }, flatK (fun x : { x : Job // x ∈ x0 :: l' } => jobV x.1) 11 q.toArray = ((q.map Subtype.val).flatMap jobV).toArray := fun q => by
  rw [flatK_list (enc := fun x : { x : Job // x ∈ x0 :: l' } => jobV x.1) (k := 11) (fun _ => rfl) (by omega), List.flatMap_map]
 have hvl : ∀ q : List Job, (q.flatMap jobV).length = q.length * 11 := fun q => flatMap_len (enc := jobV) (k := 11) (fun _ => rfl) q
 have hH : HoldsK (fun x : { x : Job // x ∈ x0 :: l' } => jobV x.1) 11 w g 0 d.toArray := by
  unfold HoldsK
  rw [hfl, hat]
  exact holds_of_blockG hg (hvl _).symm htake
 have hin : ∀ x : { x : Job // x ∈ x0 :: l' }, (1 ≤ x.1.id ∧ x.1.id ≤ 999) ∧ 0 ≤ x.1.prio ∧ x.1.prio ≤ 999 := fun x => by
  have h := hl x.1 x.2
  simp only [jobOkB, Bool.and_eq_true, inB_t] at h
  exact ⟨h.1.1.1.1.1.1, h.1.1.1.1.1.2⟩
 have hcmp : CmpLays Tryz.prog 247 #[] (fun x : { x : Job // x ∈ x0 :: l' } => jobV x.1) 11 (fun x y => cfJ x.1 y.1) g 0 d.toArray.size w :=
  fun _ _ _ _ x y => order1_calls _ (hin x) (hin y)
 have hcon := AnyQ.slices_SortFunc_total Tryz.sortJ 11 Tryz.isAgg94 Tryz.sizeOf94 (fun x : { x : Job // x ∈ x0 :: l' } => jobV x.1) (fun _ => rfl) (fun x v hv => by simp only [List.mem_cons, List.not_mem_nil, or_false] at hv; rcases hv with rfl | rfl | rfl | rfl | rfl | rfl | rfl | rfl | rfl | rfl | rfl <;> rfl) (fun x y => cfJ x.1 y.1) (cfJ_swo _) 247 #[] g 0 cap d.toArray w
  (fun args w' => Go.MuLone.run_callFunc_enter Tryz.func247 rfl rfl args w') hcmp hH hgl (by rw [hdl]; omega)
  (fun x y h1 h2 => Subtype.ext (hd _ x.2 _ y.2 (by
   have h1 : ¬ _ := fun e => of_decide_eq_false h1 ((cfJ_lt _ _).2 e)
   have h2 : ¬ _ := fun e => of_decide_eq_false h2 ((cfJ_lt _ _).2 e)
   omega)))
 rw [hdl] at hcon
 change Calls Tryz.prog 246 _ _ _ at hcon
 have hsv : (d.mergeSort fun x y => !(ltOf fun x y : { x : Job // x ∈ x0 :: l' } => cfJ x.1 y.1) y x).map Subtype.val = ordJ (x0 :: l') := by
  refine Eq.trans (List.map_mergeSort (s := fun x y => !decide (cfJ y x < 0)) fun a _ b _ => rfl) ?_
  rw [hat]
  rfl
 refine hcon.mono fun e w' ⟨he, n, os, hw⟩ => ?_
 have hw2 : w' = grow (putRow id (Sort.ahead w n) g 0 ((ordJ (x0 :: l')).flatMap jobV).toArray) os := by
  rw [hw]
  unfold sortWorldK putRowK
  rw [hfl]
  exact congrArg (fun q : List Job => grow (putRow id (Sort.ahead w n) g 0 (q.flatMap jobV).toArray) os) hsv
 subst hw2
 have hol := ordJ_length (x0 :: l')
 have hql := hvl (ordJ (x0 :: l'))
 refine ⟨he, grownBy_sortedG _, (ordJ (x0 :: l')).flatMap jobV, ⟨by rw [hql, hol], .inr ⟨g, cap, _, rfl, hbg, heap_sortedG _ hg, hnc, hcm, by simpa [putCells] using hcs, ?_⟩⟩, repE_jobs _ _⟩
 rw [show (x0 :: l').length * 11 = ((ordJ (x0 :: l')).flatMap jobV).length by rw [hql, hol]]
 refine take_putCellsG _ _ ?_
 rw [hql, hol, hcs]
 exact Nat.mul_le_mul_right 11 hnc
end Go.Proofs.YtliopiphobopjaaGreat
namespace Go.Proofs.YtliopiphobopjaaGreat
open Go Go.RowKit Go.Sort

theorem befB_iff {a b : Job} : befB a b = true ↔ b.prio < a.prio ∨ a.prio = b.prio ∧ a.id < b.id := by simp [befB]
theorem befB_cf {a b : Job} : decide (cfJ a b < 0) = befB a b := by
 rw [Bool.eq_iff_iff, decide_eq_true_eq, cfJ_lt, befB_iff]
def insJ (j : Job) : List Job → List Job
 | [] => [j]
 | x :: l => if befB j x = true then j :: x :: l else x :: insJ j l
def insS (j : Job) (q : List Job × Bool) (x : Job) : List Job × Bool := if q.2 = false ∧ befB j x = true then (q.1 ++ [j] ++ [x], true) else (q.1 ++ [x], q.2)
def insF' (j : Job) (l : List Job) : List Job × Bool := l.foldl (insS j) ([], false)
theorem insF'_step {j : Job} {l : List Job} {i : Nat} (h : i < l.length) : insF' j (l.take (i + 1)) = insS j (insF' j (l.take i)) (nth l i) := by
 rw [take_snoc h, insF', List.foldl_append]
 rfl
theorem insF'_go {j : Job} : ∀ (l : List Job) (a : List Job), (let q := l.foldl (insS j) (a, false); if q.2 = true then q.1 else q.1 ++ [j]) = a ++ insJ j l ∧ (l.foldl (insS j) (a, true)) = (a ++ l, true)
 | [], a => by simp [insJ]
 | x :: l, a => by
  obtain ⟨h1, _⟩ := insF'_go (j := j) l (a ++ [x])
  have h2 := (insF'_go (j := j) l (a ++ [j] ++ [x])).2
  have h3 := (insF'_go (j := j) l (a ++ [x])).2
  constructor
  ·simp only [List.foldl_cons, insS, insJ]
   by_cases hn : befB j x = true
   ·simp only [hn, and_self, if_true]
    rw [h2]
    simp
   ·simp only [hn]
    simpa using h1
  ·simp only [List.foldl_cons, insS, Bool.true_eq_false, false_and, if_false]
   rw [h3]
   simp
theorem insF'_eq {j : Job} {l : List Job} : (if (insF' j l).2 = true then (insF' j l).1 else (insF' j l).1 ++ [j]) = insJ j l := by
 have := (insF'_go (j := j) l []).1
 rw [List.nil_append] at this
 exact this
theorem insS_len (j : Job) (q : List Job × Bool) (x : Job) : (insS j q x).1.length + (if (insS j q x).2 = true then 0 else 1) = q.1.length + (if q.2 = true then 0 else 1) + 1 := by
 unfold insS
 split
 ·rename_i h
  rw [h.1]; simp
 ·simp; split <;> omega
theorem insF'_len (j : Job) : ∀ (l : List Job), (insF' j l).1.length ≤ l.length + 1 := by
 intro l
 have key : ∀ (l : List Job) (q : List Job × Bool), (l.foldl (insS j) q).1.length + (if (l.foldl (insS j) q).2 = true then 0 else 1) = q.1.length + (if q.2 = true then 0 else 1) + l.length := by
  intro l
  induction l with
  | nil => intro q; rfl
  | cons x l ih => intro q; rw [List.foldl_cons, ih, insS_len, List.length_cons]; omega
 have := key l ([], false)
 simp at this
 unfold insF'
 omega
theorem insJ_perm (j : Job) : ∀ (l : List Job), (insJ j l).Perm (j :: l)
 | [] => List.Perm.refl _
 | x :: l => by
  unfold insJ
  split
  ·exact List.Perm.refl _
  ·exact ((insJ_perm j l).cons x).trans (List.Perm.swap j x l)
def srtd (l : List Job) : Prop := l.Pairwise fun a b => befB b a = false
theorem befB_tr {a b c : Job} (h1 : befB b a = false) (h2 : befB c b = false) : befB c a = false := by
 rw [← Bool.not_eq_true, befB_iff] at *
 omega
theorem befB_ir {a b : Job} (h1 : befB a b = true) : befB b a = false := by
 rw [← Bool.not_eq_true, befB_iff]
 rw [befB_iff] at h1
 omega
theorem insJ_srt (j : Job) : ∀ (l : List Job), srtd l → srtd (insJ j l)
 | [], _ => by simp [insJ, srtd]
 | x :: l, h => by
  unfold insJ
  have h' := List.pairwise_cons.1 h
  split
  ·rename_i hn
   refine List.pairwise_cons.2 ⟨fun y hy => ?_, h⟩
   rcases List.mem_cons.1 hy with rfl | hy
   ·exact befB_ir hn
   ·exact befB_tr (befB_ir hn) (h'.1 y hy)
  ·rename_i hn
   refine List.pairwise_cons.2 ⟨fun y hy => ?_, insJ_srt j l h'.2⟩
   rcases List.mem_cons.1 ((insJ_perm j l).mem_iff.1 hy) with rfl | hy
   ·simpa using hn
   ·exact h'.1 y hy
def insL (l : List Job) : List Job := l.foldl (fun o x => insJ x o) []
theorem insL_step {l : List Job} {i : Nat} (h : i < l.length) : insL (l.take (i + 1)) = insJ (nth l i) (insL (l.take i)) := by
 rw [take_snoc h, insL, List.foldl_append]
 rfl
theorem insL_go : ∀ (q o : List Job), srtd o → srtd (q.foldl (fun o x => insJ x o) o) ∧ (q.foldl (fun o x => insJ x o) o).Perm (o ++ q)
 | [], o, h => ⟨h, by rw [List.append_nil]; exact List.Perm.refl _⟩
 | x :: q, o, h => by
  obtain ⟨h1, h2⟩ := insL_go q (insJ x o) (insJ_srt x o h)
  refine ⟨h1, h2.trans ?_⟩
  exact (((insJ_perm x o).append_right q).trans (List.perm_middle (l₁ := o) (l₂ := q) (a := x)).symm)
theorem insL_perm (l : List Job) : (insL l).Perm l := (insL_go l [] List.Pairwise.nil).2
theorem insL_len (l : List Job) : (insL l).length = l.length := (insL_perm l).length_eq
def uniJ (l : List Job) : Prop := ∀ x ∈ l, ∀ y ∈ l, x.id = y.id → x = y
theorem QueueP.uni {l : List Job} (h : QueueP l) : uniJ l := fun x hx y hy e => by
 obtain ⟨i, hi, rfl⟩ := mem_nth hx
 obtain ⟨k, hk, rfl⟩ := mem_nth hy
 rcases Nat.lt_trichotomy i k with h1 | h1 | h1
 ·exact absurd e (h.diff k hk i h1)
 ·rw [h1]
 ·exact absurd e.symm (h.diff i hi k h1)
theorem ordJ_srt (l : List Job) : srtd (ordJ l) := by
 have h := List.pairwise_mergeSort (le := fun x y => !decide (cfJ y x < 0)) (fun a b c h1 h2 => ?_) (fun a b => ?_) l
 ·refine h.imp fun {a b} hab => ?_
  rw [befB_cf] at hab
  simpa using hab
 ·simp only [befB_cf, Bool.not_eq_true'] at h1 h2 ⊢
  exact befB_tr h1 h2
 ·simp only [befB_cf, Bool.or_eq_true, Bool.not_eq_true']
  cases hb : befB b a with
  | false => exact .inl rfl
  | true => exact .inr (befB_ir hb)
theorem ordJ_ins {l : List Job} (h : uniJ l) : ordJ l = insL l := by
 refine List.Perm.eq_of_pairwise (le := fun a b => befB b a = false) (fun a b ha hb h1 h2 => h a (mem_ordJ.1 ha) b ((insL_perm l).mem_iff.1 hb) ?_) (ordJ_srt l) (insL_go l [] List.Pairwise.nil).1 ((List.mergeSort_perm l _).trans (insL_perm l).symm)
 rw [← Bool.not_eq_true, befB_iff] at h1 h2
 omega
/-! ### The first job with a number -/
def findJ (l : List Job) (id : Int) : Option Job := l.find? fun j => j.id == id
theorem findJ_at {l : List Job} {id : Int} {i : Nat} (hi : i < l.length) (h : (nth l i).id = id) (hp : ∀ j, j < i → (nth l j).id ≠ id) : findJ l id = some (nth l i) := by
 unfold findJ
 rw [List.find?_eq_some_iff_getElem]
 rw [nth_eq hi] at h ⊢
 refine ⟨beq_iff_eq.2 h, i, hi, rfl, fun j hj => ?_⟩
 have := hp j hj
 rw [nth_eq (by omega)] at this
 simpa using this
theorem findJ_no {l : List Job} {id : Int} (hp : ∀ j, j < l.length → (nth l j).id ≠ id) : findJ l id = none := by
 unfold findJ
 rw [List.find?_eq_none]
 intro x hx
 obtain ⟨j, hj, rfl⟩ := mem_nth hx
 simpa using hp j hj
def outJ (l : List Job) (id : Int) : List Job := l.filter fun j => !(j.id == id)
theorem outJ_erase : ∀ {l : List Job} {i : Nat} (_ : (l.map Job.id).Nodup) (_ : i < l.length), l.eraseIdx i = outJ l (nth l i).id
 | [], i, _, hi => absurd hi (Nat.not_lt_zero _)
 | x :: l, 0, h, _ => by
  rw [List.map_cons, List.nodup_cons] at h
  have e : nth (x :: l) 0 = x := rfl
  rw [e, List.eraseIdx_cons_zero, outJ, List.filter_cons_of_neg (by simp), eq_comm, List.filter_eq_self]
  intro y hy
  have : y.id ≠ x.id := fun e => h.1 (by rw [← e]; exact List.mem_map.2 ⟨y, hy, rfl⟩)
  simpa using this
 | x :: l, i + 1, h, hi => by
  rw [List.map_cons, List.nodup_cons] at h
  have hi' : i < l.length := by simpa using hi
  have e : nth (x :: l) (i + 1) = nth l i := by simp [nth]
  have : x.id ≠ (nth l i).id := fun e => h.1 (by rw [e]; exact List.mem_map.2 ⟨_, nth_mem hi', rfl⟩)
  rw [e, List.eraseIdx_cons_succ, outJ_erase h.2 hi', outJ, outJ, List.filter_cons_of_pos (by simpa using this)]
theorem QueueP.nodup {l : List Job} (h : QueueP l) : (l.map Job.id).Nodup := by
 rw [List.Nodup, List.pairwise_map, List.pairwise_iff_getElem]
 intro i k hi hk hik
 have := h.diff k hk i hik
 rwa [nth_eq hi, nth_eq hk] at this
end Go.Proofs.YtliopiphobopjaaGreat
