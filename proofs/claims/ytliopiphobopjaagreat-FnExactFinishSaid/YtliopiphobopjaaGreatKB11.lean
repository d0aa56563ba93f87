/-
  Placement: VecFits, the nodes below a switch, a number put into a rising list; both.
-/
import Derived.Test.YtliopiphobopjaaGreatKShL
import Derived.Test.YtliopiphobopjaaGreatKB9
import Derived.Test.YtliopiphobopjaaGreatKB8
set_option maxRecDepth 100000
set_option maxHeartbeats 16000000
namespace Go.Proofs.YtliopiphobopjaaGreat
open Go Go.RowKit
attribute [local irreducible] AWp OpsOk OpOk ACalls ChA QsOk MCalls EnC PY
def belowB (t : Topo) (s : Int) (n : Int) : Bool := hasI (abv t.parents (nth t.nodes n.toNat).leaf.toNat) s
def underL (t : Topo) (l : List Int) (s : Int) : List Int := l.filter (belowB t s)
theorem underL_step {t : Topo} {l : List Int} {s : Int} {i : Nat} (h : i < l.length) : underL t (l.take (i + 1)) s = if belowB t s (nth l i) = true then underL t (l.take i) s ++ [nth l i] else underL t (l.take i) s := by
 have e : nth l i = l[i] := by simp [nth, h]
 rw [List.take_succ_eq_append_getElem h, underL, List.filter_append, e]
 split
 ·rename_i hb; simp [underL, hb]
 ·rename_i hb; simp [underL, hb]
theorem underL_len {t : Topo} {l : List Int} {s : Int} : (underL t l s).length ≤ l.length := List.length_filter_le _ _
theorem under_e {t : Topo} {l : List Int} {s : Int} (ht : TopoOk t) (hl : inNodes t l) (hll : l.length ≤ 100000000) : DC Tryz.prog 252 [topoA t, .d (.sl (intE l)), .d (.n .i64 s)] [.d (.sl (intE (underL t l s)))] := by
 refine mcalls_of tt Tryz.func252 rfl rfl rfl trivial (fun _ _ => ⟨trivial, trivial⟩) (fun w0 Z O => ?_)
 have htl := ht.len
 have htn := ht.nlen
 have hle := intE_length l
 repeat' (first|refine zst ?_|(refine zhm fun hb=>?_;try exact zab)|refine zdr ?_|(apply zch;exact zcg)|refine HopS.mk fun w0 Z O=>?_|exact zhk|refine zg3 ?_ ?_|refine zln fun _=>?_|refine zop ?_|fail)
 refine awp_loop (fun (i : Nat) => ⟨33, [(1, .d (.sl (intE l))), (2, .d (.n .i64 s)), (3, .ptr 3 0), (7, .row 10), (11, .d (.sl (intE l))), (12, .d (.n .i64 (l.length : Nat))), (13, .d (.n .i64 i))], [(3, .box 39 (topoC t)), (10, .row 3 (intE (underL t (l.take i) s)) true)]⟩) (fun i => i ≤ l.length) (fun i => l.length - i) 0 (by exact Nat.zero_le _) ?_ ?_
 ·exact ⟨rfl, zae, zae, rfl⟩
 ·intro i hi
  have hul := underL_len (t := t) (l := l.take i) (s := s)
  rw [List.length_take] at hul
  by_cases hi' : i < l.length
  ·have hin := hl i hi'
   obtain ⟨h1, _, _⟩ := ht.nodes (nth l i).toNat (by omega)
   have hnl : (nth t.nodes (nth l i).toNat).leaf = ((nth t.nodes (nth l i).toNat).leaf.toNat : Int) := by omega
   have c1 := above_c (t := t) (s := (nth t.nodes (nth l i).toNat).leaf.toNat) (by omega) ht.valid (by omega)
   rw [← hnl] at c1
   have hab := abv_len ht.valid (s := (nth t.nodes (nth l i).toNat).leaf.toNat) (by omega)
   have c2 := contains_c (l := abv t.parents (nth t.nodes (nth l i).toNat).leaf.toNat) (x := s) (by omega)
   have hst := underL_step (t := t) (s := s) hi'
   have hnat : nth l i = ((nth l i).toNat : Int) := by omega
   cases hb0 : belowB t s (nth l i) with
   | true =>
    rw [if_pos hb0] at hst
    rw [show hasI (abv t.parents (nth t.nodes (nth l i).toNat).leaf.toNat) s = true from hb0] at c2
    repeat' (first|refine zst ?_|(refine zhm fun hb=>?_;try exact zab)|(apply awp_drawm2 5;kernel_rfl;exact rfl)|refine zdr ?_|(apply zch;exact zcg)|refine HopS.mk fun w0 Z O=>?_|exact zhk|refine zg3 ?_ ?_|refine zln fun _=>?_|refine zop ?_|refine kc (c1) rfl rfl ?_|refine kc (c2) rfl rfl ?_|refine kq (c1) rfl rfl ?_|refine kq (c2) rfl rfl ?_|fail)
    refine ⟨i + 1, by omega, by omega, ?_⟩
    refine ⟨rfl, ?_, ?_, rfl⟩
    repeat'(first|apply And.intro|exact ze0|refine ze1 ?_|refine zei ?_ ?_|exact rfl|trivial)
    all_goals exact Stop.mk (by first | rfl | (rw [hst]; exact intE_push _ _))
   | false =>
    rw [if_neg (by rw [hb0]; simp)] at hst
    rw [show hasI (abv t.parents (nth t.nodes (nth l i).toNat).leaf.toNat) s = false from hb0] at c2
    repeat' (first|refine zst ?_|(refine zhm fun hb=>?_;try exact zab)|(apply awp_drawm2 5;kernel_rfl;exact rfl)|refine zdr ?_|(apply zch;exact zcg)|refine HopS.mk fun w0 Z O=>?_|exact zhk|refine zg3 ?_ ?_|refine zln fun _=>?_|refine zop ?_|refine kc (c1) rfl rfl ?_|refine kc (c2) rfl rfl ?_|refine kq (c1) rfl rfl ?_|refine kq (c2) rfl rfl ?_|fail)
    refine ⟨i + 1, by omega, by omega, ?_⟩
    refine ⟨rfl, ?_, ?_, rfl⟩
    repeat'(first|apply And.intro|exact ze0|refine ze1 ?_|refine zei ?_ ?_|exact rfl|trivial)
    all_goals exact Stop.mk (by first | rfl | rw [hst])
  ·obtain rfl : i = l.length := by omega
   repeat' (first|refine zsr ?_|(refine zhm fun hb=>?_;try exact zab)|refine zdr ?_|(apply zch;exact zcg)|refine HopS.mk fun w0 Z O=>?_|exact zhk|refine zg3 ?_ ?_|refine zln fun _=>?_|refine zop ?_|fail)
   show AWp _ _ _ _
   refine awp_frz 10 rfl ?_
   refine awp_dena ?_
   apply awp_ret'
   refine zm () [] trivial ?_ ?_ ?_
   repeat'(first|apply And.intro|exact ze0|refine ze1 ?_|refine zei ?_ ?_|exact rfl|trivial)
   all_goals exact Stop.mk (by first | rfl | rw [List.take_length])
theorem l04Of_s {t : Topo} {l : List Int} {s : Int} (ht : TopoOk t) (hl : inNodes t l) (hll : l.length ≤ 100000000) : DC Tryz.prog 281 [topoA t, .d (.sl (intE l)), .d (.n .i64 s)] [.d (.sl (intE (underL t l s)))] := by
 refine mcalls_of tt Tryz.func281 rfl rfl rfl trivial (fun _ _ => ⟨trivial, trivial⟩) (fun w0 Z O => ?_)
 have htl := ht.len
 have htn := ht.nlen
 have hle := intE_length l
 repeat' (first|refine zst ?_|(refine zhm fun hb=>?_;try exact zab)|refine zdr ?_|(apply zch;exact zcg)|refine HopS.mk fun w0 Z O=>?_|exact zhk|refine zg3 ?_ ?_|refine zln fun _=>?_|refine zop ?_|fail)
 refine awp_loop (fun (i : Nat) => ⟨33, [(1, .d (.sl (intE l))), (2, .d (.n .i64 s)), (3, .ptr 3 0), (7, .row 10), (11, .d (.sl (intE l))), (12, .d (.n .i64 (l.length : Nat))), (13, .d (.n .i64 i))], [(3, .box 39 (topoC t)), (10, .row 3 (intE (underL t (l.take i) s)) true)]⟩) (fun i => i ≤ l.length) (fun i => l.length - i) 0 (by exact Nat.zero_le _) ?_ ?_
 ·exact ⟨rfl, zae, zae, rfl⟩
 ·intro i hi
  have hul := underL_len (t := t) (l := l.take i) (s := s)
  rw [List.length_take] at hul
  by_cases hi' : i < l.length
  ·have hin := hl i hi'
   obtain ⟨h1, _, _⟩ := ht.nodes (nth l i).toNat (by omega)
   have hnl : (nth t.nodes (nth l i).toNat).leaf = ((nth t.nodes (nth l i).toNat).leaf.toNat : Int) := by omega
   have c1 := l02Up_c (t := t) (s := (nth t.nodes (nth l i).toNat).leaf.toNat) (by omega) ht.valid (by omega)
   rw [← hnl] at c1
   have hab := abv_len ht.valid (s := (nth t.nodes (nth l i).toNat).leaf.toNat) (by omega)
   have c2 := l02Has_c (l := abv t.parents (nth t.nodes (nth l i).toNat).leaf.toNat) (x := s) (by omega)
   have hst := underL_step (t := t) (s := s) hi'
   have hnat : nth l i = ((nth l i).toNat : Int) := by omega
   cases hb0 : belowB t s (nth l i) with
   | true =>
    rw [if_pos hb0] at hst
    rw [show hasI (abv t.parents (nth t.nodes (nth l i).toNat).leaf.toNat) s = true from hb0] at c2
    repeat' (first|refine zst ?_|(refine zhm fun hb=>?_;try exact zab)|(apply awp_drawm2 5;kernel_rfl;exact rfl)|refine zdr ?_|(apply zch;exact zcg)|refine HopS.mk fun w0 Z O=>?_|exact zhk|refine zg3 ?_ ?_|refine zln fun _=>?_|refine zop ?_|refine kc (c1) rfl rfl ?_|refine kc (c2) rfl rfl ?_|refine kq (c1) rfl rfl ?_|refine kq (c2) rfl rfl ?_|fail)
    refine ⟨i + 1, by omega, by omega, ?_⟩
    refine ⟨rfl, ?_, ?_, rfl⟩
    repeat'(first|apply And.intro|exact ze0|refine ze1 ?_|refine zei ?_ ?_|exact rfl|trivial)
    all_goals exact Stop.mk (by first | rfl | (rw [hst]; exact intE_push _ _))
   | false =>
    rw [if_neg (by rw [hb0]; simp)] at hst
    rw [show hasI (abv t.parents (nth t.nodes (nth l i).toNat).leaf.toNat) s = false from hb0] at c2
    repeat' (first|refine zst ?_|(refine zhm fun hb=>?_;try exact zab)|(apply awp_drawm2 5;kernel_rfl;exact rfl)|refine zdr ?_|(apply zch;exact zcg)|refine HopS.mk fun w0 Z O=>?_|exact zhk|refine zg3 ?_ ?_|refine zln fun _=>?_|refine zop ?_|refine kc (c1) rfl rfl ?_|refine kc (c2) rfl rfl ?_|refine kq (c1) rfl rfl ?_|refine kq (c2) rfl rfl ?_|fail)
    refine ⟨i + 1, by omega, by omega, ?_⟩
    refine ⟨rfl, ?_, ?_, rfl⟩
    repeat'(first|apply And.intro|exact ze0|refine ze1 ?_|refine zei ?_ ?_|exact rfl|trivial)
    all_goals exact Stop.mk (by first | rfl | rw [hst])
  ·obtain rfl : i = l.length := by omega
   repeat' (first|refine zsr ?_|(refine zhm fun hb=>?_;try exact zab)|refine zdr ?_|(apply zch;exact zcg)|refine HopS.mk fun w0 Z O=>?_|exact zhk|refine zg3 ?_ ?_|refine zln fun _=>?_|refine zop ?_|fail)
   show AWp _ _ _ _
   refine awp_frz 10 rfl ?_
   refine awp_dena ?_
   apply awp_ret'
   refine zm () [] trivial ?_ ?_ ?_
   repeat'(first|apply And.intro|exact ze0|refine ze1 ?_|refine zei ?_ ?_|exact rfl|trivial)
   all_goals exact Stop.mk (by first | rfl | rw [List.take_length])
def rise (n : Int) : List Int → List Int
 | [] => [n]
 | x :: l => if n < x then n :: x :: l else x :: rise n l
def riseS (n : Int) (q : List Int × Bool) (x : Int) : List Int × Bool := if q.2 = false ∧ n < x then (q.1 ++ [n] ++ [x], true) else (q.1 ++ [x], q.2)
def riseF (n : Int) (l : List Int) : List Int × Bool := l.foldl (riseS n) ([], false)
theorem riseF_step {n : Int} {l : List Int} {i : Nat} (h : i < l.length) : riseF n (l.take (i + 1)) = riseS n (riseF n (l.take i)) (nth l i) := by
 have e : nth l i = l[i] := by simp [nth, h]
 rw [List.take_succ_eq_append_getElem h, riseF, List.foldl_append, e]
 rfl
theorem riseF_go {n : Int} : ∀ (l : List Int) (a : List Int), (let q := l.foldl (riseS n) (a, false); if q.2 = true then q.1 else q.1 ++ [n]) = a ++ rise n l ∧ (l.foldl (riseS n) (a, true)) = (a ++ l, true)
 | [], a => by simp [rise]
 | x :: l, a => by
  obtain ⟨h1, _⟩ := riseF_go (n := n) l (a ++ [x])
  have h2 := (riseF_go (n := n) l (a ++ [n] ++ [x])).2
  have h3 := (riseF_go (n := n) l (a ++ [x])).2
  constructor
  ·simp only [List.foldl_cons, riseS, rise]
   by_cases hn : n < x
   ·simp only [hn, and_self, if_true]
    rw [h2]
    simp
   ·simp only [hn, and_false, if_false]
    simpa using h1
  ·simp only [List.foldl_cons, riseS, Bool.true_eq_false, false_and, if_false]
   rw [h3]
   simp
theorem riseF_eq {n : Int} {l : List Int} : (if (riseF n l).2 = true then (riseF n l).1 else (riseF n l).1 ++ [n]) = rise n l := by
 have := (riseF_go (n := n) l []).1
 rw [List.nil_append] at this
 exact this
theorem riseS_len (n : Int) (q : List Int × Bool) (x : Int) : (riseS n q x).1.length + (if (riseS n q x).2 = true then 0 else 1) = q.1.length + (if q.2 = true then 0 else 1) + 1 := by
 unfold riseS
 split
 ·rename_i h
  rw [h.1]; simp
 ·simp; split <;> omega
theorem riseF_len (n : Int) : ∀ (l : List Int), (riseF n l).1.length ≤ l.length + 1 := by
 intro l
 have key : ∀ (l : List Int) (q : List Int × Bool), (l.foldl (riseS n) q).1.length + (if (l.foldl (riseS n) q).2 = true then 0 else 1) = q.1.length + (if q.2 = true then 0 else 1) + l.length := by
  intro l
  induction l with
  | nil => intro q; rfl
  | cons x l ih => intro q; rw [List.foldl_cons, ih, riseS_len, List.length_cons]; omega
 have := key l ([], false)
 simp at this
 unfold riseF
 omega
end Go.Proofs.YtliopiphobopjaaGreat
namespace Go.Proofs.YtliopiphobopjaaGreat
open Go Go.RowKit
attribute [local irreducible] AWp OpsOk OpOk ACalls ChA QsOk MCalls EnC PY
theorem take_len {α : Type} {l : List α} {i : Nat} (h : i ≤ l.length) : (l.take i).length = i := by rw [List.length_take]; omega
theorem l04Rise_s {l : List Int} {n : Int} (hl : l.length ≤ 100000000) : DC Tryz.prog 258 [.d (.sl (intE l)), .d (.n .i64 n)] [.d (.sl (intE (rise n l)))] := by
 refine mcalls_of tt Tryz.func258 rfl rfl rfl trivial (fun _ _ => ⟨trivial, trivial⟩) (fun w0 Z O => ?_)
 have hle := intE_length l
 repeat' (first|refine zst ?_|(refine zhm fun hb=>?_;try exact zab)|refine zg2 ?_ ?_|refine zln fun _=>?_|refine zop ?_|fail)
 refine awp_loop (fun (i : Nat) => ⟨39, [(1, .d (.n .i64 n)), (5, .row 9), (6, .d (.b (riseF n (l.take i)).2)), (10, .d (.sl (intE l))), (11, .d (.n .i64 (l.length : Nat))), (12, .d (.n .i64 i))], [(9, .row 3 (intE (riseF n (l.take i)).1) true)]⟩) (fun i => i ≤ l.length) (fun i => l.length - i) 0 (by exact Nat.zero_le _) ?_ ?_
 ·exact ⟨rfl, zae, zae, rfl⟩
 ·intro i hi
  have hrl := riseF_len n (l.take i)
  rw [take_len hi] at hrl
  by_cases hi' : i < l.length
  ·have hst := riseF_step (n := n) hi'
   unfold riseS at hst
   cases hd : (riseF n (l.take i)).2 with
   | true =>
    rw [hd, if_neg (by simp)] at hst
    repeat' (first|refine zst ?_|(refine zhm fun hb=>?_;try exact zab)|refine zg2 ?_ ?_|refine zln fun _=>?_|refine zop ?_|fail)
    refine ⟨i + 1, by omega, by omega, ?_⟩
    refine ⟨rfl, ?_, ?_, rfl⟩
    repeat'(first|apply And.intro|exact ze0|refine ze1 ?_|refine zei ?_ ?_|exact rfl|trivial)
    all_goals exact Stop.mk (by first | rfl | (rw [hst]; exact intE_push _ _) | rw [hst])
   | false =>
    by_cases hn : n < nth l i
    ·rw [hd, if_pos ⟨rfl, hn⟩] at hst
     have hl2 : (intE (riseF n (l.take i)).1 ++ [[D.n .i64 n]]).length = (riseF n (l.take i)).1.length + 1 := by simp [intE]
     repeat' (first|refine zst ?_|(refine zhm fun hb=>?_;try exact zab)|refine zg2 ?_ ?_|refine zln fun _=>?_|refine zop ?_|fail)
     refine ⟨i + 1, by omega, by omega, ?_⟩
     refine ⟨rfl, ?_, ?_, rfl⟩
     repeat'(first|apply And.intro|exact ze0|refine ze1 ?_|refine zei ?_ ?_|exact rfl|trivial)
     all_goals exact Stop.mk (by first | rfl | (rw [hst]; simp [intE]; done) | rw [hst])
    ·rw [hd, if_neg (fun h => hn h.2)] at hst
     repeat' (first|refine zst ?_|(refine zhm fun hb=>?_;try exact zab)|refine zg2 ?_ ?_|refine zln fun _=>?_|refine zop ?_|fail)
     refine ⟨i + 1, by omega, by omega, ?_⟩
     refine ⟨rfl, ?_, ?_, rfl⟩
     repeat'(first|apply And.intro|exact ze0|refine ze1 ?_|refine zei ?_ ?_|exact rfl|trivial)
     all_goals exact Stop.mk (by first | rfl | (rw [hst]; exact intE_push _ _) | rw [hst])
  ·obtain rfl : i = l.length := by omega
   rw [List.take_length] at *
   have he := riseF_eq (n := n) (l := l)
   cases hd : (riseF n l).2 with
   | true =>
    rw [hd, if_pos rfl] at he
    repeat' (first|refine zsr ?_|(refine zhm fun hb=>?_;try exact zab)|refine zg2 ?_ ?_|refine zln fun _=>?_|refine zop ?_|fail)
    show AWp _ _ _ _
    refine awp_frz 9 rfl ?_
    refine awp_dena ?_
    apply awp_ret'
    refine zm () [] trivial ?_ ?_ ?_
    repeat'(first|apply And.intro|exact ze0|refine ze1 ?_|refine zei ?_ ?_|exact rfl|trivial)
    all_goals exact Stop.mk (by first | rfl | rw [he])
   | false =>
    rw [hd, if_neg (by simp)] at he
    repeat' (first|refine zsr ?_|(refine zhm fun hb=>?_;try exact zab)|refine zg2 ?_ ?_|refine zln fun _=>?_|refine zop ?_|fail)
    show AWp _ _ _ _
    refine awp_frz 9 rfl ?_
    refine awp_dena ?_
    apply awp_ret'
    refine zm () [] trivial ?_ ?_ ?_
    repeat'(first|apply And.intro|exact ze0|refine ze1 ?_|refine zei ?_ ?_|exact rfl|trivial)
    all_goals exact Stop.mk (by first | rfl | (rw [← he]; exact intE_push _ _))
def befB (a b : Job) : Bool := decide (b.prio < a.prio) || (decide (a.prio = b.prio) && decide (a.id < b.id))
theorem l05Before_s {a b : Job} : ACalls Tryz.prog 235 [jobA a, jobA b] [.d (.b (befB a b))] [] := by
 refine acalls_of tt Tryz.func235 rfl rfl rfl (fun w0 Z => ?_)
 unfold befB
 by_cases h1 : b.prio < a.prio
 ·rw [decide_eq_true h1]
  repeat' (first|refine zst ?_|(refine zhm fun hb=>?_;try exact zab)|refine zg2 ?_ ?_|refine zop ?_|fail)
  exact zr [] zae zae
 ·rw [decide_eq_false h1]
  by_cases h2 : a.prio = b.prio
  ·rw [decide_eq_true h2]
   repeat' (first|refine zst ?_|(refine zhm fun hb=>?_;try exact zab)|refine zg2 ?_ ?_|refine zop ?_|fail)
   all_goals
    refine zr [] ?_ ?_
    repeat'(first|apply And.intro|exact ze0|refine ze1 ?_|refine zei ?_ ?_|exact rfl|trivial)
    all_goals exact Stop.mk (by first | rfl | (simp; omega))
  ·rw [decide_eq_false h2]
   repeat' (first|refine zst ?_|(refine zhm fun hb=>?_;try exact zab)|refine zg2 ?_ ?_|refine zop ?_|fail)
   all_goals
    refine zr [] ?_ ?_
    repeat'(first|apply And.intro|exact ze0|refine ze1 ?_|refine zei ?_ ?_|exact rfl|trivial)
    all_goals exact Stop.mk (by first | rfl | (simp; omega))
end Go.Proofs.YtliopiphobopjaaGreat
namespace Go.Proofs.YtliopiphobopjaaGreat
open Go Go.RowKit
attribute [local irreducible] AWp OpsOk OpOk ACalls ChA QsOk MCalls EnC PY
def cntU (t : Topo) (l : List Int) (s : Nat) : Nat := (underL t l (s : Int)).length
def swS (t : Topo) (l : List Int) (n most : Int) (best : Int) (s : Nat) : Int :=
 if n ≤ (cntU t l s : Int) ∧ lvl t.parents s ≤ most ∧ (best < 0 ∨ lvl t.parents s < lvl t.parents best.toNat ∨ lvl t.parents s = lvl t.parents best.toNat ∧ cntU t l s < cntU t l best.toNat) then (s : Int) else best
def swU (t : Topo) (l : List Int) (n most : Int) (i : Nat) : Int := (List.range i).foldl (swS t l n most) (-1)
theorem swU_s {t : Topo} {l : List Int} {n most : Int} {i : Nat} : swU t l n most (i + 1) = swS t l n most (swU t l n most i) i := by
 unfold swU
 rw [List.range_succ, List.foldl_append]
 rfl
theorem swU_in {t : Topo} {l : List Int} {n most : Int} : ∀ (i : Nat), -1 ≤ swU t l n most i ∧ swU t l n most i < i
 | 0 => by simp [swU]
 | i + 1 => by
  have := swU_in (t := t) (l := l) (n := n) (most := most) i
  rw [swU_s]
  unfold swS
  split <;> omega
def swI (t : Topo) (l : List Int) (n most : Int) : Int := swU t l n most t.parents.length
theorem l02Level_l {t : Topo} (ht : TopoOk t) {s : Nat} (hs : s < t.parents.length) : ACalls Tryz.prog 163 [topoA t, .d (.n .i64 s)] [.d (.n .i64 (lvl t.parents s))] [] := by
 have htl := ht.len
 rw [← lv_lvl ht.valid ht.even hs]
 exact l02Level_c (by omega) ht.valid (t.parents.length - s) s (by omega) hs
theorem l04Switch_s {t : Topo} {l : List Int} {n most : Int} (ht : TopoOk t) (hl : inNodes t l) (hll : l.length ≤ 1000000) : ACalls Tryz.prog 280 [topoA t, .d (.sl (intE l)), .d (.n .i64 n), .d (.n .i64 most)] [.d (.n .i64 (swI t l n most))] [] := by
 refine acalls_of tt Tryz.func280 rfl rfl rfl (fun w0 Z => ?_)
 have htl := ht.len
 have htn := ht.nlen
 have hle := intE_length l
 repeat' (first|refine zst ?_|(refine zhm fun hb=>?_;try exact zab)|refine zg2 ?_ ?_|refine zln fun _=>?_|refine zop ?_|fail)
 refine awp_loop (fun (i : Nat) => ⟨63, [(1, .d (.sl (intE l))), (2, .d (.n .i64 n)), (3, .d (.n .i64 most)), (4, .ptr 4 0), (9, .d (.n .i64 (swU t l n most i))), (15, .d (.n .i64 (t.parents.length : Nat))), (16, .d (.n .i64 i))], [(4, .box 39 (topoC t))]⟩) (fun i => i ≤ t.parents.length) (fun i => t.parents.length - i) 0 (by exact Nat.zero_le _) ?_ ?_
 ·refine ⟨rfl, ?_, ?_, rfl⟩
  repeat'(first|apply And.intro|exact ze0|refine ze1 ?_|refine zei ?_ ?_|exact rfl|trivial)
  all_goals exact Stop.mk (by first | rfl | exact intE_length _)
 ·intro k hk0
  by_cases hi' : k < t.parents.length
  ·have hb := swU_in (t := t) (l := l) (n := n) (most := most) k
   have hst := swU_s (t := t) (l := l) (n := n) (most := most) (i := k)
   unfold swS at hst
   have hul := underL_len (t := t) (l := l) (s := (k : Int))
   have hcu : (underL t l (k : Int)).length = cntU t l k := rfl
   have c1 := l04Of_s (t := t) (l := l) (s := (k : Int)) ht hl (by omega)
   have c2 := l02Level_l ht hi'
   by_cases hneg : swU t l n most k < 0
   ·repeat' (first|refine zst ?_|(refine zhm fun hb=>?_;try exact zab)|refine zg2 ?_ ?_|refine zln fun _=>?_|refine zop ?_|refine kc (c2) rfl rfl ?_|(refine km [] (c1) rfl rfl (fun i hi => ?_);(try dsimp only at hi))|fail)
    all_goals
     refine ⟨k + 1, by omega, by omega, ?_⟩
     refine ⟨rfl, ?_, ?_, rfl⟩
     repeat'(first|apply And.intro|exact ze0|refine ze1 ?_|refine zei ?_ ?_|exact rfl|trivial)
     all_goals exact Stop.mk (by first | rfl | (rw [hst, if_pos ⟨by omega, by omega, .inl (by omega)⟩]) | (rw [hst, if_neg (fun h => by omega)]))
   ·have hul2 := underL_len (t := t) (l := l) (s := swU t l n most k)
    have hcu2 : (underL t l (swU t l n most k)).length = cntU t l (swU t l n most k).toNat := by unfold cntU; rw [Int.toNat_of_nonneg (by omega)]
    have c3 := l04Of_s (t := t) (l := l) (s := swU t l n most k) ht hl (by omega)
    have c4 := l02Level_l ht (s := (swU t l n most k).toNat) (by omega)
    rw [Int.toNat_of_nonneg (by omega)] at c4
    repeat' (first|refine zst ?_|(refine zhm fun hb=>?_;try exact zab)|refine zg2 ?_ ?_|refine zln fun _=>?_|refine zop ?_|refine kc (c2) rfl rfl ?_|refine kc (c4) rfl rfl ?_|(refine km [] (c1) rfl rfl (fun i hi => ?_);(try dsimp only at hi))|(refine km [] (c3) rfl rfl (fun i hi => ?_);(try dsimp only at hi))|fail)
    all_goals
     refine ⟨k + 1, by omega, by omega, ?_⟩
     refine ⟨rfl, ?_, ?_, rfl⟩
     repeat'(first|apply And.intro|exact ze0|refine ze1 ?_|refine zei ?_ ?_|exact rfl|trivial)
     all_goals exact Stop.mk (by first | rfl | (rw [hst, if_pos ⟨by omega, by omega, .inr (.inl (by omega))⟩]) | (rw [hst, if_pos ⟨by omega, by omega, .inr (.inr ⟨by omega, by omega⟩)⟩]) | (rw [hst, if_neg (fun h => by omega)]))
  ·obtain rfl : k = t.parents.length := by omega
   repeat' (first|refine zst ?_|(refine zhm fun hb=>?_;try exact zab)|refine zg2 ?_ ?_|refine zln fun _=>?_|refine zop ?_|fail)
   exact zr [] zae zae
end Go.Proofs.YtliopiphobopjaaGreat
namespace Go.Proofs.YtliopiphobopjaaGreat
open Go Go.RowKit
attribute [local irreducible] AWp OpsOk OpOk ACalls ChA QsOk MCalls EnC PY
def lfS (t : Topo) (l tk : List Int) (best : Int) (s : Nat) : Int :=
 if 0 < cntU t l s ∧ (kidsZ t.parents (s : Int)).length = 0 ∧ hasI tk (s : Int) = false ∧ (best < 0 ∨ cntU t l best.toNat < cntU t l s) then (s : Int) else best
def lfU (t : Topo) (l tk : List Int) (i : Nat) : Int := (List.range i).foldl (lfS t l tk) (-1)
theorem lfU_s {t : Topo} {l tk : List Int} {i : Nat} : lfU t l tk (i + 1) = lfS t l tk (lfU t l tk i) i := by
 unfold lfU
 rw [List.range_succ, List.foldl_append]
 rfl
theorem lfU_in {t : Topo} {l tk : List Int} : ∀ (i : Nat), -1 ≤ lfU t l tk i ∧ lfU t l tk i < i
 | 0 => by simp [lfU]
 | i + 1 => by
  have := lfU_in (t := t) (l := l) (tk := tk) i
  rw [lfU_s]
  unfold lfS
  split <;> omega
def lfI (t : Topo) (l tk : List Int) : Int := lfU t l tk t.parents.length
theorem l04Leaf_s {t : Topo} {l tk : List Int} (ht : TopoOk t) (hl : inNodes t l) (hll : l.length ≤ 1000000) (htk : tk.length ≤ 1000000) : ACalls Tryz.prog 282 [topoA t, .d (.sl (intE l)), .d (.sl (intE tk))] [.d (.n .i64 (lfI t l tk))] [] := by
 refine acalls_of tt Tryz.func282 rfl rfl rfl (fun w0 Z => ?_)
 have htl := ht.len
 have htn := ht.nlen
 have hle := intE_length l
 repeat' (first|refine zst ?_|(refine zhm fun hb=>?_;try exact zab)|refine zg2 ?_ ?_|refine zln fun _=>?_|refine zop ?_|fail)
 refine awp_loop (fun (i : Nat) => ⟨49, [(1, .d (.sl (intE l))), (2, .d (.sl (intE tk))), (3, .ptr 3 0), (7, .d (.n .i64 (lfU t l tk i))), (12, .d (.n .i64 (t.parents.length : Nat))), (13, .d (.n .i64 i))], [(3, .box 39 (topoC t))]⟩) (fun i => i ≤ t.parents.length) (fun i => t.parents.length - i) 0 (by exact Nat.zero_le _) ?_ ?_
 ·refine ⟨rfl, ?_, ?_, rfl⟩
  repeat'(first|apply And.intro|exact ze0|refine ze1 ?_|refine zei ?_ ?_|exact rfl|trivial)
  all_goals exact Stop.mk (by first | rfl | exact intE_length _)
 ·intro k hk0
  by_cases hi' : k < t.parents.length
  ·have hb := lfU_in (t := t) (l := l) (tk := tk) k
   have hst := lfU_s (t := t) (l := l) (tk := tk) (i := k)
   unfold lfS at hst
   have hul := underL_len (t := t) (l := l) (s := (k : Int))
   have hcu : (underL t l (k : Int)).length = cntU t l k := rfl
   have c1 := l04Of_s (t := t) (l := l) (s := (k : Int)) ht hl (by omega)
   have c2 := l02Kids_c (t := t) (s := (k : Int)) (by omega) (by omega)
   cases hh : hasI tk (k : Int) with
   | true =>
    have c5 := l02Has_c (l := tk) (x := (k : Int)) (by omega)
    rw [hh] at c5
    repeat' (first|refine zst ?_|(refine zhm fun hb=>?_;try exact zab)|refine zg2 ?_ ?_|refine zln fun _=>?_|refine zop ?_|refine kc (c2) rfl rfl ?_|refine kc (c5) rfl rfl ?_|(refine km [] (c1) rfl rfl (fun i hi => ?_);(try dsimp only at hi))|fail)
    all_goals
     refine ⟨k + 1, by omega, by omega, ?_⟩
     refine ⟨rfl, ?_, ?_, rfl⟩
     repeat'(first|apply And.intro|exact ze0|refine ze1 ?_|refine zei ?_ ?_|exact rfl|trivial)
     all_goals exact Stop.mk (by first | rfl | (rw [hst, if_neg (fun h => by rw [hh] at h; simp at h)]))
   | false =>
    have c5 := l02Has_c (l := tk) (x := (k : Int)) (by omega)
    rw [hh] at c5
    by_cases hneg : lfU t l tk k < 0
    ·repeat' (first|refine zst ?_|(refine zhm fun hb=>?_;try exact zab)|refine zg2 ?_ ?_|refine zln fun _=>?_|refine zop ?_|refine kc (c2) rfl rfl ?_|refine kc (c5) rfl rfl ?_|(refine km [] (c1) rfl rfl (fun i hi => ?_);(try dsimp only at hi))|fail)
     all_goals
      refine ⟨k + 1, by omega, by omega, ?_⟩
      refine ⟨rfl, ?_, ?_, rfl⟩
      repeat'(first|apply And.intro|exact ze0|refine ze1 ?_|refine zei ?_ ?_|exact rfl|trivial)
      all_goals exact Stop.mk (by first | rfl | (rw [hst, if_pos ⟨by omega, by omega, hh, .inl (by omega)⟩]) | (rw [hst, if_neg (fun h => by omega)]))
    ·have hul2 := underL_len (t := t) (l := l) (s := lfU t l tk k)
     have hcu2 : (underL t l (lfU t l tk k)).length = cntU t l (lfU t l tk k).toNat := by unfold cntU; rw [Int.toNat_of_nonneg (by omega)]
     have c3 := l04Of_s (t := t) (l := l) (s := lfU t l tk k) ht hl (by omega)
     repeat' (first|refine zst ?_|(refine zhm fun hb=>?_;try exact zab)|refine zg2 ?_ ?_|refine zln fun _=>?_|refine zop ?_|refine kc (c2) rfl rfl ?_|refine kc (c5) rfl rfl ?_|(refine km [] (c1) rfl rfl (fun i hi => ?_);(try dsimp only at hi))|(refine km [] (c3) rfl rfl (fun i hi => ?_);(try dsimp only at hi))|fail)
     all_goals
      refine ⟨k + 1, by omega, by omega, ?_⟩
      refine ⟨rfl, ?_, ?_, rfl⟩
      repeat'(first|apply And.intro|exact ze0|refine ze1 ?_|refine zei ?_ ?_|exact rfl|trivial)
      all_goals exact Stop.mk (by first | rfl | (rw [hst, if_pos ⟨by omega, by omega, hh, .inr (by omega)⟩]) | (rw [hst, if_neg (fun h => by omega)]))
  ·obtain rfl : k = t.parents.length := by omega
   repeat' (first|refine zst ?_|(refine zhm fun hb=>?_;try exact zab)|refine zg2 ?_ ?_|refine zln fun _=>?_|refine zop ?_|fail)
   exact zr [] zae zae
end Go.Proofs.YtliopiphobopjaaGreat
namespace Go.Proofs.YtliopiphobopjaaGreat
open Go Go.RowKit

theorem hasI_mem {l : List Int} {x : Int} : hasI l x = true ↔ x ∈ l := by
 unfold hasI
 rw [List.any_eq_true]
 constructor
 ·rintro ⟨y, hy, e⟩
  rw [beq_iff_eq] at e
  exact e ▸ hy
 ·intro h
  exact ⟨x, h, by simp⟩
theorem abvU_par {ps : List Int} (hv : validP ps) : ∀ (s : Nat), s < ps.length → ∀ x ∈ abvU ps s, ∃ j, j < ps.length ∧ 1 ≤ j ∧ nth ps j = x := by
 intro s
 induction s using Nat.strongRecOn with
 | _ s ih =>
  intro hs x hx
  by_cases h0 : s = 0
  ·subst h0; rw [abvU_0] at hx; cases hx
  ·have hp := hv s (by omega) hs
   rw [abvU_s hv (by omega) hs] at hx
   rcases List.mem_cons.1 hx with rfl | hx
   ·exact ⟨s, hs, by omega, by omega⟩
   ·exact ih (nth ps s).toNat (by omega) (by omega) x hx
theorem belowB_leaf {t : Topo} (ht : TopoOk t) {x : Int} (hx : leafN t x < t.parents.length) {s : Nat} (hs : leafB t.parents (s : Int) = true) : belowB t (s : Int) x = decide (leafN t x = s) := by
 rw [Bool.eq_iff_iff, decide_eq_true_eq]
 show hasI (abv t.parents (leafN t x)) (s : Int) = true ↔ _
 rw [hasI_mem, abv, List.mem_cons]
 constructor
 ·rintro (h | h)
  ·omega
  ·obtain ⟨j, h1, h2, h3⟩ := abvU_par ht.valid _ hx _ h
   exact absurd h3 (leafB_iff.1 hs j h1 h2)
 ·intro h; exact .inl (by omega)
theorem underL_leaf {t : Topo} (ht : TopoOk t) {m : List Int} (hm : ∀ x ∈ m, leafN t x < t.parents.length) {s : Nat} (hs : leafB t.parents (s : Int) = true) : underL t m (s : Int) = m.filter fun x => decide (leafN t x = s) :=
 List.filter_congr fun x hx => belowB_leaf ht (hm x hx) hs
theorem filt_le {α : Type} {p q : α → Bool} (hpq : ∀ x, q x = true → p x = true) : ∀ (l : List α), (l.filter q).length ≤ (l.filter p).length
 | [] => Nat.le_refl _
 | x :: l => by
  have ih := filt_le hpq l
  rw [List.filter_cons, List.filter_cons]
  cases hq : q x with
  | true => rw [hpq x hq]; simp only [if_true, List.length_cons]; omega
  | false =>
   cases hp : p x with
   | true => simp only [if_true, Bool.false_eq_true, if_false, List.length_cons]; omega
   | false => simpa using ih
theorem filt_lt {α : Type} {p q : α → Bool} (hpq : ∀ x, q x = true → p x = true) : ∀ {l : List α} {a : α}, a ∈ l → p a = true → q a = false → (l.filter q).length < (l.filter p).length
 | [], _, h, _, _ => by cases h
 | x :: l, a, h, hp, hq => by
  have hle := filt_le hpq l
  rw [List.filter_cons, List.filter_cons]
  rcases List.mem_cons.1 h with rfl | h
  ·rw [hp, hq]
   simp only [if_true, Bool.false_eq_true, if_false, List.length_cons]; omega
  ·have ih := filt_lt hpq h hp hq
   cases hqx : q x with
   | true => rw [hpq x hqx]; simp only [if_true, List.length_cons]; omega
   | false =>
    cases hpx : p x with
    | true => simp only [if_true, Bool.false_eq_true, if_false, List.length_cons]; omega
    | false => simpa using ih
def cand (t : Topo) (m tk : List Int) (s : Nat) : Prop := 0 < cntU t m s ∧ (kidsZ t.parents (s : Int)).length = 0 ∧ hasI tk (s : Int) = false
theorem lfU_ok {t : Topo} {m tk : List Int} : ∀ (i : Nat), (0 ≤ lfU t m tk i → cand t m tk (lfU t m tk i).toNat) ∧ ∀ s, s < i → cand t m tk s → 0 ≤ lfU t m tk i
 | 0 => ⟨fun h => by simp [lfU] at h, fun s hs => absurd hs (Nat.not_lt_zero _)⟩
 | i + 1 => by
  obtain ⟨h1, h2⟩ := lfU_ok (t := t) (m := m) (tk := tk) i
  rw [lfU_s]
  unfold lfS
  split
  ·rename_i h
   exact ⟨fun _ => ⟨h.1, h.2.1, h.2.2.1⟩, fun _ _ _ => by omega⟩
  ·rename_i h
   refine ⟨h1, fun s hs hc => ?_⟩
   by_cases e : s = i
   ·subst e
    by_cases hb : lfU t m tk s < 0
    ·exact absurd ⟨hc.1, hc.2.1, hc.2.2, .inl hb⟩ h
    ·omega
   ·exact h2 s (by omega) hc
theorem lfI_ok {t : Topo} {m tk : List Int} {s : Nat} (hs : s < t.parents.length) (hc : cand t m tk s) : (0 ≤ lfI t m tk ∧ lfI t m tk < t.parents.length) ∧ cand t m tk (lfI t m tk).toNat := by
 obtain ⟨h1, h2⟩ := lfU_ok (t := t) (m := m) (tk := tk) t.parents.length
 have h3 := lfU_in (t := t) (l := m) (tk := tk) t.parents.length
 have h4 : 0 ≤ lfI t m tk := h2 s hs hc
 exact ⟨⟨h4, h3.2⟩, h1 h4⟩
theorem kids_leaf {ps : List Int} {s : Int} : (kidsZ ps s).length = 0 ↔ leafB ps s = true := by
 rw [List.length_eq_zero_iff, kidsZ_nil]
def cntT (t : Topo) (m tk : List Int) : Nat := (m.filter fun x => hasI tk (leafN t x : Int)).length
theorem cntT_0 (t : Topo) (m : List Int) : cntT t m [] = 0 := by
 unfold cntT
 rw [List.length_eq_zero_iff, List.filter_eq_nil_iff]
 intro x _
 simp [hasI]
theorem hasI_snoc {tk : List Int} {s x : Int} : hasI (tk ++ [s]) x = (hasI tk x || decide (x = s)) := by
 rw [Bool.eq_iff_iff, hasI_mem, Bool.or_eq_true, hasI_mem, decide_eq_true_eq, List.mem_append, List.mem_singleton]
theorem filt_or {α : Type} {p q : α → Bool} (h : ∀ x, p x = true → q x = false) : ∀ (l : List α), (l.filter fun x => p x || q x).length = (l.filter p).length + (l.filter q).length
 | [] => rfl
 | x :: l => by
  have ih := filt_or h l
  rw [List.filter_cons, List.filter_cons, List.filter_cons]
  cases hp : p x with
  | true => rw [h x hp]; simp only [Bool.true_or, if_true, Bool.false_eq_true, if_false, List.length_cons]; omega
  | false =>
   cases hq : q x with
   | true => simp only [Bool.or_true, if_true, Bool.false_eq_true, if_false, List.length_cons]; omega
   | false => simpa using ih
theorem cntT_add {t : Topo} (ht : TopoOk t) {m tk : List Int} (hm : ∀ x ∈ m, leafN t x < t.parents.length) {s : Nat} (hs : leafB t.parents (s : Int) = true) (hn : hasI tk (s : Int) = false) : cntT t m (tk ++ [(s : Int)]) = cntT t m tk + cntU t m s := by
 unfold cntT cntU
 rw [underL_leaf ht hm hs, ← filt_or]
 ·congr 1
  refine List.filter_congr fun x _ => ?_
  rw [hasI_snoc]
  congr 1
  rw [Bool.eq_iff_iff, decide_eq_true_eq, decide_eq_true_eq]; omega
 ·intro x hx
  rw [decide_eq_false_iff_not]
  intro e
  rw [e, hn] at hx
  cases hx
theorem cntT_lt {t : Topo} {m tk : List Int} (h : cntT t m tk < m.length) : ∃ x ∈ m, hasI tk (leafN t x : Int) = false := by
 refine Classical.byContradiction fun hn => ?_
 have : cntT t m tk = m.length := by
  unfold cntT
  rw [List.filter_eq_self.2 fun x hx => ?_]
  cases hh : hasI tk (leafN t x : Int) with
  | true => rfl
  | false => exact absurd ⟨x, hx, hh⟩ hn
 omega
def takeR (n : Int) (out g : List Int) : List Int := g.foldl (fun o x => if (o.length : Int) < n then rise x o else o) out
theorem rise_len (n : Int) : ∀ (l : List Int), (rise n l).length = l.length + 1
 | [] => rfl
 | x :: l => by
  unfold rise
  split
  ·rfl
  ·simp [rise_len n l]
theorem takeR_len {n : Int} : ∀ (g out : List Int), (out.length : Int) ≤ n → ((takeR n out g).length : Int) = min n (out.length + g.length)
 | [], out, h => by simp [takeR]; omega
 | x :: g, out, h => by
  have e : takeR n out (x :: g) = takeR n (if (out.length : Int) < n then rise x out else out) g := rfl
  rw [e]
  split
  ·rw [takeR_len g _ (by rw [rise_len]; omega), rise_len, List.length_cons]
   push_cast
   omega
  ·rw [takeR_len g _ h, List.length_cons]
   push_cast
   omega
def chR (t : Topo) (m : List Int) (n : Int) : Nat → List Int → List Int → List Int
 | 0, out, _ => out
 | f + 1, out, tk => if (out.length : Int) < n then chR t m n f (takeR n out (underL t m (lfI t m tk))) (tk ++ [lfI t m tk]) else out
def untk (t : Topo) (tk : List Int) : Nat := ((List.range t.parents.length).filter fun (s : Nat) => !hasI tk (s : Int)).length
structure ChJ (t : Topo) (m : List Int) (n : Int) (out tk : List Int) : Prop where
 len : (out.length : Int) = min n (cntT t m tk)
theorem ch_round {t : Topo} (ht : TopoOk t) {m : List Int} {n : Int} {out tk : List Int} (hm : ∀ x ∈ m, leafN t x < t.parents.length ∧ leafB t.parents (leafN t x : Int) = true) (hn : n ≤ m.length) (hj : ChJ t m n out tk) (hl : (out.length : Int) < n) :
  (0 ≤ lfI t m tk ∧ lfI t m tk < t.parents.length) ∧ ChJ t m n (takeR n out (underL t m (lfI t m tk))) (tk ++ [lfI t m tk]) ∧ untk t (tk ++ [lfI t m tk]) < untk t tk := by
 have hc : cntT t m tk < m.length := by have := hj.len; omega
 obtain ⟨x, hx, hh⟩ := cntT_lt hc
 obtain ⟨hx1, hx2⟩ := hm x hx
 have hcx : cand t m tk (leafN t x) := by
  refine ⟨?_, kids_leaf.2 hx2, hh⟩
  unfold cntU
  rw [underL_leaf ht (fun y hy => (hm y hy).1) hx2]
  exact List.length_pos_iff.2 (List.ne_nil_of_mem (List.mem_filter.2 ⟨hx, by simp⟩))
 obtain ⟨h1, h2, h3, h4⟩ := lfI_ok hx1 hcx
 have e : ((lfI t m tk).toNat : Int) = lfI t m tk := by omega
 rw [e] at h3 h4
 have hlf := kids_leaf.1 h3
 refine ⟨h1, ⟨?_⟩, ?_⟩
 ·rw [takeR_len _ _ (by omega), hj.len]
  have h5 := cntT_add ht (fun y hy => (hm y hy).1) (s := (lfI t m tk).toNat) (tk := tk) (by rw [e]; exact hlf) (by rw [e]; exact h4)
  have h6 : cntU t m (lfI t m tk).toNat = (underL t m (lfI t m tk)).length := by unfold cntU; rw [e]
  rw [e] at h5
  rw [h5, h6]
  push_cast
  omega
 ·unfold untk
  refine filt_lt (a := (lfI t m tk).toNat) (fun s hs => ?_) (List.mem_range.2 (by omega)) ?_ ?_
  ·rw [hasI_snoc] at hs
   simp only [Bool.not_or, Bool.and_eq_true] at hs
   exact hs.1
  ·rw [e, h4]; rfl
  ·rw [e, hasI_snoc]; simp
end Go.Proofs.YtliopiphobopjaaGreat
namespace Go.Proofs.YtliopiphobopjaaGreat
open Go Go.RowKit
attribute [local irreducible] AWp OpsOk OpOk ACalls ChA QsOk MCalls EnC PY
theorem swU_ok {t : Topo} {l : List Int} {n most : Int} : ∀ (i : Nat), 0 ≤ swU t l n most i → n ≤ (cntU t l (swU t l n most i).toNat : Int)
 | 0 => fun h => by simp [swU] at h
 | i + 1 => by
  have ih := swU_ok (t := t) (l := l) (n := n) (most := most) i
  rw [swU_s]
  unfold swS
  split
  ·rename_i h
   intro _
   exact h.1
  ·exact ih
def chooseO (t : Topo) (l : List Int) (n most : Int) : Option (List Int) := if swI t l n most < 0 then none else some (chR t (underL t l (swI t l n most)) n (t.parents.length + 1) [] [])
@[reducible] def optI (o : Option (List Int)) : List AV := [.d (.sl (intE (o.getD []))), .d (.b o.isSome)]
theorem takeR_step {n : Int} {out g : List Int} {j : Nat} (h : j < g.length) : takeR n out (g.take (j + 1)) = if ((takeR n out (g.take j)).length : Int) < n then rise (nth g j) (takeR n out (g.take j)) else takeR n out (g.take j) := by
 have e : nth g j = g[j] := by simp [nth, h]
 rw [List.take_succ_eq_append_getElem h, takeR, List.foldl_append, e]
 rfl
theorem untk_le (t : Topo) (tk : List Int) : untk t tk ≤ t.parents.length := by
 unfold untk
 exact Nat.le_trans (List.length_filter_le _ _) (by rw [List.length_range]; exact Nat.le_refl _)
theorem inNodes_leaf {t : Topo} (ht : TopoOk t) {l : List Int} (hl : inNodes t l) : ∀ x ∈ l, leafN t x < t.parents.length ∧ leafB t.parents (leafN t x : Int) = true := fun x hx => by
 obtain ⟨j, hj, rfl⟩ : ∃ j, j < l.length ∧ nth l j = x := by
  obtain ⟨i, hi, e⟩ := List.getElem_of_mem hx
  exact ⟨i, hi, by rw [nth, List.getD_eq_getElem?_getD, List.getElem?_eq_getElem hi]; exact e⟩
 obtain ⟨h1, h2⟩ := ht.leaf hl hj
 have h3 := hl j hj
 have h4 := (ht.nodes (nth l j).toNat (by omega)).2.1
 rw [h2] at h4
 exact ⟨h1, h4⟩
theorem under_sub {t : Topo} {l : List Int} {s : Int} : ∀ x ∈ underL t l s, x ∈ l := fun _ hx => (List.mem_filter.1 hx).1
theorem inNodes_mem {t : Topo} {l : List Int} : inNodes t l ↔ ∀ x ∈ l, 0 ≤ x ∧ x < t.nodes.length := by
 constructor
 ·intro h x hx
  obtain ⟨i, hi, e⟩ := List.getElem_of_mem hx
  have := h i hi
  rw [nth, List.getD_eq_getElem?_getD, List.getElem?_eq_getElem hi] at this
  rw [← e]; exact this
 ·intro h j hj
  exact h _ (nth_mem hj)
theorem inNodes_under {t : Topo} {l : List Int} {s : Int} (h : inNodes t l) : inNodes t (underL t l s) := inNodes_mem.2 fun x hx => inNodes_mem.1 h x (under_sub x hx)
theorem choose_s {t : Topo} {l : List Int} {n most : Int} (ht : TopoOk t) (hl : inNodes t l) (ha : ascP l) (hn : 1 ≤ n) (hll : l.length ≤ 1000000) : DC Tryz.prog 260 [topoA t, .d (.sl (intE l)), .d (.n .i64 n), .d (.n .i64 most)] (optI (chooseO t l n most)) := by
 refine mcalls_of tt Tryz.func260 rfl rfl rfl trivial (fun _ _ => ⟨trivial, trivial⟩) (fun w0 Z O => ?_)
 have htl := ht.len
 have htn := ht.nlen
 have hle := intE_length l
 have c1 := l02Nodes_e (t := t) (l := l) (by omega) (by omega) (by omega)
 rw [nodesB_iff.2 ⟨hl, ht⟩] at c1
 repeat' (first|refine zst ?_|(refine zhm fun hb=>?_;try exact zab)|refine zdr ?_|(apply zch;exact zcg)|refine HopS.mk fun w0 Z O=>?_|exact zhk|refine zg3 ?_ ?_|refine zln fun _=>?_|refine zop ?_|refine kc (c1) rfl rfl ?_|refine kq (c1) rfl rfl ?_|fail)
 refine awp_loop (fun (i : Nat) => ⟨89, [(1, .d (.sl (intE l))), (2, .d (.n .i64 n)), (3, .d (.n .i64 most)), (4, .ptr 4 0), (27, .d (.n .i64 (l.length : Nat))), (28, .d (.n .i64 i))], [(4, .box 39 (topoC t))]⟩) (fun i => i ≤ l.length) (fun i => l.length - i) 0 (by exact Nat.zero_le _) ?_ ?_
 ·refine ⟨rfl, ?_, ?_, rfl⟩
  repeat'(first|apply And.intro|exact ze0|refine ze1 ?_|refine zei ?_ ?_|exact rfl|trivial)
  all_goals exact Stop.mk (by first | rfl | exact intE_length _)
 intro k hk
 by_cases hk' : k < l.length
 ·by_cases hk0 : k = 0
  ·subst hk0
   repeat' (first|refine zst ?_|(refine zhm fun hb=>?_;try exact zab)|(apply awp_drawm2 6;kernel_rfl;exact rfl)|refine zdr ?_|(apply zch;exact zcg)|refine HopS.mk fun w0 Z O=>?_|exact zhk|refine zg3 ?_ ?_|refine zln fun _=>?_|refine zop ?_|fail)
   refine ⟨0 + 1, by omega, by omega, ?_⟩
   exact ⟨rfl, zae, zae, rfl⟩
  ·have has := ha (k - 1) (by omega)
   rw [show k - 1 + 1 = k by omega] at has
   repeat' (first|refine zst ?_|(refine zhm fun hb=>?_;try exact zab)|(apply awp_drawm2 6;kernel_rfl;exact rfl)|refine zdr ?_|(apply zch;exact zcg)|refine HopS.mk fun w0 Z O=>?_|exact zhk|refine zg3 ?_ ?_|refine zln fun _=>?_|refine zop ?_|fail)
   refine ⟨k + 1, by omega, by omega, ?_⟩
   exact ⟨rfl, zae, zae, rfl⟩
 have c2 := l04Switch_s (t := t) (l := l) (n := n) (most := most) ht hl hll
 have hin := swU_in (t := t) (l := l) (n := n) (most := most) t.parents.length
 have hok := swU_ok (t := t) (l := l) (n := n) (most := most) t.parents.length
 rw [show swU t l n most t.parents.length = swI t l n most from rfl] at hin hok
 by_cases hneg : swI t l n most < 0
 ·rw [show chooseO t l n most = none from if_pos hneg]
  repeat' (first|refine zsr ?_|(refine zhm fun hb=>?_;try exact zab)|refine zdr ?_|(apply zch;exact zcg)|refine HopS.mk fun w0 Z O=>?_|exact zhk|refine zg3 ?_ ?_|refine zln fun _=>?_|refine zop ?_|refine kc (c2) rfl rfl ?_|refine kq (c2) rfl rfl ?_|fail)
  show AWp _ _ _ _
  refine awp_dena ?_
  apply awp_ret'
  exact zm () [] trivial zae zae zae
 have hs0 : ((swI t l n most).toNat : Int) = swI t l n most := by omega
 have hcn := hok (by omega)
 unfold cntU at hcn
 rw [hs0] at hcn
 rw [show chooseO t l n most = some (chR t (underL t l (swI t l n most)) n (t.parents.length + 1) [] []) from if_neg hneg]
 have c3 := l04Of_s (t := t) (l := l) (s := swI t l n most) ht hl (by omega)
 have hml := underL_len (t := t) (l := l) (s := swI t l n most)
 have hmi := inNodes_under (s := swI t l n most) hl
 generalize underL t l (swI t l n most) = m at hcn c3 hml hmi
 have hmf := inNodes_leaf ht hmi
 have hle2 := intE_length m
 repeat' (first|refine zst ?_|(refine zhm fun hb=>?_;try exact zab)|refine zdr ?_|(apply zch;exact zcg)|refine HopS.mk fun w0 Z O=>?_|exact zhk|refine zg3 ?_ ?_|refine zln fun _=>?_|refine zop ?_|refine kc (c2) rfl rfl ?_|(refine km [] (c3) rfl rfl (fun i hi => ?_);(try dsimp only at hi))|refine kq (c2) rfl rfl ?_|fail)
 refine awp_frz 57 rfl ?_
 refine awp_loop (fun (x : Nat × List Int × List Int) => ⟨89, [(2, .d (.n .i64 n)), (4, .ptr 4 0), (12, .d (.sl (intE m))), (13, .d (.sl (intE x.2.1))), (14, .row 58)], [(4, .box 39 (topoC t)), (58, .row 3 (intE x.2.2) true)]⟩) (fun x => ChJ t m n x.2.1 x.2.2 ∧ x.2.2.length ≤ 24 ∧ untk t x.2.2 + x.2.2.length ≤ t.parents.length ∧ untk t x.2.2 < x.1 ∧ chR t m n x.1 x.2.1 x.2.2 = chR t m n (t.parents.length + 1) [] []) (fun x => x.1) (t.parents.length + 1, [], []) (by exact ⟨⟨by rw [cntT_0]; simp; omega⟩, by simp, by have := untk_le t []; simpa using this, by have := untk_le t []; dsimp only; omega, rfl⟩) ?_ ?_
 ·exact ⟨rfl, zae, zae, rfl⟩
 rintro ⟨f, out, tk⟩ ⟨hj, hk1, hk2, hk3, hk4⟩
 dsimp only at hj hk1 hk2 hk3 hk4 ⊢
 have hol := hj.len
 by_cases hlt : (out.length : Int) < n
 ·obtain ⟨g1, g2, g3⟩ := ch_round ht hmf hcn hj hlt
  obtain ⟨f', rfl⟩ : ∃ f', f = f' + 1 := ⟨f - 1, by omega⟩
  have hst : chR t m n (f' + 1) out tk = chR t m n f' (takeR n out (underL t m (lfI t m tk))) (tk ++ [lfI t m tk]) := if_pos hlt
  have c4 := l04Leaf_s (t := t) (l := m) (tk := tk) ht hmi (by omega) (by omega)
  have c5 := l04Of_s (t := t) (l := m) (s := lfI t m tk) ht hmi (by omega)
  have hgl := underL_len (t := t) (l := m) (s := lfI t m tk)
  generalize lfI t m tk = lf at g1 g2 g3 hst c4 c5 hgl
  generalize underL t m lf = g at g2 hst c5 hgl
  have hle3 := intE_length g
  repeat' (first|refine zst ?_|(refine zhm fun hb=>?_;try exact zab)|refine zdr ?_|(apply zch;exact zcg)|refine HopS.mk fun w0 Z O=>?_|exact zhk|refine zg3 ?_ ?_|refine zln fun _=>?_|refine zop ?_|refine kc (c4) rfl rfl ?_|(refine km [] (c5) rfl rfl (fun i hi => ?_);(try dsimp only at hi))|refine kq (c4) rfl rfl ?_|fail)
  refine awp_loop (fun (j : Nat) => ⟨89, [(2, .d (.n .i64 n)), (4, .ptr 4 0), (12, .d (.sl (intE m))), (13, .d (.sl (intE (takeR n out (g.take j))))), (14, .row 58), (74, .d (.sl (intE g))), (75, .d (.n .i64 (g.length : Nat))), (76, .d (.n .i64 j))], [(4, .box 39 (topoC t)), (58, .row 3 (intE (tk ++ [lf])) true)]⟩) (fun j => j ≤ g.length) (fun j => g.length - j) 0 (by exact Nat.zero_le _) ?_ ?_
  ·refine ⟨rfl, ?_, ?_, rfl⟩
   repeat'(first|apply And.intro|exact ze0|refine ze1 ?_|refine zei ?_ ?_|exact rfl|trivial)
   all_goals exact Stop.mk (by first | rfl | exact intE_length _ | exact intE_push _ _)
  intro j hjl
  have htl2 := takeR_len (n := n) (g.take j) out (by omega)
  have htl3 : ((takeR n out (g.take j)).length : Int) ≤ n := by omega
  by_cases hj' : j < g.length
  ·have hts := takeR_step (n := n) (out := out) hj'
   by_cases hlt2 : ((takeR n out (g.take j)).length : Int) < n
   ·rw [if_pos hlt2] at hts
    repeat' (first|refine zst ?_|(refine zhm fun hb=>?_;try exact zab)|refine zdr ?_|(apply zch;exact zcg)|refine HopS.mk fun w0 Z O=>?_|exact zhk|refine zg3 ?_ ?_|refine zln fun _=>?_|refine zop ?_|(refine km [] (l04Rise_s (l := takeR n out (g.take j)) (n := nth g j) (by omega)) rfl rfl (fun i hi => ?_);(try dsimp only at hi))|fail)
    refine ⟨j + 1, by omega, by omega, ?_⟩
    refine ⟨rfl, ?_, ?_, rfl⟩
    repeat'(first|apply And.intro|exact ze0|refine ze1 ?_|refine zei ?_ ?_|exact rfl|trivial)
    all_goals exact Stop.mk (by first | rfl | rw [hts])
   ·rw [if_neg hlt2] at hts
    repeat' (first|refine zst ?_|(refine zhm fun hb=>?_;try exact zab)|refine zdr ?_|(apply zch;exact zcg)|refine HopS.mk fun w0 Z O=>?_|exact zhk|refine zg3 ?_ ?_|refine zln fun _=>?_|refine zop ?_|fail)
    refine ⟨j + 1, by omega, by omega, ?_⟩
    refine ⟨rfl, ?_, ?_, rfl⟩
    repeat'(first|apply And.intro|exact ze0|refine ze1 ?_|refine zei ?_ ?_|exact rfl|trivial)
    all_goals exact Stop.mk (by first | rfl | rw [hts])
  ·obtain rfl : j = g.length := by omega
   rw [List.take_length] at *
   repeat' (first|refine zst ?_|(refine zhm fun hb=>?_;try exact zab)|refine zdr ?_|(apply zch;exact zcg)|refine HopS.mk fun w0 Z O=>?_|exact zhk|refine zg3 ?_ ?_|refine zln fun _=>?_|refine zop ?_|fail)
   refine ⟨(f', takeR n out g, tk ++ [lf]), ⟨g2, ?_, ?_, ?_, ?_⟩, ?_, ?_⟩
   ·simp only [List.length_append, List.length_singleton]; omega
   ·simp only [List.length_append, List.length_singleton]; omega
   ·dsimp only; omega
   ·dsimp only; rw [← hst]; exact hk4
   ·dsimp only; omega
   exact ⟨rfl, zae, zae, rfl⟩
 ·have hfin : chR t m n f out tk = out := by
   cases f with
   | zero => rfl
   | succ f => exact if_neg hlt
  rw [← hk4, hfin]
  repeat' (first|refine zsr ?_|(refine zhm fun hb=>?_;try exact zab)|refine zdr ?_|(apply zch;exact zcg)|refine HopS.mk fun w0 Z O=>?_|exact zhk|refine zg3 ?_ ?_|refine zln fun _=>?_|refine zop ?_|fail)
  show AWp _ _ _ _
  refine awp_dena ?_
  apply awp_ret'
  exact zm () [] trivial zae zae zae
end Go.Proofs.YtliopiphobopjaaGreat
