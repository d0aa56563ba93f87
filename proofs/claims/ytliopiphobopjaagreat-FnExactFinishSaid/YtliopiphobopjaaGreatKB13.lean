/-
  Placement: what is free least, the program's; the nodes that will do; both.
-/
import Derived.Test.YtliopiphobopjaaGreatKShL
import Derived.Test.YtliopiphobopjaaGreatKB11
import Derived.Test.YtliopiphobopjaaGreatKB17
import Derived.Test.YtliopiphobopjaaGreatKB18
set_option maxRecDepth 100000
set_option maxHeartbeats 16000000
namespace Go.Proofs.YtliopiphobopjaaGreat
open Go Go.RowKit
attribute [local irreducible] AWp OpsOk OpOk ACalls ChA QsOk MCalls EnC PY

theorem ats_lt {l : List Pt} (h : ProfOk l) : ∀ (k i : Nat), i + k + 1 < l.length → (nth l i).at' < (nth l (i + k + 1)).at'
 | 0, i, hi => (h.steps i hi).1
 | k + 1, i, hi => by
  have h1 := ats_lt h k i (by omega)
  have h2 := (h.steps (i + k + 1) hi).1
  rw [show i + (k + 1) + 1 = i + k + 1 + 1 by omega]
  omega
theorem ats_lt' {l : List Pt} (h : ProfOk l) {i j : Nat} (hij : i < j) (hj : j < l.length) : (nth l i).at' < (nth l j).at' := by
 have := ats_lt h (j - i - 1) i (by omega)
 rw [show i + (j - i - 1) + 1 = j by omega] at this
 exact this
theorem freeP_at {l : List Pt} (h : ProfOk l) {i : Nat} (hi : i < l.length) {a : Int} (ha : (nth l i).at' = a) : ∀ (k : Nat), i + 1 + k ≤ l.length → freeP (l.take (i + 1 + k)) a = (nth l i).free
 | 0, _ => by rw [Nat.add_zero, freeP_step hi, if_pos (by omega)]
 | k + 1, hk => by
  have h1 := ats_lt' h (i := i) (j := i + 1 + k) (by omega) (by omega)
  rw [← Nat.add_assoc, freeP_step (by omega), if_neg (by omega)]
  exact freeP_at h hi ha k (by omega)
theorem leastF_none {l : List Pt} {a b : Int} {v : V3} : ∀ (i : Nat), i ≤ l.length → (∀ j, j < i → (nth l j).at' < a) → leastF (l.take i) a b v = v
 | 0, _, _ => by simp [leastF]
 | i + 1, hi, h => by
  have := h i (by omega)
  rw [leastF_step (by omega), if_neg (by omega)]
  exact leastF_none i (by omega) fun j hj => h j (by omega)
theorem minO_self {v : V3} (h : vecOkB v = true) : minO v v = v := by
 rw [minO_s h h]
 cases v
 simp [minV]
def leastG (l : List Pt) (a b : Int) (v0 : V3) : V3 := l.foldl (fun v x => if a < x.at' ∧ x.at' < b then minO v x.free else v) v0
theorem leastG_step {l : List Pt} {i : Nat} (h : i < l.length) (a b : Int) (v0 : V3) : leastG (l.take (i + 1)) a b v0 = if a < (nth l i).at' ∧ (nth l i).at' < b then minO (leastG (l.take i) a b v0) (nth l i).free else leastG (l.take i) a b v0 := by
 rw [take_snoc h, leastG, List.foldl_append]
 rfl
theorem leastG_eq {l : List Pt} (h : ProfOk l) {a b : Int} : ∀ (i : Nat), i ≤ l.length → leastG (l.take i) a b (freeP l a) = leastF (l.take i) a b (freeP l a)
 | 0, _ => by simp [leastG, leastF]
 | i + 1, hi => by
  have ih := leastG_eq h (a := a) (b := b) i (by omega)
  rw [leastG_step (by omega), leastF_step (by omega), ih]
  by_cases h1 : a < (nth l i).at' ∧ (nth l i).at' < b
  ·rw [if_pos h1, if_pos ⟨by omega, by omega⟩]
  ·rw [if_neg h1]
   by_cases h2 : a ≤ (nth l i).at' ∧ (nth l i).at' < b
   ·rw [if_pos h2]
    have e : (nth l i).at' = a := by omega
    have hf := freeP_at h (i := i) (by omega) e (l.length - (i + 1)) (by omega)
    rw [show i + 1 + (l.length - (i + 1)) = l.length by omega, List.take_length] at hf
    rw [leastF_none i (by omega) fun j hj => by have := ats_lt' h hj (by omega); omega, hf, minO_self (h.pts i (by omega)).2]
   ·rw [if_neg h2]
theorem least_e {l : List Pt} {a b : Int} (h : ProfOk l) : ACalls Tryz.prog 212 [profA l, .d (.n .i64 a), .d (.n .i64 b)] [vecA (leastS l a b)] [] := by
  refine acalls_of tt Tryz.func212 rfl rfl rfl (fun w0 Z => ?_)
  have hpl := ptE_length l
  have hln := h.len
  repeat' (first|refine zst ?_|(refine zhm fun hb=>?_;try exact zab)|refine zg2 ?_ ?_|refine zln fun _=>?_|refine zop ?_|refine kc (free_e (l := l) (t := a) (by omega)) rfl rfl ?_|fail)
  refine awp_loop (fun (i : Nat) => ⟨36, [(1, .d (.n .i64 a)), (2, .d (.n .i64 b)), (6, .ptr 6 0), (7, .ptr 7 0), (14, .d (.sl (ptE l))), (15, .d (.n .i64 (l.length : Nat))), (16, .d (.n .i64 i))], [(6, .box 35 (vecC zV)), (7, .box 35 (vecC (leastG (l.take i) a b (freeP l a))))]⟩) (fun i => i ≤ l.length) (fun i => l.length - i) 0 (by exact Nat.zero_le _) ?_ ?_
  · refine ⟨rfl, ?_, ?_, rfl⟩
    repeat'(first|apply And.intro|exact ze0|refine ze1 ?_|refine zei ?_ ?_|exact rfl|trivial)
    all_goals exact Stop.mk (by first | rfl | exact ptE_length _)
  intro i hi
  by_cases hi' : i < l.length
  · have hst := leastG_step (a := a) (b := b) (v0 := freeP l a) hi'
    by_cases hq : a < (nth l i).at' ∧ (nth l i).at' < b
    · rw [if_pos hq] at hst
      obtain ⟨hq1, hq2⟩ := hq
      repeat' (first|refine zst ?_|(refine zhm fun hb=>?_;try exact zab)|refine zg2 ?_ ?_|refine zln fun _=>?_|refine zop ?_|refine kc (vecMin_e (a := leastG (l.take i) a b (freeP l a)) (b := (nth l i).free)) rfl rfl ?_|fail)
      refine ⟨i + 1, by omega, by omega, ?_⟩
      refine ⟨rfl, ?_, ?_, rfl⟩
      repeat'(first|apply And.intro|exact ze0|refine ze1 ?_|refine zei ?_ ?_|exact rfl|trivial)
      all_goals exact Stop.mk (by first | rfl | rw [hst])
    · rw [if_neg hq] at hst
      repeat' (first|refine zst ?_|(refine zhm fun hb=>?_;try exact zab)|refine zg2 ?_ ?_|refine zln fun _=>?_|refine zop ?_|fail)
      all_goals first
        | exact absurd ⟨by omega, by omega⟩ hq
        | (refine ⟨i + 1, by omega, by omega, ?_⟩
           refine ⟨rfl, ?_, ?_, rfl⟩
           repeat'(first|apply And.intro|exact ze0|refine ze1 ?_|refine zei ?_ ?_|exact rfl|trivial)
           all_goals exact Stop.mk (by first | rfl | rw [hst]))
  · have hfin : leastG (l.take i) a b (freeP l a) = leastS l a b := by
      rw [leastG_eq h i hi, List.take_of_length_le (by omega)]
      rfl
    repeat' (first|refine zst ?_|(refine zhm fun hb=>?_;try exact zab)|refine zg2 ?_ ?_|refine zln fun _=>?_|refine zop ?_|fail)
    refine zr [] ?_ ?_
    repeat'(first|apply And.intro|exact ze0|refine ze1 ?_|refine zei ?_ ?_|exact rfl|trivial)
    all_goals exact Stop.mk (by first | rfl | rw [hfin])
def elB (r : Room) (need : V3) (a b : Int) (i : Nat) : Bool := nth r.up i && fitsB need (leastS (nth r.profs i) a b)
def elU (r : Room) (need : V3) (a b : Int) (i : Nat) : List Int := ((List.range i).filter (elB r need a b)).map fun (i : Nat) => (i : Int)
def eligL (r : Room) (need : V3) (a b : Int) : List Int := elU r need a b r.profs.length
theorem elU_s (r : Room) (need : V3) (a b : Int) (i : Nat) : elU r need a b (i + 1) = if elB r need a b i = true then elU r need a b i ++ [(i : Int)] else elU r need a b i := by
 unfold elU
 rw [List.range_succ, List.filter_append, List.map_append]
 split
 ·rename_i h; simp [h]
 ·rename_i h; simp [h]
theorem elU_len (r : Room) (need : V3) (a b : Int) (i : Nat) : (elU r need a b i).length ≤ i := by
 unfold elU
 rw [List.length_map]
 exact Nat.le_trans (List.length_filter_le _ _) (by rw [List.length_range]; exact Nat.le_refl _)
end Go.Proofs.YtliopiphobopjaaGreat
namespace Go.Proofs.YtliopiphobopjaaGreat
open Go Go.RowKit
attribute [local irreducible] AWp OpsOk OpOk ACalls ChA QsOk MCalls EnC PY

theorem elB_iff {r : Room} {need : V3} {a b : Int} {i : Nat} : elB r need a b i = true ↔ nth r.up i = true ∧ fitsB need (leastS (nth r.profs i) a b) = true := by unfold elB; rw [Bool.and_eq_true]
theorem eligible_e {r : Room} {need : V3} {a b : Int} (h : RoomOk r) : DC Tryz.prog 214 [roomA r, vecA need, .d (.n .i64 a), .d (.n .i64 b)] [.d (.sl (intE (eligL r need a b)))] := by
  refine mcalls_of tt Tryz.func214 rfl rfl rfl trivial (fun _ _ => ⟨trivial, trivial⟩) (fun w0 Z O => ?_)
  have hs := h.small
  have h1 := h.up
  have h2 := h.num
  have hpl := profsE_length r.profs
  have hbl := boolE_length r.up
  repeat' (first|refine zst ?_|(refine zhm fun hb=>?_;try exact zab)|refine zdr ?_|(apply zch;exact zcg)|refine HopS.mk fun w0 Z O=>?_|exact zhk|refine zg3 ?_ ?_|refine zln fun _=>?_|refine zop ?_|fail)
  refine awp_loop (fun (i : Nat) => ⟨40, [(2, .d (.n .i64 a)), (3, .d (.n .i64 b)), (4, .ptr 4 0), (5, .ptr 5 0), (9, .row 12), (14, .d (.sl (profsE r.profs))), (15, .d (.n .i64 (r.profs.length : Nat))), (16, .d (.n .i64 i))], [(4, .box 152 (roomC r)), (5, .box 35 (vecC need)), (12, .row 3 (intE (elU r need a b i)) true)]⟩) (fun i => i ≤ r.profs.length) (fun i => r.profs.length - i) 0 (by exact Nat.zero_le _) ?_ ?_
  · refine ⟨rfl, ?_, ?_, rfl⟩
    repeat'(first|apply And.intro|exact ze0|refine ze1 ?_|refine zei ?_ ?_|exact rfl|trivial)
    all_goals exact Stop.mk (by first | rfl | exact profsE_length _)
  intro i hi
  have hel := elU_len r need a b i
  by_cases hi' : i < r.profs.length
  · have hst := elU_s r need a b i
    have c1 := least_e (a := a) (b := b) (h.profs i hi')
    have c2 := vecFits_e (a := need) (b := leastS (nth r.profs i) a b)
    cases hE : elB r need a b i with
    | true =>
      rw [if_pos hE] at hst
      obtain ⟨e1, e2⟩ := elB_iff.1 hE
      rw [e2] at c2
      repeat' (first|refine zst ?_|(refine zhm fun hb=>?_;try exact zab)|refine zdr ?_|(apply zch;exact zcg)|refine HopS.mk fun w0 Z O=>?_|exact zhk|refine zg3 ?_ ?_|refine zln fun _=>?_|refine zop ?_|refine kc (c1) rfl rfl ?_|refine kc (c2) rfl rfl ?_|refine kq (c1) rfl rfl ?_|refine kq (c2) rfl rfl ?_|fail)
      all_goals first
        | (rw [e1] at hb; cases hb; done)
        | (refine ⟨i + 1, by omega, by omega, ?_⟩
           refine ⟨rfl, ?_, ?_, rfl⟩
           repeat'(first|apply And.intro|exact ze0|refine ze1 ?_|refine zei ?_ ?_|exact rfl|trivial)
           all_goals exact Stop.mk (by first | rfl | (rw [hst]; exact intE_push _ _)))
    | false =>
      rw [if_neg (by rw [hE]; simp)] at hst
      cases e2 : fitsB need (leastS (nth r.profs i) a b) with
      | true =>
        rw [e2] at c2
        repeat' (first|refine zst ?_|(refine zhm fun hb=>?_;try exact zab)|refine zdr ?_|(apply zch;exact zcg)|refine HopS.mk fun w0 Z O=>?_|exact zhk|refine zg3 ?_ ?_|refine zln fun _=>?_|refine zop ?_|refine kc (c1) rfl rfl ?_|refine kc (c2) rfl rfl ?_|refine kq (c1) rfl rfl ?_|refine kq (c2) rfl rfl ?_|fail)
        all_goals first
          | (have := elB_iff.2 ⟨hb, e2⟩; rw [hE] at this; cases this; done)
          | (refine ⟨i + 1, by omega, by omega, ?_⟩
             refine ⟨rfl, ?_, ?_, rfl⟩
             repeat'(first|apply And.intro|exact ze0|refine ze1 ?_|refine zei ?_ ?_|exact rfl|trivial)
             all_goals exact Stop.mk (by first | rfl | rw [hst]))
      | false =>
        rw [e2] at c2
        repeat' (first|refine zst ?_|(refine zhm fun hb=>?_;try exact zab)|refine zdr ?_|(apply zch;exact zcg)|refine HopS.mk fun w0 Z O=>?_|exact zhk|refine zg3 ?_ ?_|refine zln fun _=>?_|refine zop ?_|refine kc (c1) rfl rfl ?_|refine kc (c2) rfl rfl ?_|refine kq (c1) rfl rfl ?_|refine kq (c2) rfl rfl ?_|fail)
        all_goals
          refine ⟨i + 1, by omega, by omega, ?_⟩
          refine ⟨rfl, ?_, ?_, rfl⟩
          repeat'(first|apply And.intro|exact ze0|refine ze1 ?_|refine zei ?_ ?_|exact rfl|trivial)
          all_goals exact Stop.mk (by first | rfl | rw [hst])
  · obtain rfl : i = r.profs.length := by omega
    repeat' (first|refine zsr ?_|(refine zhm fun hb=>?_;try exact zab)|refine zdr ?_|(apply zch;exact zcg)|refine HopS.mk fun w0 Z O=>?_|exact zhk|refine zg3 ?_ ?_|refine zln fun _=>?_|refine zop ?_|fail)
    show AWp _ _ _ _
    refine awp_frz 12 rfl ?_
    refine awp_dena ?_
    apply awp_ret'
    exact zm () [] trivial zae zae zae
theorem eligible_s {r : Room} {need : V3} {a b : Int} (h : RoomOk r) (hs : spanB a b = true) : DC Tryz.prog 261 [roomA r, vecA need, .d (.n .i64 a), .d (.n .i64 b)] [.d (.sl (intE (eligL r need a b)))] := by
  refine mcalls_of tt Tryz.func261 rfl rfl rfl trivial (fun _ _ => ⟨trivial, trivial⟩) (fun w0 Z O => ?_)
  have hs' := h.small
  have h1 := h.up
  have h2 := h.num
  have hpl := profsE_length r.profs
  have hbl := boolE_length r.up
  have c0 := roomOk_s h
  repeat' (first|refine zst ?_|(refine zhm fun hb=>?_;try exact zab)|refine zg2 ?_ ?_|refine zln fun _=>?_|refine zop ?_|refine kc (c0) rfl rfl ?_|fail)
  refine awp_loop (fun (i : Nat) => ⟨54, [(2, .d (.n .i64 a)), (3, .d (.n .i64 b)), (4, .ptr 4 0), (5, .ptr 5 0), (9, .row 13), (20, .d (.n .i64 (r.profs.length : Nat))), (21, .d (.n .i64 i))], [(4, .box 152 (roomC r)), (5, .box 35 (vecC need)), (13, .row 3 (intE (elU r need a b i)) true)]⟩) (fun i => i ≤ r.profs.length) (fun i => r.profs.length - i) 0 (by exact Nat.zero_le _) ?_ ?_
  · refine ⟨rfl, ?_, ?_, rfl⟩
    repeat'(first|apply And.intro|exact ze0|refine ze1 ?_|refine zei ?_ ?_|exact rfl|trivial)
    all_goals exact Stop.mk (by first | rfl | exact profsE_length _)
  intro i hi
  have hel := elU_len r need a b i
  by_cases hi' : i < r.profs.length
  · have hst := elU_s r need a b i
    have hp := h.profs i hi'
    have hpn := hp.len
    have c1 := profMin_s (l := nth r.profs i) (a := a) (b := b) (by omega)
    rw [profOkB_t.2 hp, hs, Bool.and_self] at c1
    have c2 := vecFits_s (a := need) (b := leastS (nth r.profs i) a b)
    cases hE : elB r need a b i with
    | true =>
      rw [if_pos hE] at hst
      obtain ⟨e1, e2⟩ := elB_iff.1 hE
      rw [e2] at c2
      repeat' (first|refine zst ?_|(refine zhm fun hb=>?_;try exact zab)|refine zg2 ?_ ?_|refine zln fun _=>?_|refine zop ?_|refine kc (c1) rfl rfl ?_|refine kc (c2) rfl rfl ?_|fail)
      all_goals first
        | (rw [e1] at hb; cases hb; done)
        | (refine ⟨i + 1, by omega, by omega, ?_⟩
           refine ⟨rfl, ?_, ?_, rfl⟩
           repeat'(first|apply And.intro|exact ze0|refine ze1 ?_|refine zei ?_ ?_|exact rfl|trivial)
           all_goals exact Stop.mk (by first | rfl | (rw [hst]; exact intE_push _ _)))
    | false =>
      rw [if_neg (by rw [hE]; simp)] at hst
      cases e2 : fitsB need (leastS (nth r.profs i) a b) with
      | true =>
        rw [e2] at c2
        repeat' (first|refine zst ?_|(refine zhm fun hb=>?_;try exact zab)|refine zg2 ?_ ?_|refine zln fun _=>?_|refine zop ?_|refine kc (c1) rfl rfl ?_|refine kc (c2) rfl rfl ?_|fail)
        all_goals first
          | (have := elB_iff.2 ⟨hb, e2⟩; rw [hE] at this; cases this; done)
          | (refine ⟨i + 1, by omega, by omega, ?_⟩
             refine ⟨rfl, ?_, ?_, rfl⟩
             repeat'(first|apply And.intro|exact ze0|refine ze1 ?_|refine zei ?_ ?_|exact rfl|trivial)
             all_goals exact Stop.mk (by first | rfl | rw [hst]))
      | false =>
        rw [e2] at c2
        repeat' (first|refine zst ?_|(refine zhm fun hb=>?_;try exact zab)|refine zg2 ?_ ?_|refine zln fun _=>?_|refine zop ?_|refine kc (c1) rfl rfl ?_|refine kc (c2) rfl rfl ?_|fail)
        all_goals
          refine ⟨i + 1, by omega, by omega, ?_⟩
          refine ⟨rfl, ?_, ?_, rfl⟩
          repeat'(first|apply And.intro|exact ze0|refine ze1 ?_|refine zei ?_ ?_|exact rfl|trivial)
          all_goals exact Stop.mk (by first | rfl | rw [hst])
  · obtain rfl : i = r.profs.length := by omega
    repeat' (first|refine zsr ?_|(refine zhm fun hb=>?_;try exact zab)|refine zg2 ?_ ?_|refine zln fun _=>?_|refine zop ?_|fail)
    show AWp _ _ _ _
    refine awp_frz 13 rfl ?_
    refine awp_dena ?_
    apply awp_ret'
    exact zm () [] trivial zae zae zae
end Go.Proofs.YtliopiphobopjaaGreat
namespace Go.Proofs.YtliopiphobopjaaGreat
open Go Go.RowKit
attribute [local irreducible] AWp OpsOk OpOk ACalls ChA QsOk MCalls EnC PY

/-! ### Plain -/
theorem elU_ris {r : Room} {need : V3} {a b : Int} (i : Nat) : risI (elU r need a b i) := by
 unfold risI elU
 rw [List.pairwise_map]
 exact (List.pairwise_lt_range.filter _).imp fun h => by omega
theorem eligL_mem {r : Room} {need : V3} {a b : Int} {x : Int} (h : x ∈ eligL r need a b) : 0 ≤ x ∧ x < r.profs.length := by
 obtain ⟨i, hi, rfl⟩ := List.mem_map.1 h
 have := List.mem_range.1 (List.mem_filter.1 hi).1
 omega
theorem eligL_in {r : Room} (h : RoomOk r) {need : V3} {a b : Int} : inNodes r.topo (eligL r need a b) := inNodes_mem.2 fun x hx => by
 have := eligL_mem hx
 have := h.num
 omega
theorem eligL_asc {r : Room} {need : V3} {a b : Int} : ascP (eligL r need a b) := fun j hj => by
 have h := List.pairwise_iff_getElem.1 (elU_ris (r := r) (need := need) (a := a) (b := b) r.profs.length) j (j + 1) (by show j < (eligL r need a b).length; omega) hj (by omega)
 rw [nth_eq (by omega), nth_eq hj]
 exact h
theorem eligL_len {r : Room} {need : V3} {a b : Int} : (eligL r need a b).length ≤ r.profs.length := elU_len _ _ _ _ _
def tmS (a : Int) (out : List Int) (x : Int) : List Int := if a < x ∧ hasI out x = false then rise x out else out
def tmP (a : Int) (out : List Int) (p : List Pt) : List Int := p.foldl (fun o x => tmS a o x.at') out
def tmL (a : Int) (ps : List (List Pt)) : List Int := ps.foldl (tmP a) [a]
theorem tmP_step {a : Int} {out : List Int} {p : List Pt} {i : Nat} (h : i < p.length) : tmP a out (p.take (i + 1)) = tmS a (tmP a out (p.take i)) (nth p i).at' := by
 rw [take_snoc h, tmP, List.foldl_append]
 rfl
theorem tmL_step {a : Int} {ps : List (List Pt)} {i : Nat} (h : i < ps.length) : tmL a (ps.take (i + 1)) = tmP a (tmL a (ps.take i)) (nth ps i) := by
 rw [take_snoc h, tmL, List.foldl_append]
 rfl
theorem tmP_len {a : Int} : ∀ (p : List Pt) (out : List Int), (tmP a out p).length ≤ out.length + p.length
 | [], out => Nat.le_refl _
 | x :: p, out => by
  have h := tmP_len (a := a) p (tmS a out x.at')
  have h2 : (tmS a out x.at').length ≤ out.length + 1 := by
   unfold tmS
   split
   ·rw [rise_len]; exact Nat.le_refl _
   ·omega
  show (tmP a (tmS a out x.at') p).length ≤ _
  rw [List.length_cons]
  omega
theorem tmL_len {a : Int} {ps : List (List Pt)} (h : ∀ p ∈ ps, p.length ≤ 200) : ∀ (i : Nat), i ≤ ps.length → (tmL a (ps.take i)).length ≤ 1 + 200 * i
 | 0, _ => by simp [tmL]
 | i + 1, hi => by
  have h1 := tmL_len (a := a) h i (by omega)
  have h2 := h _ (nth_mem (show i < ps.length by omega))
  rw [tmL_step (by omega)]
  have := tmP_len (a := a) (nth ps i) (tmL a (ps.take i))
  omega
theorem rise_mem {n x : Int} : ∀ {l : List Int}, x ∈ rise n l ↔ x = n ∨ x ∈ l
 | [] => by simp [rise]
 | y :: l => by
  unfold rise
  split
  ·simp
  ·rw [List.mem_cons, rise_mem (l := l), List.mem_cons]
   constructor
   ·rintro (h | h | h)
    ·exact .inr (.inl h)
    ·exact .inl h
    ·exact .inr (.inr h)
   ·rintro (h | h | h)
    ·exact .inr (.inl h)
    ·exact .inl h
    ·exact .inr (.inr h)
theorem rise_ris {n : Int} : ∀ {l : List Int}, risI l → n ∉ l → risI (rise n l)
 | [], _, _ => by simp [rise, risI]
 | y :: l, h, hn => by
  unfold risI at h
  have h' := List.pairwise_cons.1 h
  have hy : n ≠ y := fun e => hn (e ▸ List.mem_cons_self)
  unfold rise
  split
  ·rename_i hlt
   refine List.pairwise_cons.2 ⟨fun z hz => ?_, h⟩
   rcases List.mem_cons.1 hz with rfl | hz
   ·omega
   ·have := h'.1 z hz; omega
  ·rename_i hlt
   refine List.pairwise_cons.2 ⟨fun z hz => ?_, rise_ris h'.2 fun e => hn (List.mem_cons_of_mem _ e)⟩
   rcases rise_mem.1 hz with rfl | hz
   ·omega
   ·exact h'.1 z hz
theorem tmS_ris {a x : Int} {out : List Int} (h : risI out) : risI (tmS a out x) ∧ ∀ y, y ∈ tmS a out x ↔ y ∈ out ∨ a < x ∧ y = x := by
 unfold tmS
 split
 ·rename_i hc
  have hn : x ∉ out := fun e => by rw [hasI_mem.2 e] at hc; cases hc.2
  refine ⟨rise_ris h hn, fun y => ?_⟩
  rw [rise_mem]
  exact ⟨fun e => e.elim (fun e => .inr ⟨hc.1, e⟩) .inl, fun e => e.elim .inr fun e => .inl e.2⟩
 ·rename_i hc
  refine ⟨h, fun y => ⟨.inl, fun e => e.elim id fun e => ?_⟩⟩
  cases hh : hasI out x with
  | true => rw [e.2]; exact hasI_mem.1 hh
  | false => exact absurd ⟨e.1, hh⟩ hc
theorem tmP_ris {a : Int} : ∀ {p : List Pt} {out : List Int}, risI out → risI (tmP a out p) ∧ ∀ y, y ∈ tmP a out p ↔ y ∈ out ∨ ∃ x ∈ p, a < x.at' ∧ y = x.at'
 | [], out, h => ⟨h, fun y => by simp [tmP]⟩
 | x :: p, out, h => by
  obtain ⟨h1, h2⟩ := tmS_ris (a := a) (x := x.at') h
  obtain ⟨h3, h4⟩ := tmP_ris (a := a) (p := p) h1
  refine ⟨h3, fun y => ?_⟩
  rw [show tmP a out (x :: p) = tmP a (tmS a out x.at') p from rfl, h4, h2]
  constructor
  ·rintro ((h | h) | ⟨z, hz, h⟩)
   ·exact .inl h
   ·exact .inr ⟨x, List.mem_cons_self, h⟩
   ·exact .inr ⟨z, List.mem_cons_of_mem _ hz, h⟩
  ·rintro (h | ⟨z, hz, h⟩)
   ·exact .inl (.inl h)
   ·rcases List.mem_cons.1 hz with rfl | hz
    ·exact .inl (.inr h)
    ·exact .inr ⟨z, hz, h⟩
theorem tmF_ris {a : Int} : ∀ {ps : List (List Pt)} {out : List Int}, risI out → risI (ps.foldl (tmP a) out) ∧ ∀ y, y ∈ ps.foldl (tmP a) out ↔ y ∈ out ∨ ∃ p ∈ ps, ∃ x ∈ p, a < x.at' ∧ y = x.at'
 | [], out, h => ⟨h, fun y => by simp⟩
 | p :: ps, out, h => by
  obtain ⟨h1, h2⟩ := tmP_ris (a := a) (p := p) h
  obtain ⟨h3, h4⟩ := tmF_ris (a := a) (ps := ps) h1
  refine ⟨h3, fun y => ?_⟩
  rw [List.foldl_cons, h4, h2]
  constructor
  ·rintro ((h | h) | ⟨z, hz, h⟩)
   ·exact .inl h
   ·exact .inr ⟨p, List.mem_cons_self, h⟩
   ·exact .inr ⟨z, List.mem_cons_of_mem _ hz, h⟩
  ·rintro (h | ⟨z, hz, h⟩)
   ·exact .inl (.inl h)
   ·rcases List.mem_cons.1 hz with rfl | hz
    ·exact .inl (.inr h)
    ·exact .inr ⟨z, hz, h⟩
def timR (r : Room) (a : Int) : List Int := tmL a (r.profs ++ [r.lics])
theorem timR_ris (r : Room) (a : Int) : risI (timR r a) ∧ ∀ y, y ∈ timR r a ↔ y = a ∨ ∃ p ∈ r.profs ++ [r.lics], ∃ x ∈ p, a < x.at' ∧ y = x.at' := by
 obtain ⟨h1, h2⟩ := tmF_ris (a := a) (ps := r.profs ++ [r.lics]) (out := [a]) (by simp [risI])
 exact ⟨h1, fun y => by rw [show timR r a = (r.profs ++ [r.lics]).foldl (tmP a) [a] from rfl, h2, List.mem_singleton]⟩
theorem RoomOk.parts {r : Room} (h : RoomOk r) : ∀ p ∈ r.profs ++ [r.lics], ProfOk p := fun p hp => by
 rcases List.mem_append.1 hp with hp | hp
 ·obtain ⟨j, hj, rfl⟩ := mem_nth hp
  exact h.profs j hj
 ·rw [List.mem_singleton.1 hp]; exact h.lics
theorem timR_in {r : Room} (h : RoomOk r) {a : Int} (ha : 0 ≤ a ∧ a ≤ 1000000000) : ∀ y ∈ timR r a, a ≤ y ∧ y ≤ 1000000000 := fun y hy => by
 rcases ((timR_ris r a).2 y).1 hy with rfl | ⟨p, hp, x, hx, h1, rfl⟩
 ·omega
 ·obtain ⟨j, hj, rfl⟩ := mem_nth hx
  have := ((h.parts p hp).pts j hj).1
  omega
theorem timR_len {r : Room} (h : RoomOk r) (a : Int) : (timR r a).length ≤ 10000 := by
 have hs := h.small
 have h1 := tmL_len (a := a) (fun p hp => (h.parts p hp).len.2) (r.profs ++ [r.lics]).length (Nat.le_refl _)
 rw [List.take_length] at h1
 have h2 : (r.profs ++ [r.lics]).length ≤ 25 := by rw [List.length_append, List.length_singleton]; omega
 show (tmL a _).length ≤ _
 omega
def canO (r : Room) (j : Job) (t : Int) : Option (List Int) := if t + j.wall ≤ 1000000000 ∧ fitsB j.lic (leastS r.lics t (t + j.wall)) = true then chooseO r.topo (eligL r j.need t (t + j.wall)) j.nodes j.level else none
def earGo (r : Room) (j : Job) : List Int → Option (Int × List Int)
 | [] => none
 | t :: ts => match canO r j t with
  | some l => some (t, l)
  | none => earGo r j ts
def earO (r : Room) (j : Job) (a : Int) : Option (Int × List Int) := earGo r j (timR r a)
@[reducible] def earA (o : Option (Int × List Int)) : List AV := [.d (.n .i64 ((o.map Prod.fst).getD 0)), .d (.sl (intE ((o.map Prod.snd).getD []))), .d (.b o.isSome)]
theorem drop_cons {l : List Int} {i : Nat} (h : i < l.length) : l.drop i = nth l i :: l.drop (i + 1) := by rw [nth_eq h]; exact List.drop_eq_getElem_cons h
/-! ### The reference's times -/
theorem profsE_app (l : List (List Pt)) (p : List Pt) : profsE l ++ [[.sl (ptE p)]] = profsE (l ++ [p]) := by simp [profsE]
theorem l04Times_s {r : Room} {a : Int} (h : RoomOk r) : DC Tryz.prog 236 [roomA r, .d (.n .i64 a)] [.d (.sl (intE (timR r a)))] := by
 refine mcalls_of tt Tryz.func236 rfl rfl rfl trivial (fun _ _ => ⟨trivial, trivial⟩) (fun w0 Z O => ?_)
 have hs := h.small
 have hpl := profsE_length r.profs
 have hpl2 := profsE_length (r.profs ++ [r.lics])
 have hal : (r.profs ++ [r.lics]).length = r.profs.length + 1 := by simp
 have hpr := h.parts
 unfold timR
 repeat' (first|(refine awp_frzr 2 11 rfl ?_)|refine zst ?_|(refine zhm fun hb=>?_;try exact zab)|refine zdr ?_|(apply zch;exact zcg)|refine HopS.mk fun w0 Z O=>?_|exact zhk|refine zg3 ?_ ?_|refine zln fun _=>?_|refine zop ?_|fail)
 refine awp_frz 12 rfl ?_
 generalize hps : r.profs ++ [r.lics] = ps at *
 refine awp_loop (fun (i : Nat) => ⟨50, [(1, .d (.n .i64 a)), (5, .d (.sl (intE (tmL a (ps.take i))))), (19, .d (.sl (profsE ps))), (20, .d (.n .i64 (ps.length : Nat))), (21, .d (.n .i64 i))], []⟩) (fun i => i ≤ ps.length) (fun i => ps.length - i) 0 (by exact Nat.zero_le _) ?_ ?_
 ·refine ⟨rfl, ?_, ?_, rfl⟩
  repeat'(first|apply And.intro|exact ze0|refine ze1 ?_|refine zei ?_ ?_|exact rfl|trivial)
  all_goals exact Stop.mk (by first | rfl | (rw [List.nil_append, profsE_app, hps, hpl2]) | (rw [List.nil_append, profsE_app, hps]))
 intro i hi
 have htl := tmL_len (a := a) (fun p hp => (hpr p hp).len.2) i hi
 by_cases hi' : i < ps.length
 ·have hst := tmL_step (a := a) hi'
  have hp := hpr _ (nth_mem hi')
  have hpn := hp.len
  generalize hpe : nth ps i = p at hst hp hpn
  have hpl3 := ptE_length p
  generalize tmL a (ps.take i) = o at hst htl ⊢
  repeat' (first|refine zst ?_|(refine zhm fun hb=>?_;try exact zab)|refine zdr ?_|(apply zch;exact zcg)|refine HopS.mk fun w0 Z O=>?_|exact zhk|refine zg3 ?_ ?_|refine zln fun _=>?_|refine zop ?_|fail)
  refine awp_loop (fun (k : Nat) => ⟨50, [(1, .d (.n .i64 a)), (5, .d (.sl (intE (tmP a o (p.take k))))), (19, .d (.sl (profsE ps))), (20, .d (.n .i64 (ps.length : Nat))), (21, .d (.n .i64 i)), (26, .d (.sl (ptE p))), (27, .d (.n .i64 (p.length : Nat))), (28, .d (.n .i64 k))], []⟩) (fun k => k ≤ p.length) (fun k => p.length - k) 0 (by exact Nat.zero_le _) ?_ ?_
  ·refine ⟨rfl, ?_, ?_, rfl⟩
   repeat'(first|apply And.intro|exact ze0|refine ze1 ?_|refine zei ?_ ?_|exact rfl|trivial)
   all_goals exact Stop.mk (by first | rfl | exact hpl3 | rw [← hpe] | (rw [hpe]; exact hpl3))
  intro k hk
  have htp := tmP_len (a := a) (p.take k) o
  rw [List.length_take] at htp
  by_cases hk' : k < p.length
  ·have hst2 := tmP_step (a := a) (out := o) hk'
   have hpk := (hp.pts k hk').1
   generalize tmP a o (p.take k) = q at hst2 htp ⊢
   unfold tmS at hst2
   have c1 := l02Has_c (l := q) (x := (nth p k).at') (by omega)
   cases hh : hasI q (nth p k).at' with
   | true =>
    rw [hh] at c1
    rw [hh, if_neg (fun e => by cases e.2)] at hst2
    repeat' (first|refine zst ?_|(refine zhm fun hb=>?_;try exact zab)|refine zdr ?_|(apply zch;exact zcg)|refine HopS.mk fun w0 Z O=>?_|exact zhk|refine zg3 ?_ ?_|refine zln fun _=>?_|refine zop ?_|refine kc (c1) rfl rfl ?_|refine kq (c1) rfl rfl ?_|fail)
    all_goals
     refine ⟨k + 1, by omega, by omega, ?_⟩
     refine ⟨rfl, ?_, ?_, rfl⟩
     repeat'(first|apply And.intro|exact ze0|refine ze1 ?_|refine zei ?_ ?_|exact rfl|trivial)
     all_goals exact Stop.mk (by first | rfl | rw [hst2])
   | false =>
    rw [hh] at c1
    rw [hh] at hst2
    repeat' (first|refine zst ?_|(refine zhm fun hb=>?_;try exact zab)|refine zdr ?_|(apply zch;exact zcg)|refine HopS.mk fun w0 Z O=>?_|exact zhk|refine zg3 ?_ ?_|refine zln fun _=>?_|refine zop ?_|refine kc (c1) rfl rfl ?_|(refine km [] (l04Rise_s (l := q) (n := (nth p k).at') (by omega)) rfl rfl (fun i hi => ?_);(try dsimp only at hi))|refine kq (c1) rfl rfl ?_|fail)
    ·rw [if_pos ⟨by assumption, rfl⟩] at hst2
     refine ⟨k + 1, by omega, by omega, ?_⟩
     refine ⟨rfl, ?_, ?_, rfl⟩
     repeat'(first|apply And.intro|exact ze0|refine ze1 ?_|refine zei ?_ ?_|exact rfl|trivial)
     all_goals exact Stop.mk (by first | rfl | rw [hst2])
    ·rw [if_neg (fun e => by have := e.1; omega)] at hst2
     refine ⟨k + 1, by omega, by omega, ?_⟩
     refine ⟨rfl, ?_, ?_, rfl⟩
     repeat'(first|apply And.intro|exact ze0|refine ze1 ?_|refine zei ?_ ?_|exact rfl|trivial)
     all_goals exact Stop.mk (by first | rfl | rw [hst2])
  ·obtain rfl : k = p.length := by omega
   rw [List.take_length] at *
   repeat' (first|refine zst ?_|(refine zhm fun hb=>?_;try exact zab)|refine zdr ?_|(apply zch;exact zcg)|refine HopS.mk fun w0 Z O=>?_|exact zhk|refine zg3 ?_ ?_|refine zln fun _=>?_|refine zop ?_|fail)
   refine ⟨i + 1, by omega, by omega, ?_⟩
   refine ⟨rfl, ?_, ?_, rfl⟩
   repeat'(first|apply And.intro|exact ze0|refine ze1 ?_|refine zei ?_ ?_|exact rfl|trivial)
   all_goals exact Stop.mk (by first | rfl | rw [hst])
 ·obtain rfl : i = ps.length := by omega
  rw [List.take_length] at *
  repeat' (first|refine zsr ?_|(refine zhm fun hb=>?_;try exact zab)|refine zdr ?_|(apply zch;exact zcg)|refine HopS.mk fun w0 Z O=>?_|exact zhk|refine zg3 ?_ ?_|refine zln fun _=>?_|refine zop ?_|fail)
  show AWp _ _ _ _
  refine awp_dena ?_
  apply awp_ret'
  exact zm () [] trivial zae zae zae
end Go.Proofs.YtliopiphobopjaaGreat
