/-
  Profiles: ProfOk, what is free at a time, ProfNew, isSpan, ProfMin, both.
-/
import Derived.Test.YtliopiphobopjaaGreatKShL
import Derived.Test.YtliopiphobopjaaGreatKSoA
set_option maxRecDepth 100000
set_option maxHeartbeats 16000000
namespace Go.Proofs.YtliopiphobopjaaGreat
open Go Go.RowKit
attribute [local irreducible] AWp OpsOk OpOk ACalls ChA QsOk MCalls EnC PY

@[reducible] def profC (l : List Pt) : List AV := [.d (.sl (ptE l))]
@[reducible] def vecC (v : V3) : List AV := [.d (.n .i64 v.a), .d (.n .i64 v.b), .d (.n .i64 v.c)]
theorem spanB_iff {a b : Int} : spanB a b = true ↔ (0 ≤ a ∧ a ≤ 1000000000) ∧ (0 ≤ b ∧ b ≤ 1000000000) ∧ a < b := by
 simp only [spanB, Bool.and_eq_true, inB_t, decide_eq_true_eq, and_assoc]
theorem isSpan_e {a b : Int} : ACalls Tryz.prog 242 [.d (.n .i64 a), .d (.n .i64 b)] [.d (.b (spanB a b))] [] := by
 refine acalls_of tt Tryz.func242 rfl rfl rfl (fun w0 Z => ?_)
 repeat' (first|refine zst ?_|(refine zhm fun hb=>?_;try exact zab)|refine zg2 ?_ ?_|refine zop ?_|refine kc (isTime_c2) rfl rfl ?_|fail)
 all_goals
  refine zr [] ?_ ?_
  repeat'(first|apply And.intro|exact ze0|refine ze1 ?_|refine zei ?_ ?_|exact rfl|trivial)
  exact Stop.mk (by rw [Bool.eq_iff_iff, spanB_iff]; simp only [decide_eq_true_eq, Bool.false_eq_true, false_iff]; omega)
def ptOk (l : List Pt) (j : Nat) : Prop := ((0 ≤ (nth l j).at' ∧ (nth l j).at' ≤ 1000000000) ∧ vecOkB (nth l j).free = true) ∧ (0 < j → (nth l (j - 1)).at' < (nth l j).at' ∧ (nth l (j - 1)).free ≠ (nth l j).free)
theorem ProfOk.pt {l : List Pt} (h : ProfOk l) {j : Nat} (hj : j < l.length) : ptOk l j := ⟨h.pts j hj, fun h0 => by
 have := h.steps (j - 1) (by omega)
 rwa [show j - 1 + 1 = j by omega] at this⟩
theorem profOk_mk {l : List Pt} (h1 : 1 ≤ l.length ∧ l.length ≤ 200) (h2 : (nth l 0).at' = 0) (h3 : ∀ j, j < l.length → ptOk l j) : ProfOk l :=
 ⟨h1, h2, fun j hj => (h3 j hj).1, fun j hj => (h3 (j + 1) hj).2 (by omega)⟩
theorem veq_t {u v : V3} : (u.a == v.a && (u.b == v.b && (u.c == v.c && true))) = true ↔ u = v := by
 cases u; cases v; simp
theorem veq_f {u v : V3} : (u.a == v.a && (u.b == v.b && (u.c == v.c && true))) = false ↔ u ≠ v := by
 cases u; cases v; simp
theorem profOk_e {l : List Pt} (hl : l.length ≤ 1000000000) : ACalls Tryz.prog 241 [profA l] [.d (.b (profOkB l))] [] := by
 refine acalls_of tt Tryz.func241 rfl rfl rfl (fun w0 Z => ?_)
 have hpl : (ptE l).length = l.length := ptE_length l
 repeat' (first|refine zst ?_|(refine zhm fun hb=>?_;try exact zab)|refine zdr ?_|(apply zch;exact zcg)|refine HopS.mk fun w0 Z O=>?_|exact zhk|refine zg3 ?_ ?_|refine zln fun _=>?_|refine zop ?_|refine kc (within_c) rfl rfl ?_|refine kq (within_c) rfl rfl ?_|fail)
 any_goals
  rw [show profOkB l = false from profOkB_f.2 fun h => by have h1 := h.len; have h2 := h.zero; omega]
  refine zr [] ?_ ?_
  repeat'(first|apply And.intro|exact ze0|refine ze1 ?_|refine zei ?_ ?_|exact rfl|trivial)
  all_goals exact Stop.mk rfl
 refine awp_loop (fun (i : Nat) => ⟨65, [(1, .ptr 1 0), (19, .d (.sl (ptE l))), (20, .d (.n .i64 (l.length : Nat))), (21, .d (.n .i64 i))], [(1, .box 150 (profC l))]⟩) (fun i => i ≤ l.length ∧ ∀ j, j < i → ptOk l j) (fun i => l.length - i) 0 (by exact ⟨Nat.zero_le _, fun j hj => absurd hj (Nat.not_lt_zero _)⟩) ?_ ?_
 ·refine ⟨rfl, ?_, ?_, rfl⟩
  repeat'(first|apply And.intro|exact ze0|refine ze1 ?_|refine zei ?_ ?_|exact rfl|trivial)
  all_goals exact Stop.mk (by first | rfl | exact ptE_length _)
 ·rintro i ⟨hi, hp⟩
  repeat' (first|refine zst ?_|(refine zhm fun hb=>?_;try exact zab)|refine zdr ?_|(apply zch;exact zcg)|refine HopS.mk fun w0 Z O=>?_|exact zhk|refine zg3 ?_ ?_|refine zln fun _=>?_|refine zop ?_|refine kc (isTime_c2) rfl rfl ?_|refine kc (vecOk_e (v := (nth l i).free)) rfl rfl ?_|refine kq (isTime_c2) rfl rfl ?_|refine kq (vecOk_e (v := (nth l i).free)) rfl rfl ?_|fail)
  any_goals
   rw [show profOkB l = false from profOkB_f.2 fun h => by
    have hq := h.pt (j := i) (by omega)
    have h1 := hq.1.1
    first
     | omega
     | (have h2 := hq.1.2; simp_all; done)
     | (have h2 := hq.2 (by omega); omega)
     | exact (hq.2 (by omega)).2 (veq_t.1 (by assumption))]
   refine zr [] ?_ ?_
   repeat'(first|apply And.intro|exact ze0|refine ze1 ?_|refine zei ?_ ?_|exact rfl|trivial)
   all_goals exact Stop.mk rfl
  ·refine ⟨i + 1, ⟨by omega, fun j hj => ?_⟩, by omega, ?_⟩
   ·by_cases e : j = i
    ·subst e; exact ⟨⟨by assumption, by assumption⟩, fun _ => ⟨by omega, veq_f.1 (by assumption)⟩⟩
    ·exact hp j (by omega)
   exact ⟨rfl, zae, zae, rfl⟩
  ·refine ⟨i + 1, ⟨by omega, fun j hj => ?_⟩, by omega, ?_⟩
   ·by_cases e : j = i
    ·subst e; exact ⟨⟨by assumption, by assumption⟩, fun h => absurd h (by omega)⟩
    ·exact hp j (by omega)
   exact ⟨rfl, zae, zae, rfl⟩
  ·rw [show profOkB l = true from profOkB_t.2 (profOk_mk (by omega) (by omega) fun j hj => hp j (by omega))]
   exact zr [] zae zae
theorem profOk_s {l : List Pt} (hl : l.length ≤ 1000000000) : ACalls Tryz.prog 234 [profA l] [.d (.b (profOkB l))] [] := by
 refine acalls_of tt Tryz.func234 rfl rfl rfl (fun w0 Z => ?_)
 have hpl : (ptE l).length = l.length := ptE_length l
 repeat' (first|refine zst ?_|(refine zhm fun hb=>?_;try exact zab)|refine zdr ?_|(apply zch;exact zcg)|refine HopS.mk fun w0 Z O=>?_|exact zhk|refine zg3 ?_ ?_|refine zln fun _=>?_|refine zop ?_|fail)
 any_goals
  rw [show profOkB l = false from profOkB_f.2 fun h => by have h1 := h.len; have h2 := h.zero; omega]
  refine zr [] ?_ ?_
  repeat'(first|apply And.intro|exact ze0|refine ze1 ?_|refine zei ?_ ?_|exact rfl|trivial)
  all_goals exact Stop.mk rfl
 refine awp_loop (fun (i : Nat) => ⟨70, [(1, .ptr 1 0), (24, .d (.sl (ptE l))), (25, .d (.n .i64 (l.length : Nat))), (26, .d (.n .i64 i))], [(1, .box 150 (profC l))]⟩) (fun i => i ≤ l.length ∧ ∀ j, j < i → ptOk l j) (fun i => l.length - i) 0 (by exact ⟨Nat.zero_le _, fun j hj => absurd hj (Nat.not_lt_zero _)⟩) ?_ ?_
 ·refine ⟨rfl, ?_, ?_, rfl⟩
  repeat'(first|apply And.intro|exact ze0|refine ze1 ?_|refine zei ?_ ?_|exact rfl|trivial)
  all_goals exact Stop.mk (by first | rfl | exact ptE_length _)
 ·rintro i ⟨hi, hp⟩
  repeat' (first|refine zst ?_|(refine zhm fun hb=>?_;try exact zab)|refine zdr ?_|(apply zch;exact zcg)|refine HopS.mk fun w0 Z O=>?_|exact zhk|refine zg3 ?_ ?_|refine zln fun _=>?_|refine zop ?_|refine kc (time_s) rfl rfl ?_|refine kc (vecOk_s (v := (nth l i).free)) rfl rfl ?_|refine kq (time_s) rfl rfl ?_|refine kq (vecOk_s (v := (nth l i).free)) rfl rfl ?_|fail)
  any_goals
   rw [show profOkB l = false from profOkB_f.2 fun h => by
    have hq := h.pt (j := i) (by omega)
    have h1 := hq.1.1
    first
     | omega
     | (have h2 := hq.1.2; simp_all; done)
     | (have h2 := hq.2 (by omega); omega)
     | exact (hq.2 (by omega)).2 (veq_t.1 (by assumption))]
   refine zr [] ?_ ?_
   repeat'(first|apply And.intro|exact ze0|refine ze1 ?_|refine zei ?_ ?_|exact rfl|trivial)
   all_goals exact Stop.mk rfl
  ·refine ⟨i + 1, ⟨by omega, fun j hj => ?_⟩, by omega, ?_⟩
   ·by_cases e : j = i
    ·subst e; exact ⟨⟨by assumption, by assumption⟩, fun _ => ⟨by omega, veq_f.1 (by assumption)⟩⟩
    ·exact hp j (by omega)
   exact ⟨rfl, zae, zae, rfl⟩
  ·refine ⟨i + 1, ⟨by omega, fun j hj => ?_⟩, by omega, ?_⟩
   ·by_cases e : j = i
    ·subst e; exact ⟨⟨by assumption, by assumption⟩, fun h => absurd h (by omega)⟩
    ·exact hp j (by omega)
   exact ⟨rfl, zae, zae, rfl⟩
  ·rw [show profOkB l = true from profOkB_t.2 (profOk_mk (by omega) (by omega) fun j hj => hp j (by omega))]
   exact zr [] zae zae
/-! ### What is free at a time -/
theorem freeP_snoc (l : List Pt) (p : Pt) (t : Int) : freeP (l ++ [p]) t = if p.at' ≤ t then p.free else freeP l t := by
 simp [freeP, List.foldl_append]
theorem take_snoc {α : Type} [Inhabited α] {l : List α} {i : Nat} (h : i < l.length) : l.take (i + 1) = l.take i ++ [nth l i] := by
 rw [List.take_add_one, List.getElem?_eq_getElem h, nth_eq h]
 rfl
theorem freeP_step {l : List Pt} {i : Nat} (h : i < l.length) (t : Int) : freeP (l.take (i + 1)) t = if (nth l i).at' ≤ t then (nth l i).free else freeP (l.take i) t := by
 rw [take_snoc h, freeP_snoc]
theorem free_e {l : List Pt} {t : Int} (hl : l.length ≤ 1000000000) : ACalls Tryz.prog 250 [profA l, .d (.n .i64 t)] [vecA (freeP l t)] [] := by
 refine acalls_of tt Tryz.func250 rfl rfl rfl (fun w0 Z => ?_)
 repeat' (first|refine zst ?_|(refine zhm fun hb=>?_;try exact zab)|refine zg2 ?_ ?_|refine zln fun _=>?_|refine zop ?_|fail)
 refine awp_loop (fun (i : Nat) => ⟨24, [(1, .d (.n .i64 t)), (4, .ptr 4 0), (5, .ptr 5 0), (10, .d (.sl (ptE l))), (11, .d (.n .i64 (l.length : Nat))), (12, .d (.n .i64 i))], [(4, .box 35 (vecC zV)), (5, .box 35 (vecC (freeP (l.take i) t)))]⟩) (fun i => i ≤ l.length) (fun i => l.length - i) 0 (by exact Nat.zero_le _) ?_ ?_
 ·refine ⟨rfl, ?_, ?_, rfl⟩
  repeat'(first|apply And.intro|exact ze0|refine ze1 ?_|refine zei ?_ ?_|exact rfl|trivial)
  all_goals exact Stop.mk (by first | rfl | exact ptE_length _)
 ·intro i hi
  repeat' (first|refine zst ?_|(refine zhm fun hb=>?_;try exact zab)|refine zg2 ?_ ?_|refine zln fun _=>?_|refine zop ?_|fail)
  ·refine ⟨i + 1, by omega, by omega, ?_⟩
   refine ⟨rfl, ?_, ?_, rfl⟩
   repeat'(first|apply And.intro|exact ze0|refine ze1 ?_|refine zei ?_ ?_|exact rfl|trivial)
   all_goals exact Stop.mk (by first | rfl | (rw [freeP_step (by omega), if_pos (by assumption)]))
  ·refine ⟨i + 1, by omega, by omega, ?_⟩
   refine ⟨rfl, ?_, ?_, rfl⟩
   repeat'(first|apply And.intro|exact ze0|refine ze1 ?_|refine zei ?_ ?_|exact rfl|trivial)
   all_goals exact Stop.mk (by first | rfl | (rw [freeP_step (by omega), if_neg (by assumption)]))
  ·rw [show freeP l t = freeP (l.take i) t by rw [List.take_of_length_le (by omega)]]
   exact zr [] zae zae
theorem l03At_s {l : List Pt} {t : Int} (hl : l.length ≤ 1000000000) : ACalls Tryz.prog 276 [profA l, .d (.n .i64 t)] [vecA (freeP l t)] [] := by
 refine acalls_of tt Tryz.func276 rfl rfl rfl (fun w0 Z => ?_)
 repeat' (first|refine zst ?_|(refine zhm fun hb=>?_;try exact zab)|refine zg2 ?_ ?_|refine zln fun _=>?_|refine zop ?_|fail)
 refine awp_loop (fun (i : Nat) => ⟨24, [(1, .d (.n .i64 t)), (4, .ptr 4 0), (5, .ptr 5 0), (10, .d (.sl (ptE l))), (11, .d (.n .i64 (l.length : Nat))), (12, .d (.n .i64 i))], [(4, .box 35 (vecC zV)), (5, .box 35 (vecC (freeP (l.take i) t)))]⟩) (fun i => i ≤ l.length) (fun i => l.length - i) 0 (by exact Nat.zero_le _) ?_ ?_
 ·refine ⟨rfl, ?_, ?_, rfl⟩
  repeat'(first|apply And.intro|exact ze0|refine ze1 ?_|refine zei ?_ ?_|exact rfl|trivial)
  all_goals exact Stop.mk (by first | rfl | exact ptE_length _)
 ·intro i hi
  repeat' (first|refine zst ?_|(refine zhm fun hb=>?_;try exact zab)|refine zg2 ?_ ?_|refine zln fun _=>?_|refine zop ?_|fail)
  ·refine ⟨i + 1, by omega, by omega, ?_⟩
   refine ⟨rfl, ?_, ?_, rfl⟩
   repeat'(first|apply And.intro|exact ze0|refine ze1 ?_|refine zei ?_ ?_|exact rfl|trivial)
   all_goals exact Stop.mk (by first | rfl | (rw [freeP_step (by omega), if_pos (by assumption)]))
  ·refine ⟨i + 1, by omega, by omega, ?_⟩
   refine ⟨rfl, ?_, ?_, rfl⟩
   repeat'(first|apply And.intro|exact ze0|refine ze1 ?_|refine zei ?_ ?_|exact rfl|trivial)
   all_goals exact Stop.mk (by first | rfl | (rw [freeP_step (by omega), if_neg (by assumption)]))
  ·rw [show freeP l t = freeP (l.take i) t by rw [List.take_of_length_le (by omega)]]
   exact zr [] zae zae
/-! ### A new profile -/
def newP (v : V3) : List Pt := if vecOkB v = true then [⟨0, v⟩] else []
theorem profNew_e {v : V3} (hv : vecOkB v = true) : ACalls Tryz.prog 215 [vecA v] [.agg [.row 0], .d (.b true)] [(0, .row 219 (ptE [⟨0, v⟩]) true)] := by
 refine acalls_of tt Tryz.func215 rfl rfl rfl (fun w0 Z => ?_)
 have hc := vecOk_e (v := v)
 rw [hv] at hc
 repeat' (first|refine zst ?_|(refine zhm fun hb=>?_;try exact zab)|refine zg2 ?_ ?_|refine zop ?_|refine kc (hc) rfl rfl ?_|fail)
 exact zr [10] zae zae
theorem profNew_s {v : V3} (hv : vecOkB v = true) : ACalls Tryz.prog 231 [vecA v] [.agg [.row 0], .d (.b true)] [(0, .row 219 (ptE [⟨0, v⟩]) true)] := by
 refine acalls_of tt Tryz.func231 rfl rfl rfl (fun w0 Z => ?_)
 have hc := vecOk_s (v := v)
 rw [hv] at hc
 repeat' (first|refine zst ?_|(refine zhm fun hb=>?_;try exact zab)|refine zg2 ?_ ?_|refine zop ?_|refine kc (hc) rfl rfl ?_|fail)
 exact zr [10] zae zae
end Go.Proofs.YtliopiphobopjaaGreat
