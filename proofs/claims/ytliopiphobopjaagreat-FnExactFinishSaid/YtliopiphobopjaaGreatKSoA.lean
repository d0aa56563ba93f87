/-
  slices.Sort over int; slices.Compact over int.
-/
import Derived.Test.YtliopiphobopjaaGreatKShL
import Derived.Test.YtliopiphobopjaaGreatKGaG
import Derived.Test.YtliopiphobopjaaGreatKLay
import Derived.Sort.OwnSortedInts
set_option maxRecDepth 100000
set_option maxHeartbeats 16000000
namespace Go.Proofs.YtliopiphobopjaaGreat
open Go Go.RowKit
attribute [local irreducible] AWp OpsOk OpOk ACalls ChA QsOk EnC PY

theorem grown_refl (w : World) (r : Option Nat) : w.grownBy w r := ⟨rfl, rfl, rfl, Nat.le_refl _, fun _ _ _ => rfl⟩
theorem sort_m {l : List Int} {d : Bool} (hl : l.length ≤ 1000000000) : MCalls Tryz.prog 209 [.row 1000000] [(1000000, .row 3 (intE l) d)] (fun _ : Unit => True) (fun _ => []) (fun _ => [(1000000, .row 3 (intE (srtI l)) d)]) (fun _ => []) := by
 refine mcalls_row (z := 1) ti3.sized (flatE_map fun _ => rfl) (flatE_map fun _ => rfl) (lens_map (f := fun (x : Int) => [D.n .i64 x]) (fun _ => rfl) (srtI_length l)) (fun us w' => Go.MuLone.run_callFunc_enter Tryz.func209 rfl rfl us w') ?_
 intro w v us ho hr
 rw [rep_int_cells hr, intE_length] at ho
 rw [intE_length]
 rcases ho.2 with ⟨hv, hn⟩ | ⟨g, cap, cur, hv, hbg, hg, hnc, hcm, hcs, htake⟩
 ·have hl0 : l = [] := List.length_eq_zero_iff.1 hn
  subst hl0; subst hv
  have hcon := AnyM.slices_Sort_int_none Tryz.sortI none 0 w
  change Calls Tryz.prog 209 _ _ _ at hcon
  exact hcon.mono fun e w' ⟨he, hw⟩ => by
   subst hw
   have e0 : srtI [] = [] := List.eq_nil_of_length_eq_zero (srtI_length [])
   rw [e0]
   exact ⟨he, grown_refl _ _, [], ho, rfl, rfl⟩
 ·subst hv
  rw [Nat.mul_one] at htake
  have hcon := AnyM.slices_Sort_int Tryz.sortI g 0 cap l w (holds_of_blockI hg htake) (Array.getElem?_eq_some_iff.1 hg).1 (by omega)
  change Calls Tryz.prog 209 _ _ _ at hcon
  exact hcon.mono fun e w' ⟨he, n, os, hw⟩ => by
   subst hw
   exact ⟨he, grownBy_sortedI _, (srtI l).map (Value.int .i64), ownsRow_sortedI (srtI_length l) (Nat.zero_le _) hg hnc hcm hcs, repE_ints _ _⟩
/-! ### Compact -/
theorem cmpI1_snoc : ∀ (l : List Int) (x y : Int), cmpI1 x (l ++ [y]) = cmpI1 x l ++ (if y = (x :: l).getLast (by simp) then [] else [y])
 | [], x, y => by
  simp only [List.nil_append, cmpI1, List.getLast_singleton]
  rfl
 | z :: l, x, y => by
  simp only [List.cons_append, cmpI1]
  by_cases hz : z = x
  ·subst hz
   rw [if_pos rfl, if_pos rfl, cmpI1_snoc l z y]
   simp only [List.getLast_cons_cons]
   rfl
  ·rw [if_neg hz, if_neg hz, cmpI1_snoc l z y, List.cons_append]
   simp only [List.getLast_cons_cons]
   rfl
theorem cmpL_step {l : List Int} {m : Nat} (h1 : 1 ≤ m) (h2 : m < l.length) : cmpL (l.take (m + 1)) = cmpL (l.take m) ++ (if nth l m = nth l (m - 1) then [] else [nth l m]) := by
 rw [List.take_add_one, List.getElem?_eq_getElem h2, ← nth_eq h2]
 cases l with
 | nil => simp at h2
 | cons x l =>
  obtain ⟨k, rfl⟩ : ∃ k, m = k + 1 := ⟨m - 1, by omega⟩
  simp only [List.take_succ_cons, Option.toList_some, List.cons_append, cmpL]
  rw [cmpI1_snoc]
  have e : (x :: l.take k).getLast (by simp) = nth (x :: l) (k + 1 - 1) := by
   rw [nth_eq (by omega), List.getLast_eq_getElem]
   simp only [List.length_cons, List.length_take, Nat.add_sub_cancel]
   have : min k l.length = k := by simp at h2; omega
   cases k with
   | zero => simp
   | succ k => simp [this]
  rw [e]
theorem cmpL_one {l : List Int} (h : 1 ≤ l.length) : cmpL (l.take 1) = l.take 1 := by
 cases l with
 | nil => simp at h
 | cons x l => simp [cmpL, cmpI1]
theorem cmpL_len (l : List Int) : ∀ m, m ≤ l.length → (cmpL (l.take m)).length ≤ m
 | 0, _ => by simp [cmpL]
 | m + 1, h => by
  by_cases h0 : m = 0
  ·subst h0; rw [cmpL_one (by omega)]; simp; omega
  ·rw [cmpL_step (by omega) (by omega), List.length_append]
   have := cmpL_len l m (by omega)
   split <;> simp <;> omega
def cpA (l : List Int) (i : Nat) : Prop := (1 ≤ i ∧ i ≤ l.length) ∧ cmpL (l.take i) = l.take i
def cpB (l : List Int) (k0 : Nat) (x : List Int × Nat × Nat) : Prop :=
 (1 ≤ x.2.2 ∧ x.2.2 ≤ l.length - k0 ∧ x.1.length = l.length ∧ 1 ≤ x.2.1 ∧ x.2.1 + 1 ≤ k0 + x.2.2) ∧ x.1.take x.2.1 = cmpL (l.take (k0 + x.2.2)) ∧ x.1.drop x.2.1 = l.drop x.2.1
theorem drop_at {l r : List Int} {k j : Nat} (h : r.drop k = l.drop k) (hj : k ≤ j) (h1 : j < l.length) (h2 : j < r.length) : nth r j = nth l j := by
 rw [nth_eq h1, nth_eq h2]
 have e1 : (r.drop k)[j - k]? = (l.drop k)[j - k]? := by rw [h]
 rw [List.getElem?_drop, List.getElem?_drop, show k + (j - k) = j by omega, List.getElem?_eq_getElem h1, List.getElem?_eq_getElem h2] at e1
 simpa using e1
theorem cpB_0 {l : List Int} {k0 : Nat} (h : cpA l k0) (h1 : k0 < l.length) (h2 : nth l k0 = nth l (k0 - 1)) : cpB l k0 (l, k0, 1) := by
 obtain ⟨⟨h3, h4⟩, h5⟩ := h
 refine ⟨⟨Nat.le_refl _, by dsimp only; omega, rfl, h3, by dsimp only; omega⟩, ?_, rfl⟩
 dsimp only
 rw [cmpL_step h3 h1, if_pos h2, List.append_nil, h5]
theorem cpB_same {l : List Int} {k0 : Nat} {r : List Int} {k m : Nat} (h : cpB l k0 (r, k, m)) (h1 : k0 + m < l.length) (h2 : nth r (k0 + m) = nth r (k0 + (m - 1))) : cpB l k0 (r, k, m + 1) := by
 obtain ⟨⟨a1, a2, a3, a4, a5⟩, a6, a7⟩ := h
 dsimp only at a1 a2 a3 a4 a5 a6 a7
 rw [drop_at a7 (by omega) h1 (by omega), drop_at a7 (by omega) (by omega) (by omega)] at h2
 refine ⟨⟨by dsimp only; omega, by dsimp only; omega, a3, a4, by dsimp only; omega⟩, ?_, a7⟩
 dsimp only
 rw [← Nat.add_assoc, cmpL_step (by omega) h1, if_pos (by rw [h2]; congr 1; omega), List.append_nil]
 exact a6
theorem cpB_new {l : List Int} {k0 : Nat} {r : List Int} {k m : Nat} (h : cpB l k0 (r, k, m)) (h1 : k0 + m < l.length) (h2 : nth r (k0 + m) ≠ nth r (k0 + (m - 1))) : cpB l k0 (r.set k (nth r (k0 + m)), k + 1, m + 1) := by
 obtain ⟨⟨a1, a2, a3, a4, a5⟩, a6, a7⟩ := h
 dsimp only at a1 a2 a3 a4 a5 a6 a7
 have e := drop_at a7 (by omega) h1 (by omega)
 have e2 := drop_at (j := k0 + (m - 1)) a7 (by omega) (by omega) (by omega)
 rw [e, e2] at h2
 refine ⟨⟨by dsimp only; omega, by dsimp only; omega, by dsimp only; rw [List.length_set]; exact a3, by dsimp only; omega, by dsimp only; omega⟩, ?_, ?_⟩
 ·dsimp only
  rw [← Nat.add_assoc, cmpL_step (by omega) h1, if_neg (by rw [show k0 + m - 1 = k0 + (m - 1) by omega]; exact h2), ← a6, e]
  rw [List.take_add_one, List.take_set_of_le (Nat.le_refl _), List.getElem?_set_self (by omega)]
  rfl
 ·dsimp only
  rw [List.drop_set_of_lt (by omega)]
  have : (r.drop k).drop 1 = (l.drop k).drop 1 := by rw [a7]
  simpa [List.drop_drop] using this
def cmpZ (l : List Int) : List Int := cmpL l ++ List.replicate (l.length - (cmpL l).length) 0
theorem cmpL_le (l : List Int) : (cmpL l).length ≤ l.length := by
 have := cmpL_len l l.length (Nat.le_refl _)
 rwa [List.take_length] at this
theorem cmpZ_id {l : List Int} (h : cmpL l = l) : cmpZ l = l := by
 unfold cmpZ
 rw [h, Nat.sub_self]
 simp
theorem cmpZ_len (l : List Int) : (cmpZ l).length = l.length := by
 have := cmpL_le l
 simp only [cmpZ, List.length_append, List.length_replicate]
 omega
theorem intE_take (l : List Int) (k : Nat) : (intE l).take k = intE (l.take k) := by simp [intE, List.map_take]
theorem intE_set (l : List Int) (k : Nat) (x : Int) : (intE l).set k [.n .i64 x] = intE (l.set k x) := by simp [intE, List.map_set]
theorem intE_clear {r : List Int} {k n : Nat} (h : r.length = n) : (intE r).take k ++ (List.replicate (n - k) [.n .i64 0] ++ (intE r).drop n) = intE (r.take k ++ List.replicate (n - k) 0) := by
 have e : (intE r).drop n = [] := List.drop_eq_nil_of_le (by rw [intE_length]; omega)
 rw [e, List.append_nil]
 simp [intE, List.map_take]
theorem compact_m {l : List Int} (hl : l.length ≤ 1000000000) : MCalls Tryz.prog 210 [.row 1000000] [(1000000, .row 3 (intE l) true)] (fun _ : Unit => True) (fun _ => [.sub 1000000 0 (cmpL l).length]) (fun _ => [(1000000, .row 3 (intE (cmpZ l)) true)]) (fun _ => []) := by
 refine mcalls_of tt Tryz.func210 rfl rfl rfl ⟨.inr (.inl (flatE_map (fun _ => rfl))), trivial⟩ (fun _ _ => ⟨⟨⟨rfl, rfl, (lens_map (f := fun (x : Int) => [D.n .i64 x]) (fun _ => rfl) (cmpZ_len l)).symm⟩, trivial⟩, .inr (.inl (flatE_map (fun _ => rfl))), trivial⟩) (fun w0 Z O => ?_)
 have hln : (intE l).length = l.length := intE_length l
 repeat' (first|refine zsr ?_|(refine zhm fun hb=>?_;try exact zab)|refine zdr ?_|(apply zch;exact zcg)|refine HopS.mk fun w0 Z O=>?_|exact zhk|refine zg3 ?_ ?_|refine zln fun _=>?_|refine zop ?_|fail)
 ·show AWp _ _ _ _
  have hc : cmpL l = l := by
   cases l with
   | nil => rfl
   | cons x l =>
    cases l with
    | nil => rfl
    | cons y l => simp at *; omega
  rw [cmpZ_id hc, hc]
  refine awp_rowsub 2 l.length rfl rfl (intE_length _) ?_
  refine awp_ret ?_
  refine retM_intro () [] (by exact trivial) rfl ?_ ?_ ?_
  all_goals exact zae
 refine awp_loop (fun (i : Nat) => ⟨61, [(0, .row 1000000), (3, .d (.n .i64 i))], [(1000000, .row 3 (intE l) true)]⟩) (cpA l) (fun i => l.length - i) 1 (by exact ⟨⟨Nat.le_refl _, by omega⟩, cmpL_one (by omega)⟩) ?_ ?_
 ·exact ⟨rfl, zae, zae, rfl⟩
 ·intro k0 hA
  have hA1 := hA.1
  repeat' (first|refine zsr ?_|(refine zhm fun hb=>?_;try exact zab)|refine zdr ?_|(apply zch;exact zcg)|refine HopS.mk fun w0 Z O=>?_|exact zhk|refine zg3 ?_ ?_|refine zln fun _=>?_|refine zop ?_|fail)
  ·refine awp_loop (fun (x : List Int × Nat × Nat) => ⟨61, [(0, .row 1000000), (3, .d (.n .i64 x.2.1)), (4, .sub 1000000 k0 l.length), (5, .d (.n .i64 x.2.2))], [(1000000, .row 3 (intE x.1) true)]⟩) (cpB l k0) (fun x => l.length - x.2.2) (l, k0, 1) (cpB_0 hA (by omega) (by assumption)) ?_ ?_
   ·exact ⟨rfl, zae, zae, rfl⟩
   ·rintro ⟨r, k, m⟩ hB
    have hB1 := hB.1
    dsimp only at hB1
    have hlr : (intE r).length = r.length := intE_length r
    have hcl : ((intE r).take k ++ (List.replicate (r.length - k) [D.n .i64 0] ++ (intE r).drop r.length)).length = r.length := by
     rw [intE_clear rfl, intE_length]; simp; omega
    dsimp only
    repeat' (first|refine zsr ?_|(refine zhm fun hb=>?_;try exact zab)|refine zdr ?_|(apply zch;exact zcg)|refine HopS.mk fun w0 Z O=>?_|exact zhk|refine zg3 ?_ ?_|refine zln fun _=>?_|refine zop ?_|fail)
    ·refine ⟨(r.set k (nth r (k0 + m)), k + 1, m + 1), cpB_new hB (by omega) (by assumption), by dsimp only; omega, ?_⟩
     refine ⟨rfl, ?_, ?_, rfl⟩
     repeat'(first|apply And.intro|exact ze0|refine ze1 ?_|refine zei ?_ ?_|exact rfl|trivial)
     all_goals exact Stop.mk (by first | rfl | exact intE_set _ _ _)
    ·refine ⟨(r, k, m + 1), cpB_same hB (by omega) (by assumption), by dsimp only; omega, ?_⟩
     exact ⟨rfl, zae, zae, rfl⟩
    ·show AWp _ _ _ _
     have hk : cmpL l = r.take k := by
      have := hB.2.1
      dsimp only at this
      rw [List.take_of_length_le (l := l) (i := k0 + m) (by omega)] at this
      exact this.symm
     have hkl : (cmpL l).length = k := by rw [hk, List.length_take]; omega
     have hz : cmpZ l = r.take k ++ List.replicate (r.length - k) 0 := by
      unfold cmpZ
      rw [hkl, hk, hB1.2.2.1]
     rw [hkl]
     refine awp_ret ?_
     refine retM_intro () [] (by exact trivial) rfl ?_ ?_ ?_
     repeat'(first|apply And.intro|exact ze0|refine ze1 ?_|refine zei ?_ ?_|exact rfl|trivial)
     all_goals exact Stop.mk (by rw [hz]; exact intE_clear rfl)
  ·refine ⟨k0 + 1, ⟨⟨by omega, by omega⟩, ?_⟩, by omega, ?_⟩
   ·rw [cmpL_step (by omega) (by omega), if_neg (by assumption), hA.2, List.take_add_one, List.getElem?_eq_getElem (by omega), nth_eq (by omega)]
    rfl
   exact ⟨rfl, zae, zae, rfl⟩
  ·show AWp _ _ _ _
   have hc : cmpL l = l := by
    have := hA.2
    rwa [List.take_of_length_le (by omega)] at this
   rw [cmpZ_id hc, hc]
   refine awp_rowsub 2 l.length rfl rfl (intE_length _) ?_
   refine awp_ret ?_
   refine retM_intro () [] (by exact trivial) rfl ?_ ?_ ?_
   all_goals exact zae
end Go.Proofs.YtliopiphobopjaaGreat
