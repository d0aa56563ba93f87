/-
  Plain laws of text: pieces and their joining; numbers are read as they were written; the two ways of reading a vector are one.
-/
import Derived.Test.YthmajaeekkbnnaaTxG
namespace Go.Proofs.Ythmajaeekkbnnaa
open Go Go.RowKit

/-! ### Pieces -/
def split (q : Int) : List UInt8 → List (List UInt8)
  | [] => [[]]
  | b :: s => if (b.toNat : Int) = q then [] :: split q s else match split q s with
    | h :: t => (b :: h) :: t
    | [] => [[b]]
theorem split_ne (q : Int) : ∀ (s : List UInt8), split q s ≠ []
  | [] => by simp [split]
  | b :: s => by
    simp only [split]
    split
    · simp
    · split <;> simp
/-- Pieces, an unfinished one ahead. -/
def splitA (q : Int) (acc : List UInt8) (s : List UInt8) : List (List UInt8) := match split q s with
  | h :: t => (acc ++ h) :: t
  | [] => [acc]
theorem splitA_yes {q : Int} {acc : List UInt8} {b : UInt8} {s : List UInt8} (h : (b.toNat : Int) = q) : splitA q acc (b :: s) = acc :: splitA q [] s := by
  unfold splitA
  simp only [split, if_pos h]
  cases hs : split q s with
  | nil => exact absurd hs (split_ne q s)
  | cons a l => simp
theorem splitA_no {q : Int} {acc : List UInt8} {b : UInt8} {s : List UInt8} (h : ¬ (b.toNat : Int) = q) : splitA q acc (b :: s) = splitA q (acc ++ [b]) s := by
  unfold splitA
  simp only [split, if_neg h]
  cases hs : split q s with
  | nil => exact absurd hs (split_ne q s)
  | cons a l => simp
theorem parts_from (s : List UInt8) (q : Int) : ∀ (k i : Nat), i + k = s.length → parts s q = (pst s q i).1 ++ splitA q ((s.take i).drop (pst s q i).2) (s.drop i)
  | 0, i, h => by
    have : i = s.length := by omega
    subst this
    simp [parts, splitA, split]
  | k + 1, i, h => by
    have hlt : i < s.length := by omega
    have ih := parts_from s q k (i + 1) (by omega)
    have hd : s.drop i = s[i] :: s.drop (i + 1) := List.drop_eq_getElem_cons hlt
    have hg : s.getD i 0 = s[i] := by rw [List.getD_eq_getElem?_getD, List.getElem?_eq_getElem hlt]; rfl
    have hle := (pst_le s q i).1
    rw [ih, hd]
    by_cases hq : ((s.getD i 0).toNat : Int) = q
    · rw [pst_yes hq, splitA_yes (by rw [← hg]; exact hq)]
      have e : (s.take (i + 1)).drop (i + 1) = [] := List.drop_eq_nil_of_le (by simp; omega)
      rw [e, List.append_assoc]
      rfl
    · rw [pst_no hq, splitA_no (by rw [← hg]; exact hq)]
      have e : (s.take (i + 1)).drop (pst s q i).2 = (s.take i).drop (pst s q i).2 ++ [s[i]] := by
        rw [List.take_succ_eq_append_getElem hlt, List.drop_append_of_le_length (by simp; omega)]
      rw [e]
theorem parts_split (s : List UInt8) (q : Int) : parts s q = split q s := by
  rw [parts_from s q s.length 0 (by omega)]
  simp only [pst, List.take_zero, List.drop_nil, List.drop_zero, List.nil_append, splitA]
  cases hs : split q s with
  | nil => exact absurd hs (split_ne q s)
  | cons a l => simp
theorem split_none {q : Int} : ∀ {x : List UInt8}, (∀ b ∈ x, (b.toNat : Int) ≠ q) → split q x = [x]
  | [], _ => rfl
  | b :: x, h => by
    simp only [split, if_neg (h b List.mem_cons_self), split_none fun c hc => h c (List.mem_cons_of_mem _ hc)]
theorem split_app {q : Int} {c : UInt8} (hc : (c.toNat : Int) = q) {y : List UInt8} : ∀ {x : List UInt8}, (∀ b ∈ x, (b.toNat : Int) ≠ q) → split q (x ++ c :: y) = x :: split q y
  | [], _ => by simp only [List.nil_append, split, if_pos hc]
  | b :: x, h => by
    simp only [List.cons_append, split, if_neg (h b List.mem_cons_self), split_app hc fun d hd => h d (List.mem_cons_of_mem _ hd)]
/-- The pieces joined. -/
def joinP (c : UInt8) : List (List UInt8) → List UInt8
  | [] => []
  | [x] => x
  | x :: y :: l => x ++ c :: joinP c (y :: l)
theorem join_split {c : UInt8} : ∀ (s : List UInt8), joinP c (split (c.toNat : Int) s) = s
  | [] => rfl
  | b :: s => by
    have ih := join_split (c := c) s
    simp only [split]
    split
    · rename_i h
      have hbc : b = c := by
        apply UInt8.toNat_inj.1
        omega
      cases hs : split (c.toNat : Int) s with
      | nil => exact absurd hs (split_ne _ s)
      | cons a l =>
        rw [hs] at ih
        simp only [joinP, List.nil_append, ih, hbc]
    · cases hs : split (c.toNat : Int) s with
      | nil => exact absurd hs (split_ne _ s)
      | cons a l =>
        rw [hs] at ih
        cases l with
        | nil => simp only [joinP] at ih ⊢; rw [ih]
        | cons x l => simp only [joinP, List.cons_append] at ih ⊢; rw [ih]

/-! ### Numbers -/
theorem u8_dig {d : Nat} (h : d < 10) : (UInt8.ofNat (48 + d)).toNat = 48 + d := by simp; omega
theorem numT_dig : ∀ (k n : Nat), n < 10 ^ (k + 1) → ∀ b ∈ numT n, 48 ≤ b.toNat ∧ b.toNat ≤ 57
  | 0, n, h, b, hb => by
    rw [numT_lt (by omega), List.mem_singleton] at hb
    subst hb
    rw [u8_dig (by omega)]; omega
  | k + 1, n, h, b, hb => by
    by_cases h1 : n < 10
    · rw [numT_lt h1, List.mem_singleton] at hb
      subst hb
      rw [u8_dig (by omega)]; omega
    · rw [numT_ge h1, List.mem_append, List.mem_singleton] at hb
      rcases hb with hb | rfl
      · exact numT_dig k (n / 10) (by rw [Nat.pow_succ] at h; omega) b hb
      · rw [u8_dig (by omega)]; omega
theorem numT_pos (n : Nat) : 0 < (numT n).length := by
  by_cases h1 : n < 10
  · rw [numT_lt h1]; simp
  · rw [numT_ge h1]; simp
theorem valI_app {s t : List UInt8} : ∀ (i : Nat), i ≤ s.length → valI (s ++ t) i = valI s i
  | 0, _ => rfl
  | i + 1, h => by
    have e : (s ++ t).getD i 0 = s.getD i 0 := by
      rw [List.getD_eq_getElem?_getD, List.getD_eq_getElem?_getD, List.getElem?_append_left (by omega)]
    simp only [valI, valI_app (s := s) (t := t) i (by omega), e]
theorem valI_numT : ∀ (k n : Nat), n < 10 ^ (k + 1) → valI (numT n) (numT n).length = n
  | 0, n, h => by
    rw [numT_lt (by omega)]
    simp only [List.length_singleton, valI, List.getD_cons_zero, u8_dig (show n < 10 by omega)]
    omega
  | k + 1, n, h => by
    by_cases h1 : n < 10
    · rw [numT_lt h1]
      simp only [List.length_singleton, valI, List.getD_cons_zero, u8_dig (show n < 10 by omega)]
      omega
    · have ih := valI_numT k (n / 10) (by rw [Nat.pow_succ] at h; omega)
      rw [numT_ge h1, List.length_append, List.length_singleton]
      have e : (numT (n / 10) ++ [UInt8.ofNat (48 + n % 10)]).getD (numT (n / 10)).length 0 = UInt8.ofNat (48 + n % 10) := by
        rw [List.getD_eq_getElem?_getD, List.getElem?_append_right (Nat.le_refl _)]
        simp
      simp only [valI, valI_app (s := numT (n / 10)) (t := [UInt8.ofNat (48 + n % 10)]) _ (Nat.le_refl _), ih, e, u8_dig (show n % 10 < 10 by omega)]
      omega
theorem textNum_numTx {x : Int} (h : 0 ≤ x ∧ x ≤ 1000000000) : textNum (numTx x) = (x, true) := by
  have hn : x.toNat < 10 ^ 10 := by omega
  rw [numTx_in h]
  have hv := valI_numT 9 x.toNat hn
  have hx : ((x.toNat : Nat) : Int) = x := by omega
  rw [hx] at hv
  have hd : ∀ j, j < (numT x.toNat).length → dig (numT x.toNat) j := fun j hj => by
    unfold dig
    have := numT_dig 9 x.toNat hn ((numT x.toNat)[j]) (List.getElem_mem hj)
    rw [List.getD_eq_getElem?_getD, List.getElem?_eq_getElem hj]
    exact this
  have hb : numTx (valI (numT x.toNat) (numT x.toNat).length) = numT x.toNat := by rw [hv, numTx_in h]
  rw [textNum_yes ⟨numT_pos _, numT_len 9 _ hn, hd, hb⟩, hv]
theorem textNum_back {s : List UInt8} (h : (textNum s).2 = true) : numTx (textNum s).1 = s := by
  unfold textNum at h ⊢
  split
  · rename_i h1; exact h1.2.2.2
  · rename_i h1; rw [if_neg h1] at h; cases h

/-! ### Vectors -/
theorem vec_split {v : V3} (h : vecOkB v = true) : split 47 (vecText v) = [numTx v.a, numTx v.b, numTx v.c] := by
  have hi : ∀ {x : Int}, inB x 0 1000000 = true → ∀ b ∈ numTx x, (b.toNat : Int) ≠ 47 := fun {x} hx b hb => by
    rw [inB_t] at hx
    rw [numTx_in (by omega)] at hb
    have := numT_dig 9 x.toNat (by omega) b hb
    omega
  have h2 := h
  unfold vecOkB at h2
  rw [Bool.and_eq_true, Bool.and_eq_true] at h2
  rw [vecText_yes h]
  have e : numTx v.a ++ [47] ++ numTx v.b ++ [47] ++ numTx v.c = numTx v.a ++ (47 : UInt8) :: (numTx v.b ++ (47 : UInt8) :: numTx v.c) := by simp
  rw [e, split_app (c := 47) (by decide) (hi h2.1.1), split_app (c := 47) (by decide) (hi h2.1.2), split_none (hi h2.2)]
theorem vec_in {v : V3} (h : vecOkB v = true) : (0 ≤ v.a ∧ v.a ≤ 1000000000) ∧ (0 ≤ v.b ∧ v.b ≤ 1000000000) ∧ (0 ≤ v.c ∧ v.c ≤ 1000000000) := by
  unfold vecOkB at h
  rw [Bool.and_eq_true, Bool.and_eq_true, inB_t, inB_t, inB_t] at h
  omega
theorem numAt_3 (s : List UInt8) (h : (parts s 47).length = 3) : tvS s = tvV s := by
  unfold tvS tvV numAt
  rw [h]
  rfl
theorem textVec_same (s : List UInt8) : textVecS s = textVec s := by
  unfold textVecS
  split
  · rename_i h
    have hok : vecOkB (tvS s) = true := by
      cases hb : vecOkB (tvS s) with
      | true => rfl
      | false =>
        rw [vecText_no hb] at h
        subst h
        revert hb
        decide
    have hp : parts s 47 = [numTx (tvS s).a, numTx (tvS s).b, numTx (tvS s).c] := by
      have hs := vec_split hok
      rw [h] at hs
      rw [parts_split]
      exact hs
    obtain ⟨h1, h2, h3⟩ := vec_in hok
    have e : tvS s = tvV s := numAt_3 s (by rw [hp]; rfl)
    rw [textVec_yes, ← e]
    unfold tvOk
    rw [← e, hok, hp]
    simp only [nth, List.getD_cons_zero, List.getD_cons_succ, textNum_numTx h1, textNum_numTx h2, textNum_numTx h3]
    rfl
  · rename_i h
    cases hb : tvOk s with
    | false => rw [textVec_no hb]
    | true =>
      exfalso
      apply h
      unfold tvOk at hb
      simp only [Bool.and_eq_true, decide_eq_true_eq] at hb
      obtain ⟨⟨⟨⟨hb0, hb1⟩, hb2⟩, hb3⟩, hb4⟩ := hb
      have h3 : (parts s 47).length = 3 := by omega
      rw [numAt_3 s h3, vecText_yes hb4]
      match hp : parts s 47, h3 with
      | [x, y, z], _ =>
        have e1 : nth (parts s 47) 0 = x := by rw [hp]; rfl
        have e2 : nth (parts s 47) 1 = y := by rw [hp]; rfl
        have e3 : nth (parts s 47) 2 = z := by rw [hp]; rfl
        unfold tvV
        simp only
        rw [textNum_back hb1, textNum_back hb2, textNum_back hb3, e1, e2, e3]
        have hj := join_split (c := 47) s
        have : split ((47 : UInt8).toNat : Int) s = [x, y, z] := by rw [← hp, parts_split]; rfl
        rw [this] at hj
        simpa [joinP] using hj
end Go.Proofs.Ythmajaeekkbnnaa
