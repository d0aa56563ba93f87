/-
  Plain law: heaps are permuted and kept by push and pop; the root comes first.
-/
import Derived.Test.YthmajaeekkbnnaaHeapP
namespace Go.Proofs.Ythmajaeekkbnnaa
open Go Go.RowKit

def ordD (a b : Due) : Prop := dueFirst b a = false
theorem ordD_iff {a b : Due} : ordD a b ↔ ¬ (b.a < a.a ∨ b.a = a.a ∧ b.i < a.i) := by
  unfold ordD dueFirst
  rw [← Bool.not_eq_true]
  simp
theorem ordD_refl (a : Due) : ordD a a := by rw [ordD_iff]; omega
theorem ordD_trans {a b c : Due} (h : ordD a b) (k : ordD b c) : ordD a c := by rw [ordD_iff] at *; omega
theorem ordD_first {a b : Due} (h : dueFirst a b = true) : ordD a b := by
  rw [ordD_iff]
  unfold dueFirst at h
  simp at h
  omega
theorem swapD_getD {l : List Due} {i j k : Nat} (hi : i < l.length) (hj : j < l.length) : (swapD l i j).getD k zdue = if k = j then l.getD i zdue else if k = i then l.getD j zdue else l.getD k zdue := by
  unfold swapD
  simp only [List.getD_eq_getElem?_getD, List.getElem?_set, List.length_set]
  by_cases h1 : k = j
  · subst h1; rw [if_pos rfl, if_pos hj, if_pos rfl]; rfl
  · rw [if_neg (fun h => h1 h.symm), if_neg h1]
    by_cases h2 : k = i
    · subst h2; rw [if_pos rfl, if_pos hi, if_pos rfl]; rfl
    · rw [if_neg (fun h => h2 h.symm), if_neg h2]
theorem swapD_perm {l : List Due} {i j : Nat} (hi : i < l.length) (hj : j < l.length) : (swapD l i j).Perm l := by
  unfold swapD
  rw [List.getD_eq_getElem?_getD, List.getD_eq_getElem?_getD, List.getElem?_eq_getElem hi, List.getElem?_eq_getElem hj]
  exact List.set_set_perm hi hj
/-- Every place is in order with the one above it. -/
def HP (l : List Due) : Prop := ∀ j, j < l.length → 0 < j → ordD (l.getD ((j - 1) / 2) zdue) (l.getD j zdue)
def OKs (l : List Due) : Prop := ∀ x ∈ l, dueOkB x = true
theorem getD_mem {l : List Due} {i : Nat} (h : i < l.length) : l.getD i zdue ∈ l := by
  rw [List.getD_eq_getElem?_getD, List.getElem?_eq_getElem h]
  exact List.getElem_mem h
theorem heapOkB_iff {l : List Due} : heapOkB l = true ↔ OKs l ∧ HP l ∧ l.length ≤ 200 := by
  unfold heapOkB heapTo
  rw [Bool.and_eq_true, List.all_eq_true, decide_eq_true_eq]
  constructor
  · rintro ⟨h, hl⟩
    refine ⟨fun x hx => ?_, fun j hj h0 => ?_, hl⟩
    · obtain ⟨i, hi, rfl⟩ := List.getElem_of_mem hx
      have := h i (List.mem_range.2 hi)
      rw [Bool.and_eq_true, List.getD_eq_getElem?_getD, List.getElem?_eq_getElem hi] at this
      exact this.1
    · have := (Bool.and_eq_true_iff.1 (h j (List.mem_range.2 hj))).2
      rw [decide_eq_true h0, Bool.true_and, Bool.not_eq_true'] at this
      exact this
  · rintro ⟨h, hp, hl⟩
    refine ⟨fun i hi => ?_, hl⟩
    have hi := List.mem_range.1 hi
    rw [h _ (getD_mem hi), Bool.true_and]
    by_cases h0 : 0 < i
    · rw [show dueFirst (l.getD i zdue) (l.getD ((i - 1) / 2) zdue) = false from hp i hi h0, Bool.and_false]; rfl
    · rw [decide_eq_false h0]; rfl
theorem OKs_perm {l r : List Due} (h : l.Perm r) (hl : OKs l) : OKs r := fun x hx => hl x (h.symm.mem_iff.1 hx)
/-- A heap but below i. -/
def HD (l : List Due) (i : Nat) : Prop :=
  (∀ j, j < l.length → 0 < j → (j - 1) / 2 ≠ i → ordD (l.getD ((j - 1) / 2) zdue) (l.getD j zdue)) ∧
  (∀ j, j < l.length → 0 < j → (j - 1) / 2 = i → 0 < i → ordD (l.getD ((i - 1) / 2) zdue) (l.getD j zdue))
theorem childD_ord {l : List Due} {i j : Nat} (hj : j < l.length) (h0 : 0 < j) (hp : (j - 1) / 2 = i) : ordD (l.getD (childD l i) zdue) (l.getD j zdue) := by
  unfold childD
  have hj2 : j = 2 * i + 1 ∨ j = 2 * i + 1 + 1 := by omega
  split
  · rename_i h
    rw [Bool.and_eq_true] at h
    rcases hj2 with e | e
    · subst e; exact ordD_first h.2
    · subst e; exact ordD_refl _
  · rename_i h
    rcases hj2 with e | e
    · subst e; exact ordD_refl _
    · rw [← e, decide_eq_true hj, Bool.true_and] at h
      rw [← e] at *
      exact Bool.eq_false_iff.2 h
theorem childD_in {l : List Due} {i : Nat} : (childD l i - 1) / 2 = i ∧ 0 < childD l i := by
  unfold childD
  split <;> omega
theorem HD_step {l : List Due} {i : Nat} (h1 : 2 * i + 1 < l.length) (hf : dueFirst (l.getD (childD l i) zdue) (l.getD i zdue) = true) (h : HD l i) : HD (swapD l i (childD l i)) (childD l i) := by
  have hk := childD_lt l i h1
  have hg := childD_gt l i
  obtain ⟨hp, h0⟩ := @childD_in l i
  have hi : i < l.length := by omega
  obtain ⟨a, b⟩ := h
  have ch := fun j => @childD_ord l i j
  generalize childD l i = k at *
  constructor
  · intro j hj hj0 hn
    rw [swapD_length] at hj
    rw [swapD_getD hi hk, swapD_getD hi hk, if_neg hn]
    by_cases e : j = k
    · subst e
      rw [if_pos rfl, if_pos hp]
      exact ordD_first hf
    · rw [if_neg e]
      by_cases e2 : j = i
      · subst e2
        rw [if_pos rfl, if_neg (by omega)]
        exact b k hk h0 hp hj0
      · rw [if_neg e2]
        split
        · rename_i e3
          exact ch j hj hj0 e3
        · rename_i e3
          exact a j hj hj0 e3
  · intro j hj hj0 hn _
    rw [swapD_length] at hj
    rw [swapD_getD hi hk, swapD_getD hi hk, if_neg (by omega), if_pos hp, if_neg (by omega), if_neg (by omega), ← hn]
    exact a j hj hj0 (by omega)
theorem HD_stop {l : List Due} {i : Nat} (hn : l.length ≤ 2 * i + 1 ∨ dueFirst (l.getD (childD l i) zdue) (l.getD i zdue) = false) (h : HD l i) : HP l := by
  intro j hj h0
  by_cases hp : (j - 1) / 2 = i
  · rcases hn with hn | hn
    · omega
    · rw [hp]
      exact ordD_trans hn (childD_ord hj h0 hp)
  · exact h.1 j hj h0 hp
theorem siftDown_HP (f : Nat) : ∀ (l : List Due) (i : Nat), l.length ≤ i + f → HD l i → HP (siftDown f l i) ∧ (siftDown f l i).Perm l := by
  induction f with
  | zero =>
    intro l i hf h
    exact ⟨HD_stop (l := l) (Or.inl (by omega)) h, List.Perm.refl _⟩
  | succ f ih =>
    intro l i hf h
    rw [siftDown]
    split
    · rename_i hc
      rw [Bool.and_eq_true, decide_eq_true_eq] at hc
      have hk := childD_lt l i hc.1
      have hg := childD_gt l i
      obtain ⟨x, y⟩ := ih (swapD l i (childD l i)) (childD l i) (by rw [swapD_length]; omega) (HD_step hc.1 hc.2 h)
      exact ⟨x, y.trans (swapD_perm (by omega) hk)⟩
    · rename_i hc
      refine ⟨HD_stop ?_ h, List.Perm.refl _⟩
      rw [Bool.and_eq_true, decide_eq_true_eq] at hc
      by_cases h1 : l.length ≤ 2 * i + 1
      · exact Or.inl h1
      · exact Or.inr (Bool.eq_false_iff.2 fun k => hc ⟨by omega, k⟩)
theorem popStart_cons {d e : Due} {l : List Due} : popStart (d :: (l ++ [e])) = e :: l := by
  have h : (d :: (l ++ [e])).length - 1 = (d :: l).length := by simp
  unfold popStart
  rw [h, show d :: (l ++ [e]) = (d :: l) ++ [e] from rfl, List.take_left, List.getD_eq_getElem?_getD, List.getElem?_append_right (Nat.le_refl _)]
  simp
theorem popD_one {d : Due} : popD [d] = [] := rfl
theorem popD_HP {d : Due} {l : List Due} (h : HP (d :: l)) : HP (popD (d :: l)) ∧ (d :: popD (d :: l)).Perm (d :: l) := by
  rcases List.eq_nil_or_concat l with e | ⟨r, e, rfl⟩
  · subst e
    exact ⟨fun j hj => absurd hj (Nat.not_lt_zero j), List.Perm.refl _⟩
  · rw [List.concat_eq_append] at *
    unfold popD
    rw [popStart_cons]
    have hd : HD (e :: r) 0 := by
      refine ⟨fun j hj h0 hp => ?_, fun j hj h0 hp h1 => absurd h1 (by omega)⟩
      have := h j (by simp at hj ⊢; omega) h0
      have g : ∀ k, 0 < k → k < (e :: r).length → (d :: (r ++ [e])).getD k zdue = (e :: r).getD k zdue := by
        intro k k0 hk
        cases k with
        | zero => omega
        | succ k =>
          simp only [List.length_cons] at hk
          simp only [List.getD_eq_getElem?_getD, List.getElem?_cons_succ]
          rw [List.getElem?_append_left (by omega)]
      rw [g _ (by omega) (by omega), g _ h0 hj] at this
      exact this
    obtain ⟨x, y⟩ := siftDown_HP ((d :: (r ++ [e])).length - 1) (e :: r) 0 (by simp) hd
    refine ⟨x, (List.Perm.cons d (y.trans ?_))⟩
    exact (List.perm_append_singleton e r).symm
theorem popD_ok {l : List Due} (h : heapOkB l = true) : heapOkB (popD l) = true := by
  rw [heapOkB_iff] at *
  cases l with
  | nil => exact h
  | cons d l =>
    obtain ⟨a, b, c⟩ := h
    obtain ⟨x, y⟩ := popD_HP b
    refine ⟨fun e he => OKs_perm y.symm a e (List.mem_cons_of_mem _ he), x, ?_⟩
    rw [popD_length]
    simp only [List.length_cons] at c ⊢
    omega
/-- The root comes first. -/
theorem HP_root {l : List Due} (h : HP l) : ∀ (n j : Nat), j ≤ n → j < l.length → ordD (l.getD 0 zdue) (l.getD j zdue) := by
  intro n
  induction n with
  | zero => intro j h1 h2; rw [show j = 0 by omega]; exact ordD_refl _
  | succ n ih =>
    intro j h1 h2
    by_cases h0 : j = 0
    · rw [h0]; exact ordD_refl _
    · exact ordD_trans (ih ((j - 1) / 2) (by omega) (by omega)) (h j h2 (by omega))
/-- All, one after the other. -/
def allD : Nat → List Due → List Due
  | 0, _ => []
  | n + 1, l => match l with
    | [] => []
    | d :: r => d :: allD n (popD (d :: r))
theorem allD_perm (n : Nat) : ∀ (l : List Due), l.length ≤ n → HP l → (allD n l).Perm l := by
  induction n with
  | zero => intro l h _; rw [List.length_eq_zero_iff.1 (by omega : l.length = 0)]; exact List.Perm.refl _
  | succ n ih =>
    intro l h hp
    cases l with
    | nil => exact List.Perm.refl _
    | cons d l =>
      obtain ⟨x, y⟩ := popD_HP hp
      rw [allD]
      refine (List.Perm.cons d (ih _ ?_ x)).trans y
      rw [popD_length]
      simp only [List.length_cons] at h ⊢
      omega
theorem allD_sorted (n : Nat) : ∀ (l : List Due), l.length ≤ n → HP l → (allD n l).Pairwise ordD := by
  induction n with
  | zero => intro l _ _; exact List.Pairwise.nil
  | succ n ih =>
    intro l h hp
    cases l with
    | nil => exact List.Pairwise.nil
    | cons d l =>
      obtain ⟨x, y⟩ := popD_HP hp
      have hl : (popD (d :: l)).length ≤ n := by
        rw [popD_length]
        simp only [List.length_cons] at h ⊢
        omega
      rw [allD]
      refine List.Pairwise.cons (fun e he => ?_) (ih _ hl x)
      have he2 : e ∈ d :: l := y.mem_iff.1 (List.mem_cons_of_mem _ ((allD_perm n _ hl x).mem_iff.1 he))
      obtain ⟨j, hj, rfl⟩ := List.getElem_of_mem he2
      have := HP_root hp j j (Nat.le_refl _) hj
      rw [List.getD_eq_getElem?_getD, List.getD_eq_getElem?_getD, List.getElem?_eq_getElem hj] at this
      exact this
/-- A heap but for i and the one above it. -/
def HU (l : List Due) (i : Nat) : Prop :=
  (∀ j, j < l.length → 0 < j → j ≠ i → ordD (l.getD ((j - 1) / 2) zdue) (l.getD j zdue)) ∧
  (∀ j, j < l.length → 0 < j → (j - 1) / 2 = i → 0 < i → ordD (l.getD ((i - 1) / 2) zdue) (l.getD j zdue))
theorem HU_step {l : List Due} {i : Nat} (hi : i < l.length) (h0 : 0 < i) (hf : dueFirst (l.getD i zdue) (l.getD ((i - 1) / 2) zdue) = true) (h : HU l i) : HU (swapD l i ((i - 1) / 2)) ((i - 1) / 2) := by
  obtain ⟨a, b⟩ := h
  have hk : (i - 1) / 2 < l.length := by omega
  constructor
  · intro j hj hj0 hn
    rw [swapD_length] at hj
    rw [swapD_getD hi hk, swapD_getD hi hk, if_neg hn]
    by_cases e : j = i
    · subst e
      rw [if_pos rfl, if_pos rfl]
      exact ordD_first hf
    · rw [if_neg e]
      by_cases e2 : (j - 1) / 2 = (i - 1) / 2
      · rw [if_pos e2]
        have := a j hj hj0 e
        rw [e2] at this
        exact ordD_trans (ordD_first hf) this
      · rw [if_neg e2]
        split
        · rename_i e3
          exact b j hj hj0 e3 h0
        · exact a j hj hj0 e
  · intro j hj hj0 hn hk0
    rw [swapD_length] at hj
    rw [swapD_getD hi hk, swapD_getD hi hk, if_neg (by omega), if_neg (by omega), if_neg (by omega)]
    have hkk := a ((i - 1) / 2) hk hk0 (by omega)
    by_cases e : j = i
    · subst e
      rw [if_pos rfl]
      exact hkk
    · rw [if_neg e]
      have := a j hj hj0 e
      rw [hn] at this
      exact ordD_trans hkk this
theorem HU_stop {l : List Due} {i : Nat} (hn : i = 0 ∨ dueFirst (l.getD i zdue) (l.getD ((i - 1) / 2) zdue) = false) (h : HU l i) : HP l := by
  intro j hj h0
  by_cases hp : j = i
  · subst hp
    rcases hn with hn | hn
    · omega
    · exact hn
  · exact h.1 j hj h0 hp
theorem siftUp_HP (f : Nat) : ∀ (l : List Due) (i : Nat), i ≤ f → i < l.length → HU l i → HP (siftUp f l i) ∧ (siftUp f l i).Perm l := by
  induction f with
  | zero =>
    intro l i hf _ h
    exact ⟨HU_stop (Or.inl (by omega)) h, List.Perm.refl _⟩
  | succ f ih =>
    intro l i hf hi h
    rw [siftUp]
    split
    · rename_i hc
      rw [Bool.and_eq_true, decide_eq_true_eq] at hc
      obtain ⟨x, y⟩ := ih (swapD l i ((i - 1) / 2)) ((i - 1) / 2) (by omega) (by rw [swapD_length]; omega) (HU_step hi hc.1 hc.2 h)
      exact ⟨x, y.trans (swapD_perm hi (by omega))⟩
    · rename_i hc
      refine ⟨HU_stop ?_ h, List.Perm.refl _⟩
      rw [Bool.and_eq_true, decide_eq_true_eq] at hc
      by_cases h1 : i = 0
      · exact Or.inl h1
      · exact Or.inr (Bool.eq_false_iff.2 fun k => hc ⟨by omega, k⟩)
theorem pushD_HP {d : Due} {l : List Due} (h : HP l) : HP (pushD l d) ∧ (pushD l d).Perm (l ++ [d]) := by
  unfold pushD
  refine siftUp_HP l.length (l ++ [d]) l.length (Nat.le_refl _) (by simp) ⟨fun j hj h0 hn => ?_, fun j hj h0 hn => ?_⟩
  · simp only [List.length_append, List.length_cons, List.length_nil] at hj
    have g : ∀ k, k < l.length → (l ++ [d]).getD k zdue = l.getD k zdue := by
      intro k hk
      simp only [List.getD_eq_getElem?_getD]
      rw [List.getElem?_append_left hk]
    rw [g _ (by omega), g _ (by omega)]
    exact h j (by omega) h0
  · simp only [List.length_append, List.length_cons, List.length_nil] at hj
    omega
theorem pushD_ok {d : Due} {l : List Due} (h : pushOkB l d = true) : heapOkB (pushD l d) = true := by
  unfold pushOkB at h
  rw [Bool.and_eq_true, Bool.and_eq_true, Bool.not_eq_true', decide_eq_false_iff_not] at h
  obtain ⟨h1, h2, h3⟩ := h
  rw [heapOkB_iff] at h1 ⊢
  obtain ⟨a, b, c⟩ := h1
  obtain ⟨x, y⟩ := @pushD_HP d l b
  refine ⟨OKs_perm y.symm fun e he => ?_, x, by rw [pushD_length]; omega⟩
  rcases List.mem_append.1 he with he | he
  · exact a e he
  · rw [List.mem_singleton] at he; subst he; exact h2
end Go.Proofs.Ythmajaeekkbnnaa
