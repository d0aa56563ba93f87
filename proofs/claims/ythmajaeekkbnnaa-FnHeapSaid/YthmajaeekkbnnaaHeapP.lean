/-
  Plain functions: a heap's pop.
-/
import Derived.Test.YthmajaeekkbnnaaHeapN
namespace Go.Proofs.Ythmajaeekkbnnaa
open Go Go.RowKit

/-- The place below i that comes first. -/
def childD (l : List Due) (i : Nat) : Nat := if decide (2 * i + 1 + 1 < l.length) && dueFirst (l.getD (2 * i + 1 + 1) zdue) (l.getD (2 * i + 1) zdue) then 2 * i + 1 + 1 else 2 * i + 1
theorem childD_gt (l : List Due) (i : Nat) : i < childD l i := by unfold childD; split <;> omega
theorem childD_lt (l : List Due) (i : Nat) (h : 2 * i + 1 < l.length) : childD l i < l.length := by
  unfold childD
  split
  · rename_i h1
    simp only [Bool.and_eq_true, decide_eq_true_eq] at h1
    exact h1.1
  · exact h
/-- Down from i; f bounds the rounds. -/
def siftDown : Nat → List Due → Nat → List Due
  | 0, l, _ => l
  | f + 1, l, i => if decide (2 * i + 1 < l.length) && dueFirst (l.getD (childD l i) zdue) (l.getD i zdue) then siftDown f (swapD l i (childD l i)) (childD l i) else l
theorem siftDown_more (f : Nat) : ∀ (l : List Due) (i g : Nat), l.length ≤ i + f → l.length ≤ i + g → siftDown f l i = siftDown g l i := by
  induction f with
  | zero =>
    intro l i g hf _
    cases g with
    | zero => rfl
    | succ g => rw [siftDown, siftDown, if_neg]; simp; omega
  | succ f ih =>
    intro l i g hf hg
    cases g with
    | zero => rw [siftDown, siftDown, if_neg]; simp; omega
    | succ g =>
      simp only [siftDown]
      have hgt := childD_gt l i
      rw [ih _ (childD l i) g (by rw [swapD_length]; omega) (by rw [swapD_length]; omega)]
theorem siftDown_yes {l : List Due} {i : Nat} (h1 : 2 * i + 1 < l.length) (h : dueFirst (l.getD (childD l i) zdue) (l.getD i zdue) = true) :
    siftDown l.length l i = siftDown l.length (swapD l i (childD l i)) (childD l i) := by
  rw [siftDown_more l.length l i (l.length + 1) (by omega) (by omega), siftDown, if_pos (by rw [h]; simp [h1])]
theorem siftDown_no {l : List Due} {i : Nat} (h : l.length ≤ 2 * i + 1 ∨ dueFirst (l.getD (childD l i) zdue) (l.getD i zdue) = false) : siftDown l.length l i = l := by
  rw [siftDown_more l.length l i (l.length + 1) (by omega) (by omega), siftDown, if_neg]
  rcases h with h | h
  · simp; omega
  · rw [h]; simp
theorem siftDown_length (f : Nat) : ∀ (l : List Due) (i : Nat), (siftDown f l i).length = l.length := by
  induction f with
  | zero => intro l i; rfl
  | succ f ih =>
    intro l i
    simp only [siftDown]
    split
    · rw [ih, swapD_length]
    · rfl
def popStart (l : List Due) : List Due := (l.take (l.length - 1)).set 0 (l.getD (l.length - 1) zdue)
def popD (l : List Due) : List Due := siftDown (l.length - 1) (popStart l) 0
theorem popStart_length (l : List Due) : (popStart l).length = l.length - 1 := by simp [popStart]
theorem popD_length (l : List Due) : (popD l).length = l.length - 1 := by rw [popD, siftDown_length, popStart_length]
end Go.Proofs.Ythmajaeekkbnnaa
