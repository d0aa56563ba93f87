/-
  Plain functions: heaps of due times.
-/
import Derived.Test.YthmajaeekkbnnaaBase
namespace Go.Proofs.Ythmajaeekkbnnaa
open Go Go.RowKit

structure Due where
  a : Int
  i : Int
theorem Due.ext_iff' (x y : Due) : (x.a = y.a ∧ x.i = y.i) ↔ x = y := by
  cases x; cases y; simp
instance : DecidableEq Due := fun x y => decidable_of_iff (x.a = y.a ∧ x.i = y.i) (Due.ext_iff' x y)

abbrev Due.cs (d : Due) : Array Value := #[.int .i64 d.a, .int .i64 d.i]
def dueCells (l : List Due) : List Value := l.flatMap fun d => [.int .i64 d.a, .int .i64 d.i]
def dueFirst (a b : Due) : Bool := decide (a.a < b.a) || (a.a == b.a && decide (a.i < b.i))
def isTimeB (t : Int) : Bool := decide (0 ≤ t) && decide (t ≤ 1000000000)
def dueOkB (d : Due) : Bool := isTimeB d.a && (decide (1 ≤ d.i) && decide (d.i ≤ 999))
def zdue : Due := ⟨0, 0⟩
/-- No element before k is wrong. -/
def heapTo (l : List Due) (k : Nat) : Bool := (List.range k).all fun i => dueOkB (l.getD i zdue) && !(decide (0 < i) && dueFirst (l.getD i zdue) (l.getD ((i - 1) / 2) zdue))
def heapOkB (l : List Due) : Bool := heapTo l l.length && decide (l.length ≤ 200)

theorem heapTo_succ (l : List Due) (k : Nat) : heapTo l (k + 1) = (heapTo l k && (dueOkB (l.getD k zdue) && !(decide (0 < k) && dueFirst (l.getD k zdue) (l.getD ((k - 1) / 2) zdue)))) := by
  simp [heapTo, List.range_succ, List.all_append]
theorem heapTo_false {l : List Due} {k n : Nat} (h : heapTo l k = false) (hk : k ≤ n) : heapTo l n = false := by
  induction n with
  | zero => have : k = 0 := by omega
            subst this; exact h
  | succ n ih =>
    rcases Nat.lt_or_ge n k with h1 | h1
    · have : k = n + 1 := by omega
      subst this; exact h
    · rw [heapTo_succ, ih h1]; rfl

def Due.ls (d : Due) : List Value := [.int .i64 d.a, .int .i64 d.i]
theorem Due.ls_len (d : Due) : d.ls.length = 2 := rfl
theorem dueCells_length (l : List Due) : (dueCells l).length = l.length * 2 := flat_length (enc := Due.ls) Due.ls_len l
theorem Rd.due {w : World} {n cap : Nat} {A : Option Addr} {l : List Due} (h : Rd w 2 A n cap (dueCells l)) (hn : 0 < n) :
    ∃ b o, A = some ⟨b, o, none⟩ ∧ b < w.heap.size ∧ ∀ i, i < n → w.cell? ⟨b, o + i * 2, none⟩ = some (.int .i64 (l.getD i zdue).a) ∧ w.cell? ⟨b, o + i * 2 + 1, none⟩ = some (.int .i64 (l.getD i zdue).i) := by
  obtain ⟨hl, b, o, e, hb, hc⟩ := Rd.elems (enc := Due.ls) Due.ls_len h (by omega) hn
  refine ⟨b, o, e, hb, fun i hi => ?_⟩
  have hg : l[i]? = some (l.getD i zdue) := by simp [List.getD, show i < l.length by omega]
  exact ⟨hc i _ hg 0 _ (by omega) rfl, hc i _ hg 1 _ (by omega) rfl⟩
theorem dueCells_append (l r : List Due) : dueCells (l ++ r) = dueCells l ++ dueCells r := by simp [dueCells]
theorem dueCells_set (l : List Due) : ∀ (i : Nat) (d : Due), dueCells (l.set i d) = ((dueCells l).set (i * 2) (.int .i64 d.a)).set (i * 2 + 1) (.int .i64 d.i) := by
  induction l with
  | nil => intro i d; simp [dueCells]
  | cons b l ih =>
    intro i d
    cases i with
    | zero => simp [dueCells]
    | succ i =>
      have := ih i d
      simp only [dueCells, List.set_cons_succ, List.flatMap_cons] at this ⊢
      rw [this, show (i + 1) * 2 = i * 2 + 2 by omega]
      simp
theorem dueCells_made (n : Nat) : (madeCells (Value.cells (.agg #[.int .i64 0, .int .i64 0])) (n * 2)).toList = dueCells (List.replicate n zdue) := by
  have := made_list (Value.cells (.agg #[.int .i64 0, .int .i64 0])) n (by simp [Value.cells])
  simp only [Value.cells, List.size_toArray, List.length_cons, List.length_nil] at this ⊢
  rw [this, dueCells, List.flatMap_def]
  simp [zdue]
theorem fill_step {α : Type} (l : List α) (z : α) (k n : Nat) (hn : l.length = n) (hk : k < n) : (l.take k ++ List.replicate (n - k) z).set k (l.getD k z) = l.take (k + 1) ++ List.replicate (n - (k + 1)) z := by
  have h1 : (l.take k).length = k := by simp; omega
  rw [List.set_append, if_neg (by omega), h1, Nat.sub_self, show n - k = (n - (k + 1)) + 1 by omega, List.replicate_succ, List.set_cons_zero,
    List.take_succ_eq_append_getElem (by omega : k < l.length), List.append_assoc]
  simp only [List.getD, List.getElem?_eq_getElem (show k < l.length by omega), Option.getD_some, List.singleton_append]
theorem fill_done {α : Type} (l : List α) (z : α) (n : Nat) (hn : l.length = n) : l.take n ++ List.replicate (n - n) z = l := by
  subst hn; simp
theorem mark_step {α : Type} (ms l : List α) (k n : Nat) (hm : ms.length = n) (hl : l.length = n) (hk : k < n) {z : α} : (ms.take k ++ l.drop k).set k (ms.getD k z) = ms.take (k + 1) ++ l.drop (k + 1) := by
  have h1 : (ms.take k).length = k := by simp; omega
  rw [List.set_append, if_neg (by omega), h1, Nat.sub_self, List.drop_eq_getElem_cons (by omega : k < l.length), List.set_cons_zero,
    List.take_succ_eq_append_getElem (by omega : k < ms.length), List.append_assoc]
  simp only [List.getD, List.getElem?_eq_getElem (show k < ms.length by omega), Option.getD_some, List.singleton_append]
/-- The marks that a test lays into the elements. -/
def dueMarks : Nat → Int → List Due
  | 0, _ => []
  | n + 1, k => ⟨k, k + 1⟩ :: dueMarks n (k + 2)
theorem dueMarks_length (n : Nat) : ∀ k, (dueMarks n k).length = n := by
  induction n with
  | zero => intro k; rfl
  | succ n ih => intro k; simp [dueMarks, ih]
theorem dueMarks_get (n : Nat) : ∀ (k : Int) (i : Nat), i < n → (dueMarks n k).getD i zdue = ⟨k + 2 * i, k + 2 * i + 1⟩ := by
  induction n with
  | zero => intro k i h; omega
  | succ n ih =>
    intro k i h
    cases i with
    | zero => simp [dueMarks]
    | succ i =>
      simp only [dueMarks, List.getD_cons_succ]
      rw [ih (k + 2) i (by omega)]
      simp only [Due.mk.injEq]
      omega
end Go.Proofs.Ythmajaeekkbnnaa
