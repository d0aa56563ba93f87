/-
  Plain functions: a heap's push and pop.
-/
import Derived.Test.YthmajaeekkbnnaaHeapM
namespace Go.Proofs.Ythmajaeekkbnnaa
open Go Go.RowKit

def swapD (l : List Due) (i j : Nat) : List Due := (l.set i (l.getD j zdue)).set j (l.getD i zdue)
theorem swapD_length (l : List Due) (i j : Nat) : (swapD l i j).length = l.length := by simp [swapD]
/-- Up from i; f bounds the rounds. -/
def siftUp : Nat → List Due → Nat → List Due
  | 0, l, _ => l
  | f + 1, l, i => if decide (0 < i) && dueFirst (l.getD i zdue) (l.getD ((i - 1) / 2) zdue) then siftUp f (swapD l i ((i - 1) / 2)) ((i - 1) / 2) else l
theorem siftUp_more (f : Nat) : ∀ (l : List Due) (i g : Nat), i ≤ f → i ≤ g → siftUp f l i = siftUp g l i := by
  induction f with
  | zero =>
    intro l i g hf _
    have : i = 0 := by omega
    subst this
    cases g <;> simp [siftUp]
  | succ f ih =>
    intro l i g hf hg
    cases g with
    | zero =>
      have : i = 0 := by omega
      subst this
      simp [siftUp]
    | succ g =>
      simp only [siftUp]
      by_cases hi : i = 0
      · subst hi; simp
      · rw [ih _ ((i - 1) / 2) g (by omega) (by omega)]
def pushOkB (l : List Due) (d : Due) : Bool := heapOkB l && (dueOkB d && !decide (l.length = 200))
def pushD (l : List Due) (d : Due) : List Due := siftUp l.length (l ++ [d]) l.length
theorem siftUp_yes {l : List Due} {i : Nat} (hi : 0 < i) (h : dueFirst (l.getD i zdue) (l.getD ((i - 1) / 2) zdue) = true) : siftUp i l i = siftUp ((i - 1) / 2) (swapD l i ((i - 1) / 2)) ((i - 1) / 2) := by
  cases i with
  | zero => omega
  | succ i =>
    rw [siftUp, if_pos (by rw [h]; simp), siftUp_more i _ _ ((i + 1 - 1) / 2) (by omega) (Nat.le_refl _)]
theorem siftUp_no {l : List Due} {i : Nat} (h : i = 0 ∨ dueFirst (l.getD i zdue) (l.getD ((i - 1) / 2) zdue) = false) : siftUp i l i = l := by
  cases i with
  | zero => rfl
  | succ i =>
    rw [siftUp, if_neg]
    rcases h with h | h
    · omega
    · rw [h]; simp
theorem siftUp_length (f : Nat) : ∀ (l : List Due) (i : Nat), (siftUp f l i).length = l.length := by
  induction f with
  | zero => intro l i; rfl
  | succ f ih =>
    intro l i
    simp only [siftUp]
    split
    · rw [ih, swapD_length]
    · rfl
theorem pushD_length (l : List Due) (d : Due) : (pushD l d).length = l.length + 1 := by rw [pushD, siftUp_length]; simp
theorem own_empty (w : World) (e : TypeId) (size base : Nat) (hb : base ≤ w.heap.size) : (w.alloc (.cells #[] e)).ownsRow base e size (.slice (some ⟨w.heap.size, 0, none⟩) 0 0) 0 [] :=
  World.ownsRow_made w #[] 0 hb (by unfold maxLen; omega) (by simp)
theorem own_some {b : Nat} {w : World} {e : TypeId} {size n : Nat} {v : Value} {xs : List Value} (h : w.ownsRow b e size v n xs) (hn : 0 < n) : ∃ g cap, v = .slice (some ⟨g, 0, none⟩) n cap := by
  rcases h.2 with ⟨_, h0⟩ | ⟨g, cap, cur, hv, _⟩
  · omega
  · exact ⟨g, cap, hv⟩
theorem own_empty2 (w : World) (o : Obj) (e : TypeId) (size base : Nat) (hb : base ≤ w.heap.size) : ((w.alloc o).alloc (.cells #[] e)).ownsRow base e size (.slice (some ⟨w.heap.size + 1, 0, none⟩) 0 0) 0 [] := by
  have h := own_empty (w.alloc o) e size base (by simp; omega)
  rwa [World.size_alloc] at h
theorem Ext.append {w0 W w' : World} {base : Nat} {e : TypeId} {size n : Nat} {v : Value} {xs : List Value} (h : Ext w0 W) (ho : W.ownsRow base e size v n xs) (hb : w0.heap.size ≤ base) (hg : W.grownBy w' v.ownBlock) : Ext w0 w' :=
  Below.grown h hg h.size (fun k hk => Nat.le_trans hb (ho.lt k hk).1)
theorem ite_in {c : Prop} {inst : Decidable c} {a b : Prop} (hc : c) (h : a) : @ite Prop c inst a b := by rw [if_pos hc]; exact h
/-- An append to a row of the call's own, seen from an older world: what was there stays. -/
theorem wp_append_E {P : Program} {o : Oper} {a : Act} {w : World} {K : Act → World → Prop} {Q : Exit → Act → World → Prop} (w0 : World) (s x : Operand) (t : TypeId)
    (ho : o.op = .call { callee := .builtin .append, args := #[s, x], argTypes := #[t, t] })
    (e : TypeId) (i : TypeInfo) (z : Value) (size bytes : Nat) (ht : P.underlying t = some (.slice e)) (hi : P.info? e = some i) (hz : i.zero = some z)
    (hsize : i.size = size) (hby : i.bytes = bytes) (hzs : z.cells.size = size) (hsz : 0 < size)
    (v : Value) (n : Nat) (xs : List Value) (hs : a.eval s = v)
    (A : Option Addr) (m c : Nat) (news : List Value) (hx : a.eval x = .slice A m c) (h1 : ∀ u ∈ news, u.oneCell' = true)
    (h63 : n + m ≤ maxLen) (hbytes : (n + m) * bytes ≤ 140737488355328)
    (hown : w.ownsRow w0.heap.size e size v n xs) (hr : Rd w size A m c news) (hE : Ext w0 w)
    (h : ∀ v' w', w'.ownsRow w0.heap.size e size v' (n + m) (xs ++ news) → Ext w0 w' → (∀ p u, w.cell? p = some u → some p.block ≠ v.ownBlock → w'.cell? p = some u) → K (a.put o.dst v') w') : o.wp P a w K Q :=
  wp_append_rd s x t ho w0.heap.size e i z size bytes ht hi hz hsize hby hzs hsz v n xs hs hown A m c news hx hr h1 h63 hbytes hE.size
    (fun v' w' h2 h3 => h v' w' h2 (Ext.append hE hown (Nat.le_refl _) h3) (fun _ _ hp hne => h3.cell hp hne))
theorem Rd.one {w : World} {b : Nat} {d : Due} (h0 : w.cell? ⟨b, 0, none⟩ = some (.int .i64 d.a)) (h1 : w.cell? ⟨b, 1, none⟩ = some (.int .i64 d.i)) : Rd w 2 (some ⟨b, 0, none⟩) 1 1 (dueCells [d]) :=
  ⟨rfl, Nat.le_refl _, ⟨by omega, fun e => by cases e⟩, fun _ => ⟨b, 0, rfl, fun j u hu => by
    match j, hu with
    | 0, hu => simp [dueCells] at hu; subst hu; exact h0
    | 1, hu => simp [dueCells] at hu; subst hu; exact h1
    | j + 2, hu => simp [dueCells] at hu⟩⟩
theorem Ext.alloc1 {a w : World} (h : Ext a w) (o : Obj) : Ext a (w.alloc o) := Below.alloc h h.size o
theorem Ext.drew1 {a w : World} (h : Ext a w) : Ext a w.drew := Below.drew h
theorem Ext.set1 {a w : World} (h : Ext a w) {p : Addr} (hp : a.heap.size ≤ p.block) (u : Value) : Ext a (w.setCell p u) := Below.setCell h hp u
theorem dueCells_one (l : List Due) : ∀ u ∈ dueCells l, u.oneCell' = true := by
  intro u hu
  simp only [dueCells, List.mem_flatMap] at hu
  obtain ⟨d, _, h⟩ := hu
  simp at h
  rcases h with rfl | rfl <;> rfl
end Go.Proofs.Ythmajaeekkbnnaa
