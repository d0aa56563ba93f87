/-
  General lemmas of this claim, over any program: how a law's post follows from 'it returns true and old memory is as it was'; how arguments are opened; a slice read as a list of cells; a drawn region whose calls may make memory.
-/
import Derived.WalkKit
import Derived.ProofKit
import Derived.Deep.Slices
import Derived.Deep.QuietTactic
import Derived.BigQuiet
import Derived.Lib.Hide
import Derived.OpenShut
set_option maxRecDepth 100000
set_option maxHeartbeats 16000000
namespace Go.Proofs.YtliopiphobopjaaGreat
open Go Go.RowKit Go.ChangeShapes Go.WideShapes

/-! ### The law's post -/
theorem trodAll_below {H : Type} {enc : TypeId × Value → H} {P : Program} (hl : laidOutB P = true) {W W' : World} (hb : Below W.heap.size W W') :
  ∀ (ts : List TypeId) (vs : List Value) (ds : List (DataW H)) (ps : List MemPlace), ts.all (fun t => P.readableRec t && decide (t < P.types.size)) = true →
   DataW.TrodAll enc P W 0 (fun _ => true) true ts vs ds ps → (∀ x ∈ ps, x.block < W.heap.size) →
   DataW.TrodAll enc P W' 0 (fun b => decide (b < W.heap.size)) true ts vs ds ps
 | [], [], [], _, _, h, _ => h
 | [], [], _ :: _, _, _, h, _ => h.elim
 | [], _ :: _, _, _, _, h, _ => h.elim
 | _ :: _, [], _, _, _, h, _ => h.elim
 | _ :: _, _ :: _, [], _, _, h, _ => h.elim
 | t :: ts, v :: vs, d :: ds, ps, hr, h, hlt => by
  obtain ⟨p, q, h1, h2, rfl⟩ := h
  simp only [List.all_cons, Bool.and_eq_true, decide_eq_true_eq] at hr
  exact ⟨p, q, Below.trod hl hr.1.1 hr.1.2 h1 hb (fun x hx => hlt x (by simp [hx])),
   trodAll_below hl hb ts vs ds q (by simpa using hr.2) h2 (fun x hx => hlt x (by simp [hx])), rfl⟩

theorem law_post {H : Type} {enc : TypeId × Value → H} {P : Program} {fn : Func} {s : ChangeSpec} {tb : TypeId} (hl : laidOutB P = true) (hvars : s.vars = []) (hrt : fn.resultTypes = #[tb])
  (hb : P.underlying tb = some .bool) (hpar : fn.params.toList.all (fun t => P.readableRec t && decide (t < P.types.size)) = true)
  {W W' : World} {args : Array Value} {ds gs : List (DataW H)} {before : List MemPlace} (hspec : s.fn H (ds ++ []) = { results := [.lit (.bool true)], args := ds })
  (hW : DataW.Whole enc P fn.params.toList s.vars false W args.toList ds gs before) (hbel : Below W.heap.size W W') :
  s.post enc P fn false true false false W args (.bool true) W' := by
 have hW0 := hW
 have hlt : ∀ p ∈ before, p.block < W.heap.size := fun p hp => hW.lt p hp
 obtain ⟨p, q, hA, hV, rfl, _, _⟩ := hW
 rw [hvars] at hV
 obtain ⟨rfl, rfl⟩ := trodVars_none hV
 simp only [List.append_nil] at hW0 hlt
 refine ⟨ds, [], p, [], p, [], hW0, ?_, ?_, ?_, ?_, fun h => by cases h⟩
 ·rw [hspec, hrt]
  exact trodAll_mk1 (shut_bool hb true)
 ·rw [hspec]
  exact trodAll_below hl hbel _ _ _ _ hpar hA hlt
 ·rw [hspec, hvars]
  rfl
 ·exact hbel.frame _

/-! ### Worlds -/
def Ext (w w' : World) : Prop := Below w.heap.size w w'
theorem Ext.refl (w : World) : Ext w w := Below.refl _ _
theorem Ext.trans {a b c : World} (h : Ext a b) (k : Ext b c) : Ext a c := Below.trans h (Below.mono k (Below.size h))
theorem Ext.drew (w : World) : Ext w w.drew := (Below.refl _ _).drew
theorem Ext.below {B : Nat} {a b c : World} (h : Below B a b) (k : Ext b c) (hB : B ≤ b.heap.size) : Below B a c := h.trans (k.mono hB)
theorem Ext.cell {w w' : World} (h : Ext w w') {p : Addr} {v : Value} (hp : w.cell? p = some v) : w'.cell? p = some v :=
 (Below.cell h (World.block_lt_of_cell? w p hp)).trans hp
theorem Ext.frozen {w w' : World} (h : Ext w w') {p : Addr} {v : Value} (hp : w.cell? p = some v) : w'.frozen? p = w.frozen? p :=
 Below.frozen h (World.block_lt_of_cell? w p hp)
theorem Ext.size {w w' : World} (h : Ext w w') : w.heap.size ≤ w'.heap.size := Below.size h

theorem Ext.at {w w' : World} (h : Ext w w') {b : Nat} (hb : b < w.heap.size) : (∀ o, w'.cell? ⟨b, o, none⟩ = w.cell? ⟨b, o, none⟩) ∧ ∀ o, w'.frozen? ⟨b, o, none⟩ = w.frozen? ⟨b, o, none⟩ :=
 ⟨fun o => Below.cell (p := ⟨b, o, none⟩) h hb, fun o => Below.frozen (p := ⟨b, o, none⟩) h hb⟩

/-! ### A flat struct of ints -/
def flatInts (P : Program) : Nat → TypeId → Bool
 | 0, _ => false
 | n + 1, t => match P.underlying t with
  | some (.int .i64) => true
  | some (.struct fs) => ((List.range (P.cellsOf t)).all fun j => fs.toList.any fun f => decide (f.offset ≤ j) && decide (j < f.offset + P.cellsOf f.type)) && fs.toList.all fun f => flatInts P n f.type
  | _ => false
def isI64 (v : Value) : Prop := ∃ z : Int, v = .int .i64 z ∧ -9223372036854775808 ≤ z ∧ z ≤ 9223372036854775807
/-! ### Slices -/
def Rd (w : World) (size : Nat) (A : Option Addr) (n cap : Nat) (xs : List Value) : Prop :=
 xs.length = n * size ∧ n ≤ cap ∧ (cap ≤ 9223372036854775807 ∧ (A = none → cap = 0)) ∧ (0 < n → ∃ b o, A = some ⟨b, o, none⟩ ∧ ∀ j u, xs[j]? = some u → w.cell? ⟨b, o + j, none⟩ = some u)
section
variable {w w' : World} {size n cap : Nat} {A : Option Addr} {xs : List Value}
theorem Rd.ext (h : Rd w size A n cap xs) (hx : Ext w w') : Rd w' size A n cap xs :=
 ⟨h.1, h.2.1, h.2.2.1, fun hn => by
  obtain ⟨b, o, e, hc⟩ := h.2.2.2 hn
  exact ⟨b, o, e, fun j u hu => hx.cell (hc j u hu)⟩⟩
theorem Rd.nil_ (w : World) (size : Nat) : Rd w size none 0 0 [] := ⟨by simp, Nat.le_refl _, ⟨by omega, fun _ => rfl⟩, fun h => absurd h (by omega)⟩
end

/-! ### Elements of m cells each -/
section flat
variable {α : Type} {enc : α → List Value} {m : Nat}
theorem flat_length (hm : ∀ a, (enc a).length = m) (l : List α) : (l.flatMap enc).length = l.length * m := by
 induction l with
 | nil => simp
 | cons a l ih => simp only [List.flatMap_cons, List.length_append, List.length_cons, ih, hm, Nat.add_mul, Nat.one_mul]; omega
theorem flat_get (hm : ∀ a, (enc a).length = m) (l : List α) : ∀ (i : Nat) (a : α), l[i]? = some a → ∀ j, j < m → (l.flatMap enc)[i * m + j]? = (enc a)[j]? := by
 induction l with
 | nil => intro i a h; simp at h
 | cons b l ih =>
  intro i a h j hj
  cases i with
  | zero =>
   simp only [List.getElem?_cons_zero, Option.some.injEq] at h
   subst h
   rw [List.flatMap_cons, Nat.zero_mul, Nat.zero_add, List.getElem?_append_left (by rw [hm]; exact hj)]
  | succ i =>
   rw [List.flatMap_cons, List.getElem?_append_right (by rw [hm, Nat.add_mul]; omega), hm, show (i + 1) * m + j - m = i * m + j by rw [Nat.add_mul]; omega]
   exact ih i a (by simpa using h) j hj
theorem Rd.length (hm : ∀ a, (enc a).length = m) {w : World} {n cap : Nat} {A : Option Addr} {l : List α} (h : Rd w m A n cap (l.flatMap enc)) (h0 : 0 < m) : l.length = n := by
 have := h.1; rw [flat_length hm] at this
 exact Nat.eq_of_mul_eq_mul_right h0 this
end flat

/-! ### A row that the call owns -/
def Own (w : World) (base : Nat) (e : TypeId) (size : Nat) (v : Value) (n : Nat) (xs : List Value) : Prop := w.ownsRow base e size v n xs
theorem Below.own {B base : Nat} {w w' : World} {e : TypeId} {size n : Nat} {v : Value} {xs : List Value} (h : w.ownsRow base e size v n xs) (hb : Below B w w') (hB : w.heap.size ≤ B) : w'.ownsRow base e size v n xs := by
 refine ⟨h.1, ?_⟩
 rcases h.2 with h2 | ⟨g, cap, cur, hv, hg, hh, r⟩
 ·exact .inl h2
 ·exact .inr ⟨g, cap, cur, hv, hg, by rw [hb.block g (Nat.lt_of_lt_of_le (Array.getElem?_eq_some_iff.1 hh).1 hB)]; exact hh, r⟩
theorem Ext.own {base : Nat} {w w' : World} {e : TypeId} {size n : Nat} {v : Value} {xs : List Value} (hb : Ext w w') (h : w.ownsRow base e size v n xs) : w'.ownsRow base e size v n xs := Below.own h hb (Nat.le_refl _)
theorem made_list (z : Array Value) (n : Nat) (hz : 0 < z.size) : (madeCells z (n * z.size)).toList = (List.replicate n z.toList).flatten := by
 apply List.ext_getElem?
 intro i
 have hlen : (List.replicate n z.toList).flatten.length = n * z.size := by simp
 by_cases hi : i < n * z.size
 ·have h1 : i / z.size < n := (Nat.div_lt_iff_lt_mul hz).2 hi
  have h2 : i % z.size < z.size := Nat.mod_lt _ hz
  have h3 := flat_get (enc := fun (l : List Value) => l.take z.size ++ List.replicate (z.size - l.length) default) (m := z.size) (fun a => by simp; omega) (List.replicate n z.toList) (i / z.size) z.toList (by simp [h1]) (i % z.size) h2
  have h4 : (List.replicate n z.toList).flatMap (fun (l : List Value) => l.take z.size ++ List.replicate (z.size - l.length) default) = (List.replicate n z.toList).flatten := by
   rw [List.flatMap_def]
   congr 1
   apply List.ext_getElem?
   intro j
   have ht : List.take z.size z.toList = z.toList := List.take_of_length_le (by simp)
   by_cases hj : j < n <;> simp [hj, ht]
  rw [h4, Nat.div_add_mod'] at h3
  rw [h3]
  have h5 : ¬ (n * z.size ≤ i) := by omega
  simp [madeCells, hi, h2]
 ·rw [List.getElem?_eq_none (by simp [madeCells]; omega), List.getElem?_eq_none (by rw [hlen]; omega)]

/-! ### Arguments -/
theorem none_spot {w : World} {a : Addr} {u : Value} (h : w.cell? a = some u) : a = ⟨a.block, a.off, none⟩ := by
 obtain ⟨b, o, sp⟩ := a
 unfold World.cell? at h
 split at h
 ·cases sp with
  | none => rfl
  | some k => simp at h
 ·cases h
theorem add_lit' (b o n : Nat) : (⟨b, o, none⟩ : Addr).add n = ⟨b, o + n, none⟩ := by unfold Addr.add; split <;> simp_all
/-! ### Appending a slice that reads, to a row of the call's own -/
theorem Rd.lit (w : World) (cs : Array Value) (e : TypeId) (n size : Nat) (hn : cs.size = n * size) (hm : n ≤ 9223372036854775807) : Rd (w.alloc (.cells cs e)) size (some ⟨w.heap.size, 0, none⟩) n n cs.toList :=
 ⟨by simpa using hn, Nat.le_refl _, ⟨hm, fun e => by cases e⟩, fun _ => ⟨w.heap.size, 0, rfl, fun j u hu => by
  rw [Nat.zero_add, cell_of_row _ _ _ cs e (0, 0) (heap_alloc_new w _)]
  simpa using hu⟩⟩
theorem Ext.alloc_ (w : World) (o : Obj) : Ext w (w.alloc o) := (Below.refl _ _).alloc (Nat.le_refl _) _
/-! ### A drawn region whose operations read, and whose calls leave what was there as it was -/
theorem wp_region_ext {P : Program} {id : Nat} {Q : Exit → Act → World → Prop} {a : Act} {w : World} {l : List Oper} (hm : P.follows .mixedOrders = true) (hB : Region.lexB .any l.toArray = true)
  (h : wpQuiet P l.toArray (Ext w) (fun a' => ∀ w', Ext w w' → Q .normal a' w') l a) : (Code.region id l.toArray true).wp P Q a w :=
 wp_region_quiet (C := Ext w) hm hB (Ext.drew w) (by simpa using h)
end Go.Proofs.YtliopiphobopjaaGreat
