/-
  General lemmas of this claim, over any program: how a law's post follows from 'it returns true and old memory is as it was'; how arguments are opened; a slice read as a list of cells; a drawn region whose calls may make memory.
-/
import Derived.WalkKit
import Derived.ProofKit
import Derived.Deep.Slices
import Derived.Deep.QuietTactic
import Derived.BigQuiet
import Derived.Lib.Hide
import Derived.OpenShut
namespace Go.Proofs.Ythmajaeekkbnnaa
open Go Go.RowKit Go.ChangeShapes Go.WideShapes

/-! ### The law's post -/
theorem trodAll_below {H : Type} {enc : TypeId × Value → H} {P : Program} (hl : laidOutB P = true) {W W' : World} (hb : Below W.heap.size W W') :
    ∀ (ts : List TypeId) (vs : List Value) (ds : List (DataW H)) (ps : List MemPlace), ts.all (fun t => P.readableRec t && decide (t < P.types.size)) = true →
      DataW.TrodAll enc P W 0 (fun _ => true) true ts vs ds ps → (∀ x ∈ ps, x.block < W.heap.size) →
      DataW.TrodAll enc P W' 0 (fun b => decide (b < W.heap.size)) true ts vs ds ps
  | [], [], [], _, _, h, _ => h
  | [], [], _ :: _, _, _, h, _ => h.elim
  | [], _ :: _, _, _, _, h, _ => h.elim
  | _ :: _, [], _, _, _, h, _ => h.elim
  | _ :: _, _ :: _, [], _, _, h, _ => h.elim
  | t :: ts, v :: vs, d :: ds, ps, hr, h, hlt => by
    obtain ⟨p, q, h1, h2, rfl⟩ := h
    simp only [List.all_cons, Bool.and_eq_true, decide_eq_true_eq] at hr
    exact ⟨p, q, Below.trod hl hr.1.1 hr.1.2 h1 hb (fun x hx => hlt x (by simp [hx])),
      trodAll_below hl hb ts vs ds q (by simpa using hr.2) h2 (fun x hx => hlt x (by simp [hx])), rfl⟩

theorem law_post {H : Type} {enc : TypeId × Value → H} {P : Program} {fn : Func} {s : ChangeSpec} {tb : TypeId} (hl : laidOutB P = true) (hvars : s.vars = []) (hrt : fn.resultTypes = #[tb])
    (hb : P.underlying tb = some .bool) (hpar : fn.params.toList.all (fun t => P.readableRec t && decide (t < P.types.size)) = true)
    {W W' : World} {args : Array Value} {ds gs : List (DataW H)} {before : List MemPlace} (hspec : s.fn H (ds ++ []) = { results := [.lit (.bool true)], args := ds })
    (hW : DataW.Whole enc P fn.params.toList s.vars false W args.toList ds gs before) (hbel : Below W.heap.size W W') :
    s.post enc P fn false true false false W args (.bool true) W' := by
  have hW0 := hW
  have hlt : ∀ p ∈ before, p.block < W.heap.size := fun p hp => hW.lt p hp
  obtain ⟨p, q, hA, hV, rfl, _, _⟩ := hW
  rw [hvars] at hV
  obtain ⟨rfl, rfl⟩ := trodVars_none hV
  simp only [List.append_nil] at hW0 hlt
  refine ⟨ds, [], p, [], p, [], hW0, ?_, ?_, ?_, ?_, fun h => by cases h⟩
  · rw [hspec, hrt]
    exact trodAll_mk1 (shut_bool hb true)
  · rw [hspec]
    exact trodAll_below hl hbel _ _ _ _ hpar hA hlt
  · rw [hspec, hvars]
    rfl
  · exact hbel.frame _

/-! ### Worlds -/
/-- What was there is as it was. -/
def Ext (w w' : World) : Prop := Below w.heap.size w w'
theorem Ext.refl (w : World) : Ext w w := Below.refl _ _
theorem Ext.trans {a b c : World} (h : Ext a b) (k : Ext b c) : Ext a c := Below.trans h (Below.mono k (Below.size h))
theorem Ext.drew (w : World) : Ext w w.drew := (Below.refl _ _).drew
theorem Ext.below {B : Nat} {a b c : World} (h : Below B a b) (k : Ext b c) (hB : B ≤ b.heap.size) : Below B a c := h.trans (k.mono hB)
theorem Ext.cell {w w' : World} (h : Ext w w') {p : Addr} {v : Value} (hp : w.cell? p = some v) : w'.cell? p = some v :=
  (Below.cell h (World.block_lt_of_cell? w p hp)).trans hp
theorem Ext.frozen {w w' : World} (h : Ext w w') {p : Addr} {v : Value} (hp : w.cell? p = some v) : w'.frozen? p = w.frozen? p :=
  Below.frozen h (World.block_lt_of_cell? w p hp)
theorem Ext.size {w w' : World} (h : Ext w w') : w.heap.size ≤ w'.heap.size := Below.size h

/-- For the walk: what the new world holds where the old one had blocks. -/
theorem bcell {w w' : World} (h : Ext w w') : (∀ b o, b < w.heap.size → w'.cell? ⟨b, o, none⟩ = w.cell? ⟨b, o, none⟩) ∧ (∀ b o, b < w.heap.size → w'.frozen? ⟨b, o, none⟩ = w.frozen? ⟨b, o, none⟩) ∧ w.heap.size ≤ w'.heap.size :=
  ⟨fun b o hb => Below.cell (p := ⟨b, o, none⟩) h hb, fun b o hb => Below.frozen (p := ⟨b, o, none⟩) h hb, Below.size h⟩
theorem Ext.at {w w' : World} (h : Ext w w') {b : Nat} (hb : b < w.heap.size) : (∀ o, w'.cell? ⟨b, o, none⟩ = w.cell? ⟨b, o, none⟩) ∧ ∀ o, w'.frozen? ⟨b, o, none⟩ = w.frozen? ⟨b, o, none⟩ :=
  ⟨fun o => Below.cell (p := ⟨b, o, none⟩) h hb, fun o => Below.frozen (p := ⟨b, o, none⟩) h hb⟩

/-! ### A flat struct of ints -/
/-- The cells of a type, if each is an int. -/
def flatInts (P : Program) : Nat → TypeId → Bool
  | 0, _ => false
  | n + 1, t => match P.underlying t with
    | some (.int .i64) => true
    | some (.struct fs) => ((List.range (P.cellsOf t)).all fun j => fs.toList.any fun f => decide (f.offset ≤ j) && decide (j < f.offset + P.cellsOf f.type)) && fs.toList.all fun f => flatInts P n f.type
    | _ => false
def isI64 (v : Value) : Prop := ∃ z : Int, v = .int .i64 z ∧ -9223372036854775808 ≤ z ∧ z ≤ 9223372036854775807
theorem flatInts_cells {H : Type} {enc : TypeId × Value → H} {P : Program} {w : World} {base : Nat} {spare : Nat → Bool} {held : Bool} :
    ∀ (n : Nat) (t : TypeId) (fuel : Nat) (cs : List Value) (x : DataW H × List MemPlace), flatInts P n t = true → DataW.trod enc P w base spare held fuel t cs = some x →
      ∀ (j : Nat) (v : Value), cs[j]? = some v → isI64 v
  | 0, _, _, _, _, h, _ => by simp [flatInts] at h
  | n + 1, t, fuel, cs, x, h, hx => by
    intro j v hj
    unfold flatInts at h
    split at h
    · rename_i ht
      obtain ⟨z, rfl, _, hw⟩ := DataW.trod_int ht hx
      have hj0 : j = 0 := by have := (List.getElem?_eq_some_iff.1 hj).1; simp at this; omega
      subst hj0
      simp only [List.getElem?_cons_zero, Option.some.injEq] at hj
      subst hj
      exact ⟨z, rfl, (bounds_i64 hw).1, (bounds_i64 hw).2⟩
    · rename_i fs ht
      simp only [Bool.and_eq_true, List.all_eq_true, List.mem_range, List.any_eq_true, decide_eq_true_eq] at h
      obtain ⟨xs, m, _, _, hl, _, hf⟩ := DataW.trod_struct ht hx
      have hjl : j < P.cellsOf t := by rw [← hl]; exact (List.getElem?_eq_some_iff.1 hj).1
      obtain ⟨f, hfm, h1, h2⟩ := h.1 j hjl
      obtain ⟨i, hi, hfi⟩ := List.getElem_of_mem hfm
      have hfs : fs[i]? = some f := by
        rw [← Array.getElem?_toList]
        exact List.getElem?_eq_some_iff.2 ⟨hi, hfi⟩
      have h3 := hf i f hfs
      have hxi : ∃ y, xs[i]? = some y := by
        have : i < xs.length := by
          rename_i hxl
          rw [hxl]
          simpa using hi
        exact ⟨_, List.getElem?_eq_getElem this⟩
      obtain ⟨y, hy⟩ := hxi
      rw [hy] at h3
      refine flatInts_cells n f.type m _ y (h.2 f hfm) h3 (j - f.offset) v ?_
      rw [List.getElem?_take, if_pos (by omega), List.getElem?_drop, ← hj]
      congr 1
      omega
    · cases h
theorem flatInts_list {l : List Value} (h : ∀ (j : Nat) (v : Value), l[j]? = some v → isI64 v) :
    ∃ zs : List Int, l = zs.map (Value.int .i64) ∧ ∀ z ∈ zs, -9223372036854775808 ≤ z ∧ z ≤ 9223372036854775807 := by
  induction l with
  | nil => exact ⟨[], rfl, by simp⟩
  | cons v l ih =>
    obtain ⟨zs, rfl, hz⟩ := ih (fun j u hu => h (j + 1) u (by simpa using hu))
    obtain ⟨z, rfl, hb⟩ := h 0 v rfl
    exact ⟨z :: zs, rfl, by simpa using ⟨hb, hz⟩⟩

/-! ### Slices -/
/-- The slice value holds the cells 'xs', n elements of 'size' cells each. -/
def Rd (w : World) (size : Nat) (A : Option Addr) (n cap : Nat) (xs : List Value) : Prop :=
  xs.length = n * size ∧ n ≤ cap ∧ (cap ≤ 9223372036854775807 ∧ (A = none → cap = 0)) ∧ (0 < n → ∃ b o, A = some ⟨b, o, none⟩ ∧ ∀ j u, xs[j]? = some u → w.cell? ⟨b, o + j, none⟩ = some u)
section
variable {w w' : World} {size n cap : Nat} {A : Option Addr} {xs : List Value}
theorem Rd.ext (h : Rd w size A n cap xs) (hx : Ext w w') : Rd w' size A n cap xs :=
  ⟨h.1, h.2.1, h.2.2.1, fun hn => by
    obtain ⟨b, o, e, hc⟩ := h.2.2.2 hn
    exact ⟨b, o, e, fun j u hu => hx.cell (hc j u hu)⟩⟩
theorem Rd.nil_ (w : World) (size : Nat) : Rd w size none 0 0 [] := ⟨by simp, Nat.le_refl _, ⟨by omega, fun _ => rfl⟩, fun h => absurd h (by omega)⟩
theorem Rd.of_own {base : Nat} {e : TypeId} (h : w.ownsRow base e size (.slice A n cap) n xs) : Rd w size A n cap xs := by
  rcases h.2 with ⟨hv, hn⟩ | ⟨g, c, cur, hv, _, hg, hn, hm, hs, ht⟩
  · injection hv with h1 h2 h3
    subst h2; subst h3
    exact ⟨h.1, Nat.le_refl _, ⟨by omega, fun _ => rfl⟩, fun hh => absurd hh (by omega)⟩
  · injection hv with h1 h2 h3
    subst h1; subst h3
    refine ⟨h.1, hn, ⟨by unfold maxLen at hm; omega, fun e => by cases e⟩, fun _ => ⟨g, 0, rfl, fun j u hu => ?_⟩⟩
    rw [Nat.zero_add]
    have := h.cells (g := g) rfl j u hu
    rwa [show (⟨g, 0, none⟩ : Addr).add j = ⟨g, j, none⟩ by unfold Addr.add; split <;> simp_all] at this
end

/-! ### Elements of m cells each -/
section flat
variable {α : Type} {enc : α → List Value} {m : Nat}
theorem flat_length (hm : ∀ a, (enc a).length = m) (l : List α) : (l.flatMap enc).length = l.length * m := by
  induction l with
  | nil => simp
  | cons a l ih => simp only [List.flatMap_cons, List.length_append, List.length_cons, ih, hm, Nat.add_mul, Nat.one_mul]; omega
theorem flat_get (hm : ∀ a, (enc a).length = m) (l : List α) : ∀ (i : Nat) (a : α), l[i]? = some a → ∀ j, j < m → (l.flatMap enc)[i * m + j]? = (enc a)[j]? := by
  induction l with
  | nil => intro i a h; simp at h
  | cons b l ih =>
    intro i a h j hj
    cases i with
    | zero =>
      simp only [List.getElem?_cons_zero, Option.some.injEq] at h
      subst h
      rw [List.flatMap_cons, Nat.zero_mul, Nat.zero_add, List.getElem?_append_left (by rw [hm]; exact hj)]
    | succ i =>
      rw [List.flatMap_cons, List.getElem?_append_right (by rw [hm, Nat.add_mul]; omega), hm, show (i + 1) * m + j - m = i * m + j by rw [Nat.add_mul]; omega]
      exact ih i a (by simpa using h) j hj
theorem flat_append (l r : List α) : (l ++ r).flatMap enc = l.flatMap enc ++ r.flatMap enc := by simp
/-- A slice of elements. -/
theorem Rd.elems (hm : ∀ a, (enc a).length = m) {w : World} {n cap : Nat} {A : Option Addr} {l : List α} (h : Rd w m A n cap (l.flatMap enc)) (h0 : 0 < m) (hn : 0 < n) :
    l.length = n ∧ ∃ b o, A = some ⟨b, o, none⟩ ∧ b < w.heap.size ∧ ∀ i a, l[i]? = some a → ∀ j u, j < m → (enc a)[j]? = some u → w.cell? ⟨b, o + (i * m + j), none⟩ = some u := by
  obtain ⟨b, o, e, hc⟩ := h.2.2.2 hn
  have hl : l.length = n := by
    have := h.1; rw [flat_length hm] at this
    exact Nat.eq_of_mul_eq_mul_right h0 this
  refine ⟨hl, b, o, e, ?_, fun i a ha j u hj hu => hc _ u (by rw [flat_get hm l i a ha j hj]; exact hu)⟩
  have hx : ∃ u, (l.flatMap enc)[0]? = some u := by
    refine ⟨_, List.getElem?_eq_getElem ?_⟩
    rw [flat_length hm, hl]
    exact Nat.mul_pos hn h0
  obtain ⟨u, hu⟩ := hx
  exact World.block_lt_of_cell? _ _ (hc 0 u hu)
theorem Rd.length (hm : ∀ a, (enc a).length = m) {w : World} {n cap : Nat} {A : Option Addr} {l : List α} (h : Rd w m A n cap (l.flatMap enc)) (h0 : 0 < m) : l.length = n := by
  have := h.1; rw [flat_length hm] at this
  exact Nat.eq_of_mul_eq_mul_right h0 this
end flat

/-! ### A row that the call owns -/
/-- The slice value v is a row of the call's own, from block number 'base' on, that holds xs. -/
def Own (w : World) (base : Nat) (e : TypeId) (size : Nat) (v : Value) (n : Nat) (xs : List Value) : Prop := w.ownsRow base e size v n xs
theorem Below.own {B base : Nat} {w w' : World} {e : TypeId} {size n : Nat} {v : Value} {xs : List Value} (h : w.ownsRow base e size v n xs) (hb : Below B w w') (hB : w.heap.size ≤ B) : w'.ownsRow base e size v n xs := by
  refine ⟨h.1, ?_⟩
  rcases h.2 with h2 | ⟨g, cap, cur, hv, hg, hh, r⟩
  · exact .inl h2
  · exact .inr ⟨g, cap, cur, hv, hg, by rw [hb.block g (Nat.lt_of_lt_of_le (Array.getElem?_eq_some_iff.1 hh).1 hB)]; exact hh, r⟩
theorem Ext.own {base : Nat} {w w' : World} {e : TypeId} {size n : Nat} {v : Value} {xs : List Value} (hb : Ext w w') (h : w.ownsRow base e size v n xs) : w'.ownsRow base e size v n xs := Below.own h hb (Nat.le_refl _)
theorem own_mono {b b' : Nat} {w : World} {e : TypeId} {size n : Nat} {v : Value} {xs : List Value} (h : w.ownsRow b e size v n xs) (hb : b' ≤ b) : w.ownsRow b' e size v n xs := by
  refine ⟨h.1, ?_⟩
  rcases h.2 with h2 | ⟨g, cap, cur, hv, hg, r⟩
  · exact .inl h2
  · exact .inr ⟨g, cap, cur, hv, Nat.le_trans hb hg, r⟩
theorem own_form {b : Nat} {w : World} {e : TypeId} {size n : Nat} {v : Value} {xs : List Value} (h : w.ownsRow b e size v n xs) : ∃ A cap, v = .slice A n cap ∧ Rd w size A n cap xs := by
  rcases h.2 with ⟨rfl, rfl⟩ | ⟨g, cap, cur, rfl, hg, r⟩
  · exact ⟨none, 0, rfl, Rd.of_own h⟩
  · exact ⟨_, cap, rfl, Rd.of_own h⟩

theorem own_cell {b : Nat} {w : World} {e : TypeId} {size n g cap : Nat} {xs : List Value} (h : w.ownsRow b e size (.slice (some ⟨g, 0, none⟩) n cap) n xs) {j : Nat} (hj : j < n * size) :
    ∃ u, w.cell? ⟨g, j, none⟩ = some u ∧ w.frozen? ⟨g, j, none⟩ = false :=
  ⟨xs[j]'(by rw [h.1]; exact hj), by rw [h.cellAt j hj, List.getElem?_eq_getElem], h.frozenAt j⟩
theorem own_lt {b : Nat} {w : World} {e : TypeId} {size n g cap : Nat} {xs : List Value} (h : w.ownsRow b e size (.slice (some ⟨g, 0, none⟩) n cap) n xs) : b ≤ g ∧ g < w.heap.size := h.lt g rfl
theorem made_list (z : Array Value) (n : Nat) (hz : 0 < z.size) : (madeCells z (n * z.size)).toList = (List.replicate n z.toList).flatten := by
  apply List.ext_getElem?
  intro i
  have hlen : (List.replicate n z.toList).flatten.length = n * z.size := by simp
  by_cases hi : i < n * z.size
  · have h1 : i / z.size < n := (Nat.div_lt_iff_lt_mul hz).2 hi
    have h2 : i % z.size < z.size := Nat.mod_lt _ hz
    have h3 := flat_get (enc := fun (l : List Value) => l.take z.size ++ List.replicate (z.size - l.length) default) (m := z.size) (fun a => by simp; omega) (List.replicate n z.toList) (i / z.size) z.toList (by simp [h1]) (i % z.size) h2
    have h4 : (List.replicate n z.toList).flatMap (fun (l : List Value) => l.take z.size ++ List.replicate (z.size - l.length) default) = (List.replicate n z.toList).flatten := by
      rw [List.flatMap_def]
      congr 1
      apply List.ext_getElem?
      intro j
      have ht : List.take z.size z.toList = z.toList := List.take_of_length_le (by simp)
      by_cases hj : j < n <;> simp [hj, ht]
    rw [h4, Nat.div_add_mod'] at h3
    rw [h3]
    have h5 : ¬ (n * z.size ≤ i) := by omega
    simp [madeCells, hi, h2]
  · rw [List.getElem?_eq_none (by simp [madeCells]; omega), List.getElem?_eq_none (by rw [hlen]; omega)]

theorem only_setCell {a w : World} {g : Nat} (h : a.grownBy w (some g)) {p : Addr} (hp : p.block = g) (u : Value) : a.grownBy (w.setCell p u) (some g) :=
  ⟨h.os, h.tape, h.output, by simpa [World.setCell] using h.size, fun i hi hne => (Below.heap_setCell w p u i (by rintro rfl; exact hne (by rw [hp]))).trans (h.block i hi hne)⟩
theorem only_trans {a b c : World} {r : Option Nat} (h : a.grownBy b r) (k : b.grownBy c r) : a.grownBy c r :=
  ⟨k.os.trans h.os, k.tape.trans h.tape, k.output.trans h.output, Nat.le_trans h.size k.size, fun i hi hne => (k.block i (Nat.lt_of_lt_of_le hi h.size) hne).trans (h.block i hi hne)⟩
theorem only_ext {a b : World} {r : Option Nat} (h : Ext a b) : a.grownBy b r := ⟨h.os, h.tape, h.output, h.size, fun i hi _ => h.block i hi⟩
/-- What another block holds stays while one block is written. -/
theorem only_own {a b : World} {g : Nat} {base : Nat} {e : TypeId} {size n : Nat} {v : Value} {xs : List Value} (h : a.grownBy b (some g)) (ho : a.ownsRow base e size v n xs) (hne : v.ownBlock ≠ some g) : b.ownsRow base e size v n xs :=
  ho.kept h (.inr hne)
theorem only_rd {a b : World} {g : Nat} {size n cap : Nat} {A : Option Addr} {xs : List Value} (h : a.grownBy b (some g)) (hr : Rd a size A n cap xs) (hne : ∀ p, A = some p → p.block ≠ g) : Rd b size A n cap xs :=
  ⟨hr.1, hr.2.1, hr.2.2.1, fun hn => by
    obtain ⟨q, o, e, hc⟩ := hr.2.2.2 hn
    exact ⟨q, o, e, fun j u hu => h.cell (hc j u hu) (fun e2 => hne _ e (by injection e2))⟩⟩

/-! ### Arguments -/
theorem none_spot {w : World} {a : Addr} {u : Value} (h : w.cell? a = some u) : a = ⟨a.block, a.off, none⟩ := by
  obtain ⟨b, o, sp⟩ := a
  unfold World.cell? at h
  split at h
  · cases sp with
    | none => rfl
    | some k => simp at h
  · cases h
theorem add_lit' (b o n : Nat) : (⟨b, o, none⟩ : Addr).add n = ⟨b, o + n, none⟩ := by unfold Addr.add; split <;> simp_all
/-- A slice argument whose elements are flat: its cells, as a list. -/
theorem open_flat_slice {H : Type} {enc : TypeId × Value → H} {P : Program} {w : World} {t e : TypeId} {m : Nat} {v : Value} {d : DataW H} {p : List MemPlace} {r : Reach} {b0 : Nat} (ht : P.underlying t = some (.slice e)) (hc : P.cellsOf e = m) (hm : 0 < m)
    (hok : Value.okWide P w r b0 t v) (h : DataW.Trod enc P w 0 (fun _ => true) true t v d p) :
    ∃ (A : Option Addr) (n cap : Nat) (xs : List Value), v = .slice A n cap ∧ Rd w m A n cap xs ∧ ∀ i, i < n → ∃ (fuel : Nat) (y : DataW H × List MemPlace), DataW.trod enc P w 0 (fun _ => true) true fuel e ((xs.drop (i * m)).take m) = some y := by
  obtain ⟨a0, n0, cap0, rfl⟩ := okWide_slice ht hok
  obtain ⟨fuel, hf⟩ := h
  have hf' : DataW.trod enc P w 0 (fun _ => true) true fuel t [.slice a0 n0 cap0] = some (d, p) := by simpa [Value.cells] using hf
  rcases Go.Deep.open_slice ht hf' with ⟨hcs, _⟩ | ⟨a, len, cap, m', k, D, Pl, hcs, _, hl, hcm, hmm, _, hi⟩
  · injection hcs with h1 _
    injection h1 with h1 h2 h3
    subst h1; subst h2; subst h3
    exact ⟨none, 0, 0, [], rfl, Rd.nil_ w m, fun i hi => absurd hi (by omega)⟩
  · injection hcs with h1 _
    injection h1 with h1 h2 h3
    subst h1; subst h2; subst h3
    have hle : n0 ≤ m' := by rw [hmm]; simp; exact hl
    have hi' : ∀ i, ∃ cs' : List Value, i < n0 → w.cells? 0 (a.add (i * m)) m = some cs' ∧ DataW.trod enc P w 0 (fun _ => true) true k e cs' = some (D i, Pl i) := fun i => by
      by_cases hin : i < n0
      · obtain ⟨cs', h1, h2⟩ := hi i (by omega)
        rw [hc] at h1
        exact ⟨cs', fun _ => ⟨h1, h2⟩⟩
      · exact ⟨[], fun hh => absurd hh hin⟩
    obtain ⟨cs, hcs⟩ := Classical.axiomOfChoice hi'
    have hlen : ∀ i, i < n0 → (cs i).length = m := fun i hin => (World.cells?_some (hcs i hin).1).2.1
    have hflat : ∀ k, k ≤ n0 → ((List.range k).flatMap cs).length = k * m ∧ ∀ i, i < k → ∀ j, j < m → ((List.range k).flatMap cs)[i * m + j]? = (cs i)[j]? := by
      intro k
      induction k with
      | zero => intro _; exact ⟨by simp, fun i hi => absurd hi (by omega)⟩
      | succ k ih =>
        intro hk
        obtain ⟨i1, i2⟩ := ih (by omega)
        rw [List.range_succ, List.flatMap_append]
        have hk1 : (List.flatMap cs [k]) = cs k := by simp
        rw [hk1]
        refine ⟨by rw [List.length_append, i1, hlen k (by omega), Nat.add_mul]; omega, fun i hik j hj => ?_⟩
        by_cases hik' : i < k
        · have hb : i * m + j < k * m := by
            have : (i + 1) * m ≤ k * m := Nat.mul_le_mul_right m hik'
            rw [Nat.add_mul] at this; omega
          rw [List.getElem?_append_left (by rw [i1]; exact hb)]
          exact i2 i hik' j hj
        · have : i = k := by omega
          subst this
          rw [List.getElem?_append_right (by rw [i1]; omega), i1]
          congr 1
          omega
    obtain ⟨f1, f2⟩ := hflat n0 (Nat.le_refl _)
    refine ⟨some a, n0, cap0, (List.range n0).flatMap cs, rfl, ⟨f1, hl, ⟨by unfold maxLen at hcm; omega, fun e => by cases e⟩, fun hn => ?_⟩, fun i hin => ⟨k, (D i, Pl i), ?_⟩⟩
    · have h0 : ∃ u, w.cell? a = some u := by
        obtain ⟨_, hl0, hc0⟩ := World.cells?_some (hcs 0 hn).1
        have := hc0 0 hm
        simp only [Nat.zero_mul, Addr.add, if_true] at this
        exact ⟨(cs 0)[0]'(by omega), by rw [this, List.getElem?_eq_getElem]⟩
      obtain ⟨u0, hu0⟩ := h0
      have ha := none_spot hu0
      refine ⟨a.block, a.off, by rw [← ha], fun j u hu => ?_⟩
      have hj : j < n0 * m := by rw [← f1]; exact (List.getElem?_eq_some_iff.1 hu).1
      have h1 : j / m < n0 := (Nat.div_lt_iff_lt_mul hm).2 hj
      have h2 : j % m < m := Nat.mod_lt _ hm
      have h3 := f2 (j / m) h1 (j % m) h2
      rw [Nat.div_add_mod'] at h3
      obtain ⟨_, _, hc0⟩ := World.cells?_some (hcs (j / m) h1).1
      have h4 := hc0 (j % m) h2
      rw [ha, add_lit', add_lit', Nat.add_assoc, Nat.div_add_mod', ← h3, hu] at h4
      exact h4
    · have : (((List.range n0).flatMap cs).drop (i * m)).take m = cs i := by
        apply List.ext_getElem?
        intro j
        by_cases hj : j < m
        · rw [List.getElem?_take, if_pos hj, List.getElem?_drop, f2 i hin j hj]
        · rw [List.getElem?_eq_none (by simp; omega), List.getElem?_eq_none (by rw [hlen i hin]; omega)]
      rw [this]
      exact (hcs i hin).2
/-- .. and each cell is an int. -/
theorem open_ints_slice {H : Type} {enc : TypeId × Value → H} {P : Program} {w : World} {t e : TypeId} {m : Nat} {v : Value} {d : DataW H} {p : List MemPlace} {r : Reach} {b0 : Nat} (ht : P.underlying t = some (.slice e)) (hc : P.cellsOf e = m) (hm : 0 < m) (hfl : flatInts P 8 e = true)
    (hok : Value.okWide P w r b0 t v) (h : DataW.Trod enc P w 0 (fun _ => true) true t v d p) :
    ∃ (A : Option Addr) (n cap : Nat) (xs : List Value), v = .slice A n cap ∧ Rd w m A n cap xs ∧ ∀ (j : Nat) (u : Value), xs[j]? = some u → isI64 u := by
  obtain ⟨A, n, cap, xs, rfl, hr, hi⟩ := open_flat_slice ht hc hm hok h
  refine ⟨A, n, cap, xs, rfl, hr, fun j u hu => ?_⟩
  have hj : j < n * m := by rw [← hr.1]; exact (List.getElem?_eq_some_iff.1 hu).1
  obtain ⟨fuel, y, hy⟩ := hi (j / m) ((Nat.div_lt_iff_lt_mul hm).2 hj)
  refine flatInts_cells 8 e fuel _ y hfl hy (j % m) u ?_
  rw [List.getElem?_take, if_pos (Nat.mod_lt _ hm), List.getElem?_drop, Nat.div_add_mod']
  exact hu
/-- A struct of ints, by value. -/
theorem open_ints_agg {H : Type} {enc : TypeId × Value → H} {P : Program} {w : World} {t : TypeId} {v : Value} {d : DataW H} {p : List MemPlace} {r : Reach} {b0 : Nat} {fs : Array Field} (ht : P.underlying t = some (.struct fs)) (hfl : flatInts P 8 t = true)
    (hok : Value.okWide P w r b0 t v) (h : DataW.Trod enc P w 0 (fun _ => true) true t v d p) :
    ∃ zs : List Int, v = .agg (zs.map (Value.int .i64)).toArray ∧ zs.length = P.cellsOf t ∧ ∀ z ∈ zs, -9223372036854775808 ≤ z ∧ z ≤ 9223372036854775807 := by
  obtain ⟨cs, rfl, hs⟩ := okWide_struct ht hok
  obtain ⟨fuel, hf⟩ := h
  obtain ⟨zs, hz, hb⟩ := flatInts_list (flatInts_cells 8 t fuel _ _ hfl hf)
  simp only [Value.cells] at hz
  refine ⟨zs, by rw [← hz], ?_, hb⟩
  rw [← hs, ← Array.length_toList, hz, List.length_map]

theorem open_ints2 {H : Type} {enc : TypeId × Value → H} {P : Program} {w : World} {t : TypeId} {v : Value} {d : DataW H} {p : List MemPlace} {r : Reach} {b0 : Nat} {fs : Array Field} (ht : P.underlying t = some (.struct fs)) (hfl : flatInts P 8 t = true) (hc : P.cellsOf t = 2)
    (hok : Value.okWide P w r b0 t v) (h : DataW.Trod enc P w 0 (fun _ => true) true t v d p) : ∃ x y : Int, v = .agg #[.int .i64 x, .int .i64 y] := by
  obtain ⟨z, hv, hl, _⟩ := open_ints_agg ht hfl hok h
  rw [hc] at hl
  match z, hl with
  | [x, y], _ => exact ⟨x, y, hv⟩
theorem two_of {α : Type} {l : List α} (h : l.length = 2) : ∃ x y, l = [x, y] := by
  match l, h with
  | [x, y], _ => exact ⟨x, y, rfl⟩

theorem Rd.max {w : World} {size n cap : Nat} {A : Option Addr} {xs : List Value} (h : Rd w size A n cap xs) : (n : Int) ≤ 9223372036854775807 := by
  have h1 := h.2.1; have h2 := h.2.2.1.1; omega

/-! ### Appending a slice that reads, to a row of the call's own -/
theorem wp_append_rd {P : Program} {o : Oper} {a : Act} {w : World} {K : Act → World → Prop} {Q : Exit → Act → World → Prop} (s x : Operand) (t : TypeId)
    (ho : o.op = .call { callee := .builtin .append, args := #[s, x], argTypes := #[t, t] })
    (base : Nat) (e : TypeId) (i : TypeInfo) (z : Value) (size bytes : Nat) (ht : P.underlying t = some (.slice e)) (hi : P.info? e = some i) (hz : i.zero = some z)
    (hsize : i.size = size) (hby : i.bytes = bytes) (hzs : z.cells.size = size) (hsz : 0 < size)
    (v : Value) (n : Nat) (xs : List Value) (hs : a.eval s = v) (hown : w.ownsRow base e size v n xs)
    (A : Option Addr) (m c : Nat) (news : List Value) (hx : a.eval x = .slice A m c) (hr : Rd w size A m c news) (h1 : ∀ u ∈ news, u.oneCell' = true)
    (h63 : n + m ≤ maxLen) (hbytes : (n + m) * bytes ≤ 140737488355328) (hbase : base ≤ w.heap.size)
    (h : ∀ v' w', w'.ownsRow base e size v' (n + m) (xs ++ news) → w.grownBy w' v.ownBlock → K (a.put o.dst v') w') : o.wp P a w K Q := by
  cases A with
  | some ad =>
    refine wp_append_own w s x t ho base e i z size bytes ht hi hz hsize hby hzs hsz v n xs hs hown ad m c news hx hr.1 (fun j u hu => ?_) h1 h63 hbytes hbase (fun v' w' h2 h3 _ => h v' w' h2 h3)
    have hm : 0 < m := by
      have hl := (List.getElem?_eq_some_iff.1 hu).1
      rw [hr.1] at hl
      exact Nat.pos_of_ne_zero (fun e => by subst e; simp at hl)
    obtain ⟨b, of, e, hc⟩ := hr.2.2.2 hm
    injection e with e
    subst e
    rw [add_lit']
    exact hc j u hu
  | none =>
    have hm : m = 0 := by
      rcases Nat.eq_zero_or_pos m with h0 | h0
      · exact h0
      · obtain ⟨b, of, e, _⟩ := hr.2.2.2 h0
        cases e
    have hc := hr.2.2.1.2 rfl
    subst hm; subst hc
    have hnews : news = [] := List.eq_nil_of_length_eq_zero (by rw [hr.1, Nat.zero_mul])
    subst hnews
    have hrun := run_append_owned_none (P := P) w base t o.type e i size ht hi v n xs hown
    unfold Oper.wp execOp
    simp only [ho, resolve, invoke, builtin, Sem.run_bind, Sem.run_pure, Result.andThen_ok, List.map_toArray, List.map_cons, List.map_nil, hs, hx, hrun]
    exact h v w (by simpa using hown) (World.grownBy.refl _ _)
theorem wpList_append_rd {P : Program} {o : Oper} {a : Act} {w : World} {ops : Array Oper} {rest : List Oper} {Q : Exit → Act → World → Prop} (hgd : o.guard = none) (s x : Operand) (t : TypeId)
    (ho : o.op = .call { callee := .builtin .append, args := #[s, x], argTypes := #[t, t] })
    (base : Nat) (e : TypeId) (i : TypeInfo) (z : Value) (size bytes : Nat) (ht : P.underlying t = some (.slice e)) (hi : P.info? e = some i) (hz : i.zero = some z)
    (hsize : i.size = size) (hby : i.bytes = bytes) (hzs : z.cells.size = size) (hsz : 0 < size)
    (v : Value) (n : Nat) (xs : List Value) (hs : a.eval s = v) (hown : w.ownsRow base e size v n xs)
    (A : Option Addr) (m c : Nat) (news : List Value) (hx : a.eval x = .slice A m c) (hr : Rd w size A m c news) (h1 : ∀ u ∈ news, u.oneCell' = true)
    (h63 : n + m ≤ maxLen) (hbytes : (n + m) * bytes ≤ 140737488355328) (hbase : base ≤ w.heap.size)
    (h : ∀ v' w', w'.ownsRow base e size v' (n + m) (xs ++ news) → w.grownBy w' v.ownBlock → wpList P ops Q rest (a.put o.dst v') w') : wpList P ops Q (o :: rest) a w :=
  wpList_plain hgd fun _ hK => wp_append_rd s x t ho base e i z size bytes ht hi hz hsize hby hzs hsz v n xs hs hown A m c news hx hr h1 h63 hbytes hbase fun v' w' h2 h3 => hK _ _ (h v' w' h2 h3)
/-- A slice literal's block reads. -/
theorem Rd.lit (w : World) (cs : Array Value) (e : TypeId) (n size : Nat) (hn : cs.size = n * size) (hm : n ≤ 9223372036854775807) : Rd (w.alloc (.cells cs e)) size (some ⟨w.heap.size, 0, none⟩) n n cs.toList :=
  ⟨by simpa using hn, Nat.le_refl _, ⟨hm, fun e => by cases e⟩, fun _ => ⟨w.heap.size, 0, rfl, fun j u hu => by
    rw [Nat.zero_add, cell_of_row _ _ _ cs e (0, 0) (heap_alloc_new w _)]
    simpa using hu⟩⟩
theorem Ext.alloc_ (w : World) (o : Obj) : Ext w (w.alloc o) := (Below.refl _ _).alloc (Nat.le_refl _) _
theorem Ext.grown {w w' : World} (h : w.grownBy w' none) : Ext w w' := ⟨h.os, h.tape, h.output, h.size, fun k hk => h.block k hk (by simp)⟩

/-! ### A drawn region whose operations read, and whose calls leave what was there as it was -/
theorem wp_region_ext {P : Program} {id : Nat} {Q : Exit → Act → World → Prop} {a : Act} {w : World} {l : List Oper} (hm : P.follows .mixedOrders = true) (hB : Region.lexB .any l.toArray = true)
    (h : wpQuiet P l.toArray (Ext w) (fun a' => ∀ w', Ext w w' → Q .normal a' w') l a) : (Code.region id l.toArray true).wp P Q a w :=
  wp_region_quiet (C := Ext w) hm hB (Ext.drew w) (by simpa using h)
theorem Calls.ext_of {P : Program} {f : FuncId} {args : Array Value} {w w1 : World} {v : Value} (hw : Ext w w1)
    (h : Calls P f args w1 fun e w' => e = .returned v ∧ Ext w1 w') : Calls P f args w1 fun e w'' => e = .returned v ∧ Ext w w'' :=
  h.mono fun _ _ ⟨he, hx⟩ => ⟨he, hw.trans hx⟩
end Go.Proofs.Ythmajaeekkbnnaa
