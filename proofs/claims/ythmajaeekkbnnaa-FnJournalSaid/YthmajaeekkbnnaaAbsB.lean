/-
  What a call owns, and how a frame and a world show an abstract state.
-/
import Derived.Test.YthmajaeekkbnnaaAbsA
namespace Go.Proofs.Ythmajaeekkbnnaa
open Go Go.RowKit

/-- What is known of a value. -/
inductive AV where
  | any
  | d (x : D)
  | nil
  | row (o : Nat)
  | ptr (o : Nat) (off : Nat)
  | pr (o : Nat) (i : Nat) (off : Nat)
  | pd (e : List D) (off : Nat)
  | agg (xs : List AV)
  | tup (xs : List AV)
/-- An object of the call's own: a slice's elements, or a variable's cells. -/
inductive AO where
  | row (e : TypeId) (es : List (List D)) (deep : Bool)
  | box (e : TypeId) (cs : List AV)
structure Ent where
  nm : Nat
  ao : AO
  val : Value
  fs : List Nat

def blk : Value → Option Nat
  | .slice (some a) _ _ => some a.block
  | .pointer (some a) => some a.block
  | _ => none
def AO.isRow : AO → Bool
  | .row .. => true
  | .box .. => false
def AO.lens : AO → List Nat
  | .row _ es _ => es.map List.length
  | .box .. => []
def AO.deep : AO → Bool
  | .row _ _ dp => dp
  | .box .. => false
def Like (x y : Ent) : Prop := y.nm = x.nm ∧ y.val = x.val ∧ y.ao.isRow = x.ao.isRow ∧ y.ao.lens = x.ao.lens

mutual
def AV.shows (w : World) (en : List Ent) (I : Nat → Prop) : AV → Value → Prop
  | .any, _ => True
  | .d x, u => ∃ F, x.rep w u F ∧ ∀ b ∈ F, I b
  | .nil, u => u = .slice none 0 0
  | .row o, u => ∃ x ∈ en, x.nm = o ∧ x.ao.isRow = true ∧ u = x.val
  | .ptr o off, u => ∃ x ∈ en, x.nm = o ∧ x.ao.isRow = false ∧ ∃ g, blk x.val = some g ∧ u = .pointer (some ⟨g, off, none⟩)
  | .pr o i off, u => ∃ x ∈ en, x.nm = o ∧ x.ao.isRow = true ∧ ∃ g z, blk x.val = some g ∧ (∀ l ∈ x.ao.lens, l = z) ∧ i < x.ao.lens.length ∧ u = .pointer (some ⟨g, i * z + off, none⟩)
  | .pd e off, u => ∃ b o us F, u = .pointer (some ⟨b, o + off, none⟩) ∧ repL w e us F ∧ (∀ j v, us[j]? = some v → w.cell? ⟨b, o + j, none⟩ = some v) ∧ I b ∧ ∀ c ∈ F, I c
  | .agg xs, u => ∃ us : List Value, u = .agg us.toArray ∧ showsL w en I xs us
  | .tup xs, u => ∃ us : List Value, u = .tuple us.toArray ∧ showsL w en I xs us
def showsL (w : World) (en : List Ent) (I : Nat → Prop) : List AV → List Value → Prop
  | [], us => us = []
  | x :: xs, us => ∃ u us', us = u :: us' ∧ x.shows w en I u ∧ showsL w en I xs us'
end
mutual
/-- What does not speak of an object whose name p refuses. -/
def AV.cut (p : Nat → Bool) : AV → AV
  | .row o => if p o then .row o else .any
  | .ptr o off => if p o then .ptr o off else .any
  | .pr o i off => if p o then .pr o i off else .any
  | .agg xs => .agg (cutL p xs)
  | .tup xs => .tup (cutL p xs)
  | x => x
def cutL (p : Nat → Bool) : List AV → List AV
  | [] => []
  | x :: xs => x.cut p :: cutL p xs
end
mutual
theorem AV.cut_true : ∀ (x : AV), x.cut (fun _ => true) = x
  | .any => rfl
  | .d _ => rfl
  | .nil => rfl
  | .row _ => rfl
  | .ptr _ _ => rfl
  | .pr _ _ _ => rfl
  | .pd _ _ => rfl
  | .agg xs => by simp only [AV.cut, cutL_true xs]
  | .tup xs => by simp only [AV.cut, cutL_true xs]
theorem cutL_true : ∀ (xs : List AV), cutL (fun _ => true) xs = xs
  | [] => rfl
  | x :: xs => by simp only [cutL, AV.cut_true x, cutL_true xs]
end
def AO.cut (p : Nat → Bool) : AO → AO
  | .box e cs => .box e (cutL p cs)
  | x => x
theorem AO.cut_true (x : AO) : x.cut (fun _ => true) = x := by
  cases x <;> simp [AO.cut, cutL_true]
theorem AO.cut_isRow (p : Nat → Bool) (x : AO) : (x.cut p).isRow = x.isRow := by cases x <;> rfl
theorem AO.cut_lens (p : Nat → Bool) (x : AO) : (x.cut p).lens = x.lens := by cases x <;> rfl
theorem AO.cut_deep (p : Nat → Bool) (x : AO) : (x.cut p).deep = x.deep := by cases x <;> rfl
def Ent.cut (p : Nat → Bool) (x : Ent) : Ent := { x with ao := x.ao.cut p }

section mono
variable {w w' : World} {en en' : List Ent} {I I' : Nat → Prop} {p : Nat → Bool}
mutual
theorem AV.shows_cut (hs : w.heap.size ≤ w'.heap.size) (hS : ∀ b, I b → Same w w' b) (hI : ∀ b, I b → I' b) (he : ∀ x ∈ en, p x.nm = true → ∃ y ∈ en', Like x y) :
    ∀ (x : AV) (u : Value), x.shows w en I u → (x.cut p).shows w' en' I' u
  | .any, _, _ => trivial
  | .d x, u, h => by
    obtain ⟨F, h1, h2⟩ := h
    exact ⟨F, D.rep_mono hs x u F h1 (fun b hb => hS b (h2 b hb)), fun b hb => hI b (h2 b hb)⟩
  | .nil, _, h => h
  | .row o, u, h => by
    obtain ⟨x, hx, rfl, h1, h2⟩ := h
    simp only [AV.cut]
    split
    · rename_i hp
      obtain ⟨y, hy, l1, l2, l3, l4⟩ := he x hx hp
      exact ⟨y, hy, l1, by rw [l3]; exact h1, by rw [l2]; exact h2⟩
    · trivial
  | .ptr o off, u, h => by
    obtain ⟨x, hx, rfl, h1, g, h2, h3⟩ := h
    simp only [AV.cut]
    split
    · rename_i hp
      obtain ⟨y, hy, l1, l2, l3, l4⟩ := he x hx hp
      exact ⟨y, hy, l1, by rw [l3]; exact h1, g, by rw [l2]; exact h2, h3⟩
    · trivial
  | .pr o i off, u, h => by
    obtain ⟨x, hx, rfl, h1, g, z, h2, h3, h4, h5⟩ := h
    simp only [AV.cut]
    split
    · rename_i hp
      obtain ⟨y, hy, l1, l2, l3, l4⟩ := he x hx hp
      exact ⟨y, hy, l1, by rw [l3]; exact h1, g, z, by rw [l2]; exact h2, by rw [l4]; exact h3, by rw [l4]; exact h4, h5⟩
    · trivial
  | .pd e off, u, h => by
    obtain ⟨b, o, us, F, h1, h2, h3, h4, h5⟩ := h
    refine ⟨b, o, us, F, h1, repL_mono hs e us F h2 (fun b hb => hS b (h5 b hb)), fun j v hj => ?_, hI b h4, fun c hc => hI c (h5 c hc)⟩
    rw [(hS b h4).cell]
    exact h3 j v hj
  | .agg xs, u, h => by
    obtain ⟨us, h1, h2⟩ := h
    exact ⟨us, h1, showsL_cut hs hS hI he xs us h2⟩
  | .tup xs, u, h => by
    obtain ⟨us, h1, h2⟩ := h
    exact ⟨us, h1, showsL_cut hs hS hI he xs us h2⟩
theorem showsL_cut (hs : w.heap.size ≤ w'.heap.size) (hS : ∀ b, I b → Same w w' b) (hI : ∀ b, I b → I' b) (he : ∀ x ∈ en, p x.nm = true → ∃ y ∈ en', Like x y) :
    ∀ (xs : List AV) (us : List Value), showsL w en I xs us → showsL w' en' I' (cutL p xs) us
  | [], _, h => h
  | x :: xs, us, h => by
    obtain ⟨u, us', h1, h2, h3⟩ := h
    exact ⟨u, us', h1, AV.shows_cut hs hS hI he x u h2, showsL_cut hs hS hI he xs us' h3⟩
end
theorem AV.shows_mono (hs : w.heap.size ≤ w'.heap.size) (hS : ∀ b, I b → Same w w' b) (hI : ∀ b, I b → I' b) (he : ∀ x ∈ en, ∃ y ∈ en', Like x y) {x : AV} {u : Value} (h : x.shows w en I u) : x.shows w' en' I' u := by
  have := AV.shows_cut (p := fun _ => true) hs hS hI (fun x hx _ => he x hx) x u h
  rwa [AV.cut_true] at this
theorem showsL_mono (hs : w.heap.size ≤ w'.heap.size) (hS : ∀ b, I b → Same w w' b) (hI : ∀ b, I b → I' b) (he : ∀ x ∈ en, ∃ y ∈ en', Like x y) {xs : List AV} {us : List Value} (h : showsL w en I xs us) : showsL w' en' I' xs us := by
  have := showsL_cut (p := fun _ => true) hs hS hI (fun x hx _ => he x hx) xs us h
  rwa [cutL_true] at this
end mono
theorem showsL_length {w : World} {en : List Ent} {I : Nat → Prop} : ∀ {xs : List AV} {us : List Value}, showsL w en I xs us → us.length = xs.length
  | [], us, h => by rw [show us = [] from h]; rfl
  | x :: xs, us, h => by obtain ⟨u, us', rfl, _, h⟩ := h; simp [showsL_length h]
theorem showsL_get {w : World} {en : List Ent} {I : Nat → Prop} : ∀ {xs : List AV} {us : List Value}, showsL w en I xs us → ∀ {i : Nat} {x : AV}, xs[i]? = some x → ∃ u, us[i]? = some u ∧ x.shows w en I u
  | [], _, _, i, x, hi => by simp at hi
  | x0 :: xs, us, h, i, x, hi => by
    obtain ⟨u, us', rfl, h1, h2⟩ := h
    cases i with
    | zero => simp only [List.getElem?_cons_zero, Option.some.injEq] at hi; subst hi; exact ⟨u, rfl, h1⟩
    | succ i =>
      obtain ⟨v, h3, h4⟩ := showsL_get h2 (i := i) (by simpa using hi)
      exact ⟨v, by simpa using h3, h4⟩
theorem showsL_append {w : World} {en : List Ent} {I : Nat → Prop} : ∀ {xs ys : List AV} {us vs : List Value}, showsL w en I xs us → showsL w en I ys vs → showsL w en I (xs ++ ys) (us ++ vs)
  | [], ys, us, vs, h, h' => by rw [show us = [] from h]; exact h'
  | x :: xs, ys, us, vs, h, h' => by
    obtain ⟨u, us', rfl, h1, h2⟩ := h
    exact ⟨u, us' ++ vs, rfl, h1, showsL_append h2 h'⟩
theorem showsL_take {w : World} {en : List Ent} {I : Nat → Prop} : ∀ {xs : List AV} {us : List Value}, showsL w en I xs us → ∀ k, showsL w en I (xs.take k) (us.take k)
  | [], us, h, k => by rw [show us = [] from h]; simp [showsL]
  | x :: xs, us, h, k => by
    obtain ⟨u, us', rfl, h1, h2⟩ := h
    cases k with
    | zero => simp [showsL]
    | succ k => exact ⟨u, us'.take k, by simp, h1, showsL_take h2 k⟩
theorem showsL_drop {w : World} {en : List Ent} {I : Nat → Prop} : ∀ {xs : List AV} {us : List Value}, showsL w en I xs us → ∀ k, showsL w en I (xs.drop k) (us.drop k)
  | [], us, h, k => by rw [show us = [] from h]; simp [showsL]
  | x :: xs, us, h, k => by
    cases k with
    | zero => exact h
    | succ k =>
      obtain ⟨u, us', rfl, h1, h2⟩ := h
      simpa using showsL_drop h2 k
theorem showsL_set {w : World} {en : List Ent} {I : Nat → Prop} : ∀ {xs : List AV} {us : List Value}, showsL w en I xs us → ∀ {k : Nat} {x : AV} {u : Value}, x.shows w en I u → showsL w en I (xs.set k x) (us.set k u)
  | [], us, h, k, x, u, _ => by rw [show us = [] from h]; simp [showsL]
  | x0 :: xs, us, h, k, x, u, hx => by
    obtain ⟨u0, us', rfl, h1, h2⟩ := h
    cases k with
    | zero => exact ⟨u, us', rfl, hx, h2⟩
    | succ k => exact ⟨u0, us'.set k u, rfl, h1, showsL_set h2 hx⟩
theorem showsL_data {w : World} {en : List Ent} {I : Nat → Prop} : ∀ {ds : List D} {us : List Value} {F : List Nat}, repL w ds us F → (∀ b ∈ F, I b) → showsL w en I (ds.map AV.d) us
  | [], us, F, h, _ => h.1
  | d :: ds, us, F, h, hI => by
    obtain ⟨u, us', F1, F2, rfl, rfl, h1, h2⟩ := h
    exact ⟨u, us', rfl, ⟨F1, h1, fun b hb => hI b (List.mem_append_left _ hb)⟩, showsL_data h2 (fun b hb => hI b (List.mem_append_right _ hb))⟩

/-! ### The memory of a call -/
/-- The call's own: what it was handed as its own, and all new blocks. -/
def Frs (w0 : World) (O : Nat → Prop) (b : Nat) : Prop := O b ∨ w0.heap.size ≤ b
/-- What came in to be read; objects of names that are not free keep their values. -/
structure ZV (f : Nat → Bool) where
  z : Nat → Prop
  fx : Nat → Value → Prop
  lo : ∀ n v, f n = true → fx n v
instance {f : Nat → Bool} : CoeFun (ZV f) (fun _ => Nat → Prop) := ⟨ZV.z⟩
def zv {f : Nat → Bool} (z : Nat → Prop) : ZV f := ⟨z, fun _ _ => True, fun _ _ _ => trivial⟩
def NoB : Nat → Prop := fun _ => False
def NoZ : ZV (fun _ => true) := zv NoB
/-- Blocks that nothing writes: what came in (Z) and the call's own that are no object now. -/
def Imm {f : Nat → Bool} (w0 : World) (Z : ZV f) (O : Nat → Prop) (en : List Ent) (w : World) (b : Nat) : Prop := (Z b ∨ Frs w0 O b) ∧ b < w.heap.size ∧ ∀ x ∈ en, blk x.val ≠ some b
def EntOk (P : Program) (Fr : Nat → Prop) (w : World) (en : List Ent) (I : Nat → Prop) (x : Ent) : Prop :=
  match x.ao with
  | .row e es dp => ∃ (z : Nat) (us : List Value), (P.info? e).map (·.size) = some z ∧ 0 < z ∧ w.ownsRow 0 e z x.val es.length us ∧ (∀ el ∈ es, el.length = z) ∧ repE w es us x.fs ∧
      (∀ b ∈ x.fs, I b) ∧ (∀ g, blk x.val = some g → Fr g) ∧ (dp = true → x.fs.Nodup ∧ ∀ b ∈ x.fs, Fr b)
  | .box e cs => x.fs = [] ∧ ∃ (g : Nat) (cur : Array Value), x.val = .pointer (some ⟨g, 0, none⟩) ∧ Fr g ∧ w.heap[g]? = some (.cells cur e (0, 0)) ∧ showsL w en I cs cur.toList
structure Mem {f : Nat → Bool} (P : Program) (w0 : World) (Z : ZV f) (O : Nat → Prop) (en : List Ent) (w : World) : Prop where
  os : w.os = w0.os
  tape : w.tape = w0.tape
  output : w.output = w0.output
  size : w0.heap.size ≤ w.heap.size
  old : ∀ b, b < w0.heap.size → ¬ O b → Same w0 w b
  names : (en.map Ent.nm).Nodup
  blks : en.Pairwise fun x y => ∀ b, blk x.val = some b → blk y.val ≠ some b
  ok : ∀ x ∈ en, EntOk P (Frs w0 O) w en (Imm w0 Z O en w) x
  apart : en.Pairwise fun x y => x.ao.deep = true → y.ao.deep = true → ∀ b ∈ x.fs, b ∉ y.fs
  fix : ∀ x ∈ en, Z.fx x.nm x.val

theorem EntOk.lt {P : Program} {Fr : Nat → Prop} {w : World} {en : List Ent} {I : Nat → Prop} {x : Ent} (h : EntOk P Fr w en I x) {b : Nat} (hb : blk x.val = some b) : b < w.heap.size ∧ Fr b := by
  unfold EntOk at h
  split at h
  · obtain ⟨z, us, h0, h1, h2, h3, h4, h5, h6, h7⟩ := h
    refine ⟨?_, h6 b hb⟩
    rcases h2.2 with ⟨hv, _⟩ | ⟨g, cap, cur, hv, _, hg, _⟩
    · rw [hv] at hb; cases hb
    · rw [hv] at hb
      simp only [blk, Option.some.injEq] at hb
      subst hb
      exact (Array.getElem?_eq_some_iff.1 hg).1
  · obtain ⟨_, g, cur, h1, h2, h3, h4⟩ := h
    rw [h1] at hb
    simp only [blk, Option.some.injEq] at hb
    subst hb
    exact ⟨(Array.getElem?_eq_some_iff.1 h3).1, h2⟩
theorem own_same {w w' : World} {base e z n : Nat} {v : Value} {us : List Value} (h : w.ownsRow base e z v n us) (hS : ∀ b, blk v = some b → Same w w' b) : w'.ownsRow base e z v n us := by
  refine ⟨h.1, ?_⟩
  rcases h.2 with h2 | ⟨g, cap, cur, hv, hb, hg, r⟩
  · exact .inl h2
  · exact .inr ⟨g, cap, cur, hv, hb, by rw [show w'.heap[g]? = w.heap[g]? from hS g (by rw [hv]; rfl)]; exact hg, r⟩
theorem EntOk.mono {P : Program} {Fr Fr' : Nat → Prop} {w w' : World} {en en' : List Ent} {I I' : Nat → Prop} {p : Nat → Bool} {x : Ent} (h : EntOk P Fr w en I x)
    (hs : w.heap.size ≤ w'.heap.size) (hS : ∀ b, I b → Same w w' b) (hI : ∀ b, I b → I' b) (hF : ∀ b, Fr b → Fr' b) (hx : ∀ b, blk x.val = some b → Same w w' b) (he : ∀ x ∈ en, p x.nm = true → ∃ y ∈ en', Like x y) :
    EntOk P Fr' w' en' I' (x.cut p) := by
  unfold EntOk at h
  split at h
  · rename_i e es dp hao
    obtain ⟨z, us, h0, h1, h2, h3, h4, h5, h6, h7⟩ := h
    unfold EntOk
    simp only [Ent.cut, hao, AO.cut]
    exact ⟨z, us, h0, h1, own_same h2 hx, h3, repE_mono hs _ _ _ h4 (fun b hb => hS b (h5 b hb)), fun b hb => hI b (h5 b hb), fun g hg => hF g (h6 g hg), fun hd => ⟨(h7 hd).1, fun b hb => hF b ((h7 hd).2 b hb)⟩⟩
  · rename_i e cs hao
    obtain ⟨h0, g, cur, h1, h2, h3, h4⟩ := h
    unfold EntOk
    simp only [Ent.cut, hao, AO.cut]
    exact ⟨h0, g, cur, h1, hF g h2, by rw [show w'.heap[g]? = w.heap[g]? from hx g (by rw [h1]; rfl)]; exact h3, showsL_cut hs hS hI he cs _ h4⟩
theorem Mem.ent_unique {P : Program} {w0 : World} {f : Nat → Bool} {Z : ZV f} {O : Nat → Prop} {en : List Ent} {w : World} (h : Mem P w0 Z O en w) {x y : Ent} (hx : x ∈ en) (hy : y ∈ en) (he : x.nm = y.nm) : x = y := by
  have := h.names
  clear h
  induction en with
  | nil => cases hx
  | cons a en ih =>
    simp only [List.map_cons, List.nodup_cons, List.mem_map, not_exists, not_and] at this
    rcases List.mem_cons.1 hx with rfl | hx' <;> rcases List.mem_cons.1 hy with rfl | hy'
    · rfl
    · exact absurd he.symm (this.1 y hy')
    · exact absurd he (this.1 x hx')
    · exact ih hx' hy' this.2
theorem Mem.blk_ne {P : Program} {w0 : World} {f : Nat → Bool} {Z : ZV f} {O : Nat → Prop} {en : List Ent} {w : World} (h : Mem P w0 Z O en w) {x y : Ent} (hx : x ∈ en) (hy : y ∈ en) (he : x.nm ≠ y.nm) {b : Nat} (hb : blk x.val = some b) : blk y.val ≠ some b := by
  have := h.blks
  clear h
  induction en with
  | nil => cases hx
  | cons a en ih =>
    rw [List.pairwise_cons] at this
    rcases List.mem_cons.1 hx with rfl | hx' <;> rcases List.mem_cons.1 hy with rfl | hy'
    · exact absurd rfl he
    · exact this.1 y hy' b hb
    · intro hb'
      exact this.1 x hx' b hb' hb
    · exact ih hx' hy' this.2
end Go.Proofs.Ythmajaeekkbnnaa
