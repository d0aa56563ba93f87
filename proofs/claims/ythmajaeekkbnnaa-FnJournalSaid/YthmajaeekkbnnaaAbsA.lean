/-
  An abstract picture of the values of a run, over any program: data as trees without addresses (AbsA), what a call owns and how a frame and a world show it (AbsB), and the walk over that picture (AbsC and on).
-/
import Derived.Test.YthmajaeekkbnnaaBase
namespace Go.Proofs.Ythmajaeekkbnnaa
open Go Go.RowKit

/-- Data: an int, a bool, a string, a slice (its elements, each a list of cells). -/
inductive D where
  | n (k : IntKind) (x : Int)
  | b (t : Bool)
  | s (l : List UInt8)
  | sl (es : List (List D))

mutual
/-- In this world the value shows the data; the blocks that a reader meets are listed. -/
def D.rep (w : World) : D → Value → List Nat → Prop
  | .n k x, u, F => u = .int k x ∧ F = []
  | .b t, u, F => u = .bool t ∧ F = []
  | .s l, u, F => u = .string ⟨l.toArray⟩ ∧ F = []
  | .sl es, u, F => ∃ (A : Option Addr) (cap z : Nat) (us : List Value) (F' : List Nat), u = .slice A es.length cap ∧ es.length ≤ cap ∧ cap ≤ maxLen ∧ (A = none → cap = 0) ∧
      (∀ e ∈ es, e.length = z) ∧ repE w es us F' ∧
      ((es = [] ∧ F = []) ∨ (es ≠ [] ∧ ∃ b o, A = some ⟨b, o, none⟩ ∧ b < w.heap.size ∧ F = b :: F' ∧ ∀ j v, us[j]? = some v → w.cell? ⟨b, o + j, none⟩ = some v))
def repL (w : World) : List D → List Value → List Nat → Prop
  | [], us, F => us = [] ∧ F = []
  | d :: ds, us, F => ∃ u us' F1 F2, us = u :: us' ∧ F = F1 ++ F2 ∧ D.rep w d u F1 ∧ repL w ds us' F2
def repE (w : World) : List (List D) → List Value → List Nat → Prop
  | [], us, F => us = [] ∧ F = []
  | e :: es, us, F => ∃ u1 u2 F1 F2, us = u1 ++ u2 ∧ F = F1 ++ F2 ∧ repL w e u1 F1 ∧ repE w es u2 F2
end

/-- What another world keeps of these blocks. -/
def Same (w w' : World) (b : Nat) : Prop := w'.heap[b]? = w.heap[b]?
theorem Same.cell {w w' : World} {b : Nat} (h : Same w w' b) (o : Nat) : w'.cell? ⟨b, o, none⟩ = w.cell? ⟨b, o, none⟩ := by
  simp only [World.cell?, show w'.heap[b]? = w.heap[b]? from h]

mutual
theorem D.rep_mono {w w' : World} (hs : w.heap.size ≤ w'.heap.size) : ∀ (d : D) (u : Value) (F : List Nat), d.rep w u F → (∀ b ∈ F, Same w w' b) → d.rep w' u F
  | .n _ _, _, _, h, _ => h
  | .b _, _, _, h, _ => h
  | .s _, _, _, h, _ => h
  | .sl es, u, F, h, hF => by
    obtain ⟨A, cap, z, us, F', h1, h2, h3, h4, h5, h6, h7⟩ := h
    rcases h7 with ⟨h7, h8⟩ | ⟨h7, b, o, h8, h9, h10, h11⟩
    · subst h7
      exact ⟨A, cap, z, us, F', h1, h2, h3, h4, h5, h6, .inl ⟨rfl, h8⟩⟩
    · subst h10
      refine ⟨A, cap, z, us, F', h1, h2, h3, h4, h5, repE_mono hs es us F' h6 (fun c hc => hF c (List.mem_cons_of_mem _ hc)), .inr ⟨h7, b, o, h8, Nat.lt_of_lt_of_le h9 hs, rfl, fun j v hj => ?_⟩⟩
      rw [(hF b List.mem_cons_self).cell]
      exact h11 j v hj
theorem repL_mono {w w' : World} (hs : w.heap.size ≤ w'.heap.size) : ∀ (ds : List D) (us : List Value) (F : List Nat), repL w ds us F → (∀ b ∈ F, Same w w' b) → repL w' ds us F
  | [], _, _, h, _ => h
  | d :: ds, us, F, h, hF => by
    obtain ⟨u, us', F1, F2, h1, h2, h3, h4⟩ := h
    subst h2
    exact ⟨u, us', F1, F2, h1, rfl, D.rep_mono hs d u F1 h3 (fun b hb => hF b (List.mem_append_left _ hb)), repL_mono hs ds us' F2 h4 (fun b hb => hF b (List.mem_append_right _ hb))⟩
theorem repE_mono {w w' : World} (hs : w.heap.size ≤ w'.heap.size) : ∀ (es : List (List D)) (us : List Value) (F : List Nat), repE w es us F → (∀ b ∈ F, Same w w' b) → repE w' es us F
  | [], _, _, h, _ => h
  | e :: es, us, F, h, hF => by
    obtain ⟨u1, u2, F1, F2, h1, h2, h3, h4⟩ := h
    subst h2
    exact ⟨u1, u2, F1, F2, h1, rfl, repL_mono hs e u1 F1 h3 (fun b hb => hF b (List.mem_append_left _ hb)), repE_mono hs es u2 F2 h4 (fun b hb => hF b (List.mem_append_right _ hb))⟩
end

mutual
theorem D.rep_lt {w : World} : ∀ (d : D) (u : Value) (F : List Nat), d.rep w u F → ∀ b ∈ F, b < w.heap.size
  | .n _ _, _, _, h, b, hb => by obtain ⟨_, rfl⟩ := h; cases hb
  | .b _, _, _, h, b, hb => by obtain ⟨_, rfl⟩ := h; cases hb
  | .s _, _, _, h, b, hb => by obtain ⟨_, rfl⟩ := h; cases hb
  | .sl es, u, F, h, c, hc => by
    obtain ⟨A, cap, z, us, F', h1, h2, h3, h4, h5, h6, h7⟩ := h
    rcases h7 with ⟨h7, h8⟩ | ⟨h7, b, o, h8, h9, h10, h11⟩
    · subst h8; cases hc
    · subst h10
      rcases List.mem_cons.1 hc with rfl | hc
      · exact h9
      · exact repE_lt es us F' h6 c hc
theorem repL_lt {w : World} : ∀ (ds : List D) (us : List Value) (F : List Nat), repL w ds us F → ∀ b ∈ F, b < w.heap.size
  | [], _, _, h, b, hb => by obtain ⟨_, rfl⟩ := h; cases hb
  | d :: ds, us, F, h, b, hb => by
    obtain ⟨u, us', F1, F2, h1, h2, h3, h4⟩ := h
    subst h2
    rcases List.mem_append.1 hb with hb | hb
    · exact D.rep_lt d u F1 h3 b hb
    · exact repL_lt ds us' F2 h4 b hb
theorem repE_lt {w : World} : ∀ (es : List (List D)) (us : List Value) (F : List Nat), repE w es us F → ∀ b ∈ F, b < w.heap.size
  | [], _, _, h, b, hb => by obtain ⟨_, rfl⟩ := h; cases hb
  | e :: es, us, F, h, b, hb => by
    obtain ⟨u1, u2, F1, F2, h1, h2, h3, h4⟩ := h
    subst h2
    rcases List.mem_append.1 hb with hb | hb
    · exact repL_lt e u1 F1 h3 b hb
    · exact repE_lt es u2 F2 h4 b hb
end

theorem repL_length {w : World} : ∀ {ds : List D} {us : List Value} {F : List Nat}, repL w ds us F → us.length = ds.length
  | [], _, _, h => by obtain ⟨rfl, _⟩ := h; rfl
  | d :: ds, us, F, h => by
    obtain ⟨u, us', F1, F2, rfl, h2, h3, h4⟩ := h
    simp [repL_length h4]
theorem repE_length {w : World} {z : Nat} : ∀ {es : List (List D)} {us : List Value} {F : List Nat}, repE w es us F → (∀ e ∈ es, e.length = z) → us.length = es.length * z
  | [], _, _, h, _ => by obtain ⟨rfl, _⟩ := h; simp
  | e :: es, us, F, h, hz => by
    obtain ⟨u1, u2, F1, F2, rfl, h2, h3, h4⟩ := h
    have h5 := repE_length h4 (fun x hx => hz x (List.mem_cons_of_mem _ hx))
    have h6 := repL_length h3
    rw [hz e List.mem_cons_self] at h6
    simp only [List.length_append, List.length_cons, h5, h6, Nat.add_mul]
    omega
theorem repL_append {w : World} : ∀ {d1 d2 : List D} {u1 u2 : List Value} {F1 F2 : List Nat}, repL w d1 u1 F1 → repL w d2 u2 F2 → repL w (d1 ++ d2) (u1 ++ u2) (F1 ++ F2)
  | [], d2, u1, u2, F1, F2, h1, h2 => by obtain ⟨rfl, rfl⟩ := h1; exact h2
  | d :: d1, d2, us, u2, F, F2, h1, h2 => by
    obtain ⟨u, us', G1, G2, rfl, rfl, h3, h4⟩ := h1
    exact ⟨u, us' ++ u2, G1, G2 ++ F2, rfl, by simp, h3, repL_append h4 h2⟩
theorem repE_append {w : World} : ∀ {e1 e2 : List (List D)} {u1 u2 : List Value} {F1 F2 : List Nat}, repE w e1 u1 F1 → repE w e2 u2 F2 → repE w (e1 ++ e2) (u1 ++ u2) (F1 ++ F2)
  | [], e2, u1, u2, F1, F2, h1, h2 => by obtain ⟨rfl, rfl⟩ := h1; exact h2
  | e :: e1, e2, us, u2, F, F2, h1, h2 => by
    obtain ⟨v1, v2, G1, G2, rfl, rfl, h3, h4⟩ := h1
    exact ⟨v1, v2 ++ u2, G1, G2 ++ F2, by simp, by simp, h3, repE_append h4 h2⟩
theorem repE_split {w : World} : ∀ {e1 e2 : List (List D)} {us : List Value} {F : List Nat}, repE w (e1 ++ e2) us F → ∃ u1 u2 F1 F2, us = u1 ++ u2 ∧ F = F1 ++ F2 ∧ repE w e1 u1 F1 ∧ repE w e2 u2 F2
  | [], e2, us, F, h => ⟨[], us, [], F, rfl, rfl, ⟨rfl, rfl⟩, h⟩
  | e :: e1, e2, us, F, h => by
    obtain ⟨v1, v2, G1, G2, rfl, rfl, h3, h4⟩ := h
    obtain ⟨u1, u2, F1, F2, rfl, rfl, h5, h6⟩ := repE_split (e1 := e1) h4
    exact ⟨v1 ++ u1, u2, G1 ++ F1, F2, by simp, by simp, ⟨v1, u1, G1, F1, rfl, rfl, h3, h5⟩, h6⟩
theorem repE_one {w : World} {e : List D} {us : List Value} {F : List Nat} (h : repL w e us F) : repE w [e] us F := ⟨us, [], F, [], by simp, by simp, h, rfl, rfl⟩
theorem repE_of_one {w : World} {e : List D} {us : List Value} {F : List Nat} (h : repE w [e] us F) : repL w e us F := by
  obtain ⟨u1, u2, F1, F2, rfl, rfl, h1, rfl, rfl⟩ := h
  simpa using h1
theorem repL_split {w : World} : ∀ {d1 d2 : List D} {us : List Value} {F : List Nat}, repL w (d1 ++ d2) us F → ∃ u1 u2 F1 F2, us = u1 ++ u2 ∧ F = F1 ++ F2 ∧ repL w d1 u1 F1 ∧ repL w d2 u2 F2
  | [], d2, us, F, h => ⟨[], us, [], F, rfl, rfl, ⟨rfl, rfl⟩, h⟩
  | d :: d1, d2, us, F, h => by
    obtain ⟨u, us', G1, G2, rfl, rfl, h3, h4⟩ := h
    obtain ⟨u1, u2, F1, F2, rfl, rfl, h5, h6⟩ := repL_split (d1 := d1) h4
    exact ⟨u :: u1, u2, G1 ++ F1, F2, rfl, by simp, ⟨u, u1, G1, F1, rfl, rfl, h3, h5⟩, h6⟩
/-- One element among many. -/
theorem repE_get {w : World} {z : Nat} {es : List (List D)} {us : List Value} {F : List Nat} (h : repE w es us F) (hz : ∀ e ∈ es, e.length = z) {i : Nat} {e : List D} (hi : es[i]? = some e) :
    ∃ vs G, repL w e vs G ∧ (∀ b ∈ G, b ∈ F) ∧ ∀ j v, vs[j]? = some v → us[i * z + j]? = some v := by
  obtain ⟨hlt, he⟩ := List.getElem?_eq_some_iff.1 hi
  have hsplit : es = es.take i ++ (e :: es.drop (i + 1)) := by
    rw [← he, ← List.drop_eq_getElem_cons hlt, List.take_append_drop]
  rw [hsplit] at h
  obtain ⟨u1, u2, F1, F2, rfl, rfl, h1, h2⟩ := repE_split h
  obtain ⟨v1, v2, G1, G2, rfl, rfl, h3, h4⟩ := h2
  have hl := repE_length h1 (fun x hx => hz x (List.mem_of_mem_take hx))
  have hl2 : (es.take i).length = i := by simp; omega
  rw [hl2] at hl
  refine ⟨v1, G1, h3, fun b hb => List.mem_append_right _ (List.mem_append_left _ hb), fun j v hj => ?_⟩
  have hjl := (List.getElem?_eq_some_iff.1 hj).1
  rw [List.getElem?_append_right (by omega), hl, List.getElem?_append_left (by omega), ← hj]
  congr 1
  omega
theorem repL_get {w : World} : ∀ {ds : List D} {us : List Value} {F : List Nat}, repL w ds us F → ∀ {i : Nat} {d : D}, ds[i]? = some d → ∃ u G, us[i]? = some u ∧ d.rep w u G ∧ ∀ b ∈ G, b ∈ F
  | [], _, _, _, i, d, hi => by simp at hi
  | d0 :: ds, us, F, h, i, d, hi => by
    obtain ⟨u, us', F1, F2, rfl, rfl, h3, h4⟩ := h
    cases i with
    | zero =>
      simp only [List.getElem?_cons_zero, Option.some.injEq] at hi
      subst hi
      exact ⟨u, F1, rfl, h3, fun b hb => List.mem_append_left _ hb⟩
    | succ i =>
      obtain ⟨v, G, h5, h6, h7⟩ := repL_get h4 (i := i) (by simpa using hi)
      exact ⟨v, G, by simpa using h5, h6, fun b hb => List.mem_append_right _ (h7 b hb)⟩
theorem D.rep_one {w : World} {d : D} {u : Value} {F : List Nat} (h : d.rep w u F) : u.oneCell' = true := by
  cases d with
  | n k x => obtain ⟨rfl, _⟩ := h; rfl
  | b t => obtain ⟨rfl, _⟩ := h; rfl
  | s l => obtain ⟨rfl, _⟩ := h; rfl
  | sl es => obtain ⟨A, cap, z, us, F', rfl, _⟩ := h; rfl
theorem repL_one {w : World} : ∀ {ds : List D} {us : List Value} {F : List Nat}, repL w ds us F → ∀ u ∈ us, u.oneCell' = true
  | [], _, _, h, u, hu => by obtain ⟨rfl, _⟩ := h; cases hu
  | d :: ds, us, F, h, u, hu => by
    obtain ⟨v, us', F1, F2, rfl, rfl, h3, h4⟩ := h
    rcases List.mem_cons.1 hu with rfl | hu
    · exact D.rep_one h3
    · exact repL_one h4 u hu
theorem repE_oneCell {w : World} : ∀ {es : List (List D)} {us : List Value} {F : List Nat}, repE w es us F → ∀ u ∈ us, u.oneCell' = true
  | [], _, _, h, u, hu => by obtain ⟨rfl, _⟩ := h; cases hu
  | e :: es, us, F, h, u, hu => by
    obtain ⟨u1, u2, F1, F2, rfl, rfl, h3, h4⟩ := h
    rcases List.mem_append.1 hu with hu | hu
    · exact repL_one h3 u hu
    · exact repE_oneCell h4 u hu
/-- No slice within. -/
def D.flat : D → Bool
  | .sl es => es.isEmpty
  | _ => true
theorem D.flat_fs {w : World} {d : D} {u : Value} {F : List Nat} (h : d.rep w u F) (hf : d.flat = true) : F = [] := by
  cases d with
  | n k x => exact h.2
  | b t => exact h.2
  | s l => exact h.2
  | sl es =>
    obtain ⟨A, cap, z, us, F', h1, h2, h3, h4, h5, h6, h7⟩ := h
    have he : es = [] := by simpa [D.flat] using hf
    rcases h7 with ⟨_, h⟩ | ⟨h, _⟩
    · exact h
    · exact absurd he h
theorem repL_flat {w : World} : ∀ {ds : List D} {us : List Value} {F : List Nat}, repL w ds us F → ds.all D.flat = true → F = []
  | [], _, _, h, _ => h.2
  | d :: ds, us, F, h, hf => by
    obtain ⟨v, us', F1, F2, rfl, rfl, h3, h4⟩ := h
    simp only [List.all_cons, Bool.and_eq_true] at hf
    rw [D.flat_fs h3 hf.1, repL_flat h4 hf.2]
    rfl
theorem repE_flat {w : World} : ∀ {es : List (List D)} {us : List Value} {F : List Nat}, repE w es us F → (∀ e ∈ es, e.all D.flat = true) → F = []
  | [], _, _, h, _ => h.2
  | e :: es, us, F, h, hf => by
    obtain ⟨u1, u2, F1, F2, rfl, rfl, h3, h4⟩ := h
    rw [repL_flat h3 (hf e List.mem_cons_self), repE_flat h4 (fun x hx => hf x (List.mem_cons_of_mem _ hx))]
    rfl
end Go.Proofs.Ythmajaeekkbnnaa
