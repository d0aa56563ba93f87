/-
  The walk over abstract states: operations that make memory or write rows: pieces, append, slice literals, make, stores into rows, strings and bytes.
-/
import Derived.Test.YthmajaeekkbnnaaAbsK
import Derived.Deep.DeepAppendWide
import Derived.Great.BuildSlice
import Derived.Laws.IdiomStrings
import Derived.Laws.BytesString
namespace Go.Proofs.Ythmajaeekkbnnaa
open Go Go.RowKit

def lenE (es : List (List D)) (z : Nat) : Prop := ∀ e ∈ es, e.length = z
def D.flat1 : D → Bool
  | .sl _ => false
  | _ => true
def flatE (es : List (List D)) : Bool := es.all fun e => e.all D.flat1
theorem flat1_flat {e : List D} (h : e.all D.flat1 = true) : e.all D.flat = true := by
  rw [List.all_eq_true] at h ⊢
  intro d hd
  have := h d hd
  cases d <;> first | rfl | cases this
theorem flatE_flat {es : List (List D)} (h : flatE es = true) : ∀ e ∈ es, e.all D.flat = true := fun e he => flat1_flat (by
  unfold flatE at h
  rw [List.all_eq_true] at h
  exact h e he)
theorem rep_rd {w : World} {es : List (List D)} {u : Value} {F : List Nat} {z : Nat} (h : (D.sl es).rep w u F) (hz : lenE es z) :
    ∃ A cap us F', u = .slice A es.length cap ∧ Rd w z A es.length cap us ∧ repE w es us F' ∧ ∀ b ∈ F', b ∈ F := by
  obtain ⟨A, cap, z', us, F', h1, h2, h3, h4, h5, h6, h7⟩ := h
  refine ⟨A, cap, us, F', h1, ⟨?_, h2, ⟨by unfold maxLen at h3; omega, h4⟩, fun hn => ?_⟩, h6, fun b hb => ?_⟩
  · exact repE_length h6 hz
  · rcases h7 with ⟨h7, _⟩ | ⟨h7, b, o, h8, h9, h10, h11⟩
    · subst h7; simp at hn
    · exact ⟨b, o, h8, h11⟩
  · rcases h7 with ⟨h7, _⟩ | ⟨h7, b', o, h8, h9, h10, h11⟩
    · subst h7
      obtain ⟨_, e⟩ := h6
      rw [e] at hb; cases hb
    · rw [h10]; exact List.mem_cons_of_mem _ hb
/-- What append yields, and in which block. -/
theorem run_append_blk {P : Program} {w : World} (base : Nat) (t ty e : TypeId) (i : TypeInfo) (z : Value) (size bytes : Nat) (ht : P.underlying t = some (.slice e)) (hi : P.info? e = some i) (hz : i.zero = some z)
    (hsize : i.size = size) (hby : i.bytes = bytes) (hzs : z.cells.size = size) (hsz : 0 < size) (v : Value) (n : Nat) (xs : List Value) (hown : w.ownsRow base e size v n xs)
    (A : Option Addr) (m c : Nat) (news : List Value) (hr : Rd w size A m c news) (h1 : ∀ u ∈ news, u.oneCell' = true) (h63 : n + m ≤ maxLen) (hbytes : ((n + m) + (n + m) / 4 + 192) * bytes ≤ 281474976710656) (hbase : base ≤ w.heap.size) :
    ∃ v' w', (Builtin.append_ #[t, t] ty #[v, .slice A m c]).run P w = .ok v' w' ∧ w'.ownsRow base e size v' (n + m) (xs ++ news) ∧ w.grownBy w' v.ownBlock ∧ ∀ b, blk v' = some b → w.heap.size ≤ b ∨ blk v = some b := by
  cases A with
  | none =>
    have hm : m = 0 := by
      rcases Nat.eq_zero_or_pos m with h0 | h0
      · exact h0
      · obtain ⟨b, of, e, _⟩ := hr.2.2.2 h0
        cases e
    have hc := hr.2.2.1.2 rfl
    subst hm; subst hc
    have hnews : news = [] := List.eq_nil_of_length_eq_zero (by rw [hr.1, Nat.zero_mul])
    subst hnews
    exact ⟨v, w, run_append_owned_none (P := P) w base t ty e i size ht hi v n xs hown, by simpa using hown, World.grownBy.refl _ _, fun b hb => .inr hb⟩
  | some ad =>
    have hnews : ∀ j u, news[j]? = some u → w.cell? (ad.add j) = some u := fun j u hu => by
      have hm : 0 < m := by
        have hl := (List.getElem?_eq_some_iff.1 hu).1
        rw [hr.1] at hl
        exact Nat.pos_of_ne_zero (fun e => by subst e; simp at hl)
      obtain ⟨b, of, e, hc⟩ := hr.2.2.2 hm
      injection e with e
      subst e
      rw [add_lit']
      exact hc j u hu
    obtain ⟨v', w', g1, g2, g3, g4⟩ := run_append_own_wide (P := P) w base t ty e i z size bytes ht hi hz hsize hby hzs hsz v n xs hown ad m c news hr.1 hnews h1 h63 hbytes hbase
    refine ⟨v', w', g1, g2, g3, fun b hb => ?_⟩
    have hmx : n + m ≤ 9223372036854775807 := by unfold maxLen at h63; omega
    subst hsize
    subst hby
    rcases hown.2 with ⟨rfl, rfl⟩ | ⟨g, cap, cur, rfl, hbg, hg, hnc, hcm, hcs, htake⟩
    · by_cases hm : m = 0
      · rw [g4.2 ⟨rfl, hm⟩] at hb; cases hb
      · have hr2 := run_append_nil (P := P) w t ty e i z ht hi hz ad m c news hr.1 hnews (by omega) (by omega) (by have hb := hbytes; simp only [Nat.zero_add] at hb; exact Nat.le_trans (Nat.mul_le_mul_right _ (by omega)) hb)
        rw [g1] at hr2
        injection hr2 with e1 e2
        rw [e1] at hb
        simp only [blk, Option.some.injEq] at hb
        exact .inl (Nat.le_of_eq hb)
    · by_cases hroom : n + m ≤ cap
      · have hfit : n * i.size + news.length ≤ cur.size := by rw [hr.1, hcs, ← Nat.add_mul]; exact Nat.mul_le_mul_right _ hroom
        have hr2 := run_append_room (P := P) w t ty e i ht hi g n cap cur hg ad m c news hr.1 hnews h1 hroom hfit
        rw [g1] at hr2
        injection hr2 with e1 e2
        rw [e1] at hb
        exact .inr hb
      · have holds : ∀ j u, xs[j]? = some u → w.cell? ((⟨g, 0, none⟩ : Addr).add j) = some u := hown.cells (g := g) rfl
        have hr2 := run_append_grow (P := P) w t ty e i z ht hi hz ⟨g, 0, none⟩ n cap xs hown.1 holds ad m c news hr.1 hnews (by omega) (by omega) (growslice_fits_wide (by omega) hbytes)
        rw [g1] at hr2
        injection hr2 with e1 e2
        rw [e1] at hb
        simp only [blk, Option.some.injEq] at hb
        exact .inl (Nat.le_of_eq hb)
theorem bytes_fit {n bytes : Nat} (h : n ≤ 1099511627776) (hb : Nat.ble bytes 128 = true) : (n + n / 4 + 192) * bytes ≤ 281474976710656 := by
  have h1 : bytes ≤ 128 := Nat.le_of_ble_eq_true hb
  have h2 : n + n / 4 + 192 ≤ 1374389534912 := by omega
  exact Nat.le_trans (Nat.mul_le_mul h2 h1) (by omega)
theorem own_blk {w : World} {base e z n : Nat} {v : Value} {us : List Value} (h : w.ownsRow base e z v n us) : v.ownBlock = blk v := by
  obtain ⟨A, c, e1, _⟩ := own_slice h
  rw [e1]
  cases A <;> rfl

section
variable {X : Cx} {σ : AS} {o : Oper} {K : AS → Prop} {t : Nat}
/-- An operation that yields a value and keeps all old memory. -/
theorem op_ext {v : AV} (hd : o.dst = some t) (ht : Nat.blt t σ.nt = true) (h : ∀ a w en, Rel1 X σ a w en → ∃ u w', (execOp a.eval o).run X.P w = .ok (.value u) w' ∧ Ext w w' ∧ v.shows w' en (IM X en w') u) (hK : K (σ.put t v)) : OpOk X o σ K := by
  intro a w hr next Q hn
  obtain ⟨en, h1⟩ := hr
  obtain ⟨u, w', h2, h3, h4⟩ := h a w en h1
  unfold Oper.wp
  rw [h2, Oper.upon_value, hd]
  exact hn _ _ _ hK ⟨en, (h1.ext h3).put h4 ht⟩

/-! ### Pieces -/
def AS.low (σ : AS) : Option Operand → Option Int
  | none => some 0
  | some x => match σ.ev x with
    | .d (.n .i64 p) => some p
    | _ => none
def AS.high (σ : AS) (n : Nat) : Option Operand → Option Int
  | none => some n
  | some x => match σ.ev x with
    | .d (.n .i64 p) => some p
    | _ => none
theorem low_val {a : Act} {w : World} {en : List Ent} (h : Rel1 X σ a w en) {lo : Option Operand} {i : Nat} (hl : σ.low lo = some (i : Int)) : (lo.map a.eval = none ∧ i = 0) ∨ lo.map a.eval = some (.int .i64 i) := by
  cases lo with
  | none =>
    simp only [AS.low, Option.some.injEq] at hl
    exact .inl ⟨rfl, by omega⟩
  | some x =>
    simp only [AS.low] at hl
    split at hl
    · rename_i p hx
      injection hl with hl
      subst hl
      obtain ⟨F, ⟨e, _⟩, _⟩ := ev_of h hx
      exact .inr (by simp [e])
    · cases hl
theorem high_val {a : Act} {w : World} {en : List Ent} (h : Rel1 X σ a w en) {lo : Option Operand} {n i : Nat} (hl : σ.high n lo = some (i : Int)) : (lo.map a.eval = none ∧ i = n) ∨ lo.map a.eval = some (.int .i64 i) := by
  cases lo with
  | none =>
    simp only [AS.high, Option.some.injEq] at hl
    exact .inl ⟨rfl, by omega⟩
  | some x =>
    simp only [AS.high] at hl
    split at hl
    · rename_i p hx
      injection hl with hl
      subst hl
      obtain ⟨F, ⟨e, _⟩, _⟩ := ev_of h hx
      exact .inr (by simp [e])
    · cases hl
theorem run_bounds {P : Program} {w : World} {isS : Bool} {len cap i j : Nat} {lo hi : Option Value} (hlo : (lo = none ∧ i = 0) ∨ lo = some (.int .i64 i)) (hhi : (hi = none ∧ j = len) ∨ hi = some (.int .i64 j)) (hij : i ≤ j) (hj : j ≤ cap) :
    (Instr.sliceBounds isS len cap lo hi none).run P w = .ok (i, j, cap) w := by
  have b : ∀ (x y : Nat) (c : BoundsCode) (w : World), x ≤ y → (Instr.sliceBound (.int .i64 (x : Int)) y c).run P w = .ok x w := fun x y c w h => by
    rw [run_sliceBound w .i64 x y c (by omega) (by omega)]; simp
  rcases hlo with ⟨rfl, rfl⟩ | rfl <;> rcases hhi with ⟨rfl, rfl⟩ | rfl <;> simp [Instr.sliceBounds, *]
theorem st_slices {T : TypeId} {x : Operand} {low high : Option Operand} {l : List UInt8} {i j : Nat} {p q : Int} (ho : o.op = .slice T x low high none) (hd : o.dst = some t) (hT : stringT X T = true) (hx : σ.ev x = .d (.s l))
    (hlo : σ.low low = some p) (hi : p = (i : Int)) (hhi : σ.high l.length high = some q) (hj : q = (j : Int)) (hb : i ≤ j ∧ j ≤ l.length) (ht : Nat.blt t σ.nt = true) (hK : K (σ.put t (.d (.s ((l.take j).drop i))))) : QOk X o σ K := by
  subst hi; subst hj
  refine op_val hd ht (fun a w en h => ?_) hK
  have hu := stringT_und hT
  obtain ⟨F, ⟨e, _⟩, _⟩ := ev_of h hx
  refine ⟨.string ⟨((l.take j).drop i).toArray⟩, fun w' _ => ?_, [], ⟨rfl, rfl⟩, by simp⟩
  have h1 := run_bounds (P := X.P) (w := w') (isS := false) (len := l.length) (cap := l.length) (low_val h hlo) (high_val h hhi) hb.1 hb.2
  have e2 : (⟨l.toArray⟩ : ByteArray).extract i j = ⟨((l.take j).drop i).toArray⟩ := by
    apply ByteArray.ext
    simp [ByteArray.data_extract, List.drop_take]
  have hsz : (⟨l.toArray⟩ : ByteArray).size = l.length := by simp [ByteArray.size]
  simp only [execOp, ho, e, Instr.sliceAt, Sem.run_bind, run_underlying hu, Instr.slice, Option.isSome_none, Bool.false_eq_true, if_false, hsz, Option.map_none, h1, Sem.run_pure, e2, Result.andThen]
theorem st_sliced {T e : TypeId} {x : Operand} {low high : Option Operand} {es : List (List D)} {n i j : Nat} {p q : Int} [te : TI X.P e] (ho : o.op = .slice T x low high none) (hd : o.dst = some t) (hT : sliceT X T = some e) (hx : σ.ev x = .d (.sl es)) (hn : es.length = n)
    (hlo : σ.low low = some p) (hi : p = (i : Int)) (hhi : σ.high n high = some q) (hj : q = (j : Int)) (hb : i ≤ j ∧ j ≤ n) (hz : lenE es te.size) (ht : Nat.blt t σ.nt = true) (hK : K (σ.put t (.d (.sl ((es.take j).drop i))))) : QOk X o σ K := by
  subst hi; subst hj; subst hn
  refine op_val hd ht (fun a w en h => ?_) hK
  have hu := sliceT_und hT
  obtain ⟨F, h1, hI⟩ := ev_of h hx
  obtain ⟨A, cap, z, us, F', h2, h3, h4, h5, h6, h7, h8⟩ := h1
  obtain ⟨q, h12, _, h13, _⟩ := te.parts
  have hbnd := fun w' => run_bounds (P := X.P) (w := w') (isS := true) (len := es.length) (cap := cap) (low_val h hlo) (high_val h hhi) hb.1 (Nat.le_trans hb.2 h3)
  have hlen : ((es.take j).drop i).length = j - i := by simp; omega
  refine ⟨.slice (if cap = i then A else A.map (·.add (i * te.size))) (j - i) (cap - i), fun w' _ => ?_, ?_⟩
  · simp only [execOp, ho, h2, Instr.sliceAt, Sem.run_bind, run_underlying hu, Instr.slice, Option.map_none, hbnd w', sizeOf, typeInfo, run_program, h12, h13, Sem.run_pure, Result.andThen]
  · have hspl : es = (es.take j).take i ++ ((es.take j).drop i ++ es.drop j) := by rw [← List.append_assoc, List.take_append_drop, List.take_append_drop]
    rw [hspl] at h7
    obtain ⟨u1, u23, F1, F23, rfl, rfl, k1, k2⟩ := repE_split h7
    obtain ⟨u2, u3, F2, F3, rfl, rfl, k3, k4⟩ := repE_split k2
    have hlz : ∀ x ∈ (es.take j).drop i, x.length = z := fun x hx => h6 x (List.mem_of_mem_take (List.mem_of_mem_drop hx))
    have hl1 : u1.length = i * z := by
      have := repE_length k1 (fun x hx => h6 x (List.mem_of_mem_take (List.mem_of_mem_take hx)))
      rw [this]
      congr 1
      simp; omega
    by_cases hE : (es.take j).drop i = []
    · have : F2 = [] := by rw [hE] at k3; exact k3.2
      subst this
      refine ⟨[], ⟨if cap = i then A else A.map (·.add (i * te.size)), cap - i, z, u2, [], by rw [hlen], by rw [hlen]; omega, by omega, fun e => ?_, hlz, k3, .inl ⟨hE, rfl⟩⟩, by simp⟩
      have hA : A = none := by
        split at e
        · exact e
        · simpa using e
      have := h5 hA
      omega
    · have hij : i < j := by
        rcases Nat.lt_or_ge i j with h' | h'
        · exact h'
        · exact absurd (List.eq_nil_of_length_eq_zero (by rw [hlen]; omega)) hE
      rcases h8 with ⟨h8, _⟩ | ⟨h8, b, off, rfl, h10, h9, h11⟩
      · subst h8; simp at hE
      · have hzz : te.size = z := by
          obtain ⟨x, xs, hx⟩ := List.exists_cons_of_ne_nil h8
          rw [← hz x (by rw [hx]; exact List.mem_cons_self), h6 x (by rw [hx]; exact List.mem_cons_self)]
        rw [if_neg (by omega : ¬ cap = i), hzz]
        simp only [Option.map_some, add_lit']
        refine ⟨b :: F2, ⟨_, cap - i, z, u2, F2, by rw [hlen], by rw [hlen]; omega, by omega, (fun e => by cases e), hlz, k3, .inr ⟨hE, b, off + i * z, rfl, h10, rfl, fun k v hk => ?_⟩⟩, fun c hc => ?_⟩
        · rw [Nat.add_assoc]
          refine h11 _ _ ?_
          rw [List.getElem?_append_right (by omega), hl1, List.getElem?_append_left (by have := (List.getElem?_eq_some_iff.1 hk).1; omega), ← hk]
          congr 1
          omega
        · rw [h9] at hI
          rcases List.mem_cons.1 hc with rfl | hc
          · exact hI _ List.mem_cons_self
          · exact hI c (List.mem_cons_of_mem _ (List.mem_append_right _ (List.mem_append_left _ hc)))
end
end Go.Proofs.Ythmajaeekkbnnaa
