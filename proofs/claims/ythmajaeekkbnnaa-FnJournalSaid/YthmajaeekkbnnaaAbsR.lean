/-
  Arguments of a law, opened as data; a law's post from its contract.
-/
import Derived.Test.YthmajaeekkbnnaaAbsQ
namespace Go.Proofs.Ythmajaeekkbnnaa
open Go Go.RowKit Go.ChangeShapes Go.WideShapes

mutual
/-- Data of a type. -/
def TyD (X : Cx) : Nat → TypeId → List D → Prop
  | 0, _, _ => False
  | n + 1, T, ds => match X.tt T with
    | some ti => match ti.desc with
      | .int k => ∃ z, ds = [.n k z] ∧ (Lit.int k z).wf = true
      | .bool => ∃ b, ds = [.b b]
      | .string => ∃ l, ds = [.s l] ∧ l.length ≤ 9223372036854775807
      | .slice e => ∃ es, ds = [.sl es] ∧ es.length ≤ 9223372036854775807 ∧ ∀ q ∈ es, TyD X n e q
      | .struct fs => TyF X n fs.toList ds
      | _ => False
    | none => False
def TyF (X : Cx) : Nat → List Field → List D → Prop
  | _, [], ds => ds = []
  | 0, _, _ => False
  | n + 1, f :: fs, ds => ∃ d1 d2, ds = d1 ++ d2 ∧ TyD X n f.type d1 ∧ TyF X n fs d2
end
mutual
def chkD (X : Cx) : Nat → TypeId → Bool
  | 0, _ => false
  | n + 1, T => match X.tt T with
    | some ti => match ti.desc with
      | .int _ => Nat.beq ti.size 1
      | .bool => Nat.beq ti.size 1
      | .string => Nat.beq ti.size 1
      | .slice e => Nat.beq ti.size 1 && chkD X n e && (match X.tt e with
        | some te => Nat.blt 0 te.size
        | none => false)
      | .struct fs => chkF X n fs.toList 0 ti.size
      | _ => false
    | none => false
def chkF (X : Cx) : Nat → List Field → Nat → Nat → Bool
  | _, [], off, n => Nat.beq off n
  | 0, _, _, _ => false
  | f + 1, fd :: fs, off, n => Nat.beq fd.offset off && chkD X f fd.type && (match X.tt fd.type with
    | some tf => chkF X f fs (off + tf.size) n
    | none => false)
end
theorem TI.cells {P : Program} {T : TypeId} (ti : TI P T) : P.cellsOf T = ti.size := by
  obtain ⟨i, h1, _, h2, _⟩ := ti.parts
  unfold Program.cellsOf
  rw [h1]
  exact h2
section
variable {H : Type} {enc : TypeId × Value → H} {X : Cx} {w : World}
/-- A slice's elements, found by their cells. -/
theorem open_cells {t e : TypeId} {m : Nat} {d : DataW H × List MemPlace} {fuel : Nat} {cs0 : List Value} (ht : X.P.underlying t = some (.slice e)) (hc : X.P.cellsOf e = m) (hm : 0 < m) (hf : DataW.trod enc X.P w 0 (fun _ => true) true fuel t cs0 = some d) :
    ∃ (A : Option Addr) (n cap : Nat) (xs : List Value), cs0 = [.slice A n cap] ∧ cap ≤ maxLen ∧ Rd w m A n cap xs ∧
      ∀ i, i < n → ∃ (fuel : Nat) (y : DataW H × List MemPlace), DataW.trod enc X.P w 0 (fun _ => true) true fuel e ((xs.drop (i * m)).take m) = some y := by
  rcases Go.Deep.open_slice ht hf with ⟨hcs, _⟩ | ⟨a, n0, cap, m', k, Dd, Pl, hcs, _, hl, hcm, hmm, _, hi⟩
  · exact ⟨none, 0, 0, [], hcs, Nat.zero_le _, Rd.nil_ w m, fun i hi => absurd hi (by omega)⟩
  · have hle : n0 ≤ m' := by rw [hmm]; simp; exact hl
    have hi' : ∀ i, ∃ cs' : List Value, i < n0 → w.cells? 0 (a.add (i * m)) m = some cs' ∧ DataW.trod enc X.P w 0 (fun _ => true) true k e cs' = some (Dd i, Pl i) := fun i => by
      by_cases hin : i < n0
      · obtain ⟨cs', h1, h2⟩ := hi i (by omega)
        rw [hc] at h1
        exact ⟨cs', fun _ => ⟨h1, h2⟩⟩
      · exact ⟨[], fun hh => absurd hh hin⟩
    obtain ⟨cs, hcs'⟩ := Classical.axiomOfChoice hi'
    have hlen : ∀ i, i < n0 → (cs i).length = m := fun i hin => (World.cells?_some (hcs' i hin).1).2.1
    have hflat : ∀ k, k ≤ n0 → ((List.range k).flatMap cs).length = k * m ∧ ∀ i, i < k → ∀ j, j < m → ((List.range k).flatMap cs)[i * m + j]? = (cs i)[j]? := by
      intro k
      induction k with
      | zero => intro _; exact ⟨by simp, fun i hi => absurd hi (by omega)⟩
      | succ k ih =>
        intro hk
        obtain ⟨i1, i2⟩ := ih (by omega)
        rw [List.range_succ, List.flatMap_append]
        have hk1 : (List.flatMap cs [k]) = cs k := by simp
        rw [hk1]
        refine ⟨by rw [List.length_append, i1, hlen k (by omega), Nat.add_mul]; omega, fun i hik j hj => ?_⟩
        by_cases hik' : i < k
        · have hb : i * m + j < k * m := by
            have : (i + 1) * m ≤ k * m := Nat.mul_le_mul_right m hik'
            rw [Nat.add_mul] at this; omega
          rw [List.getElem?_append_left (by rw [i1]; exact hb)]
          exact i2 i hik' j hj
        · have : i = k := by omega
          subst this
          rw [List.getElem?_append_right (by rw [i1]; omega), i1]
          congr 1
          omega
    obtain ⟨f1, f2⟩ := hflat n0 (Nat.le_refl _)
    have key : ∀ i, i < n0 → ∃ (fuel : Nat) (y : DataW H × List MemPlace), DataW.trod enc X.P w 0 (fun _ => true) true fuel e ((((List.range n0).flatMap cs).drop (i * m)).take m) = some y := fun i hin => by
      have : (((List.range n0).flatMap cs).drop (i * m)).take m = cs i := by
        apply List.ext_getElem?
        intro j
        by_cases hj : j < m
        · rw [List.getElem?_take, if_pos hj, List.getElem?_drop, f2 i hin j hj]
        · rw [List.getElem?_eq_none (by simp; omega), List.getElem?_eq_none (by rw [hlen i hin]; omega)]
      exact ⟨k, (Dd i, Pl i), by rw [this]; exact (hcs' i hin).2⟩
    refine ⟨some a, n0, cap, (List.range n0).flatMap cs, hcs, hcm, ⟨f1, hl, ⟨by unfold maxLen at hcm; omega, fun e => by cases e⟩, fun hn => ?_⟩, key⟩
    have h0 : ∃ u, w.cell? a = some u := by
      obtain ⟨_, hl0, hc0⟩ := World.cells?_some (hcs' 0 hn).1
      have := hc0 0 hm
      simp only [Nat.zero_mul, Addr.add, if_true] at this
      exact ⟨(cs 0)[0]'(by omega), by rw [this, List.getElem?_eq_getElem]⟩
    obtain ⟨u0, hu0⟩ := h0
    have ha := none_spot hu0
    refine ⟨a.block, a.off, by rw [← ha], fun j u hu => ?_⟩
    have hj : j < n0 * m := by rw [← f1]; exact (List.getElem?_eq_some_iff.1 hu).1
    have h1 : j / m < n0 := (Nat.div_lt_iff_lt_mul hm).2 hj
    have h2 : j % m < m := Nat.mod_lt _ hm
    have h3 := f2 (j / m) h1 (j % m) h2
    rw [Nat.div_add_mod'] at h3
    obtain ⟨_, _, hc0⟩ := World.cells?_some (hcs' (j / m) h1).1
    have h4 := hc0 (j % m) h2
    rw [ha, add_lit', add_lit', Nat.add_assoc, Nat.div_add_mod', ← h3, hu] at h4
    exact h4
theorem build_es {m : Nat} {Ty : List D → Prop} : ∀ (n : Nat) (xs : List Value), xs.length = n * m → (∀ i, i < n → ∃ ds F, repL w ds ((xs.drop (i * m)).take m) F ∧ (∀ b ∈ F, b < w.heap.size) ∧ Ty ds ∧ ds.length = m) →
    ∃ es F, repE w es xs F ∧ es.length = n ∧ (∀ e ∈ es, e.length = m) ∧ (∀ b ∈ F, b < w.heap.size) ∧ ∀ q ∈ es, Ty q
  | 0, xs, hl, _ => ⟨[], [], ⟨List.eq_nil_of_length_eq_zero (by simpa using hl), rfl⟩, rfl, by simp, by simp, by simp⟩
  | n + 1, xs, hl, h => by
    rw [Nat.add_mul, Nat.one_mul] at hl
    obtain ⟨ds, F, h1, h2, h3, h4⟩ := h 0 (by omega)
    rw [Nat.zero_mul, List.drop_zero] at h1
    obtain ⟨es, G, g1, g2, g3, g4, g5⟩ := build_es (m := m) n (xs.drop m) (by simp; omega) (fun i hi => by
      obtain ⟨ds, F, k1, k2, k3, k4⟩ := h (i + 1) (by omega)
      refine ⟨ds, F, ?_, k2, k3, k4⟩
      rw [List.drop_drop, show m + i * m = (i + 1) * m by rw [Nat.add_mul]; omega]
      exact k1)
    refine ⟨ds :: es, F ++ G, ⟨xs.take m, xs.drop m, F, G, (List.take_append_drop m xs).symm, rfl, h1, g1⟩, by simp [g2], fun e he => ?_, fun b hb => ?_, fun q hq => ?_⟩
    · rcases List.mem_cons.1 he with rfl | he
      · exact h4
      · exact g3 e he
    · rcases List.mem_append.1 hb with hb | hb
      · exact h2 b hb
      · exact g4 b hb
    · rcases List.mem_cons.1 hq with rfl | hq
      · exact h3
      · exact g5 q hq
mutual
theorem open_data : ∀ (n : Nat) {T : TypeId} {ti : TI X.P T} {fuel : Nat} {cs : List Value} {x : DataW H × List MemPlace}, X.tt T = some ti → chkD X n T = true → DataW.trod enc X.P w 0 (fun _ => true) true fuel T cs = some x →
    ∃ ds F, repL w ds cs F ∧ (∀ b ∈ F, b < w.heap.size) ∧ TyD X n T ds ∧ ds.length = ti.size
  | 0, _, _, _, _, _, _, h, _ => by cases h
  | n + 1, T, ti, fuel, cs, x, ht, h, hx => by
    have hu := ti.und
    simp only [chkD, ht] at h
    simp only [TyD, ht]
    split at h
    · rename_i k hde
      rw [hde] at hu
      obtain ⟨z, rfl, _, hw⟩ := DataW.trod_int hu hx
      exact ⟨[.n k z], [], ⟨_, [], [], [], rfl, rfl, ⟨rfl, rfl⟩, rfl, rfl⟩, by simp, ⟨z, rfl, hw⟩, ((beq_spec _ _).1 h).symm⟩
    · rename_i hde
      rw [hde] at hu
      obtain ⟨z, rfl, _⟩ := DataW.trod_bool hu hx
      exact ⟨[.b z], [], ⟨_, [], [], [], rfl, rfl, ⟨rfl, rfl⟩, rfl, rfl⟩, by simp, ⟨z, rfl⟩, ((beq_spec _ _).1 h).symm⟩
    · rename_i hde
      rw [hde] at hu
      obtain ⟨z, rfl, _, hm⟩ := DataW.trod_string hu hx
      refine ⟨[.s z.data.toList], [], ⟨_, [], [], [], rfl, rfl, ⟨by rw [bytes_eta], rfl⟩, rfl, rfl⟩, by simp, ⟨z.data.toList, rfl, ?_⟩, ((beq_spec _ _).1 h).symm⟩
      have : z.data.toList.length = z.size := Array.length_toList
      unfold maxLen at hm
      omega
    · rename_i e hde
      rw [hde] at hu
      simp only [Bool.and_eq_true] at h
      obtain ⟨⟨h1, h2⟩, h3⟩ := h
      split at h3
      · rename_i te hte
        have hpos := blt_spec h3
        obtain ⟨A, m, cap, xs, rfl, hcm, hr, hi⟩ := open_cells hu te.cells hpos hx
        obtain ⟨es, F, g1, g2, g3, g4, g5⟩ := build_es (w := w) (m := te.size) (Ty := TyD X n e) m xs hr.1 (fun i him => by
          obtain ⟨f', y, hy⟩ := hi i him
          exact open_data n hte h2 hy)
        have hmm : m ≤ maxLen := Nat.le_trans hr.2.1 hcm
        by_cases h0 : es = []
        · subst h0
          simp only [List.length_nil] at g2
          subst g2
          have hx0 := g1.1
          refine ⟨[.sl []], [], ⟨_, [], [], [], rfl, rfl, ⟨A, cap, te.size, [], [], rfl, Nat.zero_le _, hcm, hr.2.2.1.2, by simp, ⟨rfl, rfl⟩, .inl ⟨rfl, rfl⟩⟩, rfl, rfl⟩, by simp, ⟨[], rfl, by simp, by simp⟩, ((beq_spec _ _).1 h1).symm⟩
        · have hm0 : 0 < m := by rw [← g2]; exact List.length_pos_iff.2 h0
          obtain ⟨b, o, rfl, hcell⟩ := hr.2.2.2 hm0
          have hxl : 0 < xs.length := by rw [hr.1]; exact Nat.mul_pos hm0 hpos
          have hlt : b < w.heap.size := World.block_lt_of_cell? w _ (hcell 0 _ (List.getElem?_eq_getElem hxl))
          refine ⟨[.sl es], b :: F, ⟨_, [], b :: F, [], rfl, by simp, ⟨_, cap, te.size, xs, F, by rw [g2], by rw [g2]; exact hr.2.1, hcm, (fun e => by cases e), g3, g1, .inr ⟨h0, b, o, rfl, hlt, rfl, hcell⟩⟩, rfl, rfl⟩, fun c hc => ?_, ⟨es, rfl, by rw [g2]; unfold maxLen at hmm; omega, g5⟩, ((beq_spec _ _).1 h1).symm⟩
          rcases List.mem_cons.1 hc with rfl | hc
          · exact hlt
          · exact g4 c hc
      · cases h3
    · rename_i fs hde
      rw [hde] at hu
      obtain ⟨xs, m, _, _, hl, hxl, hf⟩ := DataW.trod_struct hu hx
      rw [ti.cells] at hl
      obtain ⟨ds, F, g1, g2, g3, g4⟩ := open_fields n (fs := fs.toList) (off := 0) (total := ti.size) (cs := cs) h (by omega) (fun i f hfi => by
        have hfi' : fs[i]? = some f := by simpa using hfi
        have h5 := hf i f hfi'
        have : i < xs.length := by rw [hxl]; exact (Array.getElem?_eq_some_iff.1 hfi').1
        exact ⟨m, _, h5.trans (List.getElem?_eq_getElem this)⟩)
      simp only [List.drop_zero] at g1
      exact ⟨ds, F, g1, g2, g3, by simpa using g4⟩
    · cases h
theorem open_fields : ∀ (n : Nat) {fs : List Field} {off total : Nat} {cs : List Value}, chkF X n fs off total = true → cs.length = total → (∀ (i : Nat) (f : Field), fs[i]? = some f → ∃ (fuel : Nat) (y : DataW H × List MemPlace), DataW.trod enc X.P w 0 (fun _ => true) true fuel f.type ((cs.drop f.offset).take (X.P.cellsOf f.type)) = some y) →
    ∃ ds F, repL w ds (cs.drop off) F ∧ (∀ b ∈ F, b < w.heap.size) ∧ TyF X n fs ds ∧ ds.length = total - off
  | n, [], off, total, cs, h, hl, _ => by
    have : Nat.beq off total = true := by cases n <;> exact h
    have e := (beq_spec _ _).1 this
    refine ⟨[], [], ⟨List.drop_eq_nil_of_le (by omega), rfl⟩, by simp, by cases n <;> rfl, by simp; omega⟩
  | 0, f :: fs, _, _, _, h, _, _ => by cases h
  | n + 1, f :: fs, off, total, cs, h, hl, hf => by
    simp only [chkF, Bool.and_eq_true] at h
    obtain ⟨⟨h1, h2⟩, h3⟩ := h
    have hoff := (beq_spec _ _).1 h1
    split at h3
    · rename_i tf htf
      obtain ⟨fu, y, hy⟩ := hf 0 f rfl
      rw [hoff, tf.cells] at hy
      obtain ⟨d1, F1, g1, g2, g3, g4⟩ := open_data n htf h2 hy
      obtain ⟨d2, F2, k1, k2, k3, k4⟩ := open_fields n h3 hl (fun i f' hi => hf (i + 1) f' (by simpa using hi))
      refine ⟨d1 ++ d2, F1 ++ F2, ?_, fun b hb => (List.mem_append.1 hb).elim (g2 b) (k2 b), ⟨d1, d2, rfl, g3, k3⟩, ?_⟩
      · have := repL_append g1 k1
        rwa [← List.drop_drop, List.take_append_drop] at this
      · have hlt := repL_length g1
        rw [g4, List.length_take, List.length_drop] at hlt
        rw [List.length_append, g4, k4]
        omega
    · cases h3
end
theorem TyD.wf64 {z : Int} (h : (Lit.int .i64 z).wf = true) : -9223372036854775808 ≤ z ∧ z ≤ 9223372036854775807 := bounds_i64 h
/-- An argument of a law, as data. -/
theorem law_arg (n : Nat) {H : Type} {X : Cx} {enc : TypeId × Value → H} {w : World} {T : TypeId} {ti : TI X.P T} {r : Reach} {b0 : Nat} {v : Value} {d : DataW H} {p : List MemPlace} (ht : X.tt T = some ti) (hc : chkD X (n + 1) T = true) (hok : Value.okWide X.P w r b0 T v) (h : DataW.Trod enc X.P w 0 (fun _ => true) true T v d p) :
    ∃ ds F, repL w ds v.cells.toList F ∧ (∀ b ∈ F, b < w.heap.size) ∧ TyD X (n + 1) T ds ∧ ds.length = ti.size ∧ (isAggD ti.desc = true → ∃ cs, v = .agg cs) ∧ (isAggD ti.desc = false → v.cells = #[v]) := by
  obtain ⟨fuel, hf⟩ := h
  obtain ⟨ds, F, h1, h2, h3, h4⟩ := open_data (w := w) (n + 1) ht hc hf
  have hu := ti.und
  refine ⟨ds, F, h1, h2, h3, h4, fun ha => ?_, fun ha => ?_⟩
  · simp only [chkD, ht] at hc
    split at hc
    · rename_i hde
      rw [hde] at ha
      cases ha
    · rename_i hde
      rw [hde] at ha
      cases ha
    · rename_i hde
      rw [hde] at ha
      cases ha
    · rename_i hde
      rw [hde] at ha
      cases ha
    · rename_i hde
      rw [hde] at hu
      obtain ⟨cs, rfl, _⟩ := okWide_struct hu hok
      exact ⟨cs, rfl⟩
    · cases hc
  · simp only [chkD, ht] at hc
    split at hc
    · rename_i hde
      rw [hde] at hu
      obtain ⟨n, rfl⟩ := okWide_int hu hok
      rfl
    · rename_i hde
      rw [hde] at hu
      obtain ⟨n, rfl⟩ := okWide_bool hu hok
      rfl
    · rename_i hde
      rw [hde] at hu
      obtain ⟨n, rfl⟩ := okWide_string hu hok
      rfl
    · rename_i hde
      rw [hde] at hu
      obtain ⟨a, l, c, rfl⟩ := okWide_slice hu hok
      rfl
    · rename_i hde
      rw [hde] at ha
      cases ha
    · cases hc
end
section
variable {P : Program} {W : World}
theorem arg_one {x : D} {v : Value} {F : List Nat} (h : repL W [x] v.cells.toList F) (hF : ∀ b ∈ F, b < W.heap.size) (hv : v.cells = #[v]) : (AV.d x).shows W [] (fun b => b < W.heap.size) v := by
  obtain ⟨u, us', F1, F2, e, rfl, h1, h2⟩ := h
  rw [hv] at e
  simp only [List.cons.injEq] at e
  obtain ⟨rfl, _⟩ := e
  exact ⟨F1, h1, fun b hb => hF b (List.mem_append_left _ hb)⟩
theorem arg_agg {ds : List D} {cs : Array Value} {F : List Nat} (h : repL W ds cs.toList F) (hF : ∀ b ∈ F, b < W.heap.size) : (AV.agg (ds.map AV.d)).shows W [] (fun b => b < W.heap.size) (.agg cs) :=
  ⟨cs.toList, by simp, showsL_data h hF⟩
/-- From the contract of a law to what its row asks. -/
theorem law_of {f : FuncId} {xs : List AV} {us : List Value} (h : ACalls P f xs [.d (.b true)] []) (hs : showsL W [] (fun b => b < W.heap.size) xs us) : Calls P f us.toArray W fun e W' => e = .returned (.bool true) ∧ Below W.heap.size W W' :=
  ((h W us hs).2).mono fun e W' ⟨v, en, he, m, _, hr⟩ => by
    obtain ⟨F, ⟨hv, _⟩, _⟩ := hr
    exact ⟨by rw [he, hv], ext_of_mem m⟩
end
end Go.Proofs.Ythmajaeekkbnnaa
