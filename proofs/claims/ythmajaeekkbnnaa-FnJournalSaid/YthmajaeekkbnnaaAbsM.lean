/-
  The walk over abstract states: append, slice literals, make, stores into rows.
-/
import Derived.Test.YthmajaeekkbnnaaAbsL
namespace Go.Proofs.Ythmajaeekkbnnaa
open Go Go.RowKit

theorem repE_one' {w : World} : ∀ {es : List (List D)} {us : List Value} {F : List Nat}, repE w es us F → ∀ u ∈ us, u.oneCell' = true := fun h => repE_oneCell h
/-- The table's facts of an element type. -/
structure ElemOk {P : Program} {e : TypeId} (te : TI P e) : Prop where
  pos : Nat.blt 0 te.size = true
  zero : Nat.beq te.zero.cells.size te.size = true
  bytes : Nat.ble te.bytes 128 = true
section
variable {X : Cx} {σ : AS} {o : Oper} {K : AS → Prop} {t : Nat}
def notN (p : Nat) : Nat → Bool := fun n => !Nat.beq n p
theorem notN_ne {p n : Nat} (h : n ≠ p) : notN p n = true := by
  unfold notN
  cases hb : Nat.beq n p with
  | false => rfl
  | true => exact absurd ((beq_spec n p).1 hb) h
theorem notN_self (p : Nat) : notN p p = false := by unfold notN; rw [(beq_spec p p).2 rfl]; rfl
/-- append onto a row of the call's own: of a slice's elements. -/
theorem st_append {s x : Operand} {T e : TypeId} {p : Nat} {es es2 : List (List D)} {dp : Bool} {n1 n2 : Nat} [te : TI X.P e] (ho : o.op = .call { callee := .builtin .append, args := #[s, x], argTypes := #[T, T] }) (hd : o.dst = some t) (hT : sliceT X T = some e)
    (hs : σ.ev s = .row p) (hp : lookO σ.ob p = some (.row e es dp)) (hx : σ.els (σ.ev x) = some es2) (hk : ElemOk te) (hn1 : es.length = n1) (hn2 : es2.length = n2) (hz : lenE es2 te.size) (hfl : flatE es2 = true) (hb : n1 + n2 ≤ 1099511627776) (hlo : X.fre p = true) (ht : Nat.blt t σ.nt = true)
    (hK : K ⟨σ.nt, (t, .row p) :: cutS (notN p) σ.sl, (p, .row e (es ++ es2) dp) :: restO (notN p) p σ.ob⟩) : OpOk X o σ K := by
  intro a w hr next Q hn
  obtain ⟨en, h1⟩ := hr
  have hu := sliceT_und hT
  obtain ⟨y, hy, hyn, hya⟩ := h1.ent hp
  have hok := h1.mem.ok y hy
  have hokc := hok
  unfold EntOk at hok
  rw [hya] at hok
  obtain ⟨z, us, k0, k1, k2, k3, k4, k5, k6, k7⟩ := hok
  obtain ⟨q, q1, q2, q3, q4⟩ := te.parts
  have hzz : z = te.size := by rw [te.sized] at k0; simpa using k0.symm
  subst hzz
  obtain ⟨A, cap, e1, g1, g2, g3, F, g4⟩ := els_slice h1 hx (AS.ev_shows h1 x)
  obtain ⟨A', cap', us2, F', e2, g5, g6, _⟩ := rep_rd g4 hz
  have hF' := repE_flat g6 (flatE_flat hfl)
  subst hF'
  rw [e1] at e2
  injection e2 with e2 _ e3
  subst e2; subst e3
  obtain ⟨y', hy', f1, f2, f3⟩ := ev_of h1 hs
  have := h1.mem.ent_unique hy' hy (f1.trans hyn.symm)
  subst this
  have hb' : es.length + es2.length ≤ 1099511627776 := by rw [hn1, hn2]; exact hb
  obtain ⟨v', w', r1, r2, r3, r4⟩ := run_append_blk (P := X.P) 0 T o.type e q te.zero te.size te.bytes hu q1 q2 q3 q4 ((beq_spec _ _).1 hk.zero) k1 y'.val es.length us k2 A es2.length cap us2 g5 (repE_one' g6)
    (by unfold maxLen; omega) (bytes_fit hb' hk.bytes) (Nat.zero_le _)
  have hrun : (execOp a.eval o).run X.P w = .ok (.value v') w' := by
    unfold execOp
    simp only [ho, resolve, invoke, builtin, Sem.run_bind, Sem.run_pure, Result.andThen_ok, List.map_toArray, List.map_cons, List.map_nil, f3, e1, r1]
  let x' : Ent := ⟨p, .row e (es ++ es2) dp, v', y'.fs⟩
  have hsame : ∀ b, b < w.heap.size → blk y'.val ≠ some b → Same w w' b := fun b hb hne => r3.block b hb (by rw [own_blk k2]; exact fun e => hne e.symm)
  have hsw : Swap X.P X.w0 X.Z X.O en w w' p x' (notN p) :=
    ⟨h1.mem, fun n hn => notN_ne hn, (fun h => by rw [notN_self] at h; cases h), r3.os, r3.tape, r3.output, r3.size,
      fun b hb hno => hsame b hb (hno y' hy hyn), fun b hb => (r4 b hb).imp id (fun h => ⟨y', hy, hyn, h⟩), rfl, X.Z.lo _ _ hlo⟩
  have hS5 : ∀ b ∈ y'.fs, Same w w' b := fun b hb => hsw.same (k5 b hb)
  have hF6 : ∀ g, blk v' = some g → Frs X.w0 X.O g := fun g hg => by
    rcases r4 g hg with h | h
    · exact .inr (Nat.le_trans h1.mem.size h)
    · exact k6 g h
  have hrel := h1.swap hsw
    (by
      unfold EntOk
      exact ⟨te.size, us ++ us2, k0, k1, by rw [List.length_append]; exact r2, fun l hl => (List.mem_append.1 hl).elim (k3 l) (hz l), by
        have := repE_append (repE_mono r3.size _ _ _ k4 hS5) (repE_mono r3.size _ _ _ g6 (by simp))
        simpa using this, fun b hb => hsw.imm (k5 b hb), hF6, k7⟩)
    (fun hd z hz hzn hdz b hb => h1.mem.apart_ne hy hz (fun e => hzn (e.symm.trans hyn)) (by rw [hya]; exact hd) hdz hb)
  unfold Oper.wp
  rw [hrun, Oper.upon_value, hd]
  exact hn _ _ _ hK ⟨_, hrel.put ⟨x', List.mem_cons_self, rfl, rfl, rfl⟩ ht⟩
/-- An operation that makes one new object, whatever else it does to new memory. -/
theorem op_newx {ao : AO} {v : AV} (hd : o.dst = some t) (ht : Nat.blt t σ.nt = true) (hf : freeN X.fre t σ.ob = true)
    (h : ∀ a w en, Rel1 X σ a w en → ∃ (u : Value) (fs : List Nat) (w' : World), (execOp a.eval o).run X.P w = .ok (.value u) w' ∧ Ext w w' ∧
      (∀ en', (⟨t, ao, u, fs⟩ : Ent) ∈ en' → v.shows w' en' (IM X en' w') u) ∧ (∀ b, blk u = some b → w.heap.size ≤ b) ∧
      ((∀ (b : Nat), Imm X.w0 X.Z X.O en w b → Imm X.w0 X.Z X.O (⟨t, ao, u, fs⟩ :: restE (fun _ => true) t en) w' b) →
        (∀ (y : AV) (q : Value), y.shows w en (IM X en w) q → y.shows w' (⟨t, ao, u, fs⟩ :: restE (fun _ => true) t en) (IM X (⟨t, ao, u, fs⟩ :: restE (fun _ => true) t en) w') q) →
        EntOk X.P (Frs X.w0 X.O) w' (⟨t, ao, u, fs⟩ :: restE (fun _ => true) t en) (IM X (⟨t, ao, u, fs⟩ :: restE (fun _ => true) t en) w') ⟨t, ao, u, fs⟩) ∧
      (ao.deep = true → ∀ y ∈ en, y.ao.deep = true → ∀ b ∈ fs, b ∉ y.fs))
    (hK : K ⟨σ.nt, (t, v) :: σ.sl, (t, ao) :: dropO t σ.ob⟩) : OpOk X o σ K := by
  intro a w hr next Q hn
  obtain ⟨en, h1⟩ := hr
  obtain ⟨u, fs, w', h2, hx, h3, h4, h5, h6⟩ := h a w en h1
  have hno : ∀ x ∈ en, x.nm ≠ t := fun x hx e => by
    have : hasN t σ.ob = true := hasN_iff.2 ⟨x.key, h1.ob.mem_iff.1 (List.mem_map.2 ⟨x, hx, rfl⟩), e⟩
    rw [(freeN_spec hf).1] at this; cases this
  have hs : Swap X.P X.w0 X.Z X.O en w w' t ⟨t, ao, u, fs⟩ (fun _ => true) :=
    ⟨h1.mem, fun _ _ => rfl, fun _ x hx e => absurd e (hno x hx), hx.os, hx.tape, hx.output, hx.size, fun b hb _ => hx.block b hb, fun b hb => .inl (h4 b hb), rfl, X.Z.lo _ _ (freeN_spec hf).2⟩
  have h7 := h1.swap_keep hs (h5 (fun b hb => hs.imm hb) (fun y q hy => by have := hs.shows hy; rwa [AV.cut_true] at this)) (fun hd y hy _ hdy => h6 hd y hy hdy)
  unfold Oper.wp
  rw [h2, Oper.upon_value, hd]
  exact hn _ _ _ hK ⟨_, h7.put (h3 _ List.mem_cons_self) ht⟩
/-- append onto nil. -/
theorem st_appnil {s x : Operand} {T e : TypeId} {es2 : List (List D)} {n2 : Nat} [te : TI X.P e] (ho : o.op = .call { callee := .builtin .append, args := #[s, x], argTypes := #[T, T] }) (hd : o.dst = some t) (hT : sliceT X T = some e)
    (hs : σ.ev s = .nil) (hx : σ.els (σ.ev x) = some es2) (hk : ElemOk te) (hn2 : es2.length = n2) (hz : lenE es2 te.size) (hfl : flatE es2 = true) (hb : n2 ≤ 1099511627776) (hf : freeN X.fre t σ.ob = true) (ht : Nat.blt t σ.nt = true)
    (hK : K ⟨σ.nt, (t, .row t) :: σ.sl, (t, .row e es2 true) :: dropO t σ.ob⟩) : OpOk X o σ K :=
  op_newx (ao := .row e es2 true) hd ht hf (fun a w en h1 => by
    have hu := sliceT_und hT
    obtain ⟨q, q1, q2, q3, q4⟩ := te.parts
    obtain ⟨A, cap, e1, g1, g2, g3, F, g4⟩ := els_slice h1 hx (AS.ev_shows h1 x)
    obtain ⟨A', cap', us2, F', e2, g5, g6, _⟩ := rep_rd g4 hz
    have hF' := repE_flat g6 (flatE_flat hfl)
    subst hF'
    rw [e1] at e2
    injection e2 with e2 _ e3
    subst e2; subst e3
    have f3 : a.eval s = .slice none 0 0 := ev_of h1 hs
    have hb' : 0 + es2.length ≤ 1099511627776 := by rw [hn2]; omega
    obtain ⟨v', w', r1, r2, r3, r4⟩ := run_append_blk (P := X.P) 0 T o.type e q te.zero te.size te.bytes hu q1 q2 q3 q4 ((beq_spec _ _).1 hk.zero) (blt_spec hk.pos) (.slice none 0 0) 0 [] (World.ownsRow_nil w 0 e te.size) A es2.length cap us2 g5 (repE_one' g6)
      (by unfold maxLen; omega) (bytes_fit hb' hk.bytes) (Nat.zero_le _)
    have hr4 : ∀ b, blk v' = some b → w.heap.size ≤ b := fun b hb => (r4 b hb).resolve_right (fun h => by cases h)
    refine ⟨v', [], w', ?_, ⟨r3.os, r3.tape, r3.output, r3.size, fun b hb => r3.block b hb (by simp [Value.ownBlock])⟩, fun en' he => ⟨_, he, rfl, rfl, rfl⟩, hr4, fun hI hT => ?_, fun _ _ _ _ b hb => by cases hb⟩
    · unfold execOp
      simp only [ho, resolve, invoke, builtin, Sem.run_bind, Sem.run_pure, Result.andThen_ok, List.map_toArray, List.map_cons, List.map_nil, f3, e1, r1]
    · unfold EntOk
      refine ⟨te.size, us2, te.sized, blt_spec hk.pos, by simpa using r2, hz, repE_mono r3.size _ _ _ g6 (by simp), by simp, fun g hg => .inr (Nat.le_trans h1.mem.size (hr4 g hg)), fun _ => ⟨by simp, by simp⟩⟩) hK

/-! ### Slice literals -/
def fillA (size : Nat) : List AV → List (Nat × AV) → Option (List AV)
  | cs, [] => some cs
  | cs, (i, v) :: rest => match v.cellsV with
    | some xs => bif Nat.beq xs.length size then (bif Nat.ble (i * size + size) cs.length then forceL (splice cs (i * size) xs) (fun cs' => fillA size cs' rest) else none) else none
    | none => none
theorem splice_get {α : Type} {xs ys : List α} {k : Nat} (h : k + ys.length ≤ xs.length) (j : Nat) : (splice xs k ys)[j]? = if k ≤ j ∧ j < k + ys.length then ys[j - k]? else xs[j]? := by
  unfold splice
  have hk : (xs.take k).length = k := by simp; omega
  by_cases h1 : j < k
  · rw [if_neg (by omega), List.append_assoc, List.getElem?_append_left (by omega), List.getElem?_take, if_pos h1]
  · rw [List.append_assoc, List.getElem?_append_right (by omega), hk]
    by_cases h2 : j < k + ys.length
    · rw [if_pos ⟨by omega, h2⟩, List.getElem?_append_left (by omega)]
    · rw [if_neg (by omega), List.getElem?_append_right (by omega), List.getElem?_drop]
      congr 1
      omega
theorem foldl_splice (off : Nat) (l : List Value) (cs : Array Value) (s : Nat) (h : off + s + l.length ≤ cs.size) :
    ((l.zipIdx s).foldl (fun cs (x : Value × Nat) => cs.setIfInBounds (off + x.2) x.1) cs).toList = splice cs.toList (off + s) l := by
  obtain ⟨h1, h2⟩ := Great.foldl_set off l s cs
  apply List.ext_getElem?
  intro k
  rw [splice_get (by simpa using h), Array.getElem?_toList, Array.getElem?_toList, h2 k]
  by_cases c : off + s ≤ k ∧ k < off + s + l.length
  · rw [if_pos ⟨c.1, c.2, by omega⟩, if_pos c]
    simp
  · rw [if_neg (fun q => c ⟨q.1, q.2.1⟩), if_neg c]
    simp
theorem fillA_ok {w : World} {en : List Ent} {P : Program} {w0 : World} {f : Nat → Bool} {Z : ZV f} {O : Nat → Prop} (hm : Mem P w0 Z O en w) {size : Nat} : ∀ {parts : List (Nat × AV)} {vs : List (Nat × Value)} {cs cs' : List AV} {cells : Array Value}, fillA size cs parts = some cs' →
    showsL w en (Imm w0 Z O en w) cs cells.toList → (∀ u ∈ cells.toList, u.oneCell' = true) → vs.map Prod.fst = parts.map Prod.fst → showsL w en (Imm w0 Z O en w) (parts.map Prod.snd) (vs.map Prod.snd) →
    ∃ r, Instr.fill (fun i => some (i * size, size)) cells vs = some r ∧ showsL w en (Imm w0 Z O en w) cs' r.toList ∧ ∀ u ∈ r.toList, u.oneCell' = true
  | [], vs, cs, cs', cells, hf, hc, h1, hv, _ => by
    injection hf with hf
    subst hf
    obtain rfl : vs = [] := by simpa using hv
    exact ⟨cells, rfl, hc, h1⟩
  | (i, x) :: parts, vs, cs, cs', cells, hf, hc, h1, hv, hs => by
    simp only [fillA] at hf
    match vs, hv, hs with
    | (i', v) :: vs, hv, hs =>
      simp only [List.map_cons, List.cons.injEq] at hv
      obtain ⟨rfl, hv2⟩ := hv
      obtain ⟨u, us', e0, h2, h3⟩ := hs
      simp only [List.map_cons, List.cons.injEq] at e0
      obtain ⟨rfl, rfl⟩ := e0
      split at hf
      · rename_i xs hx
        cases b1 : Nat.beq xs.length size with
        | false => rw [b1] at hf; cases hf
        | true =>
          cases b2 : Nat.ble (i' * size + size) cs.length with
          | false => rw [b1, b2] at hf; cases hf
          | true =>
            rw [b1, b2] at hf
            simp only [cond_true, forceL_eq] at hf
            obtain ⟨h4, h5⟩ := cellsV_shows hm hx h2
            have hsz : v.cells.size = size := by rw [← Array.length_toList, showsL_length h4]; exact (beq_spec _ _).1 b1
            have hcl : cells.size = cs.length := by rw [← Array.length_toList]; exact showsL_length hc
            have hfit : i' * size + size ≤ cells.size := by rw [hcl]; exact Nat.le_of_ble_eq_true b2
            have hfold : (v.cells.zipIdx.foldl (fun cs (x : Value × Nat) => cs.setIfInBounds (i' * size + x.2) x.1) cells).toList = splice cells.toList (i' * size) v.cells.toList := by
              rw [← Array.foldl_toList, Array.toList_zipIdx]
              have h0 := foldl_splice (i' * size) v.cells.toList cells 0 (by simp; omega)
              rw [Nat.add_zero] at h0
              exact h0
            have g1 := showsL_splice hc h4 (i' * size)
            rw [← hfold] at g1
            have g2 : ∀ u ∈ (v.cells.zipIdx.foldl (fun cs (x : Value × Nat) => cs.setIfInBounds (i' * size + x.2) x.1) cells).toList, u.oneCell' = true := by
              rw [hfold]
              intro u hu
              simp only [splice, List.mem_append] at hu
              rcases hu with (hu | hu) | hu
              · exact h1 u (List.mem_of_mem_take hu)
              · exact h5 u hu
              · exact h1 u (List.mem_of_mem_drop hu)
            obtain ⟨r, r1, r2, r3⟩ := fillA_ok hm hf g1 g2 hv2 h3
            refine ⟨r, ?_, r2, r3⟩
            unfold Instr.fill
            simp only [hsz]
            rw [if_neg (by simp; omega)]
            exact r1
      · cases hf
/-- Cells as data. -/
def dataL : List AV → Option (List D)
  | [] => some []
  | .d x :: l => match dataL l with
    | some ds => some (x :: ds)
    | none => none
  | .nil :: l => match dataL l with
    | some ds => some (.sl [] :: ds)
    | none => none
  | _ :: _ => none
theorem dataL_ok {w : World} {en : List Ent} {I : Nat → Prop} : ∀ {xs : List AV} {ds : List D} {us : List Value}, dataL xs = some ds → showsL w en I xs us → ∃ F, repL w ds us F ∧ ∀ b ∈ F, I b
  | [], ds, us, h, hs => by
    injection h with h; subst h
    exact ⟨[], ⟨hs, rfl⟩, by simp⟩
  | x :: xs, ds, us, h, hs => by
    obtain ⟨u, us', rfl, h1, h2⟩ := hs
    cases x with
    | d y =>
      simp only [dataL] at h
      split at h
      · rename_i ds' hd
        injection h with h; subst h
        obtain ⟨F2, k1, k2⟩ := dataL_ok hd h2
        obtain ⟨F1, k3, k4⟩ := h1
        exact ⟨F1 ++ F2, ⟨u, us', F1, F2, rfl, rfl, k3, k1⟩, fun b hb => (List.mem_append.1 hb).elim (k4 b) (k2 b)⟩
      · cases h
    | nil =>
      simp only [dataL] at h
      split at h
      · rename_i ds' hd
        injection h with h; subst h
        obtain ⟨F2, k1, k2⟩ := dataL_ok hd h2
        refine ⟨F2, ⟨u, us', [], F2, rfl, rfl, ?_, k1⟩, k2⟩
        rw [show u = .slice none 0 0 from h1]
        exact ⟨none, 0, 0, [], [], rfl, Nat.le_refl _, Nat.zero_le _, fun _ => rfl, by simp, ⟨rfl, rfl⟩, .inl ⟨rfl, rfl⟩⟩
      · cases h
    | _ => cases h
theorem dataL_length : ∀ {cs : List AV} {ds : List D}, dataL cs = some ds → cs.length = ds.length
  | [], ds, h => by injection h with h; subst h; rfl
  | x :: cs, ds, h => by
    cases x with
    | d y =>
      simp only [dataL] at h
      split at h
      · rename_i ds' hd
        injection h with h; subst h
        simp [dataL_length hd]
      · cases h
    | nil =>
      simp only [dataL] at h
      split at h
      · rename_i ds' hd
        injection h with h; subst h
        simp [dataL_length hd]
      · cases h
    | _ => cases h
def chunk (z : Nat) : Nat → List D → List (List D)
  | 0, _ => []
  | n + 1, l => l.take z :: chunk z n (l.drop z)
theorem chunk_ok {w : World} {z : Nat} : ∀ {n : Nat} {ds : List D} {us : List Value} {F : List Nat}, ds.length = n * z → repL w ds us F → repE w (chunk z n ds) us F ∧ lenE (chunk z n ds) z ∧ (chunk z n ds).length = n
  | 0, ds, us, F, hl, h => by
    have : ds = [] := List.eq_nil_of_length_eq_zero (by simpa using hl)
    subst this
    exact ⟨h, (fun e he => by cases he), rfl⟩
  | n + 1, ds, us, F, hl, h => by
    rw [Nat.add_mul, Nat.one_mul] at hl
    rw [← List.take_append_drop z ds] at h
    obtain ⟨u1, u2, F1, F2, rfl, rfl, k1, k2⟩ := repL_split h
    obtain ⟨g1, g2, g3⟩ := chunk_ok (z := z) (n := n) (by simp; omega) k2
    refine ⟨⟨u1, u2, F1, F2, rfl, rfl, k1, g1⟩, fun e he => ?_, by simp [chunk, g3]⟩
    rcases List.mem_cons.1 he with rfl | he
    · simp; omega
    · exact g2 e he
/-- Data, looked at whole. -/
def forceD {α : Type} : List D → (List D → Option α) → Option α
  | [], k => k []
  | x :: xs, k => match x with
    | .n t v => forceD xs fun ys => k (.n t v :: ys)
    | .b v => forceD xs fun ys => k (.b v :: ys)
    | .s v => forceD xs fun ys => k (.s v :: ys)
    | .sl v => forceD xs fun ys => k (.sl v :: ys)
theorem forceD_eq {α : Type} : ∀ (xs : List D) (k : List D → Option α), forceD xs k = k xs
  | [], k => rfl
  | x :: xs, k => by cases x <;> rw [forceD, forceD_eq xs]
def forceE {α : Type} : List (List D) → (List (List D) → Option α) → Option α
  | [], k => k []
  | e :: es, k => forceD e fun e' => forceE es fun es' => k (e' :: es')
theorem forceE_eq {α : Type} : ∀ (es : List (List D)) (k : List (List D) → Option α), forceE es k = k es
  | [], k => rfl
  | e :: es, k => by rw [forceE, forceD_eq, forceE_eq es]
def AS.evParts (σ : AS) : List (Nat × Operand) → List (Nat × AV)
  | [] => []
  | (i, x) :: l => (i, σ.ev x) :: σ.evParts l
theorem evParts_ok {a : Act} {w : World} {en : List Ent} (h : Rel1 X σ a w en) : ∀ (l : List (Nat × Operand)), (l.map fun x => (x.1, a.eval x.2)).map Prod.fst = (σ.evParts l).map Prod.fst ∧ showsL w en (IM X en w) ((σ.evParts l).map Prod.snd) ((l.map fun x => (x.1, a.eval x.2)).map Prod.snd)
  | [] => ⟨rfl, rfl⟩
  | (i, x) :: l => by
    obtain ⟨h1, h2⟩ := evParts_ok h l
    refine ⟨by simp only [AS.evParts, List.map_cons, h1], _, _, rfl, AS.ev_shows h x, h2⟩
def zerosA (z : Value) : Nat → List AV
  | 0 => []
  | n + 1 => zeroAV z ++ zerosA z n
theorem zeros_show {w : World} {en : List Ent} {I : Nat → Prop} (z : Value) : ∀ (n : Nat), showsL w en I (zerosA z n) (List.replicate n z.cells.toList).flatten
  | 0 => rfl
  | n + 1 => by
    rw [List.replicate_succ, List.flatten_cons]
    exact showsL_append (showsL_const _) (zeros_show z n)
theorem zeros_one {z : Value} (h : z.cells.toList.all Value.oneCell' = true) : ∀ (n : Nat), ∀ u ∈ (List.replicate n z.cells.toList).flatten, u.oneCell' = true := by
  intro n u hu
  rw [List.mem_flatten] at hu
  obtain ⟨l, hl, hu⟩ := hu
  rw [List.eq_of_mem_replicate hl] at hu
  exact List.all_eq_true.1 h u hu
theorem st_lit {T e : TypeId} {len : Nat} {parts : Array (Nat × Operand)} {cs : List AV} {ds : List D} {es : List (List D)} [te : TI X.P e] (ho : o.op = .buildSlice T len parts) (hd : o.dst = some t) (hT : sliceT X T = some e) (hk : ElemOk te) (hz1 : te.zero.cells.toList.all Value.oneCell' = true)
    (hcs : fillA te.size (zerosA te.zero len) (σ.evParts parts.toList) = some cs) (hds : dataL cs = some ds) (hl : Nat.beq ds.length (len * te.size) = true) (hfl : ds.all D.flat1 = true) (hsm : Nat.ble (len * te.size) 16777216 = true) (hes : forceE (chunk te.size len ds) some = some es) (hf : freeN X.fre t σ.ob = true) (ht : Nat.blt t σ.nt = true)
    (hK : K ⟨σ.nt, (t, .row t) :: σ.sl, (t, .row e es true) :: dropO t σ.ob⟩) : OpOk X o σ K :=
  op_newx (ao := .row e es true) hd ht hf (fun a w en h1 => by
    rw [forceE_eq] at hes
    injection hes with hes
    subst hes
    have hu := sliceT_und hT
    obtain ⟨q, q1, q2, q3, q4⟩ := te.parts
    have hpos := blt_spec hk.pos
    have hzc : te.zero.cells.size = te.size := (beq_spec _ _).1 hk.zero
    have hmade : ((Array.range (len * te.size)).map (te.zero.cells[· % te.zero.cells.size]!)).toList = (List.replicate len te.zero.cells.toList).flatten := by
      have h0 := made_list te.zero.cells len (by omega)
      rw [show len * te.zero.cells.size = len * te.size by rw [hzc]] at h0
      exact h0
    obtain ⟨hp1, hp2⟩ := evParts_ok h1 parts.toList
    obtain ⟨r, r1, r2, r3⟩ := fillA_ok (vs := parts.toList.map fun x => (x.1, a.eval x.2)) (cells := (Array.range (len * te.size)).map (te.zero.cells[· % te.zero.cells.size]!)) h1.mem hcs
      (by rw [hmade]; exact zeros_show te.zero len) (by rw [hmade]; exact zeros_one hz1 len) hp1 hp2
    obtain ⟨F, k1, k2⟩ := dataL_ok hds r2
    have hlen : ds.length = len * te.size := (beq_spec _ _).1 hl
    have hF : F = [] := repL_flat k1 (flat1_flat hfl)
    subst hF
    obtain ⟨g1, g2, g3⟩ := chunk_ok hlen k1
    have hrl : r.toList.length = len * te.size := by rw [showsL_length r2, dataL_length hds]; exact hlen
    have hmx : len ≤ 16777216 := by
      have := Nat.le_of_ble_eq_true hsm
      exact Nat.le_trans (Nat.le_mul_of_pos_right len hpos) this
    refine ⟨.slice (some ⟨w.heap.size, 0, none⟩) len len, [], w.alloc (.cells r e), ?_, Ext.alloc_ w _, fun en' he => ⟨_, he, rfl, rfl, rfl⟩, fun b hb => ?_, fun hI hTr => ?_, fun _ _ _ _ b hb => by cases hb⟩
    · have hmp : parts.map (fun (x : Nat × Operand) => (x.1, a.eval x.2)) = (parts.toList.map fun x => (x.1, a.eval x.2)).toArray := by cases parts; simp
      have hsm' : ¬ (len * te.size > 2 ^ 24) := by have := Nat.le_of_ble_eq_true hsm; omega
      have hrun : (Instr.buildSlice T len (parts.map fun (x : Nat × Operand) => (x.1, a.eval x.2))).run X.P w = .ok (.slice (some ⟨w.heap.size, 0, none⟩) len len) (w.alloc (.cells r e)) := by
        rw [hmp]
        by_cases h0 : len * te.size = 0
        · have hl0 : len = 0 := by
            rcases Nat.mul_eq_zero.1 h0 with h | h
            · exact h
            · omega
          subst hl0
          have e1 : ((Array.range (0 * te.size)).map (te.zero.cells[· % te.zero.cells.size]!)) = (#[] : Array Value) := by simp
          rw [e1] at r1
          simp [Instr.buildSlice, run_underlying hu, sizeOf, typeInfo, q1, q3, r1, newRow, Array.range_zero']
        · exact run_buildSlice w T e len _ r q te.zero hu q1 q2 (by rw [q3]; exact hsm') (by rw [q3]; exact h0) (by rw [q3]; exact r1)
      simp only [execOp, ho, Sem.run_bind, hrun, Result.andThen]
      rfl
    · simp only [blk, Option.some.injEq] at hb
      exact Nat.le_of_eq hb
    · unfold EntOk
      refine ⟨te.size, r.toList, te.sized, hpos, ?_, g2, repE_mono (Ext.alloc_ w _).size _ _ _ g1 (by simp), by simp, fun g hg => ?_, fun _ => ⟨by simp, by simp⟩⟩
      · rw [g3]
        refine ⟨hrl, .inr ⟨w.heap.size, len, r, rfl, Nat.zero_le _, heap_alloc_new w _, Nat.le_refl _, by unfold maxLen; omega, by rw [← Array.length_toList]; exact hrl, by rw [← hrl]; exact List.take_length⟩⟩
      · simp only [blk, Option.some.injEq] at hg
        subst hg
        exact .inr h1.mem.size) hK
end
end Go.Proofs.Ythmajaeekkbnnaa
