/-
  The walk over abstract states: stores, addresses of fields and elements, lengths, pieces.
-/
import Derived.Test.YthmajaeekkbnnaaAbsF
namespace Go.Proofs.Ythmajaeekkbnnaa
open Go Go.RowKit

theorem Mem.apart_ne {P : Program} {w0 : World} {f : Nat → Bool} {Z : ZV f} {O : Nat → Prop} {en : List Ent} {w : World} (h : Mem P w0 Z O en w) {x y : Ent} (hx : x ∈ en) (hy : y ∈ en) (he : x.nm ≠ y.nm) (dx : x.ao.deep = true) (dy : y.ao.deep = true) {b : Nat} (hb : b ∈ x.fs) : b ∉ y.fs := by
  have := h.apart
  clear h
  induction en with
  | nil => cases hx
  | cons a en ih =>
    rw [List.pairwise_cons] at this
    rcases List.mem_cons.1 hx with rfl | hx' <;> rcases List.mem_cons.1 hy with rfl | hy'
    · exact absurd rfl he
    · exact this.1 y hy' dx dy b hb
    · intro hb'
      exact this.1 x hx' dy dx b hb' hb
    · exact ih hx' hy' this.2
def splice {α : Type} (xs : List α) (k : Nat) (ys : List α) : List α := xs.take k ++ ys ++ xs.drop (k + ys.length)
theorem showsL_splice {w : World} {en : List Ent} {I : Nat → Prop} {xs ys : List AV} {us vs : List Value} (h : showsL w en I xs us) (h' : showsL w en I ys vs) (k : Nat) : showsL w en I (splice xs k ys) (splice us k vs) := by
  unfold splice
  rw [showsL_length h']
  exact showsL_append (showsL_append (showsL_take h k) h') (showsL_drop h _)
theorem run_store_cells {P : Program} {w : World} {g off : Nat} {T e : TypeId} {v : Value} {cur : Array Value} (hg : w.heap[g]? = some (.cells cur e (0, 0))) (hi : (P.info? T).map (·.size) = some v.cells.size) (hfit : off + v.cells.size ≤ cur.size) (h1 : ∀ u ∈ v.cells.toList, u.oneCell' = true) :
    (Instr.storeAt T (.pointer (some ⟨g, off, none⟩)) v).run P w = .ok () (w.setRow g (splice cur.toList off v.cells.toList).toArray) := by
  have h2 := run_storeCells_at P g off e v.cells.toList 0 cur w hg (by simpa using hfit) h1
  cases hq : P.info? T with
  | none => simp [hq] at hi
  | some i =>
    have hs : v.cells.size = i.size := by simp [hq] at hi; omega
    simp only [Nat.add_zero] at h2
    simp [Instr.storeAt, Instr.sureAddr, storeVar, sizeOf, typeInfo, hq, hs, h2, splice]
section
variable {X : Cx} {σ : AS} {o : Oper} {K : AS → Prop} {t : Nat}
/-- An operation that changes one object. -/
theorem op_set {p : Nat} {ao ao' : AO} (hp : lookO σ.ob p = some ao) (hd : o.dst = none) (hrow : ao'.isRow = ao.isRow) (hlens : ao'.lens = ao.lens) (hdeep : ao'.deep = ao.deep)
    (h : ∀ a w en y, Rel1 X σ a w en → y ∈ en → y.nm = p → y.ao = ao → EntOk X.P (Frs X.w0 X.O) w en (IM X en w) y → ∃ (g : Nat) (cur : Array Value), blk y.val = some g ∧ (execOp a.eval o).run X.P w = .ok .skip (w.setRow g cur) ∧
      ((∀ (z : AV) (q : Value), z.shows w en (IM X en w) q → z.shows (w.setRow g cur) (⟨p, ao', y.val, y.fs⟩ :: restE (fun _ => true) p en) (IM X (⟨p, ao', y.val, y.fs⟩ :: restE (fun _ => true) p en) (w.setRow g cur)) q) →
       (∀ b, IM X en w b → IM X (⟨p, ao', y.val, y.fs⟩ :: restE (fun _ => true) p en) (w.setRow g cur) b ∧ Same w (w.setRow g cur) b) →
        EntOk X.P (Frs X.w0 X.O) (w.setRow g cur) (⟨p, ao', y.val, y.fs⟩ :: restE (fun _ => true) p en) (IM X (⟨p, ao', y.val, y.fs⟩ :: restE (fun _ => true) p en) (w.setRow g cur)) ⟨p, ao', y.val, y.fs⟩))
    (hK : K ⟨σ.nt, σ.sl, (p, ao') :: dropO p σ.ob⟩) : OpOk X o σ K := by
  intro a w hr next Q hn
  obtain ⟨en, h1⟩ := hr
  obtain ⟨y, hy, hyn, hya⟩ := h1.ent hp
  obtain ⟨g, cur, h2, h3, h4⟩ := h a w en y h1 hy hyn hya (h1.mem.ok y hy)
  have hs : Swap X.P X.w0 X.Z X.O en w (w.setRow g cur) p ⟨p, ao', y.val, y.fs⟩ (fun _ => true) :=
    ⟨h1.mem, fun _ _ => rfl, fun _ x hx e => by
        have := h1.mem.ent_unique hx hy (e.trans hyn.symm)
        subst this
        exact ⟨e.symm, rfl, by rw [hya]; exact hrow, by rw [hya]; exact hlens⟩, rfl, rfl, rfl, by simp,
      fun b hb hno => setRow_other w g b cur (fun e => hno y hy hyn (e ▸ h2)), fun b hb => .inr ⟨y, hy, hyn, hb⟩, rfl, hyn ▸ h1.mem.fix y hy⟩
  have h7 := h1.swap_keep hs (h4 (fun z q hz => by have := hs.shows hz; rwa [AV.cut_true] at this) (fun b hb => ⟨hs.imm hb, hs.same hb⟩)) (fun hd z hz hzn hdz b hb => by
    exact h1.mem.apart_ne hy hz (fun e => hzn (e.symm.trans hyn)) (by rw [hya, ← hdeep]; exact hd) hdz hb)
  unfold Oper.wp
  rw [h3, Oper.upon_skip, hd]
  exact hn _ _ _ hK ⟨_, h7⟩
theorem st_store {T : TypeId} {x y : Operand} {p off : Nat} {e : TypeId} {cs xs : List AV} [ti : TI X.P T] (ho : o.op = .store T x y) (hd : o.dst = none) (hx : σ.ev x = .ptr p off) (hp : lookO σ.ob p = some (.box e cs)) (hy : (σ.ev y).cellsV = some xs)
    (hl : Nat.beq xs.length ti.size = true) (hfit : Nat.ble (off + ti.size) cs.length = true) (hK : K ⟨σ.nt, σ.sl, (p, .box e (splice cs off xs)) :: dropO p σ.ob⟩) : OpOk X o σ K :=
  op_set (ao' := .box e (splice cs off xs)) hp hd rfl rfl rfl (fun a w en z h1 hz hzn hza hok => by
    unfold EntOk at hok
    rw [hza] at hok
    obtain ⟨h0, g, cur, h2, h3, h4, h5⟩ := hok
    obtain ⟨z', hz', e1, e2, g', e3, e4⟩ := ev_of h1 hx
    have := h1.mem.ent_unique hz' hz (e1.trans hzn.symm)
    subst this
    rw [h2] at e3
    simp only [blk, Option.some.injEq] at e3
    subst e3
    obtain ⟨h6, h7⟩ := cellsV_shows h1.mem hy (AS.ev_shows h1 y)
    have hsz : (a.eval y).cells.size = ti.size := by rw [← Array.length_toList, showsL_length h6]; exact (beq_spec _ _).1 hl
    refine ⟨g, (splice cur.toList off (a.eval y).cells.toList).toArray, by rw [h2]; rfl, ?_, fun hT _ => ?_⟩
    · have hcl : cur.toList.length = cs.length := showsL_length h5
      have h8 := run_store_cells (P := X.P) (T := T) (off := off) (v := a.eval y) h4 (by rw [ti.sized, hsz]) (by rw [hsz, ← Array.length_toList, hcl]; exact Nat.le_of_ble_eq_true hfit) h7
      simp only [execOp, ho, e4, Sem.run_bind, h8, Result.andThen]
      rfl
    · unfold EntOk
      exact ⟨h0, g, _, h2, h3, setRow_heap w g cur _ e _ h4, by
        have := showsL_splice (showsL_map hT h5) (showsL_map hT h6) off
        simpa using this⟩) hK

/-! ### Addresses -/
def fieldOff (d : TypeDesc) (f : Nat) : Option (Nat × TypeId) :=
  match d with
  | .struct fs => (fs[f]?).map fun x => (x.offset, x.type)
  | _ => none
def AV.offset : AV → Nat → AV
  | .ptr o off, k => .ptr o (off + k)
  | .pr o i off, k => .pr o i (off + k)
  | .pd e off, k => .pd e (off + k)
  | _, _ => .any
theorem offset_shows {w : World} {en : List Ent} {I : Nat → Prop} {x : AV} {u : Value} {b off : Nat} (h : x.shows w en I u) (hu : u = .pointer (some ⟨b, off, none⟩)) (k : Nat) : (x.offset k).shows w en I (.pointer (some ⟨b, off + k, none⟩)) := by
  subst hu
  cases x with
  | ptr o off' =>
    obtain ⟨y, h1, h2, h3, g, h4, h5⟩ := h
    injection h5 with h5; injection h5 with h5; injection h5 with e1 e2
    subst e1; subst e2
    exact ⟨y, h1, h2, h3, _, h4, rfl⟩
  | pr o i off' =>
    obtain ⟨y, h1, h2, h3, g, z, h4, h5, h6, h7⟩ := h
    injection h7 with h7; injection h7 with h7; injection h7 with e1 e2
    subst e1; subst e2
    exact ⟨y, h1, h2, h3, _, z, h4, h5, h6, by rw [Nat.add_assoc]⟩
  | pd e off' =>
    obtain ⟨b', o, us, F, h1, h2, h3, h4, h5⟩ := h
    injection h1 with h1; injection h1 with h1; injection h1 with e1 e2
    subst e1; subst e2
    exact ⟨_, o, us, F, by rw [Nat.add_assoc], h2, h3, h4, h5⟩
  | _ => trivial
def AV.isAddr : AV → Bool
  | .ptr _ _ | .pr _ _ _ | .pd _ _ => true
  | _ => false
theorem addr_shows {w : World} {en : List Ent} {I : Nat → Prop} {x : AV} {u : Value} (hx : x.isAddr = true) (h : x.shows w en I u) : ∃ b off, u = .pointer (some ⟨b, off, none⟩) := by
  cases x with
  | ptr o off' => obtain ⟨y, h1, h2, h3, g, h4, h5⟩ := h; exact ⟨_, _, h5⟩
  | pr o i off' => obtain ⟨y, h1, h2, h3, g, z, h4, h5, h6, h7⟩ := h; exact ⟨_, _, h7⟩
  | pd e off' => obtain ⟨b', o, us, F, h1, h2, h3, h4, h5⟩ := h; exact ⟨_, _, h1⟩
  | _ => cases hx
theorem st_field {T : TypeId} {x : Operand} {f off : Nat} {ft : TypeId} {v : AV} [ti : TI X.P T] (ho : o.op = .fieldAddr T x f) (hd : o.dst = some t) (hf : fieldOff ti.desc f = some (off, ft)) [tf : TI X.P ft] (hz : Nat.beq tf.size 0 = false)
    (hx : σ.ev x = v) (ha : v.isAddr = true) (ht : Nat.blt t σ.nt = true) (hK : K (σ.put t (v.offset off))) : QOk X o σ K :=
  op_val hd ht (fun a w en h => by
    have h1 := ev_of h hx
    obtain ⟨b, k, e⟩ := addr_shows ha h1
    refine ⟨_, fun w' _ => ?_, offset_shows h1 e off⟩
    unfold fieldOff at hf
    have hu := ti.und
    split at hf
    · rename_i fs hde
      rw [hde] at hu
      obtain ⟨i, h2, _, h3, _⟩ := tf.parts
      cases hq : fs[f]? with
      | none => rw [hq] at hf; cases hf
      | some fd =>
        rw [hq] at hf
        simp only [Option.map_some, Option.some.injEq, Prod.mk.injEq] at hf
        obtain ⟨e1, e2⟩ := hf
        have hz' : ¬ i.size = 0 := by
          rw [h3]; intro e0
          rw [e0] at hz
          cases hz
        simp [execOp, ho, e, Instr.fieldAt, run_underlying hu, hq, Instr.sureAddr, fieldPlace, sizeOf, typeInfo, e2, h2, hz', e1, Sem.run_pure, add_lit']
    · cases hf) hK
/-- The address of an element: of data .. -/
theorem st_idx {T e : TypeId} {x y : Operand} {es : List (List D)} {el : List D} {i : Int} [ti : TI X.P T] (hti : ti.desc = .slice e) [te : TI X.P e] (ho : o.op = .indexAddr T x y) (hd : o.dst = some t) (hx : σ.ev x = .d (.sl es)) (hy : σ.ev y = .d (.n .i64 i))
    (hi : 0 ≤ i ∧ i < es.length) (hel : es[i.toNat]? = some el) (hz : Nat.beq el.length te.size = true) (ht : Nat.blt t σ.nt = true) (hK : K (σ.put t (.pd el 0))) : QOk X o σ K :=
  op_val hd ht (fun a w en h => by
    obtain ⟨F, h1, h2⟩ := ev_of h hx
    obtain ⟨G, ⟨e2, _⟩, _⟩ := ev_of h hy
    obtain ⟨A, cap, z, us, F', e1, h4, h5, h6, h7, h8, h9⟩ := h1
    have hu := ti.und
    rw [hti] at hu
    rcases h9 with ⟨h9, _⟩ | ⟨h9, b, off, rfl, h10, rfl, h11⟩
    · subst h9; simp only [List.length_nil] at hi; omega
    · obtain ⟨vs, G, g1, g2, g3⟩ := repE_get h8 h7 hel
      obtain ⟨q, h12, _, h13, _⟩ := te.parts
      have hzz : z = te.size := ((h7 el (List.mem_of_getElem? hel)).symm).trans ((beq_spec _ _).1 hz)
      refine ⟨.pointer (some ⟨b, off + i.toNat * z, none⟩), fun w' _ => ?_, b, off + i.toNat * z, vs, G, rfl, g1, fun j v hj => ?_, h2 b List.mem_cons_self, fun c hc => h2 c (List.mem_cons_of_mem _ (g2 c hc))⟩
      · simp [execOp, ho, e1, e2, Instr.indexAt, asIntOf, run_underlying hu, hi, sizeOf, typeInfo, h12, h13, hzz, Sem.run_pure, add_lit']
      · rw [Nat.add_assoc]; exact h11 _ _ (g3 j v hj)) hK
/-- .. of a row of the call's own. -/
theorem st_idxr {T e : TypeId} {x y : Operand} {p : Nat} {er : TypeId} {es : List (List D)} {dp : Bool} {i : Int} [ti : TI X.P T] (hti : ti.desc = .slice e) (he : er = e) (ho : o.op = .indexAddr T x y) (hd : o.dst = some t) (hx : σ.ev x = .row p) (hp : lookO σ.ob p = some (.row er es dp)) (hy : σ.ev y = .d (.n .i64 i))
    (hi : 0 ≤ i ∧ i < es.length) (ht : Nat.blt t σ.nt = true) (hK : K (σ.put t (.pr p i.toNat 0))) : QOk X o σ K :=
  op_val hd ht (fun a w en h => by
    subst he
    obtain ⟨z, hz, hzn, hza⟩ := h.ent hp
    obtain ⟨z', hz', e1, e2, e3⟩ := ev_of h hx
    have := h.mem.ent_unique hz' hz (e1.trans hzn.symm)
    subst this
    obtain ⟨G, ⟨ey, _⟩, _⟩ := ev_of h hy
    have hok := h.mem.ok z' hz
    unfold EntOk at hok
    rw [hza] at hok
    obtain ⟨s, us, k1, k2, k3, k4, k5, _⟩ := hok
    obtain ⟨A, c, g1, g2, g3, g4, g5⟩ := own_slice k3
    obtain ⟨g, g6⟩ := g5 (by omega)
    have hu := ti.und
    rw [hti] at hu
    have hlt : i.toNat < es.length := by omega
    refine ⟨.pointer (some ⟨g, i.toNat * s, none⟩), fun w' _ => ?_, z', hz, hzn, e2, g, s, by rw [g1, g6]; rfl, ?_, by rw [hza]; simpa [AO.lens] using hlt, by simp⟩
    · cases hq : X.P.info? er with
      | none => rw [hq] at k1; cases k1
      | some q =>
        have hs : q.size = s := by rw [hq] at k1; simpa using k1
        rw [g1, g6] at e3
        simp [execOp, ho, e3, ey, Instr.indexAt, asIntOf, run_underlying hu, hi, sizeOf, typeInfo, hq, hs, Sem.run_pure, add_lit']
    · rw [hza]
      intro l hl
      obtain ⟨el, hel, rfl⟩ := List.mem_map.1 hl
      exact k4 el hel) hK
end
end Go.Proofs.Ythmajaeekkbnnaa
