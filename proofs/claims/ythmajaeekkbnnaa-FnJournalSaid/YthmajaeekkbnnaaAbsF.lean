/-
  The walk over abstract states: loads, stores, new variables, addresses.
-/
import Derived.Test.YthmajaeekkbnnaaAbsE
namespace Go.Proofs.Ythmajaeekkbnnaa
open Go Go.RowKit

def AV.leaf : AV → Bool
  | .d _ | .nil | .row _ | .ptr _ _ | .pr _ _ _ | .pd _ _ => true
  | _ => false
/-- The cells that the value fills. -/
def AV.cellsV : AV → Option (List AV)
  | .agg xs => bif xs.all AV.leaf then some xs else none
  | .d x => some [.d x]
  | .nil => some [.nil]
  | .row o => some [.row o]
  | .ptr o i => some [.ptr o i]
  | .pr o i j => some [.pr o i j]
  | .pd e i => some [.pd e i]
  | _ => none
theorem own_slice {w : World} {base e z n : Nat} {v : Value} {us : List Value} (h : w.ownsRow base e z v n us) : ∃ A c, v = .slice A n c ∧ n ≤ c ∧ c ≤ maxLen ∧ (A = none → c = 0) ∧ (0 < n → ∃ g, A = some ⟨g, 0, none⟩) := by
  rcases h.2 with ⟨hv, hn⟩ | ⟨g, cap, cur, hv, _, _, h1, h2, _⟩
  · subst hn
    exact ⟨none, 0, hv, Nat.le_refl _, Nat.zero_le _, fun _ => rfl, fun h => absurd h (by omega)⟩
  · exact ⟨_, cap, hv, h1, h2, (fun e => by cases e), fun _ => ⟨g, rfl⟩⟩
section
variable {P : Program} {w0 : World} {f : Nat → Bool} {Z : ZV f} {O : Nat → Prop} {en : List Ent} {w : World}
theorem leaf_one (hm : Mem P w0 Z O en w) {I : Nat → Prop} : ∀ {x : AV} {u : Value}, x.leaf = true → x.shows w en I u → u.oneCell' = true ∧ u.cells = #[u]
  | .d x, u, _, h => by
    obtain ⟨F, h, _⟩ := h
    cases x with
    | n k x => obtain ⟨rfl, _⟩ := h; exact ⟨rfl, rfl⟩
    | b t => obtain ⟨rfl, _⟩ := h; exact ⟨rfl, rfl⟩
    | s l => obtain ⟨rfl, _⟩ := h; exact ⟨rfl, rfl⟩
    | sl es => obtain ⟨A, cap, z, us, F', rfl, _⟩ := h; exact ⟨rfl, rfl⟩
  | .nil, u, _, h => by rw [show u = .slice none 0 0 from h]; exact ⟨rfl, rfl⟩
  | .row o, u, _, h => by
    obtain ⟨x, hx, _, h1, rfl⟩ := h
    have h2 := hm.ok x hx
    unfold EntOk at h2
    split at h2
    · obtain ⟨z, us, _, _, h3, _⟩ := h2
      obtain ⟨A, c, h4, _⟩ := own_slice h3
      rw [h4]; exact ⟨rfl, rfl⟩
    · rename_i hb
      rw [hb] at h1; cases h1
  | .ptr o off, u, _, h => by obtain ⟨x, hx, _, h1, g, h2, rfl⟩ := h; exact ⟨rfl, rfl⟩
  | .pr o i off, u, _, h => by obtain ⟨x, hx, _, h1, g, z, h2, h3, h4, rfl⟩ := h; exact ⟨rfl, rfl⟩
  | .pd e off, u, _, h => by obtain ⟨b, o, us, F, rfl, _⟩ := h; exact ⟨rfl, rfl⟩
theorem leaves_one (hm : Mem P w0 Z O en w) {I : Nat → Prop} : ∀ {xs : List AV} {us : List Value}, xs.all AV.leaf = true → showsL w en I xs us → ∀ u ∈ us, u.oneCell' = true
  | [], us, _, h, u, hu => by rw [show us = [] from h] at hu; cases hu
  | x :: xs, us, hl, h, u, hu => by
    obtain ⟨v, us', rfl, h1, h2⟩ := h
    simp only [List.all_cons, Bool.and_eq_true] at hl
    rcases List.mem_cons.1 hu with rfl | hu
    · exact (leaf_one hm hl.1 h1).1
    · exact leaves_one hm hl.2 h2 u hu
theorem cellsV_shows (hm : Mem P w0 Z O en w) {I : Nat → Prop} {x : AV} {xs : List AV} {u : Value} (hx : x.cellsV = some xs) (h : x.shows w en I u) : showsL w en I xs u.cells.toList ∧ ∀ v ∈ u.cells.toList, v.oneCell' = true := by
  have one : x.leaf = true → xs = [x] → showsL w en I xs u.cells.toList ∧ ∀ v ∈ u.cells.toList, v.oneCell' = true := fun hl e => by
    obtain ⟨h1, h2⟩ := leaf_one hm hl h
    rw [h2, e]
    exact ⟨⟨u, [], rfl, h, rfl⟩, by simpa using h1⟩
  cases x with
  | agg ys =>
    obtain ⟨us, rfl, h1⟩ := h
    simp only [AV.cellsV] at hx
    cases hl : ys.all AV.leaf with
    | false => rw [hl] at hx; cases hx
    | true =>
      rw [hl] at hx
      injection hx with hx
      subst hx
      exact ⟨by simpa [Value.cells] using h1, by simpa [Value.cells] using leaves_one hm hl h1⟩
  | any => cases hx
  | tup ys => cases hx
  | d y => injection hx with hx; exact one rfl hx.symm
  | nil => injection hx with hx; exact one rfl hx.symm
  | row y => injection hx with hx; exact one rfl hx.symm
  | ptr y z => injection hx with hx; exact one rfl hx.symm
  | pr y z q => injection hx with hx; exact one rfl hx.symm
  | pd y z => injection hx with hx; exact one rfl hx.symm
end

/-- What lies from an address on. -/
def AS.at (σ : AS) : AV → Option (List AV)
  | .ptr o off => match lookO σ.ob o with
    | some (.box _ cs) => some (cs.drop off)
    | _ => none
  | .pd e off => some ((e.drop off).map AV.d)
  | .pr o i off => match lookO σ.ob o with
    | some (.row _ es _) => match es[i]? with
      | some el => some ((el.drop off).map AV.d)
      | none => none
    | _ => none
  | _ => none
def isAggD : TypeDesc → Bool
  | .struct _ | .array _ _ => true
  | _ => false
theorem repL_drop {w : World} : ∀ {ds : List D} {us : List Value} {F : List Nat}, repL w ds us F → ∀ k, ∃ G, repL w (ds.drop k) (us.drop k) G ∧ ∀ b ∈ G, b ∈ F
  | [], us, F, h, k => by obtain ⟨rfl, rfl⟩ := h; exact ⟨[], by simp [repL], by simp⟩
  | d :: ds, us, F, h, k => by
    cases k with
    | zero => exact ⟨F, h, fun b hb => hb⟩
    | succ k =>
      obtain ⟨u, us', F1, F2, rfl, rfl, h1, h2⟩ := h
      obtain ⟨G, h3, h4⟩ := repL_drop h2 k
      exact ⟨G, by simpa using h3, fun b hb => List.mem_append_right _ (h4 b hb)⟩
theorem at_cells {X : Cx} {σ : AS} {a : Act} {w : World} {en : List Ent} (h : Rel1 X σ a w en) {x : AV} {xs : List AV} {u : Value} (hx : σ.at x = some xs) (hs : x.shows w en (IM X en w) u) :
    ∃ b o us, u = .pointer (some ⟨b, o, none⟩) ∧ showsL w en (IM X en w) xs us ∧ ∀ j v, us[j]? = some v → w.cell? ⟨b, o + j, none⟩ = some v := by
  cases x with
  | ptr o off =>
    simp only [AS.at] at hx
    split at hx
    · rename_i e cs hl
      injection hx with hx
      subst hx
      obtain ⟨y, hy, rfl, h1⟩ := h.ent hl
      obtain ⟨y', hy', e1, h2, g, h3, rfl⟩ := hs
      have := h.mem.ent_unique hy' hy e1
      subst this
      have h4 := h.mem.ok y' hy'
      unfold EntOk at h4
      rw [h1] at h4
      obtain ⟨_, g', cur, h5, _, h6, h7⟩ := h4
      rw [h5] at h3
      simp only [blk, Option.some.injEq] at h3
      subst h3
      refine ⟨g', off, cur.toList.drop off, rfl, showsL_drop h7 off, fun j v hj => ?_⟩
      rw [cell_of_row _ _ _ _ _ _ h6, ← hj]
      simp
    · cases hx
  | pd e off =>
    simp only [AS.at] at hx
    injection hx with hx
    subst hx
    obtain ⟨b, o, us, F, rfl, h1, h2, h3, h4⟩ := hs
    obtain ⟨G, h5, h6⟩ := repL_drop h1 off
    refine ⟨b, o + off, us.drop off, rfl, showsL_data h5 (fun b hb => h4 b (h6 b hb)), fun j v hj => ?_⟩
    rw [Nat.add_assoc]
    exact h2 _ _ (by rw [← hj]; simp)
  | pr o i off =>
    simp only [AS.at] at hx
    split at hx
    · rename_i e es dp hl
      split at hx
      · rename_i el hel
        injection hx with hx
        subst hx
        obtain ⟨y, hy, rfl, h1⟩ := h.ent hl
        obtain ⟨y', hy', e1, h2, g, z, h3, h4, h5, rfl⟩ := hs
        have := h.mem.ent_unique hy' hy e1
        subst this
        have h6 := h.mem.ok y' hy'
        unfold EntOk at h6
        rw [h1] at h6
        obtain ⟨z', us, _, _, h7, h8, h9, h10, _⟩ := h6
        rw [h1] at h4 h5
        have hz : ∀ e ∈ es, e.length = z := fun e he => h4 _ (List.mem_map.2 ⟨e, he, rfl⟩)
        obtain ⟨vs, G, g1, g2, g3⟩ := repE_get h9 hz hel
        obtain ⟨G2, g4, g5⟩ := repL_drop g1 off
        refine ⟨g, i * z + off, vs.drop off, rfl, showsL_data g4 (fun b hb => h10 b (g2 b (g5 b hb))), fun j v hj => ?_⟩
        have hlt : 0 < es.length := Nat.lt_of_le_of_lt (Nat.zero_le _) (List.getElem?_eq_some_iff.1 hel).1
        have hzz : z' = z := by
          have e0 := List.getElem_mem hlt
          exact (h8 _ e0).symm.trans (hz _ e0)
        subst hzz
        obtain ⟨A, c, k1, k2, k3, k4, k5⟩ := own_slice h7
        obtain ⟨g', k6⟩ := k5 hlt
        rw [k1, k6] at h3 h7
        simp only [blk, Option.some.injEq] at h3
        subst h3
        have hj' : us[i * z' + (off + j)]? = some v := g3 _ _ (by rw [← hj]; simp)
        have hlen := (List.getElem?_eq_some_iff.1 hj').1
        rw [h7.1] at hlen
        rw [show i * z' + off + j = i * z' + (off + j) by omega, h7.cellAt _ hlen]
        exact hj'
      · cases hx
    · cases hx
  | _ => cases hx
section
variable {X : Cx} {σ : AS} {o : Oper} {K : AS → Prop} {t : Nat}
theorem st_load1 {T : TypeId} {x : Operand} {v : AV} [ti : TI X.P T] (ho : o.op = .load T x) (hd : o.dst = some t) (hx : (σ.at (σ.ev x)).bind (·[0]?) = some v) (ha : isAggD ti.desc = false) (ht : Nat.blt t σ.nt = true) (hK : K (σ.put t v)) : QOk X o σ K :=
  op_val hd ht (fun a w en h => by
    cases hy : σ.at (σ.ev x) with
    | none => rw [hy] at hx; cases hx
    | some xs =>
      rw [hy] at hx
      obtain ⟨b, off, us, e, h1, h2⟩ := at_cells h hy (AS.ev_shows h x)
      obtain ⟨u, h3, h4⟩ := showsL_get h1 hx
      refine ⟨u, fun w' hw' => ?_, h4⟩
      have h5 := hw'.cell (h2 _ _ h3)
      have hag : (isAgg T).run X.P w' = .ok false w' := by
        unfold isAgg
        rw [Sem.run_bind, run_underlying ti.und w']
        cases hde : ti.desc <;> simp_all [isAggD, Sem.run_pure]
      simp only [execOp, ho, e, Instr.loadAt, Instr.sureAddr, loadVar, Sem.run_bind, Sem.run_pure, Result.andThen_ok, hag, Bool.false_eq_true, if_false, run_load]
      simp only [Nat.add_zero] at h5
      rw [h5]
      rfl) hK
theorem st_loadN {T : TypeId} {x : Operand} {xs : List AV} [ti : TI X.P T] (ho : o.op = .load T x) (hd : o.dst = some t) (hx : (σ.at (σ.ev x)).map (List.take ti.size) = some xs) (hl : Nat.beq xs.length ti.size = true) (ha : isAggD ti.desc = true) (ht : Nat.blt t σ.nt = true) (hK : K (σ.put t (.agg xs))) : QOk X o σ K :=
  op_val hd ht (fun a w en h => by
    cases hy : σ.at (σ.ev x) with
    | none => rw [hy] at hx; cases hx
    | some ys =>
      rw [hy] at hx
      simp only [Option.map_some, Option.some.injEq] at hx
      obtain ⟨b, off, us, e, h1, h2⟩ := at_cells h hy (AS.ev_shows h x)
      have h3 := showsL_take h1 ti.size
      rw [hx] at h3
      have hlen : (us.take ti.size).length = ti.size := (showsL_length h3).trans ((beq_spec _ _).1 hl)
      refine ⟨.agg (us.take ti.size).toArray, fun w' hw' => ?_, _, rfl, h3⟩
      have h4 := run_loadAt_mid (P := X.P) w' b off T (us.take ti.size) ti.desc (fun j v hj => hw'.cell (h2 j v (by
        rw [List.getElem?_take] at hj
        split at hj
        · exact hj
        · cases hj))) ti.und (by cases hde : ti.desc <;> simp_all [isAggD, TypeDesc.isRow]) (by rw [ti.sized, hlen])
      simp only [execOp, ho, e, Sem.run_bind, h4, Result.andThen]
      rfl) hK
/-- An operation that makes one new object. -/
theorem op_new {ao : AO} {v : AV} (hd : o.dst = some t) (ht : Nat.blt t σ.nt = true) (hf : freeN X.fre t σ.ob = true)
    (h : ∀ a w en, Rel1 X σ a w en → ∃ u : Value, ∃ fs : List Nat, ∃ hap : Obj, (execOp a.eval o).run X.P w = .ok (.value u) (w.alloc (hap)) ∧
      (∀ en', (⟨t, ao, u, fs⟩ : Ent) ∈ en' → v.shows (w.alloc hap) en' (IM X en' (w.alloc hap)) u) ∧ (∀ b, blk u = some b → b = w.heap.size) ∧
      ((∀ (b : Nat), Imm X.w0 X.Z X.O en w b → Imm X.w0 X.Z X.O (⟨t, ao, u, fs⟩ :: restE (fun _ => true) t en) (w.alloc hap) b) →
        (∀ (y : AV) (q : Value), y.shows w en (IM X en w) q → y.shows (w.alloc hap) (⟨t, ao, u, fs⟩ :: restE (fun _ => true) t en) (IM X (⟨t, ao, u, fs⟩ :: restE (fun _ => true) t en) (w.alloc hap)) q) →
        EntOk X.P (Frs X.w0 X.O) (w.alloc hap) (⟨t, ao, u, fs⟩ :: restE (fun _ => true) t en) (IM X (⟨t, ao, u, fs⟩ :: restE (fun _ => true) t en) (w.alloc hap)) ⟨t, ao, u, fs⟩) ∧
      (ao.deep = true → ∀ y ∈ en, y.ao.deep = true → ∀ b ∈ fs, b ∉ y.fs))
    (hK : K ⟨σ.nt, (t, v) :: σ.sl, (t, ao) :: dropO t σ.ob⟩) : OpOk X o σ K := by
  intro a w hr next Q hn
  obtain ⟨en, h1⟩ := hr
  obtain ⟨u, fs, hap, h2, h3, h4, h5, h6⟩ := h a w en h1
  have hno : ∀ x ∈ en, x.nm ≠ t := fun x hx e => by
    have : hasN t σ.ob = true := hasN_iff.2 ⟨x.key, h1.ob.mem_iff.1 (List.mem_map.2 ⟨x, hx, rfl⟩), e⟩
    rw [(freeN_spec hf).1] at this; cases this
  have hs : Swap X.P X.w0 X.Z X.O en w (w.alloc hap) t ⟨t, ao, u, fs⟩ (fun _ => true) :=
    ⟨h1.mem, fun _ _ => rfl, fun _ x hx e => absurd e (hno x hx), rfl, rfl, rfl, by simp, fun b hb _ => Below.heap_alloc w hap b hb, fun b hb => .inl (Nat.le_of_eq (h4 b hb).symm), rfl, X.Z.lo _ _ (freeN_spec hf).2⟩
  have h7 := h1.swap_keep hs (h5 (fun b hb => hs.imm hb) (fun y q hy => by have := hs.shows hy; rwa [AV.cut_true] at this)) (fun hd y hy _ hdy => h6 hd y hy hdy)
  unfold Oper.wp
  rw [h2, Oper.upon_value, hd]
  exact hn _ _ _ hK ⟨_, h7.put (h3 _ List.mem_cons_self) ht⟩
theorem showsL_const {w : World} {en : List Ent} {I : Nat → Prop} : ∀ (us : List Value), showsL w en I (us.map ofConst) us
  | [] => rfl
  | u :: us => by
    refine ⟨u, us, rfl, ?_, showsL_const us⟩
    unfold ofConst
    split
    · exact ⟨[], ⟨rfl, rfl⟩, by simp⟩
    · exact ⟨[], ⟨rfl, rfl⟩, by simp⟩
    · exact ⟨[], ⟨by rw [bytes_eta], rfl⟩, by simp⟩
    · rfl
    · trivial
theorem showsL_map {w w' : World} {en en' : List Ent} {I I' : Nat → Prop} (h : ∀ (y : AV) (q : Value), y.shows w en I q → y.shows w' en' I' q) : ∀ {xs : List AV} {us : List Value}, showsL w en I xs us → showsL w' en' I' xs us
  | [], _, h1 => h1
  | x :: xs, us, h1 => by
    obtain ⟨u, us', rfl, h2, h3⟩ := h1
    exact ⟨u, us', rfl, h x u h2, showsL_map h h3⟩
def zeroAV (z : Value) : List AV := z.cells.toList.map ofConst
theorem st_alloc {T : TypeId} [ti : TI X.P T] (ho : o.op = .alloc T) (hd : o.dst = some t) (hf : freeN X.fre t σ.ob = true) (ht : Nat.blt t σ.nt = true)
    (hK : K ⟨σ.nt, (t, .ptr t 0) :: σ.sl, (t, .box T (zeroAV ti.zero)) :: dropO t σ.ob⟩) : OpOk X o σ K :=
  op_new (ao := .box T (zeroAV ti.zero)) hd ht hf (fun a w en h => by
    refine ⟨.pointer (some ⟨w.heap.size, 0, none⟩), [], .cells ti.zero.cells T, ?_, ?_, ?_, ?_, fun h => by cases h⟩
    · obtain ⟨i, h1, h2, _⟩ := ti.parts
      simp [execOp, ho, Instr.alloc, zeroValue, typeInfo, h1, h2, newVar, newRow]
    · exact fun en' he => ⟨_, he, rfl, rfl, w.heap.size, rfl, rfl⟩
    · intro b hb; simp only [blk, Option.some.injEq] at hb; exact hb.symm
    · intro _ _
      exact ⟨rfl, w.heap.size, ti.zero.cells, rfl, .inr h.mem.size, heap_alloc_new w _, showsL_const _⟩) hK
theorem st_box {T : TypeId} {x : Operand} {cs : List AV} (ho : o.op = .box T x) (hd : o.dst = some t) (hx : (σ.ev x).cellsV = some cs) (hf : freeN X.fre t σ.ob = true) (ht : Nat.blt t σ.nt = true)
    (hK : K ⟨σ.nt, (t, .ptr t 0) :: σ.sl, (t, .box T cs) :: dropO t σ.ob⟩) : OpOk X o σ K :=
  op_new (ao := .box T cs) hd ht hf (fun a w en h => by
    obtain ⟨h1, h2⟩ := cellsV_shows h.mem hx (AS.ev_shows h x)
    refine ⟨.pointer (some ⟨w.heap.size, 0, none⟩), [], .cells (a.eval x).cells T, ?_, ?_, ?_, ?_, fun h => by cases h⟩
    · simp [execOp, ho, Instr.box, newVar, newRow]
    · exact fun en' he => ⟨_, he, rfl, rfl, w.heap.size, rfl, rfl⟩
    · intro b hb; simp only [blk, Option.some.injEq] at hb; exact hb.symm
    · intro hI hT
      exact ⟨rfl, w.heap.size, (a.eval x).cells, rfl, .inr h.mem.size, heap_alloc_new w _, showsL_map hT h1⟩) hK
end
end Go.Proofs.Ythmajaeekkbnnaa
