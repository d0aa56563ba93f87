/-
  The walk over abstract states: make, stores into rows, rows made data, strings and bytes, structs as values.
-/
import Derived.Test.YthmajaeekkbnnaaAbsM
namespace Go.Proofs.Ythmajaeekkbnnaa
open Go Go.RowKit

/-! ### make -/
theorem zeros_list (z : Value) (n : Nat) : zerosA z n = (List.replicate n (zeroAV z)).flatten := by
  induction n with
  | zero => rfl
  | succ n ih => rw [zerosA, ih, List.replicate_succ, List.flatten_cons]
theorem repE_replicate {w : World} {e : List D} {us : List Value} (h : repL w e us []) : ∀ (n : Nat), repE w (List.replicate n e) (List.replicate n us).flatten []
  | 0 => ⟨rfl, rfl⟩
  | n + 1 => ⟨us, (List.replicate n us).flatten, [], [], rfl, rfl, h, repE_replicate h n⟩
section
variable {X : Cx} {σ : AS} {o : Oper} {K : AS → Prop} {t : Nat}
theorem st_make {T e : TypeId} {x y : Operand} {p q : Int} {n : Nat} {zd : List D} [te : TI X.P e] (ho : o.op = .makeSlice T x y) (hd : o.dst = some t) (hT : sliceT X T = some e) (hx : σ.ev x = .d (.n .i64 p)) (hp : p = (n : Int)) (hy : σ.ev y = .d (.n .i64 q)) (hq : q = (n : Int)) (hb : n ≤ 1099511627776)
    (hk : ElemOk te) (hzd : (dataL (zeroAV te.zero)).bind (fun l => forceD l some) = some zd) (hfl : zd.all D.flat1 = true) (hlz : Nat.beq zd.length te.size = true) (hf : freeN X.fre t σ.ob = true) (ht : Nat.blt t σ.nt = true)
    (hK : K ⟨σ.nt, (t, .row t) :: σ.sl, (t, .row e (List.replicate n zd) true) :: dropO t σ.ob⟩) : OpOk X o σ K :=
  op_newx (ao := .row e (List.replicate n zd) true) hd ht hf (fun a w en h1 => by
    have hzd : dataL (zeroAV te.zero) = some zd := by
      cases hz : dataL (zeroAV te.zero) with
      | none => rw [hz] at hzd; cases hzd
      | some l => rw [hz, Option.bind_some, forceD_eq] at hzd; exact hzd
    subst hp; subst hq
    have hu := sliceT_und hT
    obtain ⟨i, q1, q2, q3, q4⟩ := te.parts
    have hpos := blt_spec hk.pos
    have hzc : te.zero.cells.size = te.size := (beq_spec _ _).1 hk.zero
    have hmade := made_list te.zero.cells n (by omega)
    obtain ⟨F, ⟨e1, _⟩, _⟩ := ev_of h1 hx
    obtain ⟨G, ⟨e2, _⟩, _⟩ := ev_of h1 hy
    obtain ⟨F', k1, k2⟩ := dataL_ok (w := w) (en := en) (I := IM X en w) hzd (showsL_const te.zero.cells.toList)
    have hF : F' = [] := repL_flat k1 (flat1_flat hfl)
    subst hF
    have hzl : zd.length = te.size := (beq_spec _ _).1 hlz
    have hby : te.bytes ≤ 128 := Nat.le_of_ble_eq_true hk.bytes
    have hr := run_make (P := X.P) w T e i te.zero hu q1 q2 .i64 .i64 n n (by omega) (Int.le_refl _) (by
      rw [q4]
      have : te.bytes * n ≤ 128 * 1099511627776 := Nat.mul_le_mul hby hb
      have h2 : ((te.bytes * n : Nat) : Int) ≤ 281474976710656 := by omega
      rwa [Int.natCast_mul] at h2) (by omega)
    simp only [Int.toNat_natCast] at hr
    refine ⟨.slice (some ⟨w.heap.size, 0, none⟩) n n, [], w.alloc (.cells (madeCells te.zero.cells (n * i.size)) e), ?_, Ext.alloc_ w _, fun en' he => ⟨_, he, rfl, rfl, rfl⟩, fun b hb => ?_, fun hI hTr => ?_, fun _ _ _ _ b hb => by cases hb⟩
    · simp only [execOp, ho, e1, e2, Sem.run_bind, hr, Result.andThen]
      rfl
    · simp only [blk, Option.some.injEq] at hb
      exact Nat.le_of_eq hb
    · unfold EntOk
      have hl : (madeCells te.zero.cells (n * i.size)).toList = (List.replicate n te.zero.cells.toList).flatten := by rw [q3, ← hzc]; exact hmade
      refine ⟨te.size, (List.replicate n te.zero.cells.toList).flatten, te.sized, hpos, ?_, fun el hel => ?_, repE_mono (Ext.alloc_ w _).size _ _ _ (repE_replicate k1 n) (by simp), by simp, fun g hg => ?_, fun _ => ⟨by simp, by simp⟩⟩
      · rw [List.length_replicate]
        have hsz : (madeCells te.zero.cells (n * i.size)).size = n * te.size := by rw [size_madeCells, q3]
        have hsz2 : (List.replicate n te.zero.cells.toList).flatten.length = n * te.size := by rw [← hl, Array.length_toList, hsz]
        refine ⟨hsz2, .inr ⟨w.heap.size, n, _, rfl, Nat.zero_le _, heap_alloc_new w _, Nat.le_refl _, by unfold maxLen; omega, hsz, ?_⟩⟩
        rw [hl, ← hsz2]
        exact List.take_length
      · rw [List.eq_of_mem_replicate hel]; exact hzl
      · simp only [blk, Option.some.injEq] at hg
        subst hg
        exact .inr h1.mem.size) hK

/-! ### Stores into rows -/
theorem splice_left {α : Type} {u1 u2 ys : List α} {k : Nat} (h : k + ys.length ≤ u1.length) : splice (u1 ++ u2) k ys = splice u1 k ys ++ u2 := by
  unfold splice
  rw [List.take_append_of_le_length (by omega), List.drop_append_of_le_length h, List.append_assoc, List.append_assoc, List.append_assoc]
theorem splice_right {α : Type} {u1 u2 ys : List α} {k : Nat} : splice (u1 ++ u2) (u1.length + k) ys = u1 ++ splice u2 k ys := by
  unfold splice
  rw [List.take_length_add_append, Nat.add_assoc, List.drop_length_add_append, List.append_assoc, List.append_assoc, List.append_assoc]
theorem splice_length {α : Type} {xs ys : List α} {k : Nat} (h : k + ys.length ≤ xs.length) : (splice xs k ys).length = xs.length := by
  unfold splice
  simp only [List.length_append, List.length_take, List.length_drop]
  omega
theorem splice_take {α : Type} {xs ys : List α} {k n : Nat} (h : k + ys.length ≤ n) : (splice xs k ys).take n = splice (xs.take n) k ys := by
  unfold splice
  apply List.ext_getElem?
  intro j
  simp only [List.append_assoc, List.getElem?_take, List.getElem?_append, List.length_take, List.getElem?_drop]
  by_cases h1 : j < n
  · rw [if_pos h1]
    by_cases hx : n ≤ xs.length
    · have e1 : min k (min n xs.length) = min k xs.length := by omega
      rw [e1]
      repeat' split
      all_goals first | rfl | omega | (congr 1; omega)
    · have e1 : min k (min n xs.length) = min k xs.length := by omega
      rw [e1]
      repeat' split
      all_goals first | rfl | omega | (congr 1; omega) | (rw [List.getElem?_eq_none (by omega)])
  · rw [if_neg h1]
    repeat' split
    all_goals first | rfl | omega
theorem repL_take {w : World} : ∀ {ds : List D} {us : List Value} {F : List Nat}, repL w ds us F → ∀ k, ∃ G, repL w (ds.take k) (us.take k) G ∧ ∀ b ∈ G, b ∈ F
  | [], us, F, h, k => by obtain ⟨rfl, rfl⟩ := h; exact ⟨[], by simp [repL], by simp⟩
  | d :: ds, us, F, h, k => by
    cases k with
    | zero => exact ⟨[], by simp [repL], by simp⟩
    | succ k =>
      obtain ⟨u, us', F1, F2, rfl, rfl, h1, h2⟩ := h
      obtain ⟨G, h3, h4⟩ := repL_take h2 k
      refine ⟨F1 ++ G, ⟨u, us'.take k, F1, G, by simp, rfl, h1, h3⟩, fun b hb => ?_⟩
      rcases List.mem_append.1 hb with hb | hb
      · exact List.mem_append_left _ hb
      · exact List.mem_append_right _ (h4 b hb)
theorem nil_of_sub {G : List Nat} (h : ∀ b ∈ G, b ∈ ([] : List Nat)) : G = [] := by
  cases G with
  | nil => rfl
  | cons a l => have := h a List.mem_cons_self; cases this
theorem repL_splice {w : World} {ds el : List D} {us vs : List Value} (h : repL w el us []) (h' : repL w ds vs []) (k : Nat) : repL w (splice el k ds) (splice us k vs) [] := by
  have hl := repL_length h'
  unfold splice
  obtain ⟨G1, h1, g1⟩ := repL_take h k
  obtain ⟨G2, h2, g2⟩ := repL_drop h (k + ds.length)
  have := nil_of_sub g1; subst this
  have := nil_of_sub g2; subst this
  rw [hl]
  have := repL_append (repL_append h1 h') h2
  simpa using this
theorem repE_set {w : World} {z : Nat} : ∀ {es : List (List D)} {us : List Value} {F : List Nat} {i off : Nat} {el ds : List D} {vs : List Value}, repE w es us F → (∀ e ∈ es, e.length = z) → es[i]? = some el → el.all D.flat = true → repL w ds vs [] → off + ds.length ≤ z →
    repE w (es.set i (splice el off ds)) (splice us (i * z + off) vs) F
  | [], us, F, i, off, el, ds, vs, _, _, hi, _, _, _ => by simp at hi
  | e :: es, us, F, i, off, el, ds, vs, h, hz, hi, hfl, h', hle => by
    obtain ⟨u1, u2, F1, F2, rfl, rfl, k1, k2⟩ := h
    have hl1 : u1.length = z := by rw [repL_length k1]; exact hz e List.mem_cons_self
    have hvl := repL_length h'
    cases i with
    | zero =>
      simp only [List.getElem?_cons_zero, Option.some.injEq] at hi
      subst hi
      have hF1 := repL_flat k1 hfl
      subst hF1
      rw [List.set_cons_zero, Nat.zero_mul, Nat.zero_add, splice_left (by omega)]
      exact ⟨_, _, [], F2, rfl, rfl, repL_splice k1 h' off, k2⟩
    | succ i =>
      simp only [List.getElem?_cons_succ] at hi
      have e1 : (i + 1) * z + off = u1.length + (i * z + off) := by rw [hl1, Nat.add_mul]; omega
      rw [List.set_cons_succ, e1, splice_right]
      exact ⟨_, _, F1, F2, rfl, rfl, k1, repE_set k2 (fun x hx => hz x (List.mem_cons_of_mem _ hx)) hi hfl h' hle⟩
/-- A store into an element of a row of the call's own. -/
theorem st_storer {T e : TypeId} {x y : Operand} {p i off n : Nat} {es : List (List D)} {dp : Bool} {el ds : List D} {xs : List AV} [ti : TI X.P T] (ho : o.op = .store T x y) (hd : o.dst = none) (hx : σ.ev x = .pr p i off) (hp : lookO σ.ob p = some (.row e es dp)) (hy : (σ.ev y).cellsV = some xs) (hds : dataL xs = some ds)
    (hn : es.length = n) (hlt : i < n) (hel : es[i]? = some el) (hfe : el.all D.flat1 = true) (hfd : ds.all D.flat1 = true) (hl : Nat.beq ds.length ti.size = true) (hfit : Nat.ble (off + ti.size) el.length = true)
    (hK : K ⟨σ.nt, σ.sl, (p, .row e (es.set i (splice el off ds)) dp) :: dropO p σ.ob⟩) : OpOk X o σ K := by
  have hdl : ds.length = ti.size := (beq_spec _ _).1 hl
  have hfit' : off + ti.size ≤ el.length := Nat.le_of_ble_eq_true hfit
  refine op_set (ao' := .row e (es.set i (splice el off ds)) dp) hp hd rfl ?_ rfl (fun a w en z h1 hz hzn hza hok => ?_) hK
  · simp only [AO.lens, List.map_set]
    rw [splice_length (by omega)]
    refine List.ext_getElem? fun k => ?_
    rw [List.getElem?_set]
    split
    · rename_i hk
      subst hk
      split
      · rw [List.getElem?_map, hel]; rfl
      · rename_i hk
        rw [List.getElem?_eq_none (by simpa using hk)]
    · rfl
  · unfold EntOk at hok
    rw [hza] at hok
    obtain ⟨s, us, k0, k1, k2, k3, k4, k5, k6, k7⟩ := hok
    obtain ⟨z', hz', e1, e2, g', s', e3, e4, e5, e6⟩ := ev_of h1 hx
    have := h1.mem.ent_unique hz' hz (e1.trans hzn.symm)
    subst this
    rw [hza] at e4 e5
    have hsl : s' = s := by
      have := e4 el.length (List.mem_map.2 ⟨el, List.mem_of_getElem? hel, rfl⟩)
      rw [← this, k3 el (List.mem_of_getElem? hel)]
    subst hsl
    have hels : el.length = s' := k3 el (List.mem_of_getElem? hel)
    obtain ⟨h6, h7⟩ := cellsV_shows h1.mem hy (AS.ev_shows h1 y)
    obtain ⟨F, g1, g2⟩ := dataL_ok hds h6
    have hF := repL_flat g1 (flat1_flat hfd)
    subst hF
    have hcl : (a.eval y).cells.toList.length = ti.size := by rw [repL_length g1]; exact hdl
    rcases k2.2 with ⟨hv, h0⟩ | ⟨g, cap, cur, hv, hbg, hg, hnc, hcm, hcs, htake⟩
    · omega
    · rw [hv] at e3
      simp only [blk, Option.some.injEq] at e3
      subst e3
      have hin : i * s' + s' ≤ es.length * s' := by
        have : (i + 1) * s' ≤ es.length * s' := Nat.mul_le_mul_right _ (by omega)
        rwa [Nat.add_mul, Nat.one_mul] at this
      have hcap : es.length * s' ≤ cap * s' := Nat.mul_le_mul_right _ hnc
      refine ⟨g, (splice cur.toList (i * s' + off) (a.eval y).cells.toList).toArray, by rw [hv]; rfl, ?_, fun hT hIS => ?_⟩
      · have h8 := run_store_cells (P := X.P) (T := T) (off := i * s' + off) (v := a.eval y) hg (by rw [ti.sized, ← Array.length_toList, hcl]) (by rw [← Array.length_toList, hcl, hcs]; omega) h7
        simp only [execOp, ho, e6, Sem.run_bind, h8, Result.andThen]
        rfl
      · unfold EntOk
        refine ⟨s', splice us (i * s' + off) (a.eval y).cells.toList, k0, k1, ?_, fun q hq => ?_, repE_set (repE_mono (by simp) _ _ _ k4 (fun b hb => (hIS b (k5 b hb)).2)) k3 hel (flat1_flat hfe) (repL_mono (by simp) _ _ _ g1 (by simp)) (by omega), fun b hb => (hIS b (k5 b hb)).1, k6, k7⟩
        · have hul : us.length = es.length * s' := k2.1
          have hul2 : i * s' + off + (a.eval y).cells.toList.length ≤ us.length := by omega
          have hcl2 : cur.toList.length = cap * s' := by rw [Array.length_toList]; exact hcs
          refine ⟨by rw [splice_length hul2, hul, List.length_set], .inr ⟨g, cap, _, by rw [hv, List.length_set], Nat.zero_le _, setRow_heap w g cur _ e _ hg, by rw [List.length_set]; exact hnc, hcm, ?_, ?_⟩⟩
          · simp only [List.size_toArray]
            rw [splice_length (by omega), Array.length_toList]
            exact hcs
          · rw [List.length_set, ← htake]
            exact splice_take (by rw [← hul]; exact hul2)
        · rcases List.mem_or_eq_of_mem_set hq with hq | rfl
          · exact k3 q hq
          · rw [splice_length (by omega)]; exact hels

/-! ### Loads from elements that are found by proof -/
theorem at_pr {x : Operand} {p i off : Nat} {e : TypeId} {es : List (List D)} {dp : Bool} {el : List D} (hx : σ.ev x = .pr p i off) (hp : lookO σ.ob p = some (.row e es dp)) (hel : es[i]? = some el) : σ.at (σ.ev x) = some ((el.drop off).map AV.d) := by
  rw [hx]
  simp only [AS.at, hp, hel]
theorem st_loadr1 {T e : TypeId} {x : Operand} {v : AV} {p i off : Nat} {es : List (List D)} {dp : Bool} {el : List D} [ti : TI X.P T] (ho : o.op = .load T x) (hd : o.dst = some t) (hx : σ.ev x = .pr p i off) (hp : lookO σ.ob p = some (.row e es dp)) (hel : es[i]? = some el) (hv : ((el.drop off).map AV.d)[0]? = some v) (ha : isAggD ti.desc = false) (ht : Nat.blt t σ.nt = true) (hK : K (σ.put t v)) : QOk X o σ K :=
  st_load1 ho hd (by rw [at_pr hx hp hel]; exact hv) ha ht hK
theorem st_loadrN {T e : TypeId} {x : Operand} {xs : List AV} {p i off : Nat} {es : List (List D)} {dp : Bool} {el : List D} [ti : TI X.P T] (ho : o.op = .load T x) (hd : o.dst = some t) (hx : σ.ev x = .pr p i off) (hp : lookO σ.ob p = some (.row e es dp)) (hel : es[i]? = some el) (hv : ((el.drop off).map AV.d).take ti.size = xs) (hl : Nat.beq xs.length ti.size = true) (ha : isAggD ti.desc = true) (ht : Nat.blt t σ.nt = true) (hK : K (σ.put t (.agg xs))) : QOk X o σ K :=
  st_loadN ho hd (by rw [at_pr hx hp hel, ← hv]; rfl) hl ha ht hK
end
end Go.Proofs.Ythmajaeekkbnnaa
