/-
  The walk over abstract states: calls, entry and return.
-/
import Derived.Test.YthmajaeekkbnnaaAbsG
import Derived.Conc.MuLone
namespace Go.Proofs.Ythmajaeekkbnnaa
open Go Go.RowKit

def one (rs : List AV) : AV := match rs with
  | [x] => x
  | xs => .tup xs
/-- The contract: called with such arguments (data), f returns; old memory is as it was; the results are these, and what they hold in memory is new and shared with nothing. -/
def ACalls (P : Program) (f : FuncId) (args rs : List AV) (rob : List (Nat × AO)) : Prop :=
  ∀ (w : World) (us : List Value), showsL w [] (fun b => b < w.heap.size) args us →
    (∀ w', (callFunc f us.toArray).run P w' = .ok (.enter f us.toArray) w') ∧
    Calls P f us.toArray w fun e w' => ∃ v en, e = .returned v ∧ Mem P w NoZ NoB en w' ∧ (en.map Ent.key).Perm rob ∧ (one rs).shows w' en (Imm w NoZ NoB en w') v

/-! ### Entry -/
def argSl : Nat → List AV → List (Nat × AV)
  | _, [] => []
  | i, x :: xs => (i, x) :: argSl (i + 1) xs
theorem look_argSl : ∀ (xs : List AV) (i t : Nat), look (argSl i xs) t = if i ≤ t then xs.getD (t - i) .any else .any
  | [], i, t => by simp [argSl, look]
  | x :: xs, i, t => by
    rw [argSl, look_cons, look_argSl xs (i + 1) t]
    by_cases h1 : i = t
    · subst h1; simp
    · rw [if_neg h1]
      by_cases h2 : i + 1 ≤ t
      · rw [if_pos h2, if_pos (by omega), show t - i = (t - (i + 1)) + 1 by omega]
        simp
      · rw [if_neg h2, if_neg (by omega)]
def startA (nt : Nat) (args : List AV) : AS := ⟨nt, argSl 0 args, []⟩

/-! ### Return -/
mutual
/-- Rows by their place among the results instead of their names. -/
def AV.ren (ρ : List Nat) : AV → AV
  | .row i => .row (ρ.getD i 0)
  | .agg xs => .agg (renL ρ xs)
  | .tup xs => .tup (renL ρ xs)
  | x => x
def renL (ρ : List Nat) : List AV → List AV
  | [] => []
  | x :: xs => x.ren ρ :: renL ρ xs
end
mutual
/-- A result that speaks of nothing but its own n rows. -/
def AV.na (n : Nat) : AV → Bool
  | .d x => x.flat
  | .nil => true
  | .row i => Nat.blt i n
  | .agg xs => naL n xs
  | .tup xs => naL n xs
  | _ => false
def naL (n : Nat) : List AV → Bool
  | [] => true
  | x :: xs => x.na n && naL n xs
end
theorem one_ren (ρ : List Nat) (rs : List AV) : (one rs).ren ρ = one (renL ρ rs) := by
  match rs with
  | [] => rfl
  | [x] => rfl
  | x :: y :: zs => rfl
theorem one_na (n : Nat) (rs : List AV) (h : naL n rs = true) : (one rs).na n = true := by
  match rs, h with
  | [], _ => rfl
  | [x], h => simpa [naL, one] using h
  | x :: y :: zs, h => exact h
def cellOk (X : Cx) (σ : AS) (t : Nat) (T : TypeId) (v : AV) : Prop := ∃ ti : TI X.P T, ((isAggD ti.desc = true ∧ ∃ xs, (σ.at (look σ.sl t)).map (List.take ti.size) = some xs ∧ Nat.beq xs.length ti.size = true ∧ AV.agg xs = v) ∨
      (isAggD ti.desc = false ∧ (σ.at (look σ.sl t)).bind (·[0]?) = some v))
def resOk (X : Cx) (σ : AS) : List ResultVar → List AV → Prop
  | [], [] => True
  | .tmp t :: rs, v :: vs => look σ.sl t = v ∧ resOk X σ rs vs
  | .cell t T :: rs, v :: vs => cellOk X σ t T v ∧ resOk X σ rs vs
  | _, _ => False
theorem cell_agg {X : Cx} {σ : AS} {t : Nat} {T : TypeId} {v : AV} {xs : List AV} [ti : TI X.P T] (ha : isAggD ti.desc = true) (hx : (σ.at (look σ.sl t)).map (List.take ti.size) = some xs) (hl : Nat.beq xs.length ti.size = true) (hv : AV.agg xs = v) : cellOk X σ t T v :=
  ⟨ti, .inl ⟨ha, xs, hx, hl, hv⟩⟩
theorem cell_one {X : Cx} {σ : AS} {t : Nat} {T : TypeId} {v v' : AV} [ti : TI X.P T] (ha : isAggD ti.desc = false) (hx : (σ.at (look σ.sl t)).bind (·[0]?) = some v') (hv : v' = v) : cellOk X σ t T v :=
  ⟨ti, .inr ⟨ha, by rw [hx, hv]⟩⟩
def robOk (σ : AS) : List Nat → Nat → List (Nat × AO) → Prop
  | [], _, [] => True
  | p :: ρ, i, (j, .row e es d) :: rob => (Nat.beq i j = true ∧ d = true) ∧ lookO σ.ob p = some (.row e es true) ∧ robOk σ ρ (i + 1) rob
  | _, _, _ => False
def nodupL : List Nat → Bool
  | [] => true
  | x :: xs => !(xs.any fun y => Nat.beq x y) && nodupL xs
theorem nodupL_spec : ∀ {l : List Nat}, nodupL l = true → l.Nodup
  | [], _ => by simp
  | x :: xs, h => by
    simp only [nodupL, Bool.and_eq_true, Bool.not_eq_true', List.any_eq_false] at h
    rw [List.nodup_cons]
    exact ⟨fun hm => h.1 x hm ((beq_spec x x).2 rfl), nodupL_spec h.2⟩
def resVar (tmps : Array Value) : ResultVar → Sem Value
  | .tmp t => pure (tmps.getD t undef)
  | .cell c t => do loadVar t (← asAddr (tmps.getD c undef))
theorem run_results {X : Cx} {σ : AS} {a : Act} {w : World} {en : List Ent} (h : Rel1 X σ a w en) : ∀ (rs : List ResultVar) (vs : List AV), resOk X σ rs vs →
    ∃ us, (rs.mapM (resVar a.tmps)).run X.P w = .ok us w ∧ showsL w en (IM X en w) vs us
  | [], [], _ => ⟨[], by simp [Sem.run_pure], rfl⟩
  | .tmp t :: rs, v :: vs', hr => by
    obtain ⟨h1, h2⟩ := hr
    obtain ⟨us, h3, h4⟩ := run_results h rs vs' h2
    refine ⟨a.tmps.getD t undef :: us, ?_, _, us, rfl, h1 ▸ h.slots t, h4⟩
    simp only [List.mapM_cons, resVar, Sem.run_bind, Sem.run_pure, Result.andThen, h3]
  | .cell t T :: rs, v :: vs', hr => by
    obtain ⟨⟨ti, h1⟩, h2⟩ := hr
    obtain ⟨us, h3, h4⟩ := run_results h rs vs' h2
    have key : ∃ b off u, a.tmps.getD t undef = .pointer (some ⟨b, off, none⟩) ∧ (loadVar T ⟨b, off, none⟩).run X.P w = .ok u w ∧ v.shows w en (IM X en w) u := by
      rcases h1 with ⟨ha, xs, hx, hl, hv⟩ | ⟨ha, hx⟩
      · cases hy : σ.at (look σ.sl t) with
        | none => rw [hy] at hx; cases hx
        | some ys =>
          rw [hy] at hx
          simp only [Option.map_some, Option.some.injEq] at hx
          obtain ⟨b, off, us, e, k1, k2⟩ := at_cells h hy (h.slots t)
          have k3 := showsL_take k1 ti.size
          rw [hx] at k3
          have hlen : (us.take ti.size).length = ti.size := (showsL_length k3).trans ((beq_spec _ _).1 hl)
          refine ⟨b, off, .agg (us.take ti.size).toArray, e, ?_, hv ▸ ⟨_, rfl, k3⟩⟩
          exact run_loadVar_mid (P := X.P) w b off T (us.take ti.size) ti.desc (fun j v hj => k2 j v (by
            rw [List.getElem?_take] at hj
            split at hj
            · exact hj
            · cases hj)) ti.und (by cases hde : ti.desc <;> simp_all [isAggD, TypeDesc.isRow]) (by rw [ti.sized, hlen])
      · cases hy : σ.at (look σ.sl t) with
        | none => rw [hy] at hx; cases hx
        | some ys =>
          rw [hy] at hx
          obtain ⟨b, off, us, e, k1, k2⟩ := at_cells h hy (h.slots t)
          obtain ⟨u, k3, k4⟩ := showsL_get k1 hx
          refine ⟨b, off, u, e, ?_, k4⟩
          have k5 := k2 _ _ k3
          have hag : (isAgg T).run X.P w = .ok false w := by
            unfold isAgg
            rw [Sem.run_bind, run_underlying ti.und w]
            cases hde : ti.desc <;> simp_all [isAggD, Sem.run_pure]
          simp only [loadVar, Sem.run_bind, Result.andThen_ok, hag, Bool.false_eq_true, if_false, run_load]
          simp only [Nat.add_zero] at k5
          rw [k5]
    obtain ⟨b, off, u, e, k1, k2⟩ := key
    refine ⟨u :: us, ?_, _, us, rfl, k2, h4⟩
    have e2 : (asAddr (a.tmps.getD t undef)).run X.P w = .ok ⟨b, off, none⟩ w := by rw [e]; rfl
    simp only [List.mapM_cons, resVar, Sem.run_bind, Sem.run_pure, Result.andThen, e2, k1, h3]
section
variable {w : World} {en en' : List Ent} {I I' : Nat → Prop} {n : Nat} {ρ : List Nat}
mutual
theorem AV.shows_ren (he : ∀ i, i < n → ∀ x ∈ en, x.nm = ρ.getD i 0 → ∃ y ∈ en', y.nm = i ∧ y.val = x.val ∧ y.ao.isRow = x.ao.isRow) :
    ∀ (x : AV) (u : Value), x.na n = true → (x.ren ρ).shows w en I u → x.shows w en' I' u
  | .d x, u, hn, h => by
    obtain ⟨F, h1, _⟩ := h
    exact ⟨F, h1, by rw [D.flat_fs h1 hn]; simp⟩
  | .nil, _, _, h => h
  | .row i, u, hn, h => by
    obtain ⟨x, hx, h1, h2, h3⟩ := h
    obtain ⟨y, hy, g1, g2, g3⟩ := he i (blt_spec hn) x hx h1
    exact ⟨y, hy, g1, by rw [g3]; exact h2, by rw [g2]; exact h3⟩
  | .agg xs, u, hn, h => by
    obtain ⟨us, h1, h2⟩ := h
    exact ⟨us, h1, showsL_ren he xs us hn h2⟩
  | .tup xs, u, hn, h => by
    obtain ⟨us, h1, h2⟩ := h
    exact ⟨us, h1, showsL_ren he xs us hn h2⟩
theorem showsL_ren (he : ∀ i, i < n → ∀ x ∈ en, x.nm = ρ.getD i 0 → ∃ y ∈ en', y.nm = i ∧ y.val = x.val ∧ y.ao.isRow = x.ao.isRow) :
    ∀ (xs : List AV) (us : List Value), naL n xs = true → showsL w en I (renL ρ xs) us → showsL w en' I' xs us
  | [], _, _, h => h
  | x :: xs, us, hn, h => by
    obtain ⟨u, us', rfl, h1, h2⟩ := h
    simp only [naL, Bool.and_eq_true] at hn
    exact ⟨u, us', rfl, AV.shows_ren he x u hn.1 h1, showsL_ren he xs us' hn.2 h2⟩
end
end
/-- The entries of the rows that are handed out. -/
theorem rob_ents {X : Cx} {σ : AS} {a : Act} {w : World} {en : List Ent} (h : Rel1 X σ a w en) : ∀ (ρ : List Nat) (i : Nat) (rob : List (Nat × AO)), ρ.Nodup → robOk σ ρ i rob →
    ∃ er : List Ent, er.map Ent.key = rob ∧ (∀ y ∈ er, ∃ x ∈ en, x.nm ∈ ρ ∧ y = { x with nm := y.nm } ∧ x.ao.isRow = true ∧ x.ao.deep = true) ∧
      (er.Pairwise fun y z => ∀ b, blk y.val = some b → blk z.val ≠ some b) ∧ (er.Pairwise fun y z => ∀ b ∈ y.fs, b ∉ z.fs) ∧
      (∀ j, j < ρ.length → ∀ x ∈ en, x.nm = ρ.getD j 0 → ∃ y ∈ er, y.nm = i + j ∧ y.val = x.val ∧ y.ao.isRow = x.ao.isRow) ∧ (∀ y ∈ er, i ≤ y.nm)
      ∧ (er.map Ent.nm).Nodup
  | [], i, [], _, _ => ⟨[], rfl, by simp, by simp, by simp, by simp, by simp, by simp⟩
  | p :: ρ, i, (j', .row e es d) :: rob', hn, hr => by
    obtain ⟨⟨hj, rfl⟩, h1, h2⟩ := hr
    obtain rfl := (beq_spec _ _).1 hj
    rw [List.nodup_cons] at hn
    obtain ⟨er, g1, g2, g3, g4, g5, g6, g7⟩ := rob_ents h ρ (i + 1) rob' hn.2 h2
    obtain ⟨x, hx, hxn, hxa⟩ := h.ent h1
    refine ⟨{ x with nm := i } :: er, by simp [Ent.key, hxa, ← g1], ?_, ?_, ?_, ?_, ?_, ?_⟩
    · intro y hy
      rcases List.mem_cons.1 hy with rfl | hy
      · exact ⟨x, hx, by simp [hxn], rfl, by rw [hxa]; rfl, by rw [hxa]; rfl⟩
      · obtain ⟨z, k1, k2, k3⟩ := g2 y hy
        exact ⟨z, k1, List.mem_cons_of_mem _ k2, k3⟩
    · rw [List.pairwise_cons]
      refine ⟨fun y hy b hb => ?_, g3⟩
      obtain ⟨z, k1, k2, k3, _⟩ := g2 y hy
      rw [k3]
      exact h.mem.blk_ne hx k1 (fun e0 => hn.1 (by rw [← hxn, e0]; exact k2)) hb
    · rw [List.pairwise_cons]
      refine ⟨fun y hy b hb => ?_, g4⟩
      obtain ⟨z, k1, k2, k3, _, k5⟩ := g2 y hy
      rw [k3]
      exact h.mem.apart_ne hx k1 (fun e0 => hn.1 (by rw [← hxn, e0]; exact k2)) (by rw [hxa]; rfl) k5 hb
    · intro j hj y hy hyn
      cases j with
      | zero =>
        simp only [List.getD_cons_zero] at hyn
        have := h.mem.ent_unique hx hy (hxn.trans hyn.symm)
        subst this
        exact ⟨_, List.mem_cons_self, rfl, rfl, rfl⟩
      | succ j =>
        simp only [List.getD_cons_succ] at hyn
        obtain ⟨z, k1, k2, k3⟩ := g5 j (by simpa using hj) y hy hyn
        exact ⟨z, List.mem_cons_of_mem _ k1, by omega, k3⟩
    · intro y hy
      rcases List.mem_cons.1 hy with rfl | hy
      · exact Nat.le_refl _
      · have := g6 y hy; omega
    · simp only [List.map_cons, List.nodup_cons]
      refine ⟨fun hm => ?_, g7⟩
      obtain ⟨y, hy, e0⟩ := List.mem_map.1 hm
      have := g6 y hy
      omega
/-- What a return must show. -/
def RetOk (X : Cx) (fn : Func) (rs : List AV) (rob : List (Nat × AO)) (ρ : List Nat) (σ : AS) : Prop :=
  nodupL ρ = true ∧ naL ρ.length rs = true ∧ resOk X σ fn.results.toList (renL ρ rs) ∧ robOk σ ρ 0 rob
def retQ (X : Cx) (fn : Func) (rs : List AV) (rob : List (Nat × AO)) : Exit → AS → Prop
  | .normal, σ | .ret, σ => ∃ ρ, RetOk X fn rs rob ρ σ
  | _, _ => False
theorem ret_of {P : Program} {w0 : World} {f : Nat → Bool} {Z : ZV f} {tt : (T : TypeId) → Option (TI P T)} {fn : Func} {rs : List AV} {rob : List (Nat × AO)} {ρ : List Nat} {σ : AS} {a : Act} {w : World} (hr : RetOk ⟨P, w0, f, Z, NoB, tt⟩ fn rs rob ρ σ) (h : Rel ⟨P, w0, f, Z, NoB, tt⟩ σ a w) :
    a.defers = [] ∧ ∃ v, (results fn a.tmps).run P w = .ok v w ∧ ∃ v' en, Ending.returned v = .returned v' ∧ Mem P w0 NoZ NoB en w ∧ (en.map Ent.key).Perm rob ∧ (one rs).shows w en (Imm w0 NoZ NoB en w) v' := by
  obtain ⟨en, h1⟩ := h
  obtain ⟨r1, r2, r3, r4⟩ := hr
  obtain ⟨us, h2, h3⟩ := run_results h1 _ _ r3
  obtain ⟨er, g1, g2, g3, g4, g5, g6, g7⟩ := rob_ents h1 ρ 0 rob (nodupL_spec r1) r4
  have m := h1.mem
  refine ⟨h1.defers, (if h : us.length = 1 then us[0] else .tuple us.toArray), ?_, _, er, rfl, ⟨m.os, m.tape, m.output, m.size, fun b hb hO => m.old b hb hO, g7, g3, ?_, ?_, fun _ _ => trivial⟩, by rw [g1], ?_⟩
  · have e : results fn a.tmps = (do let vs ← fn.results.mapM (resVar a.tmps); pure (if h : vs.size = 1 then vs[0] else .tuple vs)) := rfl
    have e2 : fn.results.mapM (resVar a.tmps) = (do let l ← fn.results.toList.mapM (resVar a.tmps); pure l.toArray) := by
      rw [bind_pure_comp, ← List.mapM_toArray]
    rw [e, e2]
    simp only [Sem.run_bind, h2, Result.andThen, Sem.run_pure]
    simp
  · intro y hy
    obtain ⟨x, hx, _, e, hrow, hdp⟩ := g2 y hy
    have hok := m.ok x hx
    unfold EntOk at hok
    split at hok
    · rename_i e1 es dp hao
      obtain ⟨z, vs, k0, k1, k2, k3, k4, k5, k6, k7⟩ := hok
      rw [hao] at hdp
      have hdp' : dp = true := hdp
      rw [e]
      unfold EntOk
      simp only [hao]
      refine ⟨z, vs, k0, k1, k2, k3, k4, fun b hb => ⟨.inr ((k7 hdp').2 b hb), (k5 b hb).2.1, fun q hq => ?_⟩, k6, k7⟩
      obtain ⟨x', hx', _, e', _⟩ := g2 q hq
      rw [e']
      exact (k5 b hb).2.2 x' hx'
    · rename_i hb
      rw [hb] at hrow; cases hrow
  · exact g4.imp fun h _ _ => h
  · have key : (one (renL ρ rs)).shows w en (Imm w0 Z NoB en w) (if h : us.length = 1 then us[0] else .tuple us.toArray) := by
      generalize renL ρ rs = vs at h3
      match vs, h3 with
      | [], h3 =>
        have : us = [] := h3
        subst this
        exact ⟨[], rfl, rfl⟩
      | [x], h3 =>
        obtain ⟨u, us', rfl, k1, k2⟩ := h3
        have : us' = [] := k2
        subst this
        exact k1
      | x :: y :: zs, h3 =>
        have : us.length ≠ 1 := by rw [showsL_length h3]; simp
        rw [dif_neg this]
        exact ⟨us, rfl, h3⟩
    rw [← one_ren] at key
    exact AV.shows_ren (fun i hi x hx hn => by
      obtain ⟨y, hy, k1, k2⟩ := g5 i hi x hx hn
      exact ⟨y, hy, by omega, k2⟩) _ _ (one_na _ _ r2) key
theorem acalls_of {P : Program} (tt : (T : TypeId) → Option (TI P T)) {f : FuncId} {fn : Func} {c : Code} {args rs : List AV} {rob : List (Nat × AO)} (hf : P.funcs[f]? = some fn) (hname : (fn.name == "runtime.NumGoroutine") = false) (hb : fn.body = some c) (hn : Nat.ble args.length fn.ntmps = true)
    (h : ∀ (w0 : World) (Z : ZV fre0), AWp ⟨P, w0, fre0, Z, NoB, tt⟩ c (retQ ⟨P, w0, fre0, Z, NoB, tt⟩ fn rs rob) (startA fn.ntmps args)) : ACalls P f args rs rob := by
  intro w us hs
  refine ⟨fun w' => Go.MuLone.run_callFunc_enter hf hname hb _ w', ?_⟩
  refine calls_of_wp hf hb ?_
  have hlen := showsL_length hs
  have hle : us.length ≤ fn.ntmps := by rw [hlen]; exact Nat.le_of_ble_eq_true hn
  have hm : Mem P w (zv (f := fre0) fun b => b < w.heap.size) NoB [] w := ⟨rfl, rfl, rfl, Nat.le_refl _, fun _ _ _ => rfl, by simp, by simp, by simp, by simp, by simp⟩
  have hI : ∀ b, b < w.heap.size → Imm w (zv (f := fre0) fun b => b < w.heap.size) NoB [] w b := fun b hb => ⟨.inl hb, hb, by simp⟩
  have hrel : Rel ⟨P, w, fre0, zv fun b => b < w.heap.size, NoB, tt⟩ (startA fn.ntmps args) { tmps := us.toArray ++ Array.replicate (fn.ntmps - us.toArray.size) undef, defers := [] } w := by
    refine ⟨[], hm, by simp [startA], rfl, by simp [startA]; omega, fun t => ?_⟩
    simp only [startA, look_argSl, Nat.zero_le, if_true, Nat.sub_zero]
    rw [Array.getD_eq_getD_getElem?]
    cases ht : args[t]? with
    | none => simp only [List.getD, ht, Option.getD_none]; trivial
    | some x =>
      obtain ⟨u, h1, h2⟩ := showsL_get hs ht
      simp only [List.getD, ht, Option.getD_some]
      have hlt : t < us.length := (List.getElem?_eq_some_iff.1 h1).1
      have : (us.toArray ++ Array.replicate (fn.ntmps - us.toArray.size) undef)[t]? = some u := by
        rw [Array.getElem?_append_left (by simpa using hlt)]
        simpa using h1
      rw [this]
      exact AV.shows_mono (Nat.le_refl _) (fun _ _ => rfl) hI (fun x hx => by cases hx) h2
  refine wp_mono (h w (zv fun b => b < w.heap.size) _ w hrel) (fun e a' w' ⟨σ, hq, hr⟩ => ?_)
  cases e with
  | normal => obtain ⟨ρ, hq⟩ := hq; exact ret_of hq hr
  | ret => obtain ⟨ρ, hq⟩ := hq; exact ret_of hq hr
  | _ => exact hq.elim
theorem ret_intro {X : Cx} {fn : Func} {rs : List AV} {rob : List (Nat × AO)} {σ : AS} (ρ : List Nat) (h1 : nodupL ρ = true) (h2 : naL ρ.length rs = true) (h3 : resOk X σ fn.results.toList (renL ρ rs)) (h4 : robOk σ ρ 0 rob) : retQ X fn rs rob .ret σ := ⟨ρ, h1, h2, h3, h4⟩
theorem retn_intro {X : Cx} {fn : Func} {rs : List AV} {rob : List (Nat × AO)} {σ : AS} (ρ : List Nat) (h1 : nodupL ρ = true) (h2 : naL ρ.length rs = true) (h3 : resOk X σ fn.results.toList (renL ρ rs)) (h4 : robOk σ ρ 0 rob) : retQ X fn rs rob .normal σ := ⟨ρ, h1, h2, h3, h4⟩
end Go.Proofs.Ythmajaeekkbnnaa
