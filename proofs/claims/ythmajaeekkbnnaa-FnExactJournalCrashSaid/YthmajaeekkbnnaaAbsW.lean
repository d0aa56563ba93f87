/-
  The walk over abstract states: calls that write what they are handed, and results of which only a family is known.
-/
import Derived.Test.YthmajaeekkbnnaaAbsV
namespace Go.Proofs.Ythmajaeekkbnnaa
open Go Go.RowKit

/-! ### The contract -/
def flatOs : List (Nat × AO) → Prop
  | [] => True
  | (_, .row _ es _) :: l => flatE es = true ∧ flatOs l
  | (_, .box _ cs) :: l => okpL (fun _ => false) cs = true ∧ flatOs l
def sameOs : List (Nat × AO) → List (Nat × AO) → Prop
  | [], [] => True
  | (n, x) :: l, (m, y) :: l' => (n = m ∧ x.isRow = y.isRow ∧ x.lens = y.lens) ∧ sameOs l l'
  | _, _ => False
def ZH (Zp : Nat → Prop) (eh : List Ent) : ZV fre0 := ⟨Zp, fun n v => fre0 n = false → ∀ x ∈ eh, x.nm = n → v = x.val, fun n v h h' => by rw [h] at h'; cases h'⟩
def OH (eh : List Ent) (b : Nat) : Prop := ∃ x ∈ eh, blk x.val = some b
/-- Called with such arguments and handed these objects (names of a million and more), f returns: for one index of the family, these results, the objects with these contents, and new rows. -/
def MCalls {ι : Type} (P : Program) (f : FuncId) (args : List AV) (obs : List (Nat × AO)) (ok : ι → Prop) (rs : ι → List AV) (obs' rob : ι → List (Nat × AO)) : Prop :=
  (flatOs obs ∧ ∀ i, ok i → sameOs obs (obs' i) ∧ flatOs (obs' i)) ∧
  ∀ (w : World) (Zp : Nat → Prop) (eh : List Ent) (us : List Value), Mem P w (ZH Zp eh) (OH eh) eh w → eh.map Ent.key = obs → showsL w eh (Imm w (ZH Zp eh) (OH eh) eh w) args us →
    (∀ w', (callFunc f us.toArray).run P w' = .ok (.enter f us.toArray) w') ∧
    Calls P f us.toArray w fun e w' => ∃ i v en, ok i ∧ e = .returned v ∧ Mem P w (ZH Zp eh) (OH eh) en w' ∧ (en.map Ent.key).Perm (rob i ++ obs' i) ∧ (one (rs i)).shows w' en (Imm w (ZH Zp eh) (OH eh) en w') v
theorem flatOs_row : ∀ {l : List (Nat × AO)}, flatOs l → ∀ {n : Nat} {e : TypeId} {es : List (List D)} {d : Bool}, (n, AO.row e es d) ∈ l → flatE es = true
  | (m, .row e' es' d') :: l, h, n, e, es, d, hm => by
    rcases List.mem_cons.1 hm with e1 | hm
    · injection e1 with e1 e2; injection e2 with e2 e3 e4; subst e3; exact h.1
    · exact flatOs_row h.2 hm
  | (m, .box e' cs) :: l, h, n, e, es, d, hm => by
    rcases List.mem_cons.1 hm with e1 | hm
    · injection e1 with e1 e2; cases e2
    · exact flatOs_row h.2 hm
theorem flatOs_box : ∀ {l : List (Nat × AO)}, flatOs l → ∀ {n : Nat} {e : TypeId} {cs : List AV}, (n, AO.box e cs) ∈ l → okpL (fun _ => false) cs = true
  | (m, .row e' es' d') :: l, h, n, e, cs, hm => by
    rcases List.mem_cons.1 hm with e1 | hm
    · injection e1 with e1 e2; cases e2
    · exact flatOs_box h.2 hm
  | (m, .box e' cs') :: l, h, n, e, cs, hm => by
    rcases List.mem_cons.1 hm with e1 | hm
    · injection e1 with e1 e2; injection e2 with e2 e3; subst e3; exact h.1
    · exact flatOs_box h.2 hm
theorem sameOs_l : ∀ {l l' : List (Nat × AO)}, sameOs l l' → ∀ {x : Nat × AO}, x ∈ l → ∃ y ∈ l', y.1 = x.1 ∧ y.2.isRow = x.2.isRow ∧ y.2.lens = x.2.lens
  | (n, x) :: l, (m, y) :: l', h, z, hz => by
    rcases List.mem_cons.1 hz with rfl | hz
    · exact ⟨(m, y), List.mem_cons_self, h.1.1.symm, h.1.2.1.symm, h.1.2.2.symm⟩
    · obtain ⟨q, h1, h2⟩ := sameOs_l h.2 hz
      exact ⟨q, List.mem_cons_of_mem _ h1, h2⟩
theorem sameOs_names : ∀ {l l' : List (Nat × AO)}, sameOs l l' → l'.map Prod.fst = l.map Prod.fst
  | [], [], _ => rfl
  | (n, x) :: l, (m, y) :: l', h => by simp only [List.map_cons, sameOs_names h.2, h.1.1]
/-- Contents that speak of no object. -/
theorem shows_closed {w w' : World} {en en' : List Ent} {I I' : Nat → Prop} (hs : w.heap.size ≤ w'.heap.size) (hS : ∀ b, I b → Same w w' b) (hI : ∀ b, I b → I' b) {xs : List AV} {us : List Value} (hc : okpL (fun _ => false) xs = true) (h : showsL w en I xs us) : showsL w' en' I' xs us := by
  have := showsL_cut (p := fun _ => false) (en' := en') hs hS hI (fun _ _ h => by cases h) xs us h
  rwa [cutL_ok xs hc] at this
theorem nm_unique : ∀ {en : List Ent}, (en.map Ent.nm).Nodup → ∀ {x y : Ent}, x ∈ en → y ∈ en → x.nm = y.nm → x = y
  | a :: en, h, x, y, hx, hy, he => by
    simp only [List.map_cons, List.nodup_cons, List.mem_map, not_exists, not_and] at h
    rcases List.mem_cons.1 hx with rfl | hx' <;> rcases List.mem_cons.1 hy with rfl | hy'
    · rfl
    · exact absurd he.symm (h.1 y hy')
    · exact absurd he (h.1 x hx')
    · exact nm_unique h.2 hx' hy' he

/-! ### Return -/
def RetM {ι : Type} (X : Cx) (fn : Func) (rs : ι → List AV) (obs' rob : ι → List (Nat × AO)) (i : ι) (ρ : List Nat) (σ : AS) : Prop :=
  (nodupL ρ && naL ρ.length (rs i) && (ρ.all fre0) && ((rob i).all fun y => fre0 y.1) && nodupN (obs' i) && ((obs' i).all fun y => !fre0 y.1)) = true ∧ resOk X σ fn.results.toList (renL ρ (rs i)) ∧ robOk σ ρ 0 (rob i) ∧ obLe σ (obs' i)
def retM {ι : Type} (X : Cx) (fn : Func) (ok : ι → Prop) (rs : ι → List AV) (obs' rob : ι → List (Nat × AO)) : Exit → AS → Prop
  | .normal, σ | .ret, σ => ∃ i ρ, ok i ∧ RetM X fn rs obs' rob i ρ σ
  | _, _ => False
theorem retM_intro {ι : Type} {X : Cx} {fn : Func} {ok : ι → Prop} {rs : ι → List AV} {obs' rob : ι → List (Nat × AO)} {σ : AS} (i : ι) (ρ : List Nat) (h0 : ok i)
    (h1 : (nodupL ρ && naL ρ.length (rs i) && (ρ.all fre0) && ((rob i).all fun y => fre0 y.1) && nodupN (obs' i) && ((obs' i).all fun y => !fre0 y.1)) = true) (h2 : resOk X σ fn.results.toList (renL ρ (rs i))) (h3 : robOk σ ρ 0 (rob i)) (h4 : obLe σ (obs' i)) : retM X fn ok rs obs' rob .ret σ := ⟨i, ρ, h0, h1, h2, h3, h4⟩
theorem mret_of {ι : Type} {P : Program} {w0 : World} {Z : ZV fre0} {O : Nat → Prop} {tt : (T : TypeId) → Option (TI P T)} {fn : Func} {ok : ι → Prop} {rs : ι → List AV} {obs' rob : ι → List (Nat × AO)} {i : ι} {ρ : List Nat} {σ : AS} {a : Act} {w : World}
    (hok : ok i) (hfl : flatOs (obs' i)) (hr : RetM ⟨P, w0, fre0, Z, O, tt⟩ fn rs obs' rob i ρ σ) (h : Rel ⟨P, w0, fre0, Z, O, tt⟩ σ a w) :
    a.defers = [] ∧ ∃ v, (results fn a.tmps).run P w = .ok v w ∧ ∃ i v' en, ok i ∧ Ending.returned v = .returned v' ∧ Mem P w0 Z O en w ∧ (en.map Ent.key).Perm (rob i ++ obs' i) ∧ (one (rs i)).shows w en (Imm w0 Z O en w) v' := by
  obtain ⟨en, h1⟩ := h
  obtain ⟨r1, r3, r4, r5⟩ := hr
  simp only [Bool.and_eq_true] at r1
  obtain ⟨⟨⟨⟨⟨q1, q2⟩, q3⟩, q4⟩, q5⟩, q6⟩ := r1
  obtain ⟨us, h2, h3⟩ := run_results h1 _ _ r3
  obtain ⟨er, g1, g2, g3, g4, g5, g6, g7⟩ := rob_ents h1 ρ 0 (rob i) (nodupL_spec q1) r4
  have m := h1.mem
  let p : Nat → Bool := fun n => hasN n (obs' i)
  let eo : List Ent := (en.filter fun y => p y.nm).map (Ent.cut p)
  have hle : σ.le ⟨σ.nt, [], obs' i⟩ := by
    refine ⟨rfl, trivial, r5, ?_⟩
    simp only [AS.closed, Bool.and_eq_true]
    refine ⟨⟨rfl, ?_⟩, q5⟩
    rw [List.all_eq_true]
    rintro ⟨n, ao⟩ hy
    cases ao with
    | row => rfl
    | box e cs =>
      have hc := flatOs_box hfl hy
      have key : ∀ {p q : Nat → Bool} (_ : ∀ n, p n = true → q n = true), (∀ (x : AV), x.okp p = true → x.okp q = true) ∧ ∀ (xs : List AV), okpL p xs = true → okpL q xs = true := fun {p q} hpq => by
        refine ⟨fun x => AV.rec (motive_1 := fun x => x.okp p = true → x.okp q = true) (motive_2 := fun xs => okpL p xs = true → okpL q xs = true) (fun _ => rfl) (fun _ _ => rfl) (fun _ => rfl) (fun o h => hpq o h) (fun o _ h => hpq o h) (fun o _ _ h => hpq o h) (fun _ _ _ => rfl) (fun xs ih h => ih h) (fun xs ih h => ih h) (fun _ => rfl) (fun x xs ih1 ih2 h => ?_) x, fun xs => AV.rec_1 (motive_1 := fun x => x.okp p = true → x.okp q = true) (motive_2 := fun xs => okpL p xs = true → okpL q xs = true) (fun _ => rfl) (fun _ _ => rfl) (fun _ => rfl) (fun o h => hpq o h) (fun o _ h => hpq o h) (fun o _ _ h => hpq o h) (fun _ _ _ => rfl) (fun xs ih h => ih h) (fun xs ih h => ih h) (fun _ => rfl) (fun x xs ih1 ih2 h => ?_) xs⟩
        all_goals
          simp only [okpL, Bool.and_eq_true] at h ⊢
          exact ⟨ih1 h.1, ih2 h.2⟩
      exact (key (p := fun _ => false) (q := fun n => hasN n (obs' i)) (fun _ h => by cases h)).2 cs hc
  have hτ := h1.le hle
  have hkey : (eo.map Ent.key).Perm (obs' i) := hτ.ob
  have hmo : ∀ {y : Ent}, y ∈ eo → ∃ z ∈ en, p z.nm = true ∧ y = z.cut p := by
    intro y hy
    obtain ⟨z, hz, rfl⟩ := List.mem_map.1 hy
    rw [List.mem_filter] at hz
    exact ⟨z, hz.1, hz.2, rfl⟩
  have hnr : ∀ y ∈ er, fre0 y.nm = true := fun y hy => by
    have : y.key ∈ rob i := g1 ▸ List.mem_map.2 ⟨y, hy, rfl⟩
    exact List.all_eq_true.1 q4 y.key this
  have hno : ∀ n, p n = true → fre0 n = false := fun n hn => by
    obtain ⟨y, hy, rfl⟩ := hasN_iff.1 hn
    have := List.all_eq_true.1 q6 y hy
    simpa using this
  have hρ : ∀ n ∈ ρ, fre0 n = true := List.all_eq_true.1 q3
  have hI : ∀ b, Imm w0 Z O en w b → Imm w0 Z O (er ++ eo) w b := fun b hb => ⟨hb.1, hb.2.1, fun y hy => by
    rcases List.mem_append.1 hy with hy | hy
    · obtain ⟨x, hx, _, e, _⟩ := g2 y hy
      rw [e]; exact hb.2.2 x hx
    · obtain ⟨z, hz, _, rfl⟩ := hmo hy
      exact hb.2.2 z hz⟩
  refine ⟨h1.defers, (if h : us.length = 1 then us[0] else .tuple us.toArray), ?_, i, _, er ++ eo, hok, rfl, ⟨m.os, m.tape, m.output, m.size, m.old, ?_, ?_, ?_, ?_, ?_⟩, ?_, ?_⟩
  · have e : results fn a.tmps = (do let vs ← fn.results.mapM (resVar a.tmps); pure (if h : vs.size = 1 then vs[0] else .tuple vs)) := rfl
    have e2 : fn.results.mapM (resVar a.tmps) = (do let l ← fn.results.toList.mapM (resVar a.tmps); pure l.toArray) := by
      rw [bind_pure_comp, ← List.mapM_toArray]
    rw [e, e2]
    simp only [Sem.run_bind, h2, Result.andThen, Sem.run_pure]
    simp
  · rw [List.map_append, List.nodup_append]
    refine ⟨g7, hτ.mem.names, fun n hn n' hn' e => ?_⟩
    subst e
    obtain ⟨y, hy, e1⟩ := List.mem_map.1 hn
    obtain ⟨z, hz, e2⟩ := List.mem_map.1 hn'
    obtain ⟨z', _, hz', rfl⟩ := hmo hz
    have h4 := hnr y hy
    have h5 := hno _ hz'
    rw [e1] at h4
    rw [show z'.nm = n from e2, h4] at h5
    cases h5
  · rw [List.pairwise_append]
    refine ⟨g3, hτ.mem.blks, fun y hy z hz b hb => ?_⟩
    obtain ⟨x, hx, hxn, e, _⟩ := g2 y hy
    obtain ⟨z', hz1, hz2, rfl⟩ := hmo hz
    rw [e] at hb
    exact m.blk_ne hx hz1 (fun e0 => by
      have h4 := hρ _ hxn
      have h5 := hno _ hz2
      rw [e0, h5] at h4; cases h4) hb
  · intro y hy
    rcases List.mem_append.1 hy with hy | hy
    · obtain ⟨x, hx, _, e, hrow, hdp⟩ := g2 y hy
      have hok := m.ok x hx
      unfold EntOk at hok
      split at hok
      · rename_i e1 es dp hao
        obtain ⟨z, vs, k0, k1, k2, k3, k4, k5, k6, k7⟩ := hok
        rw [e]
        unfold EntOk
        simp only [hao]
        exact ⟨z, vs, k0, k1, k2, k3, k4, fun b hb => hI b (k5 b hb), k6, k7⟩
      · rename_i hb
        rw [hb] at hrow; cases hrow
    · obtain ⟨z, hz, hpz, rfl⟩ := hmo hy
      exact (m.ok z hz).mono (Nat.le_refl _) (fun _ _ => rfl) hI (fun _ hb => hb) (fun _ _ => rfl) (fun x hx hpx => ⟨x.cut p, List.mem_append_right _ (List.mem_map.2 ⟨x, List.mem_filter.2 ⟨hx, hpx⟩, rfl⟩), rfl, rfl, AO.cut_isRow p x.ao, AO.cut_lens p x.ao⟩)
  · rw [List.pairwise_append]
    refine ⟨g4.imp fun h _ _ => h, hτ.mem.apart, fun y hy z hz hdy hdz b hb => ?_⟩
    obtain ⟨x, hx, hxn, e, _, hdx⟩ := g2 y hy
    obtain ⟨z', hz1, hz2, rfl⟩ := hmo hz
    rw [e] at hb
    exact m.apart_ne hx hz1 (fun e0 => by
      have h4 := hρ _ hxn
      have h5 := hno _ hz2
      rw [e0, h5] at h4; cases h4) hdx (by rw [← AO.cut_deep p]; exact hdz) hb
  · intro y hy
    rcases List.mem_append.1 hy with hy | hy
    · exact Z.lo _ _ (hnr y hy)
    · obtain ⟨z, hz, _, rfl⟩ := hmo hy
      exact m.fix z hz
  · rw [List.map_append, g1]
    exact List.Perm.append_left _ hkey
  · have key : (one (renL ρ (rs i))).shows w en (Imm w0 Z O en w) (if h : us.length = 1 then us[0] else .tuple us.toArray) := by
      generalize renL ρ (rs i) = vs at h3
      match vs, h3 with
      | [], h3 =>
        have : us = [] := h3
        subst this
        exact ⟨[], rfl, rfl⟩
      | [x], h3 =>
        obtain ⟨u, us', rfl, k1, k2⟩ := h3
        have : us' = [] := k2
        subst this
        exact k1
      | x :: y :: zs, h3 =>
        have : us.length ≠ 1 := by rw [showsL_length h3]; simp
        rw [dif_neg this]
        exact ⟨us, rfl, h3⟩
    rw [← one_ren] at key
    exact AV.shows_ren (fun j hj x hx hn => by
      obtain ⟨y, hy, k1, k2⟩ := g5 j hj x hx hn
      exact ⟨y, List.mem_append_left _ hy, by omega, k2⟩) _ _ (one_na _ _ q2) key
theorem mcalls_of {ι : Type} {P : Program} (tt : (T : TypeId) → Option (TI P T)) {f : FuncId} {fn : Func} {c : Code} {args : List AV} {obs : List (Nat × AO)} {ok : ι → Prop} {rs : ι → List AV} {obs' rob : ι → List (Nat × AO)}
    (hf : P.funcs[f]? = some fn) (hname : (fn.name == "runtime.NumGoroutine") = false) (hb : fn.body = some c) (hn : Nat.ble args.length fn.ntmps = true) (hfl : flatOs obs) (hs : ∀ i, ok i → sameOs obs (obs' i) ∧ flatOs (obs' i))
    (h : ∀ (w0 : World) (Z : ZV fre0) (O : Nat → Prop), AWp ⟨P, w0, fre0, Z, O, tt⟩ c (retM ⟨P, w0, fre0, Z, O, tt⟩ fn ok rs obs' rob) ⟨fn.ntmps, argSl 0 args, obs⟩) : MCalls P f args obs ok rs obs' rob := by
  refine ⟨⟨hfl, hs⟩, ?_⟩
  intro w Zp eh us hm hkey hsh
  refine ⟨fun w' => Go.MuLone.run_callFunc_enter hf hname hb _ w', ?_⟩
  refine calls_of_wp hf hb ?_
  have hlen := showsL_length hsh
  have hle : us.length ≤ fn.ntmps := by rw [hlen]; exact Nat.le_of_ble_eq_true hn
  have hrel : Rel ⟨P, w, fre0, ZH Zp eh, OH eh, tt⟩ ⟨fn.ntmps, argSl 0 args, obs⟩ { tmps := us.toArray ++ Array.replicate (fn.ntmps - us.toArray.size) undef, defers := [] } w := by
    refine ⟨eh, hm, by rw [hkey], rfl, by simp; omega, fun t => ?_⟩
    simp only [look_argSl, Nat.zero_le, if_true, Nat.sub_zero]
    rw [Array.getD_eq_getD_getElem?]
    cases ht : args[t]? with
    | none => simp only [List.getD, ht, Option.getD_none]; trivial
    | some x =>
      obtain ⟨u, h1, h2⟩ := showsL_get hsh ht
      simp only [List.getD, ht, Option.getD_some]
      have hlt : t < us.length := (List.getElem?_eq_some_iff.1 h1).1
      have : (us.toArray ++ Array.replicate (fn.ntmps - us.toArray.size) undef)[t]? = some u := by
        rw [Array.getElem?_append_left (by simpa using hlt)]
        simpa using h1
      rw [this]
      exact h2
  refine wp_mono (h w (ZH Zp eh) (OH eh) _ w hrel) (fun e a' w' ⟨σ, hq, hr⟩ => ?_)
  cases e with
  | normal => obtain ⟨i, ρ, h0, hq⟩ := hq; exact mret_of h0 (hs i h0).2 hq hr
  | ret => obtain ⟨i, ρ, h0, hq⟩ := hq; exact mret_of h0 (hs i h0).2 hq hr
  | _ => exact hq.elim
end Go.Proofs.Ythmajaeekkbnnaa
