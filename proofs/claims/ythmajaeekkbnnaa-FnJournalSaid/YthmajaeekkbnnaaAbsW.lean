/-
  The walk over abstract states: calls that write what they are handed, and results of which only a family is known.
-/
import Derived.Test.YthmajaeekkbnnaaAbsV
namespace Go.Proofs.Ythmajaeekkbnnaa
open Go Go.RowKit

/-! ### The contract -/
/-- Objects handed out: rows of the call's own, boxes whose cells speak of no object. -/
def boxB : List (Nat × AO) → Bool
  | [] => true
  | (_, .row _ _ _) :: l => boxB l
  | (_, .box _ cs) :: l => okpL (fun _ => false) cs && boxB l
theorem boxB_spec : ∀ {l : List (Nat × AO)}, boxB l = true → ∀ {n : Nat} {e : TypeId} {cs : List AV}, (n, AO.box e cs) ∈ l → okpL (fun _ => false) cs = true
  | (_, .row _ _ _) :: l, h, n, e, cs, hm => by
    rcases List.mem_cons.1 hm with hm | hm
    · cases hm
    · exact boxB_spec (l := l) h hm
  | (_, .box _ cs') :: l, h, n, e, cs, hm => by
    simp only [boxB, Bool.and_eq_true] at h
    rcases List.mem_cons.1 hm with hm | hm
    · injection hm with _ hm
      injection hm with _ hm
      rw [hm]; exact h.1
    · exact boxB_spec (l := l) h.2 hm
def flatOs : List (Nat × AO) → Prop
  | [] => True
  | (_, .row _ es _) :: l => flatE es = true ∧ flatOs l
  | (_, .box _ cs) :: l => okpL (fun _ => false) cs = true ∧ flatOs l
def sameOs : List (Nat × AO) → List (Nat × AO) → Prop
  | [], [] => True
  | (n, x) :: l, (m, y) :: l' => (n = m ∧ x.isRow = y.isRow ∧ x.lens = y.lens) ∧ sameOs l l'
  | _, _ => False
def ZH (Zp : Nat → Prop) (eh : List Ent) : ZV fre0 := ⟨Zp, fun n v => fre0 n = false → ∀ x ∈ eh, x.nm = n → v = x.val, fun n v h h' => by rw [h] at h'; cases h'⟩
def OH (eh : List Ent) (b : Nat) : Prop := ∃ x ∈ eh, blk x.val = some b
/-- Called with such arguments and handed these objects (names of a million and more), f returns: for one index of the family, these results, the objects with these contents, and new rows. -/
def MCalls {ι : Type} (P : Program) (f : FuncId) (args : List AV) (obs : List (Nat × AO)) (ok : ι → Prop) (rs : ι → List AV) (obs' rob : ι → List (Nat × AO)) : Prop :=
  (flatOs obs ∧ ∀ i, ok i → sameOs obs (obs' i) ∧ flatOs (obs' i)) ∧
  ∀ (w : World) (Zp : Nat → Prop) (eh : List Ent) (us : List Value), Mem P w (ZH Zp eh) (OH eh) eh w → eh.map Ent.key = obs → showsL w eh (Imm w (ZH Zp eh) (OH eh) eh w) args us →
    (∀ w', (callFunc f us.toArray).run P w' = .ok (.enter f us.toArray) w') ∧
    Calls P f us.toArray w fun e w' => ∃ i v en, (ok i ∧ boxB (rob i) = true) ∧ e = .returned v ∧ Mem P w (ZH Zp eh) (OH eh) en w' ∧ (en.map Ent.key).Perm (rob i ++ obs' i) ∧ (one (rs i)).shows w' en (Imm w (ZH Zp eh) (OH eh) en w') v
theorem flatOs_row : ∀ {l : List (Nat × AO)}, flatOs l → ∀ {n : Nat} {e : TypeId} {es : List (List D)} {d : Bool}, (n, AO.row e es d) ∈ l → flatE es = true
  | (m, .row e' es' d') :: l, h, n, e, es, d, hm => by
    rcases List.mem_cons.1 hm with e1 | hm
    · injection e1 with e1 e2; injection e2 with e2 e3 e4; subst e3; exact h.1
    · exact flatOs_row h.2 hm
  | (m, .box e' cs) :: l, h, n, e, es, d, hm => by
    rcases List.mem_cons.1 hm with e1 | hm
    · injection e1 with e1 e2; cases e2
    · exact flatOs_row h.2 hm
theorem flatOs_box : ∀ {l : List (Nat × AO)}, flatOs l → ∀ {n : Nat} {e : TypeId} {cs : List AV}, (n, AO.box e cs) ∈ l → okpL (fun _ => false) cs = true
  | (m, .row e' es' d') :: l, h, n, e, cs, hm => by
    rcases List.mem_cons.1 hm with e1 | hm
    · injection e1 with e1 e2; cases e2
    · exact flatOs_box h.2 hm
  | (m, .box e' cs') :: l, h, n, e, cs, hm => by
    rcases List.mem_cons.1 hm with e1 | hm
    · injection e1 with e1 e2; injection e2 with e2 e3; subst e3; exact h.1
    · exact flatOs_box h.2 hm
theorem sameOs_l : ∀ {l l' : List (Nat × AO)}, sameOs l l' → ∀ {x : Nat × AO}, x ∈ l → ∃ y ∈ l', y.1 = x.1 ∧ y.2.isRow = x.2.isRow ∧ y.2.lens = x.2.lens
  | (n, x) :: l, (m, y) :: l', h, z, hz => by
    rcases List.mem_cons.1 hz with rfl | hz
    · exact ⟨(m, y), List.mem_cons_self, h.1.1.symm, h.1.2.1.symm, h.1.2.2.symm⟩
    · obtain ⟨q, h1, h2⟩ := sameOs_l h.2 hz
      exact ⟨q, List.mem_cons_of_mem _ h1, h2⟩
theorem sameOs_names : ∀ {l l' : List (Nat × AO)}, sameOs l l' → l'.map Prod.fst = l.map Prod.fst
  | [], [], _ => rfl
  | (n, x) :: l, (m, y) :: l', h => by simp only [List.map_cons, sameOs_names h.2, h.1.1]
/-- Contents that speak of no object. -/
theorem shows_closed {w w' : World} {en en' : List Ent} {I I' : Nat → Prop} (hs : w.heap.size ≤ w'.heap.size) (hS : ∀ b, I b → Same w w' b) (hI : ∀ b, I b → I' b) {xs : List AV} {us : List Value} (hc : okpL (fun _ => false) xs = true) (h : showsL w en I xs us) : showsL w' en' I' xs us := by
  have := showsL_cut (p := fun _ => false) (en' := en') hs hS hI (fun _ _ h => by cases h) xs us h
  rwa [cutL_ok xs hc] at this
theorem nm_unique : ∀ {en : List Ent}, (en.map Ent.nm).Nodup → ∀ {x y : Ent}, x ∈ en → y ∈ en → x.nm = y.nm → x = y
  | a :: en, h, x, y, hx, hy, he => by
    simp only [List.map_cons, List.nodup_cons, List.mem_map, not_exists, not_and] at h
    rcases List.mem_cons.1 hx with rfl | hx' <;> rcases List.mem_cons.1 hy with rfl | hy'
    · rfl
    · exact absurd he.symm (h.1 y hy')
    · exact absurd he (h.1 x hx')
    · exact nm_unique h.2 hx' hy' he

mutual
/-- A result that speaks of data and of its own n objects. -/
def AV.na2 (n : Nat) : AV → Bool
  | .d _ => true
  | .nil => true
  | .row i => Nat.blt i n
  | .ptr i _ => Nat.blt i n
  | .agg xs => naL2 n xs
  | .tup xs => naL2 n xs
  | _ => false
def naL2 (n : Nat) : List AV → Bool
  | [] => true
  | x :: xs => x.na2 n && naL2 n xs
end
mutual
def AV.ren2 (ρ : List Nat) : AV → AV
  | .row i => .row (ρ.getD i 0)
  | .ptr i o => .ptr (ρ.getD i 0) o
  | .agg xs => .agg (renL2 ρ xs)
  | .tup xs => .tup (renL2 ρ xs)
  | x => x
def renL2 (ρ : List Nat) : List AV → List AV
  | [] => []
  | x :: xs => x.ren2 ρ :: renL2 ρ xs
end
theorem one_ren2 (ρ : List Nat) (rs : List AV) : (one rs).ren2 ρ = one (renL2 ρ rs) := by
  match rs with
  | [] => rfl
  | [x] => rfl
  | x :: y :: zs => rfl
theorem one_na2 (n : Nat) (rs : List AV) (h : naL2 n rs = true) : (one rs).na2 n = true := by
  match rs, h with
  | [], _ => rfl
  | [x], h => simpa [naL2, one] using h
  | x :: y :: zs, h => exact h
section
variable {w : World} {en en' : List Ent} {I I' : Nat → Prop} {n : Nat} {ρ : List Nat}
mutual
theorem AV.shows_ren2 (hI : ∀ b, I b → I' b) (he : ∀ i, i < n → ∀ x ∈ en, x.nm = ρ.getD i 0 → ∃ y ∈ en', y.nm = i ∧ y.val = x.val ∧ y.ao.isRow = x.ao.isRow) :
    ∀ (x : AV) (u : Value), x.na2 n = true → (x.ren2 ρ).shows w en I u → x.shows w en' I' u
  | .d x, u, _, h => by
    obtain ⟨F, h1, h2⟩ := h
    exact ⟨F, h1, fun b hb => hI b (h2 b hb)⟩
  | .nil, _, _, h => h
  | .row i, u, hn, h => by
    obtain ⟨x, hx, h1, h2, h3⟩ := h
    obtain ⟨y, hy, g1, g2, g3⟩ := he i (blt_spec hn) x hx h1
    exact ⟨y, hy, g1, by rw [g3]; exact h2, by rw [g2]; exact h3⟩
  | .ptr i off, u, hn, h => by
    obtain ⟨x, hx, h1, h2, g, h3, h4⟩ := h
    obtain ⟨y, hy, g1, g2, g3⟩ := he i (blt_spec hn) x hx h1
    exact ⟨y, hy, g1, by rw [g3]; exact h2, g, by rw [g2]; exact h3, h4⟩
  | .agg xs, u, hn, h => by
    obtain ⟨us, h1, h2⟩ := h
    exact ⟨us, h1, showsL_ren2 hI he xs us hn h2⟩
  | .tup xs, u, hn, h => by
    obtain ⟨us, h1, h2⟩ := h
    exact ⟨us, h1, showsL_ren2 hI he xs us hn h2⟩
theorem showsL_ren2 (hI : ∀ b, I b → I' b) (he : ∀ i, i < n → ∀ x ∈ en, x.nm = ρ.getD i 0 → ∃ y ∈ en', y.nm = i ∧ y.val = x.val ∧ y.ao.isRow = x.ao.isRow) :
    ∀ (xs : List AV) (us : List Value), naL2 n xs = true → showsL w en I (renL2 ρ xs) us → showsL w en' I' xs us
  | [], _, _, h => h
  | x :: xs, us, hn, h => by
    obtain ⟨u, us', rfl, h1, h2⟩ := h
    simp only [naL2, Bool.and_eq_true] at hn
    exact ⟨u, us', rfl, AV.shows_ren2 hI he x u hn.1 h1, showsL_ren2 hI he xs us' hn.2 h2⟩
end
end
def robOk2 (σ : AS) : List Nat → Nat → List (Nat × AO) → Prop
  | [], _, [] => True
  | p :: ρ, i, (j, .row e es d) :: rob => (Nat.beq i j = true ∧ d = true) ∧ lookO σ.ob p = some (.row e es true) ∧ robOk2 σ ρ (i + 1) rob
  | p :: ρ, i, (j, .box e cs) :: rob => Nat.beq i j = true ∧ lookO σ.ob p = some (.box e cs) ∧ robOk2 σ ρ (i + 1) rob
  | _, _, _ => False
theorem robOk2_cons {σ : AS} {p i j : Nat} {ρ : List Nat} {ao : AO} {rob : List (Nat × AO)} (h : robOk2 σ (p :: ρ) i ((j, ao) :: rob)) : i = j ∧ lookO σ.ob p = some ao ∧ (ao.isRow = true → ao.deep = true) ∧ robOk2 σ ρ (i + 1) rob := by
  cases ao with
  | row e es d =>
    obtain ⟨⟨h1, rfl⟩, h2, h3⟩ := h
    exact ⟨(beq_spec _ _).1 h1, h2, fun _ => rfl, h3⟩
  | box e cs =>
    obtain ⟨h1, h2, h3⟩ := h
    exact ⟨(beq_spec _ _).1 h1, h2, fun h => (by cases h), h3⟩
theorem ent_fs {P : Program} {Fr : Nat → Prop} {w : World} {en : List Ent} {I : Nat → Prop} {x : Ent} (h : EntOk P Fr w en I x) (hr : x.ao.isRow = false) : x.fs = [] := by
  unfold EntOk at h
  split at h
  · rename_i hao
    rw [hao] at hr; cases hr
  · exact h.1
/-- The entries of the objects that are handed out. -/
theorem rob_ents2 {X : Cx} {σ : AS} {a : Act} {w : World} {en : List Ent} (h : Rel1 X σ a w en) : ∀ (ρ : List Nat) (i : Nat) (rob : List (Nat × AO)), ρ.Nodup → robOk2 σ ρ i rob →
    ∃ er : List Ent, er.map Ent.key = rob ∧ (∀ y ∈ er, ∃ x ∈ en, x.nm ∈ ρ ∧ y = { x with nm := y.nm } ∧ (x.ao.isRow = true → x.ao.deep = true)) ∧
      (er.Pairwise fun y z => ∀ b, blk y.val = some b → blk z.val ≠ some b) ∧ (er.Pairwise fun y z => ∀ b ∈ y.fs, b ∉ z.fs) ∧
      (∀ j, j < ρ.length → ∀ x ∈ en, x.nm = ρ.getD j 0 → ∃ y ∈ er, y.nm = i + j ∧ y.val = x.val ∧ y.ao.isRow = x.ao.isRow) ∧ (∀ y ∈ er, i ≤ y.nm)
      ∧ (er.map Ent.nm).Nodup
  | [], i, [], _, _ => ⟨[], rfl, by simp, by simp, by simp, by simp, by simp, by simp⟩
  | p :: ρ, i, (j', ao) :: rob', hn, hr => by
    obtain ⟨hj, h1, hdp, h2⟩ := robOk2_cons hr
    subst hj
    rw [List.nodup_cons] at hn
    obtain ⟨er, g1, g2, g3, g4, g5, g6, g7⟩ := rob_ents2 h ρ (i + 1) rob' hn.2 h2
    obtain ⟨x, hx, hxn, hxa⟩ := h.ent h1
    refine ⟨{ x with nm := i } :: er, by simp [Ent.key, hxa, ← g1], ?_, ?_, ?_, ?_, ?_, ?_⟩
    · intro y hy
      rcases List.mem_cons.1 hy with rfl | hy
      · exact ⟨x, hx, by simp [hxn], rfl, by rw [hxa]; exact hdp⟩
      · obtain ⟨z, k1, k2, k3⟩ := g2 y hy
        exact ⟨z, k1, List.mem_cons_of_mem _ k2, k3⟩
    · rw [List.pairwise_cons]
      refine ⟨fun y hy b hb => ?_, g3⟩
      obtain ⟨z, k1, k2, k3, _⟩ := g2 y hy
      rw [k3]
      exact h.mem.blk_ne hx k1 (fun e0 => hn.1 (by rw [← hxn, e0]; exact k2)) hb
    · rw [List.pairwise_cons]
      refine ⟨fun y hy b hb => ?_, g4⟩
      obtain ⟨z, k1, k2, k3, k5⟩ := g2 y hy
      rw [k3]
      cases hxr : x.ao.isRow with
      | false =>
        have : x.fs = [] := ent_fs (h.mem.ok x hx) hxr
        have hb' : b ∈ x.fs := hb
        rw [this] at hb'; cases hb'
      | true =>
        cases hzr : z.ao.isRow with
        | false =>
          have : z.fs = [] := ent_fs (h.mem.ok z k1) hzr
          show b ∉ z.fs
          rw [this]; exact fun h => by cases h
        | true => exact h.mem.apart_ne hx k1 (fun e0 => hn.1 (by rw [← hxn, e0]; exact k2)) (by rw [hxa] at hxr ⊢; exact hdp hxr) (k5 hzr) hb
    · intro j hj y hy hyn
      cases j with
      | zero =>
        simp only [List.getD_cons_zero] at hyn
        have := h.mem.ent_unique hx hy (hxn.trans hyn.symm)
        subst this
        exact ⟨_, List.mem_cons_self, rfl, rfl, rfl⟩
      | succ j =>
        simp only [List.getD_cons_succ] at hyn
        obtain ⟨z, k1, k2, k3⟩ := g5 j (by simpa using hj) y hy hyn
        exact ⟨z, List.mem_cons_of_mem _ k1, by omega, k3⟩
    · intro y hy
      rcases List.mem_cons.1 hy with rfl | hy
      · exact Nat.le_refl _
      · have := g6 y hy; omega
    · simp only [List.map_cons, List.nodup_cons]
      refine ⟨fun hm => ?_, g7⟩
      obtain ⟨y, hy, e0⟩ := List.mem_map.1 hm
      have := g6 y hy
      omega
/-! ### Return -/
def RetM {ι : Type} (X : Cx) (fn : Func) (rs : ι → List AV) (obs' rob : ι → List (Nat × AO)) (i : ι) (ρ : List Nat) (σ : AS) : Prop :=
  (nodupL ρ && naL2 ρ.length (rs i) && boxB (rob i) && (ρ.all fre0) && ((rob i).all fun y => fre0 y.1) && nodupN (obs' i) && ((obs' i).all fun y => !fre0 y.1)) = true ∧ resOk X σ fn.results.toList (renL2 ρ (rs i)) ∧ robOk2 σ ρ 0 (rob i) ∧ obLe σ (obs' i)
def retM {ι : Type} (X : Cx) (fn : Func) (ok : ι → Prop) (rs : ι → List AV) (obs' rob : ι → List (Nat × AO)) : Exit → AS → Prop
  | .normal, σ | .ret, σ => ∃ i ρ, ok i ∧ RetM X fn rs obs' rob i ρ σ
  | _, _ => False
theorem retM_intro {ι : Type} {X : Cx} {fn : Func} {ok : ι → Prop} {rs : ι → List AV} {obs' rob : ι → List (Nat × AO)} {σ : AS} (i : ι) (ρ : List Nat) (h0 : ok i)
    (h1 : (nodupL ρ && naL2 ρ.length (rs i) && boxB (rob i) && (ρ.all fre0) && ((rob i).all fun y => fre0 y.1) && nodupN (obs' i) && ((obs' i).all fun y => !fre0 y.1)) = true) (h2 : resOk X σ fn.results.toList (renL2 ρ (rs i))) (h3 : robOk2 σ ρ 0 (rob i)) (h4 : obLe σ (obs' i)) : retM X fn ok rs obs' rob .ret σ := ⟨i, ρ, h0, h1, h2, h3, h4⟩
theorem mret_of {ι : Type} {P : Program} {w0 : World} {Z : ZV fre0} {O : Nat → Prop} {tt : (T : TypeId) → Option (TI P T)} {fn : Func} {ok : ι → Prop} {rs : ι → List AV} {obs' rob : ι → List (Nat × AO)} {i : ι} {ρ : List Nat} {σ : AS} {a : Act} {w : World}
    (hok : ok i) (hfl : flatOs (obs' i)) (hr : RetM ⟨P, w0, fre0, Z, O, tt⟩ fn rs obs' rob i ρ σ) (h : Rel ⟨P, w0, fre0, Z, O, tt⟩ σ a w) :
    a.defers = [] ∧ ∃ v, (results fn a.tmps).run P w = .ok v w ∧ ∃ i v' en, (ok i ∧ boxB (rob i) = true) ∧ Ending.returned v = .returned v' ∧ Mem P w0 Z O en w ∧ (en.map Ent.key).Perm (rob i ++ obs' i) ∧ (one (rs i)).shows w en (Imm w0 Z O en w) v' := by
  obtain ⟨en, h1⟩ := h
  obtain ⟨r1, r3, r4, r5⟩ := hr
  simp only [Bool.and_eq_true] at r1
  obtain ⟨⟨⟨⟨⟨⟨q1, q2⟩, qb⟩, q3⟩, q4⟩, q5⟩, q6⟩ := r1
  obtain ⟨us, h2, h3⟩ := run_results h1 _ _ r3
  obtain ⟨er, g1, g2, g3, g4, g5, g6, g7⟩ := rob_ents2 h1 ρ 0 (rob i) (nodupL_spec q1) r4
  have m := h1.mem
  let p : Nat → Bool := fun n => hasN n (obs' i)
  let eo : List Ent := (en.filter fun y => p y.nm).map (Ent.cut p)
  have hle : σ.le ⟨σ.nt, [], obs' i⟩ := by
    refine ⟨rfl, trivial, r5, ?_⟩
    simp only [AS.closed, Bool.and_eq_true]
    refine ⟨⟨rfl, ?_⟩, q5⟩
    rw [List.all_eq_true]
    rintro ⟨n, ao⟩ hy
    cases ao with
    | row => rfl
    | box e cs =>
      have hc := flatOs_box hfl hy
      have key : ∀ {p q : Nat → Bool} (_ : ∀ n, p n = true → q n = true), (∀ (x : AV), x.okp p = true → x.okp q = true) ∧ ∀ (xs : List AV), okpL p xs = true → okpL q xs = true := fun {p q} hpq => by
        refine ⟨fun x => AV.rec (motive_1 := fun x => x.okp p = true → x.okp q = true) (motive_2 := fun xs => okpL p xs = true → okpL q xs = true) (fun _ => rfl) (fun _ _ => rfl) (fun _ => rfl) (fun o h => hpq o h) (fun o _ h => hpq o h) (fun o _ _ h => hpq o h) (fun _ _ _ => rfl) (fun xs ih h => ih h) (fun xs ih h => ih h) (fun _ => rfl) (fun x xs ih1 ih2 h => ?_) x, fun xs => AV.rec_1 (motive_1 := fun x => x.okp p = true → x.okp q = true) (motive_2 := fun xs => okpL p xs = true → okpL q xs = true) (fun _ => rfl) (fun _ _ => rfl) (fun _ => rfl) (fun o h => hpq o h) (fun o _ h => hpq o h) (fun o _ _ h => hpq o h) (fun _ _ _ => rfl) (fun xs ih h => ih h) (fun xs ih h => ih h) (fun _ => rfl) (fun x xs ih1 ih2 h => ?_) xs⟩
        all_goals
          simp only [okpL, Bool.and_eq_true] at h ⊢
          exact ⟨ih1 h.1, ih2 h.2⟩
      exact (key (p := fun _ => false) (q := fun n => hasN n (obs' i)) (fun _ h => by cases h)).2 cs hc
  have hτ := h1.le hle
  have hkey : (eo.map Ent.key).Perm (obs' i) := hτ.ob
  have hmo : ∀ {y : Ent}, y ∈ eo → ∃ z ∈ en, p z.nm = true ∧ y = z.cut p := by
    intro y hy
    obtain ⟨z, hz, rfl⟩ := List.mem_map.1 hy
    rw [List.mem_filter] at hz
    exact ⟨z, hz.1, hz.2, rfl⟩
  have hnr : ∀ y ∈ er, fre0 y.nm = true := fun y hy => by
    have : y.key ∈ rob i := g1 ▸ List.mem_map.2 ⟨y, hy, rfl⟩
    exact List.all_eq_true.1 q4 y.key this
  have hno : ∀ n, p n = true → fre0 n = false := fun n hn => by
    obtain ⟨y, hy, rfl⟩ := hasN_iff.1 hn
    have := List.all_eq_true.1 q6 y hy
    simpa using this
  have hρ : ∀ n ∈ ρ, fre0 n = true := List.all_eq_true.1 q3
  have hI : ∀ b, Imm w0 Z O en w b → Imm w0 Z O (er ++ eo) w b := fun b hb => ⟨hb.1, hb.2.1, fun y hy => by
    rcases List.mem_append.1 hy with hy | hy
    · obtain ⟨x, hx, _, e, _⟩ := g2 y hy
      rw [e]; exact hb.2.2 x hx
    · obtain ⟨z, hz, _, rfl⟩ := hmo hy
      exact hb.2.2 z hz⟩
  refine ⟨h1.defers, (if h : us.length = 1 then us[0] else .tuple us.toArray), ?_, i, _, er ++ eo, ⟨hok, qb⟩, rfl, ⟨m.os, m.tape, m.output, m.size, m.old, ?_, ?_, ?_, ?_, ?_⟩, ?_, ?_⟩
  · have e : results fn a.tmps = (do let vs ← fn.results.mapM (resVar a.tmps); pure (if h : vs.size = 1 then vs[0] else .tuple vs)) := rfl
    have e2 : fn.results.mapM (resVar a.tmps) = (do let l ← fn.results.toList.mapM (resVar a.tmps); pure l.toArray) := by
      rw [bind_pure_comp, ← List.mapM_toArray]
    rw [e, e2]
    simp only [Sem.run_bind, h2, Result.andThen, Sem.run_pure]
    simp
  · rw [List.map_append, List.nodup_append]
    refine ⟨g7, hτ.mem.names, fun n hn n' hn' e => ?_⟩
    subst e
    obtain ⟨y, hy, e1⟩ := List.mem_map.1 hn
    obtain ⟨z, hz, e2⟩ := List.mem_map.1 hn'
    obtain ⟨z', _, hz', rfl⟩ := hmo hz
    have h4 := hnr y hy
    have h5 := hno _ hz'
    rw [e1] at h4
    rw [show z'.nm = n from e2, h4] at h5
    cases h5
  · rw [List.pairwise_append]
    refine ⟨g3, hτ.mem.blks, fun y hy z hz b hb => ?_⟩
    obtain ⟨x, hx, hxn, e, _⟩ := g2 y hy
    obtain ⟨z', hz1, hz2, rfl⟩ := hmo hz
    rw [e] at hb
    exact m.blk_ne hx hz1 (fun e0 => by
      have h4 := hρ _ hxn
      have h5 := hno _ hz2
      rw [e0, h5] at h4; cases h4) hb
  · intro y hy
    rcases List.mem_append.1 hy with hy | hy
    · obtain ⟨x, hx, _, e, hdp⟩ := g2 y hy
      have hok := m.ok x hx
      unfold EntOk at hok
      split at hok
      · rename_i e1 es dp hao
        obtain ⟨z, vs, k0, k1, k2, k3, k4, k5, k6, k7⟩ := hok
        rw [e]
        unfold EntOk
        simp only [hao]
        exact ⟨z, vs, k0, k1, k2, k3, k4, fun b hb => hI b (k5 b hb), k6, k7⟩
      · rename_i e1 cs hao
        obtain ⟨k0, q, cur, k1, k2, k3, k4⟩ := hok
        have hc : okpL (fun _ => false) cs = true := boxB_spec qb (n := y.nm) (e := e1) (by
          rw [← g1]
          exact List.mem_map.2 ⟨y, hy, by rw [e]; exact congrArg (Prod.mk y.nm) hao⟩)
        rw [e]
        unfold EntOk
        simp only [hao]
        exact ⟨k0, q, cur, k1, k2, k3, shows_closed (Nat.le_refl _) (fun _ _ => rfl) hI hc k4⟩
    · obtain ⟨z, hz, hpz, rfl⟩ := hmo hy
      exact (m.ok z hz).mono (Nat.le_refl _) (fun _ _ => rfl) hI (fun _ hb => hb) (fun _ _ => rfl) (fun x hx hpx => ⟨x.cut p, List.mem_append_right _ (List.mem_map.2 ⟨x, List.mem_filter.2 ⟨hx, hpx⟩, rfl⟩), rfl, rfl, AO.cut_isRow p x.ao, AO.cut_lens p x.ao⟩)
  · rw [List.pairwise_append]
    refine ⟨g4.imp fun h _ _ => h, hτ.mem.apart, fun y hy z hz hdy hdz b hb => ?_⟩
    obtain ⟨x, hx, hxn, e, _⟩ := g2 y hy
    have hdx : x.ao.deep = true := by rw [e] at hdy; exact hdy
    obtain ⟨z', hz1, hz2, rfl⟩ := hmo hz
    rw [e] at hb
    exact m.apart_ne hx hz1 (fun e0 => by
      have h4 := hρ _ hxn
      have h5 := hno _ hz2
      rw [e0, h5] at h4; cases h4) hdx (by rw [← AO.cut_deep p]; exact hdz) hb
  · intro y hy
    rcases List.mem_append.1 hy with hy | hy
    · exact Z.lo _ _ (hnr y hy)
    · obtain ⟨z, hz, _, rfl⟩ := hmo hy
      exact m.fix z hz
  · rw [List.map_append, g1]
    exact List.Perm.append_left _ hkey
  · have key : (one (renL2 ρ (rs i))).shows w en (Imm w0 Z O en w) (if h : us.length = 1 then us[0] else .tuple us.toArray) := by
      generalize renL2 ρ (rs i) = vs at h3
      match vs, h3 with
      | [], h3 =>
        have : us = [] := h3
        subst this
        exact ⟨[], rfl, rfl⟩
      | [x], h3 =>
        obtain ⟨u, us', rfl, k1, k2⟩ := h3
        have : us' = [] := k2
        subst this
        exact k1
      | x :: y :: zs, h3 =>
        have : us.length ≠ 1 := by rw [showsL_length h3]; simp
        rw [dif_neg this]
        exact ⟨us, rfl, h3⟩
    rw [← one_ren2] at key
    exact AV.shows_ren2 hI (fun j hj x hx hn => by
      obtain ⟨y, hy, k1, k2⟩ := g5 j hj x hx hn
      exact ⟨y, List.mem_append_left _ hy, by omega, k2⟩) _ _ (one_na2 _ _ q2) key
theorem mcalls_of {ι : Type} {P : Program} (tt : (T : TypeId) → Option (TI P T)) {f : FuncId} {fn : Func} {c : Code} {args : List AV} {obs : List (Nat × AO)} {ok : ι → Prop} {rs : ι → List AV} {obs' rob : ι → List (Nat × AO)}
    (hf : P.funcs[f]? = some fn) (hname : (fn.name == "runtime.NumGoroutine") = false) (hb : fn.body = some c) (hn : Nat.ble args.length fn.ntmps = true) (hfl : flatOs obs) (hs : ∀ i, ok i → sameOs obs (obs' i) ∧ flatOs (obs' i))
    (h : ∀ (w0 : World) (Z : ZV fre0) (O : Nat → Prop), AWp ⟨P, w0, fre0, Z, O, tt⟩ c (retM ⟨P, w0, fre0, Z, O, tt⟩ fn ok rs obs' rob) ⟨fn.ntmps, argSl 0 args, obs⟩) : MCalls P f args obs ok rs obs' rob := by
  refine ⟨⟨hfl, hs⟩, ?_⟩
  intro w Zp eh us hm hkey hsh
  refine ⟨fun w' => Go.MuLone.run_callFunc_enter hf hname hb _ w', ?_⟩
  refine calls_of_wp hf hb ?_
  have hlen := showsL_length hsh
  have hle : us.length ≤ fn.ntmps := by rw [hlen]; exact Nat.le_of_ble_eq_true hn
  have hrel : Rel ⟨P, w, fre0, ZH Zp eh, OH eh, tt⟩ ⟨fn.ntmps, argSl 0 args, obs⟩ { tmps := us.toArray ++ Array.replicate (fn.ntmps - us.toArray.size) undef, defers := [] } w := by
    refine ⟨eh, hm, by rw [hkey], rfl, by simp; omega, fun t => ?_⟩
    simp only [look_argSl, Nat.zero_le, if_true, Nat.sub_zero]
    rw [Array.getD_eq_getD_getElem?]
    cases ht : args[t]? with
    | none => simp only [List.getD, ht, Option.getD_none]; trivial
    | some x =>
      obtain ⟨u, h1, h2⟩ := showsL_get hsh ht
      simp only [List.getD, ht, Option.getD_some]
      have hlt : t < us.length := (List.getElem?_eq_some_iff.1 h1).1
      have : (us.toArray ++ Array.replicate (fn.ntmps - us.toArray.size) undef)[t]? = some u := by
        rw [Array.getElem?_append_left (by simpa using hlt)]
        simpa using h1
      rw [this]
      exact h2
  refine wp_mono (h w (ZH Zp eh) (OH eh) _ w hrel) (fun e a' w' ⟨σ, hq, hr⟩ => ?_)
  cases e with
  | normal => obtain ⟨i, ρ, h0, hq⟩ := hq; exact mret_of h0 (hs i h0).2 hq hr
  | ret => obtain ⟨i, ρ, h0, hq⟩ := hq; exact mret_of h0 (hs i h0).2 hq hr
  | _ => exact hq.elim
end Go.Proofs.Ythmajaeekkbnnaa
