/-
  The walk over abstract states: the call of a function that writes what it is handed.
-/
import Derived.Test.YthmajaeekkbnnaaAbsW
namespace Go.Proofs.Ythmajaeekkbnnaa
open Go Go.RowKit

def idxN : List Nat → Nat → Nat → Option Nat
  | [], _, _ => none
  | q :: l, n, p => bif Nat.beq q p then some n else idxN l (n + 1) p
theorem idxN_spec : ∀ {l : List Nat} {n p k : Nat}, idxN l n p = some k → n ≤ k ∧ k - n < l.length ∧ l.getD (k - n) 0 = p
  | q :: l, n, p, k, h => by
    simp only [idxN] at h
    cases hq : Nat.beq q p with
    | true =>
      rw [hq] at h
      injection h with h
      subst h
      refine ⟨Nat.le_refl _, by simp, ?_⟩
      rw [Nat.sub_self]
      exact (beq_spec _ _).1 hq
    | false =>
      rw [hq] at h
      obtain ⟨h1, h2, h3⟩ := idxN_spec h
      have e : k - n = (k - (n + 1)) + 1 := by omega
      exact ⟨by omega, by simp only [List.length_cons]; omega, by rw [e]; exact h3⟩
mutual
/-- An argument under the callee's names. -/
def AV.handB (ρ : List Nat) : AV → Option AV
  | .d x => some (.d x)
  | .nil => some .nil
  | .row p => match idxN ρ 1000000 p with
    | some k => some (.row k)
    | none => none
  | .ptr p o => match idxN ρ 1000000 p with
    | some k => some (.ptr k o)
    | none => none
  | .agg xs => match handBL ρ xs with
    | some ys => some (.agg ys)
    | none => none
  | _ => none
def handBL (ρ : List Nat) : List AV → Option (List AV)
  | [] => some []
  | x :: xs => match x.handB ρ with
    | some y => match handBL ρ xs with
      | some ys => some (y :: ys)
      | none => none
    | none => none
end
def AS.handA (σ : AS) (ρ : List Nat) : List Operand → Option (List AV)
  | [] => some []
  | x :: xs => match (σ.ev x).handB ρ with
    | some y => match σ.handA ρ xs with
      | some ys => some (y :: ys)
      | none => none
    | none => none
def AS.handed (σ : AS) : Nat → List Nat → Option (List (Nat × AO))
  | _, [] => some []
  | n, p :: ρ => match lookO σ.ob p with
    | some ao => match σ.handed (n + 1) ρ with
      | some l => some ((n, ao) :: l)
      | none => none
    | none => none
theorem handed_ents {X : Cx} {σ : AS} {a : Act} {w : World} {en : List Ent} (h : Rel1 X σ a w en) : ∀ (ρ : List Nat) (n : Nat) (obs : List (Nat × AO)), ρ.Nodup → σ.handed n ρ = some obs →
    ∃ eh : List Ent, eh.map Ent.key = obs ∧ (∀ y ∈ eh, ∃ x ∈ en, x.nm ∈ ρ ∧ y = { x with nm := y.nm } ∧ n ≤ y.nm ∧ ρ.getD (y.nm - n) 0 = x.nm) ∧ (eh.Pairwise fun y z => ∀ b, blk y.val = some b → blk z.val ≠ some b) ∧ (eh.map Ent.nm).Nodup ∧
      (∀ j, j < ρ.length → ∀ x ∈ en, x.nm = ρ.getD j 0 → { x with nm := n + j } ∈ eh) ∧ ∀ p ∈ ρ, ∃ x ∈ en, x.nm = p
  | [], n, obs, _, hr => by injection hr with hr; subst hr; exact ⟨[], rfl, by simp, by simp, by simp, by simp, by simp⟩
  | p :: ρ, n, obs, hn, hr => by
    simp only [AS.handed] at hr
    split at hr
    · rename_i ao hao
      split at hr
      · rename_i l hl
        injection hr with hr; subst hr
        rw [List.nodup_cons] at hn
        obtain ⟨eh, g1, g2, g3, g4, g5, g6⟩ := handed_ents h ρ (n + 1) l hn.2 hl
        obtain ⟨x, hx, hxn, hxa⟩ := h.ent hao
        refine ⟨{ x with nm := n } :: eh, by simp [Ent.key, hxa, ← g1], ?_, ?_, ?_, ?_, ?_⟩
        · intro y hy
          rcases List.mem_cons.1 hy with rfl | hy
          · exact ⟨x, hx, by simp [hxn], rfl, Nat.le_refl _, by simp [hxn]⟩
          · obtain ⟨z, k1, k2, k3, k4, k5⟩ := g2 y hy
            have e : y.nm - n = (y.nm - (n + 1)) + 1 := by omega
            exact ⟨z, k1, List.mem_cons_of_mem _ k2, k3, by omega, by rw [e]; exact k5⟩
        · rw [List.pairwise_cons]
          refine ⟨fun y hy b hb => ?_, g3⟩
          obtain ⟨z, k1, k2, k3, _⟩ := g2 y hy
          rw [k3]
          exact h.mem.blk_ne hx k1 (fun e0 => hn.1 (by rw [← hxn, e0]; exact k2)) hb
        · simp only [List.map_cons, List.nodup_cons]
          refine ⟨fun hm => ?_, g4⟩
          obtain ⟨y, hy, e0⟩ := List.mem_map.1 hm
          obtain ⟨_, _, _, _, k, _⟩ := g2 y hy
          omega
        · intro j hj y hy hyn
          cases j with
          | zero =>
            simp only [List.getD_cons_zero] at hyn
            have := h.mem.ent_unique hx hy (hxn.trans hyn.symm)
            subst this
            exact List.mem_cons_self
          | succ j =>
            simp only [List.getD_cons_succ] at hyn
            have := g5 j (by simpa using hj) y hy hyn
            rw [show n + (j + 1) = n + 1 + j by omega]
            exact List.mem_cons_of_mem _ this
        · intro q hq
          rcases List.mem_cons.1 hq with rfl | hq
          · exact ⟨x, hx, hxn⟩
          · exact g6 q hq
      · cases hr
    · cases hr
section
variable {w : World} {en eh : List Ent} {I I' : Nat → Prop} {ρ : List Nat}
mutual
theorem AV.shows_hand (hI : ∀ b, I b → I' b) (he : ∀ j, j < ρ.length → ∀ x ∈ en, x.nm = ρ.getD j 0 → { x with nm := 1000000 + j } ∈ eh) :
    ∀ (x y : AV) (u : Value), x.handB ρ = some y → x.shows w en I u → y.shows w eh I' u
  | .d x, y, u, hy, h => by
    injection hy with hy; subst hy
    obtain ⟨F, h1, h2⟩ := h
    exact ⟨F, h1, fun b hb => hI b (h2 b hb)⟩
  | .nil, y, u, hy, h => by injection hy with hy; subst hy; exact h
  | .row p, y, u, hy, h => by
    simp only [AV.handB] at hy
    split at hy
    · rename_i k hk
      injection hy with hy; subst hy
      obtain ⟨x, hx, rfl, h1, h2⟩ := h
      obtain ⟨k1, k2, k3⟩ := idxN_spec hk
      have := he _ k2 x hx k3.symm
      rw [show 1000000 + (k - 1000000) = k by omega] at this
      exact ⟨_, this, rfl, h1, h2⟩
    · cases hy
  | .ptr p o, y, u, hy, h => by
    simp only [AV.handB] at hy
    split at hy
    · rename_i k hk
      injection hy with hy; subst hy
      obtain ⟨x, hx, rfl, h1, g, h2, h3⟩ := h
      obtain ⟨k1, k2, k3⟩ := idxN_spec hk
      have := he _ k2 x hx k3.symm
      rw [show 1000000 + (k - 1000000) = k by omega] at this
      exact ⟨_, this, rfl, h1, g, h2, h3⟩
    · cases hy
  | .agg xs, y, u, hy, h => by
    simp only [AV.handB] at hy
    split at hy
    · rename_i ys hys
      injection hy with hy; subst hy
      obtain ⟨us, h1, h2⟩ := h
      exact ⟨us, h1, showsL_hand hI he xs ys us hys h2⟩
    · cases hy
  | .any, _, _, hy, _ => by cases hy
  | .pr _ _ _, _, _, hy, _ => by cases hy
  | .pd _ _, _, _, hy, _ => by cases hy
  | .tup _, _, _, hy, _ => by cases hy
theorem showsL_hand (hI : ∀ b, I b → I' b) (he : ∀ j, j < ρ.length → ∀ x ∈ en, x.nm = ρ.getD j 0 → { x with nm := 1000000 + j } ∈ eh) :
    ∀ (xs ys : List AV) (us : List Value), handBL ρ xs = some ys → showsL w en I xs us → showsL w eh I' ys us
  | [], ys, us, hy, h => by injection hy with hy; subst hy; exact h
  | x :: xs, ys, us, hy, h => by
    simp only [handBL] at hy
    split at hy
    · rename_i y hy1
      split at hy
      · rename_i ys' hys
        injection hy with hy; subst hy
        obtain ⟨u, us', rfl, h1, h2⟩ := h
        exact ⟨u, us', rfl, AV.shows_hand hI he x y u hy1 h1, showsL_hand hI he xs ys' us' hys h2⟩
      · cases hy
    · cases hy
end
end
theorem handA_shows {X : Cx} {σ : AS} {a : Act} {w : World} {en eh : List Ent} {I' : Nat → Prop} {ρ : List Nat} (h : Rel1 X σ a w en) (hI : ∀ b, IM X en w b → I' b) (he : ∀ j, j < ρ.length → ∀ x ∈ en, x.nm = ρ.getD j 0 → { x with nm := 1000000 + j } ∈ eh) :
    ∀ {xs : List Operand} {ys : List AV}, σ.handA ρ xs = some ys → showsL w eh I' ys (xs.map a.eval)
  | [], ys, hx => by injection hx with hx; subst hx; rfl
  | x :: xs, ys, hx => by
    simp only [AS.handA] at hx
    split at hx
    · rename_i y hy
      split at hx
      · rename_i zs hzs
        injection hx with hx; subst hx
        exact ⟨_, _, rfl, AV.shows_hand hI he _ _ _ hy (AS.ev_shows h x), handA_shows h hI he hzs⟩
      · cases hx
    · cases hx

/-! ### Back to the caller's names -/
/-- The caller's name for the callee's. -/
def backN (t : Nat) (ρ : List Nat) (n : Nat) : Nat := bif fre0 n then nameOf t n else ρ.getD (n - 1000000) 0
mutual
def AV.mapN (γ : Nat → Nat) : AV → AV
  | .row i => .row (γ i)
  | .agg xs => .agg (mapNL γ xs)
  | .tup xs => .tup (mapNL γ xs)
  | .any => .any
  | .d x => .d x
  | .nil => .nil
  | .ptr o i => .ptr (γ o) i
  | .pr o i j => .pr (γ o) i j
  | .pd e i => .pd e i
def mapNL (γ : Nat → Nat) : List AV → List AV
  | [] => []
  | x :: xs => x.mapN γ :: mapNL γ xs
end
section
variable {w : World} {en en' : List Ent} {I I' : Nat → Prop} {γ : Nat → Nat}
mutual
theorem AV.shows_mapN (hI : ∀ b, I b → I' b) (he : ∀ x ∈ en, ∃ y ∈ en', y.nm = γ x.nm ∧ y.val = x.val ∧ y.ao = x.ao) : ∀ (x : AV) (u : Value), x.shows w en I u → (x.mapN γ).shows w en' I' u
  | .any, _, _ => trivial
  | .d x, u, h => by
    obtain ⟨F, h1, h2⟩ := h
    exact ⟨F, h1, fun b hb => hI b (h2 b hb)⟩
  | .nil, _, h => h
  | .row o, u, h => by
    obtain ⟨x, hx, rfl, h1, h2⟩ := h
    obtain ⟨y, hy, g1, g2, g3⟩ := he x hx
    exact ⟨y, hy, g1, by rw [g3]; exact h1, by rw [g2]; exact h2⟩
  | .ptr o off, u, h => by
    obtain ⟨x, hx, rfl, h1, g, h2, h3⟩ := h
    obtain ⟨y, hy, g1, g2, g3⟩ := he x hx
    exact ⟨y, hy, g1, by rw [g3]; exact h1, g, by rw [g2]; exact h2, h3⟩
  | .pr o i off, u, h => by
    obtain ⟨x, hx, rfl, h1, g, z, h2, h3, h4, h5⟩ := h
    obtain ⟨y, hy, g1, g2, g3⟩ := he x hx
    exact ⟨y, hy, g1, by rw [g3]; exact h1, g, z, by rw [g2]; exact h2, by rw [g3]; exact h3, by rw [g3]; exact h4, h5⟩
  | .pd e off, u, h => by
    obtain ⟨b, o, us, F, h1, h2, h3, h4, h5⟩ := h
    exact ⟨b, o, us, F, h1, h2, h3, hI b h4, fun c hc => hI c (h5 c hc)⟩
  | .agg xs, u, h => by
    obtain ⟨us, h1, h2⟩ := h
    exact ⟨us, h1, showsL_mapN hI he xs us h2⟩
  | .tup xs, u, h => by
    obtain ⟨us, h1, h2⟩ := h
    exact ⟨us, h1, showsL_mapN hI he xs us h2⟩
theorem showsL_mapN (hI : ∀ b, I b → I' b) (he : ∀ x ∈ en, ∃ y ∈ en', y.nm = γ x.nm ∧ y.val = x.val ∧ y.ao = x.ao) : ∀ (xs : List AV) (us : List Value), showsL w en I xs us → showsL w en' I' (mapNL γ xs) us
  | [], _, h => h
  | x :: xs, us, h => by
    obtain ⟨u, us', h1, h2, h3⟩ := h
    exact ⟨u, us', h1, AV.shows_mapN hI he x u h2, showsL_mapN hI he xs us' h3⟩
end
end
def backO : List Nat → List (Nat × AO) → List (Nat × AO)
  | p :: ρ, (_, ao) :: l => (p, ao) :: backO ρ l
  | _, _ => []
def inN (ρ : List Nat) (p : Nat) : Bool := ρ.any fun q => Nat.beq q p
theorem inN_iff {ρ : List Nat} {p : Nat} : inN ρ p = true ↔ p ∈ ρ := by
  unfold inN
  rw [List.any_eq_true]
  exact ⟨fun ⟨q, h1, h2⟩ => (beq_spec _ _).1 h2 ▸ h1, fun h => ⟨p, h, (beq_spec _ _).2 rfl⟩⟩
def dropH (ρ : List Nat) (ob : List (Nat × AO)) : List (Nat × AO) := ob.filter fun y => !inN ρ y.1
theorem handed_names {σ : AS} : ∀ {ρ : List Nat} {n : Nat} {obs : List (Nat × AO)}, σ.handed n ρ = some obs → obs.map Prod.fst = (List.range' n ρ.length)
  | [], n, obs, h => by injection h with h; subst h; rfl
  | p :: ρ, n, obs, h => by
    simp only [AS.handed] at h
    split at h
    · split at h
      · rename_i l hl
        injection h with h; subst h
        simp only [List.map_cons, handed_names hl, List.length_cons, List.range'_succ]
      · cases h
    · cases h
theorem backO_map {t : Nat} {ρ0 : List Nat} : ∀ {ρ : List Nat} {n : Nat} {l : List (Nat × AO)}, l.map Prod.fst = List.range' n ρ.length → 1000000 ≤ n → (∀ j, j < ρ.length → ρ0.getD (n + j - 1000000) 0 = ρ.getD j 0) → backO ρ l = l.map fun y => (backN t ρ0 y.1, y.2)
  | [], n, [], _, _, _ => rfl
  | p :: ρ, n, (m, ao) :: l, h, hn, hg => by
    simp only [List.map_cons, List.length_cons, List.range'_succ, List.cons.injEq] at h
    obtain ⟨rfl, h⟩ := h
    have h0 := hg 0 (by simp)
    have h1 : fre0 m = false := by unfold fre0; rw [← Bool.not_eq_true, Nat.blt_eq]; omega
    simp only [backO, List.map_cons, List.cons.injEq, Prod.mk.injEq, and_true]
    refine ⟨?_, backO_map h (by omega) (fun j hj => ?_)⟩
    · unfold backN
      rw [h1]
      exact h0.symm
    · have := hg (j + 1) (by simpa using hj)
      rw [show m + (j + 1) = m + 1 + j by omega] at this
      exact this
theorem shiftO_back {t : Nat} {ρ : List Nat} : ∀ {l : List (Nat × AO)}, (l.all fun y => fre0 y.1) = true → shiftO t l = l.map fun y => (backN t ρ y.1, y.2)
  | [], _ => rfl
  | (n, ao) :: l, h => by
    simp only [List.all_cons, Bool.and_eq_true] at h
    have h1 : backN t ρ n = nameOf t n := by unfold backN; rw [h.1]; rfl
    rw [shiftO, List.map_cons, shiftO_back (ρ := ρ) h.2, h1]
/-- The caller's names for new objects are free. -/
def freshX (f : Nat → Bool) (t : Nat) (ob : List (Nat × AO)) : List (Nat × AO) → Bool
  | [] => true
  | (i, _) :: l => freeN f (nameOf t i) ob && freshX f t ob l
theorem freshX_spec {f : Nat → Bool} {t : Nat} {ob : List (Nat × AO)} : ∀ {l : List (Nat × AO)}, freshX f t ob l = true → ∀ y ∈ l, freeN f (nameOf t y.1) ob = true
  | (i, ao) :: l, h, y, hy => by
    simp only [freshX, Bool.and_eq_true] at h
    rcases List.mem_cons.1 hy with rfl | hy
    · exact h.1
    · exact freshX_spec h.2 y hy
/-- Behind such a call. -/
theorem Rel1.mmerge {X : Cx} {σ : AS} {a : Act} {w w' : World} {en eh er : List Ent} {t : Nat} {ρ : List Nat} {obs obs' rob : List (Nat × AO)} {r : AV} {v : Value} (h : Rel1 X σ a w en) (hρ : ρ.Nodup) (hob : σ.handed 1000000 ρ = some obs)
    (g1 : eh.map Ent.key = obs) (g2 : ∀ y ∈ eh, ∃ x ∈ en, x.nm ∈ ρ ∧ y = { x with nm := y.nm } ∧ 1000000 ≤ y.nm ∧ ρ.getD (y.nm - 1000000) 0 = x.nm) (g5 : ∀ j, j < ρ.length → ∀ x ∈ en, x.nm = ρ.getD j 0 → { x with nm := 1000000 + j } ∈ eh) (g6 : ∀ p ∈ ρ, ∃ x ∈ en, x.nm = p)
    (m : Mem X.P w (ZH (IM X en w) eh) (OH eh) er w') (hk : (er.map Ent.key).Perm (rob ++ obs')) (hr : r.shows w' er (Imm w (ZH (IM X en w) eh) (OH eh) er w') v) (hsame : sameOs obs obs') (hflat : flatOs obs')
    (hf : freshX X.fre t σ.ob rob = true) (hbx : boxB rob = true) (hr0 : (rob.all fun y => fre0 y.1) = true) (ht : Nat.blt t σ.nt = true) : Rel X ⟨σ.nt, (t, r.mapN (backN t ρ)) :: σ.sl, shiftO t rob ++ (backO ρ obs' ++ dropH ρ σ.ob)⟩ (a.put (some t) v) w' := by
  have m0 := h.mem
  have hnames := (sameOs_names hsame).trans (handed_names hob)
  let g : Ent → Ent := fun y => { y with nm := backN t ρ y.nm }
  let rest : List Ent := en.filter fun x => !inN ρ x.nm
  have hrest : ∀ {x : Ent}, x ∈ rest ↔ x ∈ en ∧ x.nm ∉ ρ := by
    intro x
    simp only [rest, List.mem_filter, Bool.not_eq_true', ← Bool.not_eq_true, inN_iff]
  have hlt : ∀ y ∈ en, ∀ b, blk y.val = some b → b < w.heap.size := fun y hy b hb => ((m0.ok y hy).lt hb).1
  have hOH : ∀ b, OH eh b → ∃ x ∈ en, x.nm ∈ ρ ∧ blk x.val = some b := fun b ⟨y, hy, hb⟩ => by
    obtain ⟨x, hx, hxn, e, _⟩ := g2 y hy
    rw [e] at hb
    exact ⟨x, hx, hxn, hb⟩
  have hfo : ∀ y ∈ obs', fre0 y.1 = false ∧ 1000000 ≤ y.1 ∧ y.1 - 1000000 < ρ.length := fun y hy => by
    have : y.1 ∈ List.range' 1000000 ρ.length := hnames ▸ List.mem_map.2 ⟨y, hy, rfl⟩
    rw [List.mem_range'_1] at this
    refine ⟨by unfold fre0; rw [← Bool.not_eq_true, Nat.blt_eq]; omega, this.1, by omega⟩
  -- the callee's entries at the end: new rows, or what was handed
  have hcase : ∀ y ∈ er, (fre0 y.nm = true ∧ y.key ∈ rob ∧ True ∧ freeN X.fre (nameOf t y.nm) σ.ob = true) ∨ (fre0 y.nm = false ∧ y.key ∈ obs' ∧ ∃ x ∈ en, x.nm ∈ ρ ∧ y.val = x.val ∧ backN t ρ y.nm = x.nm) := fun y hy => by
    have hm := hk.mem_iff.1 (List.mem_map.2 ⟨y, hy, rfl⟩)
    rcases List.mem_append.1 hm with hm | hm
    · have h1 := freshX_spec hf y.key hm
      exact .inl ⟨List.all_eq_true.1 hr0 y.key hm, hm, trivial, h1⟩
    · obtain ⟨k1, k2, k3⟩ : fre0 y.nm = false ∧ 1000000 ≤ y.nm ∧ y.nm - 1000000 < ρ.length := hfo _ hm
      obtain ⟨z, hz, hzn⟩ := g6 (ρ.getD (y.nm - 1000000) 0) (by rw [List.getD_eq_getElem?_getD, List.getElem?_eq_getElem k3]; exact List.getElem_mem k3)
      have h2 := g5 _ k3 z hz hzn
      have e1 : 1000000 + (y.nm - 1000000) = y.nm := by omega
      have h3 := m.fix y hy k1 _ h2 e1
      refine .inr ⟨k1, hm, z, hz, ?_, h3, ?_⟩
      · rw [hzn, List.getD_eq_getElem?_getD, List.getElem?_eq_getElem k3]; exact List.getElem_mem k3
      · unfold backN
        rw [show fre0 y.nm = false from k1]
        exact hzn.symm
  have hhand : ∀ x ∈ en, x.nm ∈ ρ → ∃ y ∈ er, fre0 y.nm = false ∧ y.val = x.val ∧ backN t ρ y.nm = x.nm ∧ y.ao.isRow = x.ao.isRow ∧ y.ao.lens = x.ao.lens := fun x hx hxρ => by
    obtain ⟨j, hj, e⟩ := List.getElem_of_mem hxρ
    have e' : x.nm = ρ.getD j 0 := by rw [List.getD_eq_getElem?_getD, List.getElem?_eq_getElem hj, ← e]; rfl
    have h1 := g5 j hj x hx e'
    have h2 : ((1000000 + j, x.ao) : Nat × AO) ∈ obs := g1 ▸ List.mem_map.2 ⟨_, h1, rfl⟩
    obtain ⟨y', hy', k1, k2, k3⟩ := sameOs_l hsame h2
    have h3 := hk.mem_iff.2 (List.mem_append_right rob hy')
    obtain ⟨y, hy, e2⟩ := List.mem_map.1 h3
    have hf1 := (hfo _ hy').1
    have hyn : y.nm = 1000000 + j := by have := congrArg Prod.fst e2; exact this.trans k1
    have hya : y.ao = y'.2 := congrArg Prod.snd e2
    have hf2 : fre0 y.nm = false := by rw [hyn]; rw [k1] at hf1; exact hf1
    have hv : y.val = x.val := m.fix y hy hf2 ⟨1000000 + j, x.ao, x.val, x.fs⟩ h1 hyn.symm
    refine ⟨y, hy, hf2, hv, ?_, by rw [hya]; exact k2, by rw [hya]; exact k3⟩
    unfold backN
    rw [hf2, hyn]
    rw [show 1000000 + j - 1000000 = j by omega]
    exact e'.symm
  have hnew : ∀ y ∈ er, fre0 y.nm = true → ∀ b, blk y.val = some b → w.heap.size ≤ b := fun y hy hyf b hb => by
    rcases ((m.ok y hy).lt hb).2 with h1 | h1
    · obtain ⟨x, hx, hxρ, hb'⟩ := hOH b h1
      obtain ⟨z, hz, k1, k2, _⟩ := hhand x hx hxρ
      exfalso
      exact m.blk_ne hy hz (fun e => by rw [e, k1] at hyf; cases hyf) hb (by rw [k2]; exact hb')
    · exact h1
  have hrestO : ∀ z ∈ rest, ∀ b, blk z.val = some b → ¬ OH eh b := fun z hz b hb hO => by
    obtain ⟨x, hx, hxρ, hb'⟩ := hOH b hO
    rw [hrest] at hz
    exact m0.blk_ne hx hz.1 (fun e => hz.2 (e ▸ hxρ)) hb' hb
  have hIO : ∀ b, IM X en w b → ¬ OH eh b := fun b hb hO => by
    obtain ⟨x, hx, _, hb'⟩ := hOH b hO
    exact hb.2.2 x hx hb'
  have hS : ∀ b, IM X en w b → Same w w' b := fun b hb => m.old b hb.2.1 (hIO b hb)
  have hFO : ∀ b, OH eh b → Frs X.w0 X.O b := fun b hO => by
    obtain ⟨x, hx, _, hb⟩ := hOH b hO
    exact ((m0.ok x hx).lt hb).2
  have hFr : ∀ b, Frs w (OH eh) b → Frs X.w0 X.O b := fun b hb => by
    rcases hb with hb | hb
    · exact hFO b hb
    · exact .inr (Nat.le_trans m0.size hb)
  have hI0 : ∀ b, IM X en w b → Imm X.w0 X.Z X.O (er.map g ++ rest) w' b := fun b hb => ⟨hb.1, Nat.lt_of_lt_of_le hb.2.1 m.size, fun y hy => by
    rcases List.mem_append.1 hy with hy | hy
    · obtain ⟨z, hz, rfl⟩ := List.mem_map.1 hy
      intro e
      rcases hcase z hz with ⟨k1, _⟩ | ⟨_, _, x, hx, _, k2, _⟩
      · have := hnew z hz k1 b e
        have := hb.2.1
        omega
      · exact hb.2.2 x hx (k2 ▸ e)
    · exact hb.2.2 y (hrest.1 hy).1⟩
  have hIr : ∀ b, Imm w (ZH (IM X en w) eh) (OH eh) er w' b → Imm X.w0 X.Z X.O (er.map g ++ rest) w' b := fun b hb => by
    have hnO : ¬ OH eh b := fun hO => by
      obtain ⟨x, hx, hxρ, hb'⟩ := hOH b hO
      obtain ⟨z, hz, _, k2, _⟩ := hhand x hx hxρ
      exact hb.2.2 z hz (by rw [k2]; exact hb')
    refine ⟨?_, hb.2.1, fun y hy => ?_⟩
    · rcases hb.1 with h1 | h1 | h1
      · exact (show IM X en w b from h1).1
      · exact absurd h1 hnO
      · exact .inr (.inr (Nat.le_trans m0.size h1))
    · rcases List.mem_append.1 hy with hy | hy
      · obtain ⟨z, hz, rfl⟩ := List.mem_map.1 hy
        exact hb.2.2 z hz
      · intro e
        have h2 := hlt y (hrest.1 hy).1 b e
        rcases hb.1 with h1 | h1 | h1
        · exact (show IM X en w b from h1).2.2 y (hrest.1 hy).1 e
        · exact hnO h1
        · omega
  have hL : ∀ x ∈ en, ∃ y ∈ er.map g ++ rest, Like x y := fun x hx => by
    by_cases hxρ : x.nm ∈ ρ
    · obtain ⟨y, hy, _, k2, k3, k4, k5⟩ := hhand x hx hxρ
      exact ⟨g y, List.mem_append_left _ (List.mem_map.2 ⟨y, hy, rfl⟩), k3, k2, k4, k5⟩
    · exact ⟨x, List.mem_append_right _ (hrest.2 ⟨hx, hxρ⟩), rfl, rfl, rfl, rfl⟩
  have hinj : ∀ x ∈ er, ∀ y ∈ er, backN t ρ x.nm = backN t ρ y.nm → x.nm = y.nm := fun x hx y hy e => by
    have hfresh : ∀ x ∈ er, ∀ y ∈ er, fre0 x.nm = true → freeN X.fre (nameOf t x.nm) σ.ob = true → (∃ z ∈ en, z.nm ∈ ρ ∧ backN t ρ y.nm = z.nm) → backN t ρ x.nm = backN t ρ y.nm → False := fun x _ y _ k1 k2 ⟨z, hz, _, k3⟩ e => by
      have h3 := (freeN_spec k2).1
      have : hasN (nameOf t x.nm) σ.ob = true := hasN_iff.2 ⟨z.key, h.ob.mem_iff.1 (List.mem_map.2 ⟨z, hz, rfl⟩), by
        have : backN t ρ x.nm = nameOf t x.nm := by unfold backN; rw [k1]; rfl
        rw [← this, e, k3]; rfl⟩
      rw [h3] at this; cases this
    rcases hcase x hx with ⟨k1, _, _, k2⟩ | ⟨k1, k2, z, hz, hzρ, k3, k4⟩ <;> rcases hcase y hy with ⟨l1, _, _, l2⟩ | ⟨l1, l2, q, hq, hqρ, l3, l4⟩
    · unfold backN at e
      rw [k1, l1] at e
      exact nameOf_inj e
    · exact (hfresh x hx y hy k1 k2 ⟨q, hq, hqρ, l4⟩ e).elim
    · exact (hfresh y hy x hx l1 l2 ⟨z, hz, hzρ, k4⟩ e.symm).elim
    · obtain ⟨_, a2, a3⟩ := hfo _ k2
      obtain ⟨_, b2, b3⟩ := hfo _ l2
      have a2' : 1000000 ≤ x.nm := a2
      have a3' : x.nm - 1000000 < ρ.length := a3
      have b2' : 1000000 ≤ y.nm := b2
      have b3' : y.nm - 1000000 < ρ.length := b3
      unfold backN at e
      rw [k1, l1] at e
      simp only [cond_false, List.getD_eq_getElem?_getD, List.getElem?_eq_getElem a3', List.getElem?_eq_getElem b3', Option.getD_some] at e
      have := (List.getElem_inj (h₀ := a3') (h₁ := b3') hρ).1 e
      omega
  have hmem : Mem X.P X.w0 X.Z X.O (er.map g ++ rest) w' := by
    refine ⟨m.os.trans m0.os, m.tape.trans m0.tape, m.output.trans m0.output, Nat.le_trans m0.size m.size, fun b hb hO => (m.old b (Nat.lt_of_lt_of_le hb m0.size) fun hO' => ?_).trans (m0.old b hb hO), ?_, ?_, ?_, ?_, fun y hy => ?_⟩
    · rcases hFO b hO' with h1 | h1
      · exact hO h1
      · omega
    · rw [List.map_append, List.nodup_append]
      refine ⟨?_, List.Nodup.sublist (List.Sublist.map _ List.filter_sublist) m0.names, ?_⟩
      · rw [List.map_map]
        have h3 := m.names
        unfold List.Nodup at h3 ⊢
        rw [List.pairwise_map] at h3 ⊢
        exact h3.imp_of_mem fun hx hy hxy e => hxy (hinj _ hx _ hy e)
      · intro n hn n' hn' e
        subst e
        obtain ⟨y, hy, e1⟩ := List.mem_map.1 hn
        obtain ⟨z, hz, rfl⟩ := List.mem_map.1 hy
        obtain ⟨q, hq, e2⟩ := List.mem_map.1 hn'
        rw [hrest] at hq
        have e3 : backN t ρ z.nm = q.nm := e1.trans e2.symm
        rcases hcase z hz with ⟨k1, _, _, k2⟩ | ⟨_, _, x, hx, hxρ, _, k4⟩
        · have h3 := (freeN_spec k2).1
          have : hasN (nameOf t z.nm) σ.ob = true := hasN_iff.2 ⟨q.key, h.ob.mem_iff.1 (List.mem_map.2 ⟨q, hq.1, rfl⟩), by
            have : backN t ρ z.nm = nameOf t z.nm := by unfold backN; rw [k1]; rfl
            rw [← this, e3]; rfl⟩
          rw [h3] at this; cases this
        · exact hq.2 (by rw [← e3, k4]; exact hxρ)
    · rw [List.pairwise_append]
      refine ⟨List.Pairwise.map _ (fun x y hxy => hxy) m.blks, List.Pairwise.sublist List.filter_sublist m0.blks, fun y hy z hz b hb hb' => ?_⟩
      obtain ⟨q, hq, rfl⟩ := List.mem_map.1 hy
      have hz' := hrest.1 hz
      rcases hcase q hq with ⟨k1, _⟩ | ⟨_, _, x, hx, hxρ, k2, _⟩
      · have h1 := hnew q hq k1 b hb
        have h2 := hlt z hz'.1 b hb'
        omega
      · have hb2 : blk q.val = some b := hb
        exact m0.blk_ne hx hz'.1 (fun e => hz'.2 (e ▸ hxρ)) (k2 ▸ hb2) hb'
    · intro y hy
      rcases List.mem_append.1 hy with hy | hy
      · obtain ⟨z, hz, rfl⟩ := List.mem_map.1 hy
        have hok := m.ok z hz
        unfold EntOk at hok
        split at hok
        · rename_i e es dp hao
          obtain ⟨s, us, k0, k1, k2, k3, k4, k5, k6, k7⟩ := hok
          unfold EntOk
          simp only [g, hao]
          exact ⟨s, us, k0, k1, k2, k3, k4, fun b hb => hIr b (k5 b hb), fun q hq => hFr q (k6 q hq), fun hd => ⟨(k7 hd).1, fun b hb => hFr b ((k7 hd).2 b hb)⟩⟩
        · rename_i e cs hao
          obtain ⟨k0, q, cur, k1, k2, k3, k4⟩ := hok
          have hc : okpL (fun _ => false) cs = true := by
            rcases hcase z hz with ⟨_, k, _, _⟩ | ⟨_, k, _⟩
            · exact boxB_spec hbx (n := z.nm) (e := e) (by rw [← hao]; exact k)
            · exact flatOs_box hflat (n := z.nm) (e := e) (by rw [← hao]; exact k)
          unfold EntOk
          simp only [g, hao]
          exact ⟨k0, q, cur, k1, hFr q k2, k3, shows_closed (Nat.le_refl _) (fun _ _ => rfl) hIr hc k4⟩
      · have hy' := hrest.1 hy
        have h3 := (m0.ok y hy'.1).mono (p := fun _ => true) (w' := w') (en' := er.map g ++ rest) (I' := IM X (er.map g ++ rest) w') (Fr' := Frs X.w0 X.O) m.size hS hI0 (fun _ hb => hb) (fun b hb => m.old b (hlt y hy'.1 b hb) (hrestO y hy b hb)) (fun x hx _ => hL x hx)
        have e : y.cut (fun _ => true) = y := by cases y; simp [Ent.cut, AO.cut_true]
        rwa [e] at h3
    · rw [List.pairwise_append]
      refine ⟨List.Pairwise.map _ (fun x y hxy => hxy) m.apart, List.Pairwise.sublist List.filter_sublist m0.apart, fun y hy z hz hdy hdz b hb hb' => ?_⟩
      obtain ⟨q, hq, rfl⟩ := List.mem_map.1 hy
      have hz' := hrest.1 hz
      have hI : IM X en w b := by
        have hok := m0.ok z hz'.1
        unfold EntOk at hok
        split at hok
        · obtain ⟨s, us, k0, k1, k2, k3, k4, k5, _⟩ := hok
          exact k5 b hb'
        · obtain ⟨k0, _⟩ := hok
          rw [k0] at hb'; cases hb'
      have hok := m.ok q hq
      unfold EntOk at hok
      split at hok
      · rename_i e es dp hao
        obtain ⟨s, us, k0, k1, k2, k3, k4, k5, k6, k7⟩ := hok
        have hd : dp = true := by
          have := hdy
          simp only [g, hao, AO.deep] at this
          exact this
        rcases (k7 hd).2 b hb with h1 | h1
        · exact hIO b hI h1
        · have := hI.2.1; omega
      · rename_i e cs hao
        have := hdy
        simp only [g, hao, AO.deep] at this
        cases this
    · rcases List.mem_append.1 hy with hy | hy
      · obtain ⟨z, hz, rfl⟩ := List.mem_map.1 hy
        rcases hcase z hz with ⟨k1, _, _, k2⟩ | ⟨_, _, x, hx, _, k3, k4⟩
        · have : backN t ρ z.nm = nameOf t z.nm := by unfold backN; rw [k1]; rfl
          show X.Z.fx (backN t ρ z.nm) z.val
          rw [this]
          exact X.Z.lo _ _ (freeN_spec k2).2
        · show X.Z.fx (backN t ρ z.nm) z.val
          rw [k4, k3]
          exact m0.fix x hx
      · exact m0.fix y (hrest.1 hy).1
  have h2 : Rel1 X ⟨σ.nt, σ.sl, shiftO t rob ++ (backO ρ obs' ++ dropH ρ σ.ob)⟩ a w' (er.map g ++ rest) := by
    refine ⟨hmem, ?_, h.defers, h.size, fun s => AV.shows_mono m.size hS hI0 hL (h.slots s)⟩
    rw [List.map_append, ← List.append_assoc]
    have e1 : shiftO t rob ++ backO ρ obs' = (rob ++ obs').map fun y => (backN t ρ y.1, y.2) := by
      rw [List.map_append, shiftO_back (ρ := ρ) hr0, backO_map (t := t) (ρ0 := ρ) hnames (Nat.le_refl _) (fun j hj => by rw [show 1000000 + j - 1000000 = j by omega])]
    have e2 : (er.map g).map Ent.key = (er.map Ent.key).map fun y => (backN t ρ y.1, y.2) := by simp only [List.map_map]; rfl
    have e3 : rest.map Ent.key = dropH ρ (en.map Ent.key) := by
      simp only [rest, dropH, List.filter_map]
      rfl
    rw [e1, e2, e3]
    exact List.Perm.append (hk.map _) (h.ob.filter _)
  exact ⟨_, h2.put (AV.shows_mapN hIr (fun x hx => ⟨g x, List.mem_append_left _ (List.mem_map.2 ⟨x, hx, rfl⟩), rfl, rfl, rfl⟩) r v hr) ht⟩
section
variable {X : Cx} {σ : AS} {o : Oper} {K : AS → Prop} {t : Nat}
theorem st_callm {ι : Type} {f : FuncId} {as : Array Operand} {ats : Array TypeId} {xs : List AV} {obs : List (Nat × AO)} {ok : ι → Prop} {rs : ι → List AV} {obs' rob : ι → List (Nat × AO)} (ρ : List Nat) (hc : MCalls X.P f xs obs ok rs obs' rob)
    (ho : o.op = .call { callee := .value (.func f), args := as, argTypes := ats }) (hd : o.dst = some t) (hx : σ.handA ρ as.toList = some xs) (hob : σ.handed 1000000 ρ = some obs) (hn : nodupL ρ = true)
    (hf : ∀ i, ok i → (freshX X.fre t σ.ob (rob i) && (rob i).all fun y => fre0 y.1) = true) (ht : Nat.blt t σ.nt = true)
    (hK : ∀ i, ok i → K ⟨σ.nt, (t, (one (rs i)).mapN (backN t ρ)) :: σ.sl, shiftO t (rob i) ++ (backO ρ (obs' i) ++ dropH ρ σ.ob)⟩) : OpOk X o σ K := by
  intro a w hr next Q hnx
  obtain ⟨en, h⟩ := hr
  have m0 := h.mem
  have hρ := nodupL_spec hn
  obtain ⟨eh, g1, g2, g3, g4, g5, g6⟩ := handed_ents h ρ 1000000 obs hρ hob
  obtain ⟨⟨hfl, hsm⟩, hcall⟩ := hc
  have hIeh : ∀ b, IM X en w b → Imm w (ZH (IM X en w) eh) (OH eh) eh w b := fun b hb => ⟨.inl hb, hb.2.1, fun y hy e => by
    obtain ⟨x, hx, _, e', _⟩ := g2 y hy
    rw [e'] at e
    exact hb.2.2 x hx e⟩
  have hrowfs : ∀ y ∈ eh, y.fs = [] := fun y hy => by
    obtain ⟨x, hx, _, e, _⟩ := g2 y hy
    have hkey : y.key ∈ obs := g1 ▸ List.mem_map.2 ⟨y, hy, rfl⟩
    have hao : y.ao = x.ao := by rw [e]
    have hfs : y.fs = x.fs := by rw [e]
    have hok := m0.ok x hx
    unfold EntOk at hok
    split at hok
    · rename_i e1 es dp hx'
      obtain ⟨z, us, k0, k1, k2, k3, k4, _⟩ := hok
      rw [hfs]
      exact repE_flat k4 (flatE_flat (flatOs_row hfl (n := y.nm) (e := e1) (d := dp) (by rw [← hx', ← hao]; exact hkey)))
    · rw [hfs]; exact hok.1
  have hm : Mem X.P w (ZH (IM X en w) eh) (OH eh) eh w := by
    refine ⟨rfl, rfl, rfl, Nat.le_refl _, fun _ _ _ => rfl, g4, g3, fun y hy => ?_, ?_, fun y hy _ x hx e => ?_⟩
    · obtain ⟨x, hx, _, e, _⟩ := g2 y hy
      have hkey : y.key ∈ obs := g1 ▸ List.mem_map.2 ⟨y, hy, rfl⟩
      have hao : y.ao = x.ao := by rw [e]
      have hfs := hrowfs y hy
      have hval : y.val = x.val := by rw [e]
      have hok := m0.ok x hx
      unfold EntOk at hok
      split at hok
      · rename_i e1 es dp hx'
        obtain ⟨z, us, k0, k1, k2, k3, k4, k5, k6, k7⟩ := hok
        unfold EntOk
        rw [hao, hx']
        have hfs' : x.fs = y.fs := by rw [e]
        refine ⟨z, us, k0, k1, by rw [hval]; exact k2, k3, by rw [← hfs']; exact k4, by rw [hfs]; simp, fun b hb => .inl ⟨y, hy, hb⟩, fun _ => by rw [hfs]; simp⟩
      · rename_i e1 cs hx'
        obtain ⟨k0, q, cur, k1, k2, k3, k4⟩ := hok
        have hc : okpL (fun _ => false) cs = true := flatOs_box hfl (n := y.nm) (e := e1) (by rw [← hx', ← hao]; exact hkey)
        unfold EntOk
        rw [hao, hx']
        refine ⟨hfs, q, cur, by rw [hval]; exact k1, .inl ⟨y, hy, by rw [hval, k1]; rfl⟩, k3, shows_closed (Nat.le_refl _) (fun _ _ => rfl) hIeh hc k4⟩
    · refine List.pairwise_of_forall_mem_list fun x hx y hy _ _ b hb => ?_
      rw [hrowfs x hx] at hb; cases hb
    · rw [nm_unique g4 hx hy e]
  obtain ⟨h2, h3⟩ := hcall w (IM X en w) eh _ hm g1 (handA_shows h hIeh g5 hx)
  unfold Oper.wp
  rw [run_call_func ho, h2, Oper.upon_enter]
  refine h3.mono fun e w' ⟨i, v, er, ⟨hi, hbx⟩, he, m, hk, hr⟩ => ?_
  subst he
  rw [hd]
  obtain ⟨hs1, hs2⟩ := hsm i hi
  have hf' := hf i hi
  rw [Bool.and_eq_true] at hf'
  exact hnx _ _ _ (hK i hi) (h.mmerge hρ hob g1 g2 g5 g6 m hk hr hs1 hs2 hf'.1 hbx hf'.2 ht)
end
end Go.Proofs.Ythmajaeekkbnnaa
