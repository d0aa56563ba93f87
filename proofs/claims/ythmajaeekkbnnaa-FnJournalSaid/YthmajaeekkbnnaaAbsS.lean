/-
  Regions that draw their order, with operations that make or write memory: one operation by itself, and what stands beside it.
-/
import Derived.Test.YthmajaeekkbnnaaAbsR
namespace Go.Proofs.Ythmajaeekkbnnaa
open Go Go.RowKit

/-! ### What is known, as functions -/
@[ext] structure Fs where
  f : Nat → AV
  g : Nat → Option AO
def AS.fs (σ : AS) : Fs := ⟨look σ.sl, lookO σ.ob⟩
/-- What one operation asks and does: slots read, objects read, names made, the slot written, objects behind it, names whose values move. -/
structure Lo where
  rs : List (Nat × AV)
  ro : List (Nat × AO)
  fr : List Nat
  d : Option Nat
  v : AV
  wo : List (Nat × AO)
  kl : List Nat
def keepN (kl : List Nat) (n : Nat) : Bool := !kl.any fun k => Nat.beq k n
def allP {α : Type} (p : α → Prop) : List α → Prop
  | [] => True
  | x :: l => p x ∧ allP p l
theorem allP_iff {α : Type} {p : α → Prop} : ∀ {l : List α}, allP p l ↔ ∀ x ∈ l, p x
  | [] => ⟨fun _ x hx => (by cases hx), fun _ => trivial⟩
  | y :: l => by
    simp only [allP, allP_iff (l := l), List.mem_cons, forall_eq_or_imp]
structure Lo.Pre (lo : Lo) (s : Fs) : Prop where
  rs : allP (fun y => s.f y.1 = y.2) lo.rs
  ro : allP (fun y => s.g y.1 = some y.2) lo.ro
  fr : allP (fun p => s.g p = none) lo.fr
def Lo.app (lo : Lo) (s : Fs) : Fs where
  f t := if lo.d = some t then lo.v else (s.f t).cut (keepN lo.kl)
  g p := match lookO lo.wo p with
    | some ao => some ao
    | none => (s.g p).map (AO.cut (keepN lo.kl))
def RelF (X : Cx) (nt : Nat) (s : Fs) (a : Act) (w : World) : Prop := ∃ σ : AS, σ.nt = nt ∧ σ.fs = s ∧ Rel X σ a w
/-- In whatever state shows what it asks, the operation does that. -/
def LoOk (X : Cx) (nt : Nat) (o : Oper) (lo : Lo) : Prop := ∀ s a w, RelF X nt s a w → lo.Pre s → ∀ next Q, (∀ a' w', RelF X nt (lo.app s) a' w' → next a' w') → o.wp X.P a w next Q

/-! ### One operation by itself -/
theorem keepN_iff {kl : List Nat} {n : Nat} : keepN kl n = true ↔ n ∉ kl := by
  unfold keepN
  rw [Bool.not_eq_true', List.any_eq_false]
  refine ⟨fun h hn => h n hn ((beq_spec _ _).2 rfl), fun h k hk e => h ((beq_spec _ _).1 e ▸ hk)⟩
/-- The operation alone: the state before (small) and behind (its memory and its value). -/
structure LoS (P : Program) (tt : (T : TypeId) → Option (TI P T)) (nt : Nat) (o : Oper) (lo : Lo) (fre : Nat → Bool) (ob' : List (Nat × AO)) : Prop where
  op : ∀ (w0 : World) (Z : ZV fre) (O : Nat → Prop), OpOk ⟨P, w0, fre, Z, O, tt⟩ o ⟨nt, lo.rs, lo.ro⟩ (fun σ' => σ'.nt = nt ∧ (∀ d, lo.d = some d → look σ'.sl d = lo.v) ∧ σ'.ob = ob')
  dst : o.dst = lo.d
  /-- what is read speaks of what is read alone -/
  closed : AS.closed ⟨nt, lo.rs, lo.ro⟩ = true
  spl : allP (fun y => lookO lo.wo y.1 = some y.2 ∨ (lookO lo.wo y.1 = none ∧ (lookO lo.ro y.1).map (AO.cut (keepN lo.kl)) = some y.2)) ob'
  fre : ∀ n, hasN n lo.ro = true → fre n = true → n ∈ lo.kl
  keep : ∀ n ao, (n, ao) ∈ lo.ro → n ∉ lo.kl → ∃ ao', (n, ao') ∈ ob' ∧ ((ao.isRow = false ∧ ao'.isRow = false) ∨ ∃ e es es' dp dp', ao = .row e es dp ∧ ao' = .row e es' dp')
  all : ∀ n, hasN n lo.ro = true ∨ hasN n lo.wo = true → hasN n ob' = true
  made : ∀ n ao, (n, ao) ∈ ob' → hasN n lo.ro = true ∨ n ∈ lo.fr
  flat : ∀ n e es, (n, AO.row e es true) ∈ lo.ro → flatE es = true
theorem wp_put {P : Program} {o : Oper} {a : Act} {w : World} {R : Act → World → Prop} {Q : Exit → Act → World → Prop} (hd : ∀ a' w', R a' w' → a'.defers = []) (h : o.wp P a w R Q) : o.wp P a w (fun a' w' => R a' w' ∧ ∃ u, a' = a.put o.dst u) Q := by
  unfold Oper.wp at *
  generalize (execOp a.eval o).run P w = r at *
  cases r with
  | ok n w' =>
    cases n <;> simp only [Oper.upon] at h ⊢
    case value v => exact ⟨h, v, rfl⟩
    case skip => exact ⟨h, _, rfl⟩
    case enter f args => exact Calls.mono h (fun e w'' he => by cases e <;> first | exact ⟨he, _, rfl⟩ | exact he)
    case row f args => exact Rows.mono h (fun _ _ he => ⟨he, _, rfl⟩)
    case defer d =>
      have := hd _ _ h
      unfold Act.put at this
      split at this <;> cases this
  | halt x w' => cases x <;> simp only [Oper.upon] at h ⊢ <;> exact h
theorem row_lens {P : Program} {Fr : Nat → Prop} {w : World} {en : List Ent} {I : Nat → Prop} {x : Ent} {e : TypeId} {es : List (List D)} {dp : Bool} (h : EntOk P Fr w en I x) (ha : x.ao = .row e es dp) : ∃ z n, (P.info? e).map (·.size) = some z ∧ x.ao.lens = List.replicate n z ∧ ∃ A c, x.val = .slice A n c := by
  unfold EntOk at h
  rw [ha] at h
  obtain ⟨z, us, k0, k1, k2, k3, _⟩ := h
  obtain ⟨A, c, hv, _⟩ := own_slice k2
  refine ⟨z, es.length, k0, ?_, A, c, hv⟩
  rw [ha]
  exact List.eq_replicate_iff.2 ⟨by simp [AO.lens], fun l hl => by
    obtain ⟨el, hel, rfl⟩ := List.mem_map.1 hl
    exact k3 el hel⟩
theorem lookO_append {l r : List (Nat × AO)} {p : Nat} : lookO (l ++ r) p = match lookO l p with
    | some x => some x
    | none => lookO r p := by
  induction l with
  | nil => rfl
  | cons y l ih =>
    obtain ⟨k, x⟩ := y
    rw [List.cons_append, lookO_cons, lookO_cons, ih]
    split <;> rfl
theorem lookO_hasN {l : List (Nat × AO)} {p : Nat} : (lookO l p).isSome = hasN p l := by
  induction l with
  | nil => rfl
  | cons y l ih =>
    obtain ⟨k, x⟩ := y
    simp only [lookO, hasN]
    cases Nat.beq k p <;> simp [ih]
theorem lookO_rest (q : Nat → Bool) (kp : Nat → Bool) : ∀ (l : List (Nat × AO)) (p : Nat), lookO ((l.filter fun y => !q y.1).map fun y => (y.1, y.2.cut kp)) p = if q p = true then none else (lookO l p).map (AO.cut kp)
  | [], p => by simp [lookO]
  | (k, x) :: l, p => by
    have ih := lookO_rest q kp l p
    rw [List.filter_cons]
    by_cases hk : q k = true
    · rw [if_neg (by simp [hk]), ih, lookO_cons]
      by_cases hq : q p = true
      · rw [if_pos hq, if_pos hq]
      · rw [if_neg hq, if_neg hq]
        by_cases e : k = p
        · subst e; exact absurd hk hq
        · rw [if_neg e]
    · rw [if_pos (by simpa using hk), List.map_cons, lookO_cons, ih, lookO_cons]
      by_cases e : k = p
      · subst e
        rw [if_pos rfl, if_neg hk, if_pos rfl]
        rfl
      · rw [if_neg e, if_neg e]
theorem LoS.ok {X : Cx} {nt : Nat} {o : Oper} {lo : Lo} {fre : Nat → Bool} {ob' : List (Nat × AO)} (h : LoS X.P X.tt nt o lo fre ob') (hfre : ∀ n, n ∈ lo.kl ∨ n ∈ lo.fr → X.fre n = true) : LoOk X nt o lo := by
  intro s a w ⟨σ, hnt, hfs, en, h1⟩ hp next Q hn
  have hrs : ∀ y ∈ lo.rs, look σ.sl y.1 = y.2 := fun y hy => by have := allP_iff.1 hp.rs y hy; rw [← hfs] at this; exact this
  have hro : ∀ y ∈ lo.ro, lookO σ.ob y.1 = some y.2 := fun y hy => by have := allP_iff.1 hp.ro y hy; rw [← hfs] at this; exact this
  have hfr : ∀ p ∈ lo.fr, lookO σ.ob p = none := fun y hy => by have := allP_iff.1 hp.fr y hy; rw [← hfs] at this; exact this
  have m := h1.mem
  have hcl := h.closed
  have hcl2 := hcl
  simp only [AS.closed, Bool.and_eq_true, List.all_eq_true] at hcl
  obtain ⟨⟨c1, c2⟩, c3⟩ := hcl
  have hsl : ∀ l : List (Nat × AV), (∀ y ∈ l, look σ.sl y.1 = y.2) → slLe σ l := fun l => by
    induction l with
    | nil => intro _; trivial
    | cons y l ih => intro hy; exact ⟨hy y List.mem_cons_self, ih fun z hz => hy z (List.mem_cons_of_mem _ hz)⟩
  have hol : ∀ l : List (Nat × AO), (∀ y ∈ l, lookO σ.ob y.1 = some y.2) → obLe σ l := fun l => by
    induction l with
    | nil => intro _; trivial
    | cons y l ih => intro hy; exact ⟨hy y List.mem_cons_self, ih fun z hz => hy z (List.mem_cons_of_mem _ hz)⟩
  have hle := h1.le (τ := ⟨nt, lo.rs, lo.ro⟩) ⟨hnt.symm, hsl _ hrs, hol _ hro, hcl2⟩
  generalize hS : (en.filter fun y => hasN y.nm lo.ro).map (Ent.cut fun n => hasN n lo.ro) = enS at hle
  have hmem : ∀ {y : Ent}, y ∈ enS → ∃ z ∈ en, hasN z.nm lo.ro = true ∧ y = z.cut fun n => hasN n lo.ro := by
    intro y hy
    rw [← hS] at hy
    simp only [List.mem_map, List.mem_filter] at hy
    obtain ⟨z, ⟨k1, k2⟩, rfl⟩ := hy
    exact ⟨z, k1, k2, rfl⟩
  have hmem' : ∀ {z : Ent}, z ∈ en → hasN z.nm lo.ro = true → (z.cut fun n => hasN n lo.ro) ∈ enS := by
    intro z hz hzn
    rw [← hS]
    simp only [List.mem_map, List.mem_filter]
    exact ⟨z, ⟨hz, hzn⟩, rfl⟩
  have hao : ∀ {x : Ent}, x ∈ en → hasN x.nm lo.ro = true → (x.nm, x.ao) ∈ lo.ro := by
    intro x hx hn
    obtain ⟨y, hy, e⟩ := hasN_iff.1 hn
    obtain ⟨z, hz, e1, e2⟩ := h1.ent (hro y hy)
    have := m.ent_unique hx hz (e.symm.trans e1.symm)
    subst this
    rw [← e, e2]
    exact hy
  let O' : Nat → Prop := fun b => ∃ x ∈ en, hasN x.nm lo.ro = true ∧ blk x.val = some b
  let Z' : ZV fre := ⟨IM X en w, fun n v => fre n = false → ∀ x ∈ en, x.nm = n → x.val = v, fun n v e e' => by rw [e] at e'; cases e'⟩
  have hI1 : ∀ b, IM X en w b → Imm w Z' O' enS w b := fun b hb => ⟨.inl hb, hb.2.1, fun y hy => by
    obtain ⟨z, hz, _, rfl⟩ := hmem hy
    exact hb.2.2 z hz⟩
  have hcutq : ∀ (x : AV) (u : Value), x.okp (fun n => hasN n lo.ro) = true → x.shows w en (IM X en w) u → x.shows w enS (Imm w Z' O' enS w) u := fun x u hx hs => by
    have := AV.shows_cut (p := fun n => hasN n lo.ro) (en' := enS) (I' := Imm w Z' O' enS w) (Nat.le_refl _) (fun _ _ => rfl) hI1 (fun x hx hpx => ⟨_, hmem' hx hpx, rfl, rfl, AO.cut_isRow _ x.ao, AO.cut_lens _ x.ao⟩) x u hs
    rwa [AV.cut_ok x hx] at this
  have hRel : Rel1 ⟨X.P, w, fre, Z', O', X.tt⟩ ⟨nt, lo.rs, lo.ro⟩ a w enS := by
    refine ⟨⟨rfl, rfl, rfl, Nat.le_refl _, fun _ _ _ => rfl, hle.mem.names, hle.mem.blks, fun y hy => ?_, hle.mem.apart, fun y hy => ?_⟩, hle.ob, hle.defers, hle.size, fun t => ?_⟩
    · obtain ⟨z, hz, hzn, rfl⟩ := hmem hy
      have k := (m.ok z hz).mono (p := fun n => hasN n lo.ro) (w' := w) (en' := enS) (I' := Imm w Z' O' enS w) (Fr' := Frs X.w0 X.O) (Nat.le_refl _) (fun _ _ => rfl) hI1 (fun _ hb => hb) (fun _ _ => rfl) (fun x hx hpx => ⟨_, hmem' hx hpx, rfl, rfl, AO.cut_isRow _ x.ao, AO.cut_lens _ x.ao⟩)
      have hO : ∀ b, blk z.val = some b → Frs w O' b := fun b hb => .inl ⟨z, hz, hzn, hb⟩
      unfold EntOk at k ⊢
      split at k
      · rename_i e es dp hac
        obtain ⟨q, us, k0, k1, k2, k3, k4, k5, k6, k7⟩ := k
        refine ⟨q, us, k0, k1, k2, k3, k4, k5, hO, fun hd => ?_⟩
        have hzao : z.ao = .row e es dp := by
          cases hza : z.ao with
          | row e' es' dp' => simp only [Ent.cut, hza, AO.cut] at hac; exact hac
          | box e' cs => simp only [Ent.cut, hza, AO.cut] at hac; cases hac
        subst hd
        have hin := hao hz hzn
        rw [hzao] at hin
        have := repE_flat k4 (flatE_flat (h.flat _ _ _ hin))
        rw [this]
        exact ⟨by simp, by simp⟩
      · rename_i e cs hac
        obtain ⟨k0, g, cur, k1, k2, k3, k4⟩ := k
        exact ⟨k0, g, cur, k1, hO g (by rw [show z.val = _ from k1]; rfl), k3, k4⟩
    · obtain ⟨z, hz, hzn, rfl⟩ := hmem hy
      exact fun _ x hx e => by rw [m.ent_unique hx hz e]; rfl
    · rcases look_mem (l := lo.rs) (t := t) with h3 | h3
      · rw [h3]; trivial
      · have h4 := h1.slots t
        rw [show look σ.sl t = look lo.rs t from hrs _ h3] at h4
        exact hcutq _ _ (c1 _ h3) h4
  have hw := h.op w Z' O' a w ⟨enS, hRel⟩ (fun a' w' => ∃ σ', (σ'.nt = nt ∧ (∀ d, lo.d = some d → look σ'.sl d = lo.v) ∧ σ'.ob = ob') ∧ Rel ⟨X.P, w, fre, Z', O', X.tt⟩ σ' a' w') Q (fun σ' a' w' hk hr => ⟨σ', hk, hr⟩)
  have hw2 := wp_put (fun a' w' ⟨σ', _, en', hr⟩ => hr.defers) hw
  refine Oper.wp_mono (fun a' w' ⟨⟨σ', ⟨hnt', hv', hob'⟩, en', h2⟩, u, hu⟩ => hn a' w' ?_) hw2
  have m2 := h2.mem
  have hIO : ∀ b, IM X en w b → ¬ O' b := fun b hb ⟨x, hx, _, hbx⟩ => hb.2.2 x hx hbx
  have hSame : ∀ b, IM X en w b → Same w w' b := fun b hb => m2.old b hb.2.1 (hIO b hb)
  have hblk2 : ∀ y ∈ en', ∀ b, blk y.val = some b → O' b ∨ w.heap.size ≤ b := fun y hy b hb => ((m2.ok y hy).lt hb).2
  have hOF : ∀ b, O' b → Frs X.w0 X.O b ∧ b < w.heap.size := fun b ⟨x, hx, _, hb⟩ => ⟨((m.ok x hx).lt hb).2, ((m.ok x hx).lt hb).1⟩
  let kp := keepN lo.kl
  let enZ := en' ++ (en.filter fun y => !hasN y.nm lo.ro).map (Ent.cut kp)
  have hfm : ∀ {y : Ent}, y ∈ (en.filter fun y => !hasN y.nm lo.ro).map (Ent.cut kp) → ∃ z ∈ en, hasN z.nm lo.ro = false ∧ y = z.cut kp := by
    intro y hy
    simp only [List.mem_map, List.mem_filter, Bool.not_eq_true'] at hy
    obtain ⟨z, ⟨k1, k2⟩, rfl⟩ := hy
    exact ⟨z, k1, k2, rfl⟩
  have hfm' : ∀ {z : Ent}, z ∈ en → hasN z.nm lo.ro = false → z.cut kp ∈ enZ := by
    intro z hz hzn
    refine List.mem_append_right _ ?_
    simp only [List.mem_map, List.mem_filter, Bool.not_eq_true']
    exact ⟨z, ⟨hz, hzn⟩, rfl⟩
  -- the frame's blocks are not the operation's
  have hfO : ∀ z ∈ en, hasN z.nm lo.ro = false → ∀ b, blk z.val = some b → ¬ O' b := fun z hz hzn b hb ⟨x, hx, hxn, hbx⟩ => m.blk_ne hz hx (fun e => by rw [e, hxn] at hzn; cases hzn) hb hbx
  have hIM : ∀ b, IM X en w b → IM X enZ w' b := fun b hb => ⟨hb.1, Nat.lt_of_lt_of_le hb.2.1 m2.size, fun y hy e => by
    rcases List.mem_append.1 hy with hy | hy
    · rcases hblk2 y hy b e with h3 | h3
      · exact hIO b hb h3
      · have := hb.2.1; omega
    · obtain ⟨z, hz, _, rfl⟩ := hfm hy
      exact hb.2.2 z hz e⟩
  have hIM2 : ∀ b, Imm w Z' O' en' w' b → IM X enZ w' b := fun b hb => by
    refine ⟨?_, hb.2.1, fun y hy e => ?_⟩
    · rcases hb.1 with h3 | h3 | h3
      · exact h3.1
      · exact .inr (hOF b h3).1
      · exact .inr (.inr (Nat.le_trans m.size h3))
    · rcases List.mem_append.1 hy with hy | hy
      · exact hb.2.2 y hy e
      · obtain ⟨z, hz, hzn, rfl⟩ := hfm hy
        rcases hb.1 with h3 | h3 | h3
        · exact h3.2.2 z hz e
        · exact hfO z hz hzn b e h3
        · have := ((m.ok z hz).lt (b := b) e).1; omega
  have hob2 : ∀ {n : Nat} {ao : AO}, (n, ao) ∈ ob' → ∃ y ∈ en', y.nm = n ∧ y.ao = ao := by
    intro n ao hin
    rw [← hob'] at hin
    have := h2.ob.mem_iff.2 hin
    rw [List.mem_map] at this
    obtain ⟨y, hy, e⟩ := this
    injection e with e1 e2
    exact ⟨y, hy, e1, e2⟩
  have hLike : ∀ x ∈ en, kp x.nm = true → ∃ y ∈ enZ, Like x y := fun x hx hk => by
    have hnk : x.nm ∉ lo.kl := keepN_iff.1 hk
    cases hxn : hasN x.nm lo.ro with
    | false => exact ⟨_, hfm' hx hxn, rfl, rfl, AO.cut_isRow kp x.ao, AO.cut_lens kp x.ao⟩
    | true =>
      have hin := hao hx hxn
      obtain ⟨ao', k1, k2⟩ := h.keep _ _ hin hnk
      obtain ⟨y, hy, e1, e2⟩ := hob2 k1
      have hff : fre x.nm = false := by
        cases hf : fre x.nm with
        | false => rfl
        | true => exact absurd (h.fre _ hxn hf) hnk
      have hval : x.val = y.val := m2.fix y hy (by rw [e1]; exact hff) x hx e1.symm
      refine ⟨y, List.mem_append_left _ hy, e1, hval.symm, ?_, ?_⟩
      · rcases k2 with ⟨k2, k3⟩ | ⟨e, es, es', dp, dp', k2, k3⟩
        · rw [k2, e2, k3]
        · rw [e2, k2, k3]; rfl
      · rcases k2 with ⟨k2, k3⟩ | ⟨e, es, es', dp, dp', k2, k3⟩
        · cases hq : x.ao with
          | row => rw [hq] at k2; cases k2
          | box =>
            rw [e2]
            cases ao' with
            | row => cases k3
            | box => rfl
        · obtain ⟨z1, n1, i1, i2, A1, C1, i3⟩ := row_lens (m.ok x hx) k2
          obtain ⟨z2, n2, j1, j2, A2, C2, j3⟩ := row_lens (m2.ok y hy) (e2.trans k3)
          rw [i1] at j1
          injection j1 with j1
          rw [i3, j3] at hval
          injection hval with _ hval _
          rw [i2, j2, j1, hval]
  have hMap : ∀ (x : AV) (q : Value), x.shows w en (IM X en w) q → (x.cut kp).shows w' enZ (IM X enZ w') q := fun x q hq =>
    AV.shows_cut m2.size hSame hIM hLike x q hq
  have hMap2 : ∀ (x : AV) (q : Value), x.shows w' en' (Imm w Z' O' en' w') q → x.shows w' enZ (IM X enZ w') q := fun x q hq =>
    AV.shows_mono (Nat.le_refl _) (fun _ _ => rfl) hIM2 (fun x hx => ⟨x, List.mem_append_left _ hx, rfl, rfl, rfl, rfl⟩) hq
  have hnm2 : ∀ y ∈ en', hasN y.nm lo.ro = true ∨ y.nm ∈ lo.fr := fun y hy => h.made y.nm y.ao (by
    rw [← hob']
    exact h2.ob.mem_iff.1 (List.mem_map.2 ⟨y, hy, rfl⟩))
  have hmemZ : Mem X.P X.w0 X.Z X.O enZ w' := by
    refine ⟨m2.os.trans m.os, m2.tape.trans m.tape, m2.output.trans m.output, Nat.le_trans m.size m2.size, fun b hb hO => ?_, ?_, ?_, ?_, ?_, ?_⟩
    · refine (m2.old b (Nat.lt_of_lt_of_le hb m.size) (fun hO' => ?_)).trans (m.old b hb hO)
      rcases (hOF b hO').1 with h3 | h3
      · exact hO h3
      · omega
    · rw [List.map_append, List.nodup_append]
      refine ⟨m2.names, ?_, fun n hn1 n' hn2 e => ?_⟩
      · have : ((en.filter fun y => !hasN y.nm lo.ro).map (Ent.cut kp)).map Ent.nm = (en.filter fun y => !hasN y.nm lo.ro).map Ent.nm := by simp only [List.map_map]; rfl
        rw [this]
        exact List.Nodup.sublist (List.Sublist.map _ List.filter_sublist) m.names
      · subst e
        obtain ⟨y, hy, e1⟩ := List.mem_map.1 hn1
        obtain ⟨q, hq, e2⟩ := List.mem_map.1 hn2
        obtain ⟨z, hz, hzn, rfl⟩ := hfm hq
        have e3 : z.nm = y.nm := e2.trans e1.symm
        rcases hnm2 y hy with h3 | h3
        · rw [← e3, hzn] at h3; cases h3
        · have h4 := hfr _ h3
          have h5 : hasN y.nm σ.ob = true := hasN_iff.2 ⟨z.key, h1.ob.mem_iff.1 (List.mem_map.2 ⟨z, hz, rfl⟩), e3⟩
          rw [← lookO_hasN, h4] at h5
          cases h5
    · rw [List.pairwise_append]
      refine ⟨m2.blks, List.Pairwise.map _ (fun x y hxy => hxy) (List.Pairwise.sublist List.filter_sublist m.blks), fun y hy q hq b hb hb' => ?_⟩
      obtain ⟨z, hz, hzn, rfl⟩ := hfm hq
      rcases hblk2 y hy b hb with h3 | h3
      · exact hfO z hz hzn b hb' h3
      · have := ((m.ok z hz).lt (b := b) hb').1; omega
    · intro y hy
      rcases List.mem_append.1 hy with hy | hy
      · have k := (m2.ok y hy).mono (p := fun _ => true) (w' := w') (en' := enZ) (I' := IM X enZ w') (Fr' := Frs X.w0 X.O) (Nat.le_refl _) (fun _ _ => rfl) hIM2
          (fun b hb => hb.elim (fun h3 => (hOF b h3).1) (fun h3 => .inr (Nat.le_trans m.size h3))) (fun _ _ => rfl) (fun x hx _ => ⟨x, List.mem_append_left _ hx, rfl, rfl, rfl, rfl⟩)
        have e : y.cut (fun _ => true) = y := by cases y; simp [Ent.cut, AO.cut_true]
        rwa [e] at k
      · obtain ⟨z, hz, hzn, rfl⟩ := hfm hy
        exact (m.ok z hz).mono m2.size hSame hIM (fun _ hb => hb) (fun b hb => m2.old b ((m.ok z hz).lt hb).1 (hfO z hz hzn b hb)) hLike
    · rw [List.pairwise_append]
      refine ⟨m2.apart, List.Pairwise.map _ (fun x y hxy h3 h4 => hxy (by rw [← AO.cut_deep kp]; exact h3) (by rw [← AO.cut_deep kp]; exact h4)) (List.Pairwise.sublist List.filter_sublist m.apart), fun y hy q hq hdy hdq b hb hb' => ?_⟩
      obtain ⟨z, hz, hzn, rfl⟩ := hfm hq
      have hbz : IM X en w b := by
        have hok := m.ok z hz
        unfold EntOk at hok
        split at hok
        · obtain ⟨_, _, _, _, _, _, _, k5, _⟩ := hok
          exact k5 b hb'
        · obtain ⟨k0, _⟩ := hok
          have hb'' : b ∈ z.fs := hb'
          rw [k0] at hb''; cases hb''
      have hbF : Frs w O' b := by
        have hok := m2.ok y hy
        unfold EntOk at hok
        split at hok
        · rename_i e es dp hq2
          obtain ⟨_, _, _, _, _, _, _, _, _, k7⟩ := hok
          rw [hq2] at hdy
          exact (k7 hdy).2 b hb
        · rename_i e cs hq2
          rw [hq2] at hdy; cases hdy
      rcases hbF with h3 | h3
      · exact hIO b hbz h3
      · have := hbz.2.1; omega
    · intro y hy
      rcases List.mem_append.1 hy with hy | hy
      · by_cases hxf : X.fre y.nm = true
        · exact X.Z.lo _ _ hxf
        · rcases hnm2 y hy with h3 | h3
          · obtain ⟨q, hq, e⟩ := hasN_iff.1 h3
            obtain ⟨z, hz, e1, e2⟩ := h1.ent (hro q hq)
            have hnk : y.nm ∉ lo.kl := fun hk => hxf (hfre _ (.inl hk))
            have hff : fre y.nm = false := by
              cases hf : fre y.nm with
              | false => rfl
              | true => exact absurd (h.fre _ h3 hf) hnk
            have e3 : z.nm = y.nm := e1.trans e
            have hval := m2.fix y hy hff z hz e3
            rw [← hval, ← e3]
            exact m.fix z hz
          · exact absurd (hfre _ (.inr h3)) hxf
      · obtain ⟨z, hz, _, rfl⟩ := hfm hy
        exact m.fix z hz
  refine ⟨⟨nt, (match lo.d with | some d => (d, lo.v) :: cutS kp σ.sl | none => cutS kp σ.sl), ob' ++ (σ.ob.filter fun y => !hasN y.1 lo.ro).map fun y => (y.1, y.2.cut kp)⟩, rfl, ?_, enZ, hmemZ, ?_, h2.defers, ?_, fun t => ?_⟩
  · refine Fs.ext ?_ ?_
    · funext t
      simp only [AS.fs, Lo.app]
      rw [← hfs]
      simp only [AS.fs]
      cases hd : lo.d with
      | none => simp only [reduceCtorEq, if_false, look_cut]; rfl
      | some d =>
        simp only [look_cons, Option.some.injEq, look_cut]
        rfl
    · funext p
      simp only [AS.fs, Lo.app]
      rw [← hfs, lookO_append, lookO_rest (fun n => hasN n lo.ro) kp]
      cases hq : lookO ob' p with
      | some ao =>
        rcases allP_iff.1 h.spl (p, ao) (lookO_mem hq) with h3 | ⟨h3, h4⟩
        · simp only [h3]
        · simp only [h3, AS.fs]
          cases h5 : lookO lo.ro p with
          | none => rw [h5] at h4; cases h4
          | some a0 =>
            rw [h5] at h4
            have h6 : lookO σ.ob p = some a0 := hro (p, a0) (lookO_mem h5)
            rw [h6, h4]
      | none =>
        have h3 : hasN p ob' = false := by rw [← lookO_hasN, hq]; rfl
        have h4 : ¬ hasN p lo.ro = true := fun e => by rw [h.all p (.inl e)] at h3; cases h3
        have h5 : lookO lo.wo p = none := by
          cases h6 : lookO lo.wo p with
          | none => rfl
          | some a0 =>
            have : hasN p lo.wo = true := by rw [← lookO_hasN, h6]; rfl
            rw [h.all p (.inr this)] at h3; cases h3
        simp only [AS.fs, h5]
        rw [if_neg h4]
  · show (enZ.map Ent.key).Perm _
    rw [List.map_append]
    refine List.Perm.append (by rw [← hob']; exact h2.ob) ?_
    have e1 : ((en.filter fun y => !hasN y.nm lo.ro).map (Ent.cut kp)).map Ent.key = ((en.map Ent.key).filter fun y => !hasN y.1 lo.ro).map fun y => (y.1, y.2.cut kp) := by
      simp only [List.map_map, List.filter_map]
      rfl
    rw [e1]
    exact (h1.ob.filter _).map _
  · rw [h2.size, hnt']
  · have hbase : ∀ t, (∀ d, lo.d = some d → d ≠ t) → ((look σ.sl t).cut kp).shows w' enZ (IM X enZ w') (a'.tmps.getD t undef) := fun t ht => by
      have e : a'.tmps.getD t undef = a.tmps.getD t undef := by
        rw [hu, h.dst]
        cases hd : lo.d with
        | none => rfl
        | some d =>
          simp only [Act.put, Array.getD_eq_getD_getElem?, Array.getElem?_setIfInBounds_ne (ht d hd)]
      rw [e]
      exact hMap _ _ (h1.slots t)
    cases hd : lo.d with
    | none =>
      simp only [look_cut]
      exact hbase t (fun d e => by rw [hd] at e; cases e)
    | some d =>
      simp only [look_cons, look_cut]
      split
      · rename_i e
        subst e
        have := h2.slots d
        rw [hv' d hd] at this
        exact hMap2 _ _ this
      · rename_i e
        exact hbase t (fun d' e' => by rw [hd] at e'; injection e' with e'; rw [← e']; exact e)
end Go.Proofs.Ythmajaeekkbnnaa
