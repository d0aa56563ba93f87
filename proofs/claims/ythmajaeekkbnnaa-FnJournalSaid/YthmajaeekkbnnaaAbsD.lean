/-
  The walk over abstract states: the structural rules.
-/
import Derived.Test.YthmajaeekkbnnaaAbsC
namespace Go.Proofs.Ythmajaeekkbnnaa
open Go Go.RowKit

/-! ### Weaker states -/
mutual
def AV.okp (p : Nat → Bool) : AV → Bool
  | .row o => p o
  | .ptr o _ => p o
  | .pr o _ _ => p o
  | .agg xs => okpL p xs
  | .tup xs => okpL p xs
  | _ => true
def okpL (p : Nat → Bool) : List AV → Bool
  | [] => true
  | x :: xs => x.okp p && okpL p xs
end
mutual
theorem AV.cut_ok {p : Nat → Bool} : ∀ (x : AV), x.okp p = true → x.cut p = x
  | .any, _ => rfl
  | .d _, _ => rfl
  | .nil, _ => rfl
  | .pd _ _, _ => rfl
  | .row o, h => by simp only [AV.cut, show p o = true from h, if_true]
  | .ptr o _, h => by simp only [AV.cut, show p o = true from h, if_true]
  | .pr o _ _, h => by simp only [AV.cut, show p o = true from h, if_true]
  | .agg xs, h => by simp only [AV.cut, cutL_ok xs h]
  | .tup xs, h => by simp only [AV.cut, cutL_ok xs h]
theorem cutL_ok {p : Nat → Bool} : ∀ (xs : List AV), okpL p xs = true → cutL p xs = xs
  | [], _ => rfl
  | x :: xs, h => by
    simp only [okpL, Bool.and_eq_true] at h
    simp only [cutL, AV.cut_ok x h.1, cutL_ok xs h.2]
end
def AO.okp (p : Nat → Bool) : AO → Bool
  | .box _ cs => okpL p cs
  | .row .. => true
theorem AO.cut_ok {p : Nat → Bool} (x : AO) (h : x.okp p = true) : x.cut p = x := by
  cases x with
  | box e cs => simp only [AO.cut, cutL_ok cs h]
  | row => rfl
def hasN (t : Nat) : List (Nat × AO) → Bool
  | [] => false
  | (k, _) :: l => bif Nat.beq k t then true else hasN t l
theorem hasN_iff {t : Nat} : ∀ {l : List (Nat × AO)}, hasN t l = true ↔ ∃ y ∈ l, y.1 = t
  | [] => by simp [hasN]
  | (k, x) :: l => by
    simp only [hasN]
    by_cases h : k = t
    · have : Nat.beq k t = true := (beq_spec k t).2 h
      rw [this]
      exact ⟨fun _ => ⟨(k, x), List.mem_cons_self, h⟩, fun _ => rfl⟩
    · have : Nat.beq k t = false := by cases hb : Nat.beq k t with | false => rfl | true => exact absurd ((beq_spec k t).1 hb) h
      rw [this]
      simp only [cond_false, hasN_iff (l := l), List.mem_cons]
      refine ⟨fun ⟨y, hy, e⟩ => ⟨y, .inr hy, e⟩, fun ⟨y, hy, e⟩ => ?_⟩
      rcases hy with rfl | hy
      · exact absurd e h
      · exact ⟨y, hy, e⟩
/-- A name for a new object. -/
def freeN (f : Nat → Bool) (t : Nat) (l : List (Nat × AO)) : Bool := bif hasN t l then false else f t
def fre0 (t : Nat) : Bool := Nat.blt t 1000000
theorem freeN_spec {f : Nat → Bool} {t : Nat} {l : List (Nat × AO)} (h : freeN f t l = true) : hasN t l = false ∧ f t = true := by
  unfold freeN at h
  cases hb : hasN t l with
  | true => rw [hb] at h; cases h
  | false => rw [hb] at h; exact ⟨rfl, h⟩
def nodupN : List (Nat × AO) → Bool
  | [] => true
  | (k, _) :: l => !hasN k l && nodupN l
def AS.closed (τ : AS) : Bool := (τ.sl.all fun y => y.2.okp fun n => hasN n τ.ob) && (τ.ob.all fun y => y.2.okp fun n => hasN n τ.ob) && nodupN τ.ob
def slLe (σ : AS) : List (Nat × AV) → Prop
  | [] => True
  | (t, x) :: l => look σ.sl t = x ∧ slLe σ l
def obLe (σ : AS) : List (Nat × AO) → Prop
  | [] => True
  | (t, x) :: l => lookO σ.ob t = some x ∧ obLe σ l
structure AS.le (σ τ : AS) : Prop where
  nt : τ.nt = σ.nt
  sl : slLe σ τ.sl
  ob : obLe σ τ.ob
  closed : τ.closed = true
theorem slLe_mem {σ : AS} : ∀ {l : List (Nat × AV)}, slLe σ l → ∀ {t : Nat} {x : AV}, (t, x) ∈ l → look σ.sl t = x
  | (k, y) :: l, h, t, x, hm => by
    rcases List.mem_cons.1 hm with e | hm
    · injection e with e1 e2; subst e1; subst e2; exact h.1
    · exact slLe_mem h.2 hm
theorem obLe_mem {σ : AS} : ∀ {l : List (Nat × AO)}, obLe σ l → ∀ {t : Nat} {x : AO}, (t, x) ∈ l → lookO σ.ob t = some x
  | (k, y) :: l, h, t, x, hm => by
    rcases List.mem_cons.1 hm with e | hm
    · injection e with e1 e2; subst e1; subst e2; exact h.1
    · exact obLe_mem h.2 hm
theorem look_mem : ∀ {l : List (Nat × AV)} {t : Nat}, look l t = .any ∨ (t, look l t) ∈ l
  | [], t => .inl rfl
  | (k, x) :: l, t => by
    rw [look_cons]
    split
    · rename_i hk; subst hk; exact .inr List.mem_cons_self
    · rcases look_mem (l := l) (t := t) with h | h
      · exact .inl h
      · exact .inr (List.mem_cons_of_mem _ h)
theorem nodupN_spec : ∀ {l : List (Nat × AO)}, nodupN l = true → (l.map Prod.fst).Nodup
  | [], _ => by simp
  | (k, x) :: l, h => by
    simp only [nodupN, Bool.and_eq_true, Bool.not_eq_true'] at h
    simp only [List.map_cons, List.nodup_cons]
    refine ⟨fun hm => ?_, nodupN_spec h.2⟩
    obtain ⟨y, hy, e⟩ := List.mem_map.1 hm
    have : hasN k l = true := hasN_iff.2 ⟨y, hy, e⟩
    rw [h.1] at this
    cases this
theorem nodup_of_fst {l : List (Nat × AO)} (h : (l.map Prod.fst).Nodup) : l.Nodup := by
  induction l with
  | nil => simp
  | cons a l ih =>
    simp only [List.map_cons, List.nodup_cons] at h ⊢
    exact ⟨fun hm => h.1 (List.mem_map.2 ⟨a, hm, rfl⟩), ih h.2⟩
theorem fst_unique {l : List (Nat × AO)} (h : (l.map Prod.fst).Nodup) {x y : Nat × AO} (hx : x ∈ l) (hy : y ∈ l) (he : x.1 = y.1) : x = y := by
  induction l with
  | nil => cases hx
  | cons a l ih =>
    simp only [List.map_cons, List.nodup_cons, List.mem_map, not_exists, not_and] at h
    rcases List.mem_cons.1 hx with rfl | hx' <;> rcases List.mem_cons.1 hy with rfl | hy'
    · rfl
    · exact absurd he.symm (h.1 y hy')
    · exact absurd he (h.1 x hx')
    · exact ih h.2 hx' hy'
theorem Rel1.le {X : Cx} {σ τ : AS} {a : Act} {w : World} {en : List Ent} (h1 : Rel1 X σ a w en) (hl : σ.le τ) : Rel1 X τ a w ((en.filter fun y => hasN y.nm τ.ob).map (Ent.cut fun n => hasN n τ.ob)) := by
  obtain ⟨hnt, hsl, hob, hcl⟩ := hl
  simp only [AS.closed, Bool.and_eq_true, List.all_eq_true] at hcl
  obtain ⟨⟨c1, c2⟩, c3⟩ := hcl
  have h2 := h1.keep (fun n => hasN n τ.ob)
  refine ⟨h2.mem, ?_, h2.defers, h2.size.trans hnt.symm, fun t => ?_⟩
  · refine h2.ob.trans ?_
    have hn1 : (σ.ob.map Prod.fst).Nodup := by
      have := h1.mem.names
      have e : en.map Ent.nm = (en.map Ent.key).map Prod.fst := by simp only [List.map_map]; rfl
      rw [e] at this
      exact (h1.ob.map _).nodup_iff.1 this
    have hn2 := nodupN_spec c3
    refine (List.perm_ext_iff_of_nodup ?_ (nodup_of_fst hn2)).2 (fun y => ?_)
    · refine nodup_of_fst ?_
      have e : ((σ.ob.filter fun y => hasN y.1 τ.ob).map fun y => (y.1, y.2.cut fun n => hasN n τ.ob)).map Prod.fst = (σ.ob.filter fun y => hasN y.1 τ.ob).map Prod.fst := by simp only [List.map_map]; rfl
      show (((σ.keep fun n => hasN n τ.ob).ob).map Prod.fst).Nodup
      rw [AS.keep, e]
      exact List.Nodup.sublist (List.Sublist.map _ List.filter_sublist) hn1
    · simp only [AS.keep, List.mem_map, List.mem_filter]
      constructor
      · rintro ⟨z, ⟨hz, hp⟩, rfl⟩
        obtain ⟨y, hy, e⟩ := hasN_iff.1 hp
        have h3 := lookO_mem (obLe_mem hob (t := y.1) (x := y.2) hy)
        have h4 := fst_unique hn1 hz h3 e.symm
        have h5 := AO.cut_ok y.2 (c2 y hy)
        rw [h4]
        simp only [h5]
        exact hy
      · intro hy
        have h3 := lookO_mem (obLe_mem hob (t := y.1) (x := y.2) hy)
        exact ⟨y, ⟨h3, hasN_iff.2 ⟨y, hy, rfl⟩⟩, by rw [AO.cut_ok y.2 (c2 y hy)]⟩
  · rcases look_mem (l := τ.sl) (t := t) with h3 | h3
    · rw [h3]; trivial
    · have h4 := slLe_mem hsl h3
      have h5 := h2.slots t
      simp only [AS.keep, look_cut, h4] at h5
      rwa [AV.cut_ok _ (c1 _ h3)] at h5

theorem Rel.le {X : Cx} {σ τ : AS} {a : Act} {w : World} (h : Rel X σ a w) (hl : σ.le τ) : Rel X τ a w := by
  obtain ⟨en, h1⟩ := h
  exact ⟨_, h1.le hl⟩

/-! ### Code -/
def lift (X : Cx) (Q : Exit → AS → Prop) : Exit → Act → World → Prop := fun e a w => ∃ σ, Q e σ ∧ Rel X σ a w
def AWp (X : Cx) (c : Code) (Q : Exit → AS → Prop) (σ : AS) : Prop := ∀ a w, Rel X σ a w → c.wp X.P (lift X Q) a w
def thenA (next : AS → Prop) (Q : Exit → AS → Prop) : Exit → AS → Prop
  | .normal, σ => next σ
  | e, σ => Q e σ
def blockA (id : Nat) (Q : Exit → AS → Prop) : Exit → AS → Prop
  | .exit id', σ => bif Nat.beq id' id then Q .normal σ else Q (.exit id') σ
  | e, σ => Q e σ
section
variable {X : Cx} {Q : Exit → AS → Prop} {σ : AS}
theorem awp_seq {x y : Code} (h : AWp X x (thenA (AWp X y Q) Q) σ) : AWp X (.seq x y) Q σ := fun a w hr =>
  wp_seq (wp_mono (h a w hr) fun e a' w' ⟨σ', hq, hr'⟩ => by
    cases e with
    | normal => exact hq a' w' hr'
    | _ => exact ⟨σ', hq, hr'⟩)
theorem awp_block {id : Nat} {c : Code} (h : AWp X c (blockA id Q) σ) : AWp X (.block id c) Q σ := fun a w hr =>
  wp_block (wp_mono (h a w hr) fun e a' w' ⟨σ', hq, hr'⟩ => by
    cases e with
    | exit id' =>
      simp only [blockA] at hq
      simp only [Exit.inBlock]
      by_cases hid : id' = id
      · rw [(beq_spec _ _).2 hid] at hq
        rw [if_pos hid]
        exact ⟨σ', hq, hr'⟩
      · have : Nat.beq id' id = false := by cases hb : Nat.beq id' id with | false => rfl | true => exact absurd ((beq_spec _ _).1 hb) hid
        rw [this] at hq
        rw [if_neg hid]
        exact ⟨σ', hq, hr'⟩
    | _ => exact ⟨σ', hq, hr'⟩)
theorem awp_skip (h : Q .normal σ) : AWp X .skip Q σ := fun _ _ hr => wp_skip ⟨σ, h, hr⟩
theorem awp_exit {id : Nat} (h : Q (.exit id) σ) : AWp X (.exit id) Q σ := fun _ _ hr => wp_exit ⟨σ, h, hr⟩
theorem awp_ret (h : Q .ret σ) : AWp X .ret Q σ := fun _ _ hr => wp_ret ⟨σ, h, hr⟩
theorem awp_cond {c : Operand} {x y : Code} {t : Bool} (hc : σ.ev c = .d (.b t)) (h1 : t = true → AWp X x Q σ) (h2 : t = false → AWp X y Q σ) : AWp X (.cond c x y) Q σ := fun a w hr => by
  obtain ⟨en, h⟩ := hr
  have := ev_of h hc
  obtain ⟨F, ⟨hv, _⟩, _⟩ := this
  exact wp_cond_split hv (fun ht => h1 ht a w ⟨en, h⟩) (fun ht => h2 ht a w ⟨en, h⟩)
theorem awp_cond_t {c : Operand} {x y : Code} (hc : σ.ev c = .d (.b true)) (h1 : AWp X x Q σ) : AWp X (.cond c x y) Q σ := awp_cond hc (fun _ => h1) (fun h => by cases h)
theorem awp_cond_f {c : Operand} {x y : Code} (hc : σ.ev c = .d (.b false)) (h1 : AWp X y Q σ) : AWp X (.cond c x y) Q σ := awp_cond hc (fun h => by cases h) (fun _ => h1)
theorem awp_le {c : Code} {τ : AS} (hl : σ.le τ) (h : AWp X c Q τ) : AWp X c Q σ := fun a w hr => h a w (hr.le hl)
theorem awp_mono {c : Code} {Q' : Exit → AS → Prop} (h : AWp X c Q σ) (hq : ∀ e σ, Q e σ → Q' e σ) : AWp X c Q' σ := fun a w hr =>
  wp_mono (h a w hr) fun e _ _ ⟨σ', hq', hr'⟩ => ⟨σ', hq e σ' hq', hr'⟩
theorem least {p : Nat → Prop} (h : ∃ n, p n) : ∃ n, p n ∧ ∀ m, p m → n ≤ m := by
  obtain ⟨n, hn⟩ := h
  induction n using Nat.strongRecOn with
  | _ n ih =>
    by_cases hm : ∃ m, m < n ∧ p m
    · obtain ⟨m, h1, h2⟩ := hm
      exact ih m h1 h2
    · exact ⟨n, hn, fun m hp => Nat.le_of_not_lt fun hlt => hm ⟨m, hlt, hp⟩⟩
/-- A loop: the states at its head are those of a family. -/
theorem awp_loop {ι : Type} {c : Code} (S : ι → AS) (ok : ι → Prop) (μ : ι → Nat) (i0 : ι) (hi : ok i0) (h0 : σ.le (S i0))
    (round : ∀ i, ok i → AWp X c (thenA (fun σ' => ∃ j, ok j ∧ μ j < μ i ∧ σ'.le (S j)) Q) (S i)) : AWp X (.loop c) Q σ := fun a w hr => by
  let p : Act → World → Nat → Prop := fun a w n => ∃ i, ok i ∧ Rel X (S i) a w ∧ μ i = n
  let m : Act → World → Nat := fun a w => open Classical in if h : ∃ n, p a w n then (least h).choose else 0
  have hm : ∀ a w (h : ∃ n, p a w n), p a w (m a w) ∧ ∀ n, p a w n → m a w ≤ n := fun a w h => by
    have : m a w = (least h).choose := dif_pos h
    rw [this]
    exact (least h).choose_spec
  refine wp_loop (fun a w => ∃ n, p a w n) m ⟨_, i0, hi, hr.le h0, rfl⟩ (fun a w hI => ?_)
  obtain ⟨⟨i, h1, h2, h3⟩, h4⟩ := hm a w hI
  refine wp_mono (round i h1 a w h2) (fun e a' w' ⟨σ', hq, hr'⟩ => ?_)
  cases e with
  | normal =>
    obtain ⟨j, g1, g2, g3⟩ := hq
    have g4 : p a' w' (μ j) := ⟨j, g1, hr'.le g3, rfl⟩
    refine ⟨⟨_, g4⟩, ?_⟩
    have := (hm a' w' ⟨_, g4⟩).2 _ g4
    omega
  | _ => exact ⟨σ', hq, hr'⟩
/-- Two ways meet: behind the first piece the state is one of a family. -/
theorem awp_cut {ι : Type} {x y : Code} (S : ι → AS) (ok : ι → Prop) (h1 : AWp X x (thenA (fun σ' => ∃ j, ok j ∧ σ'.le (S j)) Q) σ) (h2 : ∀ j, ok j → AWp X y Q (S j)) : AWp X (.seq x y) Q σ :=
  awp_seq (awp_mono h1 fun e _ h => by
    cases e with
    | normal =>
      obtain ⟨j, g1, g2⟩ := h
      exact awp_le g2 (h2 j g1)
    | _ => exact h)

/-! ### Operations -/
/-- The operation goes from σ to a state of K. -/
def OpOk (X : Cx) (o : Oper) (σ : AS) (K : AS → Prop) : Prop := ∀ a w, Rel X σ a w → ∀ (next : Act → World → Prop) (Q : Exit → Act → World → Prop), (∀ σ' a' w', K σ' → Rel X σ' a' w' → next a' w') → o.wp X.P a w next Q
/-- .. and yields one value in every world that keeps the old blocks. -/
def QOk (X : Cx) (o : Oper) (σ : AS) (K : AS → Prop) : Prop := ∀ a w, Rel X σ a w → o.quiet X.P a (Ext w) (fun a' => ∃ σ', K σ' ∧ Rel X σ' a' w)
def OpsOk (X : Cx) (ops : Array Oper) (l : List Oper) (Q : Exit → AS → Prop) (σ : AS) : Prop := ∀ a w, Rel X σ a w → wpList X.P ops (lift X Q) l a w
theorem Rel.ext {w w' : World} {a : Act} (h : Rel X σ a w) (he : Ext w w') : Rel X σ a w' := by
  obtain ⟨en, h⟩ := h
  exact ⟨en, h.ext he⟩
theorem QOk.ok {o : Oper} {K : AS → Prop} (h : QOk X o σ K) : OpOk X o σ K := fun a w hr _ _ hn =>
  Oper.wp_of_quiet (C := Ext w) (Ext.refl w) (fun _ w' hw' ⟨σ', hk, hr'⟩ => hn σ' _ w' hk (hr'.ext hw')) (h a w hr)
theorem awp_region {id : Nat} {l : List Oper} (h : OpsOk X l.toArray l Q σ) : AWp X (.region id l.toArray false) Q σ := fun a w hr => wp_region_lit (h a w hr)
theorem ops_nil {ops : Array Oper} (h : Q .normal σ) : OpsOk X ops [] Q σ := fun _ _ hr => wpList_nil ⟨σ, h, hr⟩
theorem ops_cons {ops : Array Oper} {o : Oper} {l : List Oper} (hg : o.guard = none) (h : OpOk X o σ (OpsOk X ops l Q)) : OpsOk X ops (o :: l) Q σ := fun a w hr =>
  wpList_plain hg fun K hK => h a w hr K _ fun _ a' w' hk hr' => hK a' w' (hk a' w' hr')
theorem Rel1.tmp_some {en : List Ent} {a : Act} {w : World} {d : Nat} {t : Bool} (h : Rel1 X σ a w en) (hv : look σ.sl d = .d (.b t)) : a.tmps[d]? = some (.bool t) := by
  have h1 := h.slots d
  rw [hv] at h1
  obtain ⟨F, ⟨h2, _⟩, _⟩ := h1
  rw [Array.getD_eq_getD_getElem?] at h2
  cases h3 : a.tmps[d]? with
  | some v => rw [h3] at h2; simpa using h2
  | none => rw [h3] at h2; cases h2
/-- An operation whose guard says yes. -/
theorem ops_yes {ops : Array Oper} {o : Oper} {l : List Oper} {j d : Nat} {t : Bool} (hg : o.guard = some (j, t)) (hd : (ops[j]?).bind (·.dst) = some d) (hv : look σ.sl d = .d (.b t)) (h : OpOk X o σ (OpsOk X ops l Q)) : OpsOk X ops (o :: l) Q σ := fun a w hr => by
  obtain ⟨en, h1⟩ := hr
  have hy : yielded ops a.tmps j = some t := by
    unfold yielded
    rw [hd, Option.bind_some, h1.tmp_some hv]
  refine wpList_step fun K hK => ?_
  simp only [Region.wanted, hg, hy, beq_self_eq_true, if_true]
  exact h a w ⟨en, h1⟩ K _ fun _ a' w' hk hr' => hK a' w' (hk a' w' hr')
theorem ops_no {ops : Array Oper} {o : Oper} {l : List Oper} {j d s : Nat} {t t' : Bool} (hg : o.guard = some (j, t)) (hd : (ops[j]?).bind (·.dst) = some d) (hv : look σ.sl d = .d (.b t')) (hne : (t' == t) = false) (hs : o.dst = some s) (ht : Nat.blt s σ.nt = true)
    (h : OpsOk X ops l Q (σ.put s (.tup []))) : OpsOk X ops (o :: l) Q σ := fun a w hr => by
  obtain ⟨en, h1⟩ := hr
  have hy : yielded ops a.tmps j = some t' := by
    unfold yielded
    rw [hd, Option.bind_some, h1.tmp_some hv]
  refine wpList_step fun K hK => ?_
  have hne' : (some t' == some t) = false := hne
  simp only [Region.wanted, hg, hy, hne', Bool.false_eq_true, if_false, hs]
  exact hK _ _ (h _ _ ⟨en, h1.put ⟨[], rfl, rfl⟩ ht⟩)
/-- .. whose guard was itself passed over. -/
theorem ops_no2 {ops : Array Oper} {o : Oper} {l : List Oper} {j d s : Nat} {t : Bool} (hg : o.guard = some (j, t)) (hd : (ops[j]?).bind (·.dst) = some d) (hv : look σ.sl d = .tup []) (hs : o.dst = some s) (ht : Nat.blt s σ.nt = true)
    (h : OpsOk X ops l Q (σ.put s (.tup []))) : OpsOk X ops (o :: l) Q σ := fun a w hr => by
  obtain ⟨en, h1⟩ := hr
  have hy : yielded ops a.tmps j = none := by
    unfold yielded
    rw [hd, Option.bind_some]
    have h2 := h1.slots d
    rw [hv] at h2
    obtain ⟨us, h3, h4⟩ := h2
    rw [show us = [] from h4, Array.getD_eq_getD_getElem?] at h3
    cases h5 : a.tmps[d]? with
    | none => rfl
    | some v => rw [h5] at h3; simp only [Option.getD_some] at h3; rw [h3]
  refine wpList_step fun K hK => ?_
  have hne' : ((none : Option Bool) == some t) = false := rfl
  simp only [Region.wanted, hg, hy, hne', Bool.false_eq_true, if_false, hs]
  exact hK _ _ (h _ _ ⟨en, h1.put ⟨[], rfl, rfl⟩ ht⟩)
/-- A Bool that is not known: both ways. -/
theorem ops_split {ops : Array Oper} {l : List Oper} {d : Nat} {t : Bool} (hv : look σ.sl d = .d (.b t)) (h1 : t = true → OpsOk X ops l Q (σ.put d (.d (.b true)))) (h2 : t = false → OpsOk X ops l Q (σ.put d (.d (.b false)))) : OpsOk X ops l Q σ := fun a w hr => by
  obtain ⟨en, h⟩ := hr
  have key : ∀ (t' : Bool), t = t' → Rel X (σ.put d (.d (.b t'))) a w := fun t' e => by
    subst e
    refine ⟨en, h.mem, h.ob, h.defers, h.size, fun s => ?_⟩
    simp only [AS.put, look_cons]
    split
    · rename_i hs
      subst hs
      rw [← hv]
      exact h.slots d
    · exact h.slots s
  cases ht : t with
  | true => exact h1 ht a w (key true ht)
  | false => exact h2 ht a w (key false ht)
theorem ops_gsplit {ops : Array Oper} {o : Oper} {l : List Oper} {j d : Nat} {t t' : Bool} (_hg : o.guard = some (j, t)) (_hd : (ops[j]?).bind (·.dst) = some d) (hv : look σ.sl d = .d (.b t'))
    (h1 : t' = true → OpsOk X ops (o :: l) Q (σ.put d (.d (.b true)))) (h2 : t' = false → OpsOk X ops (o :: l) Q (σ.put d (.d (.b false)))) : OpsOk X ops (o :: l) Q σ := ops_split hv h1 h2
/-! ### Regions that draw their order -/
theorem wpQuiet_mono {P : Program} {ops : Array Oper} {C : World → Prop} {Q Q' : Act → Prop} (hq : ∀ a, Q a → Q' a) : ∀ (l : List Oper) (a : Act), wpQuiet P ops C Q l a → wpQuiet P ops C Q' l a
  | [], a, h => hq a h
  | o :: l, a, h => by
    unfold wpQuiet at h ⊢
    split
    · rename_i hw
      rw [if_pos hw] at h
      exact Oper.quiet_mono (fun a' => wpQuiet_mono hq l a') h
    · rename_i hw
      rw [if_neg hw] at h
      exact wpQuiet_mono hq l _ h
def QsOk (X : Cx) (ops : Array Oper) (l : List Oper) (N : AS → Prop) (σ : AS) : Prop := ∀ a w, Rel X σ a w → wpQuiet X.P ops (Ext w) (fun a' => ∃ σ', N σ' ∧ Rel X σ' a' w) l a
theorem awp_draw {id : Nat} {l : List Oper} (hm : X.P.follows .mixedOrders = true) (hB : Region.lexB .any l.toArray = true) (h : QsOk X l.toArray l (Q .normal) σ) : AWp X (.region id l.toArray true) Q σ := fun a w hr =>
  wp_region_ext hm hB (by
    have := h a w hr
    refine wpQuiet_mono (fun a' ⟨σ', hn, hr'⟩ => ?_) _ _ this
    exact fun w' hw' => ⟨σ', hn, hr'.ext hw'⟩)
theorem qs_nil {ops : Array Oper} {N : AS → Prop} (h : N σ) : QsOk X ops [] N σ := fun _ _ hr => ⟨σ, h, hr⟩
theorem qs_cons {ops : Array Oper} {N : AS → Prop} {o : Oper} {l : List Oper} (hg : o.guard = none) (h : QOk X o σ (QsOk X ops l N)) : QsOk X ops (o :: l) N σ := fun a w hr => by
  unfold wpQuiet
  simp only [Region.wanted, hg, if_true]
  exact Oper.quiet_mono (fun a' ⟨σ', hk, hr'⟩ => hk a' w hr') (h a w hr)
theorem qs_yes {ops : Array Oper} {N : AS → Prop} {o : Oper} {l : List Oper} {j d : Nat} {t : Bool} (hg : o.guard = some (j, t)) (hd : (ops[j]?).bind (·.dst) = some d) (hv : look σ.sl d = .d (.b t)) (h : QOk X o σ (QsOk X ops l N)) : QsOk X ops (o :: l) N σ := fun a w hr => by
  have hr0 := hr
  obtain ⟨en, h1⟩ := hr
  have hy : yielded ops a.tmps j = some t := by
    unfold yielded
    rw [hd, Option.bind_some, h1.tmp_some hv]
  unfold wpQuiet
  simp only [Region.wanted, hg, hy, beq_self_eq_true, if_true]
  exact Oper.quiet_mono (fun a' ⟨σ', hk, hr'⟩ => hk a' w hr') (h a w hr0)
theorem qs_no {ops : Array Oper} {N : AS → Prop} {o : Oper} {l : List Oper} {j d s : Nat} {t t' : Bool} (hg : o.guard = some (j, t)) (hd : (ops[j]?).bind (·.dst) = some d) (hv : look σ.sl d = .d (.b t')) (hne : (t' == t) = false) (hs : o.dst = some s) (ht : Nat.blt s σ.nt = true)
    (h : QsOk X ops l N (σ.put s (.tup []))) : QsOk X ops (o :: l) N σ := fun a w hr => by
  obtain ⟨en, h1⟩ := hr
  have hy : yielded ops a.tmps j = some t' := by
    unfold yielded
    rw [hd, Option.bind_some, h1.tmp_some hv]
  have hne' : (some t' == some t) = false := hne
  unfold wpQuiet
  simp only [Region.wanted, hg, hy, hne', Bool.false_eq_true, if_false, hs]
  exact h _ _ ⟨en, h1.put ⟨[], rfl, rfl⟩ ht⟩
theorem qs_no2 {ops : Array Oper} {N : AS → Prop} {o : Oper} {l : List Oper} {j d s : Nat} {t : Bool} (hg : o.guard = some (j, t)) (hd : (ops[j]?).bind (·.dst) = some d) (hv : look σ.sl d = .tup []) (hs : o.dst = some s) (ht : Nat.blt s σ.nt = true)
    (h : QsOk X ops l N (σ.put s (.tup []))) : QsOk X ops (o :: l) N σ := fun a w hr => by
  obtain ⟨en, h1⟩ := hr
  have hy : yielded ops a.tmps j = none := by
    unfold yielded
    rw [hd, Option.bind_some]
    have h2 := h1.slots d
    rw [hv] at h2
    obtain ⟨us, h3, h4⟩ := h2
    rw [show us = [] from h4, Array.getD_eq_getD_getElem?] at h3
    cases h5 : a.tmps[d]? with
    | none => rfl
    | some v => rw [h5] at h3; simp only [Option.getD_some] at h3; rw [h3]
  have hne' : ((none : Option Bool) == some t) = false := rfl
  unfold wpQuiet
  simp only [Region.wanted, hg, hy, hne', Bool.false_eq_true, if_false, hs]
  exact h _ _ ⟨en, h1.put ⟨[], rfl, rfl⟩ ht⟩
theorem qs_gsplit {ops : Array Oper} {N : AS → Prop} {o : Oper} {l : List Oper} {j d : Nat} {t t' : Bool} (_hg : o.guard = some (j, t)) (_hd : (ops[j]?).bind (·.dst) = some d) (hv : look σ.sl d = .d (.b t'))
    (h1 : t' = true → QsOk X ops (o :: l) N (σ.put d (.d (.b true)))) (h2 : t' = false → QsOk X ops (o :: l) N (σ.put d (.d (.b false)))) : QsOk X ops (o :: l) N σ := fun a w hr => by
  obtain ⟨en, h⟩ := hr
  have key : ∀ (t'' : Bool), t' = t'' → Rel X (σ.put d (.d (.b t''))) a w := fun t'' e => by
    subst e
    refine ⟨en, h.mem, h.ob, h.defers, h.size, fun s => ?_⟩
    simp only [AS.put, look_cons]
    split
    · rename_i hs
      subst hs
      rw [← hv]
      exact h.slots d
    · exact h.slots s
  cases ht : t' with
  | true => exact h1 ht a w (key true ht)
  | false => exact h2 ht a w (key false ht)
end
end Go.Proofs.Ythmajaeekkbnnaa
