/-
  Regions that draw their order: operations that do not meddle with each other may come in any order.
-/
import Derived.Test.YthmajaeekkbnnaaAbsS
namespace Go.Proofs.Ythmajaeekkbnnaa
open Go Go.RowKit

mutual
/-- Nothing unknown within. -/
def AV.full : AV → Bool
  | .any => false
  | .agg xs => fullL xs
  | .tup xs => fullL xs
  | _ => true
def fullL : List AV → Bool
  | [] => true
  | x :: xs => x.full && fullL xs
end
def AO.full : AO → Bool
  | .box _ cs => fullL cs
  | _ => true
mutual
theorem AV.cut_full (p : Nat → Bool) : ∀ (x : AV), (x.cut p).full = true → x.cut p = x
  | .any, _ => rfl
  | .d _, _ => rfl
  | .nil, _ => rfl
  | .pd _ _, _ => rfl
  | .row o, h => by
    simp only [AV.cut] at h ⊢
    split
    · rfl
    · rename_i hp; rw [if_neg hp] at h; cases h
  | .ptr o _, h => by
    simp only [AV.cut] at h ⊢
    split
    · rfl
    · rename_i hp; rw [if_neg hp] at h; cases h
  | .pr o _ _, h => by
    simp only [AV.cut] at h ⊢
    split
    · rfl
    · rename_i hp; rw [if_neg hp] at h; cases h
  | .agg xs, h => by simp only [AV.cut, cutL_full p xs h]
  | .tup xs, h => by simp only [AV.cut, cutL_full p xs h]
theorem cutL_full (p : Nat → Bool) : ∀ (xs : List AV), fullL (cutL p xs) = true → cutL p xs = xs
  | [], _ => rfl
  | x :: xs, h => by
    simp only [cutL, fullL, Bool.and_eq_true] at h
    simp only [cutL, AV.cut_full p x h.1, cutL_full p xs h.2]
end
theorem AO.cut_full (p : Nat → Bool) (x : AO) (h : (x.cut p).full = true) : x.cut p = x := by
  cases x with
  | row => rfl
  | box e cs => simp only [AO.cut]; rw [cutL_full p cs h]
mutual
theorem AV.cut_cut (p q : Nat → Bool) : ∀ (x : AV), (x.cut p).cut q = x.cut fun n => p n && q n
  | .any => rfl
  | .d _ => rfl
  | .nil => rfl
  | .pd _ _ => rfl
  | .row o => by simp only [AV.cut]; by_cases hp : p o = true <;> by_cases hq : q o = true <;> simp [AV.cut, hp, hq]
  | .ptr o _ => by simp only [AV.cut]; by_cases hp : p o = true <;> by_cases hq : q o = true <;> simp [AV.cut, hp, hq]
  | .pr o _ _ => by simp only [AV.cut]; by_cases hp : p o = true <;> by_cases hq : q o = true <;> simp [AV.cut, hp, hq]
  | .agg xs => by simp only [AV.cut, cutL_cut p q xs]
  | .tup xs => by simp only [AV.cut, cutL_cut p q xs]
theorem cutL_cut (p q : Nat → Bool) : ∀ (xs : List AV), cutL q (cutL p xs) = cutL (fun n => p n && q n) xs
  | [] => rfl
  | x :: xs => by simp only [cutL, AV.cut_cut p q x, cutL_cut p q xs]
end
theorem AV.cut_comm (p q : Nat → Bool) (x : AV) : (x.cut p).cut q = (x.cut q).cut p := by
  rw [AV.cut_cut, AV.cut_cut]
  congr 1
  funext n
  exact Bool.and_comm _ _
theorem AO.cut_comm (p q : Nat → Bool) (x : AO) : (x.cut p).cut q = (x.cut q).cut p := by
  cases x with
  | row => rfl
  | box e cs =>
    simp only [AO.cut, cutL_cut]
    congr 2
    funext n
    exact Bool.and_comm _ _
def disj (l r : List Nat) : Bool := l.all fun a => !r.any fun b => Nat.beq a b
theorem disj_spec {l r : List Nat} (h : disj l r = true) {n : Nat} (h1 : n ∈ l) (h2 : n ∈ r) : False := by
  unfold disj at h
  rw [List.all_eq_true] at h
  have := h n h1
  rw [Bool.not_eq_true', List.any_eq_false] at this
  exact this n h2 ((beq_spec _ _).2 rfl)
def nmO (l : List (Nat × AO)) : List Nat := l.map Prod.fst
def nmS (l : List (Nat × AV)) : List Nat := l.map Prod.fst
/-- The second's asking and doing stands beside the first's. -/
structure Ind (x y : Lo) : Prop where
  s1 : disj x.d.toList (nmS y.rs ++ y.d.toList) = true
  s2 : disj y.d.toList (nmS x.rs) = true
  o1 : disj (nmO x.wo) (nmO y.ro ++ y.fr ++ nmO y.wo) = true
  o2 : disj (nmO y.wo) (nmO x.ro ++ x.fr) = true
  k1 : (y.rs.all (·.2.full) && y.ro.all (·.2.full) && y.v.okp (keepN x.kl) && y.wo.all (·.2.okp (keepN x.kl))) = true
  k2 : (x.rs.all (·.2.okp (keepN y.kl)) && x.ro.all (·.2.okp (keepN y.kl)) && x.v.okp (keepN y.kl) && x.wo.all (·.2.okp (keepN y.kl))) = true
def ind (x y : Lo) : Bool := disj x.d.toList (nmS y.rs ++ y.d.toList) && disj y.d.toList (nmS x.rs) && disj (nmO x.wo) (nmO y.ro ++ y.fr ++ nmO y.wo) && disj (nmO y.wo) (nmO x.ro ++ x.fr) &&
  (y.rs.all (·.2.full) && y.ro.all (·.2.full) && y.v.okp (keepN x.kl) && y.wo.all (·.2.okp (keepN x.kl))) && (x.rs.all (·.2.okp (keepN y.kl)) && x.ro.all (·.2.okp (keepN y.kl)) && x.v.okp (keepN y.kl) && x.wo.all (·.2.okp (keepN y.kl)))
theorem ind_spec {x y : Lo} (h : ind x y = true) : Ind x y := by
  unfold ind at h
  rw [Bool.and_eq_true, Bool.and_eq_true, Bool.and_eq_true, Bool.and_eq_true, Bool.and_eq_true] at h
  exact ⟨h.1.1.1.1.1, h.1.1.1.1.2, h.1.1.1.2, h.1.1.2, h.1.2, h.2⟩
theorem lookO_none {l : List (Nat × AO)} {p : Nat} (h : p ∉ nmO l) : lookO l p = none := by
  cases hl : lookO l p with
  | none => rfl
  | some x => exact absurd (List.mem_map.2 ⟨_, lookO_mem hl, rfl⟩) h
theorem Ind.commute {x y : Lo} {s : Fs} (h : Ind x y) (hx : x.Pre s) (hy : y.Pre (x.app s)) : y.Pre s ∧ x.Pre (y.app s) ∧ y.app (x.app s) = x.app (y.app s) := by
  have k1 := h.k1
  have k2 := h.k2
  simp only [Bool.and_eq_true, List.all_eq_true] at k1 k2
  have hxr := allP_iff.1 hx.rs
  have hxo := allP_iff.1 hx.ro
  have hxf := allP_iff.1 hx.fr
  have hyr := allP_iff.1 hy.rs
  have hyo := allP_iff.1 hy.ro
  have hyf := allP_iff.1 hy.fr
  refine ⟨⟨allP_iff.2 fun z hz => ?_, allP_iff.2 fun z hz => ?_, allP_iff.2 fun p hp => ?_⟩, ⟨allP_iff.2 fun z hz => ?_, allP_iff.2 fun z hz => ?_, allP_iff.2 fun p hp => ?_⟩, ?_⟩
  · have h1 := hyr z hz
    simp only [Lo.app] at h1
    rw [if_neg (fun e => disj_spec h.s1 (n := z.1) (by rw [e]; simp) (List.mem_append_left _ (List.mem_map.2 ⟨z, hz, rfl⟩)))] at h1
    have h2 := k1.1.1.1 z hz
    rw [← h1] at h2
    rw [← h1, AV.cut_full _ _ h2]
  · have h1 := hyo z hz
    simp only [Lo.app] at h1
    rw [lookO_none (fun e => disj_spec h.o1 e (List.mem_append_left _ (List.mem_append_left _ (List.mem_map.2 ⟨z, hz, rfl⟩))))] at h1
    simp only at h1
    cases hg : s.g z.1 with
    | none => rw [hg] at h1; cases h1
    | some a =>
      rw [hg] at h1
      simp only [Option.map_some, Option.some.injEq] at h1
      have h2 := k1.1.1.2 z hz
      rw [← h1] at h2
      rw [← h1, AO.cut_full _ _ h2]
  · have h1 := hyf p hp
    simp only [Lo.app] at h1
    rw [lookO_none (fun e => disj_spec h.o1 e (List.mem_append_left _ (List.mem_append_right _ hp)))] at h1
    simpa using h1
  · simp only [Lo.app]
    rw [if_neg (fun e => disj_spec h.s2 (n := z.1) (by rw [e]; simp) (List.mem_map.2 ⟨z, hz, rfl⟩)), hxr z hz]
    exact AV.cut_ok _ (k2.1.1.1 z hz)
  · simp only [Lo.app]
    rw [lookO_none (fun e => disj_spec h.o2 e (List.mem_append_left _ (List.mem_map.2 ⟨z, hz, rfl⟩)))]
    simp only
    rw [hxo z hz, Option.map_some, AO.cut_ok _ (k2.1.1.2 z hz)]
  · simp only [Lo.app]
    rw [lookO_none (fun e => disj_spec h.o2 e (List.mem_append_right _ hp))]
    simp only
    rw [hxf p hp]
    rfl
  · refine Fs.ext ?_ ?_
    · funext t
      simp only [Lo.app]
      by_cases e1 : x.d = some t
      · have e2 : ¬ y.d = some t := fun e => disj_spec h.s1 (n := t) (by rw [e1]; simp) (List.mem_append_right _ (by rw [e]; simp))
        rw [if_neg e2, if_pos e1, if_pos e1]
        exact AV.cut_ok _ k2.1.2
      · rw [if_neg e1, if_neg e1]
        by_cases e2 : y.d = some t
        · rw [if_pos e2, if_pos e2]
          exact (AV.cut_ok _ k1.1.2).symm
        · rw [if_neg e2, if_neg e2]
          exact AV.cut_comm _ _ _
    · funext p
      simp only [Lo.app]
      cases h1 : lookO x.wo p with
      | some a =>
        have h2 : lookO y.wo p = none := lookO_none fun e => disj_spec h.o1 (List.mem_map.2 ⟨_, lookO_mem h1, rfl⟩) (List.mem_append_right _ e)
        rw [h2]
        simp only [Option.map_some]
        rw [AO.cut_ok _ (k2.2 _ (lookO_mem h1))]
      | none =>
        cases h2 : lookO y.wo p with
        | some a =>
          simp only [Option.map_some]
          rw [AO.cut_ok _ (k1.2 _ (lookO_mem h2))]
        | none =>
          simp only [Option.map_map]
          congr 1
          funext z
          exact AO.cut_comm _ _ _

/-! ### Any order -/
structure St where
  i : Nat
  pr : List Nat
  o : Oper
  lo : Lo
def Chain (X : Cx) (nt : Nat) (N : Fs → Prop) : List St → Fs → Prop
  | [], s => N s
  | e :: l, s => LoOk X nt e.o e.lo ∧ e.lo.Pre s ∧ Chain X nt N l (e.lo.app s)
section
variable {X : Cx} {nt : Nat} {N : Fs → Prop}
theorem Chain.pull {e : St} {l2 : List St} : ∀ {l1 : List St} {s : Fs}, (∀ x ∈ l1, Ind x.lo e.lo) → Chain X nt N (l1 ++ e :: l2) s → LoOk X nt e.o e.lo ∧ e.lo.Pre s ∧ Chain X nt N (l1 ++ l2) (e.lo.app s)
  | [], _, _, h => h
  | x :: l1, s, hi, h => by
    obtain ⟨h1, h2, h3⟩ := h
    obtain ⟨g1, g2, g3⟩ := Chain.pull (fun y hy => hi y (List.mem_cons_of_mem _ hy)) h3
    obtain ⟨c1, c2, c3⟩ := (hi x List.mem_cons_self).commute h2 g2
    exact ⟨g1, c1, h1, c2, by rw [← c3]; exact g3⟩
def dep (o : Oper) (j : Nat) : Bool := o.after.toList.any fun e => Region.binds .any e && Nat.beq e.on j
structure ChL (ops : Array Oper) (L : List St) : Prop where
  ops : ∀ e ∈ L, ops[e.i]? = some e.o ∧ e.o.guard = none ∧ ∀ d ∈ e.o.after, Region.binds .any d = true → d.on < e.i
  pair : L.Pairwise fun x y => x.i < y.i ∧ (x.i ∈ y.pr ∨ Ind x.lo y.lo)
/-- What an operation waits for, near or far. -/
def Far (F : List St) : Prop := ∀ e ∈ F, ∀ j ∈ e.pr, dep e.o j = true ∨ ∃ f ∈ F, dep e.o f.i = true ∧ j ∈ f.pr
theorem wpAny_chain {ops : Array Oper} {Q : Exit → Act → World → Prop} {F : List St} (hFar : Far F) (hone : ∀ f ∈ F, ∀ e ∈ F, f.i = e.i → f.pr = e.pr) (hQ : ∀ s a w, N s → RelF X nt s a w → Q .normal a w) : ∀ (fuel : Nat) (listed : Array Bool) (L : List St) (s : Fs) (a : Act) (w : World),
    RelF X nt s a w → Chain X nt N L s → ChL ops L → (∀ e ∈ L, e ∈ F) → (∀ e ∈ F, listed.getD e.i false = true → ∀ j ∈ e.pr, listed.getD j false = true) → (∀ i, i < ops.size → (listed.getD i true = false ↔ ∃ e ∈ L, e.i = i)) → listed.size = ops.size → L.length ≤ fuel → wpAny X.P .any ops Q fuel listed a w := by
  have ready_in : ∀ {listed : Array Bool} {L : List St} {i : Nat}, (∀ i, i < ops.size → (listed.getD i true = false ↔ ∃ e ∈ L, e.i = i)) → ChL ops L → i ∈ Region.ready .any ops listed →
      ∃ e ∈ L, e.i = i ∧ ∀ d ∈ e.o.after, Region.binds .any d = true → listed.getD d.on false = true := by
    intro listed L i hl hc hi
    unfold Region.ready at hi
    rw [List.mem_filter, List.mem_range] at hi
    obtain ⟨h1, h2⟩ := hi
    simp only [Bool.and_eq_true, Bool.not_eq_true'] at h2
    obtain ⟨e, he, hei⟩ := (hl i h1).1 h2.1
    refine ⟨e, he, hei, fun d hd hb => ?_⟩
    have h3 := h2.2
    rw [← hei, (hc.ops e he).1] at h3
    simp only [Option.map_some, Option.getD_some, Array.all_eq_true_iff_forall_mem] at h3
    have := h3 d hd
    rw [hb] at this
    simpa using this
  have not_nil : ∀ {listed : Array Bool} {e : St} {L : List St}, (∀ i, i < ops.size → (listed.getD i true = false ↔ ∃ e' ∈ e :: L, e'.i = i)) → listed.size = ops.size → ChL ops (e :: L) → Region.ready .any ops listed ≠ [] := by
    intro listed e L hl hsz hc hn
    have h1 := (hc.ops e List.mem_cons_self).1
    have hlt : e.i < ops.size := (Array.getElem?_eq_some_iff.1 h1).1
    have h2 : e.i ∈ Region.ready .any ops listed := by
      unfold Region.ready
      rw [List.mem_filter, List.mem_range]
      refine ⟨hlt, ?_⟩
      rw [(hl e.i hlt).2 ⟨e, List.mem_cons_self, rfl⟩, h1]
      simp only [Bool.not_false, Option.map_some, Option.getD_some, Bool.true_and, Array.all_eq_true_iff_forall_mem]
      intro d hd
      cases hb : Region.binds .any d with
      | false => rfl
      | true =>
        have hdl := (hc.ops e List.mem_cons_self).2.2 d hd hb
        have hdlt : d.on < ops.size := Nat.lt_trans hdl hlt
        have h3 : listed.getD d.on true ≠ false := fun e' => by
          obtain ⟨e2, he2, e3⟩ := (hl d.on hdlt).1 e'
          rcases List.mem_cons.1 he2 with rfl | he2
          · omega
          · have := (List.pairwise_cons.1 hc.pair).1 e2 he2
            omega
        have h4 : listed.getD d.on false = true := by
          have hin : d.on < listed.size := by omega
          simp only [Array.getD_eq_getD_getElem?, Array.getElem?_eq_getElem hin, Option.getD_some] at h3 ⊢
          simpa using h3
        rw [h4, Bool.or_true]
    rw [hn] at h2
    cases h2
  intro fuel
  induction fuel with
  | zero =>
    intro listed L s a w hr hc hcl _ _ hl hsz hlen
    have : L = [] := List.eq_nil_of_length_eq_zero (by omega)
    subst this
    refine ⟨?_, hQ s a w hc hr⟩
    cases hrd : Region.ready .any ops listed with
    | nil => rfl
    | cons i is =>
      obtain ⟨e, he, _⟩ := ready_in hl hcl (i := i) (by rw [hrd]; exact List.mem_cons_self)
      cases he
  | succ fuel ih =>
    intro listed L s a w hr hc hcl hLF hdown hl hsz hlen
    refine ⟨fun hn => ?_, fun i hi => ?_⟩
    · cases L with
      | nil => exact hQ s a w hc hr
      | cons e L => exact absurd hn (not_nil hl hsz hcl)
    · obtain ⟨e, he, hei, hdeps⟩ := ready_in hl hcl hi
      obtain ⟨l1, l2, rfl⟩ := List.append_of_mem he
      have hp := hcl.pair
      rw [List.pairwise_append] at hp
      obtain ⟨p1, p2, p3⟩ := hp
      have hlt1 : ∀ x ∈ l1, x.i < e.i := fun x hx => (p3 x hx e List.mem_cons_self).1
      have hlt2 : ∀ x ∈ l2, e.i < x.i := fun x hx => ((List.pairwise_cons.1 p2).1 x hx).1
      have hie : i < ops.size := by rw [← hei]; exact (Array.getElem?_eq_some_iff.1 (hcl.ops e he).1).1
      have hdl : ∀ j, dep e.o j = true → listed.getD j false = true := fun j h1 => by
        unfold dep at h1
        rw [List.any_eq_true] at h1
        obtain ⟨d, hd, h2⟩ := h1
        rw [Bool.and_eq_true] at h2
        have h3 := hdeps d (Array.mem_toList_iff.1 hd) h2.1
        rwa [(beq_spec _ _).1 h2.2] at h3
      have hpr : ∀ j ∈ e.pr, listed.getD j false = true := fun j hj => by
        rcases hFar e (hLF e he) j hj with h1 | ⟨f, hf, h1, h2⟩
        · exact hdl j h1
        · exact hdown f hf (hdl _ h1) j h2
      have hind : ∀ x ∈ l1, Ind x.lo e.lo := fun x hx => by
        rcases (p3 x hx e List.mem_cons_self).2 with h1 | h1
        · exfalso
          have h3 := hpr x.i h1
          have hx2 : x.i < ops.size := Nat.lt_trans (hlt1 x hx) (by rw [hei]; exact hie)
          have h4 := (hl x.i hx2).2 ⟨x, List.mem_append_left _ hx, rfl⟩
          have hin : x.i < listed.size := by omega
          simp only [Array.getD_eq_getD_getElem?, Array.getElem?_eq_getElem hin, Option.getD_some] at h3 h4
          rw [h3] at h4; cases h4
        · exact h1
      obtain ⟨g1, g2, g3⟩ := Chain.pull hind hc
      unfold wpOp
      rw [← hei, (hcl.ops e he).1]
      simp only [Region.wanted, (hcl.ops e he).2.1, if_true]
      refine .inl (g1 s a w hr g2 _ _ fun a' w' hr' => ?_)
      refine ih _ (l1 ++ l2) (e.lo.app s) a' w' hr' g3 ⟨fun x hx => hcl.ops x ?_, ?_⟩ (fun x hx => hLF x ?_) (fun f hf hlf j hj => ?_) (fun j hj => ?_) (by simpa using hsz) (by simp at hlen ⊢; omega)
      · rcases List.mem_append.1 hx with hx | hx
        · exact List.mem_append_left _ hx
        · exact List.mem_append_right _ (List.mem_cons_of_mem _ hx)
      · rw [List.pairwise_append]
        exact ⟨p1, (List.pairwise_cons.1 p2).2, fun x hx y hy => p3 x hx y (List.mem_cons_of_mem _ hy)⟩
      · rcases List.mem_append.1 hx with hx | hx
        · exact List.mem_append_left _ hx
        · exact List.mem_append_right _ (List.mem_cons_of_mem _ hx)
      · have up : ∀ k, listed.getD k false = true → (listed.setIfInBounds e.i true).getD k false = true := fun k hk => by
          by_cases hek : e.i = k
          · subst hek
            have hin : e.i < listed.size := by rw [hsz, hei]; exact hie
            simp [Array.getD_eq_getD_getElem?, hin]
          · simp only [Array.getD_eq_getD_getElem?, Array.getElem?_setIfInBounds_ne hek]
            rw [← Array.getD_eq_getD_getElem?]
            exact hk
        by_cases hef : e.i = f.i
        · have hfo : f.pr = e.pr ∨ listed.getD f.i false = true := by
            by_cases hlf' : listed.getD f.i false = true
            · exact .inr hlf'
            · refine .inl ?_
              exact (hone f hf e (hLF e he) hef.symm)
          rcases hfo with h1 | h1
          · rw [h1] at hj; exact up j (hpr j hj)
          · exact up j (hdown f hf h1 j hj)
        · have h1 : listed.getD f.i false = true := by
            simp only [Array.getD_eq_getD_getElem?, Array.getElem?_setIfInBounds_ne hef] at hlf
            rw [← Array.getD_eq_getD_getElem?] at hlf
            exact hlf
          exact up j (hdown f hf h1 j hj)
      · have hin : e.i < listed.size := by rw [hsz, hei]; exact hie
        by_cases hje : e.i = j
        · subst hje
          refine ⟨fun hh => ?_, fun ⟨x, hx, hxi⟩ => ?_⟩
          · simp [Array.getD_eq_getD_getElem?, hin] at hh
          · rcases List.mem_append.1 hx with hx | hx
            · have := hlt1 x hx; omega
            · have := hlt2 x hx; omega
        · have e1 : (listed.setIfInBounds e.i true).getD j true = listed.getD j true := by
            simp only [Array.getD_eq_getD_getElem?, Array.getElem?_setIfInBounds_ne hje]
          rw [e1, hl j hj]
          refine ⟨fun ⟨x, hx, hxi⟩ => ⟨x, ?_, hxi⟩, fun ⟨x, hx, hxi⟩ => ⟨x, ?_, hxi⟩⟩
          · rcases List.mem_append.1 hx with hx | hx
            · exact List.mem_append_left _ hx
            · rcases List.mem_cons.1 hx with rfl | hx
              · exact absurd hxi hje
              · exact List.mem_append_right _ hx
          · rcases List.mem_append.1 hx with hx | hx
            · exact List.mem_append_left _ hx
            · exact List.mem_append_right _ (List.mem_cons_of_mem _ hx)
end
end Go.Proofs.Ythmajaeekkbnnaa
