/-
  Regions that draw their order: each order tried. And nil as an empty list.
-/
import Derived.Test.YthmajaeekkbnnaaAbsZ
namespace Go.Proofs.Ythmajaeekkbnnaa
open Go Go.RowKit

/-! ### Each order -/
def rdyF (ls : List Bool) (o : Oper) : Bool := o.after.toList.all fun e => !Region.binds .any e || ls.getD e.on false
def rdyG (ls : List Bool) : Nat → List Oper → List Bool → List Nat
  | i, o :: l, b :: r => bif b then rdyG ls (i + 1) l r else (bif rdyF ls o then i :: rdyG ls (i + 1) l r else rdyG ls (i + 1) l r)
  | _, _, _ => []
def rdy (l : List Oper) (ls : List Bool) : List Nat := rdyG ls 0 l ls
theorem rdyG_iff {ls : List Bool} : ∀ (l : List Oper) (r : List Bool) (k i : Nat), l.length = r.length → (i ∈ rdyG ls k l r ↔ ∃ j o, i = k + j ∧ r[j]? = some false ∧ l[j]? = some o ∧ rdyF ls o = true)
  | [], [], k, i, _ => by simp [rdyG]
  | [], _ :: _, _, _, h => by cases h
  | _ :: _, [], _, _, h => by cases h
  | o :: l, b :: r, k, i, h => by
    have ih := rdyG_iff (ls := ls) l r (k + 1) i (by simpa using h)
    have key : (∃ j q, i = k + j ∧ (b :: r)[j]? = some false ∧ (o :: l)[j]? = some q ∧ rdyF ls q = true) ↔ (i = k ∧ b = false ∧ rdyF ls o = true) ∨ i ∈ rdyG ls (k + 1) l r := by
      rw [ih]
      constructor
      · rintro ⟨j, q, h1, h2, h3, h4⟩
        cases j with
        | zero =>
          simp only [List.getElem?_cons_zero, Option.some.injEq] at h2 h3
          subst h3
          exact .inl ⟨by omega, h2, h4⟩
        | succ j =>
          simp only [List.getElem?_cons_succ] at h2 h3
          exact .inr ⟨j, q, by omega, h2, h3, h4⟩
      · rintro (⟨h1, h2, h3⟩ | ⟨j, q, h1, h2, h3, h4⟩)
        · exact ⟨0, o, by omega, by simp [h2], by simp, h3⟩
        · exact ⟨j + 1, q, by omega, by simpa using h2, by simpa using h3, h4⟩
    rw [key, rdyG]
    cases b with
    | true => simp
    | false =>
      cases hf : rdyF ls o with
      | true => simp
      | false => simp
theorem rdy_iff {l : List Oper} {ls : List Bool} (h : l.length = ls.length) (i : Nat) : i ∈ Region.ready .any l.toArray ls.toArray ↔ i ∈ rdy l ls := by
  unfold rdy
  rw [rdyG_iff l ls 0 i h]
  unfold Region.ready
  rw [List.mem_filter, List.mem_range, Bool.and_eq_true]
  have hall : ∀ o : Oper, (o.after.all fun e => !Region.binds .any e || ls.toArray.getD e.on false) = rdyF ls o := fun o => by
    unfold rdyF
    rw [← Array.all_toList]
    congr 1
    funext e
    congr 1
    simp [Array.getD_eq_getD_getElem?, List.getD_eq_getElem?_getD]
  constructor
  · rintro ⟨h1, h2, h3⟩
    have h1' : i < l.length := by simpa using h1
    have h1'' : i < ls.length := by omega
    refine ⟨i, l[i], by omega, ?_, List.getElem?_eq_getElem h1', ?_⟩
    · rw [List.getElem?_eq_getElem h1'']
      simpa [Array.getD_eq_getD_getElem?, h1''] using h2
    · have : l.toArray[i]? = some l[i] := by simp [h1']
      rw [this, Option.map_some, Option.getD_some, hall] at h3
      exact h3
  · rintro ⟨j, o, h1, h2, h3, h4⟩
    rw [Nat.zero_add] at h1
    subst h1
    have h5 := (List.getElem?_eq_some_iff.1 h3).1
    refine ⟨by simpa using h5, ?_, ?_⟩
    · simp [Array.getD_eq_getD_getElem?, h2]
    · have : l.toArray[i]? = some o := by simpa using h3
      rw [this, Option.map_some, Option.getD_some, hall]
      exact h4
def forceB {α : Type} : List Bool → (List Bool → Option α) → Option α
  | [], k => k []
  | b :: l, k => match b with
    | true => forceB l fun l' => k (true :: l')
    | false => forceB l fun l' => k (false :: l')
theorem forceB_eq {α : Type} : ∀ (l : List Bool) (k : List Bool → Option α), forceB l k = k l
  | [], k => rfl
  | b :: l, k => by cases b <;> rw [forceB, forceB_eq]
/-- Behind the region N holds, in whatever order what is left of it goes. -/
def liftN (X : Cx) (N : AS → Prop) : Exit → Act → World → Prop
  | .normal, a, w => ∃ σ, N σ ∧ Rel X σ a w
  | _, _, _ => False
def EnC (X : Cx) (l : List Oper) (N : AS → Prop) (f : Nat) (ls : List Bool) (σ : AS) : Prop := l.length = ls.length → ∀ a w, Rel X σ a w → wpAny X.P .any l.toArray (liftN X N) f ls.toArray a w
def EcEach (X : Cx) (l : List Oper) (N : AS → Prop) (f : Nat) (ls : List Bool) (σ : AS) (is : List Nat) : Prop := ∀ i ∈ is, ∃ o, l[i]? = some o ∧ o.guard = none ∧ OpOk X o σ (EnC X l N f (ls.set i true))
/-- Whatever the world is, the operation yields a value that shows v. -/
def PY (X : Cx) (o : Oper) (σ : AS) (v : AV) : Prop := ∀ a w en, Rel1 X σ a w en → ∃ u, (∀ w', (execOp a.eval o).run X.P w' = .ok (.value u) w') ∧ v.shows w en (IM X en w) u
def isPure : Op → Bool
  | .move _ => true
  | .fieldAddr _ _ _ => true
  | _ => false
/-- The first that may go now and is a copy or an address. -/
def pureIx (l : List Oper) : List Nat → Option (Nat × Oper)
  | [] => none
  | i :: is => match l[i]? with
    | some o => bif o.guard.isNone && isPure o.op then some (i, o) else pureIx l is
    | none => pureIx l is
theorem pureIx_spec {l : List Oper} {is : List Nat} {i : Nat} {o : Oper} (h : pureIx l is = some (i, o)) : i ∈ is ∧ l[i]? = some o ∧ o.guard = none := by
  induction is with
  | nil => cases h
  | cons j is ih =>
    have key : pureIx l is = some (i, o) → i ∈ j :: is ∧ l[i]? = some o ∧ o.guard = none := fun h => ⟨List.mem_cons_of_mem _ (ih h).1, (ih h).2⟩
    rw [pureIx] at h
    cases hq : l[j]? with
    | none => rw [hq] at h; exact key h
    | some q =>
      rw [hq] at h
      dsimp only at h
      cases hb : q.guard.isNone && isPure q.op with
      | false => rw [hb] at h; exact key h
      | true =>
        rw [hb] at h
        injection h with h
        injection h with h1 h2
        subst h1
        subst h2
        rw [Bool.and_eq_true, Option.isNone_iff_eq_none] at hb
        exact ⟨List.mem_cons_self, hq, hb.1⟩
section
variable {X : Cx} {l : List Oper} {N : AS → Prop} {σ : AS} {f : Nat} {ls : List Bool}
theorem rdy_nil (hl : l.length = ls.length) (h : rdy l ls = []) : Region.ready .any l.toArray ls.toArray = [] := by
  rw [List.eq_nil_iff_forall_not_mem]
  intro i hi
  rw [rdy_iff hl, h] at hi
  cases hi
theorem ec_end (h : (rdy l ls).isEmpty = true) (hN : N σ) : EnC X l N f ls σ := fun hl a w hr => by
  rw [List.isEmpty_iff] at h
  exact wpAny_done (rdy_nil hl h) ⟨σ, hN, hr⟩ f
theorem ec_go {i : Nat} {is : List Nat} (h : forceNs (rdy l ls) some = some (i :: is)) (hK : EcEach X l N f ls σ (i :: is)) : EnC X l N (f + 1) ls σ := fun hl a w hr => by
  rw [forceNs_eq] at h
  injection h with h
  refine ⟨fun h0 => ?_, fun j hj => ?_⟩
  · have : i ∈ Region.ready .any l.toArray ls.toArray := by rw [rdy_iff hl, h]; exact List.mem_cons_self
    rw [h0] at this
    cases this
  · rw [rdy_iff hl, h] at hj
    obtain ⟨o, g1, g2, g3⟩ := hK j hj
    unfold wpOp
    have g4 : l.toArray[j]? = some o := by simpa using g1
    rw [g4]
    simp only [Region.wanted, g2, if_true]
    refine .inl (g3 a w hr _ _ fun σ' a' w' hk hr' => ?_)
    have := hk (by simpa using hl) a' w' hr'
    simpa using this
theorem ec_none : EcEach X l N f ls σ [] := fun _ h => by cases h
theorem ec_each {i : Nat} {is : List Nat} {o : Oper} {ls' : List Bool} (ho : l[i]? = some o) (hg : o.guard = none) (hl : forceB (ls.set i true) some = some ls') (h1 : OpOk X o σ (EnC X l N f ls')) (h2 : EcEach X l N f ls σ is) : EcEach X l N f ls σ (i :: is) := fun j hj => by
  rw [forceB_eq] at hl
  injection hl with hl
  subst hl
  rcases List.mem_cons.1 hj with rfl | hj
  · exact ⟨o, ho, hg, h1⟩
  · exact h2 j hj
/-- A copy or an address first. -/
theorem ec_pure {i t : Nat} {o : Oper} {v : AV} {ls' : List Bool} (hi : pureIx l (rdy l ls) = some (i, o)) (hd : o.dst = some t) (ht : Nat.blt t σ.nt = true) (hs : Region.noSelect l.toArray = true) (hf : Region.free .any l.toArray ls.toArray i = true)
    (hl : forceB (ls.set i true) some = some ls') (hy : PY X o σ v) (hK : EnC X l N f ls' (σ.put t v)) : EnC X l N (f + 1) ls σ := fun hlen a w hr => by
  obtain ⟨h1, h2, h3⟩ := pureIx_spec hi
  obtain ⟨en, hr⟩ := hr
  obtain ⟨u, g1, g2⟩ := hy a w en hr
  rw [forceB_eq] at hl
  injection hl with hl
  subst hl
  refine wpAny_take (oi := o) (v := u) (by simpa using h2) hs hf (by rw [List.contains_iff_mem, rdy_iff hlen]; exact h1) (fun _ _ _ h => h.elim) (.inl ⟨by simp only [Region.wanted, h3], fun w' => g1 w'⟩) ?_
  have := hK (by simpa using hlen) (a.put o.dst u) w ⟨en, by rw [hd]; exact hr.put g2 ht⟩
  simpa using this
end
theorem awp_enum (id : Nat) {X : Cx} {l : List Oper} {Q : Exit → AS → Prop} {σ σ' : AS} {ls : List Bool} (hm : X.P.follows .mixedOrders = true) (hn : normK σ = some σ') (hl : forceB (l.map fun _ => false) some = some ls) (h : EnC X l (Q .normal) l.length ls σ') : AWp X (.region id l.toArray true) Q σ := by
  rw [forceB_eq] at hl
  injection hl with hl
  subst hl
  refine awp_norm hn (fun a w hr => ?_)
  refine wp_mono (Q := liftN X (Q .normal)) (wp_region_any hm ?_) (fun e a w h => ?_)
  · have e : Array.replicate l.toArray.size false = (l.map fun _ => false).toArray := by simp [List.map_const']
    rw [e]
    simpa using h (by simp) a _ (hr.ext (Ext.drew w))
  · cases e with
    | normal => exact h
    | _ => exact h.elim
section
variable {X : Cx} {σ : AS} {o : Oper}
theorem py_move {v : AV} {x : Operand} (ho : o.op = .move x) (hx : σ.ev x = v) : PY X o σ v := fun a w en h => ⟨_, fun w' => by simp only [execOp, ho]; rfl, ev_of h hx⟩
theorem py_field {T : TypeId} {x : Operand} {f off : Nat} {ft : TypeId} {v : AV} [ti : TI X.P T] (ho : o.op = .fieldAddr T x f) (hf : fieldOff ti.desc f = some (off, ft)) [tf : TI X.P ft] (hz : Nat.beq tf.size 0 = false)
    (hx : σ.ev x = v) (ha : v.isAddr = true) : PY X o σ (v.offset off) := fun a w en h => by
    have h1 := ev_of h hx
    obtain ⟨b, k, e⟩ := addr_shows ha h1
    refine ⟨_, fun w' => ?_, offset_shows h1 e off⟩
    unfold fieldOff at hf
    have hu := ti.und
    split at hf
    · rename_i fs hde
      rw [hde] at hu
      obtain ⟨i, h2, _, h3, _⟩ := tf.parts
      cases hq : fs[f]? with
      | none => rw [hq] at hf; cases hf
      | some fd =>
        rw [hq] at hf
        simp only [Option.map_some, Option.some.injEq, Prod.mk.injEq] at hf
        obtain ⟨e1, e2⟩ := hf
        have hz' : ¬ i.size = 0 := by
          rw [h3]; intro e0
          rw [e0] at hz
          cases hz
        simp [execOp, ho, e, Instr.fieldAt, run_underlying hu, hq, Instr.sureAddr, fieldPlace, sizeOf, typeInfo, e2, h2, hz', e1, Sem.run_pure, add_lit']
    · cases hf
end

/-! ### Nil as an empty list -/
mutual
def AV.den : AV → AV
  | .nil => .d (.sl [])
  | .agg xs => .agg (denL xs)
  | .tup xs => .tup (denL xs)
  | .any => .any
  | .d x => .d x
  | .row o => .row o
  | .ptr o i => .ptr o i
  | .pr o i j => .pr o i j
  | .pd e i => .pd e i
def denL : List AV → List AV
  | [] => []
  | x :: xs => x.den :: denL xs
end
section
variable {w : World} {en : List Ent} {I : Nat → Prop}
mutual
theorem AV.shows_den : ∀ (x : AV) (u : Value), x.shows w en I u → x.den.shows w en I u
  | .nil, u, h => by
    rw [show u = .slice none 0 0 from h]
    exact ⟨[], ⟨none, 0, 0, [], [], rfl, Nat.le_refl _, Nat.zero_le _, fun _ => rfl, by simp, ⟨rfl, rfl⟩, .inl ⟨rfl, rfl⟩⟩, by simp⟩
  | .agg xs, u, h => by
    obtain ⟨us, h1, h2⟩ := h
    exact ⟨us, h1, showsL_den xs us h2⟩
  | .tup xs, u, h => by
    obtain ⟨us, h1, h2⟩ := h
    exact ⟨us, h1, showsL_den xs us h2⟩
  | .any, _, h => h
  | .d _, _, h => h
  | .row _, _, h => h
  | .ptr _ _, _, h => h
  | .pr _ _ _, _, h => h
  | .pd _ _, _, h => h
theorem showsL_den : ∀ (xs : List AV) (us : List Value), showsL w en I xs us → showsL w en I (denL xs) us
  | [], _, h => h
  | x :: xs, us, h => by
    obtain ⟨u, us', h1, h2, h3⟩ := h
    exact ⟨u, us', h1, AV.shows_den x u h2, showsL_den xs us' h3⟩
end
end
/-- Slot t's nils are empty lists. -/
theorem awp_den (t : Nat) {X : Cx} {c : Code} {Q : Exit → AS → Prop} {σ : AS} (h : AWp X c Q (σ.put t (look σ.sl t).den)) : AWp X c Q σ := fun a w ⟨en, hr⟩ => by
  refine h a w ⟨en, ⟨hr.mem, hr.ob, hr.defers, hr.size, fun s => ?_⟩⟩
  simp only [AS.put, look_cons]
  split
  · rename_i e
    subst e
    exact AV.shows_den _ _ (hr.slots t)
  · exact hr.slots s
end Go.Proofs.Ythmajaeekkbnnaa
