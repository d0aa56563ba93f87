/-
  Nil as an empty list, everywhere.
-/
import Derived.Test.YthmajaeekkbnnaaEnA
namespace Go.Proofs.Ythmajaeekkbnnaa
open Go Go.RowKit

def AO.den : AO → AO
  | .row e es dp => .row e es dp
  | .box e cs => .box e (denL cs)
theorem AO.den_isRow (x : AO) : x.den.isRow = x.isRow := by cases x <;> rfl
theorem AO.den_lens (x : AO) : x.den.lens = x.lens := by cases x <;> rfl
theorem AO.den_deep (x : AO) : x.den.deep = x.deep := by cases x <;> rfl
def AS.dena (σ : AS) : AS := { σ with sl := σ.sl.map fun y => (y.1, y.2.den), ob := σ.ob.map fun y => (y.1, y.2.den) }
def Ent.den (x : Ent) : Ent := { x with ao := x.ao.den }
theorem look_den (t : Nat) : ∀ (l : List (Nat × AV)), look (l.map fun y => (y.1, y.2.den)) t = (look l t).den
  | [] => rfl
  | (s, v) :: l => by
    simp only [List.map_cons, look_cons]
    split
    · rfl
    · exact look_den t l
theorem Rel1.dena {X : Cx} {σ : AS} {a : Act} {w : World} {en : List Ent} (h : Rel1 X σ a w en) : Rel1 X σ.dena a w (en.map Ent.den) := by
  have m := h.mem
  have hI : ∀ b, IM X en w b → IM X (en.map Ent.den) w b := fun b hb => ⟨hb.1, hb.2.1, fun y hy => by
    obtain ⟨z, hz, rfl⟩ := List.mem_map.1 hy
    exact hb.2.2 z hz⟩
  have he : ∀ x ∈ en, ∃ y ∈ en.map Ent.den, Like x y := fun x hx => ⟨x.den, List.mem_map.2 ⟨x, hx, rfl⟩, rfl, rfl, AO.den_isRow _, AO.den_lens _⟩
  have hsh : ∀ (x : AV) (u : Value), x.shows w en (IM X en w) u → x.den.shows w (en.map Ent.den) (IM X (en.map Ent.den) w) u := fun x u hx =>
    AV.shows_den x u (AV.shows_mono (Nat.le_refl _) (fun _ _ => rfl) hI he hx)
  refine ⟨⟨m.os, m.tape, m.output, m.size, m.old, ?_, ?_, ?_, ?_, ?_⟩, ?_, h.defers, h.size, fun t => ?_⟩
  · have : (en.map Ent.den).map Ent.nm = en.map Ent.nm := by simp only [List.map_map]; rfl
    rw [this]
    exact m.names
  · exact List.Pairwise.map _ (fun x y hxy => hxy) m.blks
  · intro y hy
    obtain ⟨z, hz, rfl⟩ := List.mem_map.1 hy
    have hok := m.ok z hz
    unfold EntOk at hok
    split at hok
    · rename_i e es dp hao
      obtain ⟨s, us, k0, k1, k2, k3, k4, k5, k6, k7⟩ := hok
      unfold EntOk
      simp only [Ent.den, hao, AO.den]
      exact ⟨s, us, k0, k1, k2, k3, k4, fun b hb => hI b (k5 b hb), k6, k7⟩
    · rename_i e cs hao
      obtain ⟨k0, q, cur, k1, k2, k3, k4⟩ := hok
      unfold EntOk
      simp only [Ent.den, hao, AO.den]
      refine ⟨k0, q, cur, k1, k2, k3, showsL_den cs _ ?_⟩
      exact showsL_mono (Nat.le_refl _) (fun _ _ => rfl) hI he k4
  · refine List.Pairwise.map _ (fun x y hxy h1 h2 => ?_) m.apart
    exact hxy (by rw [← AO.den_deep]; exact h1) (by rw [← AO.den_deep]; exact h2)
  · intro y hy
    obtain ⟨z, hz, rfl⟩ := List.mem_map.1 hy
    exact m.fix z hz
  · have e1 : (en.map Ent.den).map Ent.key = (en.map Ent.key).map fun y => (y.1, y.2.den) := by simp only [List.map_map]; rfl
    rw [e1]
    exact h.ob.map _
  · simp only [AS.dena, look_den]
    exact hsh _ _ (h.slots t)
section
variable {X : Cx} {σ : AS} {Q : Exit → AS → Prop}
/-- Nils are empty lists from here on. -/
theorem awp_dena {c : Code} (h : AWp X c Q σ.dena) : AWp X c Q σ := fun a w ⟨_, hr⟩ => h a w ⟨_, hr.dena⟩
end
/-! ### A copy or an address first, by the evaluator -/
section
variable {X : Cx} {σ σ' : AS} {o : Oper}
theorem pure_aop (hp : isPure o.op = true) (h : aopV X o σ = some σ') : ∃ t v, o.dst = some t ∧ σ' = σ.put t v ∧ Nat.blt t σ.nt = true ∧ PY X o σ v := by
  cases hd : o.dst with
  | none => rw [aopV, hd] at h; cases h
  | some t =>
    unfold isPure at hp
    split at hp
    · rename_i x ho
      rw [aopV, hd, ho] at h
      obtain ⟨rfl, ht⟩ := vput_spec h
      exact ⟨t, _, rfl, rfl, ht, py_move ho rfl⟩
    · rename_i T x f ho
      rw [aopV, hd, ho] at h
      dsimp only at h
      split at h
      · rename_i ti _
        split at h
        · rename_i off ft hf
          split at h
          · rename_i tf _
            cases hz : Nat.beq tf.size 0 with
            | true => rw [hz] at h; cases h
            | false =>
              rw [hz, cond_false] at h
              split at h
              · rename_i p i hx
                obtain ⟨rfl, ht⟩ := vput_spec h
                exact ⟨t, _, rfl, rfl, ht, py_field (ti := ti) (tf := tf) (v := .ptr p i) ho hf hz hx rfl⟩
              · rename_i p i j hx
                obtain ⟨rfl, ht⟩ := vput_spec h
                exact ⟨t, _, rfl, rfl, ht, py_field (ti := ti) (tf := tf) (v := .pr p i j) ho hf hz hx rfl⟩
              · rename_i e i hx
                obtain ⟨rfl, ht⟩ := vput_spec h
                exact ⟨t, _, rfl, rfl, ht, py_field (ti := ti) (tf := tf) (v := .pd e i) ho hf hz hx rfl⟩
              · cases h
          · cases h
        · cases h
      · cases h
    · cases hp
end
section
variable {X : Cx} {l : List Oper} {N : AS → Prop} {σ σ' : AS} {f : Nat} {ls : List Bool}
theorem ec_take {i : Nat} {o : Oper} {ls' : List Bool} (hi : pureIx l (rdy l ls) = some (i, o)) (hp : isPure o.op = true) (ha : aopV X o σ = some σ') (hs : Region.noSelect l.toArray = true) (hf : Region.free .any l.toArray ls.toArray i = true)
    (hl : forceB (ls.set i true) some = some ls') (hK : EnC X l N f ls' σ') : EnC X l N (f + 1) ls σ := by
  obtain ⟨t, v, h1, h2, h3, h4⟩ := pure_aop hp ha
  subst h2
  exact ec_pure hi h1 h3 hs hf hl h4 hK
theorem opok_frz (p : Nat) {e : TypeId} {es : List (List D)} {dp : Bool} {K : AS → Prop} {o : Oper} (hp : lookO σ.ob p = some (.row e es dp)) (h : OpOk X o (σ.frz p es) K) : OpOk X o σ K := fun a w ⟨_, hr⟩ => h a w ⟨_, hr.frz hp⟩
theorem qok_frz (p : Nat) {e : TypeId} {es : List (List D)} {dp : Bool} {K : AS → Prop} {o : Oper} (hp : lookO σ.ob p = some (.row e es dp)) (h : QOk X o (σ.frz p es) K) : QOk X o σ K := fun a w ⟨_, hr⟩ => h a w ⟨_, hr.frz hp⟩
end
end Go.Proofs.Ythmajaeekkbnnaa
