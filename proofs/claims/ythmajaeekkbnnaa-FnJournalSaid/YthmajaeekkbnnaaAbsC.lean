/-
  Abstract states and the walk's structural rules.
-/
import Derived.Test.YthmajaeekkbnnaaAbsB
namespace Go.Proofs.Ythmajaeekkbnnaa
open Go Go.RowKit

/-- What the table says of a type. -/
class TI (P : Program) (T : TypeId) where
  desc : TypeDesc
  und : P.underlying T = some desc
  zero : Value
  size : Nat
  bytes : Nat
  info : (P.info? T).map (fun i => (i.zero, i.size, i.bytes)) = some (some zero, size, bytes)
theorem TI.parts {P : Program} {T : TypeId} (ti : TI P T) : ∃ i, P.info? T = some i ∧ i.zero = some ti.zero ∧ i.size = ti.size ∧ i.bytes = ti.bytes := info_parts ti.info
theorem TI.sized {P : Program} {T : TypeId} (ti : TI P T) : (P.info? T).map (·.size) = some ti.size := by
  obtain ⟨i, h1, h2, h3, h4⟩ := ti.parts
  rw [h1]; simp [h3]

/-- What is known of a frame (slots; the first entry of a slot counts) and of the call's own objects. -/
structure AS where
  nt : Nat
  sl : List (Nat × AV)
  ob : List (Nat × AO)
def look : List (Nat × AV) → Nat → AV
  | [], _ => .any
  | (k, x) :: l, t => bif Nat.beq k t then x else look l t
def lookO : List (Nat × AO) → Nat → Option AO
  | [], _ => none
  | (k, x) :: l, t => bif Nat.beq k t then some x else lookO l t
def AS.put (σ : AS) (t : Nat) (v : AV) : AS := { σ with sl := (t, v) :: σ.sl }
def ofConst : Value → AV
  | .int k n => .d (.n k n)
  | .bool b => .d (.b b)
  | .string s => .d (.s s.data.toList)
  | .slice none 0 0 => .nil
  | _ => .any
def AS.ev (σ : AS) : Operand → AV
  | .tmp t => look σ.sl t
  | .const v => ofConst v
  | _ => .any
/-- The run's givens: the program, the world at the call, the blocks that came in to be read (Z) and to be owned (O). -/
structure Cx where
  P : Program
  w0 : World
  fre : Nat → Bool
  Z : ZV fre
  O : Nat → Prop
  tt : (T : TypeId) → Option (TI P T)
def Ent.key (x : Ent) : Nat × AO := (x.nm, x.ao)
structure Rel1 (X : Cx) (σ : AS) (a : Act) (w : World) (en : List Ent) : Prop where
  mem : Mem X.P X.w0 X.Z X.O en w
  ob : (en.map Ent.key).Perm σ.ob
  defers : a.defers = []
  size : a.tmps.size = σ.nt
  slots : ∀ t, (look σ.sl t).shows w en (Imm X.w0 X.Z X.O en w) (a.tmps.getD t undef)
def Rel (X : Cx) (σ : AS) (a : Act) (w : World) : Prop := ∃ en, Rel1 X σ a w en
/-- The blocks that nothing writes. -/
abbrev IM (X : Cx) (en : List Ent) (w : World) : Nat → Prop := Imm X.w0 X.Z X.O en w

theorem beq_spec (a b : Nat) : Nat.beq a b = true ↔ a = b := by rw [Nat.beq_eq]
theorem blt_spec {a b : Nat} (h : Nat.blt a b = true) : a < b := by rwa [Nat.blt_eq] at h
theorem look_cons (k : Nat) (x : AV) (l : List (Nat × AV)) (t : Nat) : look ((k, x) :: l) t = if k = t then x else look l t := by
  simp only [look]
  by_cases h : k = t
  · have : Nat.beq k t = true := (beq_spec k t).2 h
    rw [this, if_pos h]; rfl
  · have : Nat.beq k t = false := by cases hb : Nat.beq k t with | false => rfl | true => exact absurd ((beq_spec k t).1 hb) h
    rw [this, if_neg h]; rfl
theorem lookO_cons (k : Nat) (x : AO) (l : List (Nat × AO)) (t : Nat) : lookO ((k, x) :: l) t = if k = t then some x else lookO l t := by
  simp only [lookO]
  by_cases h : k = t
  · have : Nat.beq k t = true := (beq_spec k t).2 h
    rw [this, if_pos h]; rfl
  · have : Nat.beq k t = false := by cases hb : Nat.beq k t with | false => rfl | true => exact absurd ((beq_spec k t).1 hb) h
    rw [this, if_neg h]; rfl
theorem lookO_mem : ∀ {l : List (Nat × AO)} {t : Nat} {x : AO}, lookO l t = some x → (t, x) ∈ l
  | [], _, _, h => by cases h
  | (k, y) :: l, t, x, h => by
    rw [lookO_cons] at h
    split at h
    · rename_i hk
      injection h with h
      subst hk; subst h
      exact List.mem_cons_self
    · exact List.mem_cons_of_mem _ (lookO_mem h)
theorem Rel1.ent {X : Cx} {σ : AS} {a : Act} {w : World} {en : List Ent} (h : Rel1 X σ a w en) {o : Nat} {x : AO} (ho : lookO σ.ob o = some x) : ∃ y ∈ en, y.nm = o ∧ y.ao = x := by
  have := h.ob.mem_iff.2 (lookO_mem ho)
  rw [List.mem_map] at this
  obtain ⟨y, hy, e⟩ := this
  injection e with e1 e2
  exact ⟨y, hy, e1, e2⟩
theorem bytes_eta (s : ByteArray) : (⟨s.data.toList.toArray⟩ : ByteArray) = s := by simp
theorem AS.ev_shows {X : Cx} {σ : AS} {a : Act} {w : World} {en : List Ent} (h : Rel1 X σ a w en) (x : Operand) : (σ.ev x).shows w en (IM X en w) (a.eval x) := by
  cases x with
  | tmp t => exact h.slots t
  | const v =>
    simp only [AS.ev, Act.eval]
    unfold ofConst
    split
    · exact ⟨[], ⟨rfl, rfl⟩, by simp⟩
    · exact ⟨[], ⟨rfl, rfl⟩, by simp⟩
    · rename_i s
      exact ⟨[], ⟨by rw [bytes_eta], rfl⟩, by simp⟩
    · rfl
    · trivial
  | global g => trivial
  | func f => trivial
theorem ev_of {X : Cx} {σ : AS} {a : Act} {w : World} {en : List Ent} (h : Rel1 X σ a w en) {x : Operand} {v : AV} (hv : σ.ev x = v) : v.shows w en (IM X en w) (a.eval x) := hv ▸ AS.ev_shows h x
theorem Rel1.put {X : Cx} {σ : AS} {a : Act} {w : World} {en : List Ent} (h : Rel1 X σ a w en) {t : Nat} {v : AV} {u : Value} (hv : v.shows w en (IM X en w) u) (ht : Nat.blt t σ.nt = true) : Rel1 X (σ.put t v) (a.put (some t) u) w en := by
  have ht' : t < a.tmps.size := by rw [h.size]; exact blt_spec ht
  refine ⟨h.mem, h.ob, h.defers, by simp [Act.put, AS.put, h.size], fun s => ?_⟩
  simp only [AS.put, look_cons, Act.put]
  by_cases hs : t = s
  · subst hs
    rw [if_pos rfl]
    have : (a.tmps.setIfInBounds t u).getD t undef = u := by simp [Array.getD, ht']
    rw [this]
    exact hv
  · rw [if_neg hs]
    have : (a.tmps.setIfInBounds t u).getD s undef = a.tmps.getD s undef := by
      simp only [Array.getD_eq_getD_getElem?, Array.getElem?_setIfInBounds_ne hs]
    rw [this]
    exact h.slots s

/-! ### One object changes -/
def restE (p : Nat → Bool) (o : Nat) (en : List Ent) : List Ent := (en.filter (fun y => y.nm != o)).map (Ent.cut p)
section swap
variable {P : Program} {w0 : World} {f : Nat → Bool} {Z : ZV f} {O : Nat → Prop} {en : List Ent} {w w' : World} {o : Nat} {x' : Ent} {p : Nat → Bool}
theorem mem_restE {y : Ent} (hy : y ∈ restE p o en) : ∃ z ∈ en, z.nm ≠ o ∧ y = z.cut p := by
  simp only [restE, List.mem_map, List.mem_filter, bne_iff_ne] at hy
  obtain ⟨z, ⟨h1, h2⟩, rfl⟩ := hy
  exact ⟨z, h1, h2, rfl⟩
theorem restE_mem {z : Ent} (hz : z ∈ en) (ho : z.nm ≠ o) : z.cut p ∈ restE p o en := by
  simp only [restE, List.mem_map, List.mem_filter, bne_iff_ne]
  exact ⟨z, ⟨hz, ho⟩, rfl⟩
/-- What a step that changes one object keeps. -/
structure Swap {f : Nat → Bool} (P : Program) (w0 : World) (Z : ZV f) (O : Nat → Prop) (en : List Ent) (w w' : World) (o : Nat) (x' : Ent) (p : Nat → Bool) : Prop where
  mem : Mem P w0 Z O en w
  hp : ∀ n, n ≠ o → p n = true
  hk : p o = true → ∀ x ∈ en, x.nm = o → Like x x'
  os : w'.os = w.os
  tape : w'.tape = w.tape
  output : w'.output = w.output
  hsz : w.heap.size ≤ w'.heap.size
  hS : ∀ b, b < w.heap.size → (∀ x ∈ en, x.nm = o → blk x.val ≠ some b) → Same w w' b
  hb : ∀ b, blk x'.val = some b → w.heap.size ≤ b ∨ ∃ x ∈ en, x.nm = o ∧ blk x.val = some b
  nm : x'.nm = o
  fx : Z.fx o x'.val
variable (h : Swap P w0 Z O en w w' o x' p)
include h
theorem Swap.imm {b : Nat} (hi : Imm w0 Z O en w b) : Imm w0 Z O (x' :: restE p o en) w' b := by
  refine ⟨hi.1, Nat.lt_of_lt_of_le hi.2.1 h.hsz, fun y hy => ?_⟩
  rcases List.mem_cons.1 hy with rfl | hy
  · intro hb
    rcases h.hb b hb with h1 | ⟨x, hx, _, h1⟩
    · have := hi.2.1; omega
    · exact hi.2.2 x hx h1
  · obtain ⟨z, hz, _, rfl⟩ := mem_restE hy
    exact hi.2.2 z hz
theorem Swap.same {b : Nat} (hi : Imm w0 Z O en w b) : Same w w' b := h.hS b hi.2.1 (fun x hx _ => hi.2.2 x hx)
theorem Swap.like : ∀ x ∈ en, p x.nm = true → ∃ y ∈ x' :: restE p o en, Like x y := by
  intro x hx hpx
  by_cases ho : x.nm = o
  · exact ⟨x', List.mem_cons_self, h.hk (ho ▸ hpx) x hx ho⟩
  · exact ⟨x.cut p, List.mem_cons_of_mem _ (restE_mem hx ho), rfl, rfl, AO.cut_isRow p x.ao, AO.cut_lens p x.ao⟩
theorem Swap.shows {v : AV} {u : Value} (hv : v.shows w en (Imm w0 Z O en w) u) : (v.cut p).shows w' (x' :: restE p o en) (Imm w0 Z O (x' :: restE p o en) w') u :=
  AV.shows_cut h.hsz (fun _ hb => h.same hb) (fun _ hb => h.imm hb) h.like v u hv
theorem Swap.showsL {v : List AV} {u : List Value} (hv : showsL w en (Imm w0 Z O en w) v u) : showsL w' (x' :: restE p o en) (Imm w0 Z O (x' :: restE p o en) w') (cutL p v) u :=
  showsL_cut h.hsz (fun _ hb => h.same hb) (fun _ hb => h.imm hb) h.like v u hv
theorem Swap.done (hok : EntOk P (Frs w0 O) w' (x' :: restE p o en) (Imm w0 Z O (x' :: restE p o en) w') x')
    (hd : x'.ao.deep = true → ∀ y ∈ en, y.nm ≠ o → y.ao.deep = true → ∀ b ∈ x'.fs, b ∉ y.fs) : Mem P w0 Z O (x' :: restE p o en) w' := by
  have m := h.mem
  have hother : ∀ y ∈ en, y.nm ≠ o → ∀ b, blk y.val = some b → Same w w' b := fun y hy hn b hb =>
    h.hS b ((m.ok y hy).lt hb).1 (fun x hx ho hb' => m.blk_ne hy hx (fun e => hn (e.trans ho)) hb hb')
  refine ⟨h.os.trans m.os, h.tape.trans m.tape, h.output.trans m.output, Nat.le_trans m.size h.hsz, ?_, ?_, ?_, ?_, ?_, fun y hy => ?_⟩
  · intro b hb hO
    refine (h.hS b (Nat.lt_of_lt_of_le hb m.size) (fun x hx _ hbx => ?_)).trans (m.old b hb hO)
    rcases ((m.ok x hx).lt hbx).2 with h1 | h1
    · exact hO h1
    · omega
  · simp only [List.map_cons, List.nodup_cons, h.nm]
    refine ⟨?_, ?_⟩
    · intro hm
      obtain ⟨y, hy, e⟩ := List.mem_map.1 hm
      obtain ⟨z, _, hz, rfl⟩ := mem_restE hy
      exact hz e
    · have : (restE p o en).map Ent.nm = (en.filter (fun y => y.nm != o)).map Ent.nm := by
        simp only [restE, List.map_map]
        rfl
      rw [this]
      exact List.Nodup.sublist (List.Sublist.map _ List.filter_sublist) m.names
  · rw [List.pairwise_cons]
    refine ⟨fun y hy b hb hby => ?_, ?_⟩
    · obtain ⟨z, hz, hzn, rfl⟩ := mem_restE hy
      rcases h.hb b hb with h1 | ⟨x, hx, hxo, h1⟩
      · have := ((m.ok z hz).lt hby).1; omega
      · exact m.blk_ne hx hz (fun e => hzn (e ▸ hxo)) h1 hby
    · refine List.Pairwise.map _ (fun x y hxy => hxy) (List.Pairwise.sublist List.filter_sublist m.blks)
  · intro y hy
    rcases List.mem_cons.1 hy with rfl | hy
    · exact hok
    · obtain ⟨z, hz, hzn, rfl⟩ := mem_restE hy
      exact (m.ok z hz).mono h.hsz (fun _ hb => h.same hb) (fun _ hb => h.imm hb) (fun _ hb => hb) (hother z hz hzn) h.like
  · rw [List.pairwise_cons]
    refine ⟨fun y hy hdx hdy b hb hby => ?_, ?_⟩
    · obtain ⟨z, hz, hzn, rfl⟩ := mem_restE hy
      exact hd hdx z hz hzn (by rw [← AO.cut_deep p]; exact hdy) b hb hby
    · refine List.Pairwise.map _ (fun x y hxy h1 h2 => ?_) (List.Pairwise.sublist List.filter_sublist m.apart)
      exact hxy (by rw [← AO.cut_deep p]; exact h1) (by rw [← AO.cut_deep p]; exact h2)
  · rcases List.mem_cons.1 hy with rfl | hy
    · rw [h.nm]; exact h.fx
    · obtain ⟨z, hz, _, rfl⟩ := mem_restE hy
      exact m.fix z hz
end swap
def cutS (p : Nat → Bool) (sl : List (Nat × AV)) : List (Nat × AV) := sl.map fun y => (y.1, y.2.cut p)
def restO (p : Nat → Bool) (o : Nat) (ob : List (Nat × AO)) : List (Nat × AO) := (ob.filter (fun y => y.1 != o)).map fun y => (y.1, y.2.cut p)
def dropO (o : Nat) (ob : List (Nat × AO)) : List (Nat × AO) := ob.filter (fun y => y.1 != o)
theorem restO_true (o : Nat) (ob : List (Nat × AO)) : restO (fun _ => true) o ob = dropO o ob := by
  unfold restO dropO
  have : (fun (y : Nat × AO) => (y.1, y.2.cut fun _ => true)) = id := by funext y; simp [AO.cut_true]
  rw [this, List.map_id]
theorem look_cut (p : Nat → Bool) : ∀ (sl : List (Nat × AV)) (t : Nat), look (cutS p sl) t = (look sl t).cut p
  | [], _ => rfl
  | (k, x) :: l, t => by
    have ih := look_cut p l t
    simp only [cutS] at ih
    simp only [cutS, List.map_cons, look_cons]
    split
    · rfl
    · exact ih
theorem Rel1.swap {X : Cx} {σ : AS} {a : Act} {w w' : World} {en : List Ent} (h : Rel1 X σ a w en) {o : Nat} {x' : Ent} {p : Nat → Bool} (hs : Swap X.P X.w0 X.Z X.O en w w' o x' p)
    (hok : EntOk X.P (Frs X.w0 X.O) w' (x' :: restE p o en) (IM X (x' :: restE p o en) w') x')
    (hd : x'.ao.deep = true → ∀ y ∈ en, y.nm ≠ o → y.ao.deep = true → ∀ b ∈ x'.fs, b ∉ y.fs) :
    Rel1 X ⟨σ.nt, cutS p σ.sl, (o, x'.ao) :: restO p o σ.ob⟩ a w' (x' :: restE p o en) := by
  refine ⟨hs.done hok hd, ?_, h.defers, h.size, fun t => ?_⟩
  · simp only [List.map_cons, Ent.key, hs.nm]
    refine List.Perm.cons _ ?_
    have e : (restE p o en).map Ent.key = restO p o (en.map Ent.key) := by
      simp only [restO, restE, List.map_map, List.filter_map]
      rfl
    rw [e]
    exact (h.ob.filter _).map _
  · simp only [look_cut]
    exact hs.shows (h.slots t)
theorem cutS_true (sl : List (Nat × AV)) : cutS (fun _ => true) sl = sl := by
  unfold cutS
  have : (fun (y : Nat × AV) => (y.1, y.2.cut fun _ => true)) = id := by funext y; simp [AV.cut_true]
  rw [this, List.map_id]
/-- The same, where nothing forgets the object. -/
theorem Rel1.swap_keep {X : Cx} {σ : AS} {a : Act} {w w' : World} {en : List Ent} (h : Rel1 X σ a w en) {o : Nat} {x' : Ent} (hs : Swap X.P X.w0 X.Z X.O en w w' o x' (fun _ => true))
    (hok : EntOk X.P (Frs X.w0 X.O) w' (x' :: restE (fun _ => true) o en) (IM X (x' :: restE (fun _ => true) o en) w') x')
    (hd : x'.ao.deep = true → ∀ y ∈ en, y.nm ≠ o → y.ao.deep = true → ∀ b ∈ x'.fs, b ∉ y.fs) :
    Rel1 X ⟨σ.nt, σ.sl, (o, x'.ao) :: dropO o σ.ob⟩ a w' (x' :: restE (fun _ => true) o en) := by
  have := h.swap hs hok hd
  rwa [cutS_true, restO_true] at this
/-- A world that keeps all old blocks. -/
theorem Rel1.ext {X : Cx} {σ : AS} {a : Act} {w w' : World} {en : List Ent} (h : Rel1 X σ a w en) (he : Ext w w') : Rel1 X σ a w' en := by
  have m := h.mem
  have hS : ∀ b, b < w.heap.size → Same w w' b := fun b hb => he.block b hb
  have hI : ∀ b, Imm X.w0 X.Z X.O en w b → Imm X.w0 X.Z X.O en w' b := fun b hb => ⟨hb.1, Nat.lt_of_lt_of_le hb.2.1 he.size, hb.2.2⟩
  have hl : ∀ x ∈ en, (fun _ => true) x.nm = true → ∃ y ∈ en, Like x y := fun x hx _ => ⟨x, hx, rfl, rfl, rfl, rfl⟩
  refine ⟨⟨he.os.trans m.os, he.tape.trans m.tape, he.output.trans m.output, Nat.le_trans m.size he.size, fun b hb hO => (hS b (Nat.lt_of_lt_of_le hb m.size)).trans (m.old b hb hO), m.names, m.blks, fun x hx => ?_, m.apart, m.fix⟩, h.ob, h.defers, h.size, fun t => ?_⟩
  · have := (m.ok x hx).mono (p := fun _ => true) (en' := en) (w' := w') (I' := Imm X.w0 X.Z X.O en w') he.size (fun b hb => hS b hb.2.1) hI (fun _ hb => hb) (fun b hb => hS b ((m.ok x hx).lt hb).1) hl
    have e : x.cut (fun _ => true) = x := by cases x; simp [Ent.cut, AO.cut_true]
    rwa [e] at this
  · exact AV.shows_mono he.size (fun b hb => hS b hb.2.1) hI (fun x hx => hl x hx rfl) (h.slots t)

/-! ### Forgetting -/
/-- Does not speak of an object whose name p refuses. -/
def AS.keep (σ : AS) (p : Nat → Bool) : AS := ⟨σ.nt, cutS p σ.sl, (σ.ob.filter fun y => p y.1).map fun y => (y.1, y.2.cut p)⟩
theorem Rel1.keep {X : Cx} {σ : AS} {a : Act} {w : World} {en : List Ent} (h : Rel1 X σ a w en) (p : Nat → Bool) : Rel1 X (σ.keep p) a w ((en.filter fun y => p y.nm).map (Ent.cut p)) := by
  have m := h.mem
  have hmem : ∀ {y : Ent}, y ∈ (en.filter fun y => p y.nm).map (Ent.cut p) → ∃ z ∈ en, p z.nm = true ∧ y = z.cut p := by
    intro y hy
    simp only [List.mem_map, List.mem_filter] at hy
    obtain ⟨z, ⟨h1, h2⟩, rfl⟩ := hy
    exact ⟨z, h1, h2, rfl⟩
  have hI : ∀ b, Imm X.w0 X.Z X.O en w b → Imm X.w0 X.Z X.O ((en.filter fun y => p y.nm).map (Ent.cut p)) w b := fun b hb => ⟨hb.1, hb.2.1, fun y hy => by
    obtain ⟨z, hz, _, rfl⟩ := hmem hy
    exact hb.2.2 z hz⟩
  have hl : ∀ x ∈ en, p x.nm = true → ∃ y ∈ (en.filter fun y => p y.nm).map (Ent.cut p), Like x y := fun x hx hp =>
    ⟨x.cut p, by simp only [List.mem_map, List.mem_filter]; exact ⟨x, ⟨hx, hp⟩, rfl⟩, rfl, rfl, AO.cut_isRow p x.ao, AO.cut_lens p x.ao⟩
  refine ⟨⟨m.os, m.tape, m.output, m.size, m.old, ?_, ?_, ?_, ?_, fun y hy => by
    obtain ⟨z, hz, _, rfl⟩ := hmem hy
    exact m.fix z hz⟩, ?_, h.defers, h.size, fun t => ?_⟩
  · have : ((en.filter fun y => p y.nm).map (Ent.cut p)).map Ent.nm = (en.filter fun y => p y.nm).map Ent.nm := by simp only [List.map_map]; rfl
    rw [this]
    exact List.Nodup.sublist (List.Sublist.map _ List.filter_sublist) m.names
  · exact List.Pairwise.map _ (fun x y hxy => hxy) (List.Pairwise.sublist List.filter_sublist m.blks)
  · intro y hy
    obtain ⟨z, hz, _, rfl⟩ := hmem hy
    exact (m.ok z hz).mono (Nat.le_refl _) (fun _ _ => rfl) hI (fun _ hb => hb) (fun _ _ => rfl) hl
  · refine List.Pairwise.map _ (fun x y hxy h1 h2 => ?_) (List.Pairwise.sublist List.filter_sublist m.apart)
    exact hxy (by rw [← AO.cut_deep p]; exact h1) (by rw [← AO.cut_deep p]; exact h2)
  · have e : ((en.filter fun y => p y.nm).map (Ent.cut p)).map Ent.key = ((en.map Ent.key).filter fun y => p y.1).map fun y => (y.1, y.2.cut p) := by
      simp only [List.map_map, List.filter_map]
      rfl
    rw [e]
    exact (h.ob.filter _).map _
  · simp only [AS.keep, look_cut]
    exact AV.shows_cut (Nat.le_refl _) (fun _ _ => rfl) hI hl _ _ (h.slots t)
end Go.Proofs.Ythmajaeekkbnnaa
