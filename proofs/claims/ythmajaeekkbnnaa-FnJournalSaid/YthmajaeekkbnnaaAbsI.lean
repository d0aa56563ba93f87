/-
  The walk over abstract states: the call of a function under its contract; nil made an object.
-/
import Derived.Test.YthmajaeekkbnnaaAbsH
namespace Go.Proofs.Ythmajaeekkbnnaa
open Go Go.RowKit

/-- Data, as a callee may see them. -/
def snap1 (ob : List (Nat × AO)) : AV → Option AV
  | .d x => some (.d x)
  | .nil => some (.d (.sl []))
  | .row p => match lookO ob p with
    | some (.row _ es _) => some (.d (.sl es))
    | _ => none
  | _ => none
def snapL (ob : List (Nat × AO)) : List AV → Option (List AV)
  | [] => some []
  | x :: xs => match snap1 ob x with
    | some y => match snapL ob xs with
      | some ys => some (y :: ys)
      | none => none
    | none => none
def snapA (ob : List (Nat × AO)) : AV → Option AV
  | .agg xs => match snapL ob xs with
    | some ys => some (.agg ys)
    | none => none
  | x => snap1 ob x
def AS.snaps (σ : AS) : List Operand → Option (List AV)
  | [] => some []
  | x :: xs => match snapA σ.ob (σ.ev x) with
    | some y => match σ.snaps xs with
      | some ys => some (y :: ys)
      | none => none
    | none => none
/-- A row as data. -/
theorem row_data {X : Cx} {σ : AS} {a : Act} {w : World} {en : List Ent} (h : Rel1 X σ a w en) {p : Nat} {e : TypeId} {es : List (List D)} {dp : Bool} (hp : lookO σ.ob p = some (.row e es dp)) :
    ∃ y ∈ en, y.nm = p ∧ y.ao = .row e es dp ∧ ∃ F, (D.sl es).rep w y.val F ∧ ∀ b ∈ F, (b ∈ y.fs ∨ blk y.val = some b) := by
  obtain ⟨y, hy, hyn, hya⟩ := h.ent hp
  have hok := h.mem.ok y hy
  have hlt := fun b hb => (hok.lt (b := b) hb).1
  unfold EntOk at hok
  rw [hya] at hok
  obtain ⟨z, us, k0, k1, k2, k3, k4, k5, k6, k7⟩ := hok
  obtain ⟨A, c, g1, g2, g3, g4, g5⟩ := own_slice k2
  refine ⟨y, hy, hyn, hya, ?_⟩
  by_cases he : es = []
  · subst he
    exact ⟨[], ⟨A, c, z, us, y.fs, g1, g2, g3, g4, k3, k4, .inl ⟨rfl, rfl⟩⟩, by simp⟩
  · have hpos : 0 < es.length := List.length_pos_iff.2 he
    obtain ⟨g, g6⟩ := g5 hpos
    subst g6
    refine ⟨g :: y.fs, ⟨_, c, z, us, y.fs, g1, g2, g3, g4, k3, k4, .inr ⟨he, g, 0, rfl, hlt g (by rw [g1]; rfl), rfl, fun j v hj => ?_⟩⟩, fun b hb => ?_⟩
    · rw [g1] at k2
      have hl := (List.getElem?_eq_some_iff.1 hj).1
      rw [k2.1] at hl
      rw [Nat.zero_add, k2.cellAt j hl]
      exact hj
    · rcases List.mem_cons.1 hb with rfl | hb
      · exact .inr (by rw [g1]; rfl)
      · exact .inl hb
theorem snap1_shows {X : Cx} {σ : AS} {a : Act} {w : World} {en : List Ent} (h : Rel1 X σ a w en) {x y : AV} {u : Value} (hx : snap1 σ.ob x = some y) (hs : x.shows w en (IM X en w) u) : y.shows w [] (fun b => b < w.heap.size) u := by
  cases x with
  | d x =>
    injection hx with hx; subst hx
    obtain ⟨F, h1, _⟩ := hs
    exact ⟨F, h1, D.rep_lt x u F h1⟩
  | nil =>
    injection hx with hx; subst hx
    rw [show u = .slice none 0 0 from hs]
    exact ⟨[], ⟨none, 0, 0, [], [], rfl, Nat.le_refl _, Nat.zero_le _, fun _ => rfl, by simp, ⟨rfl, rfl⟩, .inl ⟨rfl, rfl⟩⟩, by simp⟩
  | row p =>
    simp only [snap1] at hx
    split at hx
    · rename_i e es dp hl
      injection hx with hx; subst hx
      obtain ⟨y, hy, hyn, hya, F, h1, _⟩ := row_data h hl
      obtain ⟨y', hy', e1, e2, e3⟩ := hs
      have := h.mem.ent_unique hy' hy (e1.trans hyn.symm)
      subst this
      subst e3
      exact ⟨F, h1, D.rep_lt _ _ F h1⟩
    · cases hx
  | _ => cases hx
theorem snapL_shows {X : Cx} {σ : AS} {a : Act} {w : World} {en : List Ent} (h : Rel1 X σ a w en) : ∀ {xs ys : List AV} {us : List Value}, snapL σ.ob xs = some ys → showsL w en (IM X en w) xs us → showsL w [] (fun b => b < w.heap.size) ys us
  | [], ys, us, hx, hs => by
    injection hx with hx; subst hx
    exact hs
  | x :: xs, ys, us, hx, hs => by
    obtain ⟨u, us', rfl, h1, h2⟩ := hs
    simp only [snapL] at hx
    split at hx
    · rename_i y hy
      split at hx
      · rename_i zs hzs
        injection hx with hx; subst hx
        exact ⟨u, us', rfl, snap1_shows h hy h1, snapL_shows h hzs h2⟩
      · cases hx
    · cases hx
theorem snapA_shows {X : Cx} {σ : AS} {a : Act} {w : World} {en : List Ent} (h : Rel1 X σ a w en) {x y : AV} {u : Value} (hx : snapA σ.ob x = some y) (hs : x.shows w en (IM X en w) u) : y.shows w [] (fun b => b < w.heap.size) u := by
  cases x with
  | agg xs =>
    simp only [snapA] at hx
    split at hx
    · rename_i ys hys
      injection hx with hx; subst hx
      obtain ⟨us, h1, h2⟩ := hs
      exact ⟨us, h1, snapL_shows h hys h2⟩
    · cases hx
  | d x => exact snap1_shows (x := .d x) h hx hs
  | nil => exact snap1_shows (x := .nil) h hx hs
  | row p => exact snap1_shows (x := .row p) h hx hs
  | ptr p q => exact snap1_shows (x := .ptr p q) h hx hs
  | pr p q r => exact snap1_shows (x := .pr p q r) h hx hs
  | pd p q => exact snap1_shows (x := .pd p q) h hx hs
  | any => exact snap1_shows (x := .any) h hx hs
  | tup p => exact snap1_shows (x := .tup p) h hx hs
theorem snaps_shows {X : Cx} {σ : AS} {a : Act} {w : World} {en : List Ent} (h : Rel1 X σ a w en) : ∀ {xs : List Operand} {ys : List AV}, σ.snaps xs = some ys → showsL w [] (fun b => b < w.heap.size) ys (xs.map a.eval)
  | [], ys, hx => by
    injection hx with hx; subst hx
    rfl
  | x :: xs, ys, hx => by
    simp only [AS.snaps] at hx
    split at hx
    · rename_i y hy
      split at hx
      · rename_i zs hzs
        injection hx with hx; subst hx
        exact ⟨_, _, rfl, snapA_shows h hy (AS.ev_shows h x), snaps_shows h hzs⟩
      · cases hx
    · cases hx

/-! ### The callee's objects under the caller's names -/
def nameOf (t i : Nat) : Nat := t + 1000 * i
mutual
def AV.shift (t : Nat) : AV → AV
  | .row i => .row (nameOf t i)
  | .agg xs => .agg (shiftL t xs)
  | .tup xs => .tup (shiftL t xs)
  | .any => .any
  | .d x => .d x
  | .nil => .nil
  | .ptr o i => .ptr (nameOf t o) i
  | .pr o i j => .pr (nameOf t o) i j
  | .pd e i => .pd e i
def shiftL (t : Nat) : List AV → List AV
  | [] => []
  | x :: xs => x.shift t :: shiftL t xs
end
def shiftO (t : Nat) : List (Nat × AO) → List (Nat × AO)
  | [] => []
  | (i, ao) :: l => (nameOf t i, ao) :: shiftO t l
def freshN (f : Nat → Bool) (t : Nat) (ob : List (Nat × AO)) : List (Nat × AO) → Bool
  | [] => true
  | (i, ao) :: l => ao.isRow && freeN f (nameOf t i) ob && freshN f t ob l
theorem nameOf_inj {t i j : Nat} (h : nameOf t i = nameOf t j) : i = j := by unfold nameOf at h; omega
theorem freshN_spec {f : Nat → Bool} {t : Nat} {ob : List (Nat × AO)} : ∀ {l : List (Nat × AO)}, freshN f t ob l = true → ∀ y ∈ l, y.2.isRow = true ∧ freeN f (nameOf t y.1) ob = true
  | (i, ao) :: l, h, y, hy => by
    simp only [freshN, Bool.and_eq_true] at h
    rcases List.mem_cons.1 hy with rfl | hy
    · exact ⟨h.1.1, h.1.2⟩
    · exact freshN_spec h.2 y hy
theorem shiftO_map (t : Nat) : ∀ (l : List (Nat × AO)), shiftO t l = l.map fun y => (nameOf t y.1, y.2)
  | [] => rfl
  | (i, ao) :: l => by simp [shiftO, shiftO_map t l]
section
variable {w : World} {en en' : List Ent} {I I' : Nat → Prop} {t : Nat}
mutual
theorem AV.shows_shift (hI : ∀ b, I b → I' b) (he : ∀ x ∈ en, ∃ y ∈ en', y.nm = nameOf t x.nm ∧ y.val = x.val ∧ y.ao = x.ao) : ∀ (x : AV) (u : Value), x.shows w en I u → (x.shift t).shows w en' I' u
  | .any, _, _ => trivial
  | .d x, u, h => by
    obtain ⟨F, h1, h2⟩ := h
    exact ⟨F, h1, fun b hb => hI b (h2 b hb)⟩
  | .nil, _, h => h
  | .row o, u, h => by
    obtain ⟨x, hx, rfl, h1, h2⟩ := h
    obtain ⟨y, hy, g1, g2, g3⟩ := he x hx
    exact ⟨y, hy, g1, by rw [g3]; exact h1, by rw [g2]; exact h2⟩
  | .ptr o off, u, h => by
    obtain ⟨x, hx, rfl, h1, g, h2, h3⟩ := h
    obtain ⟨y, hy, g1, g2, g3⟩ := he x hx
    exact ⟨y, hy, g1, by rw [g3]; exact h1, g, by rw [g2]; exact h2, h3⟩
  | .pr o i off, u, h => by
    obtain ⟨x, hx, rfl, h1, g, z, h2, h3, h4, h5⟩ := h
    obtain ⟨y, hy, g1, g2, g3⟩ := he x hx
    exact ⟨y, hy, g1, by rw [g3]; exact h1, g, z, by rw [g2]; exact h2, by rw [g3]; exact h3, by rw [g3]; exact h4, h5⟩
  | .pd e off, u, h => by
    obtain ⟨b, o, us, F, h1, h2, h3, h4, h5⟩ := h
    exact ⟨b, o, us, F, h1, h2, h3, hI b h4, fun c hc => hI c (h5 c hc)⟩
  | .agg xs, u, h => by
    obtain ⟨us, h1, h2⟩ := h
    exact ⟨us, h1, showsL_shift hI he xs us h2⟩
  | .tup xs, u, h => by
    obtain ⟨us, h1, h2⟩ := h
    exact ⟨us, h1, showsL_shift hI he xs us h2⟩
theorem showsL_shift (hI : ∀ b, I b → I' b) (he : ∀ x ∈ en, ∃ y ∈ en', y.nm = nameOf t x.nm ∧ y.val = x.val ∧ y.ao = x.ao) : ∀ (xs : List AV) (us : List Value), showsL w en I xs us → showsL w en' I' (shiftL t xs) us
  | [], _, h => h
  | x :: xs, us, h => by
    obtain ⟨u, us', h1, h2, h3⟩ := h
    exact ⟨u, us', h1, AV.shows_shift hI he x u h2, showsL_shift hI he xs us' h3⟩
end
end
theorem ext_of_mem {P : Program} {w w' : World} {en : List Ent} (m : Mem P w NoZ NoB en w') : Ext w w' := ⟨m.os, m.tape, m.output, m.size, fun b hb => m.old b hb id⟩
/-- What a callee hands out is the caller's own. -/
theorem Rel1.merge {X : Cx} {σ : AS} {a : Act} {w w' : World} {en er : List Ent} {t : Nat} {rob : List (Nat × AO)} {r : AV} {v : Value} (h : Rel1 X σ a w en) (m : Mem X.P w NoZ NoB er w') (hk : (er.map Ent.key).Perm rob) (hr : r.shows w' er (Imm w NoZ NoB er w') v)
    (hf : freshN X.fre t σ.ob rob = true) (ht : Nat.blt t σ.nt = true) : Rel X ⟨σ.nt, (t, r.shift t) :: σ.sl, shiftO t rob ++ σ.ob⟩ (a.put (some t) v) w' := by
  have hx := ext_of_mem m
  have h0 := h.ext hx
  have m0 := h.mem
  have m1 := h0.mem
  have hlt : ∀ y ∈ en, ∀ b, blk y.val = some b → b < w.heap.size := fun y hy b hb => ((m0.ok y hy).lt hb).1
  have hge : ∀ y ∈ er, ∀ b, blk y.val = some b → w.heap.size ≤ b := fun y hy b hb => (((m.ok y hy).lt hb).2).resolve_left id
  have hrow : ∀ y ∈ er, y.ao.isRow = true ∧ freeN X.fre (nameOf t y.nm) σ.ob = true := fun y hy => freshN_spec hf y.key (hk.mem_iff.1 (List.mem_map.2 ⟨y, hy, rfl⟩))
  let g : Ent → Ent := fun y => { y with nm := nameOf t y.nm }
  have hI0 : ∀ b, Imm X.w0 X.Z X.O en w' b → b < w.heap.size → Imm X.w0 X.Z X.O (er.map g ++ en) w' b := fun b hb hbw => ⟨hb.1, hb.2.1, fun y hy => by
    rcases List.mem_append.1 hy with hy | hy
    · obtain ⟨z, hz, rfl⟩ := List.mem_map.1 hy
      intro e
      have := hge z hz b e
      omega
    · exact hb.2.2 y hy⟩
  have hIr : ∀ b, Imm w NoZ NoB er w' b → Imm X.w0 X.Z X.O (er.map g ++ en) w' b := fun b hb => by
    have hbw : w.heap.size ≤ b := (hb.1.resolve_left id).resolve_left id
    refine ⟨.inr (.inr (Nat.le_trans m0.size hbw)), hb.2.1, fun y hy => ?_⟩
    rcases List.mem_append.1 hy with hy | hy
    · obtain ⟨z, hz, rfl⟩ := List.mem_map.1 hy
      exact hb.2.2 z hz
    · intro e
      have := hlt y hy b e
      omega
  have hsh : ∀ (x : AV) (u : Value), x.shows w en (IM X en w) u → x.shows w' (er.map g ++ en) (IM X (er.map g ++ en) w') u := fun x u hxu =>
    AV.shows_mono hx.size (fun b hb => hx.block b hb.2.1) (fun b hb => hI0 b ⟨hb.1, Nat.lt_of_lt_of_le hb.2.1 hx.size, hb.2.2⟩ hb.2.1) (fun y hy => ⟨y, List.mem_append_right _ hy, rfl, rfl, rfl, rfl⟩) hxu
  have hmem : Mem X.P X.w0 X.Z X.O (er.map g ++ en) w' := by
    refine ⟨m1.os, m1.tape, m1.output, m1.size, m1.old, ?_, ?_, ?_, ?_, fun y hy => ?_⟩
    · rw [List.map_append, List.nodup_append]
      refine ⟨?_, m0.names, ?_⟩
      · have : (er.map g).map Ent.nm = (er.map Ent.nm).map (nameOf t) := by simp only [List.map_map]; rfl
        rw [this]
        exact List.Pairwise.map _ (fun x y hxy e => hxy (nameOf_inj e)) m.names
      · intro n hn n' hn' e
        subst e
        obtain ⟨y, hy, e1⟩ := List.mem_map.1 hn
        obtain ⟨z, hz, rfl⟩ := List.mem_map.1 hy
        obtain ⟨q, hq, e2⟩ := List.mem_map.1 hn'
        have h3 := (freeN_spec (hrow z hz).2).1
        have : hasN (nameOf t z.nm) σ.ob = true := hasN_iff.2 ⟨q.key, h.ob.mem_iff.1 (List.mem_map.2 ⟨q, hq, rfl⟩), e2.trans e1.symm⟩
        rw [h3] at this; cases this
    · rw [List.pairwise_append]
      refine ⟨List.Pairwise.map _ (fun x y hxy => hxy) m.blks, m0.blks, fun y hy z hz b hb hb' => ?_⟩
      obtain ⟨q, hq, rfl⟩ := List.mem_map.1 hy
      have h1 := hge q hq b hb
      have h2 := hlt z hz b hb'
      omega
    · intro y hy
      rcases List.mem_append.1 hy with hy | hy
      · obtain ⟨z, hz, rfl⟩ := List.mem_map.1 hy
        have hok := m.ok z hz
        have hzr := (hrow z hz).1
        unfold EntOk at hok
        split at hok
        · rename_i e es dp hao
          obtain ⟨s, us, k0, k1, k2, k3, k4, k5, k6, k7⟩ := hok
          unfold EntOk
          simp only [g, hao]
          exact ⟨s, us, k0, k1, k2, k3, k4, fun b hb => hIr b (k5 b hb), fun q hq => .inr (Nat.le_trans m0.size ((k6 q hq).resolve_left id)), fun hd => ⟨(k7 hd).1, fun b hb => .inr (Nat.le_trans m0.size (((k7 hd).2 b hb).resolve_left id))⟩⟩
        · rename_i e cs hao
          rw [hao] at hzr; cases hzr
      · have h3 := (m0.ok y hy).mono (p := fun _ => true) (w' := w') (en' := er.map g ++ en) (I' := IM X (er.map g ++ en) w') (Fr' := Frs X.w0 X.O) hx.size (fun b hb => hx.block b hb.2.1)
          (fun b hb => hI0 b ⟨hb.1, Nat.lt_of_lt_of_le hb.2.1 hx.size, hb.2.2⟩ hb.2.1) (fun _ hb => hb) (fun b hb => hx.block b (hlt y hy b hb)) (fun y hy _ => ⟨y, List.mem_append_right _ hy, rfl, rfl, rfl, rfl⟩)
        have e : y.cut (fun _ => true) = y := by cases y; simp [Ent.cut, AO.cut_true]
        rwa [e] at h3
    · rw [List.pairwise_append]
      refine ⟨List.Pairwise.map _ (fun x y hxy => hxy) m.apart, m0.apart, fun y hy z hz hdy hdz b hb hb' => ?_⟩
      obtain ⟨q, hq, rfl⟩ := List.mem_map.1 hy
      have h1 : w.heap.size ≤ b := by
        have hok := m.ok q hq
        unfold EntOk at hok
        split at hok
        · rename_i e es dp hao
          obtain ⟨s, us, k0, k1, k2, k3, k4, k5, k6, k7⟩ := hok
          have hd : dp = true := by
            have := hdy
            simp only [g, hao, AO.deep] at this
            exact this
          exact ((k7 hd).2 b hb).resolve_left id
        · rename_i e cs hao
          have := (hrow q hq).1
          rw [hao] at this; cases this
      have h2 : b < w.heap.size := by
        have hok := m0.ok z hz
        unfold EntOk at hok
        split at hok
        · obtain ⟨s, us, k0, k1, k2, k3, k4, k5, _⟩ := hok
          exact (k5 b hb').2.1
        · obtain ⟨k0, _⟩ := hok
          rw [k0] at hb'; cases hb'
      omega
    · rcases List.mem_append.1 hy with hy | hy
      · obtain ⟨z, hz, rfl⟩ := List.mem_map.1 hy
        exact X.Z.lo _ _ (freeN_spec (hrow z hz).2).2
      · exact m0.fix y hy
  have h2 : Rel1 X ⟨σ.nt, σ.sl, shiftO t rob ++ σ.ob⟩ a w' (er.map g ++ en) := by
    refine ⟨hmem, ?_, h.defers, h.size, fun s => hsh _ _ (h.slots s)⟩
    rw [List.map_append]
    refine List.Perm.append ?_ h.ob
    rw [shiftO_map]
    have e : (er.map g).map Ent.key = (er.map Ent.key).map fun y => (nameOf t y.1, y.2) := by simp only [List.map_map]; rfl
    rw [e]
    exact hk.map _
  exact ⟨_, h2.put (AV.shows_shift hIr (fun x hx => ⟨g x, List.mem_append_left _ (List.mem_map.2 ⟨x, hx, rfl⟩), rfl, rfl, rfl⟩) r v hr) ht⟩
section
variable {X : Cx} {σ : AS} {o : Oper} {K : AS → Prop} {t : Nat}
theorem run_call_func {P : Program} {o : Oper} {f : FuncId} {as : Array Operand} {ats : Array TypeId} (ho : o.op = .call { callee := .value (.func f), args := as, argTypes := ats }) (a : Act) (w : World) :
    (execOp a.eval o).run P w = (callFunc f (as.toList.map a.eval).toArray).run P w := by
  have e : as.map a.eval = (as.toList.map a.eval).toArray := by cases as; simp
  simp only [execOp, ho, resolve, e]
  simp [Act.eval, Deferred.ofValue, invoke]
theorem st_call {f : FuncId} {as : Array Operand} {ats : Array TypeId} {xs rs : List AV} {rob : List (Nat × AO)} (hc : ACalls X.P f xs rs rob) (ho : o.op = .call { callee := .value (.func f), args := as, argTypes := ats }) (hd : o.dst = some t)
    (hx : σ.snaps as.toList = some xs) (hf : freshN X.fre t σ.ob rob = true) (ht : Nat.blt t σ.nt = true) (hK : K ⟨σ.nt, (t, (one rs).shift t) :: σ.sl, shiftO t rob ++ σ.ob⟩) : OpOk X o σ K := by
  intro a w hr next Q hn
  obtain ⟨en, h1⟩ := hr
  obtain ⟨h2, h3⟩ := hc w _ (snaps_shows h1 hx)
  unfold Oper.wp
  rw [run_call_func ho, h2, Oper.upon_enter]
  refine h3.mono fun e w' ⟨v, er, he, m, hk, hr⟩ => ?_
  subst he
  rw [hd]
  exact hn _ _ _ hK (h1.merge m hk hr hf ht)
end
end Go.Proofs.Ythmajaeekkbnnaa
