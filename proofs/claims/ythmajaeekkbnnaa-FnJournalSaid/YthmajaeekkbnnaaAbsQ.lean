/-
  The walk over abstract states: structs compared.
-/
import Derived.Test.YthmajaeekkbnnaaAbsP
namespace Go.Proofs.Ythmajaeekkbnnaa
open Go Go.RowKit

def eqD (d : TypeDesc) (x y : AV) : Option Bool :=
  match d, x, y with
  | .int _, .d (.n k p), .d (.n k' q) => match decEq k k' with
    | .isTrue _ => some (p == q)
    | .isFalse _ => none
  | .bool, .d (.b p), .d (.b q) => some (p == q)
  | .string, .d (.s p), .d (.s q) => some (p == q)
  | _, _, _ => none
mutual
def eqT (X : Cx) (ns : List Nat) : Nat → TypeId → List AV → List AV → Option Bool
  | 0, _, _, _ => none
  | f + 1, T, xs, ys => match X.tt T with
    | some ti => match structD ti.desc with
      | some fs => bif ns.any (fun n => Nat.beq n T) then eqF X ns f fs xs ys else none
      | none => match xs, ys with
        | x :: _, y :: _ => eqD ti.desc x y
        | _, _ => none
    | none => none
def eqF (X : Cx) (ns : List Nat) : Nat → List Field → List AV → List AV → Option Bool
  | _, [], _, _ => some true
  | 0, _, _, _ => none
  | f + 1, fd :: fs, xs, ys => bif fd.name != "_" then (match X.tt fd.type with
    | some tf => match eqT X ns f fd.type ((xs.drop fd.offset).take tf.size) ((ys.drop fd.offset).take tf.size) with
      | some a => match eqF X ns f fs xs ys with
        | some b => some (a && b)
        | none => none
      | none => none
    | none => none) else none
end
theorem no_stand {P : Program} {ns : List Nat} (h : (ns.all fun T => !P.stoodInHeld T) = true) {T : TypeId} (hT : ns.any (fun n => Nat.beq n T) = true) : P.stoodInHeld T = false := by
  rw [List.any_eq_true] at hT
  obtain ⟨n, hn, e⟩ := hT
  rw [List.all_eq_true] at h
  have := h n hn
  rw [(beq_spec _ _).1 e] at this
  simpa using this
theorem eqD_run {P : Program} {w wl : World} {en : List Ent} {I : Nat → Prop} {x y : AV} {u v : Value} {b : Bool} {T : TypeId} {d : TypeDesc} (hu : P.underlying T = some d) (h1 : x.shows wl en I u) (h2 : y.shows wl en I v) (hb : eqD d x y = some b) (n : Nat) :
    (Op.equalIn (n + 1) T u v).run P w = .ok b w := by
  unfold eqD at hb
  split at hb
  · rename_i k p k' q
    split at hb
    · rename_i hk _
      subst hk
      injection hb with hb
      subst hb
      obtain ⟨F, ⟨rfl, _⟩, _⟩ := h1
      obtain ⟨G, ⟨rfl, _⟩, _⟩ := h2
      simp [Op.equalIn, run_underlying hu]
    · cases hb
  · injection hb with hb
    subst hb
    obtain ⟨F, ⟨rfl, _⟩, _⟩ := h1
    obtain ⟨G, ⟨rfl, _⟩, _⟩ := h2
    simp [Op.equalIn, run_underlying hu]
  · rename_i p q
    injection hb with hb
    subst hb
    obtain ⟨F, ⟨rfl, _⟩, _⟩ := h1
    obtain ⟨G, ⟨rfl, _⟩, _⟩ := h2
    have e : ((⟨p.toArray⟩ : ByteArray) == ⟨q.toArray⟩) = (p == q) := by
      show ((⟨p⟩ : Array UInt8) == ⟨q⟩) = (p == q)
      simp
    simp [Op.equalIn, run_underlying hu, e]
  · cases hb
/-- The value of a type whose cells are these. -/
def ofCells (d : TypeDesc) (us : List Value) : Value := match structD d with
  | some _ => .agg us.toArray
  | none => us.getD 0 undef
theorem structD_some {d : TypeDesc} {fs : List Field} (h : structD d = some fs) : d = .struct fs.toArray := by
  unfold structD at h
  split at h
  · injection h with h; subst h; simp
  · cases h
theorem run_part_any {P : Program} {w wl : World} {en : List Ent} {I : Nat → Prop} {T : TypeId} (ti : TI P T) {us : List Value} {xs : List AV} {off : Nat} (hs : showsL wl en I xs us) (hne : structD ti.desc = none → isAggD ti.desc = false ∧ (xs.drop off).take ti.size ≠ []) : (part T us.toArray off).run P w = .ok (ofCells ti.desc ((us.drop off).take ti.size)) w := by
  unfold ofCells
  cases hd : structD ti.desc with
  | some fs =>
    have := structD_some hd
    rw [run_partN ti (by rw [this]; rfl)]
  | none =>
    obtain ⟨ha, hn⟩ := hne hd
    have hl := showsL_length (showsL_take (showsL_drop hs off) ti.size)
    have h0 : 0 < ((us.drop off).take ti.size).length := by rw [hl]; exact List.length_pos_iff.2 hn
    have h1 : us[off]? = some (((us.drop off).take ti.size).getD 0 undef) := by
      simp only [List.length_take, List.length_drop] at h0
      rw [List.getD_eq_getElem?_getD, List.getElem?_take, if_pos (by omega), List.getElem?_drop, Nat.add_zero]
      rw [List.getElem?_eq_getElem (by omega)]
      rfl
    exact run_part1 ti.und ha (by simpa using h1)
section
variable {X : Cx} {w wl : World} {en : List Ent} {I : Nat → Prop}
theorem eqD_agg {d : TypeDesc} {x y : AV} {b : Bool} (h : eqD d x y = some b) : isAggD d = false := by
  unfold eqD at h
  split at h <;> first | rfl | cases h
mutual
theorem eqT_ok {ns : List Nat} (hc : (ns.all fun T => !X.P.stoodInHeld T) = true) : ∀ (f d : Nat) {T : TypeId} {ti : TI X.P T} {xs ys : List AV} {us vs : List Value} {b : Bool}, X.tt T = some ti → eqT X ns f T xs ys = some b → showsL wl en I xs us → showsL wl en I ys vs →
    (Op.equalIn (f + d) T (ofCells ti.desc us) (ofCells ti.desc vs)).run X.P w = .ok b w ∧ (structD ti.desc = none → isAggD ti.desc = false ∧ xs ≠ [] ∧ ys ≠ [])
  | 0, _, _, _, _, _, _, _, _, _, h, _, _ => by cases h
  | f + 1, d, T, ti, xs, ys, us, vs, b, ht, h, h1, h2 => by
    simp only [eqT, ht] at h
    unfold ofCells
    cases hd : structD ti.desc with
    | some fs =>
      simp only [hd] at h
      cases hany : ns.any (fun n => Nat.beq n T) with
      | false => rw [hany] at h; cases h
      | true =>
      rw [hany, cond_true] at h
      refine ⟨?_, fun e => by cases e⟩
      have hu := ti.und
      have hde := structD_some hd
      rw [hde] at hu
      have hfo : X.P.fieldsOf T = fs.toArray := by simp [Program.fieldsOf, hu]
      rw [show f + 1 + d = (f + d) + 1 by omega, run_equalIn_struct w (f + d) T us.toArray vs.toArray (by rw [hfo]; exact hu) (no_stand hc hany), hfo]
      exact eqF_ok hc f d h h1 h2
    | none =>
      simp only [hd] at h
      split at h
      · rename_i x xs' y ys'
        obtain ⟨u, us', rfl, g1, g2⟩ := h1
        obtain ⟨v, vs', rfl, g3, g4⟩ := h2
        refine ⟨?_, fun _ => ⟨eqD_agg h, by simp, by simp⟩⟩
        rw [show f + 1 + d = (f + d) + 1 by omega]
        exact eqD_run ti.und g1 g3 h _
      · cases h
theorem eqF_ok {ns : List Nat} (hc : (ns.all fun T => !X.P.stoodInHeld T) = true) : ∀ (f d : Nat) {fs : List Field} {xs ys : List AV} {us vs : List Value} {b : Bool}, eqF X ns f fs xs ys = some b → showsL wl en I xs us → showsL wl en I ys vs →
    (Op.eqFields (f + d) us.toArray vs.toArray fs).run X.P w = .ok b w
  | f, d, [], xs, ys, us, vs, b, h, _, _ => by
    have : some true = some b := by cases f <;> exact h
    injection this with h
    subst h
    simp [Op.eqFields, Sem.run_pure]
  | 0, _, fd :: fs, _, _, _, _, _, h, _, _ => by cases h
  | f + 1, d, fd :: fs, xs, ys, us, vs, b, h, h1, h2 => by
    simp only [eqF] at h
    cases hn : fd.name != "_" with
    | false => rw [hn] at h; cases h
    | true =>
      rw [hn] at h
      simp only [cond_true] at h
      split at h
      · rename_i tf htf
        split at h
        · rename_i a ha
          split at h
          · rename_i c hcc
            injection h with h
            subst h
            obtain ⟨k1, k2⟩ := eqT_ok hc f (d + 1) htf ha (showsL_take (showsL_drop h1 fd.offset) tf.size) (showsL_take (showsL_drop h2 fd.offset) tf.size)
            have k3 := eqF_ok hc f (d + 1) hcc h1 h2
            rw [show f + (d + 1) = f + 1 + d by omega] at k1 k3
            have p1 := run_part_any (w := w) tf h1 (off := fd.offset) (fun e => ⟨(k2 e).1, (k2 e).2.1⟩)
            have p2 := run_part_any (w := w) tf h2 (off := fd.offset) (fun e => ⟨(k2 e).1, (k2 e).2.2⟩)
            have hn' : fd.name ≠ "_" := by simpa using hn
            simp only [Op.eqFields, if_pos hn', Sem.run_bind, p1, p2, k1, Result.andThen_ok]
            cases a
            · simp [Sem.run_pure]
            · simpa using k3
          · cases h
        · cases h
      · cases h
end
end
section
variable {X : Cx} {σ : AS} {o : Oper} {K : AS → Prop} {t : Nat}
theorem st_eqagg {T yt : TypeId} {x y : Operand} {xs ys : List AV} {b : Bool} {ti : TI X.P T} {ns : List Nat} (hc : (ns.all fun T => !X.P.stoodInHeld T) = true) (hg : X.P.eqGuardType X.P.depth T = false) (ho : o.op = .binOp .eql T x y yt) (hd : o.dst = some t) (hx : σ.ev x = .agg xs) (hy : σ.ev y = .agg ys) (htt : X.tt T = some ti) (hst : (structD ti.desc).isSome = true)
    (hb : eqT X ns 100 T xs ys = some b) (ht : Nat.blt t σ.nt = true) (hK : K (σ.put t (.d (.b b)))) : QOk X o σ K :=
  op_val hd ht (fun a w en h => by
    obtain ⟨us, e1, h1⟩ := ev_of h hx
    obtain ⟨vs, e2, h2⟩ := ev_of h hy
    refine ⟨.bool b, fun w' _ => ?_, [], ⟨rfl, rfl⟩, by simp⟩
    obtain ⟨k1, _⟩ := eqT_ok (w := w') hc 100 9900 htt hb h1 h2
    obtain ⟨fs, hfs⟩ := Option.isSome_iff_exists.1 hst
    simp only [ofCells, hfs] at k1
    have k2 := run_eql_struct (P := X.P) w' T us.toArray vs.toArray
    rw [k1] at k2
    simp only [execOp, ho, e1, e2, Sem.run_bind, run_eqGuard_agg w' .eql T x y us.toArray vs.toArray hg, Result.andThen_ok, k2]
    rfl) hK
theorem st_neagg {T yt : TypeId} {x y : Operand} {xs ys : List AV} {b : Bool} {ti : TI X.P T} {ns : List Nat} (hc : (ns.all fun T => !X.P.stoodInHeld T) = true) (hg : X.P.eqGuardType X.P.depth T = false) (ho : o.op = .binOp .neq T x y yt) (hd : o.dst = some t) (hx : σ.ev x = .agg xs) (hy : σ.ev y = .agg ys) (htt : X.tt T = some ti) (hst : (structD ti.desc).isSome = true)
    (hb : eqT X ns 100 T xs ys = some b) (ht : Nat.blt t σ.nt = true) (hK : K (σ.put t (.d (.b (!b))))) : QOk X o σ K :=
  op_val hd ht (fun a w en h => by
    obtain ⟨us, e1, h1⟩ := ev_of h hx
    obtain ⟨vs, e2, h2⟩ := ev_of h hy
    refine ⟨.bool (!b), fun w' _ => ?_, [], ⟨rfl, rfl⟩, by simp⟩
    obtain ⟨k1, _⟩ := eqT_ok (w := w') hc 100 9900 htt hb h1 h2
    obtain ⟨fs, hfs⟩ := Option.isSome_iff_exists.1 hst
    simp only [ofCells, hfs] at k1
    have k2 := run_neq_struct (P := X.P) w' T us.toArray vs.toArray
    rw [k1] at k2
    simp only [execOp, ho, e1, e2, Sem.run_bind, run_eqGuard_agg w' .neq T x y us.toArray vs.toArray hg, Result.andThen_ok, k2]
    rfl) hK
end

/-! ### For the side conditions -/
theorem chunk_length (z : Nat) : ∀ (n : Nat) (l : List D), (chunk z n l).length = n
  | 0, _ => rfl
  | n + 1, l => by simp [chunk, chunk_length z n]
theorem lenE_nil (z : Nat) : lenE [] z := fun e he => by cases he
theorem lenE_one {e : List D} {z : Nat} (h : e.length = z) : lenE [e] z := fun x hx => by rw [List.mem_singleton.1 hx]; exact h
theorem lenE_map {α : Type} {f : α → List D} {l : List α} {z : Nat} (h : ∀ a, (f a).length = z) : lenE (l.map f) z := fun x hx => by
  obtain ⟨a, _, rfl⟩ := List.mem_map.1 hx
  exact h a
theorem flatE_map {α : Type} {f : α → List D} {l : List α} (h : ∀ a, (f a).all D.flat1 = true) : flatE (l.map f) = true := by
  unfold flatE
  rw [List.all_eq_true]
  intro x hx
  obtain ⟨a, _, rfl⟩ := List.mem_map.1 hx
  exact h a
/-- Strings. -/
def strE (l : List (List UInt8)) : List (List D) := l.map fun s => [.s s]
/-- Numbers. -/
def intE (l : List Int) : List (List D) := l.map fun x => [.n .i64 x]
theorem strE_append (l r : List (List UInt8)) : strE l ++ strE r = strE (l ++ r) := by simp [strE]
theorem byteE_append (l r : List UInt8) : byteE l ++ byteE r = byteE (l ++ r) := by simp [byteE]
theorem byteE_length (l : List UInt8) : (byteE l).length = l.length := by simp [byteE]
theorem strE_length (l : List (List UInt8)) : (strE l).length = l.length := by simp [strE]
theorem intE_length (l : List Int) : (intE l).length = l.length := by simp [intE]
end Go.Proofs.Ythmajaeekkbnnaa
