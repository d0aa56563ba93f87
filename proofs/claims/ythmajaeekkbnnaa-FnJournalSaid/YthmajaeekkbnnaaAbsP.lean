/-
  The walk over abstract states: structs as values, comparisons of structs, least and greatest.
-/
import Derived.Test.YthmajaeekkbnnaaAbsO
import Derived.Laws.StructEq
import Derived.Lib.MinMax
namespace Go.Proofs.Ythmajaeekkbnnaa
open Go Go.RowKit

section
variable {X : Cx} {σ : AS} {o : Oper} {K : AS → Prop} {t : Nat}
theorem run_part1 {P : Program} {w : World} {T : TypeId} {d : TypeDesc} (hu : P.underlying T = some d) (ha : isAggD d = false) {cs : Array Value} {off : Nat} {v : Value} (hv : cs[off]? = some v) : (part T cs off).run P w = .ok v w := by
  have hag : (isAgg T).run P w = .ok false w := by
    unfold isAgg
    rw [Sem.run_bind, run_underlying hu w]
    cases d <;> simp_all [isAggD, Sem.run_pure]
  simp only [part, Sem.run_bind, hag, Result.andThen_ok, Bool.false_eq_true, if_false, hv, Sem.run_pure]
theorem run_partN {P : Program} {w : World} {T : TypeId} (ti : TI P T) (ha : isAggD ti.desc = true) {cs : Array Value} {off : Nat} : (part T cs off).run P w = .ok (.agg ((cs.toList.drop off).take ti.size).toArray) w := by
  have hag : (isAgg T).run P w = .ok true w := by
    unfold isAgg
    rw [Sem.run_bind, run_underlying ti.und w]
    cases hde : ti.desc <;> simp_all [isAggD, Sem.run_pure]
  obtain ⟨i, h1, _, h2, _⟩ := ti.parts
  have e : cs.extract off (off + ti.size) = ((cs.toList.drop off).take ti.size).toArray := by
    apply Array.ext'
    simp
  simp only [part, Sem.run_bind, hag, Result.andThen_ok, if_true, sizeOf, typeInfo, run_program, h1, h2, Sem.run_pure, e]
theorem run_field {P : Program} {w : World} {T : TypeId} {fs : Array Field} {f : Nat} {fd : Field} (hu : P.underlying T = some (.struct fs)) (hf : fs[f]? = some fd) (cs : Array Value) : (Instr.field T (.agg cs) f).run P w = (part fd.type cs fd.offset).run P w := by
  simp only [Instr.field, Sem.run_bind, run_underlying hu, Result.andThen_ok, hf, asAgg, Sem.run_pure]
theorem fieldOff_eq {d : TypeDesc} {f off : Nat} {ft : TypeId} (h : fieldOff d f = some (off, ft)) : ∃ fs fd, d = .struct fs ∧ fs[f]? = some fd ∧ fd.offset = off ∧ fd.type = ft := by
  unfold fieldOff at h
  split at h
  · rename_i fs
    cases hq : fs[f]? with
    | none => rw [hq] at h; cases h
    | some fd =>
      rw [hq] at h
      simp only [Option.map_some, Option.some.injEq, Prod.mk.injEq] at h
      exact ⟨fs, fd, rfl, hq, h.1, h.2⟩
  · cases h
theorem st_fieldv1 {T ft : TypeId} {x : Operand} {f off : Nat} {xs : List AV} {v : AV} [ti : TI X.P T] (ho : o.op = .field T x f) (hd : o.dst = some t) (hf : fieldOff ti.desc f = some (off, ft)) [tf : TI X.P ft] (ha : isAggD tf.desc = false) (hx : σ.ev x = .agg xs) (hv : xs[off]? = some v) (ht : Nat.blt t σ.nt = true) (hK : K (σ.put t v)) : QOk X o σ K :=
  op_val hd ht (fun a w en h => by
    obtain ⟨us, e1, h1⟩ := ev_of h hx
    obtain ⟨u, h2, h3⟩ := showsL_get h1 hv
    obtain ⟨fs, fd, e2, e3, e4, e5⟩ := fieldOff_eq hf
    subst e4; subst e5
    refine ⟨u, fun w' _ => ?_, h3⟩
    simp only [execOp, ho, e1, Sem.run_bind, run_field (e2 ▸ ti.und) e3, run_part1 tf.und ha (show us.toArray[fd.offset]? = some u by simpa using h2), Result.andThen]
    rfl) hK
theorem st_fieldvN {T ft : TypeId} {x : Operand} {f off : Nat} {xs ys : List AV} [ti : TI X.P T] (ho : o.op = .field T x f) (hd : o.dst = some t) (hf : fieldOff ti.desc f = some (off, ft)) [tf : TI X.P ft] (ha : isAggD tf.desc = true) (hx : σ.ev x = .agg xs) (hv : (xs.drop off).take tf.size = ys) (ht : Nat.blt t σ.nt = true) (hK : K (σ.put t (.agg ys))) : QOk X o σ K :=
  op_val hd ht (fun a w en h => by
    obtain ⟨us, e1, h1⟩ := ev_of h hx
    obtain ⟨fs, fd, e2, e3, e4, e5⟩ := fieldOff_eq hf
    subst e4; subst e5
    refine ⟨.agg ((us.drop fd.offset).take tf.size).toArray, fun w' _ => ?_, _, rfl, hv ▸ showsL_take (showsL_drop h1 _) _⟩
    simp only [execOp, ho, e1, Sem.run_bind, run_field (e2 ▸ ti.und) e3, run_partN tf ha, Result.andThen]
    rfl) hK

/-! ### Struct literals -/
def placesA (X : Cx) : List Field → Option (List (Nat × Nat))
  | [] => some []
  | f :: fs => match X.tt f.type with
    | some tf => match placesA X fs with
      | some l => some ((f.offset, tf.size) :: l)
      | none => none
    | none => none
theorem placesA_ok : ∀ {fs : List Field} {l : List (Nat × Nat)}, placesA X fs = some l → fs.mapM (fun f => (X.P.info? f.type).map fun i => (f.offset, i.size)) = some l
  | [], l, h => by injection h with h; subst h; rfl
  | f :: fs, l, h => by
    simp only [placesA] at h
    split at h
    · rename_i tf _
      split at h
      · rename_i l' hl
        injection h with h; subst h
        obtain ⟨i, h1, _, h2, _⟩ := tf.parts
        simp only [List.mapM_cons, h1, Option.map_some, h2, placesA_ok hl]
        rfl
      · cases h
    · cases h
def fillP (places : List (Nat × Nat)) : List AV → List (Nat × AV) → Option (List AV)
  | cs, [] => some cs
  | cs, (i, v) :: rest => match places[i]? with
    | some (off, size) => match v.cellsV with
      | some xs => bif Nat.beq xs.length size then (bif Nat.ble (off + size) cs.length then forceL (splice cs off xs) (fun cs' => fillP places cs' rest) else none) else none
      | none => none
    | none => none
theorem fillP_ok {w : World} {en : List Ent} {P : Program} {w0 : World} {f : Nat → Bool} {Z : ZV f} {O : Nat → Prop} (hm : Mem P w0 Z O en w) {places : List (Nat × Nat)} : ∀ {parts : List (Nat × AV)} {vs : List (Nat × Value)} {cs cs' : List AV} {cells : Array Value}, fillP places cs parts = some cs' →
    showsL w en (Imm w0 Z O en w) cs cells.toList → vs.map Prod.fst = parts.map Prod.fst → showsL w en (Imm w0 Z O en w) (parts.map Prod.snd) (vs.map Prod.snd) →
    ∃ r, Instr.fill (places.toArray[·]?) cells vs = some r ∧ showsL w en (Imm w0 Z O en w) cs' r.toList
  | [], vs, cs, cs', cells, hf, hc, hv, _ => by
    injection hf with hf
    subst hf
    obtain rfl : vs = [] := by simpa using hv
    exact ⟨cells, rfl, hc⟩
  | (i, x) :: parts, vs, cs, cs', cells, hf, hc, hv, hs => by
    simp only [fillP] at hf
    match vs, hv, hs with
    | (i', v) :: vs, hv, hs =>
      simp only [List.map_cons, List.cons.injEq] at hv
      obtain ⟨rfl, hv2⟩ := hv
      obtain ⟨u, us', e0, h2, h3⟩ := hs
      simp only [List.map_cons, List.cons.injEq] at e0
      obtain ⟨rfl, rfl⟩ := e0
      split at hf
      · rename_i off size hpl
        split at hf
        · rename_i xs hx
          cases b1 : Nat.beq xs.length size with
          | false => rw [b1] at hf; cases hf
          | true =>
            cases b2 : Nat.ble (off + size) cs.length with
            | false => rw [b1, b2] at hf; cases hf
            | true =>
              rw [b1, b2] at hf
              simp only [cond_true, forceL_eq] at hf
              obtain ⟨h4, h5⟩ := cellsV_shows hm hx h2
              have hsz : v.cells.size = size := by rw [← Array.length_toList, showsL_length h4]; exact (beq_spec _ _).1 b1
              have hcl : cells.size = cs.length := by rw [← Array.length_toList]; exact showsL_length hc
              have hfit : off + size ≤ cells.size := by rw [hcl]; exact Nat.le_of_ble_eq_true b2
              have hfold : (v.cells.zipIdx.foldl (fun cs (x : Value × Nat) => cs.setIfInBounds (off + x.2) x.1) cells).toList = splice cells.toList off v.cells.toList := by
                rw [← Array.foldl_toList, Array.toList_zipIdx]
                have h0 := foldl_splice off v.cells.toList cells 0 (by simp; omega)
                rw [Nat.add_zero] at h0
                exact h0
              have g1 := showsL_splice hc h4 off
              rw [← hfold] at g1
              obtain ⟨r, r1, r2⟩ := fillP_ok hm hf g1 hv2 h3
              refine ⟨r, ?_, r2⟩
              unfold Instr.fill
              have hp' : places.toArray[i']? = some (off, size) := by simpa using hpl
              simp only [hp', hsz]
              rw [if_neg (by simp; omega)]
              exact r1
        · cases hf
      · cases hf
def structD : TypeDesc → Option (List Field)
  | .struct fs => some fs.toList
  | _ => none
theorem st_build {T : TypeId} {parts : Array (Nat × Operand)} {fs : List Field} {pl : List (Nat × Nat)} {cs : List AV} [ti : TI X.P T] (ho : o.op = .build T parts) (hd : o.dst = some t) (hfs : structD ti.desc = some fs) (hpl : placesA X fs = some pl) (hcs : fillP pl (zeroAV ti.zero) (σ.evParts parts.toList) = some cs) (ht : Nat.blt t σ.nt = true) (hK : K (σ.put t (.agg cs))) : QOk X o σ K :=
  op_val hd ht (fun a w en h => by
    have hu := ti.und
    unfold structD at hfs
    split at hfs
    · rename_i fa hde
      injection hfs with hfs
      subst hfs
      rw [hde] at hu
      obtain ⟨i, q1, q2, _⟩ := ti.parts
      obtain ⟨hp1, hp2⟩ := evParts_ok h parts.toList
      obtain ⟨r, r1, r2⟩ := fillP_ok (vs := parts.toList.map fun x => (x.1, a.eval x.2)) (cells := ti.zero.cells) h.mem hcs (showsL_const _) hp1 hp2
      have hb : X.P.built T (parts.toList.map fun x => (x.1, a.eval x.2)) = some r := by
        unfold Program.built
        simp only [q1, hu, q2, placesA_ok hpl, r1]
      have hmp : (parts.map (fun (x : Nat × Operand) => (x.1, a.eval x.2))).toList = parts.toList.map fun x => (x.1, a.eval x.2) := by simp
      refine ⟨.agg r, fun w' _ => ?_, r.toList, by simp, r2⟩
      have hr := run_build (P := X.P) w' T (parts.map (fun (x : Nat × Operand) => (x.1, a.eval x.2))) r (by rw [hmp]; exact hb)
      simp only [execOp, ho, Sem.run_bind, hr, Result.andThen]
      rfl
    · cases hfs) hK

/-! ### Least, greatest, nil -/
theorem st_min {x y : Operand} {T1 T2 : TypeId} {p q : Int} (ho : o.op = .call { callee := .builtin .min, args := #[x, y], argTypes := #[T1, T2] }) (hd : o.dst = some t) (hx : σ.ev x = .d (.n .i64 p)) (hy : σ.ev y = .d (.n .i64 q)) (ht : Nat.blt t σ.nt = true) (hK : K (σ.put t (.d (.n .i64 (min p q))))) : QOk X o σ K :=
  op_val hd ht (fun a w en h => by
    obtain ⟨F, ⟨e1, _⟩, _⟩ := ev_of h hx
    obtain ⟨G, ⟨e2, _⟩, _⟩ := ev_of h hy
    refine ⟨.int .i64 (min p q), fun w' _ => ?_, [], ⟨rfl, rfl⟩, by simp⟩
    have h1 := run_min_int2 (P := X.P) w' #[T1, T2] o.type .i64 .i64 p q
    simp only [execOp, ho, resolve, Sem.run_bind, Sem.run_pure, Result.andThen, invoke, builtin, List.map_toArray, List.map_cons, List.map_nil, e1, e2, h1]
    rw [show (if q < p then q else p) = min p q by split <;> omega]) hK
theorem st_max {x y : Operand} {T1 T2 : TypeId} {p q : Int} (ho : o.op = .call { callee := .builtin .max, args := #[x, y], argTypes := #[T1, T2] }) (hd : o.dst = some t) (hx : σ.ev x = .d (.n .i64 p)) (hy : σ.ev y = .d (.n .i64 q)) (ht : Nat.blt t σ.nt = true) (hK : K (σ.put t (.d (.n .i64 (max p q))))) : QOk X o σ K :=
  op_val hd ht (fun a w en h => by
    obtain ⟨F, ⟨e1, _⟩, _⟩ := ev_of h hx
    obtain ⟨G, ⟨e2, _⟩, _⟩ := ev_of h hy
    refine ⟨.int .i64 (max p q), fun w' _ => ?_, [], ⟨rfl, rfl⟩, by simp⟩
    have h1 := run_max_int2 (P := X.P) w' #[T1, T2] o.type .i64 .i64 p q
    simp only [execOp, ho, resolve, Sem.run_bind, Sem.run_pure, Result.andThen, invoke, builtin, List.map_toArray, List.map_cons, List.map_nil, e1, e2, h1]
    rw [show (if q > p then q else p) = max p q by split <;> omega]) hK
end
end Go.Proofs.Ythmajaeekkbnnaa
