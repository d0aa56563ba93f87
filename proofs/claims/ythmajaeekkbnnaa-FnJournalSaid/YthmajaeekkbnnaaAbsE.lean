/-
  The walk over abstract states: operations that leave memory alone.
-/
import Derived.Test.YthmajaeekkbnnaaAbsD
import Derived.Deep.MidRow
namespace Go.Proofs.Ythmajaeekkbnnaa
open Go Go.RowKit

section
variable {X : Cx} {σ : AS} {o : Oper} {K : AS → Prop} {t : Nat}
theorem op_val {v : AV} (hd : o.dst = some t) (ht : Nat.blt t σ.nt = true) (h : ∀ a w en, Rel1 X σ a w en → ∃ u, (∀ w', Ext w w' → (execOp a.eval o).run X.P w' = .ok (.value u) w') ∧ v.shows w en (IM X en w) u)
    (hK : K (σ.put t v)) : QOk X o σ K := by
  intro a w hr
  obtain ⟨en, h1⟩ := hr
  obtain ⟨u, h2, h3⟩ := h a w en h1
  refine ⟨u, fun w' hw' => ?_, σ.put t v, hK, en, ?_⟩
  · unfold Oper.quietAt
    rw [h2 w' hw']
    exact ⟨rfl, rfl⟩
  · rw [hd]
    exact h1.put h3 ht
theorem st_move {v : AV} {x : Operand} (ho : o.op = .move x) (hd : o.dst = some t) (hx : σ.ev x = v) (ht : Nat.blt t σ.nt = true) (hK : K (σ.put t v)) : QOk X o σ K :=
  op_val hd ht (fun a w en h => ⟨_, fun w' _ => by simp only [execOp, ho]; rfl, ev_of h hx⟩) hK
theorem st_assign {v : AV} {x : Operand} (ho : o.op = .assign x) (hd : o.dst = some t) (hx : σ.ev x = v) (ht : Nat.blt t σ.nt = true) (hK : K (σ.put t v)) : QOk X o σ K :=
  op_val hd ht (fun a w en h => ⟨_, fun w' _ => by simp only [execOp, ho]; rfl, ev_of h hx⟩) hK
theorem st_nilCheck {p off : Nat} {x : Operand} (ho : o.op = .nilCheck x) (hd : o.dst = some t) (hx : σ.ev x = .ptr p off) (ht : Nat.blt t σ.nt = true) (hK : K (σ.put t (.ptr p off))) : QOk X o σ K :=
  op_val hd ht (fun a w en h => by
    have h1 := ev_of h hx
    have h2 := h1
    obtain ⟨y, _, _, _, g, _, e⟩ := h1
    exact ⟨_, fun w' _ => by simp only [execOp, ho, e]; rfl, e ▸ h2⟩) hK
theorem st_pick {v : AV} {c x y : Operand} {q : Bool} (ho : o.op = .pick c x y) (hd : o.dst = some t) (hc : σ.ev c = .d (.b q)) (hx : (bif q then σ.ev x else σ.ev y) = v) (ht : Nat.blt t σ.nt = true) (hK : K (σ.put t v)) : QOk X o σ K :=
  op_val hd ht (fun a w en h => by
    obtain ⟨F, ⟨e, _⟩, _⟩ := ev_of h hc
    cases q with
    | true => exact ⟨a.eval x, fun w' _ => by simp only [execOp, ho, e]; rfl, ev_of h hx⟩
    | false => exact ⟨a.eval y, fun w' _ => by simp only [execOp, ho, e]; rfl, ev_of h hx⟩) hK
theorem st_extract {v : AV} {x : Operand} {xs : List AV} {i : Nat} (ho : o.op = .extract x i) (hd : o.dst = some t) (hx : σ.ev x = .tup xs) (hi : xs[i]? = some v) (ht : Nat.blt t σ.nt = true) (hK : K (σ.put t v)) : QOk X o σ K :=
  op_val hd ht (fun a w en h => by
    obtain ⟨us, e, hs⟩ := ev_of h hx
    obtain ⟨u, h1, h2⟩ := showsL_get hs hi
    exact ⟨u, fun w' _ => by simp [execOp, ho, e, Instr.extract, h1, Sem.run_pure], h2⟩) hK

/-! ### Numbers -/
def binI (op : BinOp) (k : IntKind) (x y : Int) : Option D :=
  match op with
  | .add => some (.n k (k.wrap (x + y)))
  | .sub => some (.n k (k.wrap (x - y)))
  | .mul => some (.n k (k.wrap (x * y)))
  | .eql => some (.b (x == y))
  | .neq => some (.b (x != y))
  | .lss => some (.b (decide (x < y)))
  | .leq => some (.b (decide (x ≤ y)))
  | .gtr => some (.b (decide (y < x)))
  | .geq => some (.b (decide (y ≤ x)))
  | .quo => if y = 0 then none else some (.n k (k.wrap (x.tdiv y)))
  | .rem => if y = 0 then none else some (.n k (x.tmod y))
  | _ => none
theorem run_binI {P : Program} {op : BinOp} {k : IntKind} {p q : Int} {d : D} (h : binI op k p q = some d) (xt : TypeId) (x y : Operand) (w : World) :
    ∃ u, (do eqGuard op xt x y (.int k p) (.int k q); binOp op xt (.int k p) (.int k q) : Sem Value).run P w = .ok u w ∧ d.rep w u [] := by
  have hg : (eqGuard op xt x y (.int k p) (.int k q)).run P w = .ok () w := by
    cases op <;> rfl
  simp only [Sem.run_bind, hg, Result.andThen]
  cases op <;> simp only [binI, reduceCtorEq] at h
  case quo =>
    split at h
    · cases h
    · rename_i h0
      injection h with h
      subst h
      exact ⟨_, by simp [binOp, Op.intDiv, h0, Sem.run_pure], rfl, rfl⟩
  case rem =>
    split at h
    · cases h
    · rename_i h0
      injection h with h
      subst h
      exact ⟨_, by simp [binOp, Op.intDiv, h0, Sem.run_pure], rfl, rfl⟩
  all_goals
    injection h with h
    subst h
    exact ⟨_, by simp [binOp, Op.intArith, Op.intCmp, Sem.run_pure], rfl, rfl⟩
theorem st_bin {op : BinOp} {k : IntKind} {p q : Int} {d : D} {xt yt : TypeId} {x y : Operand} (ho : o.op = .binOp op xt x y yt) (hd : o.dst = some t) (hx : σ.ev x = .d (.n k p)) (hy : σ.ev y = .d (.n k q))
    (hb : binI op k p q = some d) (ht : Nat.blt t σ.nt = true) (hK : K (σ.put t (.d d))) : QOk X o σ K :=
  op_val hd ht (fun a w en h => by
    obtain ⟨F, ⟨e1, _⟩, _⟩ := ev_of h hx
    obtain ⟨G, ⟨e2, _⟩, _⟩ := ev_of h hy
    obtain ⟨u, h1, h2⟩ := run_binI (P := X.P) hb xt x y w
    refine ⟨u, fun w' _ => ?_, [], h2, by simp⟩
    obtain ⟨u', h3, h4⟩ := run_binI (P := X.P) hb xt x y w'
    have e : u' = u := by cases d <;> first | exact h4.1.trans h2.1.symm | (exfalso; cases op <;> simp [binI] at hb <;> (first | (split at hb <;> cases hb) | cases hb))
    subst e
    simp only [execOp, ho, e1, e2]
    rw [Sem.run_bind, h3]
    rfl) hK
section num
variable {p q : Int} {xt yt : TypeId} {x y : Operand}
theorem st_add (ho : o.op = .binOp .add xt x y yt) (hd : o.dst = some t) (hx : σ.ev x = .d (.n .i64 p)) (hy : σ.ev y = .d (.n .i64 q)) (hb : -9223372036854775808 ≤ p + q ∧ p + q ≤ 9223372036854775807)
    (ht : Nat.blt t σ.nt = true) (hK : K (σ.put t (.d (.n .i64 (p + q))))) : QOk X o σ K :=
  st_bin ho hd hx hy (by simp only [binI, IntWalk.i64_in _ hb]) ht hK
theorem st_sub (ho : o.op = .binOp .sub xt x y yt) (hd : o.dst = some t) (hx : σ.ev x = .d (.n .i64 p)) (hy : σ.ev y = .d (.n .i64 q)) (hb : -9223372036854775808 ≤ p - q ∧ p - q ≤ 9223372036854775807)
    (ht : Nat.blt t σ.nt = true) (hK : K (σ.put t (.d (.n .i64 (p - q))))) : QOk X o σ K :=
  st_bin ho hd hx hy (by simp only [binI, IntWalk.i64_in _ hb]) ht hK
theorem st_sub8 (ho : o.op = .binOp .sub xt x y yt) (hd : o.dst = some t) (hx : σ.ev x = .d (.n .u8 p)) (hy : σ.ev y = .d (.n .u8 q)) (hb : 0 ≤ p - q ∧ p - q ≤ 255)
    (ht : Nat.blt t σ.nt = true) (hK : K (σ.put t (.d (.n .u8 (p - q))))) : QOk X o σ K :=
  st_bin ho hd hx hy (by simp only [binI, IntWalk.u8_in _ hb]) ht hK
theorem st_mul (ho : o.op = .binOp .mul xt x y yt) (hd : o.dst = some t) (hx : σ.ev x = .d (.n .i64 p)) (hy : σ.ev y = .d (.n .i64 q)) (hb : -9223372036854775808 ≤ p * q ∧ p * q ≤ 9223372036854775807)
    (ht : Nat.blt t σ.nt = true) (hK : K (σ.put t (.d (.n .i64 (p * q))))) : QOk X o σ K :=
  st_bin ho hd hx hy (by simp only [binI, IntWalk.i64_in _ hb]) ht hK
theorem st_quo (ho : o.op = .binOp .quo xt x y yt) (hd : o.dst = some t) (hx : σ.ev x = .d (.n .i64 p)) (hy : σ.ev y = .d (.n .i64 q)) (hb : 0 ≤ p ∧ p ≤ 9223372036854775807 ∧ 0 < q)
    (ht : Nat.blt t σ.nt = true) (hK : K (σ.put t (.d (.n .i64 (p / q))))) : QOk X o σ K :=
  st_bin ho hd hx hy (by
    have h1 : p.tdiv q = p / q := Int.tdiv_eq_ediv_of_nonneg hb.1
    have h2 : 0 ≤ p / q := Int.ediv_nonneg hb.1 (by omega)
    have h3 : p / q ≤ p := Int.ediv_le_self q hb.1
    simp only [binI]
    rw [if_neg (by omega), h1, IntWalk.i64_in _ (by omega)]) ht hK
theorem st_rem (ho : o.op = .binOp .rem xt x y yt) (hd : o.dst = some t) (hx : σ.ev x = .d (.n .i64 p)) (hy : σ.ev y = .d (.n .i64 q)) (hb : 0 ≤ p ∧ 0 < q)
    (ht : Nat.blt t σ.nt = true) (hK : K (σ.put t (.d (.n .i64 (p % q))))) : QOk X o σ K :=
  st_bin ho hd hx hy (by
    have h1 : p.tmod q = p % q := Int.tmod_eq_emod_of_nonneg hb.1
    simp only [binI]
    rw [if_neg (by omega), h1]) ht hK
theorem st_conv {k k' : IntKind} {r : Int} {src dst : TypeId} [td : TI X.P dst] [ts : TI X.P src] (ho : o.op = .convert src dst x) (hd : o.dst = some t) (hx : σ.ev x = .d (.n k p)) (hk : td.desc = .int k') (hr : k'.wrap p = r)
    (ht : Nat.blt t σ.nt = true) (hK : K (σ.put t (.d (.n k' r)))) : QOk X o σ K :=
  op_val hd ht (fun a w en h => by
    obtain ⟨F, ⟨e1, _⟩, _⟩ := ev_of h hx
    have hu := td.und
    rw [hk] at hu
    refine ⟨.int k' r, fun w' _ => ?_, [], ⟨rfl, rfl⟩, by simp⟩
    simp only [execOp, ho, e1, convert, Sem.run_bind, run_underlying ts.und, run_underlying hu, Result.andThen, Conv.intToInt, hr]
    rfl) hK
end num
theorem st_not {q : Bool} {xt : TypeId} {x : Operand} (ho : o.op = .unOp .not xt x) (hd : o.dst = some t) (hx : σ.ev x = .d (.b q)) (ht : Nat.blt t σ.nt = true) (hK : K (σ.put t (.d (.b (!q))))) : QOk X o σ K :=
  op_val hd ht (fun a w en h => by
    obtain ⟨F, ⟨e1, _⟩, _⟩ := ev_of h hx
    refine ⟨.bool (!q), fun w' _ => ?_, [], ⟨rfl, rfl⟩, by simp⟩
    simp only [execOp, ho, e1, Op.unary]
    rfl) hK
theorem st_eqb {q r : Bool} {xt yt : TypeId} {x y : Operand} [ti : TI X.P xt] (hti : ti.desc = .bool) (ho : o.op = .binOp .eql xt x y yt) (hd : o.dst = some t) (hx : σ.ev x = .d (.b q)) (hy : σ.ev y = .d (.b r)) (ht : Nat.blt t σ.nt = true) (hK : K (σ.put t (.d (.b (q == r))))) : QOk X o σ K :=
  op_val hd ht (fun a w en h => by
    obtain ⟨F, ⟨e1, _⟩, _⟩ := ev_of h hx
    obtain ⟨G, ⟨e2, _⟩, _⟩ := ev_of h hy
    have hu := ti.und
    rw [hti] at hu
    refine ⟨.bool (q == r), fun w' _ => ?_, [], ⟨rfl, rfl⟩, by simp⟩
    have h1 : (Op.equal xt (.bool q) (.bool r)).run X.P w' = .ok (q == r) w' := run_equalIn_bool' w' 9999 xt q r hu
    have h2 : (binOp .eql xt (.bool q) (.bool r)).run X.P w' = .ok (.bool (q == r)) w' := by
      rw [show binOp .eql xt (.bool q) (.bool r) = (do let b ← Op.equal xt (.bool q) (.bool r); pure (.bool b)) from rfl, Sem.run_bind, h1]
      rfl
    have hg : (eqGuard .eql xt x y (.bool q) (.bool r)).run X.P w' = .ok () w' := rfl
    simp only [execOp, ho, e1, e2, Sem.run_bind, hg, Result.andThen, h2]
    rfl) hK
theorem st_neb {q r : Bool} {xt yt : TypeId} {x y : Operand} [ti : TI X.P xt] (hti : ti.desc = .bool) (ho : o.op = .binOp .neq xt x y yt) (hd : o.dst = some t) (hx : σ.ev x = .d (.b q)) (hy : σ.ev y = .d (.b r)) (ht : Nat.blt t σ.nt = true) (hK : K (σ.put t (.d (.b (q != r))))) : QOk X o σ K :=
  op_val hd ht (fun a w en h => by
    obtain ⟨F, ⟨e1, _⟩, _⟩ := ev_of h hx
    obtain ⟨G, ⟨e2, _⟩, _⟩ := ev_of h hy
    have hu := ti.und
    rw [hti] at hu
    refine ⟨.bool (q != r), fun w' _ => ?_, [], ⟨rfl, rfl⟩, by simp⟩
    have h1 : (Op.equal xt (.bool q) (.bool r)).run X.P w' = .ok (q == r) w' := run_equalIn_bool' w' 9999 xt q r hu
    have h2 : (binOp .neq xt (.bool q) (.bool r)).run X.P w' = .ok (.bool (q != r)) w' := by
      rw [show binOp .neq xt (.bool q) (.bool r) = (do let b ← Op.equal xt (.bool q) (.bool r); pure (.bool (!b))) from rfl, Sem.run_bind, h1]
      rfl
    have hg : (eqGuard .neq xt x y (.bool q) (.bool r)).run X.P w' = .ok () w' := rfl
    simp only [execOp, ho, e1, e2, Sem.run_bind, hg, Result.andThen, h2]
    rfl) hK

/-! ### Strings -/
section str
variable {l r : List UInt8} {xt yt : TypeId} {x y : Operand}
theorem st_cat (ho : o.op = .binOp .add xt x y yt) (hd : o.dst = some t) (hx : σ.ev x = .d (.s l)) (hy : σ.ev y = .d (.s r)) (hb : l.length + r.length ≤ 9223372036854775807) (ht : Nat.blt t σ.nt = true) (hK : K (σ.put t (.d (.s (l ++ r))))) : QOk X o σ K :=
  op_val hd ht (fun a w en h => by
    obtain ⟨F, ⟨e1, _⟩, _⟩ := ev_of h hx
    obtain ⟨G, ⟨e2, _⟩, _⟩ := ev_of h hy
    refine ⟨.string ⟨(l ++ r).toArray⟩, fun w' _ => ?_, [], ⟨rfl, rfl⟩, by simp⟩
    have h1 : (Op.stringOp .add ⟨l.toArray⟩ ⟨r.toArray⟩).run X.P w' = .ok (.string (⟨l.toArray⟩ ++ ⟨r.toArray⟩)) w' := run_string_add_sum w' _ _ (by simpa [ByteArray.size] using hb)
    rw [ByteArray.mk_append_mk] at h1
    have hg : (eqGuard .add xt x y (.string ⟨l.toArray⟩) (.string ⟨r.toArray⟩)).run X.P w' = .ok () w' := rfl
    simp only [execOp, ho, e1, e2, Sem.run_bind, hg, Result.andThen, binOp, h1]
    rfl) hK
theorem st_eqs (ho : o.op = .binOp .eql xt x y yt) (hd : o.dst = some t) (hx : σ.ev x = .d (.s l)) (hy : σ.ev y = .d (.s r)) (ht : Nat.blt t σ.nt = true) (hK : K (σ.put t (.d (.b (l == r))))) : QOk X o σ K :=
  op_val hd ht (fun a w en h => by
    obtain ⟨F, ⟨e1, _⟩, _⟩ := ev_of h hx
    obtain ⟨G, ⟨e2, _⟩, _⟩ := ev_of h hy
    refine ⟨.bool (l == r), fun w' _ => ?_, [], ⟨rfl, rfl⟩, by simp⟩
    simp [execOp, ho, e1, e2, eqGuard, binOp, Op.stringOp, Sem.run_pure]) hK
theorem st_nes (ho : o.op = .binOp .neq xt x y yt) (hd : o.dst = some t) (hx : σ.ev x = .d (.s l)) (hy : σ.ev y = .d (.s r)) (ht : Nat.blt t σ.nt = true) (hK : K (σ.put t (.d (.b (l != r))))) : QOk X o σ K :=
  op_val hd ht (fun a w en h => by
    obtain ⟨F, ⟨e1, _⟩, _⟩ := ev_of h hx
    obtain ⟨G, ⟨e2, _⟩, _⟩ := ev_of h hy
    refine ⟨.bool (l != r), fun w' _ => ?_, [], ⟨rfl, rfl⟩, by simp⟩
    simp [execOp, ho, e1, e2, eqGuard, binOp, Op.stringOp, Sem.run_pure, bne]) hK
theorem st_at {p : Int} [ti : TI X.P xt] (hti : ti.desc = .string) (ho : o.op = .index xt x y) (hd : o.dst = some t) (hx : σ.ev x = .d (.s l)) (hy : σ.ev y = .d (.n .i64 p)) (hb : 0 ≤ p ∧ p < l.length) (ht : Nat.blt t σ.nt = true)
    (hK : K (σ.put t (.d (.n .u8 (l.getD p.toNat 0).toNat)))) : QOk X o σ K :=
  op_val hd ht (fun a w en h => by
    obtain ⟨F, ⟨e1, _⟩, _⟩ := ev_of h hx
    obtain ⟨G, ⟨e2, _⟩, _⟩ := ev_of h hy
    have hu := ti.und
    rw [hti] at hu
    refine ⟨.int .u8 (l.getD p.toNat 0).toNat, fun w' _ => ?_, [], ⟨rfl, rfl⟩, by simp⟩
    have hlt : p.toNat < l.length := by omega
    have h1 := run_index_string (P := X.P) w' xt ⟨l.toArray⟩ .i64 p hu
    rw [dif_pos (by simpa [ByteArray.size] using hb)] at h1
    simp only [execOp, ho, e1, e2, Sem.run_bind, h1, Result.andThen]
    have h2 : (⟨l.toArray⟩ : ByteArray)[p.toNat]'(by simpa [ByteArray.size] using hlt) = l.getD p.toNat 0 := by
      show l.toArray[p.toNat]'(by simpa using hlt) = _
      simp [List.getD, hlt]
    rw [h2]
    rfl) hK
end str
end
end Go.Proofs.Ythmajaeekkbnnaa
