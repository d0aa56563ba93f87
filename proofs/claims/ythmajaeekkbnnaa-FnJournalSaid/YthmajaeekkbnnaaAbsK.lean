/-
  The walk over abstract states: calls within regions that draw their order; lengths, elements, pieces; numbers that count.
-/
import Derived.Test.YthmajaeekkbnnaaAbsJ
namespace Go.Proofs.Ythmajaeekkbnnaa
open Go Go.RowKit

/-! ### Values that are known whole -/
mutual
def AV.rigid : AV → Bool
  | .d (.n _ _) => true
  | .d (.b _) => true
  | .d (.s _) => true
  | .nil => true
  | .agg xs => rigidL xs
  | .tup xs => rigidL xs
  | _ => false
def rigidL : List AV → Bool
  | [] => true
  | x :: xs => x.rigid && rigidL xs
end
mutual
def AV.val : AV → Value
  | .d (.n k x) => .int k x
  | .d (.b t) => .bool t
  | .d (.s l) => .string ⟨l.toArray⟩
  | .nil => .slice none 0 0
  | .agg xs => .agg (valL xs).toArray
  | .tup xs => .tuple (valL xs).toArray
  | _ => undef
def valL : List AV → List Value
  | [] => []
  | x :: xs => x.val :: valL xs
end
section
variable {w : World} {en : List Ent} {I : Nat → Prop}
mutual
theorem AV.rigid_val : ∀ (x : AV) (u : Value), x.rigid = true → x.shows w en I u → u = x.val
  | .d (.n k x), u, _, h => by obtain ⟨F, ⟨h, _⟩, _⟩ := h; exact h
  | .d (.b t), u, _, h => by obtain ⟨F, ⟨h, _⟩, _⟩ := h; exact h
  | .d (.s l), u, _, h => by obtain ⟨F, ⟨h, _⟩, _⟩ := h; exact h
  | .nil, u, _, h => h
  | .agg xs, u, hr, h => by
    obtain ⟨us, rfl, h⟩ := h
    rw [rigidL_val xs us hr h, AV.val]
  | .tup xs, u, hr, h => by
    obtain ⟨us, rfl, h⟩ := h
    rw [rigidL_val xs us hr h, AV.val]
theorem rigidL_val : ∀ (xs : List AV) (us : List Value), rigidL xs = true → showsL w en I xs us → us = valL xs
  | [], us, _, h => h
  | x :: xs, us, hr, h => by
    obtain ⟨u, us', rfl, h1, h2⟩ := h
    simp only [rigidL, Bool.and_eq_true] at hr
    rw [AV.rigid_val x u hr.1 h1, rigidL_val xs us' hr.2 h2, valL]
end
mutual
theorem AV.rigid_shows : ∀ (x : AV), x.rigid = true → x.shows w en I x.val
  | .d (.n k x), _ => ⟨[], ⟨rfl, rfl⟩, by simp⟩
  | .d (.b t), _ => ⟨[], ⟨rfl, rfl⟩, by simp⟩
  | .d (.s l), _ => ⟨[], ⟨rfl, rfl⟩, by simp⟩
  | .nil, _ => rfl
  | .agg xs, h => ⟨_, rfl, rigidL_shows xs h⟩
  | .tup xs, h => ⟨_, rfl, rigidL_shows xs h⟩
theorem rigidL_shows : ∀ (xs : List AV), rigidL xs = true → showsL w en I xs (valL xs)
  | [], _ => rfl
  | x :: xs, h => by
    simp only [rigidL, Bool.and_eq_true] at h
    exact ⟨_, _, rfl, AV.rigid_shows x h.1, rigidL_shows xs h.2⟩
end
end
section
variable {X : Cx} {σ : AS} {o : Oper} {K : AS → Prop} {t : Nat}
theorem st_callq {f : FuncId} {as : Array Operand} {ats : Array TypeId} {xs rs : List AV} (hc : ACalls X.P f xs rs []) (ho : o.op = .call { callee := .value (.func f), args := as, argTypes := ats }) (hd : o.dst = some t)
    (hx : σ.snaps as.toList = some xs) (hr : (one rs).rigid = true) (ht : Nat.blt t σ.nt = true) (hK : K (σ.put t (one rs))) : QOk X o σ K := by
  intro a w hrel
  obtain ⟨en, h1⟩ := hrel
  refine ⟨(one rs).val, fun w' hw' => ?_, σ.put t (one rs), hK, en, by rw [hd]; exact h1.put (AV.rigid_shows _ hr) ht⟩
  obtain ⟨h2, h3⟩ := hc w' _ (snaps_shows (h1.ext hw') hx)
  unfold Oper.quietAt
  rw [run_call_func ho, h2]
  refine ⟨rfl, h3.mono fun e w'' ⟨v, er, he, m, hk, hs⟩ => ⟨?_, hw'.trans (ext_of_mem m)⟩⟩
  rw [he, AV.rigid_val _ _ hr hs]

/-! ### Numbers that count -/
section num
variable {p q : Int} {m n : Nat} {xt yt : TypeId} {x y : Operand}
theorem st_addn (ho : o.op = .binOp .add xt x y yt) (hd : o.dst = some t) (hx : σ.ev x = .d (.n .i64 p)) (hp : p = (m : Int)) (hy : σ.ev y = .d (.n .i64 q)) (hq : q = (n : Int)) (hb : m + n ≤ 9223372036854775807)
    (ht : Nat.blt t σ.nt = true) (hK : K (σ.put t (.d (.n .i64 ((m + n : Nat) : Int))))) : QOk X o σ K :=
  st_add ho hd hx hy (by omega) ht (by rw [hp, hq]; exact hK)
theorem st_subn (ho : o.op = .binOp .sub xt x y yt) (hd : o.dst = some t) (hx : σ.ev x = .d (.n .i64 p)) (hp : p = (m : Int)) (hy : σ.ev y = .d (.n .i64 q)) (hq : q = (n : Int)) (hb : n ≤ m ∧ m ≤ 9223372036854775807)
    (ht : Nat.blt t σ.nt = true) (hK : K (σ.put t (.d (.n .i64 ((m - n : Nat) : Int))))) : QOk X o σ K :=
  st_sub ho hd hx hy (by omega) ht (by rw [show p - q = ((m - n : Nat) : Int) by omega]; exact hK)
theorem st_muln (ho : o.op = .binOp .mul xt x y yt) (hd : o.dst = some t) (hx : σ.ev x = .d (.n .i64 p)) (hp : p = (m : Int)) (hy : σ.ev y = .d (.n .i64 q)) (hq : q = (n : Int)) (hb : m * n ≤ 9223372036854775807)
    (ht : Nat.blt t σ.nt = true) (hK : K (σ.put t (.d (.n .i64 ((m * n : Nat) : Int))))) : QOk X o σ K :=
  st_mul ho hd hx hy (by rw [hp, hq, ← Int.natCast_mul]; omega) ht (by rw [hp, hq, ← Int.natCast_mul]; exact hK)
theorem st_quon (ho : o.op = .binOp .quo xt x y yt) (hd : o.dst = some t) (hx : σ.ev x = .d (.n .i64 p)) (hp : p = (m : Int)) (hy : σ.ev y = .d (.n .i64 q)) (hq : q = (n : Int)) (hb : 0 < n ∧ m ≤ 9223372036854775807)
    (ht : Nat.blt t σ.nt = true) (hK : K (σ.put t (.d (.n .i64 ((m / n : Nat) : Int))))) : QOk X o σ K :=
  st_quo ho hd hx hy (by omega) ht (by rw [hp, hq, ← Int.natCast_ediv]; exact hK)
theorem st_remn (ho : o.op = .binOp .rem xt x y yt) (hd : o.dst = some t) (hx : σ.ev x = .d (.n .i64 p)) (hp : p = (m : Int)) (hy : σ.ev y = .d (.n .i64 q)) (hq : q = (n : Int)) (hb : 0 < n)
    (ht : Nat.blt t σ.nt = true) (hK : K (σ.put t (.d (.n .i64 ((m % n : Nat) : Int))))) : QOk X o σ K :=
  st_rem ho hd hx hy (by omega) ht (by rw [hp, hq, ← Int.natCast_emod]; exact hK)
end num

/-! ### Lengths, elements, pieces -/
/-- The elements of a slice. -/
def AS.els (σ : AS) : AV → Option (List (List D))
  | .d (.sl es) => some es
  | .nil => some []
  | .row p => match lookO σ.ob p with
    | some (.row _ es _) => some es
    | _ => none
  | _ => none
def isSliceD : TypeDesc → Option TypeId
  | .slice e => some e
  | _ => none
def sliceT (X : Cx) (T : TypeId) : Option TypeId := match X.tt T with
  | some ti => isSliceD ti.desc
  | none => none
theorem sliceT_und {T e : TypeId} (h : sliceT X T = some e) : X.P.underlying T = some (.slice e) := by
  unfold sliceT at h
  split at h
  · rename_i ti _
    unfold isSliceD at h
    split at h
    · rename_i hde
      injection h with h
      subst h
      exact hde ▸ ti.und
    · cases h
  · cases h
def isStringD : TypeDesc → Bool
  | .string => true
  | _ => false
def stringT (X : Cx) (T : TypeId) : Bool := match X.tt T with
  | some ti => isStringD ti.desc
  | none => false
theorem stringT_und {T : TypeId} (h : stringT X T = true) : X.P.underlying T = some .string := by
  unfold stringT at h
  split at h
  · rename_i ti _
    unfold isStringD at h
    split at h
    · rename_i hde
      exact hde ▸ ti.und
    · cases h
  · cases h
theorem els_slice {a : Act} {w : World} {en : List Ent} (h : Rel1 X σ a w en) {v : AV} {es : List (List D)} {u : Value} (hv : σ.els v = some es) (hs : v.shows w en (IM X en w) u) :
    ∃ A cap, u = .slice A es.length cap ∧ es.length ≤ cap ∧ cap ≤ maxLen ∧ (A = none → cap = 0) ∧ ∃ F, (D.sl es).rep w u F := by
  cases v with
  | d x =>
    cases x with
    | sl es' =>
      simp only [AS.els, Option.some.injEq] at hv
      subst hv
      obtain ⟨F, h1, _⟩ := hs
      have h2 := h1
      obtain ⟨A, cap, z, us, F', e1, h3, h4, h5, _⟩ := h1
      exact ⟨A, cap, e1, h3, h4, h5, F, h2⟩
    | _ => cases hv
  | nil =>
    simp only [AS.els, Option.some.injEq] at hv
    subst hv
    rw [show u = .slice none 0 0 from hs]
    exact ⟨none, 0, rfl, Nat.le_refl _, Nat.zero_le _, fun _ => rfl, [], none, 0, 0, [], [], rfl, Nat.le_refl _, Nat.zero_le _, fun _ => rfl, by simp, ⟨rfl, rfl⟩, .inl ⟨rfl, rfl⟩⟩
  | row p =>
    simp only [AS.els] at hv
    split at hv
    · rename_i e es' dp hl
      injection hv with hv
      subst hv
      obtain ⟨y, hy, hyn, hya, F, h1, _⟩ := row_data h hl
      obtain ⟨y', hy', e1, e2, rfl⟩ := hs
      have := h.mem.ent_unique hy' hy (e1.trans hyn.symm)
      subst this
      have h2 := h1
      obtain ⟨A, cap, z, us, F', e1, h3, h4, h5, _⟩ := h1
      exact ⟨A, cap, e1, h3, h4, h5, F, h2⟩
    · cases hv
  | _ => cases hv
theorem st_len {x : Operand} {T e : TypeId} {es : List (List D)} {n : Nat} (ho : o.op = .call { callee := .builtin .len, args := #[x], argTypes := #[T] }) (hd : o.dst = some t) (hT : sliceT X T = some e) (hx : σ.els (σ.ev x) = some es) (hn : es.length = n) (ht : Nat.blt t σ.nt = true)
    (hK : n ≤ 9223372036854775807 → K (σ.put t (.d (.n .i64 n)))) : QOk X o σ K := fun a w hr => by
  have hu := sliceT_und hT
  have hr0 := hr
  obtain ⟨en, h0⟩ := hr
  obtain ⟨A, cap, e1, h1, h2, _⟩ := els_slice h0 hx (AS.ev_shows h0 x)
  have hb : n ≤ 9223372036854775807 := by rw [← hn]; unfold maxLen at h2; omega
  refine op_val hd ht (fun a w en h => ?_) (hK hb) a w hr0
  obtain ⟨A, cap, e1, h1, h2, _⟩ := els_slice h hx (AS.ev_shows h x)
  refine ⟨.int .i64 n, fun w' _ => ?_, [], ⟨rfl, rfl⟩, by simp⟩
  simp [execOp, ho, resolve, invoke, builtin, e1, Builtin.len_, run_underlying hu, goInt, hn, Sem.run_pure]
theorem st_lens {x : Operand} {T : TypeId} {l : List UInt8} (ho : o.op = .call { callee := .builtin .len, args := #[x], argTypes := #[T] }) (hd : o.dst = some t) (hT : stringT X T = true) (hx : σ.ev x = .d (.s l)) (ht : Nat.blt t σ.nt = true)
    (hK : K (σ.put t (.d (.n .i64 l.length)))) : QOk X o σ K :=
  op_val hd ht (fun a w en h => by
    have hu := stringT_und hT
    obtain ⟨F, ⟨e1, _⟩, _⟩ := ev_of h hx
    refine ⟨.int .i64 l.length, fun w' _ => ?_, [], ⟨rfl, rfl⟩, by simp⟩
    have h1 := run_len_string (P := X.P) w' T o.type ⟨l.toArray⟩ hu
    simp only [execOp, ho, resolve, Sem.run_bind, Sem.run_pure, Result.andThen, invoke, builtin, List.map_toArray, List.map_cons, List.map_nil, e1, h1]
    rfl) hK
/-- An element's address, by a counted index. -/
theorem st_idxn {T e : TypeId} {x y : Operand} {es : List (List D)} {el : List D} {i : Int} {j n : Nat} [te : TI X.P e] (ho : o.op = .indexAddr T x y) (hd : o.dst = some t) (hT : sliceT X T = some e) (hx : σ.ev x = .d (.sl es)) (hy : σ.ev y = .d (.n .i64 i)) (hj : i = (j : Int)) (hn : es.length = n)
    (hlt : j < n) (hel : es[j]? = some el) (hz : Nat.beq el.length te.size = true) (ht : Nat.blt t σ.nt = true) (hK : K (σ.put t (.pd el 0))) : QOk X o σ K := by
  unfold sliceT at hT
  split at hT
  · rename_i ti _
    unfold isSliceD at hT
    split at hT
    · rename_i hde
      injection hT with hT
      subst hT
      exact st_idx (ti := ti) (te := te) hde ho hd hx hy (by omega) (by rw [hj]; exact hel) hz ht hK
    · cases hT
  · cases hT
theorem st_idxrn {T e : TypeId} {x y : Operand} {p : Nat} {es : List (List D)} {dp : Bool} {i : Int} {j n : Nat} (ho : o.op = .indexAddr T x y) (hd : o.dst = some t) (hT : sliceT X T = some e) (hx : σ.ev x = .row p) (hp : lookO σ.ob p = some (.row e es dp)) (hy : σ.ev y = .d (.n .i64 i)) (hj : i = (j : Int)) (hn : es.length = n)
    (hlt : j < n) (ht : Nat.blt t σ.nt = true) (hK : K (σ.put t (.pr p j 0))) : QOk X o σ K := by
  unfold sliceT at hT
  split at hT
  · rename_i ti _
    unfold isSliceD at hT
    split at hT
    · rename_i hde
      injection hT with hT
      subst hT
      exact st_idxr (ti := ti) hde rfl ho hd hx hp hy (by omega) ht (by rw [show i.toNat = j by omega]; exact hK)
    · cases hT
  · cases hT
def nth {α : Type} [Inhabited α] (l : List α) (j : Nat) : α := l.getD j default
theorem map_at {α β : Type} [Inhabited α] {f : α → β} {l : List α} {j : Nat} (h : j < l.length) : (l.map f)[j]? = some (f (nth l j)) := by
  simp [nth, List.getD, h]
end
end Go.Proofs.Ythmajaeekkbnnaa
