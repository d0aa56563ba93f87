/-
  The rules with short names, their side conditions as default tactics (gensh.py writes this text).
-/
import Derived.Test.YthmajaeekkbnnaaEnA
namespace Go.Proofs.Ythmajaeekkbnnaa
open Go Go.RowKit

theorem sh_setN_at {α β : Type} [Inhabited α] {f : α → β} {l : List α} {i j : Nat} {x : β} (h : j < l.length) (hn : i ≠ j) : ((l.map f).set i x)[j]? = some (f (nth l j)) := by
  rw [List.getElem?_set_ne hn]
  exact map_at h
theorem sh_cut_at {α β : Type} [Inhabited α] {f : α → β} {l : List α} {i j : Nat} (h : j ≤ l.length) (hi : i < j) : ([] ++ ((l.map f).take j).drop 0)[i]? = some (f (nth l i)) := by
  rw [List.nil_append, List.drop_zero, List.getElem?_take_of_lt hi]
  exact map_at (by omega)
theorem sh_cut_len {α β : Type} {f : α → β} {l : List α} {j : Nat} (h : j ≤ l.length) : ([] ++ ((l.map f).take j).drop 0).length = j := by simp; omega
theorem sh_flatE_set {es : List (List D)} {i : Nat} {el : List D} (h1 : flatE es = true) (h2 : el.all D.flat1 = true) : flatE (es.set i el) = true := by
  unfold flatE at *
  rw [List.all_eq_true] at h1 ⊢
  intro x hx
  rcases List.mem_or_eq_of_mem_set hx with h | h
  · exact h1 x h
  · rw [h]; exact h2
theorem sh_byteE_cut (b : List UInt8) (j i : Nat) : ((byteE b).take j).drop i = byteE ((b.take j).drop i) := by simp [byteE, List.map_take, List.map_drop]
theorem op_id {X : Cx} {o : Oper} {σ : AS} {K : AS → Prop} (h : OpOk X o σ K) : OpOk X o σ K := h
theorem q_id {X : Cx} {o : Oper} {σ : AS} {K : AS → Prop} (h : QOk X o σ K) : QOk X o σ K := h
/-- Operations that may leave memory alone. -/
def isQ : Op → Bool
  | .binOp .. => true
  | .convert .. => true
  | .index .. => true
  | .indexAddr .. => true
  | .load .. => true
  | .slice .. => true
  | .build .. => true
  | .field .. => true
  | .call { callee := .builtin _, .. } => true
  | _ => false
theorem qok_q {X : Cx} {o : Oper} {σ : AS} {K : AS → Prop} (_h : isQ o.op = true) (h : QOk X o σ K) : OpOk X o σ K := h.ok
/-- A way with what is known on it. -/
structure Hb (p G : Prop) : Prop where
  go : p → G
section
variable {X : Cx} {σ : AS} {Q : Exit → AS → Prop}
theorem cond_x {c : Operand} {x y : Code} {t : Bool} (hc : σ.ev c = .d (.b t)) (h1 : Hb (t = true) (AWp X x Q σ)) (h2 : Hb (t = false) (AWp X y Q σ)) : AWp X (.cond c x y) Q σ := awp_cond hc h1.go h2.go
theorem ops_x {ops : Array Oper} {o : Oper} {l : List Oper} {j d : Nat} {t t' : Bool} (hg : o.guard = some (j, t)) (hd : (ops[j]?).bind (·.dst) = some d) (hv : look σ.sl d = .d (.b t'))
    (h1 : Hb (t' = true) (OpsOk X ops (o :: l) Q (σ.put d (.d (.b true))))) (h2 : Hb (t' = false) (OpsOk X ops (o :: l) Q (σ.put d (.d (.b false))))) : OpsOk X ops (o :: l) Q σ := ops_gsplit hg hd hv h1.go h2.go
theorem qs_x {ops : Array Oper} {N : AS → Prop} {o : Oper} {l : List Oper} {j d : Nat} {t t' : Bool} (hg : o.guard = some (j, t)) (hd : (ops[j]?).bind (·.dst) = some d) (hv : look σ.sl d = .d (.b t'))
    (h1 : Hb (t' = true) (QsOk X ops (o :: l) N (σ.put d (.d (.b true))))) (h2 : Hb (t' = false) (QsOk X ops (o :: l) N (σ.put d (.d (.b false))))) : QsOk X ops (o :: l) N σ := qs_gsplit hg hd hv h1.go h2.go
end
section
variable {X : Cx} {σ : AS} {o : Oper} {K : AS → Prop} {t : Nat} {p q : Int} {m n : Nat} {xt yt : TypeId} {x y : Operand}
theorem zk0 (ho : o.op = .binOp .add xt x y yt) (hd : o.dst = some t) (hx : σ.ev x = .d (.n .i64 p)) (hy : σ.ev y = .d (.n .i64 q)) (ht : Nat.blt t σ.nt = true) (hK : K (σ.put t (.d (.n .i64 ((m + n : Nat) : Int))))) (hp : p = (m : Int) := by first | with_reducible rfl | exact nlit _ | exact (Int.toNat_of_nonneg (by omega)).symm | rfl) (hq : q = (n : Int) := by first | with_reducible rfl | exact nlit _ | exact (Int.toNat_of_nonneg (by omega)).symm | rfl) (hb : m + n ≤ 9223372036854775807 := by omega) : QOk X o σ K := st_addn ho hd hx hp hy hq hb ht hK
end
section
variable {X : Cx} {σ : AS} {o : Oper} {K : AS → Prop} {t : Nat} {p q : Int} {m n : Nat} {xt yt : TypeId} {x y : Operand}
theorem zk1 (ho : o.op = .binOp .sub xt x y yt) (hd : o.dst = some t) (hx : σ.ev x = .d (.n .i64 p)) (hy : σ.ev y = .d (.n .i64 q)) (ht : Nat.blt t σ.nt = true) (hK : K (σ.put t (.d (.n .i64 ((m - n : Nat) : Int))))) (hp : p = (m : Int) := by first | with_reducible rfl | exact nlit _ | exact (Int.toNat_of_nonneg (by omega)).symm | rfl) (hq : q = (n : Int) := by first | with_reducible rfl | exact nlit _ | exact (Int.toNat_of_nonneg (by omega)).symm | rfl) (hb : n ≤ m ∧ m ≤ 9223372036854775807 := by omega) : QOk X o σ K := st_subn ho hd hx hp hy hq hb ht hK
end
section
variable {X : Cx} {σ : AS} {o : Oper} {K : AS → Prop} {t : Nat} {p q : Int} {m n : Nat} {xt yt : TypeId} {x y : Operand}
theorem zk2 (ho : o.op = .binOp .mul xt x y yt) (hd : o.dst = some t) (hx : σ.ev x = .d (.n .i64 p)) (hy : σ.ev y = .d (.n .i64 q)) (ht : Nat.blt t σ.nt = true) (hK : K (σ.put t (.d (.n .i64 ((m * n : Nat) : Int))))) (hp : p = (m : Int) := by first | with_reducible rfl | exact nlit _ | exact (Int.toNat_of_nonneg (by omega)).symm | rfl) (hq : q = (n : Int) := by first | with_reducible rfl | exact nlit _ | exact (Int.toNat_of_nonneg (by omega)).symm | rfl) (hb : m * n ≤ 9223372036854775807 := by omega) : QOk X o σ K := st_muln ho hd hx hp hy hq hb ht hK
end
section
variable {X : Cx} {σ : AS} {o : Oper} {K : AS → Prop} {t : Nat} {p q : Int} {m n : Nat} {xt yt : TypeId} {x y : Operand}
theorem zk3 (ho : o.op = .binOp .quo xt x y yt) (hd : o.dst = some t) (hx : σ.ev x = .d (.n .i64 p)) (hy : σ.ev y = .d (.n .i64 q)) (ht : Nat.blt t σ.nt = true) (hK : K (σ.put t (.d (.n .i64 ((m / n : Nat) : Int))))) (hp : p = (m : Int) := by first | with_reducible rfl | exact nlit _ | exact (Int.toNat_of_nonneg (by omega)).symm | rfl) (hq : q = (n : Int) := by first | with_reducible rfl | exact nlit _ | exact (Int.toNat_of_nonneg (by omega)).symm | rfl) (hb : 0 < n ∧ m ≤ 9223372036854775807 := by omega) : QOk X o σ K := st_quon ho hd hx hp hy hq hb ht hK
end
section
variable {X : Cx} {σ : AS} {o : Oper} {K : AS → Prop} {t : Nat} {p q : Int} {m n : Nat} {xt yt : TypeId} {x y : Operand}
theorem zk4 (ho : o.op = .binOp .rem xt x y yt) (hd : o.dst = some t) (hx : σ.ev x = .d (.n .i64 p)) (hy : σ.ev y = .d (.n .i64 q)) (ht : Nat.blt t σ.nt = true) (hK : K (σ.put t (.d (.n .i64 ((m % n : Nat) : Int))))) (hp : p = (m : Int) := by first | with_reducible rfl | exact nlit _ | exact (Int.toNat_of_nonneg (by omega)).symm | rfl) (hq : q = (n : Int) := by first | with_reducible rfl | exact nlit _ | exact (Int.toNat_of_nonneg (by omega)).symm | rfl) (hb : 0 < n := by omega) : QOk X o σ K := st_remn ho hd hx hp hy hq hb ht hK
end
section
variable {X : Cx} {σ : AS} {o : Oper} {K : AS → Prop} {t : Nat} {p q : Int} {xt yt : TypeId} {x y : Operand}
theorem zk5 (ho : o.op = .binOp .add xt x y yt) (hd : o.dst = some t) (hx : σ.ev x = .d (.n .i64 p)) (hy : σ.ev y = .d (.n .i64 q)) (ht : Nat.blt t σ.nt = true) (hK : K (σ.put t (.d (.n .i64 (p + q))))) (hb : -9223372036854775808 ≤ p + q ∧ p + q ≤ 9223372036854775807 := by omega) : QOk X o σ K := st_add ho hd hx hy hb ht hK
end
section
variable {X : Cx} {σ : AS} {o : Oper} {K : AS → Prop} {t : Nat} {p q : Int} {xt yt : TypeId} {x y : Operand}
theorem zk6 (ho : o.op = .binOp .sub xt x y yt) (hd : o.dst = some t) (hx : σ.ev x = .d (.n .i64 p)) (hy : σ.ev y = .d (.n .i64 q)) (ht : Nat.blt t σ.nt = true) (hK : K (σ.put t (.d (.n .i64 (p - q))))) (hb : -9223372036854775808 ≤ p - q ∧ p - q ≤ 9223372036854775807 := by omega) : QOk X o σ K := st_sub ho hd hx hy hb ht hK
end
section
variable {X : Cx} {σ : AS} {o : Oper} {K : AS → Prop} {t : Nat} {p q : Int} {xt yt : TypeId} {x y : Operand}
theorem zk7 (ho : o.op = .binOp .mul xt x y yt) (hd : o.dst = some t) (hx : σ.ev x = .d (.n .i64 p)) (hy : σ.ev y = .d (.n .i64 q)) (ht : Nat.blt t σ.nt = true) (hK : K (σ.put t (.d (.n .i64 (p * q))))) (hb : -9223372036854775808 ≤ p * q ∧ p * q ≤ 9223372036854775807 := by omega) : QOk X o σ K := st_mul ho hd hx hy hb ht hK
end
section
variable {X : Cx} {σ : AS} {o : Oper} {K : AS → Prop} {t : Nat} {p q : Int} {xt yt : TypeId} {x y : Operand}
theorem zk8 (ho : o.op = .binOp .quo xt x y yt) (hd : o.dst = some t) (hx : σ.ev x = .d (.n .i64 p)) (hy : σ.ev y = .d (.n .i64 q)) (ht : Nat.blt t σ.nt = true) (hK : K (σ.put t (.d (.n .i64 (p / q))))) (hb : 0 ≤ p ∧ p ≤ 9223372036854775807 ∧ 0 < q := by omega) : QOk X o σ K := st_quo ho hd hx hy hb ht hK
end
section
variable {X : Cx} {σ : AS} {o : Oper} {K : AS → Prop} {t : Nat} {p q : Int} {xt yt : TypeId} {x y : Operand}
theorem zk9 (ho : o.op = .binOp .rem xt x y yt) (hd : o.dst = some t) (hx : σ.ev x = .d (.n .i64 p)) (hy : σ.ev y = .d (.n .i64 q)) (ht : Nat.blt t σ.nt = true) (hK : K (σ.put t (.d (.n .i64 (p % q))))) (hb : 0 ≤ p ∧ 0 < q := by omega) : QOk X o σ K := st_rem ho hd hx hy hb ht hK
end
section
variable {X : Cx} {σ : AS} {o : Oper} {K : AS → Prop} {t : Nat} {p q : Int} {xt yt : TypeId} {x y : Operand}
theorem zk10 (ho : o.op = .binOp .sub xt x y yt) (hd : o.dst = some t) (hx : σ.ev x = .d (.n .u8 p)) (hy : σ.ev y = .d (.n .u8 q)) (ht : Nat.blt t σ.nt = true) (hK : K (σ.put t (.d (.n .u8 (p - q))))) (hb : 0 ≤ p - q ∧ p - q ≤ 255 := by omega) : QOk X o σ K := st_sub8 ho hd hx hy hb ht hK
end
section
variable {X : Cx} {σ : AS} {o : Oper} {K : AS → Prop} {t : Nat}
theorem zk11 {x : Operand} {T : TypeId} {l : List UInt8} (ho : o.op = .call { callee := .builtin .len, args := #[x], argTypes := #[T] }) (hd : o.dst = some t) (hT : stringT X T = true) (hx : σ.ev x = .d (.s l)) (ht : Nat.blt t σ.nt = true) (hK : K (σ.put t (.d (.n .i64 l.length)))) : QOk X o σ K := st_lens ho hd hT hx ht hK
end
section
variable {X : Cx} {σ : AS} {o : Oper} {K : AS → Prop} {t : Nat}
theorem zk12 {x : Operand} {T e : TypeId} {es : List (List D)} {n : Nat} (ho : o.op = .call { callee := .builtin .len, args := #[x], argTypes := #[T] }) (hd : o.dst = some t) (hT : sliceT X T = some e) (hx : σ.els (σ.ev x) = some es) (ht : Nat.blt t σ.nt = true) (hK : n ≤ 9223372036854775807 → K (σ.put t (.d (.n .i64 n)))) (hn : es.length = n := by first | exact List.length_map _ | exact chunk_length _ _ _ | exact byteE_length _ | exact strE_length _ | exact intE_length _ | exact (rfl : _ = 1) | exact (rfl : _ = 0) | exact (rfl : _ = 2) | exact (rfl : _ = 3) | exact cutM_length (by omega) | exact List.length_set.trans (List.length_map _) | exact (List.length_set.trans List.length_set).trans (List.length_map _) | exact sh_cut_len (by omega) | rfl) : QOk X o σ K := st_len ho hd hT hx hn ht hK
end
section
variable {X : Cx} {σ : AS} {o : Oper} {K : AS → Prop} {t : Nat}
theorem zk13 {T e : TypeId} {x y : Operand} {es : List (List D)} {el : List D} {i : Int} {j n : Nat} [te : TI X.P e] (ho : o.op = .indexAddr T x y) (hd : o.dst = some t) (hT : sliceT X T = some e) (hx : σ.ev x = .d (.sl es)) (hy : σ.ev y = .d (.n .i64 i)) (hz : Nat.beq el.length te.size = true) (ht : Nat.blt t σ.nt = true) (hK : K (σ.put t (.pd el 0))) (hj : i = (j : Int) := by first | with_reducible rfl | exact nlit _ | exact (Int.toNat_of_nonneg (by omega)).symm | rfl) (hn : es.length = n := by first | exact List.length_map _ | exact chunk_length _ _ _ | exact byteE_length _ | exact strE_length _ | exact intE_length _ | exact (rfl : _ = 1) | exact (rfl : _ = 0) | exact (rfl : _ = 2) | exact (rfl : _ = 3) | exact cutM_length (by omega) | exact List.length_set.trans (List.length_map _) | exact (List.length_set.trans List.length_set).trans (List.length_map _) | exact sh_cut_len (by omega) | rfl) (hlt : j < n := by first | omega | decide) (hel : es[j]? = some el := by first | exact map_at (by omega) | rfl | exact set_at (by omega) | exact sh_setN_at (by omega) (by omega) | exact sh_cut_at (by omega) (by omega)) : QOk X o σ K := st_idxn ho hd hT hx hy hj hn hlt hel hz ht hK
end
section
variable {X : Cx} {σ : AS} {o : Oper} {K : AS → Prop} {t : Nat}
theorem zk14 {T e : TypeId} {x y : Operand} {p : Nat} {es : List (List D)} {dp : Bool} {i : Int} {j n : Nat} (ho : o.op = .indexAddr T x y) (hd : o.dst = some t) (hT : sliceT X T = some e) (hx : σ.ev x = .row p) (hp : lookO σ.ob p = some (.row e es dp)) (hy : σ.ev y = .d (.n .i64 i)) (ht : Nat.blt t σ.nt = true) (hK : K (σ.put t (.pr p j 0))) (hj : i = (j : Int) := by first | with_reducible rfl | exact nlit _ | exact (Int.toNat_of_nonneg (by omega)).symm | rfl) (hn : es.length = n := by first | exact List.length_map _ | exact chunk_length _ _ _ | exact byteE_length _ | exact strE_length _ | exact intE_length _ | exact (rfl : _ = 1) | exact (rfl : _ = 0) | exact (rfl : _ = 2) | exact (rfl : _ = 3) | exact cutM_length (by omega) | exact List.length_set.trans (List.length_map _) | exact (List.length_set.trans List.length_set).trans (List.length_map _) | exact sh_cut_len (by omega) | rfl) (hlt : j < n := by first | omega | decide) : QOk X o σ K := st_idxrn ho hd hT hx hp hy hj hn hlt ht hK
end
section
variable {X : Cx} {σ : AS} {o : Oper} {K : AS → Prop} {t : Nat}
theorem zk15 {T : TypeId} {x : Operand} {low high : Option Operand} {l : List UInt8} {i j : Nat} {p q : Int} (ho : o.op = .slice T x low high none) (hd : o.dst = some t) (hT : stringT X T = true) (hx : σ.ev x = .d (.s l)) (hlo : σ.low low = some p) (hhi : σ.high l.length high = some q) (ht : Nat.blt t σ.nt = true) (hK : K (σ.put t (.d (.s ((l.take j).drop i))))) (hi : p = (i : Int) := by first | with_reducible rfl | exact nlit _ | exact (Int.toNat_of_nonneg (by omega)).symm | rfl) (hj : q = (j : Int) := by first | with_reducible rfl | exact nlit _ | exact (Int.toNat_of_nonneg (by omega)).symm | rfl) (hb : i ≤ j ∧ j ≤ l.length := by omega) : QOk X o σ K := st_slices ho hd hT hx hlo hi hhi hj hb ht hK
end
section
variable {X : Cx} {σ : AS} {o : Oper} {K : AS → Prop} {t : Nat}
theorem zk16 {T e : TypeId} {x : Operand} {low high : Option Operand} {es : List (List D)} {n i j : Nat} {p q : Int} [te : TI X.P e] (ho : o.op = .slice T x low high none) (hd : o.dst = some t) (hT : sliceT X T = some e) (hx : σ.ev x = .d (.sl es)) (hlo : σ.low low = some p) (hhi : σ.high n high = some q) (ht : Nat.blt t σ.nt = true) (hK : K (σ.put t (.d (.sl ((es.take j).drop i))))) (hn : es.length = n := by first | exact List.length_map _ | exact chunk_length _ _ _ | exact byteE_length _ | exact strE_length _ | exact intE_length _ | exact (rfl : _ = 1) | exact (rfl : _ = 0) | exact (rfl : _ = 2) | exact (rfl : _ = 3) | exact cutM_length (by omega) | exact List.length_set.trans (List.length_map _) | exact (List.length_set.trans List.length_set).trans (List.length_map _) | exact sh_cut_len (by omega) | rfl) (hi : p = (i : Int) := by first | with_reducible rfl | exact nlit _ | exact (Int.toNat_of_nonneg (by omega)).symm | rfl) (hj : q = (j : Int) := by first | with_reducible rfl | exact nlit _ | exact (Int.toNat_of_nonneg (by omega)).symm | rfl) (hb : i ≤ j ∧ j ≤ n := by omega) (hz : lenE es te.size := by first | exact lenE_nil _ | exact lenE_one rfl | exact lenE_map (fun _ => rfl) | exact cutM_lenE (fun _ => rfl)) : QOk X o σ K := st_sliced ho hd hT hx hn hlo hi hhi hj hb hz ht hK
end
section
variable {X : Cx} {σ : AS} {o : Oper} {K : AS → Prop} {Q : Exit → AS → Prop} {t : Nat}
theorem zk17 {src dst e : TypeId} {x : Operand} {es : List (List D)} {l : List UInt8} (ho : o.op = .convert src dst x) (hd : o.dst = some t) (hT : sliceT X src = some e) (he : byteT X e = true) (hs : stringT X dst = true) (hx : σ.els (σ.ev x) = some es) (ht : Nat.blt t σ.nt = true) (hK : K (σ.put t (.d (.s l)))) (hl : es = byteE l := by first | rfl | exact byteE_one (by omega) | exact sh_byteE_cut _ _ _) : QOk X o σ K := st_tostr ho hd hT he hs hx hl ht hK
end
section
variable {X : Cx} {σ : AS} {o : Oper} {K : AS → Prop} {Q : Exit → AS → Prop} {t : Nat}
theorem zk18 {T : TypeId} {x y : Operand} {l : List UInt8} {p : Int} {j : Nat} (ho : o.op = .index T x y) (hd : o.dst = some t) (hT : stringT X T = true) (hx : σ.ev x = .d (.s l)) (hy : σ.ev y = .d (.n .i64 p)) (ht : Nat.blt t σ.nt = true) (hK : K (σ.put t (.d (.n .u8 (l.getD j 0).toNat)))) (hj : p = (j : Int) := by first | with_reducible rfl | exact nlit _ | exact (Int.toNat_of_nonneg (by omega)).symm | rfl) (hlt : j < l.length := by omega) : QOk X o σ K := st_atn ho hd hT hx hy hj hlt ht hK
end
section
variable {X : Cx} {σ : AS} {o : Oper} {K : AS → Prop} {Q : Exit → AS → Prop} {t : Nat}
theorem zk19 {l r : List UInt8} {xt yt : TypeId} {x y : Operand} (ho : o.op = .binOp .add xt x y yt) (hd : o.dst = some t) (hx : σ.ev x = .d (.s l)) (hy : σ.ev y = .d (.s r)) (ht : Nat.blt t σ.nt = true) (hK : K (σ.put t (.d (.s (l ++ r))))) (hb : l.length + r.length ≤ 9223372036854775807 := by first | omega | (simp only [List.length_cons, List.length_nil]; omega) | (simp only [List.length_append]; omega) | (simp only [List.length_append, List.length_cons, List.length_nil]; omega)) : QOk X o σ K := st_catn ho hd hx hy hb ht hK
end
section
variable {X : Cx} {σ : AS} {o : Oper} {K : AS → Prop} {Q : Exit → AS → Prop} {t : Nat}
theorem zk20 {src dst : TypeId} {k : IntKind} {x : Operand} {p : Int} (ho : o.op = .convert src dst x) (hd : o.dst = some t) (hs : hasT X src = true) (hT : intT X dst = some .u8) (hx : σ.ev x = .d (.n k p)) (ht : Nat.blt t σ.nt = true) (hK : K (σ.put t (.d (.n .u8 p)))) (hb : 0 ≤ p ∧ p ≤ 255 := by omega) : QOk X o σ K := st_conv8 ho hd hs hT hx hb ht hK
end
section
variable {X : Cx} {σ : AS} {o : Oper} {K : AS → Prop} {t : Nat}
theorem zk21 {src dst : TypeId} {k : IntKind} {x : Operand} {p : Int} {n : Nat} (ho : o.op = .convert src dst x) (hd : o.dst = some t) (hs : hasT X src = true) (hT : intT X dst = some .u8) (hx : σ.ev x = .d (.n k p)) (ht : Nat.blt t σ.nt = true) (hK : K (σ.put t (.d (.n .u8 ((UInt8.ofNat n).toNat : Int))))) (hp : p = (n : Int) := by first | with_reducible rfl | exact nlit _ | exact (Int.toNat_of_nonneg (by omega)).symm | rfl) : QOk X o σ K := st_conv8n ho hd hs hT hx hp ht hK
end
section
variable {X : Cx} {σ : AS} {o : Oper} {K : AS → Prop} {Q : Exit → AS → Prop} {t : Nat}
theorem zk22 {src dst : TypeId} {k : IntKind} {x : Operand} {p : Int} (ho : o.op = .convert src dst x) (hd : o.dst = some t) (hs : hasT X src = true) (hT : intT X dst = some .i64) (hx : σ.ev x = .d (.n k p)) (ht : Nat.blt t σ.nt = true) (hK : K (σ.put t (.d (.n .i64 p)))) (hb : -9223372036854775808 ≤ p ∧ p ≤ 9223372036854775807 := by omega) : QOk X o σ K := st_conv64 ho hd hs hT hx hb ht hK
end
section
variable {X : Cx} {σ : AS} {o : Oper} {K : AS → Prop} {t : Nat}
theorem zk23 {T : TypeId} {parts : Array (Nat × Operand)} {fs : List Field} {pl : List (Nat × Nat)} {cs : List AV} [ti : TI X.P T] (ho : o.op = .build T parts) (hd : o.dst = some t) (hfs : structD ti.desc = some fs) (hpl : placesA X fs = some pl) (hcs : fillP pl (zeroAV ti.zero) (σ.evParts parts.toList) = some cs) (ht : Nat.blt t σ.nt = true) (hK : K (σ.put t (.agg cs))) : QOk X o σ K := st_build ho hd hfs hpl hcs ht hK
end
section
variable {X : Cx} {σ : AS} {o : Oper} {K : AS → Prop} {t : Nat}
theorem zk24 {T ft : TypeId} {x : Operand} {f off : Nat} {xs : List AV} {v : AV} [ti : TI X.P T] (ho : o.op = .field T x f) (hd : o.dst = some t) (hf : fieldOff ti.desc f = some (off, ft)) [tf : TI X.P ft] (ha : isAggD tf.desc = false) (hx : σ.ev x = .agg xs) (hv : xs[off]? = some v) (ht : Nat.blt t σ.nt = true) (hK : K (σ.put t v)) : QOk X o σ K := st_fieldv1 ho hd hf ha hx hv ht hK
end
section
variable {X : Cx} {σ : AS} {o : Oper} {K : AS → Prop} {t : Nat}
theorem zk25 {T ft : TypeId} {x : Operand} {f off : Nat} {xs ys : List AV} [ti : TI X.P T] (ho : o.op = .field T x f) (hd : o.dst = some t) (hf : fieldOff ti.desc f = some (off, ft)) [tf : TI X.P ft] (ha : isAggD tf.desc = true) (hx : σ.ev x = .agg xs) (hv : (xs.drop off).take tf.size = ys) (ht : Nat.blt t σ.nt = true) (hK : K (σ.put t (.agg ys))) : QOk X o σ K := st_fieldvN ho hd hf ha hx hv ht hK
end
section
variable {X : Cx} {σ : AS} {o : Oper} {K : AS → Prop} {t : Nat}
theorem zk26 {x y : Operand} {T1 T2 : TypeId} {p q : Int} (ho : o.op = .call { callee := .builtin .min, args := #[x, y], argTypes := #[T1, T2] }) (hd : o.dst = some t) (hx : σ.ev x = .d (.n .i64 p)) (hy : σ.ev y = .d (.n .i64 q)) (ht : Nat.blt t σ.nt = true) (hK : K (σ.put t (.d (.n .i64 (min p q))))) : QOk X o σ K := st_min ho hd hx hy ht hK
end
section
variable {X : Cx} {σ : AS} {o : Oper} {K : AS → Prop} {t : Nat}
theorem zk27 {x y : Operand} {T1 T2 : TypeId} {p q : Int} (ho : o.op = .call { callee := .builtin .max, args := #[x, y], argTypes := #[T1, T2] }) (hd : o.dst = some t) (hx : σ.ev x = .d (.n .i64 p)) (hy : σ.ev y = .d (.n .i64 q)) (ht : Nat.blt t σ.nt = true) (hK : K (σ.put t (.d (.n .i64 (max p q))))) : QOk X o σ K := st_max ho hd hx hy ht hK
end
section
variable {X : Cx} {σ : AS} {o : Oper} {K : AS → Prop} {t : Nat}
theorem zk28 {T yt : TypeId} {x y : Operand} {xs ys : List AV} {b : Bool} {ti : TI X.P T} {ns : List Nat} (hc : (ns.all fun T => !X.P.stoodInHeld T) = true) (ho : o.op = .binOp .eql T x y yt) (hd : o.dst = some t) (hx : σ.ev x = .agg xs) (hy : σ.ev y = .agg ys) (htt : X.tt T = some ti) (hst : (structD ti.desc).isSome = true) (hb : eqT X ns 100 T xs ys = some b) (ht : Nat.blt t σ.nt = true) (hK : K (σ.put t (.d (.b b)))) (hg : X.P.eqGuardType X.P.depth T = false := by kernel_rfl) : QOk X o σ K := st_eqagg hc hg ho hd hx hy htt hst hb ht hK
end
section
variable {X : Cx} {σ : AS} {o : Oper} {K : AS → Prop} {t : Nat}
theorem zk29 {T yt : TypeId} {x y : Operand} {xs ys : List AV} {b : Bool} {ti : TI X.P T} {ns : List Nat} (hc : (ns.all fun T => !X.P.stoodInHeld T) = true) (ho : o.op = .binOp .neq T x y yt) (hd : o.dst = some t) (hx : σ.ev x = .agg xs) (hy : σ.ev y = .agg ys) (htt : X.tt T = some ti) (hst : (structD ti.desc).isSome = true) (hb : eqT X ns 100 T xs ys = some b) (ht : Nat.blt t σ.nt = true) (hK : K (σ.put t (.d (.b (!b))))) (hg : X.P.eqGuardType X.P.depth T = false := by kernel_rfl) : QOk X o σ K := st_neagg hc hg ho hd hx hy htt hst hb ht hK
end
section
variable {X : Cx} {σ : AS} {o : Oper} {K : AS → Prop} {t : Nat}
theorem zk30 {T e : TypeId} {x : Operand} {v : AV} {p i off : Nat} {es : List (List D)} {dp : Bool} {el : List D} [ti : TI X.P T] (ho : o.op = .load T x) (hd : o.dst = some t) (hx : σ.ev x = .pr p i off) (hp : lookO σ.ob p = some (.row e es dp)) (hv : ((el.drop off).map AV.d)[0]? = some v) (ha : isAggD ti.desc = false) (ht : Nat.blt t σ.nt = true) (hK : K (σ.put t v)) (hel : es[i]? = some el := by first | exact map_at (by omega) | rfl | exact set_at (by omega) | exact sh_setN_at (by omega) (by omega) | exact sh_cut_at (by omega) (by omega)) : QOk X o σ K := st_loadr1 ho hd hx hp hel hv ha ht hK
end
section
variable {X : Cx} {σ : AS} {o : Oper} {K : AS → Prop} {t : Nat}
theorem zk31 {T e : TypeId} {x : Operand} {xs : List AV} {p i off : Nat} {es : List (List D)} {dp : Bool} {el : List D} [ti : TI X.P T] (ho : o.op = .load T x) (hd : o.dst = some t) (hx : σ.ev x = .pr p i off) (hp : lookO σ.ob p = some (.row e es dp)) (hv : ((el.drop off).map AV.d).take ti.size = xs) (hl : Nat.beq xs.length ti.size = true) (ha : isAggD ti.desc = true) (ht : Nat.blt t σ.nt = true) (hK : K (σ.put t (.agg xs))) (hel : es[i]? = some el := by first | exact map_at (by omega) | rfl | exact set_at (by omega) | exact sh_setN_at (by omega) (by omega) | exact sh_cut_at (by omega) (by omega)) : QOk X o σ K := st_loadrN ho hd hx hp hel hv hl ha ht hK
end
section
variable {X : Cx} {σ : AS} {o : Oper} {K : AS → Prop} {t : Nat}
theorem zk32 {s x : Operand} {T S e : TypeId} {p : Nat} {es : List (List D)} {dp : Bool} {l : List UInt8} {n1 : Nat} [te : TI X.P e] (ho : o.op = .call { callee := .builtin .append, args := #[s, x], argTypes := #[T, S] }) (hd : o.dst = some t) (hT : sliceT X T = some e) (hS : stringT X S = true) (hz0 : te.zero = .int .u8 0) (hs1 : te.size = 1) (hb1 : te.bytes = 1) (hs : σ.ev s = .row p) (hp : lookO σ.ob p = some (.row e es dp)) (hx : σ.ev x = .d (.s l)) (hlo : X.fre p = true) (ht : Nat.blt t σ.nt = true) (hK : K ⟨σ.nt, (t, .row p) :: cutS (notN p) σ.sl, (p, .row e (es ++ byteE l) dp) :: restO (notN p) p σ.ob⟩) (hn1 : es.length = n1 := by first | exact List.length_map _ | exact chunk_length _ _ _ | exact byteE_length _ | exact strE_length _ | exact intE_length _ | exact (rfl : _ = 1) | exact (rfl : _ = 0) | exact (rfl : _ = 2) | exact (rfl : _ = 3) | exact cutM_length (by omega) | exact List.length_set.trans (List.length_map _) | exact (List.length_set.trans List.length_set).trans (List.length_map _) | exact sh_cut_len (by omega) | rfl) (hb : n1 + l.length ≤ 1099511627776 := by omega) : OpOk X o σ K := st_appstr ho hd hT hS hz0 hs1 hb1 hs hp hx hn1 hb hlo ht hK
end
section
variable {X : Cx} {σ : AS} {o : Oper} {K : AS → Prop} {t : Nat}
theorem zk33 {s x : Operand} {T e : TypeId} {p : Nat} {es es2 : List (List D)} {dp : Bool} {n1 n2 : Nat} [te : TI X.P e] (ho : o.op = .call { callee := .builtin .append, args := #[s, x], argTypes := #[T, T] }) (hd : o.dst = some t) (hT : sliceT X T = some e) (hs : σ.ev s = .row p) (hp : lookO σ.ob p = some (.row e es dp)) (hx : σ.els (σ.ev x) = some es2) (hk : ElemOk te) (hlo : X.fre p = true) (ht : Nat.blt t σ.nt = true) (hK : K ⟨σ.nt, (t, .row p) :: cutS (notN p) σ.sl, (p, .row e (es ++ es2) dp) :: restO (notN p) p σ.ob⟩) (hn1 : es.length = n1 := by first | exact List.length_map _ | exact chunk_length _ _ _ | exact byteE_length _ | exact strE_length _ | exact intE_length _ | exact (rfl : _ = 1) | exact (rfl : _ = 0) | exact (rfl : _ = 2) | exact (rfl : _ = 3) | exact cutM_length (by omega) | exact List.length_set.trans (List.length_map _) | exact (List.length_set.trans List.length_set).trans (List.length_map _) | exact sh_cut_len (by omega) | rfl) (hn2 : es2.length = n2 := by first | exact List.length_map _ | exact chunk_length _ _ _ | exact byteE_length _ | exact strE_length _ | exact intE_length _ | exact (rfl : _ = 1) | exact (rfl : _ = 0) | exact (rfl : _ = 2) | exact (rfl : _ = 3) | exact cutM_length (by omega) | exact List.length_set.trans (List.length_map _) | exact (List.length_set.trans List.length_set).trans (List.length_map _) | exact sh_cut_len (by omega) | rfl) (hz : lenE es2 te.size := by first | exact lenE_nil _ | exact lenE_one rfl | exact lenE_map (fun _ => rfl) | exact cutM_lenE (fun _ => rfl)) (hfl : flatE es2 = true := by first | rfl | exact flatE_map (fun _ => rfl) | exact cutM_flatE (fun _ => rfl)) (hb : n1 + n2 ≤ 1099511627776 := by omega) : OpOk X o σ K := st_append ho hd hT hs hp hx hk hn1 hn2 hz hfl hb hlo ht hK
end
section
variable {X : Cx} {σ : AS} {o : Oper} {K : AS → Prop} {t : Nat}
theorem zk34 {s x : Operand} {T e : TypeId} {es2 : List (List D)} {n2 : Nat} [te : TI X.P e] (ho : o.op = .call { callee := .builtin .append, args := #[s, x], argTypes := #[T, T] }) (hd : o.dst = some t) (hT : sliceT X T = some e) (hs : σ.ev s = .nil) (hx : σ.els (σ.ev x) = some es2) (hk : ElemOk te) (hf : freeN X.fre t σ.ob = true) (ht : Nat.blt t σ.nt = true) (hK : K ⟨σ.nt, (t, .row t) :: σ.sl, (t, .row e es2 true) :: dropO t σ.ob⟩) (hn2 : es2.length = n2 := by first | exact List.length_map _ | exact chunk_length _ _ _ | exact byteE_length _ | exact strE_length _ | exact intE_length _ | exact (rfl : _ = 1) | exact (rfl : _ = 0) | exact (rfl : _ = 2) | exact (rfl : _ = 3) | exact cutM_length (by omega) | exact List.length_set.trans (List.length_map _) | exact (List.length_set.trans List.length_set).trans (List.length_map _) | exact sh_cut_len (by omega) | rfl) (hz : lenE es2 te.size := by first | exact lenE_nil _ | exact lenE_one rfl | exact lenE_map (fun _ => rfl) | exact cutM_lenE (fun _ => rfl)) (hfl : flatE es2 = true := by first | rfl | exact flatE_map (fun _ => rfl) | exact cutM_flatE (fun _ => rfl)) (hb : n2 ≤ 1099511627776 := by omega) : OpOk X o σ K := st_appnil ho hd hT hs hx hk hn2 hz hfl hb hf ht hK
end
section
variable {X : Cx} {σ : AS} {o : Oper} {K : AS → Prop} {t : Nat}
theorem zk35 {T e : TypeId} {len : Nat} {parts : Array (Nat × Operand)} {cs : List AV} {ds : List D} {es : List (List D)} [te : TI X.P e] (ho : o.op = .buildSlice T len parts) (hd : o.dst = some t) (hT : sliceT X T = some e) (hk : ElemOk te) (hz1 : te.zero.cells.toList.all Value.oneCell' = true) (hcs : fillA te.size (zerosA te.zero len) (σ.evParts parts.toList) = some cs) (hds : dataL cs = some ds) (hl : Nat.beq ds.length (len * te.size) = true) (hfl : ds.all D.flat1 = true) (hsm : Nat.ble (len * te.size) 16777216 = true) (hes : forceE (chunk te.size len ds) some = some es) (hf : freeN X.fre t σ.ob = true) (ht : Nat.blt t σ.nt = true) (hK : K ⟨σ.nt, (t, .row t) :: σ.sl, (t, .row e es true) :: dropO t σ.ob⟩) : OpOk X o σ K := st_lit ho hd hT hk hz1 hcs hds hl hfl hsm hes hf ht hK
end
section
variable {X : Cx} {σ : AS} {o : Oper} {K : AS → Prop} {t : Nat}
theorem zk36 {T e : TypeId} {x y : Operand} {p q : Int} {n : Nat} {zd : List D} [te : TI X.P e] (ho : o.op = .makeSlice T x y) (hd : o.dst = some t) (hT : sliceT X T = some e) (hx : σ.ev x = .d (.n .i64 p)) (hy : σ.ev y = .d (.n .i64 q)) (hk : ElemOk te) (hzd : (dataL (zeroAV te.zero)).bind (fun l => forceD l some) = some zd) (hfl : zd.all D.flat1 = true) (hlz : Nat.beq zd.length te.size = true) (hf : freeN X.fre t σ.ob = true) (ht : Nat.blt t σ.nt = true) (hK : K ⟨σ.nt, (t, .row t) :: σ.sl, (t, .row e (List.replicate n zd) true) :: dropO t σ.ob⟩) (hp : p = (n : Int) := by first | with_reducible rfl | exact nlit _ | exact (Int.toNat_of_nonneg (by omega)).symm | rfl) (hq : q = (n : Int) := by first | with_reducible rfl | exact nlit _ | exact (Int.toNat_of_nonneg (by omega)).symm | rfl) (hb : n ≤ 1099511627776 := by omega) : OpOk X o σ K := st_make ho hd hT hx hp hy hq hb hk hzd hfl hlz hf ht hK
end
section
variable {X : Cx} {σ : AS} {o : Oper} {K : AS → Prop} {Q : Exit → AS → Prop} {t : Nat}
theorem zk37 {src dst e : TypeId} {x : Operand} {l : List UInt8} (ho : o.op = .convert src dst x) (hd : o.dst = some t) (hs : stringT X src = true) (hT : sliceT X dst = some e) (he : byteT X e = true) (hx : σ.ev x = .d (.s l)) (ht : Nat.blt t σ.nt = true) (hK : K (σ.put t (.d (.sl (byteE l))))) (hb : l.length ≤ 9223372036854775807 := by omega) : OpOk X o σ K := st_tobytes ho hd hs hT he hx hb ht hK
end
section
variable {X : Cx} {σ : AS} {o : Oper} {K : AS → Prop} {t : Nat}
theorem zk38 {T e : TypeId} {x y : Operand} {p i off n : Nat} {es : List (List D)} {dp : Bool} {el ds : List D} {xs : List AV} [ti : TI X.P T] (ho : o.op = .store T x y) (hd : o.dst = none) (hx : σ.ev x = .pr p i off) (hp : lookO σ.ob p = some (.row e es dp)) (hy : (σ.ev y).cellsV = some xs) (hds : dataL xs = some ds) (hfe : el.all D.flat1 = true) (hfd : ds.all D.flat1 = true) (hl : Nat.beq ds.length ti.size = true) (hfit : Nat.ble (off + ti.size) el.length = true) (hK : K ⟨σ.nt, σ.sl, (p, .row e (es.set i (splice el off ds)) dp) :: dropO p σ.ob⟩) (hn : es.length = n := by first | exact List.length_map _ | exact chunk_length _ _ _ | exact byteE_length _ | exact strE_length _ | exact intE_length _ | exact (rfl : _ = 1) | exact (rfl : _ = 0) | exact (rfl : _ = 2) | exact (rfl : _ = 3) | exact cutM_length (by omega) | exact List.length_set.trans (List.length_map _) | exact (List.length_set.trans List.length_set).trans (List.length_map _) | exact sh_cut_len (by omega) | rfl) (hlt : i < n := by omega) (hel : es[i]? = some el := by first | exact map_at (by omega) | rfl | exact set_at (by omega) | exact sh_setN_at (by omega) (by omega) | exact sh_cut_at (by omega) (by omega)) : OpOk X o σ K := st_storer ho hd hx hp hy hds hn hlt hel hfe hfd hl hfit hK
end
section
variable {X : Cx} {σ : AS} {o : Oper} {K : AS → Prop} {Q : Exit → AS → Prop} {t : Nat}
theorem zk39 {src dst : TypeId} {k : IntKind} {x : Operand} {p : Int} (ho : o.op = .convert src dst x) (hd : o.dst = some t) (hs : hasT X src = true) (hT : intT X dst = some .i64) (hx : σ.ev x = .d (.n k p)) (hb : -9223372036854775808 ≤ p ∧ p ≤ 9223372036854775807) (ht : Nat.blt t σ.nt = true) (hK : K (σ.put t (.d (.n .i64 p)))) : QOk X o σ K := st_conv64 ho hd hs hT hx hb ht hK
end
section
variable {X : Cx} {σ : AS} {o : Oper} {K : AS → Prop} {t : Nat} {p q : Int} {xt yt : TypeId} {x y : Operand}
theorem zk40 (ho : o.op = .binOp .add xt x y yt) (hd : o.dst = some t) (hx : σ.ev x = .d (.n .i64 p)) (hy : σ.ev y = .d (.n .i64 q)) (ht : Nat.blt t σ.nt = true) (hK : ∀ r : Int, K (σ.put t (.d (.n .i64 r)))) : QOk X o σ K := st_waddA ho hd hx hy ht hK
end
section
variable {X : Cx} {σ : AS} {o : Oper} {K : AS → Prop} {t : Nat} {p q : Int} {xt yt : TypeId} {x y : Operand}
theorem zk41 (ho : o.op = .binOp .mul xt x y yt) (hd : o.dst = some t) (hx : σ.ev x = .d (.n .i64 p)) (hy : σ.ev y = .d (.n .i64 q)) (ht : Nat.blt t σ.nt = true) (hK : ∀ r : Int, K (σ.put t (.d (.n .i64 r)))) : QOk X o σ K := st_wmulA ho hd hx hy ht hK
end
section
variable {X : Cx} {σ : AS} {o : Oper} {K : AS → Prop} {t : Nat} {p q : Int} {xt yt : TypeId} {x y : Operand}
theorem zk42 {k : IntKind} (ho : o.op = .binOp .shr xt x y yt) (hd : o.dst = some t) (hx : σ.ev x = .d (.n .i64 p)) (hy : σ.ev y = .d (.n k q)) (ht : Nat.blt t σ.nt = true) (hK : ∀ r : Int, K (σ.put t (.d (.n .i64 r)))) (hb : 0 ≤ q := by omega) : QOk X o σ K := st_shr ho hd hx hy hb ht hK
end
section
variable {X : Cx} {σ : AS} {o : Oper} {K : AS → Prop} {t : Nat} {p q : Int} {xt yt : TypeId} {x y : Operand}
theorem zk43 (ho : o.op = .binOp .xor xt x y yt) (hd : o.dst = some t) (hx : σ.ev x = .d (.n .i64 p)) (hy : σ.ev y = .d (.n .i64 q)) (ht : Nat.blt t σ.nt = true) (hK : ∀ r : Int, K (σ.put t (.d (.n .i64 r)))) : QOk X o σ K := st_xor ho hd hx hy ht hK
end
section
variable {X : Cx} {σ : AS} {o : Oper} {K : AS → Prop} {t : Nat} {p q : Int} {xt yt : TypeId} {x y : Operand}
theorem zk44 {n : Nat} (ho : o.op = .binOp .and xt x y yt) (hd : o.dst = some t) (hx : σ.ev x = .d (.n .i64 p)) (hy : σ.ev y = .d (.n .i64 q)) (ht : Nat.blt t σ.nt = true) (hK : ∀ r : Int, 0 ≤ r ∧ r ≤ n → K (σ.put t (.d (.n .i64 r)))) (hq : q = (n : Int) := by first | with_reducible rfl | exact nlit _ | exact (Int.toNat_of_nonneg (by omega)).symm | rfl) (hn : n < 9223372036854775808 := by omega) : QOk X o σ K := st_and ho hd hx hy hq hn ht hK
end
end Go.Proofs.Ythmajaeekkbnnaa
