/-
  The walk over abstract states: what needs no thought, by computing.
-/
import Derived.Test.YthmajaeekkbnnaaAbsI
namespace Go.Proofs.Ythmajaeekkbnnaa
open Go Go.RowKit

/-- The slot written, the value looked at first. -/
def vput (σ : AS) (t : Nat) (v : AV) : Option AS :=
  bif Nat.blt t σ.nt then (match v with
  | .any => some (σ.put t .any)
  | .d (.n k x) => some (σ.put t (.d (.n k x)))
  | .d (.b x) => some (σ.put t (.d (.b x)))
  | .d (.s x) => some (σ.put t (.d (.s x)))
  | .d (.sl x) => some (σ.put t (.d (.sl x)))
  | .nil => some (σ.put t .nil)
  | .row o => some (σ.put t (.row o))
  | .ptr o i => some (σ.put t (.ptr o i))
  | .pr o i j => some (σ.put t (.pr o i j))
  | .pd e i => some (σ.put t (.pd e i))
  | .agg xs => some (σ.put t (.agg xs))
  | .tup xs => some (σ.put t (.tup xs))) else none
theorem vput_spec {σ σ' : AS} {t : Nat} {v : AV} (h : vput σ t v = some σ') : σ' = σ.put t v ∧ Nat.blt t σ.nt = true := by
  unfold vput at h
  cases hb : Nat.blt t σ.nt with
  | false => rw [hb] at h; cases h
  | true =>
    rw [hb] at h
    simp only [cond_true] at h
    split at h <;> (injection h with h; exact ⟨h.symm, rfl⟩)
/-- A list, looked at whole. -/
def forceL {α : Type} : List AV → (List AV → Option α) → Option α
  | [], k => k []
  | x :: xs, k => forceL xs fun ys => k (x :: ys)
theorem forceL_eq {α : Type} : ∀ (xs : List AV) (k : List AV → Option α), forceL xs k = k xs
  | [], k => rfl
  | x :: xs, k => by rw [forceL, forceL_eq xs]
def cmpI (op : BinOp) (x y : Int) : Option Bool :=
  match op with
  | .eql => some (x == y)
  | .neq => some (x != y)
  | .lss => some (decide (x < y))
  | .leq => some (decide (x ≤ y))
  | .gtr => some (decide (y < x))
  | .geq => some (decide (y ≤ x))
  | _ => none
def binA (σ : AS) (t : Nat) (op : BinOp) (bool : Bool) (x y : AV) : Option AS :=
  match x with
  | .d (.n k p) => match y with
    | .d (.n k' q) => match decEq k k' with
      | .isTrue _ => match cmpI op p q with
        | some b => vput σ t (.d (.b b))
        | none => none
      | .isFalse _ => none
    | _ => none
  | .d (.s l) => match y with
    | .d (.s r) => match op with
      | .eql => vput σ t (.d (.b (l == r)))
      | .neq => vput σ t (.d (.b (l != r)))
      | _ => none
    | _ => none
  | .d (.b p) => match y with
    | .d (.b q) => bif bool then (match op with
      | .eql => vput σ t (.d (.b (p == q)))
      | .neq => vput σ t (.d (.b (p != q)))
      | _ => none) else none
    | _ => none
  | _ => none
def isBoolD : TypeDesc → Bool
  | .bool => true
  | _ => false
def boolT (X : Cx) (T : TypeId) : Bool := match X.tt T with
  | some ti => isBoolD ti.desc
  | none => false
def newO (fre : Nat → Bool) (σ : AS) (t : Nat) (T : TypeId) (cs : List AV) : Option AS :=
  bif Nat.blt t σ.nt then (bif freeN fre t σ.ob then some ⟨σ.nt, (t, .ptr t 0) :: σ.sl, (t, .box T cs) :: dropO t σ.ob⟩ else none) else none
def aopV (X : Cx) (o : Oper) (σ : AS) : Option AS :=
  match o.dst with
  | some t => match o.op with
    | .move x => vput σ t (σ.ev x)
    | .assign x => vput σ t (σ.ev x)
    | .pick c x y => match σ.ev c with
      | .d (.b q) => match q with
        | true => vput σ t (σ.ev x)
        | false => vput σ t (σ.ev y)
      | _ => none
    | .extract x i => match σ.ev x with
      | .tup xs => match xs[i]? with
        | some v => vput σ t v
        | none => none
      | _ => none
    | .unOp .not _ x => match σ.ev x with
      | .d (.b q) => vput σ t (.d (.b (!q)))
      | _ => none
    | .nilCheck x => match σ.ev x with
      | .ptr p i => vput σ t (.ptr p i)
      | _ => none
    | .binOp op T x y _ => binA σ t op (boolT X T) (σ.ev x) (σ.ev y)
    | .load T x => match X.tt T with
      | some ti => match σ.at (σ.ev x) with
        | some xs => bif isAggD ti.desc then forceL (xs.take ti.size) (fun ys => bif Nat.beq ys.length ti.size then vput σ t (.agg ys) else none)
          else (match xs[0]? with
            | some v => vput σ t v
            | none => none)
        | none => none
      | none => none
    | .fieldAddr T x f => match X.tt T with
      | some ti => match fieldOff ti.desc f with
        | some (off, ft) => match X.tt ft with
          | some tf => bif Nat.beq tf.size 0 then none else (match (σ.ev x) with
            | .ptr p i => vput σ t (.ptr p (i + off))
            | .pr p i j => vput σ t (.pr p i (j + off))
            | .pd e i => vput σ t (.pd e (i + off))
            | _ => none)
          | none => none
        | none => none
      | none => none
    | _ => none
  | none => none
def aopM (X : Cx) (o : Oper) (σ : AS) : Option AS :=
  match o.dst with
  | some t => match o.op with
    | .alloc T => match X.tt T with
      | some ti => forceL (zeroAV ti.zero) fun cs => newO X.fre σ t T cs
      | none => none
    | .box T x => match (σ.ev x).cellsV with
      | some cs => newO X.fre σ t T cs
      | none => none
    | _ => none
  | none => match o.op with
    | .store T x y => match X.tt T with
      | some ti => match σ.ev x with
        | .ptr p off => match lookO σ.ob p with
          | some (.box e cs) => match (σ.ev y).cellsV with
            | some xs => bif Nat.beq xs.length ti.size then (bif Nat.ble (off + ti.size) cs.length then forceL (splice cs off xs) (fun ys => some ⟨σ.nt, σ.sl, (p, .box e ys) :: dropO p σ.ob⟩) else none) else none
            | none => none
          | _ => none
        | _ => none
      | none => none
    | _ => none
def aop (X : Cx) (o : Oper) (σ : AS) : Option AS := match aopV X o σ with
  | some σ' => some σ'
  | none => aopM X o σ
/-- .. under its guard. -/
def gOp (f : Oper → AS → Option AS) (ops : Array Oper) (o : Oper) (σ : AS) : Option AS :=
  match o.guard with
  | none => f o σ
  | some (j, w) => match (ops[j]?).bind (·.dst) with
    | none => none
    | some d => match look σ.sl d with
      | .d (.b q) => match q with
        | true => match w with
          | true => f o σ
          | false => match o.dst with
            | some s => vput σ s (.tup [])
            | none => none
        | false => match w with
          | false => f o σ
          | true => match o.dst with
            | some s => vput σ s (.tup [])
            | none => none
      | .tup [] => match o.dst with
        | some s => vput σ s (.tup [])
        | none => none
      | _ => none
def aopG (X : Cx) (ops : Array Oper) (o : Oper) (σ : AS) : Option AS := gOp (aop X) ops o σ
def aopQ (X : Cx) (ops : Array Oper) (o : Oper) (σ : AS) : Option AS := gOp (aopV X) ops o σ
section
variable {X : Cx} {σ σ' : AS} {o : Oper} {K : AS → Prop} {Q : Exit → AS → Prop}
theorem cmpI_bin {op : BinOp} {k : IntKind} {p q : Int} {b : Bool} (h : cmpI op p q = some b) : binI op k p q = some (.b b) := by
  cases op <;> simp_all [cmpI, binI]
theorem aopV_ok (h : aopV X o σ = some σ') (hK : K σ') : QOk X o σ K := by
  unfold aopV at h
  split at h
  · rename_i t hd
    split at h
    · rename_i x ho
      obtain ⟨rfl, ht⟩ := vput_spec h
      exact st_move ho hd rfl ht hK
    · rename_i x ho
      obtain ⟨rfl, ht⟩ := vput_spec h
      exact st_assign ho hd rfl ht hK
    · rename_i c x y ho
      split at h
      · rename_i q hc
        split at h
        · obtain ⟨rfl, ht⟩ := vput_spec h
          exact st_pick ho hd hc rfl ht hK
        · obtain ⟨rfl, ht⟩ := vput_spec h
          exact st_pick ho hd hc rfl ht hK
      · cases h
    · rename_i x i ho
      split at h
      · rename_i xs hx
        split at h
        · rename_i v hv
          obtain ⟨rfl, ht⟩ := vput_spec h
          exact st_extract ho hd hx hv ht hK
        · cases h
      · cases h
    · rename_i T x ho
      split at h
      · rename_i q hx
        obtain ⟨rfl, ht⟩ := vput_spec h
        exact st_not ho hd hx ht hK
      · cases h
    · rename_i x ho
      split at h
      · rename_i p i hx
        obtain ⟨rfl, ht⟩ := vput_spec h
        exact st_nilCheck ho hd hx ht hK
      · cases h
    · rename_i op T x y yt ho
      unfold binA at h
      split at h
      · rename_i k p hx
        split at h
        · rename_i k' q hy
          split at h
          · rename_i hkk _
            subst hkk
            split at h
            · rename_i b hb
              obtain ⟨rfl, ht⟩ := vput_spec h
              exact st_bin ho hd hx hy (cmpI_bin hb) ht hK
            · cases h
          · cases h
        · cases h
      · rename_i l hx
        split at h
        · rename_i r hy
          split at h
          · obtain ⟨rfl, ht⟩ := vput_spec h
            exact st_eqs ho hd hx hy ht hK
          · obtain ⟨rfl, ht⟩ := vput_spec h
            exact st_nes ho hd hx hy ht hK
          · cases h
        · cases h
      · rename_i p hx
        split at h
        · rename_i q hy
          cases hbt : boolT X T with
          | false => rw [hbt] at h; cases h
          | true =>
            rw [hbt] at h
            unfold boolT at hbt
            split at hbt
            · rename_i ti _
              have hde : ti.desc = .bool := by
                unfold isBoolD at hbt
                split at hbt
                · assumption
                · cases hbt
              simp only [cond_true] at h
              split at h
              · obtain ⟨rfl, ht⟩ := vput_spec h
                exact st_eqb (ti := ti) hde ho hd hx hy ht hK
              · obtain ⟨rfl, ht⟩ := vput_spec h
                exact st_neb (ti := ti) hde ho hd hx hy ht hK
              · cases h
            · cases hbt
        · cases h
      · cases h
    · rename_i T x ho
      split at h
      · rename_i ti _
        split at h
        · rename_i xs hx
          cases ha : isAggD ti.desc with
          | true =>
            rw [ha, cond_true, forceL_eq] at h
            cases hl : Nat.beq (xs.take ti.size).length ti.size with
            | false => rw [hl] at h; cases h
            | true =>
              rw [hl, cond_true] at h
              obtain ⟨rfl, ht⟩ := vput_spec h
              exact st_loadN (ti := ti) ho hd (by rw [hx]; rfl) hl ha ht hK
          | false =>
            rw [ha, cond_false] at h
            split at h
            · rename_i v hv
              obtain ⟨rfl, ht⟩ := vput_spec h
              exact st_load1 (ti := ti) ho hd (by rw [hx]; exact hv) ha ht hK
            · cases h
        · cases h
      · cases h
    · rename_i T x f ho
      split at h
      · rename_i ti _
        split at h
        · rename_i off ft hf
          split at h
          · rename_i tf _
            cases hz : Nat.beq tf.size 0 with
            | true => rw [hz] at h; cases h
            | false =>
              rw [hz, cond_false] at h
              split at h
              · rename_i p i hx
                obtain ⟨rfl, ht⟩ := vput_spec h
                exact st_field (ti := ti) (tf := tf) (v := .ptr p i) ho hd hf hz hx rfl ht hK
              · rename_i p i j hx
                obtain ⟨rfl, ht⟩ := vput_spec h
                exact st_field (ti := ti) (tf := tf) (v := .pr p i j) ho hd hf hz hx rfl ht hK
              · rename_i e i hx
                obtain ⟨rfl, ht⟩ := vput_spec h
                exact st_field (ti := ti) (tf := tf) (v := .pd e i) ho hd hf hz hx rfl ht hK
              · cases h
          · cases h
        · cases h
      · cases h
    · cases h
  · cases h
theorem aopM_ok (h : aopM X o σ = some σ') (hK : K σ') : OpOk X o σ K := by
  unfold aopM at h
  split at h
  · rename_i t hd
    split at h
    · rename_i T ho
      split at h
      · rename_i ti _
        rw [forceL_eq] at h
        unfold newO at h
        cases hb : Nat.blt t σ.nt with
        | false => rw [hb] at h; cases h
        | true =>
          rw [hb] at h
          cases hn : freeN X.fre t σ.ob with
          | false => rw [hn] at h; cases h
          | true =>
            rw [hn] at h
            simp only [cond_true, Option.some.injEq] at h
            subst h
            exact st_alloc (ti := ti) ho hd hn hb hK
      · cases h
    · rename_i T x ho
      split at h
      · rename_i cs hx
        unfold newO at h
        cases hb : Nat.blt t σ.nt with
        | false => rw [hb] at h; cases h
        | true =>
          rw [hb] at h
          cases hn : freeN X.fre t σ.ob with
          | false => rw [hn] at h; cases h
          | true =>
            rw [hn] at h
            simp only [cond_true, Option.some.injEq] at h
            subst h
            exact st_box ho hd hx hn hb hK
      · cases h
    · cases h
  · rename_i hd
    split at h
    · rename_i T x y ho
      split at h
      · rename_i ti _
        split at h
        · rename_i p off hx
          split at h
          · rename_i e cs hp
            split at h
            · rename_i xs hy
              cases hl : Nat.beq xs.length ti.size with
              | false => rw [hl] at h; cases h
              | true =>
                rw [hl, cond_true] at h
                cases hfit : Nat.ble (off + ti.size) cs.length with
                | false => rw [hfit] at h; cases h
                | true =>
                  rw [hfit, cond_true, forceL_eq] at h
                  simp only [Option.some.injEq] at h
                  subst h
                  exact st_store (ti := ti) ho hd hx hp hy hl hfit hK
            · cases h
          · cases h
        · cases h
      · cases h
    · cases h
theorem aop_ok (h : aop X o σ = some σ') (hK : K σ') : OpOk X o σ K := by
  unfold aop at h
  split at h
  · rename_i σ1 h1
    injection h with h
    subst h
    exact (aopV_ok h1 hK).ok
  · exact aopM_ok h hK
theorem aopG_ok {ops : Array Oper} {l : List Oper} (h : aopG X ops o σ = some σ') (hK : OpsOk X ops l Q σ') : OpsOk X ops (o :: l) Q σ := by
  unfold aopG gOp at h
  split at h
  · rename_i hg
    exact ops_cons hg (aop_ok h hK)
  · rename_i j w hg
    split at h
    · cases h
    · rename_i d hd
      split at h
      · rename_i q hv
        split at h
        · split at h
          · exact ops_yes hg hd hv (aop_ok h hK)
          · split at h
            · rename_i s hs
              obtain ⟨rfl, ht⟩ := vput_spec h
              exact ops_no hg hd hv rfl hs ht hK
            · cases h
        · split at h
          · exact ops_yes hg hd hv (aop_ok h hK)
          · split at h
            · rename_i s hs
              obtain ⟨rfl, ht⟩ := vput_spec h
              exact ops_no hg hd hv rfl hs ht hK
            · cases h
      · rename_i hv
        split at h
        · rename_i s hs
          obtain ⟨rfl, ht⟩ := vput_spec h
          exact ops_no2 hg hd hv hs ht hK
        · cases h
      · cases h
theorem aopQ_ok {ops : Array Oper} {N : AS → Prop} {l : List Oper} (h : aopQ X ops o σ = some σ') (hK : QsOk X ops l N σ') : QsOk X ops (o :: l) N σ := by
  unfold aopQ gOp at h
  split at h
  · rename_i hg
    exact qs_cons hg (aopV_ok h hK)
  · rename_i j w hg
    split at h
    · cases h
    · rename_i d hd
      split at h
      · rename_i q hv
        split at h
        · split at h
          · exact qs_yes hg hd hv (aopV_ok h hK)
          · split at h
            · rename_i s hs
              obtain ⟨rfl, ht⟩ := vput_spec h
              exact qs_no hg hd hv rfl hs ht hK
            · cases h
        · split at h
          · exact qs_yes hg hd hv (aopV_ok h hK)
          · split at h
            · rename_i s hs
              obtain ⟨rfl, ht⟩ := vput_spec h
              exact qs_no hg hd hv rfl hs ht hK
            · cases h
      · rename_i hv
        split at h
        · rename_i s hs
          obtain ⟨rfl, ht⟩ := vput_spec h
          exact qs_no2 hg hd hv hs ht hK
        · cases h
      · cases h
end
/-- A goal that the walk leaves to its prover. -/
structure Stop (p : Prop) : Prop where
  go : p
theorem awp_ret' {X : Cx} {Q : Exit → AS → Prop} {σ : AS} (h : Stop (Q .ret σ)) : AWp X .ret Q σ := awp_ret h.go
theorem retS {X : Cx} {fn : Func} {rs : List AV} {rob : List (Nat × AO)} {σ : AS} (h : Stop (retQ X fn rs rob .ret σ)) : retQ X fn rs rob .ret σ := h.go
theorem nb_t {b : Bool} (h : (!b) = true) : b = false := by simpa using h
theorem nb_f {b : Bool} (h : (!b) = false) : b = true := by simpa using h
theorem bne_t {α : Type} [BEq α] [LawfulBEq α] {x y : α} (h : (x != y) = true) : x ≠ y := by simpa using h
theorem bne_f {α : Type} [BEq α] [LawfulBEq α] {x y : α} (h : (x != y) = false) : x = y := by simpa using h
/-! Equalities between what a state holds and what is asked: a leaf is left to the prover. -/
theorem eq_b {x : AV} {p q : Bool} (h : x = .d (.b p)) (h2 : Stop (p = q)) : x = .d (.b q) := h2.go ▸ h
theorem eq_n {x : AV} {k : IntKind} {p q : Int} (h : x = .d (.n k p)) (h2 : Stop (p = q)) : x = .d (.n k q) := h2.go ▸ h
theorem eq_s {x : AV} {p q : List UInt8} (h : x = .d (.s p)) (h2 : Stop (p = q)) : x = .d (.s q) := h2.go ▸ h
theorem eq_sl {x : AV} {p q : List (List D)} (h : x = .d (.sl p)) (h2 : Stop (p = q)) : x = .d (.sl q) := h2.go ▸ h
theorem eq_agg {x : AV} {p q : List AV} (h : x = .agg p) (h2 : p = q) : x = .agg q := h2 ▸ h
theorem eq_cons {l : List AV} {x y : AV} {p q : List AV} (h : l = x :: p) (h1 : x = y) (h2 : p = q) : l = y :: q := h1 ▸ h2 ▸ h
theorem eq_row {x : Option AO} {e : TypeId} {p q : List (List D)} {d : Bool} (h : x = some (.row e p d)) (h2 : Stop (p = q)) : x = some (.row e q d) := h2.go ▸ h
theorem eq_boxo {x : Option AO} {e : TypeId} {p q : List AV} (h : x = some (.box e p)) (h2 : p = q) : x = some (.box e q) := h2 ▸ h
end Go.Proofs.Ythmajaeekkbnnaa
