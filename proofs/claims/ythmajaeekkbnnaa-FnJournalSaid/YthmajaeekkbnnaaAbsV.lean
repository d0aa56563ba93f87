/-
  Regions that draw their order: the walk in the order of the text, each operation by itself.
-/
import Derived.Test.YthmajaeekkbnnaaAbsU
namespace Go.Proofs.Ythmajaeekkbnnaa
open Go Go.RowKit

theorem nlit (n : Nat) : (@OfNat.ofNat Int n instOfNat : Int) = ((@OfNat.ofNat Nat n (instOfNatNat n) : Nat) : Int) := rfl

/-! ### What an operation reads -/
def opndsOf : Op → List Operand
  | .move x | .assign x | .box _ x | .load _ x | .nilCheck x | .unOp _ _ x | .convert _ _ x | .fieldAddr _ x _ | .field _ x _ | .extract x _ => [x]
  | .pick c x y => [c, x, y]
  | .build _ ps | .buildSlice _ _ ps => ps.toList.map (·.2)
  | .store _ x y | .binOp _ _ x y _ | .makeSlice _ x y | .indexAddr _ x y | .index _ x y => [x, y]
  | .slice _ x l h _ => x :: (l.toList ++ h.toList)
  | .call c => c.args.toList
  | _ => []
def slotsOf : List Operand → List Nat
  | [] => []
  | .tmp t :: l => t :: slotsOf l
  | _ :: l => slotsOf l
def forceV {α : Type} (v : AV) (k : AV → Option α) : Option α :=
  match v with
  | .any => k .any
  | .d x => (match x with
    | .n a b => k (.d (.n a b))
    | .b a => k (.d (.b a))
    | .s a => k (.d (.s a))
    | .sl a => k (.d (.sl a)))
  | .nil => k .nil
  | .row o => k (.row o)
  | .ptr o i => k (.ptr o i)
  | .pr o i j => k (.pr o i j)
  | .pd e i => k (.pd e i)
  | .agg xs => forceL xs fun ys => k (.agg ys)
  | .tup xs => forceL xs fun ys => k (.tup ys)
theorem forceV_eq {α : Type} (v : AV) (k : AV → Option α) : forceV v k = k v := by
  cases v with
  | d x => cases x <;> rfl
  | agg xs => exact forceL_eq xs _
  | tup xs => exact forceL_eq xs _
  | _ => rfl
def forceA {α : Type} (v : AO) (k : AO → Option α) : Option α :=
  match v with
  | .row e es dp => (match dp with
    | true => k (.row e es true)
    | false => k (.row e es false))
  | .box e cs => forceL cs fun ds => k (.box e ds)
theorem forceA_eq {α : Type} (v : AO) (k : AO → Option α) : forceA v k = k v := by
  cases v with
  | row e es dp => cases dp <;> rfl
  | box e cs => exact forceL_eq cs _
def readS {α : Type} (σ : AS) : List Nat → List (Nat × AV) → (List (Nat × AV) → Option α) → Option α
  | [], acc, k => k acc
  | t :: l, acc, k => forceV (look σ.sl t) fun v => readS σ l ((t, v) :: acc) k
mutual
def namesV : AV → List Nat
  | .row o => [o]
  | .ptr o _ => [o]
  | .pr o _ _ => [o]
  | .agg xs => namesL xs
  | .tup xs => namesL xs
  | _ => []
def namesL : List AV → List Nat
  | [] => []
  | x :: xs => namesV x ++ namesL xs
end
def namesA : AO → List Nat
  | .box _ cs => namesL cs
  | _ => []
def readO {α : Type} (σ : AS) : Nat → List Nat → List (Nat × AO) → (List (Nat × AO) → Option α) → Option α
  | 0, _, acc, k => k acc
  | _, [], acc, k => k acc
  | f + 1, n :: l, acc, k => bif hasN n acc then readO σ f l acc k else (match lookO σ.ob n with
    | some ao => forceA ao fun a => readO σ f (namesA a ++ l) ((n, a) :: acc) k
    | none => readO σ f l acc k)
def namesS : List (Nat × AV) → List Nat
  | [] => []
  | (_, v) :: l => namesV v ++ namesS l
def smallOf (σ : AS) (o : Oper) : Option (List (Nat × AV) × List (Nat × AO)) :=
  readS σ (slotsOf (opndsOf o.op)) [] fun rs => readO σ 64 (namesS rs) [] fun ro => some (rs, ro)
theorem readS_ok {α : Type} {σ : AS} {k : List (Nat × AV) → Option α} {r : α} : ∀ {l : List Nat} {acc : List (Nat × AV)}, (∀ y ∈ acc, look σ.sl y.1 = y.2) → readS σ l acc k = some r → ∃ rs, (∀ y ∈ rs, look σ.sl y.1 = y.2) ∧ k rs = some r
  | [], acc, ha, h => ⟨acc, ha, h⟩
  | t :: l, acc, ha, h => by
    rw [readS, forceV_eq] at h
    exact readS_ok (fun y hy => by
      rcases List.mem_cons.1 hy with rfl | hy
      · rfl
      · exact ha y hy) h
theorem readO_ok {α : Type} {σ : AS} {k : List (Nat × AO) → Option α} {r : α} : ∀ {f : Nat} {l : List Nat} {acc : List (Nat × AO)}, (∀ y ∈ acc, lookO σ.ob y.1 = some y.2) → readO σ f l acc k = some r → ∃ ro, (∀ y ∈ ro, lookO σ.ob y.1 = some y.2) ∧ k ro = some r
  | 0, _, acc, ha, h => ⟨acc, ha, h⟩
  | f + 1, [], acc, ha, h => ⟨acc, ha, h⟩
  | f + 1, n :: l, acc, ha, h => by
    rw [readO] at h
    cases hn : hasN n acc with
    | true => rw [hn] at h; exact readO_ok ha h
    | false =>
      rw [hn, cond_false] at h
      split at h
      · rename_i ao hao
        rw [forceA_eq] at h
        exact readO_ok (fun y hy => by
          rcases List.mem_cons.1 hy with rfl | hy
          · exact hao
          · exact ha y hy) h
      · exact readO_ok ha h
theorem smallOf_ok {σ : AS} {o : Oper} {rs : List (Nat × AV)} {ro : List (Nat × AO)} (h : smallOf σ o = some (rs, ro)) : (∀ y ∈ rs, look σ.sl y.1 = y.2) ∧ ∀ y ∈ ro, lookO σ.ob y.1 = some y.2 := by
  unfold smallOf at h
  obtain ⟨rs', h1, h2⟩ := readS_ok (by simp) h
  obtain ⟨ro', h3, h4⟩ := readO_ok (by simp) h2
  injection h4 with h4
  injection h4 with e1 e2
  subst e1; subst e2
  exact ⟨h1, h3⟩
/-- The names that the operation changes; those whose values move. -/
def tgtOf (o : Oper) (rs : List (Nat × AV)) : Option (List Nat × List Nat) :=
  match o.op with
  | .store _ x _ => match x with
    | .tmp t => match look rs t with
      | .ptr p _ => some ([p], [])
      | .pr p _ _ => some ([p], [])
      | _ => none
    | _ => none
  | .call c => match c.callee with
    | .builtin b => match b with
      | .append => match c.args.toList with
        | .tmp t :: _ => match look rs t with
          | .row p => some ([p], [p])
          | _ => some ([], [])
        | _ => some ([], [])
      | _ => some ([], [])
    | _ => some ([], [])
  | _ => some ([], [])
def freS (kl : List Nat) (ro : List (Nat × AO)) (n : Nat) : Bool := kl.any (fun k => Nat.beq k n) || !hasN n ro
def dstV (o : Oper) (τ : AS) : AV := match o.dst with
  | some d => look τ.sl d
  | none => .nil
def obsK {α : Type} : List (Nat × AO) → (List (Nat × AO) → Option α) → Option α
  | [], k => k []
  | (n, ao) :: l, k => forceA ao fun a => obsK l fun l' => k ((n, a) :: l')
theorem obsK_eq {α : Type} : ∀ (l : List (Nat × AO)) (k : List (Nat × AO) → Option α), obsK l k = k l
  | [], k => rfl
  | (n, ao) :: l, k => by rw [obsK, forceA_eq, obsK_eq]
/-- Changed or made; made. -/
def wofr (ro : List (Nat × AO)) (ch : List Nat) : List (Nat × AO) → List (Nat × AO) → List Nat → Option (List (Nat × AO) × List Nat)
  | [], w, f => some (w, f)
  | (n, a) :: l, w, f => bif hasN n ro then (bif ch.any (fun k => Nat.beq k n) then wofr ro ch l ((n, a) :: w) f else wofr ro ch l w f) else wofr ro ch l ((n, a) :: w) (n :: f)
def sameKind : AO → AO → Bool
  | .row e _ _, .row e' _ _ => Nat.beq e e'
  | .box .., .box .. => true
  | _, _ => false
def chkK (ob' : List (Nat × AO)) : List (Nat × AO) → Bool
  | [] => true
  | (n, a) :: l => (match lookO ob' n with
    | some a' => sameKind a a'
    | none => false) && chkK ob' l
def chkW (ob' : List (Nat × AO)) : List (Nat × AO) → Bool
  | [] => true
  | (n, _) :: l => hasN n ob' && chkW ob' l
def chkM (ro : List (Nat × AO)) (fr : List Nat) : List (Nat × AO) → Bool
  | [] => true
  | (n, _) :: l => (hasN n ro || fr.any fun k => Nat.beq k n) && chkM ro fr l
def flatOk : AO → Prop
  | .row _ es true => flatE es = true
  | _ => True
theorem chkK_spec {ob' : List (Nat × AO)} : ∀ {l : List (Nat × AO)}, chkK ob' l = true → ∀ y ∈ l, ∃ a', lookO ob' y.1 = some a' ∧ sameKind y.2 a' = true
  | (n, a) :: l, h, y, hy => by
    simp only [chkK, Bool.and_eq_true] at h
    rcases List.mem_cons.1 hy with rfl | hy
    · have h1 := h.1
      split at h1
      · rename_i a' ha; exact ⟨a', ha, h1⟩
      · cases h1
    · exact chkK_spec h.2 y hy
theorem chkW_spec {ob' : List (Nat × AO)} : ∀ {l : List (Nat × AO)}, chkW ob' l = true → ∀ y ∈ l, hasN y.1 ob' = true
  | (n, a) :: l, h, y, hy => by
    simp only [chkW, Bool.and_eq_true] at h
    rcases List.mem_cons.1 hy with rfl | hy
    · exact h.1
    · exact chkW_spec h.2 y hy
theorem chkM_spec {ro : List (Nat × AO)} {fr : List Nat} : ∀ {l : List (Nat × AO)}, chkM ro fr l = true → ∀ y ∈ l, hasN y.1 ro = true ∨ y.1 ∈ fr
  | (n, a) :: l, h, y, hy => by
    simp only [chkM, Bool.and_eq_true, Bool.or_eq_true, List.any_eq_true] at h
    rcases List.mem_cons.1 hy with rfl | hy
    · rcases h.1 with h1 | ⟨k, hk, h1⟩
      · exact .inl h1
      · exact .inr ((beq_spec _ _).1 h1 ▸ hk)
    · exact chkM_spec h.2 y hy
theorem sameKind_spec {a a' : AO} (h : sameKind a a' = true) : (a.isRow = false ∧ a'.isRow = false) ∨ ∃ e es es' dp dp', a = .row e es dp ∧ a' = .row e es' dp' := by
  cases a with
  | row e es dp =>
    cases a' with
    | row e' es' dp' =>
      have := (beq_spec _ _).1 h
      subst this
      exact .inr ⟨e, es, es', dp, dp', rfl, rfl⟩
    | box => cases h
  | box e cs =>
    cases a' with
    | row => cases h
    | box => exact .inl ⟨rfl, rfl⟩
/-! ### The next state -/
def cutK (kl : List Nat) (sl : List (Nat × AV)) : List (Nat × AV) := match kl with
  | [] => sl
  | k :: l => cutS (keepN (k :: l)) sl
def restK (kl : List Nat) (wo : List (Nat × AO)) (ob : List (Nat × AO)) : List (Nat × AO) := match kl with
  | [] => ob.filter fun y => !hasN y.1 wo
  | k :: l => (ob.filter fun y => !hasN y.1 wo).map fun y => (y.1, y.2.cut (keepN (k :: l)))
def nextA (σ : AS) (lo : Lo) : AS := ⟨σ.nt, (match lo.d with
  | some d => (d, lo.v) :: cutK lo.kl σ.sl
  | none => cutK lo.kl σ.sl), lo.wo ++ restK lo.kl lo.wo σ.ob⟩
theorem cut_nil (x : AV) : x.cut (keepN []) = x := AV.cut_true x
theorem cutO_nil (x : AO) : x.cut (keepN []) = x := AO.cut_true x
theorem look_cutK (kl : List Nat) (sl : List (Nat × AV)) (t : Nat) : look (cutK kl sl) t = (look sl t).cut (keepN kl) := by
  cases kl with
  | nil => exact (cut_nil _).symm
  | cons k l => exact look_cut _ _ _
theorem lookO_restK (kl : List Nat) (wo ob : List (Nat × AO)) (p : Nat) (h : lookO wo p = none) : lookO (restK kl wo ob) p = (lookO ob p).map (AO.cut (keepN kl)) := by
  have hn : ¬ hasN p wo = true := fun e => by rw [← lookO_hasN, h] at e; cases e
  cases kl with
  | nil =>
    have := lookO_rest (fun n => hasN n wo) (fun _ => true) ob p
    rw [if_neg hn] at this
    have e : ((ob.filter fun y => !hasN y.1 wo).map fun y => (y.1, y.2.cut fun _ => true)) = ob.filter fun y => !hasN y.1 wo := by
      have : (fun (y : Nat × AO) => (y.1, y.2.cut fun _ => true)) = id := by funext y; simp [AO.cut_true]
      rw [this, List.map_id]
    rw [e] at this
    exact this
  | cons k l =>
    have := lookO_rest (fun n => hasN n wo) (keepN (k :: l)) ob p
    rw [if_neg hn] at this
    exact this
theorem nextA_fs (σ : AS) (lo : Lo) : (nextA σ lo).fs = lo.app σ.fs := by
  refine Fs.ext ?_ ?_
  · funext t
    simp only [AS.fs, nextA, Lo.app]
    cases hd : lo.d with
    | none => simp only [reduceCtorEq, if_false]; exact look_cutK _ _ _
    | some d =>
      simp only [look_cons, Option.some.injEq]
      rw [look_cutK]
  · funext p
    simp only [AS.fs, nextA, Lo.app]
    rw [lookO_append]
    cases hq : lookO lo.wo p with
    | some a => rfl
    | none => exact lookO_restK _ _ _ _ hq

/-! ### A state, looked at whole -/
def forceN {α : Type} (n : Nat) (k : Nat → Option α) : Option α := match n with
  | 0 => k 0
  | m + 1 => k (m + 1)
theorem forceN_eq {α : Type} (n : Nat) (k : Nat → Option α) : forceN n k = k n := by cases n <;> rfl
def forceNs {α : Type} : List Nat → (List Nat → Option α) → Option α
  | [], k => k []
  | n :: l, k => forceNs l fun l' => k (n :: l')
theorem forceNs_eq {α : Type} : ∀ (l : List Nat) (k : List Nat → Option α), forceNs l k = k l
  | [], k => rfl
  | n :: l, k => by rw [forceNs, forceNs_eq]
def normSl {α : Type} : List (Nat × AV) → List Nat → (List (Nat × AV) → Option α) → Option α
  | [], _, k => k []
  | (t, v) :: l, seen, k => bif seen.any (fun x => Nat.beq x t) then normSl l seen k else forceV v fun v' => normSl l (t :: seen) fun l' => k ((t, v') :: l')
theorem normSl_ok {α : Type} {k : List (Nat × AV) → Option α} {r : α} : ∀ {l : List (Nat × AV)} {seen : List Nat}, normSl l seen k = some r → ∃ l', k l' = some r ∧ ∀ t, t ∉ seen → look l' t = look l t
  | [], seen, h => ⟨[], h, fun _ _ => rfl⟩
  | (t, v) :: l, seen, h => by
    rw [normSl] at h
    cases hb : seen.any (fun x => Nat.beq x t) with
    | true =>
      rw [hb, cond_true] at h
      obtain ⟨l', h1, h2⟩ := normSl_ok h
      refine ⟨l', h1, fun t' ht' => ?_⟩
      rw [h2 t' ht', look_cons, if_neg]
      intro e
      subst e
      rw [List.any_eq_true] at hb
      obtain ⟨x, hx, e⟩ := hb
      exact ht' ((beq_spec _ _).1 e ▸ hx)
    | false =>
      rw [hb, cond_false, forceV_eq] at h
      obtain ⟨l', h1, h2⟩ := normSl_ok (k := fun l' => k ((t, v) :: l')) h
      refine ⟨(t, v) :: l', h1, fun t' ht' => ?_⟩
      rw [look_cons, look_cons]
      by_cases e : t = t'
      · rw [if_pos e, if_pos e]
      · rw [if_neg e, if_neg e]
        refine h2 t' (fun hm => ?_)
        rcases List.mem_cons.1 hm with e' | hm
        · exact e e'.symm
        · exact ht' hm
def normK (σ : AS) : Option AS := forceN σ.nt fun n => normSl σ.sl [] fun sl => obsK σ.ob fun ob => some ⟨n, sl, ob⟩
theorem normK_ok {σ σ' : AS} (h : normK σ = some σ') : σ'.nt = σ.nt ∧ σ'.fs = σ.fs ∧ σ'.ob = σ.ob := by
  unfold normK at h
  rw [forceN_eq] at h
  obtain ⟨l', h1, h2⟩ := normSl_ok h
  rw [obsK_eq] at h1
  injection h1 with h1
  subst h1
  exact ⟨rfl, Fs.ext (funext fun t => h2 t (by simp)) rfl, rfl⟩
theorem Rel.norm {X : Cx} {σ σ' : AS} {a : Act} {w : World} (h : normK σ = some σ') (hr : Rel X σ a w) : Rel X σ' a w := by
  obtain ⟨h1, h2, h3⟩ := normK_ok h
  obtain ⟨en, k⟩ := hr
  refine ⟨en, k.mem, by rw [h3]; exact k.ob, k.defers, by rw [k.size, h1], fun t => ?_⟩
  have : look σ'.sl t = look σ.sl t := congrFun (congrArg Fs.f h2) t
  rw [this]
  exact k.slots t
theorem awp_norm {X : Cx} {c : Code} {Q : Exit → AS → Prop} {σ σ' : AS} (h : normK σ = some σ') (hc : AWp X c Q σ') : AWp X c Q σ := fun a w hr => hc a w (hr.norm h)
theorem awp_regionN {X : Cx} {id : Nat} {l : List Oper} {Q : Exit → AS → Prop} {σ σ' : AS} (hn : normK σ = some σ') (h : OpsOk X l.toArray l Q σ') : AWp X (.region id l.toArray false) Q σ := awp_norm hn (awp_region h)

/-! ### The walk -/
/-- What an operation waits for. -/
def predsOf (o : Oper) : List (Nat × List Nat × Lo) → List Nat
  | [] => []
  | (i, p, _) :: l => bif dep o i then i :: (p ++ predsOf o l) else predsOf o l
theorem predsOf_spec {o : Oper} : ∀ {l : List (Nat × List Nat × Lo)} {j : Nat}, j ∈ predsOf o l → dep o j = true ∨ ∃ y ∈ l, dep o y.1 = true ∧ j ∈ y.2.1
  | (i, p, lo) :: l, j, h => by
    rw [predsOf] at h
    cases hd : dep o i with
    | false =>
      rw [hd, cond_false] at h
      exact (predsOf_spec h).imp id fun ⟨y, hy, h1⟩ => ⟨y, List.mem_cons_of_mem _ hy, h1⟩
    | true =>
      rw [hd, cond_true] at h
      rcases List.mem_cons.1 h with rfl | h
      · exact .inl hd
      · rcases List.mem_append.1 h with h | h
        · exact .inr ⟨_, List.mem_cons_self, hd, h⟩
        · exact (predsOf_spec h).imp id fun ⟨y, hy, h1⟩ => ⟨y, List.mem_cons_of_mem _ hy, h1⟩
def ChA (X : Cx) (nt : Nat) (N : AS → Prop) : List Oper → List (Nat × List Nat × Lo) → Nat → AS → Prop
  | [], _, _, σ => nodupN σ.ob = true ∧ N σ
  | o :: l, acc, i, σ => ∃ lo σ', (o.guard = none ∧ LoOk X nt o lo ∧ lo.Pre σ.fs) ∧ ((acc.all fun y => ((predsOf o acc).any fun k => Nat.beq k y.1) || ind y.2.2 lo) = true ∧ (o.after.toList.all fun e => !Region.binds .any e || Nat.blt e.on i) = true) ∧ (σ'.nt = nt ∧ σ'.fs = lo.app σ.fs) ∧ ChA X nt N l ((i, predsOf o acc, lo) :: acc) (i + 1) σ'
section
variable {X : Cx} {nt : Nat} {N : AS → Prop}
theorem ChA.build : ∀ {l : List Oper} {acc : List (Nat × List Nat × Lo)} {i : Nat} {σ : AS}, σ.nt = nt → ChA X nt N l acc i σ → ∃ L : List St, Chain X nt (fun s => ∃ σ, (nodupN σ.ob = true ∧ N σ) ∧ σ.nt = nt ∧ σ.fs = s) L σ.fs ∧ L.map St.o = l ∧ (∀ (k : Nat) (e : St), L[k]? = some e → e.i = i + k) ∧
      (∀ e ∈ L, e.o.guard = none ∧ ∀ d ∈ e.o.after, Region.binds .any d = true → d.on < e.i) ∧ (L.Pairwise fun x y => x.i < y.i ∧ (x.i ∈ y.pr ∨ Ind x.lo y.lo)) ∧ (∀ y ∈ acc, ∀ e ∈ L, y.1 ∈ e.pr ∨ Ind y.2.2 e.lo) ∧ (∀ e ∈ L, ∀ j ∈ e.pr, dep e.o j = true ∨ (∃ f ∈ L, dep e.o f.i = true ∧ j ∈ f.pr) ∨ ∃ y ∈ acc, dep e.o y.1 = true ∧ j ∈ y.2.1)
  | [], acc, i, σ, hn, h => ⟨[], ⟨σ, h, hn, rfl⟩, rfl, by simp, by simp, by simp, by simp, by simp⟩
  | o :: l, acc, i, σ, hn, h => by
    obtain ⟨lo, σ', ⟨h1, h2, h3⟩, ⟨h4, h5⟩, ⟨h7, h8⟩, h6⟩ := h
    obtain ⟨L, g1, g2, g3, g4, g5, g6, g7⟩ := ChA.build (σ := σ') h7 h6
    rw [h8] at g1
    have hlt : ∀ e ∈ L, i < e.i := fun e he => by
      obtain ⟨k, hk⟩ := List.getElem?_of_mem he
      rw [g3 k e hk]; omega
    refine ⟨⟨i, predsOf o acc, o, lo⟩ :: L, ⟨h2, h3, g1⟩, by rw [List.map_cons, g2], fun k e he => ?_, fun e he => ?_, ?_, fun y hy e he => ?_, fun e he j hj => ?_⟩
    · cases k with
      | zero => simp only [List.getElem?_cons_zero, Option.some.injEq] at he; subst he; rfl
      | succ k => rw [g3 k e (by simpa using he)]; omega
    · rcases List.mem_cons.1 he with rfl | he
      · refine ⟨h1, fun d hd hb => ?_⟩
        rw [List.all_eq_true] at h5
        have := h5 d (Array.mem_toList_iff.2 hd)
        rw [hb] at this
        exact blt_spec this
      · exact g4 e he
    · rw [List.pairwise_cons]
      exact ⟨fun e he => ⟨hlt e he, g6 (i, predsOf o acc, lo) List.mem_cons_self e he⟩, g5⟩
    · rcases List.mem_cons.1 he with rfl | he
      · rw [List.all_eq_true] at h4
        have := h4 y hy
        rw [Bool.or_eq_true, List.any_eq_true] at this
        refine this.imp (fun ⟨k, hk, e⟩ => ?_) ind_spec
        exact (beq_spec _ _).1 e ▸ hk
      · exact g6 y (List.mem_cons_of_mem _ hy) e he
    · rcases List.mem_cons.1 he with rfl | he
      · exact (predsOf_spec hj).imp id fun h => .inr h
      · rcases g7 e he j hj with h | ⟨f, hf, h⟩ | ⟨y, hy, h⟩
        · exact .inl h
        · exact .inr (.inl ⟨f, List.mem_cons_of_mem _ hf, h⟩)
        · rcases List.mem_cons.1 hy with rfl | hy
          · exact .inr (.inl ⟨_, List.mem_cons_self, h⟩)
          · exact .inr (.inr ⟨y, hy, h⟩)
theorem awp_drawm {id : Nat} {l : List Oper} {Q : Exit → AS → Prop} {σ : AS} (hm : X.P.follows .mixedOrders = true) (h : ChA X σ.nt (Q .normal) l [] 0 σ) : AWp X (.region id l.toArray true) Q σ := fun a w hr => by
  obtain ⟨L, g1, g2, g3, g4, g5, _, g7⟩ := ChA.build (nt := σ.nt) rfl h
  have hlen : L.length = l.length := by rw [← g2, List.length_map]
  have hat : ∀ e ∈ L, l[e.i]? = some e.o ∧ e.i < l.length := fun e he => by
    obtain ⟨k, hk⟩ := List.getElem?_of_mem he
    have h1 := g3 k e hk
    rw [Nat.zero_add] at h1
    have h2 : (L.map St.o)[k]? = some e.o := by rw [List.getElem?_map, hk]; rfl
    rw [g2] at h2
    rw [h1]
    exact ⟨h2, (List.getElem?_eq_some_iff.1 h2).1⟩
  have hQ : ∀ s a' w', (∃ σ', (nodupN σ'.ob = true ∧ Q .normal σ') ∧ σ'.nt = σ.nt ∧ σ'.fs = s) → RelF X σ.nt s a' w' → lift X Q .normal a' w' := by
    intro s a' w' ⟨σ', ⟨hnd, hq⟩, hn, hf⟩ ⟨σ2, hn2, hf2, en, k1⟩
    refine ⟨σ', hq, ?_⟩
    have e : σ2.fs = σ'.fs := hf2.trans hf.symm
    have e2 : ∀ p, lookO σ2.ob p = lookO σ'.ob p := fun p => congrFun (congrArg Fs.g e) p
    refine ⟨en, k1.mem, ?_, k1.defers, by rw [k1.size, hn2, hn], fun t => ?_⟩
    · refine k1.ob.trans ?_
      have n1 : (σ2.ob.map Prod.fst).Nodup := by
        have := k1.mem.names
        have e : en.map Ent.nm = (en.map Ent.key).map Prod.fst := by simp only [List.map_map]; rfl
        rw [e] at this
        exact (k1.ob.map _).nodup_iff.1 this
      have n2 := nodupN_spec hnd
      have key : ∀ {l : List (Nat × AO)}, (l.map Prod.fst).Nodup → ∀ y, y ∈ l ↔ lookO l y.1 = some y.2 := fun {l} hl y => by
        refine ⟨fun hy => ?_, fun hy => lookO_mem hy⟩
        have h1 : (lookO l y.1).isSome = true := by rw [lookO_hasN]; exact hasN_iff.2 ⟨y, hy, rfl⟩
        obtain ⟨x, hx⟩ := Option.isSome_iff_exists.1 h1
        have := fst_unique hl (lookO_mem hx) hy rfl
        rw [hx, ← this]
      refine (List.perm_ext_iff_of_nodup (nodup_of_fst n1) (nodup_of_fst n2)).2 (fun y => ?_)
      rw [key n1, key n2, e2]
    · have e1 : look σ2.sl t = look σ'.sl t := congrFun (congrArg Fs.f e) t
      rw [← e1]
      exact k1.slots t
  have hops : ChL l.toArray L := ⟨fun e he => ⟨by simpa using (hat e he).1, g4 e he⟩, g5⟩
  have hl : ∀ i, i < l.toArray.size → ((Array.replicate l.toArray.size false).getD i true = false ↔ ∃ e ∈ L, e.i = i) := fun i hi => by
    have hi' : i < l.length := by simpa using hi
    have h1 : (Array.replicate l.toArray.size false).getD i true = false := by
      simp [Array.getD_eq_getD_getElem?, hi']
    rw [h1]
    refine ⟨fun _ => ?_, fun _ => rfl⟩
    have hiL : i < L.length := by omega
    refine ⟨L[i], List.getElem_mem hiL, ?_⟩
    have := g3 i L[i] (List.getElem?_eq_getElem hiL)
    omega
  have hfar : Far L := fun e he j hj => (g7 e he j hj).imp (fun h => h) fun h => h.elim (fun h => h) fun ⟨y, hy, _⟩ => by cases hy
  have hone : ∀ f ∈ L, ∀ e ∈ L, f.i = e.i → f.pr = e.pr := fun f hf e he hi => by
    obtain ⟨k, hk⟩ := List.getElem?_of_mem hf
    obtain ⟨k', hk'⟩ := List.getElem?_of_mem he
    have h1 := g3 k f hk
    have h2 := g3 k' e hk'
    have : k = k' := by omega
    subst this
    rw [hk] at hk'
    injection hk' with hk'
    rw [hk']
  have hd0 : ∀ e ∈ L, (Array.replicate l.toArray.size false).getD e.i false = true → ∀ j ∈ e.pr, (Array.replicate l.toArray.size false).getD j false = true := fun e _ h => by
    exfalso
    have : ∀ n i, (Array.replicate n false).getD i false = false := fun n i => by
      rw [Array.getD_eq_getD_getElem?, Array.getElem?_replicate]
      split <;> rfl
    rw [this] at h
    cases h
  exact wp_region_any hm (wpAny_chain (X := X) (nt := σ.nt) hfar hone hQ _ _ L σ.fs a _ ⟨σ, rfl, rfl, hr.ext (Ext.drew w)⟩ g1 hops (fun e he => he) hd0 hl (by simp) (by simp [hlen]))
/-- One more operation. -/
theorem ch_cons {o : Oper} {l : List Oper} {acc : List (Nat × List Nat × Lo)} {i : Nat} {σ : AS} {rs : List (Nat × AV)} {ro ob' wo : List (Nat × AO)} {ch kl fr : List Nat} {v : AV} (hn : σ.nt = nt) (hg : o.guard = none) (hsm : smallOf σ o = some (rs, ro)) (_htg : tgtOf o rs = some (ch, kl))
    (hop : ∀ (w0 : World) (Z : ZV (freS kl ro)) (O : Nat → Prop), OpOk ⟨X.P, w0, freS kl ro, Z, O, X.tt⟩ o ⟨σ.nt, rs, ro⟩ (fun σ' => σ'.nt = σ.nt ∧ forceV (dstV o σ') some = some v ∧ obsK σ'.ob some = some ob'))
    (_hwf : wofr ro ch ob' [] [] = some (wo, fr))
    (hchk : (AS.closed ⟨σ.nt, rs, ro⟩ && chkK ob' (ro.filter fun y => keepN kl y.1) && chkW ob' ro && chkW ob' wo && chkM ro fr ob' && (fr.all X.fre && kl.all X.fre) && fr.all fun p => !hasN p σ.ob) = true)
    (hspl : allP (fun y => lookO wo y.1 = some y.2 ∨ (lookO wo y.1 = none ∧ (lookO ro y.1).map (AO.cut (keepN kl)) = some y.2)) ob') (hflat : allP (fun y => flatOk y.2) ro)
    {pr : List Nat} (hpr : forceNs (predsOf o acc) some = some pr) (hind : (acc.all fun y => (pr.any fun k => Nat.beq k y.1) || ind y.2.2 ⟨rs, ro, fr, o.dst, v, wo, kl⟩) = true) (haf : (o.after.toList.all fun e => !Region.binds .any e || Nat.blt e.on i) = true)
    {σ' : AS} (hnx : normK (nextA σ ⟨rs, ro, fr, o.dst, v, wo, kl⟩) = some σ') (hK : ChA X nt N l ((i, pr, ⟨rs, ro, fr, o.dst, v, wo, kl⟩) :: acc) (i + 1) σ') : ChA X nt N (o :: l) acc i σ := by
  rw [forceNs_eq] at hpr
  injection hpr with hpr
  subst hpr
  obtain ⟨x1, x2, _⟩ := normK_ok hnx
  obtain ⟨s1, s2⟩ := smallOf_ok hsm
  simp only [Bool.and_eq_true] at hchk
  obtain ⟨⟨⟨⟨⟨⟨c1, c2⟩, c3⟩, c4⟩, c5⟩, c6, c7⟩, c8⟩ := hchk
  refine ⟨⟨rs, ro, fr, o.dst, v, wo, kl⟩, σ', ⟨hg, LoS.ok (fre := freS kl ro) (ob' := ob') ⟨?_, rfl, by rw [← hn]; exact c1, hspl, fun n h1 h2 => ?_, fun n ao h1 h2 => ?_, fun n h1 => ?_, fun n ao h1 => chkM_spec c5 (n, ao) h1, fun n e es h1 => ?_⟩ (fun n h1 => ?_), ⟨allP_iff.2 s1, allP_iff.2 s2, allP_iff.2 fun p hp => ?_⟩⟩, ⟨hind, haf⟩, ⟨x1.trans hn, x2.trans (nextA_fs σ _)⟩, hK⟩
  · intro w0 Z O
    have h1 := hop w0 Z O
    rw [hn] at h1
    intro a w hr next Q hnx
    refine h1 a w hr next Q (fun σ' a' w' ⟨e1, e2, e3⟩ hr' => hnx σ' a' w' ⟨e1, fun d hd => ?_, ?_⟩ hr')
    · rw [forceV_eq] at e2
      injection e2 with e2
      rw [← e2]
      unfold dstV
      rw [show o.dst = some d from hd]
    · rw [obsK_eq] at e3
      injection e3 with e3
  · unfold freS at h2
    rw [h1, Bool.not_true, Bool.or_false, List.any_eq_true] at h2
    obtain ⟨k, hk, e⟩ := h2
    exact (beq_spec _ _).1 e ▸ hk
  · obtain ⟨a', k1, k2⟩ := chkK_spec c2 (n, ao) (List.mem_filter.2 ⟨h1, keepN_iff.2 h2⟩)
    exact ⟨a', lookO_mem k1, sameKind_spec k2⟩
  · rcases h1 with h1 | h1
    · obtain ⟨y, hy, rfl⟩ := hasN_iff.1 h1
      exact chkW_spec c3 y hy
    · obtain ⟨y, hy, rfl⟩ := hasN_iff.1 h1
      exact chkW_spec c4 y hy
  · exact allP_iff.1 hflat _ h1
  · rcases h1 with h1 | h1
    · exact List.all_eq_true.1 c7 n h1
    · exact List.all_eq_true.1 c6 n h1
  · have := List.all_eq_true.1 c8 p hp
    rw [Bool.not_eq_true'] at this
    show lookO σ.ob p = none
    cases h3 : lookO σ.ob p with
    | none => rfl
    | some a =>
      have h4 : hasN p σ.ob = true := by rw [← lookO_hasN, h3]; rfl
      rw [this] at h4; cases h4
theorem ch_nil {acc : List (Nat × List Nat × Lo)} {i : Nat} {σ : AS} (h1 : nodupN σ.ob = true) (h2 : N σ) : ChA X nt N [] acc i σ := ⟨h1, h2⟩
def memO (o : Oper) : Bool := match o.op with
  | .alloc _ | .box _ _ | .store _ _ _ | .buildSlice _ _ _ | .makeSlice _ _ _ => true
  | .call c => (match c.callee with
    | .builtin .append => true
    | _ => false)
  | _ => false
theorem awp_drawq {id : Nat} {l : List Oper} {Q : Exit → AS → Prop} {σ σ' : AS} (_ : l.any memO = false) (hm : X.P.follows .mixedOrders = true) (hB : Region.lexB .any l.toArray = true) (hn : normK σ = some σ') (h : QsOk X l.toArray l (Q .normal) σ') : AWp X (.region id l.toArray true) Q σ := awp_norm hn (awp_draw hm hB h)
theorem awp_drawm2 (id : Nat) {l : List Oper} {Q : Exit → AS → Prop} {σ σ' : AS} (hm : X.P.follows .mixedOrders = true) (hn : normK σ = some σ') (h : ChA X σ'.nt (Q .normal) l [] 0 σ') : AWp X (.region id l.toArray true) Q σ := awp_norm hn (awp_drawm hm h)
theorem awp_drawx {id : Nat} {l : List Oper} {Q : Exit → AS → Prop} {σ σ' : AS} (_ : l.any memO = true) (hm : X.P.follows .mixedOrders = true) (hn : normK σ = some σ') (h : ChA X σ'.nt (Q .normal) l [] 0 σ') : AWp X (.region id l.toArray true) Q σ := awp_norm hn (awp_drawm hm h)
end
end Go.Proofs.Ythmajaeekkbnnaa
