/-
  The walk over abstract states: numbers whose value does not matter (sums that may wrap, shifts, bits).
-/
import Derived.Test.YthmajaeekkbnnaaAbsY
namespace Go.Proofs.Ythmajaeekkbnnaa
open Go Go.RowKit
section
variable {X : Cx} {σ : AS} {o : Oper} {K : AS → Prop} {t : Nat} {p q : Int} {xt yt : TypeId} {x y : Operand}
theorem st_waddA (ho : o.op = .binOp .add xt x y yt) (hd : o.dst = some t) (hx : σ.ev x = .d (.n .i64 p)) (hy : σ.ev y = .d (.n .i64 q)) (ht : Nat.blt t σ.nt = true) (hK : ∀ r : Int, K (σ.put t (.d (.n .i64 r)))) : QOk X o σ K :=
  st_bin ho hd hx hy rfl ht (hK _)
theorem st_wmulA (ho : o.op = .binOp .mul xt x y yt) (hd : o.dst = some t) (hx : σ.ev x = .d (.n .i64 p)) (hy : σ.ev y = .d (.n .i64 q)) (ht : Nat.blt t σ.nt = true) (hK : ∀ r : Int, K (σ.put t (.d (.n .i64 r)))) : QOk X o σ K :=
  st_bin ho hd hx hy rfl ht (hK _)
/-- The sum of bits, the product and such, run. -/
theorem st_bits {op : BinOp} {k : IntKind} {r : Int} (hr : ∀ {P : Program} (w : World), (binOp op xt (.int .i64 p) (.int k q)).run P w = .ok (.int .i64 r) w) (hg : op ≠ .eql ∧ op ≠ .neq)
    (ho : o.op = .binOp op xt x y yt) (hd : o.dst = some t) (hx : σ.ev x = .d (.n .i64 p)) (hy : σ.ev y = .d (.n k q)) (ht : Nat.blt t σ.nt = true) (hK : K (σ.put t (.d (.n .i64 r)))) : QOk X o σ K :=
  op_val hd ht (fun a w en h => by
    obtain ⟨F, ⟨e1, _⟩, _⟩ := ev_of h hx
    obtain ⟨G, ⟨e2, _⟩, _⟩ := ev_of h hy
    refine ⟨.int .i64 r, fun w' _ => ?_, [], ⟨rfl, rfl⟩, by simp⟩
    have hq : (eqGuard op xt x y (.int .i64 p) (.int k q)).run X.P w' = .ok () w' := by cases op <;> rfl
    simp only [execOp, ho, e1, e2, Sem.run_bind, hq, hr w', Result.andThen]
    rfl) hK
theorem st_shr {k : IntKind} (ho : o.op = .binOp .shr xt x y yt) (hd : o.dst = some t) (hx : σ.ev x = .d (.n .i64 p)) (hy : σ.ev y = .d (.n k q)) (hb : 0 ≤ q) (ht : Nat.blt t σ.nt = true) (hK : ∀ r : Int, K (σ.put t (.d (.n .i64 r)))) : QOk X o σ K :=
  st_bits (r := p.fdiv (2 ^ min q.toNat 64)) (fun w => by
    simp [binOp, Op.shift, Int.not_lt.mpr hb, Sem.run_pure, IntKind.bits]) ⟨by decide, by decide⟩ ho hd hx hy ht (hK _)
theorem st_xor (ho : o.op = .binOp .xor xt x y yt) (hd : o.dst = some t) (hx : σ.ev x = .d (.n .i64 p)) (hy : σ.ev y = .d (.n .i64 q)) (ht : Nat.blt t σ.nt = true) (hK : ∀ r : Int, K (σ.put t (.d (.n .i64 r)))) : QOk X o σ K :=
  st_bits (r := IntKind.i64.wrap ((BitVec.ofInt IntKind.i64.bits p ^^^ BitVec.ofInt IntKind.i64.bits q).toNat)) (fun w => by
    simp [binOp, Op.intBits, Sem.run_pure]) ⟨by decide, by decide⟩ ho hd hx hy ht (hK _)
theorem wrap_and (p : Int) {n : Nat} (hn : n < 9223372036854775808) : 0 ≤ IntKind.i64.wrap ((BitVec.ofInt IntKind.i64.bits p &&& BitVec.ofInt IntKind.i64.bits (n : Int)).toNat) ∧ IntKind.i64.wrap ((BitVec.ofInt IntKind.i64.bits p &&& BitVec.ofInt IntKind.i64.bits (n : Int)).toNat) ≤ n := by
  have h1 : (BitVec.ofInt IntKind.i64.bits p &&& BitVec.ofInt IntKind.i64.bits (n : Int)).toNat ≤ n := by
    rw [BitVec.toNat_and]
    refine Nat.le_trans Nat.and_le_right ?_
    have : (BitVec.ofInt IntKind.i64.bits (n : Int)).toNat = n := by
      rw [BitVec.toNat_ofInt]
      show ((n : Int) % ((2 ^ 64 : Nat) : Int)).toNat = n
      omega
    omega
  rw [IntWalk.i64_in _ (by omega)]
  omega
theorem st_and {n : Nat} (ho : o.op = .binOp .and xt x y yt) (hd : o.dst = some t) (hx : σ.ev x = .d (.n .i64 p)) (hy : σ.ev y = .d (.n .i64 q)) (hq : q = (n : Int)) (hn : n < 9223372036854775808) (ht : Nat.blt t σ.nt = true) (hK : ∀ r : Int, 0 ≤ r ∧ r ≤ n → K (σ.put t (.d (.n .i64 r)))) : QOk X o σ K := by
  subst hq
  exact st_bits (r := IntKind.i64.wrap ((BitVec.ofInt IntKind.i64.bits p &&& BitVec.ofInt IntKind.i64.bits (n : Int)).toNat)) (fun w => by
    simp [binOp, Op.intBits, Sem.run_pure]) ⟨by decide, by decide⟩ ho hd hx hy ht (hK _ (wrap_and p hn))
end
theorem ncast (n : Nat) : @NatCast.natCast Int instNatCastInt n = Int.ofNat n := rfl
/-- What is proved after the witnesses are found. -/
structure Later (p : Prop) : Prop where
  go : p
structure RetG {ι : Type} (X : Cx) (fn : Func) (ok : ι → Prop) (rs : ι → List AV) (obs' rob : ι → List (Nat × AO)) (σ : AS) (i : ι) (ρ : List Nat) (vs : List AV) : Prop where
  hv : Later (rs i = vs)
  h2 : resOk X σ fn.results.toList (renL2 ρ vs)
  h3 : robOk2 σ ρ 0 (rob i)
  h4 : obLe σ (obs' i)
  h0 : Later (ok i)
theorem retM_x {ι : Type} {X : Cx} {fn : Func} {ok : ι → Prop} {rs : ι → List AV} {obs' rob : ι → List (Nat × AO)} {σ : AS} (i : ι) (vs : List AV) (ρ : List Nat)
    (h1 : (nodupL ρ && naL2 ρ.length (rs i) && boxB (rob i) && (ρ.all fre0) && ((rob i).all fun y => fre0 y.1) && nodupN (obs' i) && ((obs' i).all fun y => !fre0 y.1)) = true) (h : RetG X fn ok rs obs' rob σ i ρ vs) : retM X fn ok rs obs' rob .ret σ :=
  retM_intro i ρ h.h0.go h1 (by rw [h.hv.go]; exact h.h2) h.h3 h.h4
theorem u8_in (x : UInt8) : -9223372036854775808 ≤ (x.toNat : Int) ∧ (x.toNat : Int) ≤ 9223372036854775807 := by
  have := x.toNat_lt
  omega
/-! ### A move in a region that draws its order: it reads no object -/
def mvOf (o : Oper) : Option Nat := match o.op with
  | .move (.tmp t) => some t
  | .assign (.tmp t) => some t
  | _ => none
theorem lo_move {X : Cx} {nt : Nat} {o : Oper} {t d : Nat} {v : AV} (hm : mvOf o = some t) (hd : o.dst = some d) (hdt : Nat.blt d nt = true) : LoOk X nt o ⟨[(t, v)], [], [], o.dst, v, [], []⟩ := by
  rintro s a w ⟨σ, hnt, hfs, hr⟩ hp next Q hn
  have hv : look σ.sl t = v := by
    have := (allP_iff.1 hp.rs) (t, v) List.mem_cons_self
    rw [← hfs] at this
    exact this
  have hK : QOk X o σ (fun σ' => σ' = σ.put d v) := by
    unfold mvOf at hm
    split at hm
    · rename_i u ho
      injection hm with hm
      subst hm
      exact st_move ho hd hv (by rw [hnt]; exact hdt) rfl
    · rename_i u ho
      injection hm with hm
      subst hm
      exact st_assign ho hd hv (by rw [hnt]; exact hdt) rfl
    · cases hm
  refine hK.ok a w hr next Q (fun σ' a' w' hk hr' => hn a' w' ⟨σ', ?_, ?_, hr'⟩)
  · rw [hk]; exact hnt
  · rw [hk, ← hfs]
    refine Fs.ext ?_ ?_
    · funext u
      simp only [AS.fs, AS.put, Lo.app, look_cons, hd, Option.some.injEq]
      split
      · rfl
      · exact (cut_nil _).symm
    · funext u
      simp only [AS.fs, AS.put, Lo.app, lookO]
      cases lookO σ.ob u with
      | none => rfl
      | some z => exact congrArg some (cutO_nil z).symm
section
variable {X : Cx} {nt : Nat} {N : AS → Prop}
theorem ch_move {o : Oper} {l : List Oper} {acc : List (Nat × List Nat × Lo)} {i t d : Nat} {σ : AS} {v : AV} (hn : σ.nt = nt) (hg : o.guard = none) (hm : mvOf o = some t) (hd : o.dst = some d) (hv : forceV (look σ.sl t) some = some v) (hdt : Nat.blt d σ.nt = true)
    {pr : List Nat} (hpr : forceNs (predsOf o acc) some = some pr) (hind : (acc.all fun y => (pr.any fun k => Nat.beq k y.1) || ind y.2.2 ⟨[(t, v)], [], [], o.dst, v, [], []⟩) = true) (haf : (o.after.toList.all fun e => !Region.binds .any e || Nat.blt e.on i) = true)
    {σ' : AS} (hnx : normK (nextA σ ⟨[(t, v)], [], [], o.dst, v, [], []⟩) = some σ') (hK : ChA X nt N l ((i, pr, ⟨[(t, v)], [], [], o.dst, v, [], []⟩) :: acc) (i + 1) σ') : ChA X nt N (o :: l) acc i σ := by
  rw [forceNs_eq] at hpr
  injection hpr with hpr
  subst hpr
  rw [forceV_eq] at hv
  injection hv with hv
  obtain ⟨x1, x2, _⟩ := normK_ok hnx
  refine ⟨⟨[(t, v)], [], [], o.dst, v, [], []⟩, σ', ⟨hg, lo_move hm hd (by rw [← hn]; exact hdt), ⟨⟨?_, trivial⟩, trivial, trivial⟩⟩, ⟨hind, haf⟩, ⟨x1.trans hn, x2.trans (nextA_fs _ _)⟩, hK⟩
  exact hv
end
end Go.Proofs.Ythmajaeekkbnnaa
