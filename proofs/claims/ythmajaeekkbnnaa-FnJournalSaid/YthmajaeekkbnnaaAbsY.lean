/-
  The walk over abstract states: marks and copies in rows.
-/
import Derived.Test.YthmajaeekkbnnaaAbsX
import Derived.Lib.AppendStr
namespace Go.Proofs.Ythmajaeekkbnnaa
open Go Go.RowKit
section
variable {X : Cx} {σ : AS} {o : Oper} {K : AS → Prop} {t : Nat}
theorem st_conv8n {src dst : TypeId} {k : IntKind} {x : Operand} {p : Int} {n : Nat} (ho : o.op = .convert src dst x) (hd : o.dst = some t) (hs : hasT X src = true) (hT : intT X dst = some .u8) (hx : σ.ev x = .d (.n k p)) (hp : p = (n : Int)) (ht : Nat.blt t σ.nt = true)
    (hK : K (σ.put t (.d (.n .u8 ((UInt8.ofNat n).toNat : Int))))) : QOk X o σ K :=
  st_convw ho hd hs hT hx ht (by
    have : IntKind.u8.wrap p = ((UInt8.ofNat n).toNat : Int) := by
      subst hp
      simp [IntKind.wrap, IntKind.bits, IntKind.signed]
    rw [this]; exact hK)
end
theorem run_append_strblk {P : Program} {w : World} (t u ty e : TypeId) (i : TypeInfo) (ht : P.underlying t = some (.slice e)) (hu : P.underlying u = some .string) (hi : P.info? e = some i) (hz : i.zero = some (.int .u8 0)) (hsize : i.size = 1) (hby : i.bytes = 1)
    (v : Value) (n : Nat) (xs : List Value) (hown : w.ownsRow 0 e 1 v n xs) (s : ByteArray) (h63 : n + s.size ≤ 1099511627776) :
    ∃ v' w', (Builtin.append_ #[t, u] ty #[v, .string s]).run P w = .ok v' w' ∧ w'.ownsRow 0 e 1 v' (n + s.size) (xs ++ Lib.strCells s) ∧ w.grownBy w' v.ownBlock ∧ ∀ b, blk v' = some b → w.heap.size ≤ b ∨ blk v = some b := by
  have hmx : n + s.size ≤ maxLen := by unfold maxLen; omega
  rcases hown.2 with ⟨hv, hn⟩ | ⟨g, cap, cur, hv, hbg, hg, hnc, hcm, hcs, htake⟩
  · subst hv; subst hn
    have hxs : xs = [] := List.eq_nil_of_length_eq_zero (by rw [hown.1, Nat.zero_mul])
    subst hxs
    obtain ⟨v', w', r1, r2, r3, r4⟩ := Lib.run_append_own_string (P := P) w w.heap.size t u ty e i ht hu hi hz hsize hby (.slice none 0 0) 0 [] (World.ownsRow_nil w w.heap.size e 1) s hmx (by omega) (Nat.le_refl _)
    refine ⟨v', w', r1, ⟨r2.1, ?_⟩, r3, fun b hb => ?_⟩
    · rcases r2.2 with h | ⟨g, cap, cur, a1, a2, a3, a4⟩
      · exact .inl h
      · exact .inr ⟨g, cap, cur, a1, Nat.zero_le _, a3, a4⟩
    · rcases r2.2 with ⟨h, _⟩ | ⟨g, cap, cur, a1, a2, a3, a4⟩
      · rw [h] at hb; cases hb
      · rw [a1] at hb
        simp only [blk, Option.some.injEq] at hb
        subst hb
        exact .inl a2
  · obtain ⟨v', w', r1, r2, r3, r4⟩ := Lib.run_append_own_string (P := P) w 0 t u ty e i ht hu hi hz hsize hby v n xs hown s hmx (by omega) (Nat.zero_le _)
    refine ⟨v', w', r1, r2, r3, fun b hb => ?_⟩
    subst hv
    by_cases hroom : n + s.size ≤ cap
    · have hr := Lib.run_append_room_string (P := P) w t u ty e i ht hu hi hsize g n cap cur hg s hroom (by rw [hcs]; omega)
      rw [r1] at hr
      injection hr with e1 e2
      rw [e1] at hb
      exact .inr hb
    · have holds : ∀ j u, xs[j]? = some u → w.cell? ((⟨g, 0, none⟩ : Addr).add j) = some u := hown.cells (g := g) rfl
      have hr := Lib.run_append_grow_string (P := P) w t u ty e i (.int .u8 0) ht hu hi hz ⟨g, 0, none⟩ n cap xs (by rw [hsize]; exact hown.1) holds s (by omega) (by omega) (growslice_fits_wide (by omega) (by rw [hby]; omega))
      rw [r1] at hr
      injection hr with e1 e2
      rw [e1] at hb
      simp only [blk, Option.some.injEq] at hb
      exact .inl (Nat.le_of_eq hb)
section
variable {X : Cx} {σ : AS} {o : Oper} {K : AS → Prop} {t : Nat}
/-- A string behind a row of bytes. -/
theorem st_appstr {s x : Operand} {T S e : TypeId} {p : Nat} {es : List (List D)} {dp : Bool} {l : List UInt8} {n1 : Nat} [te : TI X.P e] (ho : o.op = .call { callee := .builtin .append, args := #[s, x], argTypes := #[T, S] }) (hd : o.dst = some t) (hT : sliceT X T = some e) (hS : stringT X S = true)
    (hz0 : te.zero = .int .u8 0) (hs1 : te.size = 1) (hb1 : te.bytes = 1) (hs : σ.ev s = .row p) (hp : lookO σ.ob p = some (.row e es dp)) (hx : σ.ev x = .d (.s l)) (hn1 : es.length = n1) (hb : n1 + l.length ≤ 1099511627776) (hlo : X.fre p = true) (ht : Nat.blt t σ.nt = true)
    (hK : K ⟨σ.nt, (t, .row p) :: cutS (notN p) σ.sl, (p, .row e (es ++ byteE l) dp) :: restO (notN p) p σ.ob⟩) : OpOk X o σ K := by
  intro a w hr next Q hn
  obtain ⟨en, h1⟩ := hr
  have hu := sliceT_und hT
  obtain ⟨y, hy, hyn, hya⟩ := h1.ent hp
  have hok := h1.mem.ok y hy
  unfold EntOk at hok
  rw [hya] at hok
  obtain ⟨z, us, k0, k1, k2, k3, k4, k5, k6, k7⟩ := hok
  obtain ⟨q, q1, q2, q3, q4⟩ := te.parts
  have hzz : z = 1 := by rw [te.sized, hs1] at k0; injection k0 with k0; exact k0.symm
  subst hzz
  obtain ⟨F, ⟨e1, _⟩, _⟩ := ev_of h1 hx
  obtain ⟨y', hy', f1, f2, f3⟩ := ev_of h1 hs
  have := h1.mem.ent_unique hy' hy (f1.trans hyn.symm)
  subst this
  have hsz : (⟨l.toArray⟩ : ByteArray).size = l.length := by simp [ByteArray.size]
  obtain ⟨v', w', r1, r2, r3, r4⟩ := run_append_strblk (P := X.P) T S o.type e q hu (stringT_und hS) q1 (by rw [q2, hz0]) (by rw [q3, hs1]) (by rw [q4, hb1]) y'.val es.length us k2 ⟨l.toArray⟩ (by rw [hsz, hn1]; exact hb)
  have hcells : Lib.strCells ⟨l.toArray⟩ = l.map fun (b : UInt8) => Value.int .u8 (b.toNat : Int) := by simp [Lib.strCells]
  rw [hsz, hcells] at r2
  have hrun : (execOp a.eval o).run X.P w = .ok (.value v') w' := by
    unfold execOp
    simp only [ho, resolve, invoke, builtin, Sem.run_bind, Sem.run_pure, Result.andThen_ok, List.map_toArray, List.map_cons, List.map_nil, f3, e1, r1]
  let x' : Ent := ⟨p, .row e (es ++ byteE l) dp, v', y'.fs⟩
  have hsame : ∀ b, b < w.heap.size → blk y'.val ≠ some b → Same w w' b := fun b hb hne => r3.block b hb (by rw [own_blk k2]; exact fun e => hne e.symm)
  have hsw : Swap X.P X.w0 X.Z X.O en w w' p x' (notN p) :=
    ⟨h1.mem, fun n hn => notN_ne hn, (fun h => by rw [notN_self] at h; cases h), r3.os, r3.tape, r3.output, r3.size,
      fun b hb hno => hsame b hb (hno y' hy hyn), fun b hb => (r4 b hb).imp id (fun h => ⟨y', hy, hyn, h⟩), rfl, X.Z.lo _ _ hlo⟩
  have hS5 : ∀ b ∈ y'.fs, Same w w' b := fun b hb => hsw.same (k5 b hb)
  have hF6 : ∀ g, blk v' = some g → Frs X.w0 X.O g := fun g hg => by
    rcases r4 g hg with h | h
    · exact .inr (Nat.le_trans h1.mem.size h)
    · exact k6 g h
  have hrel := h1.swap hsw
    (by
      unfold EntOk
      exact ⟨1, us ++ l.map fun (b : UInt8) => Value.int .u8 (b.toNat : Int), k0, k1, by rw [List.length_append, byteE_length]; exact r2, fun q hq => (List.mem_append.1 hq).elim (k3 q) (fun h => by
        unfold byteE at h
        obtain ⟨b, _, rfl⟩ := List.mem_map.1 h
        rfl), by
        have := repE_append (repE_mono r3.size _ _ _ k4 hS5) (repE_bytes w' l)
        simpa using this, fun b hb => hsw.imm (k5 b hb), hF6, k7⟩)
    (fun hd z hz hzn hdz b hb => h1.mem.apart_ne hy hz (fun e => hzn (e.symm.trans hyn)) (by rw [hya]; exact hd) hdz hb)
  unfold Oper.wp
  rw [hrun, Oper.upon_value, hd]
  exact hn _ _ _ hK ⟨_, hrel.put ⟨x', List.mem_cons_self, rfl, rfl, rfl⟩ ht⟩
end
theorem flatE_app {a b : List (List D)} (h1 : flatE a = true) (h2 : flatE b = true) : flatE (a ++ b) = true := by
  unfold flatE at *
  rw [List.all_append, h1, h2]; rfl
theorem set_at {α : Type} {l : List α} {i : Nat} {x : α} (h : i < l.length) : (l.set i x)[i]? = some x := by simp [h]
theorem lens_map {α : Type} {f : α → List D} {z : Nat} (hf : ∀ a, (f a).length = z) {l l' : List α} (h : l.length = l'.length) : (l.map f).map List.length = (l'.map f).map List.length := by
  have e : ∀ (l : List α), (l.map f).map List.length = List.replicate l.length z := fun l => by
    rw [List.map_map, List.eq_replicate_iff]
    refine ⟨by simp, fun n hn => ?_⟩
    obtain ⟨a, _, rfl⟩ := List.mem_map.1 hn
    exact hf a
  rw [e, e, h]
theorem lens_byteE {l l' : List UInt8} (h : l.length = l'.length) : (byteE l).map List.length = (byteE l').map List.length := lens_map (f := fun (b : UInt8) => [D.n .u8 (b.toNat : Int)]) (fun _ => rfl) h
theorem lens_strE {l l' : List (List UInt8)} (h : l.length = l'.length) : (strE l).map List.length = (strE l').map List.length := lens_map (f := fun (s : List UInt8) => [D.s s]) (fun _ => rfl) h
/-! ### Pieces of a list of elements -/
theorem cutM_eq {α : Type} {f : α → List D} {l : List α} {i j : Nat} : ((l.map f).take j).drop i = ((l.take j).drop i).map f := by simp [List.map_take, List.map_drop]
theorem cutM_length {α : Type} {f : α → List D} {l : List α} {i j : Nat} (h : j ≤ l.length) : (((l.map f).take j).drop i).length = j - i := by simp; omega
theorem cutM_lenE {α : Type} {f : α → List D} {l : List α} {i j z : Nat} (h : ∀ a, (f a).length = z) : lenE (((l.map f).take j).drop i) z := by
  rw [cutM_eq]; exact lenE_map h
theorem cutM_flatE {α : Type} {f : α → List D} {l : List α} {i j : Nat} (h : ∀ a, (f a).all D.flat1 = true) : flatE (((l.map f).take j).drop i) = true := by
  rw [cutM_eq]; exact flatE_map h
/-! ### Copies -/
/-- The first i of l, then z. -/
def cpyL {α : Type} (l : List α) (z : α) (i : Nat) : List α := l.take i ++ List.replicate (l.length - i) z
theorem cpyL_0 {α : Type} (l : List α) (z : α) : cpyL l z 0 = List.replicate l.length z := by simp [cpyL]
theorem cpyL_all {α : Type} (l : List α) (z : α) : cpyL l z l.length = l := by simp [cpyL]
theorem cpyL_length {α : Type} (l : List α) (z : α) {i : Nat} (h : i ≤ l.length) : (cpyL l z i).length = l.length := by simp [cpyL]; omega
theorem cpyL_set {α β : Type} [Inhabited α] {f : α → β} {l : List α} {z : α} {i : Nat} (h : i < l.length) : ((cpyL l z i).map f).set i (f (nth l i)) = (cpyL l z (i + 1)).map f := by
  have h1 : nth l i = l[i] := by simp [nth, List.getD, h]
  rw [← List.map_set, h1]
  congr 1
  unfold cpyL
  obtain ⟨k, hk⟩ : ∃ k, l.length - i = k + 1 := ⟨l.length - i - 1, by omega⟩
  rw [hk, show l.length - (i + 1) = k by omega, List.replicate_succ, List.take_succ_eq_append_getElem h]
  have hl : (l.take i).length = i := by rw [List.length_take]; omega
  rw [List.set_append_right _ _ (by omega), hl, Nat.sub_self, List.set_cons_zero, List.append_assoc]
  rfl
/-! ### Marks -/
def markL {α : Type} (g : Nat → α) (n : Nat) : List α := (List.range n).map g
theorem markL_length {α : Type} (g : Nat → α) (n : Nat) : (markL g n).length = n := by simp [markL]
theorem markL_nth {α : Type} [Inhabited α] {g : Nat → α} {n i : Nat} (h : i < n) : nth (markL g n) i = g i := by simp [nth, markL, List.getD, h]
/-- The first i marked. -/
def mkL {α : Type} (g : Nat → α) (l : List α) (i : Nat) : List α := markL g i ++ l.drop i
theorem mkL_0 {α : Type} (g : Nat → α) (l : List α) : mkL g l 0 = l := by simp [mkL, markL]
theorem mkL_all {α : Type} (g : Nat → α) (l : List α) : mkL g l l.length = markL g l.length := by simp [mkL]
theorem mkL_length {α : Type} (g : Nat → α) (l : List α) {i : Nat} (h : i ≤ l.length) : (mkL g l i).length = l.length := by simp [mkL, markL]; omega
theorem mkL_set {α β : Type} {f : α → β} {g : Nat → α} {l : List α} {i : Nat} (h : i < l.length) : ((mkL g l i).map f).set i (f (g i)) = (mkL g l (i + 1)).map f := by
  rw [← List.map_set]
  congr 1
  unfold mkL
  have hl : (markL g i).length = i := markL_length g i
  rw [List.drop_eq_getElem_cons h, List.set_append_right _ _ (by omega), hl, Nat.sub_self, List.set_cons_zero]
  simp [markL, List.range_succ]
end Go.Proofs.Ythmajaeekkbnnaa
