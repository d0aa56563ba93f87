/-
  The walk over abstract states: marks and copies in rows.
-/
import Derived.Test.YthmajaeekkbnnaaAbsX
namespace Go.Proofs.Ythmajaeekkbnnaa
open Go Go.RowKit
section
variable {X : Cx} {σ : AS} {o : Oper} {K : AS → Prop} {t : Nat}
theorem st_conv8n {src dst : TypeId} {k : IntKind} {x : Operand} {p : Int} {n : Nat} (ho : o.op = .convert src dst x) (hd : o.dst = some t) (hs : hasT X src = true) (hT : intT X dst = some .u8) (hx : σ.ev x = .d (.n k p)) (hp : p = (n : Int)) (ht : Nat.blt t σ.nt = true)
    (hK : K (σ.put t (.d (.n .u8 ((UInt8.ofNat n).toNat : Int))))) : QOk X o σ K :=
  st_convw ho hd hs hT hx ht (by
    have : IntKind.u8.wrap p = ((UInt8.ofNat n).toNat : Int) := by
      subst hp
      simp [IntKind.wrap, IntKind.bits, IntKind.signed]
    rw [this]; exact hK)
end
theorem set_at {α : Type} {l : List α} {i : Nat} {x : α} (h : i < l.length) : (l.set i x)[i]? = some x := by simp [h]
theorem lens_map {α : Type} {f : α → List D} {z : Nat} (hf : ∀ a, (f a).length = z) {l l' : List α} (h : l.length = l'.length) : (l.map f).map List.length = (l'.map f).map List.length := by
  have e : ∀ (l : List α), (l.map f).map List.length = List.replicate l.length z := fun l => by
    rw [List.map_map, List.eq_replicate_iff]
    refine ⟨by simp, fun n hn => ?_⟩
    obtain ⟨a, _, rfl⟩ := List.mem_map.1 hn
    exact hf a
  rw [e, e, h]
theorem lens_byteE {l l' : List UInt8} (h : l.length = l'.length) : (byteE l).map List.length = (byteE l').map List.length := lens_map (f := fun (b : UInt8) => [D.n .u8 (b.toNat : Int)]) (fun _ => rfl) h
theorem lens_strE {l l' : List (List UInt8)} (h : l.length = l'.length) : (strE l).map List.length = (strE l').map List.length := lens_map (f := fun (s : List UInt8) => [D.s s]) (fun _ => rfl) h
/-! ### Copies -/
/-- The first i of l, then z. -/
def cpyL {α : Type} (l : List α) (z : α) (i : Nat) : List α := l.take i ++ List.replicate (l.length - i) z
theorem cpyL_0 {α : Type} (l : List α) (z : α) : cpyL l z 0 = List.replicate l.length z := by simp [cpyL]
theorem cpyL_all {α : Type} (l : List α) (z : α) : cpyL l z l.length = l := by simp [cpyL]
theorem cpyL_length {α : Type} (l : List α) (z : α) {i : Nat} (h : i ≤ l.length) : (cpyL l z i).length = l.length := by simp [cpyL]; omega
theorem cpyL_set {α β : Type} [Inhabited α] {f : α → β} {l : List α} {z : α} {i : Nat} (h : i < l.length) : ((cpyL l z i).map f).set i (f (nth l i)) = (cpyL l z (i + 1)).map f := by
  have h1 : nth l i = l[i] := by simp [nth, List.getD, h]
  rw [← List.map_set, h1]
  congr 1
  unfold cpyL
  obtain ⟨k, hk⟩ : ∃ k, l.length - i = k + 1 := ⟨l.length - i - 1, by omega⟩
  rw [hk, show l.length - (i + 1) = k by omega, List.replicate_succ, List.take_succ_eq_append_getElem h]
  have hl : (l.take i).length = i := by rw [List.length_take]; omega
  rw [List.set_append_right _ _ (by omega), hl, Nat.sub_self, List.set_cons_zero, List.append_assoc]
  rfl
/-! ### Marks -/
def markL {α : Type} (g : Nat → α) (n : Nat) : List α := (List.range n).map g
theorem markL_length {α : Type} (g : Nat → α) (n : Nat) : (markL g n).length = n := by simp [markL]
theorem markL_nth {α : Type} [Inhabited α] {g : Nat → α} {n i : Nat} (h : i < n) : nth (markL g n) i = g i := by simp [nth, markL, List.getD, h]
/-- The first i marked. -/
def mkL {α : Type} (g : Nat → α) (l : List α) (i : Nat) : List α := markL g i ++ l.drop i
theorem mkL_0 {α : Type} (g : Nat → α) (l : List α) : mkL g l 0 = l := by simp [mkL, markL]
theorem mkL_all {α : Type} (g : Nat → α) (l : List α) : mkL g l l.length = markL g l.length := by simp [mkL]
theorem mkL_length {α : Type} (g : Nat → α) (l : List α) {i : Nat} (h : i ≤ l.length) : (mkL g l i).length = l.length := by simp [mkL, markL]; omega
theorem mkL_set {α β : Type} {f : α → β} {g : Nat → α} {l : List α} {i : Nat} (h : i < l.length) : ((mkL g l i).map f).set i (f (g i)) = (mkL g l (i + 1)).map f := by
  rw [← List.map_set]
  congr 1
  unfold mkL
  have hl : (markL g i).length = i := markL_length g i
  rw [List.drop_eq_getElem_cons h, List.set_append_right _ _ (by omega), hl, Nat.sub_self, List.set_cons_zero]
  simp [markL, List.range_succ]
end Go.Proofs.Ythmajaeekkbnnaa
