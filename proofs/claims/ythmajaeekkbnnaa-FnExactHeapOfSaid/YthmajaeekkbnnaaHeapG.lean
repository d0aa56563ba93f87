/-
  Contracts: HeapOf, the program's and the reference's.
-/
import Derived.Test.YthmajaeekkbnnaaHeapF
namespace Go.Proofs.Ythmajaeekkbnnaa
open Go Go.RowKit

def ofStep (st : Option (List Due)) (d : Due) : Option (List Due) := st.bind fun o => if pushOkB o d then some (pushD o d) else none
def ofTo (l : List Due) (k : Nat) : Option (List Due) := (l.take k).foldl ofStep (some [])
theorem ofTo_succ (l : List Due) (k : Nat) (hk : k < l.length) : ofTo l (k + 1) = ofStep (ofTo l k) (l.getD k zdue) := by
  unfold ofTo
  rw [List.take_succ_eq_append_getElem hk, List.foldl_append]
  simp [List.getD, hk]
theorem ofStep_none (l : List Due) : l.foldl ofStep none = none := by
  induction l with
  | nil => rfl
  | cons d l ih => simpa [ofStep] using ih
theorem ofTo_none {l : List Due} {k : Nat} (h : ofTo l k = none) : ofTo l l.length = none := by
  unfold ofTo at h ⊢
  rw [List.take_length, ← List.take_append_drop k l, List.foldl_append, h, ofStep_none]
theorem pushOk_len {l : List Due} {d : Due} (h : pushOkB l d = true) : l.length < 200 := (pushOk_parts rfl h).2.2

set_option maxRecDepth 100000 in
set_option maxHeartbeats 1000000 in
theorem heapOf_yes (A : Option Addr) (n cap : Nat) (l R : List Due) (w : World) (h : Rd w 2 A n cap (dueCells l)) (hl : l.length = n) (hR : ofTo l l.length = some R) :
    Calls Try.prog 43 #[.slice A n cap] w fun e w' => ∃ g c, e = .returned (.tuple #[.slice (some ⟨g, 0, none⟩) R.length c, .bool true]) ∧ w'.ownsRow w.heap.size 25 2 (.slice (some ⟨g, 0, none⟩) R.length c) R.length (dueCells R) ∧ Ext w w' := by
  have hR' := Lib.hid hR; clear hR
  have hl' := Lib.hid hl; clear hl
  have hm : (n : Int) ≤ 9223372036854775807 := h.max
  go_enter Try.func43, Try.ntmps43
  go_wp2_with fail
  go_loopw [4, 12] (fun v i wr => ∃ (k : Nat) (L : List Due) (g c : Nat), k ≤ n ∧ i = .int .i64 k ∧ Hid (ofTo l k = some L) ∧ v = .slice (some ⟨g, 0, none⟩) L.length c ∧ wr.ownsRow w.heap.size 25 2 v L.length (dueCells L) ∧ Ext w wr) (fun _ i _ => n - (intOf i).toNat)
  case atStart => exact ⟨0, [], _, 0, Nat.zero_le _, rfl, rfl, rfl, own_empty w _ 2 _ (Nat.le_refl _), Ext.alloc_ _ _⟩
  case round =>
    obtain ⟨k, L, g', c', hk, rfl, hto, rfl, hown, hx⟩ := hrel
    have hr := Rd.of_own hown
    have hown' := Lib.hid hown; clear hown
    by_cases hlt : k < n
    · obtain ⟨b, o, rfl, hbl, hc⟩ := (h.ext hx).due (by omega)
      obtain ⟨c0, c1⟩ := hc k hlt
      have hs := ofTo_succ l k (by rw [hl'.out]; exact hlt)
      generalize hgd : l.getD k zdue = d at *
      have hs' := Lib.hid hs; clear hs hc hgd
      cases hp : pushOkB L d with
      | false =>
        have hp' := Lib.hid hp; clear hp
        go_wp2_with fail
        refine (heapPush_no _ _ _ L d _ (hr.ext (Ext.alloc_ _ _)) rfl hp'.out).mono ?_
        rintro e w2 ⟨rfl, hx2⟩
        go_wp2_with fail
        have hno : ofTo l l.length = none := ofTo_none (k := k + 1) (by rw [hs'.out, hto.out]; simp [ofStep, hp'.out])
        (rw [hR'.out] at hno; cases hno)
      | true =>
        have hlen := pushOk_len hp
        obtain ⟨q1, q2, q3⟩ := pushOk_parts rfl hp
        have Q1 := Lib.hid q1; have Q2 := Lib.hid q2; have hp' := Lib.hid hp; clear q1 q2 hp
        go_wp2_with fail
        refine (heapPush_yes _ _ _ L d _ (hr.ext (Ext.alloc_ _ _)) rfl Q1.out Q2.out q3).mono ?_
        rintro e w2 ⟨g2, c2, rfl, ho2, hx2⟩
        go_wp2_with fail
        go_roundw
        case rel =>
          refine ⟨k + 1, pushD L d, g2, c2, by omega, by go_num, ?_, by rw [pushD_length], ?_, hx.trans ((Ext.alloc_ _ _).trans hx2)⟩
          · have e : ofTo l (k + 1) = some (pushD L d) := by rw [hs'.out, hto.out]; simp [ofStep, hp'.out]
            exact e
          · rw [pushD_length]
            exact own_mono ho2 (by have := hx.size; simp; omega)
        case measure => simp [intOf]; omega
    · have hkn : k = n := by omega
      go_wp2_with fail
      have hall : ofTo l l.length = some L := by rw [hl'.out, ← hkn]; exact hto.out
      (obtain rfl : R = L := Option.some.inj (hR'.out.symm.trans hall); go_ret2; exact ⟨_, _, rfl, hown'.out, hx⟩)
set_option maxRecDepth 100000 in
set_option maxHeartbeats 1000000 in
theorem heapOf_no (A : Option Addr) (n cap : Nat) (l : List Due) (w : World) (h : Rd w 2 A n cap (dueCells l)) (hl : l.length = n) (hR : ofTo l l.length = none) :
    Calls Try.prog 43 #[.slice A n cap] w fun e w' => e = .returned (.tuple #[.slice none 0 0, .bool false]) ∧ Ext w w' := by
  have hR' := Lib.hid hR; clear hR
  have hl' := Lib.hid hl; clear hl
  have hm : (n : Int) ≤ 9223372036854775807 := h.max
  go_enter Try.func43, Try.ntmps43
  go_wp2_with fail
  go_loopw [4, 12] (fun v i wr => ∃ (k : Nat) (L : List Due) (g c : Nat), k ≤ n ∧ i = .int .i64 k ∧ Hid (ofTo l k = some L) ∧ v = .slice (some ⟨g, 0, none⟩) L.length c ∧ wr.ownsRow w.heap.size 25 2 v L.length (dueCells L) ∧ Ext w wr) (fun _ i _ => n - (intOf i).toNat)
  case atStart => exact ⟨0, [], _, 0, Nat.zero_le _, rfl, rfl, rfl, own_empty w _ 2 _ (Nat.le_refl _), Ext.alloc_ _ _⟩
  case round =>
    obtain ⟨k, L, g', c', hk, rfl, hto, rfl, hown, hx⟩ := hrel
    have hr := Rd.of_own hown
    have hown' := Lib.hid hown; clear hown
    by_cases hlt : k < n
    · obtain ⟨b, o, rfl, hbl, hc⟩ := (h.ext hx).due (by omega)
      obtain ⟨c0, c1⟩ := hc k hlt
      have hs := ofTo_succ l k (by rw [hl'.out]; exact hlt)
      generalize hgd : l.getD k zdue = d at *
      have hs' := Lib.hid hs; clear hs hc hgd
      cases hp : pushOkB L d with
      | false =>
        have hp' := Lib.hid hp; clear hp
        go_wp2_with fail
        refine (heapPush_no _ _ _ L d _ (hr.ext (Ext.alloc_ _ _)) rfl hp'.out).mono ?_
        rintro e w2 ⟨rfl, hx2⟩
        go_wp2_with fail
        have hno : ofTo l l.length = none := ofTo_none (k := k + 1) (by rw [hs'.out, hto.out]; simp [ofStep, hp'.out])
        (go_ret2; exact ⟨rfl, hx.trans ((Ext.alloc_ _ _).trans hx2)⟩)
      | true =>
        have hlen := pushOk_len hp
        obtain ⟨q1, q2, q3⟩ := pushOk_parts rfl hp
        have Q1 := Lib.hid q1; have Q2 := Lib.hid q2; have hp' := Lib.hid hp; clear q1 q2 hp
        go_wp2_with fail
        refine (heapPush_yes _ _ _ L d _ (hr.ext (Ext.alloc_ _ _)) rfl Q1.out Q2.out q3).mono ?_
        rintro e w2 ⟨g2, c2, rfl, ho2, hx2⟩
        go_wp2_with fail
        go_roundw
        case rel =>
          refine ⟨k + 1, pushD L d, g2, c2, by omega, by go_num, ?_, by rw [pushD_length], ?_, hx.trans ((Ext.alloc_ _ _).trans hx2)⟩
          · have e : ofTo l (k + 1) = some (pushD L d) := by rw [hs'.out, hto.out]; simp [ofStep, hp'.out]
            exact e
          · rw [pushD_length]
            exact own_mono ho2 (by have := hx.size; simp; omega)
        case measure => simp [intOf]; omega
    · have hkn : k = n := by omega
      go_wp2_with fail
      have hall : ofTo l l.length = some L := by rw [hl'.out, ← hkn]; exact hto.out
      (rw [hR'.out] at hall; cases hall)
set_option maxRecDepth 100000 in
set_option maxHeartbeats 1000000 in
theorem sheapOf_yes (A : Option Addr) (n cap : Nat) (l R : List Due) (w : World) (h : Rd w 2 A n cap (dueCells l)) (hl : l.length = n) (hR : ofTo l l.length = some R) :
    Calls Try.prog 42 #[.slice A n cap] w fun e w' => ∃ g c, e = .returned (.tuple #[.slice (some ⟨g, 0, none⟩) R.length c, .bool true]) ∧ w'.ownsRow w.heap.size 25 2 (.slice (some ⟨g, 0, none⟩) R.length c) R.length (dueCells R) ∧ Ext w w' := by
  have hR' := Lib.hid hR; clear hR
  have hl' := Lib.hid hl; clear hl
  have hm : (n : Int) ≤ 9223372036854775807 := h.max
  go_enter Try.func42, Try.ntmps42
  go_wp2_with fail
  go_loopw [4, 12] (fun v i wr => ∃ (k : Nat) (L : List Due) (g c : Nat), k ≤ n ∧ i = .int .i64 k ∧ Hid (ofTo l k = some L) ∧ v = .slice (some ⟨g, 0, none⟩) L.length c ∧ wr.ownsRow w.heap.size 25 2 v L.length (dueCells L) ∧ Ext w wr) (fun _ i _ => n - (intOf i).toNat)
  case atStart => exact ⟨0, [], _, 0, Nat.zero_le _, rfl, rfl, rfl, own_empty w _ 2 _ (Nat.le_refl _), Ext.alloc_ _ _⟩
  case round =>
    obtain ⟨k, L, g', c', hk, rfl, hto, rfl, hown, hx⟩ := hrel
    have hr := Rd.of_own hown
    have hown' := Lib.hid hown; clear hown
    by_cases hlt : k < n
    · obtain ⟨b, o, rfl, hbl, hc⟩ := (h.ext hx).due (by omega)
      obtain ⟨c0, c1⟩ := hc k hlt
      have hs := ofTo_succ l k (by rw [hl'.out]; exact hlt)
      generalize hgd : l.getD k zdue = d at *
      have hs' := Lib.hid hs; clear hs hc hgd
      cases hp : pushOkB L d with
      | false =>
        have hp' := Lib.hid hp; clear hp
        go_wp2_with fail
        refine (sheapPush_no _ _ _ L d _ (hr.ext (Ext.alloc_ _ _)) rfl hp'.out).mono ?_
        rintro e w2 ⟨rfl, hx2⟩
        go_wp2_with fail
        have hno : ofTo l l.length = none := ofTo_none (k := k + 1) (by rw [hs'.out, hto.out]; simp [ofStep, hp'.out])
        (rw [hR'.out] at hno; cases hno)
      | true =>
        have hlen := pushOk_len hp
        obtain ⟨q1, q2, q3⟩ := pushOk_parts rfl hp
        have Q1 := Lib.hid q1; have Q2 := Lib.hid q2; have hp' := Lib.hid hp; clear q1 q2 hp
        go_wp2_with fail
        refine (sheapPush_yes _ _ _ L d _ (hr.ext (Ext.alloc_ _ _)) rfl Q1.out Q2.out q3).mono ?_
        rintro e w2 ⟨g2, c2, rfl, ho2, hx2⟩
        go_wp2_with fail
        go_roundw
        case rel =>
          refine ⟨k + 1, pushD L d, g2, c2, by omega, by go_num, ?_, by rw [pushD_length], ?_, hx.trans ((Ext.alloc_ _ _).trans hx2)⟩
          · have e : ofTo l (k + 1) = some (pushD L d) := by rw [hs'.out, hto.out]; simp [ofStep, hp'.out]
            exact e
          · rw [pushD_length]
            exact own_mono ho2 (by have := hx.size; simp; omega)
        case measure => simp [intOf]; omega
    · have hkn : k = n := by omega
      go_wp2_with fail
      have hall : ofTo l l.length = some L := by rw [hl'.out, ← hkn]; exact hto.out
      (obtain rfl : R = L := Option.some.inj (hR'.out.symm.trans hall); go_ret2; exact ⟨_, _, rfl, hown'.out, hx⟩)
set_option maxRecDepth 100000 in
set_option maxHeartbeats 1000000 in
theorem sheapOf_no (A : Option Addr) (n cap : Nat) (l : List Due) (w : World) (h : Rd w 2 A n cap (dueCells l)) (hl : l.length = n) (hR : ofTo l l.length = none) :
    Calls Try.prog 42 #[.slice A n cap] w fun e w' => e = .returned (.tuple #[.slice none 0 0, .bool false]) ∧ Ext w w' := by
  have hR' := Lib.hid hR; clear hR
  have hl' := Lib.hid hl; clear hl
  have hm : (n : Int) ≤ 9223372036854775807 := h.max
  go_enter Try.func42, Try.ntmps42
  go_wp2_with fail
  go_loopw [4, 12] (fun v i wr => ∃ (k : Nat) (L : List Due) (g c : Nat), k ≤ n ∧ i = .int .i64 k ∧ Hid (ofTo l k = some L) ∧ v = .slice (some ⟨g, 0, none⟩) L.length c ∧ wr.ownsRow w.heap.size 25 2 v L.length (dueCells L) ∧ Ext w wr) (fun _ i _ => n - (intOf i).toNat)
  case atStart => exact ⟨0, [], _, 0, Nat.zero_le _, rfl, rfl, rfl, own_empty w _ 2 _ (Nat.le_refl _), Ext.alloc_ _ _⟩
  case round =>
    obtain ⟨k, L, g', c', hk, rfl, hto, rfl, hown, hx⟩ := hrel
    have hr := Rd.of_own hown
    have hown' := Lib.hid hown; clear hown
    by_cases hlt : k < n
    · obtain ⟨b, o, rfl, hbl, hc⟩ := (h.ext hx).due (by omega)
      obtain ⟨c0, c1⟩ := hc k hlt
      have hs := ofTo_succ l k (by rw [hl'.out]; exact hlt)
      generalize hgd : l.getD k zdue = d at *
      have hs' := Lib.hid hs; clear hs hc hgd
      cases hp : pushOkB L d with
      | false =>
        have hp' := Lib.hid hp; clear hp
        go_wp2_with fail
        refine (sheapPush_no _ _ _ L d _ (hr.ext (Ext.alloc_ _ _)) rfl hp'.out).mono ?_
        rintro e w2 ⟨rfl, hx2⟩
        go_wp2_with fail
        have hno : ofTo l l.length = none := ofTo_none (k := k + 1) (by rw [hs'.out, hto.out]; simp [ofStep, hp'.out])
        (go_ret2; exact ⟨rfl, hx.trans ((Ext.alloc_ _ _).trans hx2)⟩)
      | true =>
        have hlen := pushOk_len hp
        obtain ⟨q1, q2, q3⟩ := pushOk_parts rfl hp
        have Q1 := Lib.hid q1; have Q2 := Lib.hid q2; have hp' := Lib.hid hp; clear q1 q2 hp
        go_wp2_with fail
        refine (sheapPush_yes _ _ _ L d _ (hr.ext (Ext.alloc_ _ _)) rfl Q1.out Q2.out q3).mono ?_
        rintro e w2 ⟨g2, c2, rfl, ho2, hx2⟩
        go_wp2_with fail
        go_roundw
        case rel =>
          refine ⟨k + 1, pushD L d, g2, c2, by omega, by go_num, ?_, by rw [pushD_length], ?_, hx.trans ((Ext.alloc_ _ _).trans hx2)⟩
          · have e : ofTo l (k + 1) = some (pushD L d) := by rw [hs'.out, hto.out]; simp [ofStep, hp'.out]
            exact e
          · rw [pushD_length]
            exact own_mono ho2 (by have := hx.size; simp; omega)
        case measure => simp [intOf]; omega
    · have hkn : k = n := by omega
      go_wp2_with fail
      have hall : ofTo l l.length = some L := by rw [hl'.out, ← hkn]; exact hto.out
      (rw [hR'.out] at hall; cases hall)
end Go.Proofs.Ythmajaeekkbnnaa
