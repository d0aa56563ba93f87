/-
  The program's HeapPush and the reference's give the same answer for all arguments; arguments and results share no memory. No condition.
-/
import Derived.Test.YthmajaeekkbnnaaHeapD
import Derived.Test.YthmajaeekkbnnaaHeapE
import Derived.Test.YthmajaeekkbnnaaRows
import Derived.Test.YthmajaeekkbnnaaFacts
namespace Go.Proofs.Ythmajaeekkbnnaa
open Go Go.RowKit Go.ChangeShapes Go.WideShapes

theorem pushOk_parts {l : List Due} {d : Due} {n : Nat} (hl : l.length = n) (h : pushOkB l d = true) : heapOkB l = true ∧ dueOkB d = true ∧ n < 200 := by
  simp only [pushOkB, Bool.and_eq_true, Bool.not_eq_true', decide_eq_false_iff_not] at h
  refine ⟨h.1, h.2.1, ?_⟩
  have h1 := h.1
  simp only [heapOkB, Bool.and_eq_true, decide_eq_true_eq] at h1
  omega
/-- On nil: nothing is marked. -/
theorem markDueS_nil (m : Int) (w : World) :
    Calls Try.prog 40 #[.slice none 0 0, .int .i64 m] w fun e w' => e = .returned (.int .i64 m) ∧ Ext w w' := by
  go_enter Try.func40, Try.ntmps40
  go_wp2_with fail
  refine wp_loop_rounds 1 ?_
  rw [rounds_succ]
  go_wp2_with fail
  go_ret
  exact ⟨rfl, Ext.refl _⟩
/-- One row of the call's own is written: what an older world held stays. -/
theorem Ext.only {a b c : World} {g : Nat} (h : Ext a b) (k : b.grownBy c (some g)) (hg : a.heap.size ≤ g) : Ext a c :=
  Below.grown h k h.size (fun _ e => by injection e with e; omega)
theorem own_ne {b : Nat} {w : World} {e : TypeId} {size n g cap x : Nat} {xs : List Value} (h : w.ownsRow b e size (.slice (some ⟨g, 0, none⟩) n cap) n xs) (hx : x < b) : (Value.slice (some ⟨g, 0, none⟩) n cap).ownBlock ≠ some x := by
  have := (own_lt h).1
  simp only [Value.ownBlock, ne_eq, Option.some.injEq]
  omega
theorem own_ne' {g n cap x : Nat} (hg : g < x) : (Value.slice (some ⟨g, 0, none⟩) n cap).ownBlock ≠ some x := by
  simp only [Value.ownBlock, ne_eq, Option.some.injEq]
  omega
set_option maxRecDepth 100000 in
set_option maxHeartbeats 4000000 in
theorem lawHeapPush_yes (A : Option Addr) (n cap : Nat) (l : List Due) (d : Due) (w : World) (h : Rd w 2 A n cap (dueCells l)) (hl : l.length = n) (hn : n ≤ 1048576) (hok : pushOkB l d = true) :
    Calls Try.prog 7 #[.slice A n cap, .agg d.cs] w fun e w' => e = .returned (.bool true) ∧ Ext w w' := by
  have hm : (n : Int) ≤ 9223372036854775807 := h.max
  have hl' := Lib.hid hl; clear hl
  obtain ⟨hok1, hok2, hok3⟩ := pushOk_parts hl'.out hok
  have hk1 := Lib.hid hok1; have hk2 := Lib.hid hok2; clear hok1 hok2 hok
  have hp := pushD_length l d
  have hp' : Hid ((pushD l d).length = n + 1) := by rw [hl'.out] at hp; exact hp
  clear hp
  have ha := Ext.alloc_ w (.cells #[.int .i64 d.a, .int .i64 d.i] 23)
  have hbs : (w.alloc (.cells #[.int .i64 d.a, .int .i64 d.i] 23)).heap.size = w.heap.size + 1 := by simp
  have hb0 : (w.alloc (.cells #[.int .i64 d.a, .int .i64 d.i] 23)).cell? ⟨w.heap.size, 0, none⟩ = some (.int .i64 d.a) := by simp
  have hb1 : (w.alloc (.cells #[.int .i64 d.a, .int .i64 d.i] 23)).cell? ⟨w.heap.size, 1, none⟩ = some (.int .i64 d.i) := by simp
  have h0 := h.ext ha
  go_enter Try.func7, Try.ntmps7
  go_wp2_with fail
  refine (szDueS_yes _ _ _ _ hn).mono ?_
  rintro e w1 ⟨rfl, hx1⟩
  have h1 := h0.ext hx1
  have k0 := hx1.cell hb0
  have k1 := hx1.cell hb1
  have hE0 : ∀ W, Ext w1 W → Ext w1 W ∧ W.cell? ⟨w.heap.size, 0, none⟩ = some (.int .i64 d.a) ∧ W.cell? ⟨w.heap.size, 1, none⟩ = some (.int .i64 d.i) := fun W hE => ⟨hE, hE.cell k0, hE.cell k1⟩
  have hE0' := Lib.hid hE0; clear hE0
  go_wp2_with fail
  go_region_held3 (fun w' => Ext w1 w' ∧ w'.cell? ⟨w.heap.size, 0, none⟩ = some (.int .i64 d.a) ∧ w'.cell? ⟨w.heap.size, 1, none⟩ = some (.int .i64 d.i))
    ((refine hE0'.out _ ?_; first | exact hE4a | exact hE3a | exact hE2a | (repeat (first | exact Ext.refl _ | refine Ext.alloc1 ?_ _ | refine Ext.drew1 ?_))))
    (first
      | (go_at_call 32; refine (toDueS_c _ _ _ l _ (h1.ext (Ext.drew _)) hl'.out hn).mono ?_; rintro e w2a ⟨g2a, c2a, rfl, ho2a, hx2a⟩; have hE2a := (Ext.drew w1).trans hx2a)
      | (go_at_call 26; refine (toDue_c d _).mono ?_; rintro e w3a ⟨rfl, hx3a⟩; have hE3a := hE2a.trans hx3a)
      | (go_at_call 38; refine (sheapPush_yes _ _ _ l d _ ((Rd.of_own ho2a).ext hx3a) hl'.out hk1.out hk2.out hok3).mono ?_; rintro e w4a ⟨g4a, c4a, rfl, ho4a, hx4a⟩; have hE4a := hE3a.trans hx4a))
  have h4 := h1.ext hE4a
  have k04 := hE4a.cell k0
  have k14 := hE4a.cell k1
  clear k0 k1
  go_wp2_with fail
  refine (toDueS_c _ _ _ l _ h4 hl'.out hn).mono ?_
  rintro e w5 ⟨gx, cx, rfl, hox, hx5⟩
  have k05 := hx5.cell k04
  have k15 := hx5.cell k14
  clear k04 k14
  go_wp2_with fail
  refine (toDue_c d _).mono ?_
  rintro e w6 ⟨rfl, hx6⟩
  clear k05 k15
  go_wp2_with fail
  refine (heapPush_yes _ _ _ l d _ ((Rd.of_own hox).ext hx6) hl'.out hk1.out hk2.out hok3).mono ?_
  rintro e w7 ⟨gg, cg, rfl, hog, hx7⟩
  go_wp2_with fail
  refine (eqDueS_c _ _ _ _ _ (pushD l d) _ (Rd.of_own hog) ((Rd.of_own ho4a).ext (hx5.trans (hx6.trans hx7)))).mono ?_
  rintro e w8 ⟨rfl, hx8⟩
  have h8 := h4.ext (hx5.trans (hx6.trans (hx7.trans hx8)))
  go_wp2_with fail
  refine (toDueS_c _ _ _ l _ h8 hl'.out hn).mono ?_
  rintro e w9 ⟨gt, ct, rfl, hot, hx9⟩
  go_wp2_with fail
  refine (eqDueS_c _ _ _ _ _ l _ ((Rd.of_own hox).ext (hx6.trans (hx7.trans (hx8.trans hx9)))) (Rd.of_own hot)).mono ?_
  rintro e w10 ⟨rfl, hx10⟩
  have hox10 := (hx6.trans (hx7.trans (hx8.trans (hx9.trans hx10)))).own hox
  have hog10 := (hx8.trans (hx9.trans hx10)).own hog
  have ho410 := (hx5.trans (hx6.trans (hx7.trans (hx8.trans (hx9.trans hx10))))).own ho4a
  have Eb10 := hx1.trans (hE4a.trans (hx5.trans (hx6.trans (hx7.trans (hx8.trans (hx9.trans hx10))))))
  have l1 := own_lt hox
  have l2 := own_lt hog
  have l3 := own_lt ho4a
  have s1 : (w.alloc (.cells #[.int .i64 d.a, .int .i64 d.i] 23)).heap.size ≤ w1.heap.size := hx1.size
  have s2 := hE4a.size
  have s3 := hx5.size
  have s4 := hx6.size
  have n1 : gx < w6.heap.size := by omega
  have n2 : g4a < gx := by omega
  have n3 : g4a < gg := by omega
  have n4 : (w.alloc (.cells #[.int .i64 d.a, .int .i64 d.i] 23)).heap.size ≤ gx := by omega
  have n5 : (w.alloc (.cells #[.int .i64 d.a, .int .i64 d.i] 23)).heap.size ≤ gg := by omega
  clear l1 l2 l3 s1 s2 s3 s4 hbs
  have N4 := Lib.hid n4; have N5 := Lib.hid n5; clear n4 n5
  go_wp2_with fail
  refine (markDueS_c _ _ _ _ l 1 _ hox10 hl'.out (by omega) (by omega) (by omega)).mono ?_
  rintro e w11 ⟨rfl, hom, hgm⟩
  have hog11 := only_own hgm hog10 (own_ne hog10 n1)
  have ho411 := only_own hgm ho410 (own_ne' n2)
  have Eb11 := Eb10.only hgm N4.out
  go_wp2_with fail
  refine (eqDueS_c _ _ _ _ _ (pushD l d) _ (Rd.of_own hog11) (Rd.of_own ho411)).mono ?_
  rintro e w12 ⟨rfl, hx12⟩
  go_wp2_with fail
  refine (markDueS_c _ _ _ _ (pushD l d) 1 _ (hx12.own hog11) hp'.out (by omega) (by omega) (by omega)).mono ?_
  rintro e w13 ⟨rfl, hom2, hgm2⟩
  have ho413 := only_own hgm2 (hx12.own ho411) (own_ne' n3)
  have Eb13 := (Eb11.trans hx12).only hgm2 N5.out
  go_wp2_with fail
  refine (heldDueS_c _ _ _ 1 _ (Rd.of_own hom2) (by omega) (by omega) (by omega)).mono ?_
  rintro e w14 ⟨rfl, hx14⟩
  have Eb14 := Eb13.trans hx14
  have h14 := h0.ext Eb14
  have k0 := Eb14.cell hb0
  have k1 := Eb14.cell hb1
  have hE14 : ∀ W, Ext w14 W → Ext w14 W ∧ W.cell? ⟨w.heap.size, 0, none⟩ = some (.int .i64 d.a) ∧ W.cell? ⟨w.heap.size, 1, none⟩ = some (.int .i64 d.i) := fun W hE => ⟨hE, hE.cell k0, hE.cell k1⟩
  have hE14' := Lib.hid hE14; clear hE14
  go_wp2_with fail
  go_region_held3 (fun w' => Ext w14 w' ∧ w'.cell? ⟨w.heap.size, 0, none⟩ = some (.int .i64 d.a) ∧ w'.cell? ⟨w.heap.size, 1, none⟩ = some (.int .i64 d.i))
    ((refine hE14'.out _ ?_; first | exact hE4b | exact hE3b | exact hE2b | (repeat (first | exact Ext.refl _ | refine Ext.alloc1 ?_ _ | refine Ext.drew1 ?_))))
    (first
      | (go_at_call 32; refine (toDueS_c _ _ _ l _ (h14.ext (Ext.drew _)) hl'.out hn).mono ?_; rintro e w2b ⟨g2b, c2b, rfl, ho2b, hx2b⟩; have hE2b := (Ext.drew w14).trans hx2b)
      | (go_at_call 26; refine (toDue_c d _).mono ?_; rintro e w3b ⟨rfl, hx3b⟩; have hE3b := hE2b.trans hx3b)
      | (go_at_call 39; refine (heapPush_yes _ _ _ l d _ ((Rd.of_own ho2b).ext hx3b) hl'.out hk1.out hk2.out hok3).mono ?_; rintro e w4b ⟨g4b, c4b, rfl, ho4b, hx4b⟩; have hE4b := hE3b.trans hx4b))
  go_wp2_with fail
  refine (eqDueS_c _ _ _ _ _ (pushD l d) _ (Rd.of_own ho4b) ((Rd.of_own ho413).ext (hx14.trans hE4b))).mono ?_
  rintro e w15 ⟨rfl, hx15⟩
  go_wp2_with fail
  refine (heldDueS_c _ _ _ 1 _ ((Rd.of_own hom2).ext (hx14.trans (hE4b.trans hx15))) (by omega) (by omega) (by omega)).mono ?_
  rintro e w16 ⟨rfl, hx16⟩
  go_wp2_with fail
  go_ret
  exact ⟨rfl, ha.trans (Eb14.trans (hE4b.trans (hx15.trans hx16)))⟩
end Go.Proofs.Ythmajaeekkbnnaa
