/-
  The program's HeapOf and the reference's give the same answer for all arguments; arguments and results share no memory. No condition.
-/
import Derived.Test.YthmajaeekkbnnaaHeapG
import Derived.Test.YthmajaeekkbnnaaLawC
namespace Go.Proofs.Ythmajaeekkbnnaa
open Go Go.RowKit Go.ChangeShapes Go.WideShapes

theorem ofTo_length (l : List Due) : ∀ (k : Nat) (R : List Due), k ≤ l.length → ofTo l k = some R → R.length = k := by
  intro k
  induction k with
  | zero => intro R _ h; simp [ofTo] at h; subst h; rfl
  | succ k ih =>
    intro R hk h
    rw [ofTo_succ l k (by omega)] at h
    cases hS : ofTo l k with
    | none => rw [hS] at h; simp [ofStep] at h
    | some S =>
      rw [hS] at h
      simp only [ofStep, Option.bind_some] at h
      split at h
      · injection h with h
        subst h
        rw [pushD_length, ih S (by omega) hS]
      · cases h
set_option maxRecDepth 100000 in
set_option maxHeartbeats 4000000 in
theorem lawHeapOf_yes (A : Option Addr) (n cap : Nat) (l R : List Due) (w : World) (h : Rd w 2 A n cap (dueCells l)) (hl : l.length = n) (hn : n ≤ 1048576) (hR : ofTo l l.length = some R) :
    Calls Try.prog 8 #[.slice A n cap] w fun e w' => e = .returned (.bool true) ∧ Ext w w' := by
  have hrl : R.length ≤ 1048576 := by have := ofTo_length l l.length R (Nat.le_refl _) hR; omega
  have hR' := Lib.hid hR; clear hR
  have hm : (n : Int) ≤ 9223372036854775807 := h.max
  have hl' := Lib.hid hl; clear hl
  go_enter Try.func8, Try.ntmps8
  go_wp2_with fail
  refine (szDueS_yes _ _ _ _ hn).mono ?_
  rintro e w1 ⟨rfl, hx1⟩
  have h1 := h.ext hx1
  go_wp2_with fail
  refine (toDueS_c _ _ _ l _ h1 hl'.out hn).mono ?_
  rintro e w2 ⟨g2, c2, rfl, ho2, hx2⟩
  go_wp2_with fail
  refine (sheapOf_yes _ _ _ l R _ (Rd.of_own ho2) hl'.out hR'.out).mono ?_
  rintro e w4 ⟨g4, c4, rfl, ho4, hx4⟩
  have h4 := h1.ext (hx2.trans hx4)
  go_wp2_with fail
  refine (toDueS_c _ _ _ l _ h4 hl'.out hn).mono ?_
  rintro e w5 ⟨gx, cx, rfl, hox, hx5⟩
  go_wp2_with fail
  refine (heapOf_yes _ _ _ l R _ (Rd.of_own hox) hl'.out hR'.out).mono ?_
  rintro e w7 ⟨gg, cg, rfl, hog, hx7⟩
  go_wp2_with fail
  refine (eqDueS_c _ _ _ _ _ R _ (Rd.of_own hog) ((Rd.of_own ho4).ext (hx5.trans hx7))).mono ?_
  rintro e w8 ⟨rfl, hx8⟩
  have h8 := h4.ext (hx5.trans (hx7.trans hx8))
  go_wp2_with fail
  refine (toDueS_c _ _ _ l _ h8 hl'.out hn).mono ?_
  rintro e w9 ⟨gt, ct, rfl, hot, hx9⟩
  go_wp2_with fail
  refine (eqDueS_c _ _ _ _ _ l _ ((Rd.of_own hox).ext (hx7.trans (hx8.trans hx9))) (Rd.of_own hot)).mono ?_
  rintro e w10 ⟨rfl, hx10⟩
  have hox10 := (hx7.trans (hx8.trans (hx9.trans hx10))).own hox
  have hog10 := (hx8.trans (hx9.trans hx10)).own hog
  have ho410 := (hx5.trans (hx7.trans (hx8.trans (hx9.trans hx10)))).own ho4
  have Eb10 := hx1.trans (hx2.trans (hx4.trans (hx5.trans (hx7.trans (hx8.trans (hx9.trans hx10))))))
  have l1 := own_lt hox
  have l2 := own_lt hog
  have l3 := own_lt ho4
  have s1 := hx1.size
  have s2 := hx2.size
  have s3 := hx4.size
  have s4 := hx5.size
  have n1 : gx < w5.heap.size := by omega
  have n2 : g4 < gx := by omega
  have n3 : g4 < gg := by omega
  have n4 : w.heap.size ≤ gx := by omega
  have n5 : w.heap.size ≤ gg := by omega
  clear l1 l2 l3 s1 s2 s3 s4
  have N4 := Lib.hid n4; have N5 := Lib.hid n5; clear n4 n5
  go_wp2_with fail
  refine (markDueS_c _ _ _ _ l 1 _ hox10 hl'.out (by omega) (by omega) (by omega)).mono ?_
  rintro e w11 ⟨rfl, hom, hgm⟩
  have hog11 := only_own hgm hog10 (own_ne hog10 n1)
  have ho411 := only_own hgm ho410 (own_ne' n2)
  have Eb11 := Eb10.only hgm N4.out
  go_wp2_with fail
  refine (eqDueS_c _ _ _ _ _ R _ (Rd.of_own hog11) (Rd.of_own ho411)).mono ?_
  rintro e w12 ⟨rfl, hx12⟩
  go_wp2_with fail
  refine (markDueS_c _ _ _ _ R 1 _ (hx12.own hog11) rfl (by omega) (by omega) (by omega)).mono ?_
  rintro e w13 ⟨rfl, hom2, hgm2⟩
  have ho413 := only_own hgm2 (hx12.own ho411) (own_ne' n3)
  have Eb13 := (Eb11.trans hx12).only hgm2 N5.out
  go_wp2_with fail
  refine (heldDueS_c _ _ _ 1 _ (Rd.of_own hom2) (by omega) (by omega) (by omega)).mono ?_
  rintro e w14 ⟨rfl, hx14⟩
  have Eb14 := Eb13.trans hx14
  have h14 := h.ext Eb14
  go_wp2_with fail
  refine (toDueS_c _ _ _ l _ h14 hl'.out hn).mono ?_
  rintro e w15 ⟨gy, cy, rfl, hoy, hx15⟩
  go_wp2_with fail
  refine (heapOf_yes _ _ _ l R _ (Rd.of_own hoy) hl'.out hR'.out).mono ?_
  rintro e w16 ⟨gh, ch, rfl, hoh, hx16⟩
  go_wp2_with fail
  refine (eqDueS_c _ _ _ _ _ R _ (Rd.of_own hoh) ((Rd.of_own ho413).ext (hx14.trans (hx15.trans hx16)))).mono ?_
  rintro e w17 ⟨rfl, hx17⟩
  go_wp2_with fail
  refine (heldDueS_c _ _ _ 1 _ ((Rd.of_own hom2).ext (hx14.trans (hx15.trans (hx16.trans hx17)))) (by omega) (by omega) (by omega)).mono ?_
  rintro e w18 ⟨rfl, hx18⟩
  go_wp2_with fail
  go_ret
  exact ⟨rfl, Eb14.trans (hx15.trans (hx16.trans (hx17.trans hx18)))⟩
set_option maxRecDepth 100000 in
set_option maxHeartbeats 4000000 in
theorem lawHeapOf_no (A : Option Addr) (n cap : Nat) (l : List Due) (w : World) (h : Rd w 2 A n cap (dueCells l)) (hl : l.length = n) (hn : n ≤ 1048576) (hR : ofTo l l.length = none) :
    Calls Try.prog 8 #[.slice A n cap] w fun e w' => e = .returned (.bool true) ∧ Ext w w' := by
  have hR' := Lib.hid hR; clear hR
  have hm : (n : Int) ≤ 9223372036854775807 := h.max
  have hl' := Lib.hid hl; clear hl
  go_enter Try.func8, Try.ntmps8
  go_wp2_with fail
  refine (szDueS_yes _ _ _ _ hn).mono ?_
  rintro e w1 ⟨rfl, hx1⟩
  have h1 := h.ext hx1
  go_wp2_with fail
  refine (toDueS_c _ _ _ l _ h1 hl'.out hn).mono ?_
  rintro e w2 ⟨g2, c2, rfl, ho2, hx2⟩
  go_wp2_with fail
  refine (sheapOf_no _ _ _ l _ (Rd.of_own ho2) hl'.out hR'.out).mono ?_
  rintro e w4 ⟨rfl, hx4⟩
  have h4 := h1.ext (hx2.trans hx4)
  go_wp2_with fail
  refine (toDueS_c _ _ _ l _ h4 hl'.out hn).mono ?_
  rintro e w5 ⟨gx, cx, rfl, hox, hx5⟩
  go_wp2_with fail
  refine (heapOf_no _ _ _ l _ (Rd.of_own hox) hl'.out hR'.out).mono ?_
  rintro e w7 ⟨rfl, hx7⟩
  go_wp2_with fail
  refine (eqDueS_c none none 0 0 0 [] _ (rd_nil _) (rd_nil _)).mono ?_
  rintro e w8 ⟨rfl, hx8⟩
  have h8 := h4.ext (hx5.trans (hx7.trans hx8))
  go_wp2_with fail
  refine (toDueS_c _ _ _ l _ h8 hl'.out hn).mono ?_
  rintro e w9 ⟨gt, ct, rfl, hot, hx9⟩
  go_wp2_with fail
  refine (eqDueS_c _ _ _ _ _ l _ ((Rd.of_own hox).ext (hx7.trans (hx8.trans hx9))) (Rd.of_own hot)).mono ?_
  rintro e w10 ⟨rfl, hx10⟩
  have hox10 := (hx7.trans (hx8.trans (hx9.trans hx10))).own hox
  have Eb10 := hx1.trans (hx2.trans (hx4.trans (hx5.trans (hx7.trans (hx8.trans (hx9.trans hx10))))))
  have l1 := own_lt hox
  have s1 := hx1.size
  have s2 := hx2.size
  have s3 := hx4.size
  have n4 : w.heap.size ≤ gx := by omega
  clear l1 s1 s2 s3
  have N4 := Lib.hid n4; clear n4
  go_wp2_with fail
  refine (markDueS_c _ _ _ _ l 1 _ hox10 hl'.out (by omega) (by omega) (by omega)).mono ?_
  rintro e w11 ⟨rfl, hom, hgm⟩
  have Eb11 := Eb10.only hgm N4.out
  go_wp2_with fail
  refine (eqDueS_c none none 0 0 0 [] _ (rd_nil _) (rd_nil _)).mono ?_
  rintro e w12 ⟨rfl, hx12⟩
  go_wp2_with fail
  refine (markDueS_nil 1 _).mono ?_
  rintro e w13 ⟨rfl, hx13⟩
  go_wp2_with fail
  refine (heldDueS_nil 1 _ (by omega) (by omega)).mono ?_
  rintro e w14 ⟨rfl, hx14⟩
  have Eb14 := Eb11.trans (hx12.trans (hx13.trans hx14))
  have h14 := h.ext Eb14
  go_wp2_with fail
  refine (toDueS_c _ _ _ l _ h14 hl'.out hn).mono ?_
  rintro e w15 ⟨gy, cy, rfl, hoy, hx15⟩
  go_wp2_with fail
  refine (heapOf_no _ _ _ l _ (Rd.of_own hoy) hl'.out hR'.out).mono ?_
  rintro e w16 ⟨rfl, hx16⟩
  go_wp2_with fail
  refine (eqDueS_c none none 0 0 0 [] _ (rd_nil _) (rd_nil _)).mono ?_
  rintro e w17 ⟨rfl, hx17⟩
  go_wp2_with fail
  refine (heldDueS_nil 1 _ (by omega) (by omega)).mono ?_
  rintro e w18 ⟨rfl, hx18⟩
  go_wp2_with fail
  go_ret
  exact ⟨rfl, Eb14.trans (hx15.trans (hx16.trans (hx17.trans hx18)))⟩
set_option maxRecDepth 100000 in
theorem lawHeapOf_c (A : Option Addr) (n cap : Nat) (l : List Due) (w : World) (h : Rd w 2 A n cap (dueCells l)) (hl : l.length = n) :
    Calls Try.prog 8 #[.slice A n cap] w fun e w' => e = .returned (.bool true) ∧ Ext w w' := by
  by_cases hn : n ≤ 1048576
  · cases hok : ofTo l l.length with
    | some R => exact lawHeapOf_yes A n cap l R w h hl hn hok
    | none => exact lawHeapOf_no A n cap l w h hl hn hok
  · have hm : (n : Int) ≤ 9223372036854775807 := h.max
    go_enter Try.func8, Try.ntmps8
    go_wp2_with fail
    refine (szDueS_no _ _ _ _ (by omega) hm).mono ?_
    rintro e w1 ⟨rfl, hx1⟩
    go_wp2_with fail
    go_ret
    exact ⟨rfl, hx1⟩
set_option maxRecDepth 100000 in
theorem lawHeapOf_lifted (os : Os) (started : os.Started) (H : Type) (enc : TypeId × Value → H) :
    ReturnsInHanded {} Try.checked os 8 .any (Rows.fnExactHeapOfSpec.pre6 enc Try.prog Try.f8 Rows.fnExactHeapOfRow.domain false) (Rows.fnExactHeapOfSpec.post enc Try.prog Try.f8 false true false false) := by
  refine returnsInHanded_of_change (C := Try.checked) own_ started (by kernel_rfl) Try.func8 (ChangeSpec.witness6 (enc := enc) (C := Try.checked) false ⟨#[], #[.slice none 0 0], []⟩ 8 (by kernel_rfl) (by kernel_rfl) (by kernel_rfl) (by kernel_rfl)) ?_
  intro W base args ds gs before hval0 hW _ _
  have hval : ∀ (j : Nat) t v, Try.f8.params[j]? = some t → args[j]? = some v → Value.okWide Try.prog W .any base t v := hval0
  have hW' : DataW.Whole enc Try.prog Try.f8.params.toList Rows.fnExactHeapOfSpec.vars false W args.toList ds gs before := hW
  obtain ⟨pp, qq, hA0, _, _, _, _⟩ := hW
  have hA : DataW.TrodAll enc Try.prog W 0 (fun _ => true) true Try.f8.params.toList args.toList ds pp := hA0
  rw [Try.params8] at hA hval
  obtain ⟨v0, vs0, d0, ds0, p0, q0, hargs, hds, _, h0, r0⟩ := trodAll_cons hA
  obtain ⟨hvs, hds0, _⟩ := trodAll_nil r0
  have hds : ds = [d0] := by rw [hds, hds0]
  obtain rfl : args = #[v0] := by cases args; simp_all
  obtain ⟨A, n, cap, xs, rfl, hr, hi⟩ := open_ints_slice (m := 2) Try.underlying29 (by kernel_rfl) (by omega) (by kernel_rfl) (hval 0 _ v0 rfl rfl) h0
  obtain ⟨l, rfl, hl⟩ := dueOf2 n xs hr.1 hi
  refine (lawHeapOf_c A n cap l W hr hl).mono fun e W' ⟨he, hb⟩ => ⟨_, he, ?_⟩
  exact law_post laid_ rfl rfl Try.underlying4 (by kernel_rfl) (by rw [hds]; rfl) hW' hb
theorem lawHeapOf_closed : joinedFacts Try.prog 8 Try.f8 Rows.fnExactHeapOfSpec Rows.fnExactHeapOfRow = true := by
  unfold joinedFacts
  repeat refine Bool.and_eq_true_iff.2 ⟨?_, ?_⟩
  all_goals first
    | with_reducible exact fc_mayEnter
    | with_reducible exact fc_lifts _ rfl
    | with_reducible exact fc_make _ rfl
    | with_reducible exact laid_
    | with_reducible exact fc_maps
    | with_reducible exact fc_heard
    | as_aux_lemma => kernel_rfl
theorem lawHeapOf_holds : Rows.FnExactHeapOfSaid :=
  OpenClaim.holds_of_wide 8 Try.f8 rfl rfl rfl rfl rfl rfl rfl ⟨rfl, rfl, rfl, rfl, rfl⟩ rfl rfl rfl rfl rfl (by as_aux_lemma => kernel_rfl) Try.func8 lawHeapOf_closed
    (of_decide_eq_true (by as_aux_lemma => kernel_rfl)) (by unfold Func.isWrapper; rw [if_neg (of_decide_eq_false (by as_aux_lemma => kernel_rfl))]; exact ⟨rfl, rfl⟩)
    (fun os started H enc _ => lawHeapOf_lifted os started H enc)
end Go.Proofs.Ythmajaeekkbnnaa
