/-
  The program's HeapPush and the reference's give the same answer for all arguments; arguments and results share no memory. No condition.
-/
import Derived.Test.YthmajaeekkbnnaaHeapF
namespace Go.Proofs.Ythmajaeekkbnnaa
open Go Go.RowKit Go.ChangeShapes Go.WideShapes

theorem dueOf2 (n : Nat) : ∀ xs : List Value, xs.length = n * 2 → (∀ (j : Nat) (u : Value), xs[j]? = some u → isI64 u) → ∃ l : List Due, xs = dueCells l ∧ l.length = n := by
  induction n with
  | zero => intro xs h _; exact ⟨[], List.eq_nil_of_length_eq_zero (by simpa using h), rfl⟩
  | succ n ih =>
    intro xs h hi
    match xs, h with
    | [], h => simp at h
    | [_], h => simp at h; omega
    | a :: b :: xs, h =>
      obtain ⟨l, rfl, hl⟩ := ih xs (by simp at h; omega) (fun j u hu => hi (j + 2) u (by simpa using hu))
      obtain ⟨x, rfl, _⟩ := hi 0 a rfl
      obtain ⟨y, rfl, _⟩ := hi 1 b rfl
      exact ⟨⟨x, y⟩ :: l, by simp [dueCells], by simp [hl]⟩
theorem rd_nil (w : World) : Rd w 2 none 0 0 (dueCells []) := Rd.nil_ w 2
theorem heldDueS_nil (m : Int) (w : World) (hm0 : 0 ≤ m) (hm1 : m ≤ 1048576) : Calls Try.prog 41 #[.slice none 0 0, .int .i64 m] w fun e w' => e = .returned (.int .i64 m) ∧ Ext w w' :=
  (heldDueS_c none 0 0 m w (Rd.nil_ w 2) (by omega) hm0 hm1).mono fun _ _ hh => by simpa using hh
set_option maxRecDepth 100000 in
set_option maxHeartbeats 4000000 in
theorem lawHeapPush_no (A : Option Addr) (n cap : Nat) (l : List Due) (d : Due) (w : World) (h : Rd w 2 A n cap (dueCells l)) (hl : l.length = n) (hn : n ≤ 1048576) (hok : pushOkB l d = false) :
    Calls Try.prog 7 #[.slice A n cap, .agg d.cs] w fun e w' => e = .returned (.bool true) ∧ Ext w w' := by
  have hm : (n : Int) ≤ 9223372036854775807 := h.max
  have hl' := Lib.hid hl; clear hl
  have hno := Lib.hid hok; clear hok
  have ha := Ext.alloc_ w (.cells #[.int .i64 d.a, .int .i64 d.i] 23)
  have hb0 : (w.alloc (.cells #[.int .i64 d.a, .int .i64 d.i] 23)).cell? ⟨w.heap.size, 0, none⟩ = some (.int .i64 d.a) := by simp
  have hb1 : (w.alloc (.cells #[.int .i64 d.a, .int .i64 d.i] 23)).cell? ⟨w.heap.size, 1, none⟩ = some (.int .i64 d.i) := by simp
  have h0 := h.ext ha
  go_enter Try.func7, Try.ntmps7
  go_wp2_with fail
  refine (szDueS_yes _ _ _ _ hn).mono ?_
  rintro e w1 ⟨rfl, hx1⟩
  have h1 := h0.ext hx1
  have k0 := hx1.cell hb0
  have k1 := hx1.cell hb1
  have hE0 : ∀ W, Ext w1 W → Ext w1 W ∧ W.cell? ⟨w.heap.size, 0, none⟩ = some (.int .i64 d.a) ∧ W.cell? ⟨w.heap.size, 1, none⟩ = some (.int .i64 d.i) := fun W hE => ⟨hE, hE.cell k0, hE.cell k1⟩
  have hE0' := Lib.hid hE0; clear hE0
  go_wp2_with fail
  go_region_held3 (fun w' => Ext w1 w' ∧ w'.cell? ⟨w.heap.size, 0, none⟩ = some (.int .i64 d.a) ∧ w'.cell? ⟨w.heap.size, 1, none⟩ = some (.int .i64 d.i))
    ((refine hE0'.out _ ?_; first | exact hE4a | exact hE3a | exact hE2a | (repeat (first | exact Ext.refl _ | refine Ext.alloc1 ?_ _ | refine Ext.drew1 ?_))))
    (first
      | (go_at_call 32; refine (toDueS_c _ _ _ l _ (h1.ext (Ext.drew _)) hl'.out hn).mono ?_; rintro e w2a ⟨g2a, c2a, rfl, ho2a, hx2a⟩; have hE2a := (Ext.drew w1).trans hx2a)
      | (go_at_call 26; refine (toDue_c d _).mono ?_; rintro e w3a ⟨rfl, hx3a⟩; have hE3a := hE2a.trans hx3a)
      | (go_at_call 38; refine (sheapPush_no _ _ _ l d _ ((Rd.of_own ho2a).ext hx3a) hl'.out hno.out).mono ?_; rintro e w4a ⟨rfl, hx4a⟩; have hE4a := hE3a.trans hx4a))
  have h4 := h1.ext hE4a
  have k04 := hE4a.cell k0
  have k14 := hE4a.cell k1
  clear k0 k1
  go_wp2_with fail
  refine (toDueS_c _ _ _ l _ h4 hl'.out hn).mono ?_
  rintro e w5 ⟨gx, cx, rfl, hox, hx5⟩
  have k05 := hx5.cell k04
  have k15 := hx5.cell k14
  clear k04 k14
  go_wp2_with fail
  refine (toDue_c d _).mono ?_
  rintro e w6 ⟨rfl, hx6⟩
  clear k05 k15
  go_wp2_with fail
  refine (heapPush_no _ _ _ l d _ ((Rd.of_own hox).ext hx6) hl'.out hno.out).mono ?_
  rintro e w7 ⟨rfl, hx7⟩
  go_wp2_with fail
  refine (eqDueS_c none none 0 0 0 [] _ (rd_nil _) (rd_nil _)).mono ?_
  rintro e w8 ⟨rfl, hx8⟩
  have h8 := h4.ext (hx5.trans (hx6.trans (hx7.trans hx8)))
  go_wp2_with fail
  refine (toDueS_c _ _ _ l _ h8 hl'.out hn).mono ?_
  rintro e w9 ⟨gt, ct, rfl, hot, hx9⟩
  go_wp2_with fail
  refine (eqDueS_c _ _ _ _ _ l _ ((Rd.of_own hox).ext (hx6.trans (hx7.trans (hx8.trans hx9)))) (Rd.of_own hot)).mono ?_
  rintro e w10 ⟨rfl, hx10⟩
  have hox10 := (hx6.trans (hx7.trans (hx8.trans (hx9.trans hx10)))).own hox
  have Eb10 := hx1.trans (hE4a.trans (hx5.trans (hx6.trans (hx7.trans (hx8.trans (hx9.trans hx10))))))
  have l1 := own_lt hox
  have s1 : (w.alloc (.cells #[.int .i64 d.a, .int .i64 d.i] 23)).heap.size ≤ w1.heap.size := hx1.size
  have s2 := hE4a.size
  have n4 : (w.alloc (.cells #[.int .i64 d.a, .int .i64 d.i] 23)).heap.size ≤ gx := by omega
  clear l1 s1 s2
  have N4 := Lib.hid n4; clear n4
  go_wp2_with fail
  refine (markDueS_c _ _ _ _ l 1 _ hox10 hl'.out (by omega) (by omega) (by omega)).mono ?_
  rintro e w11 ⟨rfl, hom, hgm⟩
  have Eb11 := Eb10.only hgm N4.out
  go_wp2_with fail
  refine (eqDueS_c none none 0 0 0 [] _ (rd_nil _) (rd_nil _)).mono ?_
  rintro e w12 ⟨rfl, hx12⟩
  go_wp2_with fail
  refine (markDueS_nil 1 _).mono ?_
  rintro e w13 ⟨rfl, hx13⟩
  go_wp2_with fail
  refine (heldDueS_nil 1 _ (by omega) (by omega)).mono ?_
  rintro e w14 ⟨rfl, hx14⟩
  have Eb14 := Eb11.trans (hx12.trans (hx13.trans hx14))
  have h14 := h0.ext Eb14
  have k0 := Eb14.cell hb0
  have k1 := Eb14.cell hb1
  have hE14 : ∀ W, Ext w14 W → Ext w14 W ∧ W.cell? ⟨w.heap.size, 0, none⟩ = some (.int .i64 d.a) ∧ W.cell? ⟨w.heap.size, 1, none⟩ = some (.int .i64 d.i) := fun W hE => ⟨hE, hE.cell k0, hE.cell k1⟩
  have hE14' := Lib.hid hE14; clear hE14
  go_wp2_with fail
  go_region_held3 (fun w' => Ext w14 w' ∧ w'.cell? ⟨w.heap.size, 0, none⟩ = some (.int .i64 d.a) ∧ w'.cell? ⟨w.heap.size, 1, none⟩ = some (.int .i64 d.i))
    ((refine hE14'.out _ ?_; first | exact hE4b | exact hE3b | exact hE2b | (repeat (first | exact Ext.refl _ | refine Ext.alloc1 ?_ _ | refine Ext.drew1 ?_))))
    (first
      | (go_at_call 32; refine (toDueS_c _ _ _ l _ (h14.ext (Ext.drew _)) hl'.out hn).mono ?_; rintro e w2b ⟨g2b, c2b, rfl, ho2b, hx2b⟩; have hE2b := (Ext.drew w14).trans hx2b)
      | (go_at_call 26; refine (toDue_c d _).mono ?_; rintro e w3b ⟨rfl, hx3b⟩; have hE3b := hE2b.trans hx3b)
      | (go_at_call 39; refine (heapPush_no _ _ _ l d _ ((Rd.of_own ho2b).ext hx3b) hl'.out hno.out).mono ?_; rintro e w4b ⟨rfl, hx4b⟩; have hE4b := hE3b.trans hx4b))
  go_wp2_with fail
  refine (eqDueS_c none none 0 0 0 [] _ (rd_nil _) (rd_nil _)).mono ?_
  rintro e w15 ⟨rfl, hx15⟩
  go_wp2_with fail
  refine (heldDueS_nil 1 _ (by omega) (by omega)).mono ?_
  rintro e w16 ⟨rfl, hx16⟩
  go_wp2_with fail
  go_ret
  exact ⟨rfl, ha.trans (Eb14.trans (hE4b.trans (hx15.trans hx16)))⟩
set_option maxRecDepth 100000 in
theorem lawHeapPush_c (A : Option Addr) (n cap : Nat) (l : List Due) (d : Due) (w : World) (h : Rd w 2 A n cap (dueCells l)) (hl : l.length = n) :
    Calls Try.prog 7 #[.slice A n cap, .agg d.cs] w fun e w' => e = .returned (.bool true) ∧ Ext w w' := by
  by_cases hn : n ≤ 1048576
  · cases hok : pushOkB l d with
    | true => exact lawHeapPush_yes A n cap l d w h hl hn hok
    | false => exact lawHeapPush_no A n cap l d w h hl hn hok
  · have hm : (n : Int) ≤ 9223372036854775807 := h.max
    go_enter Try.func7, Try.ntmps7
    go_wp2_with fail
    refine (szDueS_no _ _ _ _ (by omega) hm).mono ?_
    rintro e w1 ⟨rfl, hx1⟩
    go_wp2_with fail
    go_ret
    exact ⟨rfl, (Ext.alloc_ _ _).trans hx1⟩
set_option maxRecDepth 100000 in
theorem lawHeapPush_lifted (os : Os) (started : os.Started) (H : Type) (enc : TypeId × Value → H) :
    ReturnsInHanded {} Try.checked os 7 .any (Rows.fnExactHeapPushSpec.pre6 enc Try.prog Try.f7 Rows.fnExactHeapPushRow.domain false) (Rows.fnExactHeapPushSpec.post enc Try.prog Try.f7 false true false false) := by
  refine returnsInHanded_of_change (C := Try.checked) own_ started (by kernel_rfl) Try.func7 (ChangeSpec.witness6 (enc := enc) (C := Try.checked) false ⟨#[], #[.slice none 0 0, .agg #[.int .i64 0, .int .i64 0]], []⟩ 8 (by kernel_rfl) (by kernel_rfl) (by kernel_rfl) (by kernel_rfl)) ?_
  intro W base args ds gs before hval0 hW _ _
  have hval : ∀ (j : Nat) t v, Try.f7.params[j]? = some t → args[j]? = some v → Value.okWide Try.prog W .any base t v := hval0
  have hW' : DataW.Whole enc Try.prog Try.f7.params.toList Rows.fnExactHeapPushSpec.vars false W args.toList ds gs before := hW
  obtain ⟨pp, qq, hA0, _, _, _, _⟩ := hW
  have hA : DataW.TrodAll enc Try.prog W 0 (fun _ => true) true Try.f7.params.toList args.toList ds pp := hA0
  rw [Try.params7] at hA hval
  obtain ⟨v0, vs0, d0, ds0, p0, q0, hargs, hds, _, h0, r0⟩ := trodAll_cons hA
  obtain ⟨v1, vs1, d1, ds1, p1, q1, hvs, hds0, _, h1, r1⟩ := trodAll_cons r0
  obtain ⟨hvs1, hds1, _⟩ := trodAll_nil r1
  have hds : ds = [d0, d1] := by rw [hds, hds0, hds1]
  obtain rfl : args = #[v0, v1] := by cases args; simp_all
  obtain ⟨A, n, cap, xs, rfl, hr, hi⟩ := open_ints_slice (m := 2) Try.underlying29 (by kernel_rfl) (by omega) (by kernel_rfl) (hval 0 _ v0 rfl rfl) h0
  obtain ⟨l, rfl, hl⟩ := dueOf2 n xs hr.1 hi
  obtain ⟨x', y', rfl⟩ := open_ints2 Try.underlying23 (by kernel_rfl) (by kernel_rfl) (hval 1 _ v1 rfl rfl) h1
  refine (lawHeapPush_c A n cap l ⟨x', y'⟩ W hr hl).mono fun e W' ⟨he, hb⟩ => ⟨_, he, ?_⟩
  exact law_post laid_ rfl rfl Try.underlying4 (by kernel_rfl) (by rw [hds]; rfl) hW' hb
theorem lawHeapPush_closed : joinedFacts Try.prog 7 Try.f7 Rows.fnExactHeapPushSpec Rows.fnExactHeapPushRow = true := by
  unfold joinedFacts
  repeat refine Bool.and_eq_true_iff.2 ⟨?_, ?_⟩
  all_goals first
    | with_reducible exact fc_mayEnter
    | with_reducible exact fc_lifts _ rfl
    | with_reducible exact fc_make _ rfl
    | with_reducible exact laid_
    | with_reducible exact fc_maps
    | with_reducible exact fc_heard
    | as_aux_lemma => kernel_rfl
theorem lawHeapPush_holds : Rows.FnExactHeapPushSaid :=
  OpenClaim.holds_of_wide 7 Try.f7 rfl rfl rfl rfl rfl rfl rfl ⟨rfl, rfl, rfl, rfl, rfl⟩ rfl rfl rfl rfl rfl (by as_aux_lemma => kernel_rfl) Try.func7 lawHeapPush_closed
    (of_decide_eq_true (by as_aux_lemma => kernel_rfl)) (by unfold Func.isWrapper; rw [if_neg (of_decide_eq_false (by as_aux_lemma => kernel_rfl))]; exact ⟨rfl, rfl⟩)
    (fun os started H enc _ => lawHeapPush_lifted os started H enc)
end Go.Proofs.Ythmajaeekkbnnaa
