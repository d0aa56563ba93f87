/-
  The plan, both.
-/
import Derived.Test.YtliopiphobopjaaGreatKShL
import Derived.Test.YtliopiphobopjaaGreatKB16
import Derived.Test.YtliopiphobopjaaGreatKB14
import Derived.Test.YtliopiphobopjaaGreatKB19
import Derived.Test.YtliopiphobopjaaGreatKGlA
set_option maxRecDepth 100000
set_option maxHeartbeats 16000000
namespace Go.Proofs.YtliopiphobopjaaGreat
open Go Go.RowKit
attribute [local irreducible] AWp OpsOk OpOk ACalls ChA QsOk MCalls NCalls EnC PY

theorem plan_s {r : Room} {now depth : Int} {l : List Job} (hr : RoomOk r) (hq : QueueP l) (hnw : 0 ≤ now ∧ now ≤ 1000000000) (hd : 0 ≤ depth ∧ depth ≤ 60) : DC Tryz.prog 115 [roomA r, .d (.n .i64 now), .d (.sl (jobE l)), .d (.n .i64 depth)] [.d (.sl (heldE (planF r now depth (ordJ l)).2.1)), .d (.sl (heldE (planF r now depth (ordJ l)).2.2)), .d (.b true)] := by
  rw [ordJ_ins hq.uni]
  refine mcalls_of tt Tryz.func115 rfl rfl rfl trivial (fun _ _ => ⟨trivial, trivial⟩) (fun w0 Z O => ?_)
  have hql := hq.len
  have c1 := roomOk_s hr
  have c2 := queueOk_s (l := l) (by omega)
  rw [show queueOkB l = true from pB_t.2 hq] at c2
  have c3 := time_s (x := now)
  rw [show inB now 0 1000000000 = true from inB_t.mpr hnw] at c3
  have c4 := order_s hq
  have hjm : ∀ x ∈ insL l, jobOkB x = true := fun x hx => hq.ok x ((insL_perm l).mem_iff.1 hx)
  have hjl := insL_len l
  generalize insL l = js at c4 hjm hjl ⊢
  have hle := jobE_length js
  repeat' (first|refine zst ?_|(refine zhm fun hb=>?_;try exact zab)|refine zg2 ?_ ?_|refine zln fun _=>?_|refine zop ?_|refine kc (c1) rfl rfl ?_|refine kc (c2) rfl rfl ?_|refine kc (c3) rfl rfl ?_|(refine km [] (c4) rfl rfl (fun i hi => ?_);(try dsimp only at hi))|fail)
  refine awp_shal 41 rfl ?_
  refine awp_shal 42 rfl ?_
  refine awp_loop (fun (i : Nat) => ⟨104, [(1, .d (.n .i64 now)), (3, .d (.n .i64 depth)), (4, .ptr 4 0), (11, .row 41), (12, .row 42), (44, .d (.sl (jobE js))), (45, .d (.n .i64 (js.length : Nat))), (46, .d (.n .i64 i))], [(4, .box 152 (roomC (planF r now depth (js.take i)).1)), (41, .row 159 (heldE (planF r now depth (js.take i)).2.1) false), (42, .row 159 (heldE (planF r now depth (js.take i)).2.2) false)]⟩) (fun i => i ≤ js.length) (fun i => js.length - i) 0 (by exact Nat.zero_le _) ?_ ?_
  · refine ⟨rfl, ?_, ?_, rfl⟩
    repeat'(first|apply And.intro|exact ze0|refine ze1 ?_|refine zei ?_ ?_|exact rfl|trivial)
    all_goals exact Stop.mk (by first | rfl | exact hle)
  intro n hi
  have hI := planI (r := r) (now := now) (depth := depth) (l := js) hr n hi
  by_cases hi' : n < js.length
  · have hst := planF_step (r := r) (now := now) (depth := depth) hi'
    have hj := hjm _ (nth_mem hi')
    generalize planF r now depth (js.take n) = q at hI hst ⊢
    have hl1 := heldE_length q.2.1
    have hl2 := heldE_length q.2.2
    have hlq := hI.len
    rw [List.length_take] at hlq
    unfold planS at hst
    cases he : earO q.1 (nth js n) now with
    | none =>
      have c5 := earliest_s (j := nth js n) (a := now) hI.room hj hnw
      rw [he] at c5 hst
      dsimp only at hst
      repeat' (first|refine zst ?_|(refine zhm fun hb=>?_;try exact zab)|refine zg2 ?_ ?_|refine zln fun _=>?_|refine zop ?_|(refine km [] (c5) rfl rfl (fun i hi => ?_);(try dsimp only at hi))|fail)
      refine ⟨n + 1, by omega, by omega, ?_⟩
      refine ⟨rfl, ?_, ?_, rfl⟩
      repeat'(first|apply And.intro|exact ze0|refine ze1 ?_|refine zei ?_ ?_|exact rfl|trivial)
      all_goals exact Stop.mk (by first | rfl | rw [hst])
    | some x =>
      have c5 : DC Tryz.prog 194 [roomA q.1, jobA (nth js n), .d (.n .i64 now)] [.d (.n .i64 x.1), .d (.sl (intE x.2)), .d (.b true)] := by
        have h := earliest_s (j := nth js n) (a := now) hI.room hj hnw
        rw [he] at h
        exact h
      obtain ⟨hx1, hx2⟩ := earO_some hI.room hj hnw he
      rw [he] at hst
      dsimp only at hst
      by_cases hc : now < x.1 ∧ depth ≤ q.2.2.length
      · rw [if_pos hc] at hst
        obtain ⟨hc1, hc2⟩ := hc
        repeat' (first|refine zst ?_|(refine zhm fun hb=>?_;try exact zab)|refine zg2 ?_ ?_|refine zln fun _=>?_|refine zop ?_|(refine km [] (c5) rfl rfl (fun i hi => ?_);(try dsimp only at hi))|fail)
        refine ⟨n + 1, by omega, by omega, ?_⟩
        refine ⟨rfl, ?_, ?_, rfl⟩
        repeat'(first|apply And.intro|exact ze0|refine ze1 ?_|refine zei ?_ ?_|exact rfl|trivial)
        all_goals exact Stop.mk (by first | rfl | rw [hst])
      · rw [if_neg hc] at hst
        have c6 := reserve_s (j := nth js n) (a := x.1) (l := x.2) hI.room (by omega) (by omega)
        cases hr' : resO q.1 (nth js n) x.1 (x.1 + (nth js n).wall) x.2 with
        | none =>
          rw [hr'] at c6 hst
          dsimp only at hst
          repeat' (first|refine zst ?_|(refine zhm fun hb=>?_;try exact zab)|refine zg2 ?_ ?_|refine zln fun _=>?_|refine zop ?_|(refine km [] (c5) rfl rfl (fun i hi => ?_);(try dsimp only at hi))|(refine km [] (c6) rfl rfl (fun i hi => ?_);(try dsimp only at hi))|fail)
          all_goals first
            | (exfalso; omega)
            | (refine ⟨n + 1, by omega, by omega, ?_⟩
               refine ⟨rfl, ?_, ?_, rfl⟩
               repeat'(first|apply And.intro|exact ze0|refine ze1 ?_|refine zei ?_ ?_|exact rfl|trivial)
               all_goals exact Stop.mk (by first | rfl | rw [hst]))
        | some r' =>
          rw [hr'] at c6 hst
          dsimp only at hst
          by_cases ht : x.1 = now
          · rw [if_pos ht] at hst
            repeat' (first|refine zst ?_|(refine zhm fun hb=>?_;try exact zab)|refine zg2 ?_ ?_|(apply op_id;first|(fail))|refine zln fun _=>?_|refine zop ?_|(refine km [] (c5) rfl rfl (fun i hi => ?_);(try dsimp only at hi))|(refine km [] (c6) rfl rfl (fun i hi => ?_);(try dsimp only at hi))|fail)
            all_goals first
              | (exfalso; omega)
              | (refine ⟨n + 1, by omega, by omega, ?_⟩
                 refine ⟨rfl, ?_, ?_, rfl⟩
                 repeat'(first|apply And.intro|exact ze0|refine ze1 ?_|refine zei ?_ ?_|exact rfl|trivial)
                 all_goals exact Stop.mk (by first | rfl | (rw [hst]; exact heldE_push _ ⟨_, _, _⟩) | (rw [hst]; done) | (rw [hst]; rfl)))
          · rw [if_neg ht] at hst
            repeat' (first|refine zst ?_|(refine zhm fun hb=>?_;try exact zab)|refine zg2 ?_ ?_|(apply op_id;first|(fail))|refine zln fun _=>?_|refine zop ?_|(refine km [] (c5) rfl rfl (fun i hi => ?_);(try dsimp only at hi))|(refine km [] (c6) rfl rfl (fun i hi => ?_);(try dsimp only at hi))|fail)
            all_goals first
              | (exfalso; omega)
              | (refine ⟨n + 1, by omega, by omega, ?_⟩
                 refine ⟨rfl, ?_, ?_, rfl⟩
                 repeat'(first|apply And.intro|exact ze0|refine ze1 ?_|refine zei ?_ ?_|exact rfl|trivial)
                 all_goals exact Stop.mk (by first | rfl | (rw [hst]; exact heldE_push _ ⟨_, _, _⟩) | (rw [hst]; done) | (rw [hst]; rfl)))
  · obtain rfl : n = js.length := by omega
    rw [List.take_length] at *
    repeat' (first|refine zsr ?_|(refine zhm fun hb=>?_;try exact zab)|refine zg2 ?_ ?_|refine zln fun _=>?_|refine zop ?_|fail)
    show AWp _ _ _ _
    refine awp_frz 41 rfl ?_
    show AWp _ _ _ _
    refine awp_frz 42 rfl ?_
    refine awp_dena ?_
    apply awp_ret'
    exact zm () [] trivial zae zae zae
theorem plan_m {r : Room} {now depth : Int} {l : List Job} (hr : RoomOk r) (hq : QueueP l) (hnw : 0 ≤ now ∧ now ≤ 1000000000) (hd : 0 ≤ depth ∧ depth ≤ 60) : MCalls Tryz.prog 117 [roomA r, .d (.n .i64 now), .d (.sl (jobE l)), .d (.n .i64 depth)] [] (fun _ : Unit => True) (fun _ => [.row 0, .row 1, .d (.b true)]) (fun _ => []) (fun _ => [(0, .row 159 (heldE (planF r now depth (ordJ l)).2.1) true), (1, .row 159 (heldE (planF r now depth (ordJ l)).2.2) true)]) := by
  refine mcalls_of tt Tryz.func117 rfl rfl rfl trivial (fun _ _ => ⟨trivial, trivial⟩) (fun w0 Z O => ?_)
  have hql := hq.len
  have c1 := roomOk_e hr
  have c2 := queueOk_e (l := l) (by omega)
  rw [show queueOkB l = true from pB_t.2 hq] at c2
  have c3 := isTime_c2 (x := now)
  rw [show inB now 0 1000000000 = true from inB_t.mpr hnw] at c3
  have c4 := order_e hq
  have hjm : ∀ x ∈ ordJ l, jobOkB x = true := fun x hx => hq.ok x (mem_ordJ.1 hx)
  have hjl := ordJ_length l
  generalize ordJ l = js at c4 hjm hjl ⊢
  have hle := jobE_length js
  repeat' (first|refine zst ?_|(refine zhm fun hb=>?_;try exact zab)|refine zg2 ?_ ?_|refine zln fun _=>?_|refine zop ?_|refine kc (c1) rfl rfl ?_|refine kc (c2) rfl rfl ?_|refine kc (c3) rfl rfl ?_|refine kc (within_c) rfl rfl ?_|(refine km [] (c4) rfl rfl (fun i hi => ?_);(try dsimp only at hi))|fail)
  refine awp_loop (fun (i : Nat) => ⟨99, [(1, .d (.n .i64 now)), (3, .d (.n .i64 depth)), (4, .ptr 4 0), (11, .row 39), (12, .row 40), (42, .d (.sl (jobE js))), (43, .d (.n .i64 (js.length : Nat))), (44, .d (.n .i64 i))], [(4, .box 152 (roomC (planF r now depth (js.take i)).1)), (39, .row 159 (heldE (planF r now depth (js.take i)).2.1) true), (40, .row 159 (heldE (planF r now depth (js.take i)).2.2) true)]⟩) (fun i => i ≤ js.length) (fun i => js.length - i) 0 (by exact Nat.zero_le _) ?_ ?_
  · refine ⟨rfl, ?_, ?_, rfl⟩
    repeat'(first|apply And.intro|exact ze0|refine ze1 ?_|refine zei ?_ ?_|exact rfl|trivial)
    all_goals exact Stop.mk (by first | rfl | exact hle)
  intro n hi
  have hI := planI (r := r) (now := now) (depth := depth) (l := js) hr n hi
  by_cases hi' : n < js.length
  · have hst := planF_step (r := r) (now := now) (depth := depth) hi'
    have hj := hjm _ (nth_mem hi')
    generalize planF r now depth (js.take n) = q at hI hst ⊢
    have hl1 := heldE_length q.2.1
    have hl2 := heldE_length q.2.2
    have hlq := hI.len
    rw [List.length_take] at hlq
    unfold planS at hst
    have c5 := earliest_r (j := nth js n) (a := now) hI.room hj hnw
    cases he : earO q.1 (nth js n) now with
    | none =>
      rw [he] at c5 hst
      dsimp only at hst
      repeat' (first|refine zst ?_|(refine zhm fun hb=>?_;try exact zab)|refine zg2 ?_ ?_|refine zln fun _=>?_|refine zop ?_|(refine km [] (c5) rfl rfl (fun i hi => ?_);(try dsimp only at hi))|fail)
      refine ⟨n + 1, by omega, by omega, ?_⟩
      refine ⟨rfl, ?_, ?_, rfl⟩
      repeat'(first|apply And.intro|exact ze0|refine ze1 ?_|refine zei ?_ ?_|exact rfl|trivial)
      all_goals exact Stop.mk (by first | rfl | rw [hst])
    | some x =>
      rw [he] at c5
      obtain ⟨hx1, hx2⟩ := earO_some hI.room hj hnw he
      rw [he] at hst
      dsimp only at hst
      by_cases hc : now < x.1 ∧ depth ≤ q.2.2.length
      · rw [if_pos hc] at hst
        obtain ⟨hc1, hc2⟩ := hc
        repeat' (first|refine zst ?_|(refine zhm fun hb=>?_;try exact zab)|refine zg2 ?_ ?_|refine zln fun _=>?_|refine zop ?_|(refine km [] (c5) rfl rfl (fun i hi => ?_);(try dsimp only at hi))|fail)
        refine ⟨n + 1, by omega, by omega, ?_⟩
        refine ⟨rfl, ?_, ?_, rfl⟩
        repeat'(first|apply And.intro|exact ze0|refine ze1 ?_|refine zei ?_ ?_|exact rfl|trivial)
        all_goals exact Stop.mk (by first | rfl | rw [hst])
      · rw [if_neg hc] at hst
        have c6 := reserve_h (j := nth js n) (a := x.1) (l := x.2) hI.room hj (by omega) (by omega)
        cases hr' : resO q.1 (nth js n) x.1 (x.1 + (nth js n).wall) x.2 with
        | none =>
          rw [hr'] at c6 hst
          dsimp only at hst
          repeat' (first|refine zst ?_|(refine zhm fun hb=>?_;try exact zab)|refine zg2 ?_ ?_|refine zln fun _=>?_|refine zop ?_|(refine km [] (c5) rfl rfl (fun i hi => ?_);(try dsimp only at hi))|(refine km [52] (c6) rfl rfl (fun i hi => ?_);(try dsimp only at hi))|fail)
          all_goals first
            | (exfalso; omega)
            | (refine ⟨n + 1, by omega, by omega, ?_⟩
               refine ⟨rfl, ?_, ?_, rfl⟩
               repeat'(first|apply And.intro|exact ze0|refine ze1 ?_|refine zei ?_ ?_|exact rfl|trivial)
               all_goals exact Stop.mk (by first | rfl | rw [hst]))
        | some r' =>
          rw [hr'] at c6 hst
          dsimp only at hst
          by_cases ht : x.1 = now
          · rw [if_pos ht] at hst
            repeat' (first|refine zst ?_|(refine zhm fun hb=>?_;try exact zab)|refine zg2 ?_ ?_|(apply op_id;first|(refine st_litA rfl rfl rfl ⟨rfl, rfl, rfl⟩ rfl rfl rfl rfl rfl rfl rfl rfl (flatE_map fun _ => rfl) rfl rfl rfl rfl rfl ?_)|(refine st_appendA rfl rfl rfl rfl rfl rfl rfl rfl ⟨rfl, rfl, rfl⟩ (heldE_length _) (rfl : _ = 1) (by omega) rfl rfl ?_))|refine zln fun _=>?_|refine zop ?_|(refine km [] (c5) rfl rfl (fun i hi => ?_);(try dsimp only at hi))|(refine km [52] (c6) rfl rfl (fun i hi => ?_);(try dsimp only at hi))|fail)
            all_goals first
              | (exfalso; omega)
              | (refine ⟨n + 1, by omega, by omega, ?_⟩
                 refine ⟨rfl, ?_, ?_, rfl⟩
                 repeat'(first|apply And.intro|exact ze0|refine ze1 ?_|refine zei ?_ ?_|exact rfl|trivial)
                 all_goals exact Stop.mk (by first | rfl | (rw [hst]; exact heldE_push _ ⟨_, _, _⟩) | (rw [hst]; done) | (rw [hst]; rfl)))
          · rw [if_neg ht] at hst
            repeat' (first|refine zst ?_|(refine zhm fun hb=>?_;try exact zab)|refine zg2 ?_ ?_|(apply op_id;first|(refine st_litA rfl rfl rfl ⟨rfl, rfl, rfl⟩ rfl rfl rfl rfl rfl rfl rfl rfl (flatE_map fun _ => rfl) rfl rfl rfl rfl rfl ?_)|(refine st_appendA rfl rfl rfl rfl rfl rfl rfl rfl ⟨rfl, rfl, rfl⟩ (heldE_length _) (rfl : _ = 1) (by omega) rfl rfl ?_))|refine zln fun _=>?_|refine zop ?_|(refine km [] (c5) rfl rfl (fun i hi => ?_);(try dsimp only at hi))|(refine km [52] (c6) rfl rfl (fun i hi => ?_);(try dsimp only at hi))|fail)
            all_goals first
              | (exfalso; omega)
              | (refine ⟨n + 1, by omega, by omega, ?_⟩
                 refine ⟨rfl, ?_, ?_, rfl⟩
                 repeat'(first|apply And.intro|exact ze0|refine ze1 ?_|refine zei ?_ ?_|exact rfl|trivial)
                 all_goals exact Stop.mk (by first | rfl | (rw [hst]; exact heldE_push _ ⟨_, _, _⟩) | (rw [hst]; done) | (rw [hst]; rfl)))
  · obtain rfl : n = js.length := by omega
    rw [List.take_length] at *
    repeat' (first|refine zsr ?_|(refine zhm fun hb=>?_;try exact zab)|refine zg2 ?_ ?_|refine zln fun _=>?_|refine zop ?_|fail)
    show AWp _ _ _ _
    refine awp_dena ?_
    apply awp_ret'
    exact zm () [39, 40] trivial zae zae zae
end Go.Proofs.YtliopiphobopjaaGreat
