/-
  Profiles: a change, the reference's; taking, both.
-/
import Derived.Test.YtliopiphobopjaaGreatKSh
import Derived.Test.YtliopiphobopjaaGreatKGaI
set_option maxRecDepth 100000
set_option maxHeartbeats 16000000
namespace Go.Proofs.YtliopiphobopjaaGreat
open Go Go.RowKit
attribute [local irreducible] AWp OpsOk OpOk ACalls ChA QsOk MCalls EnC PY

def outK (l : List Pt) (a b : Int) : Nat → List Int
  | 0 => atsI l
  | 1 => insI a false (atsI l)
  | _ + 2 => timesS l a b
theorem outK_s {l : List Pt} {a b : Int} {k : Nat} (h : k < 2) : outK l a b (k + 1) = insI (nth [a, b] k) false (outK l a b k) := by
  match k, h with
  | 0, _ => rfl
  | 1, _ => rfl
theorem outK_len (l : List Pt) (a b : Int) (k : Nat) : (outK l a b k).length ≤ l.length + 2 := by
  have h3 : (atsI l).length = l.length := by simp [atsI]
  match k with
  | 0 => show (atsI l).length ≤ _; omega
  | 1 => have := (insI_len (t := a) (l := atsI l)).1; show (insI a false (atsI l)).length ≤ _; omega
  | _ + 2 => exact times_len
structure InsP (t : Int) (L : List Int) (i : Nat) (dn : Bool) (pre : List Int) : Prop where
  le : i ≤ L.length
  len : pre.length ≤ i + 1
  len2 : dn = false → pre.length ≤ i
  eq : pre ++ insI t dn (L.drop i) = insI t false L
theorem ins_step {t : Int} {L : List Int} {i : Nat} {dn : Bool} {pre : List Int} (h : InsP t L i dn pre) (hi : i < L.length) :
    InsP t L (i + 1) (dn || decide (t ≤ nth L i)) (pre ++ ((if dn = false ∧ t ≤ nth L i then [t] else []) ++ (if nth L i ≠ t then [nth L i] else []))) := by
  refine ⟨by omega, ?_, ?_, ?_⟩
  · have h1 := h.len
    have h2 := h.len2
    rw [List.length_append, List.length_append]
    by_cases a : dn = false ∧ t ≤ nth L i
    · have := h2 a.1
      rw [if_pos a]
      split <;> simp only [List.length_cons, List.length_nil] <;> omega
    · rw [if_neg a]
      split <;> simp only [List.length_cons, List.length_nil] <;> omega
  · intro hd
    have h2 := h.len2
    simp only [Bool.or_eq_false_iff, decide_eq_false_iff_not] at hd
    have := h2 hd.1
    rw [List.length_append, List.length_append, if_neg (fun a => hd.2 a.2)]
    split <;> simp only [List.length_cons, List.length_nil] <;> omega
  · rw [← h.eq, drop_nth hi]
    simp only [insI, List.append_assoc]
theorem ins_end {t : Int} {L : List Int} {i : Nat} {dn : Bool} {pre : List Int} (h : InsP t L i dn pre) (hi : ¬ i < L.length) : insI t false L = pre ++ (if dn = true then [] else [t]) := by
  rw [← h.eq, List.drop_eq_nil_of_le (by omega)]
  cases dn <;> rfl
theorem l03Times_s {l : List Pt} {a b : Int} (hl : l.length ≤ 1000000) : DC Tryz.prog 278 [profA l, .d (.n .i64 a), .d (.n .i64 b)] [.d (.sl (intE (timesS l a b)))] := by
  refine mcalls_of tt Tryz.func278 rfl rfl rfl trivial (fun _ _ => ⟨trivial, trivial⟩) (fun w0 Z O => ?_)
  have hpl : (ptE l).length = l.length := ptE_length l
  repeat' (first|refine zst ?_|(refine zhm fun hb=>?_;try first|omega|exact absurd rfl hb)|refine zgc ?_ ?_|refine zgx ?_ ?_|(apply op_id;first|refine zk35 rfl rfl rfl ?_|refine zk36 rfl rfl rfl ?_|refine zk37 rfl rfl rfl ?_|refine zk38 rfl rfl rfl ?_|refine zk39 rfl rfl rfl ?_|refine zk40 rfl rfl rfl ?_|refine zk42 rfl rfl rfl ?_|refine zk45 rfl ?_|refine zk46 rfl ?_|refine zgq ?_)|(apply q_id;first|refine zk0 ?_|refine zk5 ?_|refine zk11 ?_|refine zk12 (fun _ => ?_)|refine zk13 rfl rfl rfl ?_|refine zk14 ?_|refine zk19 ?_|refine zk29 ns_ok (by kernel_rfl) ?_|refine zk31 ?_|refine zk32 rfl rfl rfl ?_|refine zk33 rfl ?_|refine zk34 rfl ?_))
  refine awp_loop (fun (i : Nat) => ⟨73, [(1, .d (.n .i64 a)), (2, .d (.n .i64 b)), (7, .row 16), (18, .d (.sl (ptE l))), (19, .d (.n .i64 (l.length : Nat))), (20, .d (.n .i64 i))], [(16, .row 3 (intE (atsI (l.take i))) true)]⟩) (fun i => i ≤ l.length) (fun i => l.length - i) 0 (by exact Nat.zero_le _) ?_ ?_
  · refine ⟨rfl, ?_, ?_, rfl⟩
    repeat'(first|apply And.intro|exact zeb|refine zec ?_|exact zen|refine zeo ?_|exact zel|refine zem ?_|exact zep|refine zeq1 ?_|refine zea ?_|refine zei ?_ ?_|refine zex ?_|refine zca (hv := ?_)|refine zcb (hv := ?_)|exact rfl|trivial)
    all_goals exact Stop.mk (by first | rfl | exact ptE_length _)
  · intro i hi
    have hil0 : (atsI (l.take i)).length = i := by simp [atsI]; omega
    have hil : (intE (atsI (l.take i))).length = i := by rw [intE_length]; exact hil0
    by_cases hi' : i < l.length
    · repeat' (first|refine zst ?_|(refine zhm fun hb=>?_;try first|omega|exact absurd rfl hb)|refine zgc ?_ ?_|refine zgx ?_ ?_|(apply op_id;first|refine zk35 rfl rfl rfl ?_|refine zk36 rfl rfl rfl ?_|refine zk37 rfl rfl rfl ?_|refine zk38 rfl rfl rfl ?_|refine zk39 rfl rfl rfl ?_|refine zk40 rfl rfl rfl ?_|refine zk42 rfl rfl rfl ?_|refine zk45 rfl ?_|refine zk46 rfl ?_|refine zgq ?_)|(apply q_id;first|refine zk0 ?_|refine zk5 ?_|refine zk11 ?_|refine zk12 (fun _ => ?_)|refine zk13 rfl rfl rfl ?_|refine zk14 ?_|refine zk19 ?_|refine zk29 ns_ok (by kernel_rfl) ?_|refine zk31 ?_|refine zk32 rfl rfl rfl ?_|refine zk33 rfl ?_|refine zk34 rfl ?_))
      · refine ⟨i + 1, by omega, by omega, ?_⟩
        refine ⟨rfl, ?_, ?_, rfl⟩
        repeat'(first|apply And.intro|exact zeb|refine zec ?_|exact zen|refine zeo ?_|exact zel|refine zem ?_|exact zep|refine zeq1 ?_|refine zea ?_|refine zei ?_ ?_|refine zex ?_|refine zca (hv := ?_)|refine zcb (hv := ?_)|exact rfl|trivial)
        all_goals exact Stop.mk (by first | rfl | exact ats_push (xs := []) hi')
    · rw [show l.take i = l from List.take_of_length_le (by omega)]
      repeat' (first|refine zst ?_|(refine zhm fun hb=>?_;try first|omega|exact absurd rfl hb)|refine zgc ?_ ?_|refine zgx ?_ ?_|(apply op_id;first|refine zk35 rfl rfl rfl ?_|refine zk36 rfl rfl rfl ?_|refine zk37 rfl rfl rfl ?_|refine zk38 rfl rfl rfl ?_|refine zk39 rfl rfl rfl ?_|refine zk40 rfl rfl rfl ?_|refine zk42 rfl rfl rfl ?_|refine zk45 rfl ?_|refine zk46 rfl ?_|refine zgq ?_)|(apply q_id;first|refine zk0 ?_|refine zk5 ?_|refine zk11 ?_|refine zk12 (fun _ => ?_)|refine zk13 rfl rfl rfl ?_|refine zk14 ?_|refine zk19 ?_|refine zk29 ns_ok (by kernel_rfl) ?_|refine zk31 ?_|refine zk32 rfl rfl rfl ?_|refine zk33 rfl ?_|refine zk34 rfl ?_))
      refine awp_frz 16 rfl ?_
      refine awp_loop (fun (k : Nat) => ⟨73, [(7, .d (.sl (intE (outK l a b k)))), (32, .row 32), (33, .d (.n .i64 2)), (34, .d (.n .i64 k))], [(32, .row 3 (intE [a, b]) true)]⟩) (fun k => k ≤ 2) (fun k => 2 - k) 0 (by exact Nat.zero_le _) ?_ ?_
      · refine ⟨rfl, ?_, ?_, rfl⟩
        repeat'(first|apply And.intro|exact zeb|refine zec ?_|exact zen|refine zeo ?_|exact zel|refine zem ?_|exact zep|refine zeq1 ?_|refine zea ?_|refine zei ?_ ?_|refine zex ?_|refine zca (hv := ?_)|refine zcb (hv := ?_)|exact rfl|trivial)
        all_goals exact Stop.mk rfl
      · intro k hk
        have hol := outK_len l a b k
        have hel : (intE [a, b]).length = 2 := rfl
        have hel2 : ([a, b] : List Int).length = 2 := rfl
        by_cases hk' : k < 2
        · repeat' (first|refine zst ?_|(refine zhm fun hb=>?_;try first|omega|exact absurd rfl hb)|refine zgc ?_ ?_|refine zgx ?_ ?_|(apply op_id;first|refine zk35 rfl rfl rfl ?_|refine zk36 rfl rfl rfl ?_|refine zk37 rfl rfl rfl ?_|refine zk38 rfl rfl rfl ?_|refine zk39 rfl rfl rfl ?_|refine zk40 rfl rfl rfl ?_|refine zk42 rfl rfl rfl ?_|refine zk45 rfl ?_|refine zk46 rfl ?_|refine zgq ?_)|(apply q_id;first|refine zk0 ?_|refine zk5 ?_|refine zk11 ?_|refine zk12 (fun _ => ?_)|refine zk13 rfl rfl rfl ?_|refine zk14 ?_|refine zk19 ?_|refine zk29 ns_ok (by kernel_rfl) ?_|refine zk31 ?_|refine zk32 rfl rfl rfl ?_|refine zk33 rfl ?_|refine zk34 rfl ?_))
          refine awp_loop (fun (x : Nat × Bool × List Int) => ⟨73, [(11, .d (.n .i64 (nth [a, b] k))), (12, .row 38), (13, .d (.b x.2.1)), (32, .row 32), (33, .d (.n .i64 2)), (34, .d (.n .i64 k)), (39, .d (.sl (intE (outK l a b k)))), (40, .d (.n .i64 ((outK l a b k).length : Nat))), (41, .d (.n .i64 x.1))], [(32, .row 3 (intE [a, b]) true), (38, .row 3 (intE x.2.2) true)]⟩) (fun x => InsP (nth [a, b] k) (outK l a b k) x.1 x.2.1 x.2.2) (fun x => (outK l a b k).length - x.1) (0, false, []) (by exact ⟨Nat.zero_le _, Nat.zero_le _, fun _ => Nat.zero_le _, rfl⟩) ?_ ?_
          · refine ⟨rfl, ?_, ?_, rfl⟩
            repeat'(first|apply And.intro|exact zeb|refine zec ?_|exact zen|refine zeo ?_|exact zel|refine zem ?_|exact zep|refine zeq1 ?_|refine zea ?_|refine zei ?_ ?_|refine zex ?_|refine zca (hv := ?_)|refine zcb (hv := ?_)|exact rfl|trivial)
            all_goals exact Stop.mk (by first | rfl | exact intE_length _)
          · rintro ⟨i, dn, pre⟩ h
            dsimp only at h ⊢
            have hil2 : (intE (outK l a b k)).length = (outK l a b k).length := intE_length _
            have hpl2 : (intE pre).length = pre.length := intE_length _
            have hle := h.len
            have hle2 := h.le
            by_cases hi : i < (outK l a b k).length
            · have hst := ins_step h hi
              cases dn with
              | false =>
                have hpl3 : (intE pre ++ [[D.n .i64 (nth [a, b] k)]]).length = pre.length + 1 := by simp [intE]
                repeat' (first|refine zst ?_|(refine zhm fun hb=>?_;try first|omega|exact absurd rfl hb)|refine zgc ?_ ?_|refine zgx ?_ ?_|(apply op_id;first|refine zk35 rfl rfl rfl ?_|refine zk36 rfl rfl rfl ?_|refine zk37 rfl rfl rfl ?_|refine zk38 rfl rfl rfl ?_|refine zk39 rfl rfl rfl ?_|refine zk40 rfl rfl rfl ?_|refine zk42 rfl rfl rfl ?_|refine zk45 rfl ?_|refine zk46 rfl ?_|refine zgq ?_)|(apply q_id;first|refine zk0 ?_|refine zk5 ?_|refine zk11 ?_|refine zk12 (fun _ => ?_)|refine zk13 rfl rfl rfl ?_|refine zk14 ?_|refine zk19 ?_|refine zk29 ns_ok (by kernel_rfl) ?_|refine zk31 ?_|refine zk32 rfl rfl rfl ?_|refine zk33 rfl ?_|refine zk34 rfl ?_))
                · have e1 : nth [a, b] k ≤ nth (outK l a b k) i := by assumption
                  have e2 : nth (outK l a b k) i ≠ nth [a, b] k := by assumption
                  rw [if_pos ⟨rfl, e1⟩, if_pos e2, decide_eq_true e1] at hst
                  refine ⟨(i + 1, _, _), hst, by dsimp only; omega, ?_⟩
                  refine ⟨rfl, ?_, ?_, rfl⟩
                  repeat'(first|apply And.intro|exact zeb|refine zec ?_|exact zen|refine zeo ?_|exact zel|refine zem ?_|exact zep|refine zeq1 ?_|refine zea ?_|refine zei ?_ ?_|refine zex ?_|refine zca (hv := ?_)|refine zcb (hv := ?_)|exact rfl|trivial)
                  all_goals exact Stop.mk (by first | rfl | (rw [decide_eq_true e1]; rfl) | simp [intE])
                · have e1 : nth [a, b] k ≤ nth (outK l a b k) i := by assumption
                  have e2 : nth (outK l a b k) i = nth [a, b] k := by assumption
                  rw [if_pos ⟨rfl, e1⟩, if_neg (not_not_intro e2), decide_eq_true e1] at hst
                  refine ⟨(i + 1, _, _), hst, by dsimp only; omega, ?_⟩
                  refine ⟨rfl, ?_, ?_, rfl⟩
                  repeat'(first|apply And.intro|exact zeb|refine zec ?_|exact zen|refine zeo ?_|exact zel|refine zem ?_|exact zep|refine zeq1 ?_|refine zea ?_|refine zei ?_ ?_|refine zex ?_|refine zca (hv := ?_)|refine zcb (hv := ?_)|exact rfl|trivial)
                  all_goals exact Stop.mk (by first | rfl | (rw [decide_eq_true e1]; rfl) | simp [intE])
                · have e1 : ¬ nth [a, b] k ≤ nth (outK l a b k) i := by assumption
                  have e2 : nth (outK l a b k) i ≠ nth [a, b] k := by assumption
                  rw [if_neg (fun h => e1 h.2), if_pos e2, decide_eq_false e1] at hst
                  refine ⟨(i + 1, _, _), hst, by dsimp only; omega, ?_⟩
                  refine ⟨rfl, ?_, ?_, rfl⟩
                  repeat'(first|apply And.intro|exact zeb|refine zec ?_|exact zen|refine zeo ?_|exact zel|refine zem ?_|exact zep|refine zeq1 ?_|refine zea ?_|refine zei ?_ ?_|refine zex ?_|refine zca (hv := ?_)|refine zcb (hv := ?_)|exact rfl|trivial)
                  all_goals exact Stop.mk (by first | rfl | (rw [decide_eq_false e1]; rfl) | simp [intE])
              | true =>
                repeat' (first|refine zst ?_|(refine zhm fun hb=>?_;try first|omega|exact absurd rfl hb)|refine zgc ?_ ?_|refine zgx ?_ ?_|(apply op_id;first|refine zk35 rfl rfl rfl ?_|refine zk36 rfl rfl rfl ?_|refine zk37 rfl rfl rfl ?_|refine zk38 rfl rfl rfl ?_|refine zk39 rfl rfl rfl ?_|refine zk40 rfl rfl rfl ?_|refine zk42 rfl rfl rfl ?_|refine zk45 rfl ?_|refine zk46 rfl ?_|refine zgq ?_)|(apply q_id;first|refine zk0 ?_|refine zk5 ?_|refine zk11 ?_|refine zk12 (fun _ => ?_)|refine zk13 rfl rfl rfl ?_|refine zk14 ?_|refine zk19 ?_|refine zk29 ns_ok (by kernel_rfl) ?_|refine zk31 ?_|refine zk32 rfl rfl rfl ?_|refine zk33 rfl ?_|refine zk34 rfl ?_))
                · have e2 : nth (outK l a b k) i ≠ nth [a, b] k := by assumption
                  rw [if_neg (fun h => by cases h.1), if_pos e2] at hst
                  refine ⟨(i + 1, _, _), hst, by dsimp only; omega, ?_⟩
                  refine ⟨rfl, ?_, ?_, rfl⟩
                  repeat'(first|apply And.intro|exact zeb|refine zec ?_|exact zen|refine zeo ?_|exact zel|refine zem ?_|exact zep|refine zeq1 ?_|refine zea ?_|refine zei ?_ ?_|refine zex ?_|refine zca (hv := ?_)|refine zcb (hv := ?_)|exact rfl|trivial)
                  all_goals exact Stop.mk (by first | rfl | simp [intE])
                · have e2 : nth (outK l a b k) i = nth [a, b] k := by assumption
                  rw [if_neg (fun h => by cases h.1), if_neg (not_not_intro e2)] at hst
                  refine ⟨(i + 1, _, _), hst, by dsimp only; omega, ?_⟩
                  refine ⟨rfl, ?_, ?_, rfl⟩
                  repeat'(first|apply And.intro|exact zeb|refine zec ?_|exact zen|refine zeo ?_|exact zel|refine zem ?_|exact zep|refine zeq1 ?_|refine zea ?_|refine zei ?_ ?_|refine zex ?_|refine zca (hv := ?_)|refine zcb (hv := ?_)|exact rfl|trivial)
                  all_goals exact Stop.mk (by first | rfl | simp [intE])
            · have hend := ins_end h hi
              rw [← outK_s hk'] at hend
              cases dn with
              | false =>
                repeat' (first|(refine awp_frzr 24 38 rfl ?_)|refine zst ?_|(refine zhm fun hb=>?_;try first|omega|exact absurd rfl hb)|refine zgc ?_ ?_|refine zgx ?_ ?_|(apply op_id;first|refine zk35 rfl rfl rfl ?_|refine zk36 rfl rfl rfl ?_|refine zk37 rfl rfl rfl ?_|refine zk38 rfl rfl rfl ?_|refine zk39 rfl rfl rfl ?_|refine zk40 rfl rfl rfl ?_|refine zk42 rfl rfl rfl ?_|refine zk45 rfl ?_|refine zk46 rfl ?_|refine zgq ?_)|(apply q_id;first|refine zk0 ?_|refine zk5 ?_|refine zk11 ?_|refine zk12 (fun _ => ?_)|refine zk13 rfl rfl rfl ?_|refine zk14 ?_|refine zk19 ?_|refine zk29 ns_ok (by kernel_rfl) ?_|refine zk31 ?_|refine zk32 rfl rfl rfl ?_|refine zk33 rfl ?_|refine zk34 rfl ?_))
                refine ⟨k + 1, by omega, by omega, ?_⟩
                refine ⟨rfl, ?_, ?_, rfl⟩
                repeat'(first|apply And.intro|exact zeb|refine zec ?_|exact zen|refine zeo ?_|exact zel|refine zem ?_|exact zep|refine zeq1 ?_|refine zea ?_|refine zei ?_ ?_|refine zex ?_|refine zca (hv := ?_)|refine zcb (hv := ?_)|exact rfl|trivial)
                all_goals exact Stop.mk (by first | rfl | (rw [hend]; exact intE_push _ _))
              | true =>
                repeat' (first|(refine awp_frzr 24 38 rfl ?_)|refine zst ?_|(refine zhm fun hb=>?_;try first|omega|exact absurd rfl hb)|refine zgc ?_ ?_|refine zgx ?_ ?_|(apply op_id;first|refine zk35 rfl rfl rfl ?_|refine zk36 rfl rfl rfl ?_|refine zk37 rfl rfl rfl ?_|refine zk38 rfl rfl rfl ?_|refine zk39 rfl rfl rfl ?_|refine zk40 rfl rfl rfl ?_|refine zk42 rfl rfl rfl ?_|refine zk45 rfl ?_|refine zk46 rfl ?_|refine zgq ?_)|(apply q_id;first|refine zk0 ?_|refine zk5 ?_|refine zk11 ?_|refine zk12 (fun _ => ?_)|refine zk13 rfl rfl rfl ?_|refine zk14 ?_|refine zk19 ?_|refine zk29 ns_ok (by kernel_rfl) ?_|refine zk31 ?_|refine zk32 rfl rfl rfl ?_|refine zk33 rfl ?_|refine zk34 rfl ?_))
                refine ⟨k + 1, by omega, by omega, ?_⟩
                refine ⟨rfl, ?_, ?_, rfl⟩
                repeat'(first|apply And.intro|exact zeb|refine zec ?_|exact zen|refine zeo ?_|exact zel|refine zem ?_|exact zep|refine zeq1 ?_|refine zea ?_|refine zei ?_ ?_|refine zex ?_|refine zca (hv := ?_)|refine zcb (hv := ?_)|exact rfl|trivial)
                all_goals exact Stop.mk (by first | rfl | (rw [hend]; simp))
        · obtain rfl : k = 2 := by omega
          repeat' (first|refine zsr ?_|(refine zhm fun hb=>?_;try first|omega|exact absurd rfl hb)|refine zgc ?_ ?_|refine zgx ?_ ?_|(apply op_id;first|refine zk35 rfl rfl rfl ?_|refine zk36 rfl rfl rfl ?_|refine zk37 rfl rfl rfl ?_|refine zk38 rfl rfl rfl ?_|refine zk39 rfl rfl rfl ?_|refine zk40 rfl rfl rfl ?_|refine zk42 rfl rfl rfl ?_|refine zk45 rfl ?_|refine zk46 rfl ?_|refine zgq ?_)|(apply q_id;first|refine zk0 ?_|refine zk5 ?_|refine zk11 ?_|refine zk12 (fun _ => ?_)|refine zk13 rfl rfl rfl ?_|refine zk14 ?_|refine zk19 ?_|refine zk29 ns_ok (by kernel_rfl) ?_|refine zk31 ?_|refine zk32 rfl rfl rfl ?_|refine zk33 rfl ?_|refine zk34 rfl ?_))
          show AWp _ _ _ _
          refine awp_dena ?_
          apply awp_ret'
          refine zm () [] trivial ?_ ?_ ?_
          repeat'(first|apply And.intro|exact zeb|refine zec ?_|exact zen|refine zeo ?_|exact zel|refine zem ?_|exact zep|refine zeq1 ?_|refine zea ?_|refine zei ?_ ?_|refine zex ?_|refine zca (hv := ?_)|refine zcb (hv := ?_)|exact rfl|trivial)
          all_goals exact Stop.mk rfl
end Go.Proofs.YtliopiphobopjaaGreat
