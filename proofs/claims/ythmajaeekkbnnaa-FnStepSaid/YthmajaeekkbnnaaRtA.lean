/-
  Plain law: commands and steps are read back from their text.
-/
import Derived.Test.YthmajaeekkbnnaaTxP
namespace Go.Proofs.Ythmajaeekkbnnaa
open Go Go.RowKit

theorem num_ns {x : Int} : ∀ b ∈ numTx x, (b.toNat : Int) ≠ 32 := fun b hb => by
  by_cases h : 0 ≤ x ∧ x ≤ 1000000000
  · rw [numTx_in h] at hb
    have := numT_dig 9 x.toNat (by omega) b hb
    omega
  · rw [numTx_out (by omega)] at hb
    cases hb
theorem vec_ns {v : V3} : ∀ b ∈ vecText v, (b.toNat : Int) ≠ 32 := fun b hb => by
  cases h : vecOkB v with
  | false => rw [vecText_no h] at hb; cases hb
  | true =>
    rw [vecText_yes h] at hb
    simp only [List.mem_append, List.mem_singleton] at hb
    rcases hb with (((hb | hb) | hb) | hb) | hb
    · exact num_ns b hb
    · subst hb; decide
    · exact num_ns b hb
    · subst hb; decide
    · exact num_ns b hb
theorem textVec_rt {v : V3} (h : vecOkB v = true) : textVec (vecText v) = (v, true) := by
  have hp : parts (vecText v) 47 = [numTx v.a, numTx v.b, numTx v.c] := by rw [parts_split, vec_split h]
  obtain ⟨h1, h2, h3⟩ := vec_in h
  have hv : tvV (vecText v) = v := by
    unfold tvV
    rw [hp]
    show V3.mk (textNum (numTx v.a)).1 (textNum (numTx v.b)).1 (textNum (numTx v.c)).1 = v
    rw [textNum_numTx h1, textNum_numTx h2, textNum_numTx h3]
  have ho : tvOk (vecText v) = true := by
    unfold tvOk
    rw [hv, h, hp]
    show (_ && (textNum (numTx v.a)).2 && (textNum (numTx v.b)).2 && (textNum (numTx v.c)).2 && true) = true
    rw [textNum_numTx h1, textNum_numTx h2, textNum_numTx h3]
    rfl
  rw [textVec_yes ho, hv]
theorem vecNo_eq {v : V3} (h : vecNo v = true) : v = vec0 := by
  cases v
  simp [vecNo] at h
  simp [vec0, h]
theorem jobNo_eq {j : Job} (h : jobNo j = true) : j = job0 := by
  obtain ⟨a, b, c, d, e, f, g⟩ := j
  simp only [jobNo, Bool.and_eq_true, beq_iff_eq] at h
  obtain ⟨⟨⟨⟨⟨⟨h1, h2⟩, h3⟩, h4⟩, h5⟩, h6⟩, h7⟩ := h
  rw [h1, h2, h3, vecNo_eq h4, vecNo_eq h5, h6, h7]
  rfl
theorem cmdNo_eq {c : Cmd} (h : cmdNo c = true) : c = cmd0 := by
  obtain ⟨a, b, c, d⟩ := c
  simp only [cmdNo, Bool.and_eq_true, beq_iff_eq] at h
  obtain ⟨⟨⟨h1, h2⟩, h3⟩, h4⟩ := h
  rw [h1, jobNo_eq h2, h3, vecNo_eq h4]
  rfl
theorem sp_app {x y : List UInt8} (h : ∀ b ∈ x, (b.toNat : Int) ≠ 32) : split 32 (x ++ [32] ++ y) = x :: split 32 y := by
  rw [List.append_assoc]
  exact split_app (c := 32) (by decide) h
theorem cmdW_ns {k : Int} : ∀ b ∈ cmdW k, (b.toNat : Int) ≠ 32 := by
  by_cases h : 1 ≤ k ∧ k ≤ 7
  · obtain rfl | rfl | rfl | rfl | rfl | rfl | rfl : k = 1 ∨ k = 2 ∨ k = 3 ∨ k = 4 ∨ k = 5 ∨ k = 6 ∨ k = 7 := by omega
    all_goals decide
  · rw [cmdW, if_neg h]
    exact fun b hb => by cases hb
theorem kd_word {k : Int} (h : 1 ≤ k ∧ k ≤ 7) : ((kd (cmdW k) 8 : Nat) : Int) = k := by
  obtain rfl | rfl | rfl | rfl | rfl | rfl | rfl : k = 1 ∨ k = 2 ∨ k = 3 ∨ k = 4 ∨ k = 5 ∨ k = 6 ∨ k = 7 := by omega
  all_goals decide
theorem jobOk_in {j : Job} (h : jobOkB j = true) : (1 ≤ j.id ∧ j.id ≤ 999) ∧ (0 ≤ j.prio ∧ j.prio ≤ 999) ∧ (1 ≤ j.nodes ∧ j.nodes ≤ 24) ∧ vecOkB j.need = true ∧ vecOkB j.lic = true ∧ (1 ≤ j.wall ∧ j.wall ≤ 1000000) ∧ (0 ≤ j.level ∧ j.level ≤ 24) := by
  unfold jobOkB at h
  simp only [Bool.and_eq_true, inB_t] at h
  obtain ⟨⟨⟨⟨⟨⟨h1, h2⟩, h3⟩, h4⟩, h5⟩, h6⟩, h7⟩ := h
  exact ⟨h1, h2, h3, h4, h5, h6, h7⟩
theorem rdJob_rt {j : Job} (h : jobOkB j = true) : rdJob (jobWs j) = j := by
  obtain ⟨h1, h2, h3, h4, h5, h6, h7⟩ := jobOk_in h
  unfold rdJob jobWs
  show Job.mk (textNum (numTx j.id)).1 (textNum (numTx j.prio)).1 (textNum (numTx j.nodes)).1 (textVec (vecText j.need)).1 (textVec (vecText j.lic)).1 (textNum (numTx j.wall)).1 (textNum (numTx j.level)).1 = j
  rw [textNum_numTx (by omega), textNum_numTx (by omega), textNum_numTx (by omega), textVec_rt h4, textVec_rt h5, textNum_numTx (by omega), textNum_numTx (by omega)]
theorem job_split (j : Job) : split 32 (jobT j) = jobWs j := by
  rw [jobT_eq]
  have e : numTx j.id ++ [32] ++ numTx j.prio ++ [32] ++ numTx j.nodes ++ [32] ++ vecText j.need ++ [32] ++ vecText j.lic ++ [32] ++ numTx j.wall ++ [32] ++ numTx j.level = numTx j.id ++ [32] ++ (numTx j.prio ++ [32] ++ (numTx j.nodes ++ [32] ++ (vecText j.need ++ [32] ++ (vecText j.lic ++ [32] ++ (numTx j.wall ++ [32] ++ numTx j.level))))) := by simp
  rw [e, sp_app num_ns, sp_app num_ns, sp_app num_ns, sp_app vec_ns, sp_app vec_ns, sp_app num_ns, split_none num_ns]
  rfl
theorem cmdRd_rt {c : Cmd} (h : cmdOkB c = true) : cmdRd (cmdText c) = c := by
  have hk := kind_in h
  have hw := kd_word hk
  by_cases h1 : c.kind = 1
  · have hj : jobOkB c.job = true ∧ c.n = 0 ∧ vecNo c.lic = true := by
      unfold cmdOkB at h
      rw [if_pos h1] at h
      simpa [Bool.and_eq_true, and_assoc] using h
    have hp : parts (cmdText c) 32 = cmdW 1 :: jobWs c.job := by rw [cmdText_1 h h1, wordsL_two, parts_split, sp_app cmdW_ns, job_split]
    have hd : kdS (cmdText c) = kd (cmdW 1) 8 := by unfold kdS; rw [hp]; rfl
    rw [h1] at hw
    rw [cmdRd_J (by rw [hd]; exact hw) (by rw [hp]; rfl), cJ, hd, hw, hp]
    show Cmd.mk 1 (rdJob (jobWs c.job)) 0 vec0 = c
    rw [rdJob_rt hj.1, ← vecNo_eq hj.2.2, ← hj.2.1, ← h1]
  · by_cases h6 : c.kind = 6
    · have hj : jobNo c.job = true ∧ c.n = 0 ∧ vecOkB c.lic = true := by
        unfold cmdOkB at h
        rw [if_neg h1, if_neg (by omega), if_neg (by omega), if_pos h6] at h
        simpa [Bool.and_eq_true, and_assoc] using h
      have hp : parts (cmdText c) 32 = [cmdW 6, vecText c.lic] := by rw [cmdText_6 h h6, wordsL_two, parts_split, sp_app cmdW_ns, split_none vec_ns]
      have hd : kdS (cmdText c) = kd (cmdW 6) 8 := by unfold kdS; rw [hp]; rfl
      rw [h6] at hw
      rw [cmdRd_L (by rw [hd]; exact hw) (by rw [hp]; rfl), cL, hd, hw, hp]
      show Cmd.mk 6 job0 0 (textVec (vecText c.lic)).1 = c
      rw [textVec_rt hj.2.2, ← jobNo_eq hj.1, ← hj.2.1, ← h6]
    · have hj : jobNo c.job = true ∧ vecNo c.lic = true ∧ (0 ≤ c.n ∧ c.n ≤ 1000000000) := by
        unfold cmdOkB at h
        rw [if_neg h1] at h
        by_cases h2 : c.kind = 2 ∨ c.kind = 3
        · rw [if_pos h2] at h
          simp only [Bool.and_eq_true, inB_t] at h
          exact ⟨h.1.1, h.1.2, by omega⟩
        · rw [if_neg h2] at h
          by_cases h4 : c.kind = 4 ∨ c.kind = 5
          · rw [if_pos h4] at h
            simp only [Bool.and_eq_true, inB_t] at h
            exact ⟨h.1.1, h.1.2, by omega⟩
          · rw [if_neg h4, if_neg h6, if_pos (by omega)] at h
            simp only [Bool.and_eq_true, inB_t] at h
            exact ⟨h.1.1, h.1.2, h.2⟩
      have hp : parts (cmdText c) 32 = [cmdW c.kind, numTx c.n] := by rw [cmdText_n h h1 h6, wordsL_two, parts_split, sp_app cmdW_ns, split_none num_ns]
      have hd : kdS (cmdText c) = kd (cmdW c.kind) 8 := by unfold kdS; rw [hp]; rfl
      rw [cmdRd_N (by rw [hd, hw]; exact h6) (by rw [hp]; rfl), cN, hd, hw, hp]
      show Cmd.mk c.kind job0 (textNum (numTx c.n)).1 vec0 = c
      rw [textNum_numTx hj.2.2, ← jobNo_eq hj.1, ← vecNo_eq hj.2.1]
theorem cmdText_ne {c : Cmd} (h : cmdOkB c = true) : ¬ cmdText c = [] := fun e => by
  have hk := kind_in h
  have := congrArg List.length e
  revert this
  by_cases h1 : c.kind = 1
  · rw [cmdText_1 h h1, wordsL_two]; simp
  · by_cases h6 : c.kind = 6
    · rw [cmdText_6 h h6, wordsL_two]; simp
    · rw [cmdText_n h h1 h6, wordsL_two]; simp
theorem cmdText_nil {c : Cmd} : cmdText c = [] ↔ cmdOkB c = false := by
  cases h : cmdOkB c with
  | false => exact ⟨fun _ => rfl, fun _ => cmdText_no h⟩
  | true => exact ⟨fun e => absurd e (cmdText_ne h), fun e => by cases e⟩
theorem textCmd_yes {c : Cmd} (h : cmdOkB c = true) : textCmd (cmdText c) = (c, true) := textCmd_eq (cmdRd_rt h) (cmdText_ne h) rfl
theorem textCmd_no {c : Cmd} (h : cmdOkB c = false) : textCmd (cmdText c) = (cmd0, false) := textCmd_nil (cmdText_no h)

/-! ### Steps -/
theorem hd_app {x y : List UInt8} (h : ∀ b ∈ x, (b.toNat : Int) ≠ 32) : hd (x ++ [32] ++ y) = x ∧ tl (x ++ [32] ++ y) = y := by
  have e : hd (x ++ [32] ++ y) = x := by unfold hd; rw [parts_split, sp_app h]; rfl
  refine ⟨e, ?_⟩
  rw [tl, e, show x.length + 1 = (x ++ [32]).length by simp, List.drop_left]
theorem hd_all {x : List UInt8} (h : ∀ b ∈ x, (b.toNat : Int) ≠ 32) : hd x = x := by
  unfold hd; rw [parts_split, split_none h]; rfl
theorem stepRd_rt {x : Step} (h : ¬ stepText x = []) : stepRd (stepText x) = x := by
  obtain ⟨k, c, p⟩ := x
  unfold stepText at h ⊢
  simp only at h ⊢
  by_cases h1 : k = 1
  · subst h1
    rw [if_pos rfl] at h ⊢
    by_cases hc : ¬ cmdText c = [] ∧ p = 0
    · rw [if_pos hc]
      obtain ⟨hc, rfl⟩ := hc
      have ok : cmdOkB c = true := by rw [cmdText_nil, Bool.not_eq_false] at hc; exact hc
      obtain ⟨e1, e2⟩ := @hd_app doK (cmdText c) (by decide)
      rw [show ([100, 111, 32] : List UInt8) ++ cmdText c = doK ++ [32] ++ cmdText c from rfl, rd_D e1, xD, e2, textCmd_yes ok]
    · rw [if_neg hc] at h; exact absurd rfl h
  · rw [if_neg h1] at h ⊢
    by_cases h2 : k = 2
    · subst h2
      rw [if_pos rfl] at h ⊢
      by_cases hc : ¬ cmdText c = [] ∧ inB p 0 1000000000 = true
      · rw [if_pos hc]
        obtain ⟨hc, hp⟩ := hc
        rw [inB_t] at hp
        have ok : cmdOkB c = true := by rw [cmdText_nil, Bool.not_eq_false] at hc; exact hc
        have e : ([116, 111, 114, 110, 32] : List UInt8) ++ numTx p ++ [32] ++ cmdText c = tornK ++ [32] ++ (numTx p ++ [32] ++ cmdText c) := by simp
        obtain ⟨e1, e2⟩ := @hd_app tornK (numTx p ++ [32] ++ cmdText c) (by decide)
        obtain ⟨f1, f2⟩ := @hd_app (numTx p) (cmdText c) num_ns
        rw [e, rd_T e1, xT, e2, f1, f2, textCmd_yes ok, textNum_numTx hp]
      · rw [if_neg hc] at h; exact absurd rfl h
    · rw [if_neg h2] at h ⊢
      by_cases h3 : k = 3
      · subst h3
        rw [if_pos rfl] at h ⊢
        by_cases hc : cmdNo c = true ∧ p = 0
        · rw [if_pos hc, rd_C (hd_all (by decide)), cmdNo_eq hc.1, hc.2]; rfl
        · rw [if_neg hc] at h; exact absurd rfl h
      · rw [if_neg h3] at h ⊢
        by_cases h4 : k = 4
        · subst h4
          rw [if_pos rfl] at h ⊢
          by_cases hc : cmdNo c = true ∧ p = 0
          · rw [if_pos hc, rd_S (hd_all (by decide)), cmdNo_eq hc.1, hc.2]; rfl
          · rw [if_neg hc] at h; exact absurd rfl h
        · rw [if_neg h4] at h; exact absurd rfl h
theorem stepText_len (x : Step) : (stepText x).length ≤ 1100 := by
  have h1 := cmdText_len x.cmd
  have h2 := numTx_len x.keep
  unfold stepText
  repeat' split
  all_goals simp
  all_goals omega
theorem textStep_yes {x : Step} (h : ¬ stepText x = []) : textStep (stepText x) = (x, true) := textStep_eq (stepRd_rt h) h rfl
theorem textStep_no {x : Step} (h : stepText x = []) : textStep (stepText x) = (step0, false) := textStep_nil h
end Go.Proofs.Ythmajaeekkbnnaa
