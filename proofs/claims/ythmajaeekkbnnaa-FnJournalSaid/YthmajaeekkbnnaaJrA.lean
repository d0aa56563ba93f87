/-
  Plain law: what is read of a journal's beginning is read of all of it; an added record is read last.
-/
import Derived.Test.YthmajaeekkbnnaaTxX
namespace Go.Proofs.Ythmajaeekkbnnaa
open Go Go.RowKit

theorem nth_app {b x : List UInt8} {i : Nat} (h : i < b.length) : nth (b ++ x) i = nth b i := by
  simp only [nth, List.getD_eq_getElem?_getD, List.getElem?_append_left h]
theorem sub_app {b x : List UInt8} {i j : Nat} (h : j ≤ b.length) : subB (b ++ x) i j = subB b i j := by
  unfold subB
  rw [List.take_append_of_le_length h]
theorem eol_app {b x : List UInt8} : ∀ (k i : Nat), i + k = b.length → eol b i < b.length → eol (b ++ x) i = eol b i
  | 0, i, h, he => by
    obtain rfl : i = b.length := by omega
    rw [eol_end] at he
    omega
  | k + 1, i, h, he => by
    by_cases hn : nlAt b i
    · rw [eol_hit (by omega) hn, eol_hit (by rw [List.length_append]; omega) (by unfold nlAt; rw [nth_app (by omega)]; exact hn)]
    · rw [eol_miss (by omega) hn] at he ⊢
      rw [eol_miss (by rw [List.length_append]; omega) (by unfold nlAt; rw [nth_app (by omega)]; exact hn)]
      exact eol_app k (i + 1) (by omega) he
theorem eol_app' {b x : List UInt8} : ∀ (k i : Nat), i + k = b.length → eol (b ++ x) i < b.length → eol (b ++ x) i = eol b i
  | 0, i, h, he => by
    have := (eol_in (b := b ++ x) (i := i) (by rw [List.length_append]; omega)).1
    omega
  | k + 1, i, h, he => by
    by_cases hn : nlAt b i
    · rw [eol_hit (by omega) hn, eol_hit (by rw [List.length_append]; omega) (by unfold nlAt; rw [nth_app (by omega)]; exact hn)]
    · have hm : eol (b ++ x) i = eol (b ++ x) (i + 1) := eol_miss (by rw [List.length_append]; omega) (by unfold nlAt; rw [nth_app (by omega)]; exact hn)
      rw [hm] at he ⊢
      rw [eol_miss (by omega) hn]
      exact eol_app' k (i + 1) (by omega) he
/-- A step that stays within the beginning is the same step. -/
theorem rdOk_app {b x : List UInt8} {s : RdSt} (hs : s.2 ≤ b.length) (hE : eol (b ++ x) s.2 = eol b s.2) (hl : eol b s.2 < b.length) : (rdOk (b ++ x) s ↔ rdOk b s) ∧ (rdOk b s → rdNext (b ++ x) s = rdNext b s) := by
  unfold rdOk rdNext
  rw [hE]
  constructor
  · constructor
    · rintro ⟨h1, h2, h3, h4⟩
      rw [sub_app (by omega)] at h3 h4
      exact ⟨hl, h2, h3, h4⟩
    · rintro ⟨h1, h2, h3, h4⟩
      refine ⟨by rw [List.length_append]; omega, h2, ?_, ?_⟩
      · rw [sub_app (by omega)]; exact h3
      · rw [sub_app (by omega)]; exact h4
  · intro h
    rw [sub_app (by omega)]
theorem rdF_pre {b x : List UInt8} : ∀ (f : Nat) (s : RdSt), s.2 ≤ b.length → rdAt (b ++ x) s → rdAt (b ++ x) (rdF b f s)
  | 0, s, _, h => h
  | f + 1, s, hs, h => by
    rw [rdF]
    split
    · rename_i hk
      have hE := eol_app (b := b) (x := x) (b.length - s.2) s.2 (by omega) hk.1
      obtain ⟨h1, h2⟩ := rdOk_app hs hE hk.1
      have := rdAt_yes h (h1.2 hk)
      rw [h2 hk] at this
      refine rdF_pre f _ ?_ this
      have := hk.1
      simp only [rdNext]; omega
    · exact h
theorem rdF_mono {b : List UInt8} : ∀ (f : Nat) (s : RdSt), s.2 ≤ b.length → s.2 ≤ (rdF b f s).2 ∧ ∃ l, (rdF b f s).1 = s.1 ++ l
  | 0, s, _ => ⟨Nat.le_refl _, [], (List.append_nil _).symm⟩
  | f + 1, s, hs => by
    rw [rdF]
    split
    · rename_i hk
      have he := eol_in hs
      have hk1 := hk.1
      obtain ⟨h1, l, h2⟩ := rdF_mono (b := b) f (rdNext b s) (by simp only [rdNext]; omega)
      refine ⟨Nat.le_trans ?_ h1, [subB b (s.2 + (hdT s.1.length).length) (eol b s.2)] ++ l, ?_⟩
      · simp only [rdNext]; omega
      · rw [h2]; simp only [rdNext, List.append_assoc]
    · exact ⟨Nat.le_refl _, [], (List.append_nil _).symm⟩
theorem rdAt_mono {b : List UInt8} {s : RdSt} (h : rdAt b s) : s.2 ≤ (readR b).2 ∧ ∃ l, (readR b).1 = s.1 ++ l := by
  obtain ⟨h1, h2, f, h3, h4⟩ := h
  rw [← h4]
  exact rdF_mono f s h1
theorem readR_at (b x : List UInt8) : rdAt (b ++ x) (readR b) := rdF_pre (b.length + 1) ([], 0) (Nat.zero_le _) (rdAt_0 _)
theorem readR_pre (b x : List UInt8) : (readR b).2 ≤ (readR (b ++ x)).2 ∧ (readR b).1.length ≤ (readR (b ++ x)).1.length := by
  obtain ⟨h1, l, h2⟩ := rdAt_mono (readR_at b x)
  exact ⟨h1, by rw [h2, List.length_append]; omega⟩
theorem rdF_cut {c x : List UInt8} : ∀ (f : Nat) (s : RdSt), s.2 ≤ (c ++ x).length → (rdF (c ++ x) f s).2 ≤ c.length → rdAt c s → rdAt c (rdF (c ++ x) f s)
  | 0, s, _, _, h => h
  | f + 1, s, hs, hn, h => by
    rw [rdF] at hn ⊢
    split
    · rename_i hk
      rw [if_pos hk] at hn
      have hk1 := hk.1
      have hm := (rdF_mono (b := c ++ x) f (rdNext (c ++ x) s) (by simp only [rdNext]; omega)).1
      have hlt : eol (c ++ x) s.2 < c.length := by
        simp only [rdNext] at hm hn
        omega
      have hsc := h.1
      have hE := eol_app' (b := c) (x := x) (c.length - s.2) s.2 (by omega) hlt
      obtain ⟨h1, h2⟩ := rdOk_app hsc hE (by omega)
      have := rdAt_yes h (h1.1 hk)
      rw [← h2 (h1.1 hk)] at this
      exact rdF_cut f _ (by simp only [rdNext]; omega) hn this
    · exact h
/-- What was read is read of itself. -/
theorem readR_self (b : List UInt8) : readR (b.take (readR b).2) = readR b := by
  have hl := readR_len b
  have hc : (b.take (readR b).2).length = (readR b).2 := by rw [List.length_take]; omega
  have hb : b.take (readR b).2 ++ b.drop (readR b).2 = b := List.take_append_drop _ _
  have h := rdF_cut (c := b.take (readR b).2) (x := b.drop (readR b).2) (b.length + 1) ([], 0) (Nat.zero_le _) (by rw [hb, hc]; exact Nat.le_refl _) (rdAt_0 _)
  rw [hb] at h
  change rdAt _ (readR b) at h
  refine rdAt_end h ?_
  have := eol_end (b := b.take (readR b).2)
  rw [hc] at this
  rw [hc]
  exact this
theorem eol_line {y : List UInt8} : ∀ (u b : List UInt8), (∀ c ∈ u, (c.toNat : Int) ≠ 10) → eol (b ++ (u ++ 10 :: y)) b.length = b.length + u.length
  | [], b, _ => by
    refine eol_hit (by simp) ?_
    simp [nlAt, nth]
  | c :: u, b, h => by
    have hc := h c List.mem_cons_self
    rw [eol_miss (by simp) (by simp [nlAt, nth]; omega)]
    have := eol_line (y := y) u (b ++ [c]) (fun d hd => h d (List.mem_cons_of_mem _ hd))
    simp only [List.append_assoc, List.singleton_append, List.length_append, List.length_singleton] at this
    simp only [List.cons_append, List.length_cons]
    rw [this]
    omega
theorem hdT_no (n : Nat) : ∀ c ∈ hdT n, (c.toNat : Int) ≠ 10 := fun c hc => by
  unfold hdT at hc
  rw [List.mem_append, List.mem_singleton] at hc
  rcases hc with hc | rfl
  · by_cases h : (0 : Int) ≤ n ∧ (n : Int) ≤ 1000000000
    · rw [numTx_in h] at hc
      have := numT_dig 9 _ (by omega) c hc
      omega
    · rw [numTx_out (by omega)] at hc
      cases hc
  · decide
theorem rec_no {s : List UInt8} (h : recOkB s = true) : ∀ c ∈ s, (c.toNat : Int) ≠ 10 := fun c hc => by
  unfold recOkB at h
  rw [Bool.and_eq_true, List.all_eq_true] at h
  have := h.2 c hc
  simp only [bne_iff_ne, ne_eq] at this
  omega
theorem readR_add {b s : List UInt8} {R : List (List UInt8)} (h : readR b = (R, b.length)) (hs : recOkB s = true) : readR (b ++ (hdT R.length ++ s ++ [10])) = (R ++ [s], (b ++ (hdT R.length ++ s ++ [10])).length) := by
  have ha := readR_at b (hdT R.length ++ s ++ [10])
  rw [h] at ha
  have he : eol (b ++ (hdT R.length ++ s ++ [10])) b.length = b.length + (hdT R.length ++ s).length := eol_line (y := []) (hdT R.length ++ s) b (fun c hc => by
    rcases List.mem_append.1 hc with hc | hc
    · exact hdT_no _ c hc
    · exact rec_no hs c hc)
  have e1 : subB (b ++ (hdT R.length ++ s ++ [10])) b.length (b.length + (hdT R.length).length) = hdT R.length := by
    unfold subB
    rw [List.take_length_add_append, List.drop_left, List.append_assoc, List.take_left]
  have e2 : subB (b ++ (hdT R.length ++ s ++ [10])) (b.length + (hdT R.length).length) (b.length + (hdT R.length ++ s).length) = s := by
    unfold subB
    rw [List.take_length_add_append, ← List.drop_drop, List.drop_left, List.take_left, List.drop_left]
  have hk : rdOk (b ++ (hdT R.length ++ s ++ [10])) (R, b.length) := by
    refine ⟨?_, ?_, e1, ?_⟩
    · show eol _ b.length < _
      rw [he]; simp
    · show _ ≤ eol _ b.length - b.length
      rw [he]; simp
    · show recOkB (subB _ _ (eol _ b.length)) = true
      rw [he, e2]; exact hs
  have hn := rdAt_yes ha hk
  have en : rdNext (b ++ (hdT R.length ++ s ++ [10])) (R, b.length) = (R ++ [s], (b ++ (hdT R.length ++ s ++ [10])).length) := by
    unfold rdNext
    show (R ++ [subB _ _ (eol _ b.length)], eol _ b.length + 1) = _
    rw [he, e2]
    simp
    omega
  rw [en] at hn
  exact rdAt_end hn eol_end
/-! ### Journals -/
theorem jnOk_iff {j : Journal} : jnOk j = true ↔ j.bytes.length ≤ 40000 ∧ (0 ≤ j.synced ∧ j.synced ≤ j.bytes.length) ∧ (readR j.bytes).2 = j.bytes.length ∧ ((readR j.bytes).1.length : Int) = j.count := by
  unfold jnOk inB
  simp only [Bool.and_eq_true, decide_eq_true_eq]
  omega
/-- An addition, done: what is read then. -/
theorem jnAdd_read {j : Journal} {s : List UInt8} (h : addC j s = 0) : readR (jnAdd j s).bytes = ((readR j.bytes).1 ++ [s], (jnAdd j s).bytes.length) ∧ jnOk (jnAdd j s) = true := by
  obtain ⟨h1, h2, h3⟩ := addC_yes h
  obtain ⟨a, b, c, d⟩ := jnOk_iff.1 h1
  have e : j.count.toNat = (readR j.bytes).1.length := by omega
  have hr : readR (jnAdd j s).bytes = ((readR j.bytes).1 ++ [s], (jnAdd j s).bytes.length) := by
    unfold jnAdd
    rw [e]
    exact readR_add (by rw [← c]) h2
  refine ⟨hr, jnOk_iff.2 ⟨?_, ?_, ?_, ?_⟩⟩
  · simp only [jnAdd, List.length_append] at h3 ⊢; omega
  · simp only [jnAdd, List.length_append]; omega
  · rw [hr]
  · rw [hr]; simp only [jnAdd, List.length_append, List.length_singleton]; omega
theorem jnOpen_ok {b : List UInt8} (h : b.length ≤ 40000) : jnOk (jnOpen b) = true := by
  have hl := readR_len b
  have hs := readR_self b
  have ht : (b.take (readR b).2).length = (readR b).2 := by rw [List.length_take]; omega
  rw [jnOk_iff]
  unfold jnOpen
  dsimp only
  rw [hs, ht]
  omega
/-- A crash leaves no less than what was read of the synced, and no more records than there were. -/
theorem crash_law {j : Journal} {s : List UInt8} {keep : Int} (h : addC j s = 0) :
    (readR (j.bytes.take j.synced.toNat)).2 ≤ (jnOpen ((jnAdd j s).bytes.take (crashN (jnAdd j s) keep))).bytes.length ∧ (jnOpen ((jnAdd j s).bytes.take (crashN (jnAdd j s) keep))).count ≤ (jnAdd j s).count := by
  obtain ⟨hr, hk⟩ := jnAdd_read h
  obtain ⟨h1, h2, h3⟩ := addC_yes h
  obtain ⟨a, b, c, d⟩ := jnOk_iff.1 h1
  obtain ⟨a', b', c', d'⟩ := jnOk_iff.1 hk
  have hm : j.synced.toNat ≤ crashN (jnAdd j s) keep := by
    unfold crashN
    show j.synced.toNat ≤ (j.synced + _).toNat
    have : 0 ≤ min (max keep 0) (((jnAdd j s).bytes.length : Int) - (jnAdd j s).synced) := by omega
    omega
  have e1 : (jnAdd j s).bytes.take (crashN (jnAdd j s) keep) = j.bytes.take j.synced.toNat ++ ((jnAdd j s).bytes.take (crashN (jnAdd j s) keep)).drop j.synced.toNat := by
    have : j.bytes.take j.synced.toNat = ((jnAdd j s).bytes.take (crashN (jnAdd j s) keep)).take j.synced.toNat := by
      rw [List.take_take, Nat.min_eq_left hm]
      simp only [jnAdd]
      rw [List.take_append_of_le_length (by omega)]
    rw [this, List.take_append_drop]
  have hl := readR_len ((jnAdd j s).bytes.take (crashN (jnAdd j s) keep))
  constructor
  · have := (readR_pre (j.bytes.take j.synced.toNat) (((jnAdd j s).bytes.take (crashN (jnAdd j s) keep)).drop j.synced.toNat)).1
    rw [← e1] at this
    simp only [jnOpen, List.length_take] at this hl ⊢
    omega
  · have := (readR_pre ((jnAdd j s).bytes.take (crashN (jnAdd j s) keep)) ((jnAdd j s).bytes.drop (crashN (jnAdd j s) keep))).2
    rw [List.take_append_drop] at this
    simp only [jnOpen]
    omega
theorem sync_law {j : Journal} (h : jnOk j = true) : jnOk (jnSync j) = true ∧ (jnSync j).bytes.take (crashN (jnSync j) 0) = j.bytes ∧ (jnOpen j.bytes).count = j.count := by
  obtain ⟨a, b, c, d⟩ := jnOk_iff.1 h
  refine ⟨jnOk_iff.2 ⟨a, ?_, c, d⟩, ?_, d⟩
  · simp only [jnSync]; omega
  · have : crashN (jnSync j) 0 = j.bytes.length := by
      unfold crashN jnSync
      simp only
      omega
    rw [this]
    exact List.take_length
end Go.Proofs.Ythmajaeekkbnnaa
