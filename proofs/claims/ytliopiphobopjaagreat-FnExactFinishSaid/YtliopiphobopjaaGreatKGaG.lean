/-
  Vectors: valid, VecAdd, VecSub, VecMin, VecFits, both.
-/
import Derived.Test.YtliopiphobopjaaGreatKShL
import Derived.Test.YtliopiphobopjaaGreatKB8
set_option maxRecDepth 100000
set_option maxHeartbeats 16000000
namespace Go.Proofs.YtliopiphobopjaaGreat
open Go Go.RowKit
attribute [local irreducible] AWp OpsOk OpOk ACalls ChA QsOk MCalls EnC PY

def addV (a b : V3) : V3 := ⟨a.a + b.a, a.b + b.b, a.c + b.c⟩
def subV3 (a b : V3) : V3 := ⟨a.a - b.a, a.b - b.b, a.c - b.c⟩
def minV (a b : V3) : V3 := ⟨min a.a b.a, min a.b b.b, min a.c b.c⟩
def valO (a b v : V3) : Option V3 := if (vecOkB a && (vecOkB b && vecOkB v)) = true then some v else none
@[reducible] def resV (o : Option V3) : List AV := [vecA (o.getD zV), .d (.b o.isSome)]
def fitsB (a b : V3) : Bool := vecOkB a && (vecOkB b && (decide (a.a ≤ b.a) && (decide (a.b ≤ b.b) && decide (a.c ≤ b.c))))
def addO (a b : V3) : Option V3 := valO a b (addV a b)
def subO (a b : V3) : Option V3 := valO a b (subV3 a b)
def minO (a b : V3) : V3 := (valO a b (minV a b)).getD zV
theorem vecOk_in {v : V3} (h : vecOkB v = true) : (0 ≤ v.a ∧ v.a ≤ 1000000) ∧ (0 ≤ v.b ∧ v.b ≤ 1000000) ∧ 0 ≤ v.c ∧ v.c ≤ 1000000 := by
 simp only [vecOkB, Bool.and_eq_true, inB_t] at h
 exact ⟨h.1.1, h.1.2, h.2⟩
theorem vecOk_mk {v : V3} (h1 : 0 ≤ v.a ∧ v.a ≤ 1000000) (h2 : 0 ≤ v.b ∧ v.b ≤ 1000000) (h3 : 0 ≤ v.c ∧ v.c ≤ 1000000) : vecOkB v = true := by
 simp only [vecOkB, Bool.and_eq_true, inB_t]
 exact ⟨⟨h1, h2⟩, h3⟩
theorem valO_n {a b v : V3} (h : vecOkB a = false ∨ vecOkB b = false ∨ vecOkB v = false) : valO a b v = none := by
 unfold valO
 rw [if_neg]
 rcases h with h | h | h <;> simp [h]
theorem valO_s {a b v : V3} (h1 : vecOkB a = true) (h2 : vecOkB b = true) (h3 : vecOkB v = true) : valO a b v = some v := by
 unfold valO
 rw [if_pos]
 simp [h1, h2, h3]
theorem minV_ok {a b : V3} (h1 : vecOkB a = true) (h2 : vecOkB b = true) : vecOkB (minV a b) = true := by
 obtain ⟨a1, a2, a3⟩ := vecOk_in h1
 obtain ⟨b1, b2, b3⟩ := vecOk_in h2
 exact vecOk_mk (by simp only [minV]; omega) (by simp only [minV]; omega) (by simp only [minV]; omega)
theorem minO_s {a b : V3} (h1 : vecOkB a = true) (h2 : vecOkB b = true) : minO a b = minV a b := by
 unfold minO
 rw [valO_s h1 h2 (minV_ok h1 h2)]
 rfl
theorem minO_n {a b : V3} (h : vecOkB a = false ∨ vecOkB b = false) : minO a b = zV := by
 unfold minO
 rw [valO_n (h.imp id Or.inl)]
 rfl
theorem fitsB_iff {a b : V3} : fitsB a b = true ↔ vecOkB a = true ∧ vecOkB b = true ∧ a.a ≤ b.a ∧ a.b ≤ b.b ∧ a.c ≤ b.c := by
 simp only [fitsB, Bool.and_eq_true, decide_eq_true_eq]
theorem subO_s {a b : V3} (h : fitsB b a = true) : subO a b = some (subV3 a b) := by
 obtain ⟨h1, h2, h3, h4, h5⟩ := fitsB_iff.1 h
 obtain ⟨a1, a2, a3⟩ := vecOk_in h1
 obtain ⟨b1, b2, b3⟩ := vecOk_in h2
 exact valO_s h2 h1 (vecOk_mk (by simp only [subV3]; omega) (by simp only [subV3]; omega) (by simp only [subV3]; omega))
theorem subO_n {a b : V3} (h : fitsB b a = false) : subO a b = none := by
 cases hb : (vecOkB a && (vecOkB b && vecOkB (subV3 a b))) with
 | false => unfold subO valO; rw [hb]; rfl
 | true =>
  simp only [Bool.and_eq_true] at hb
  obtain ⟨h1, h2, h3⟩ := hb
  obtain ⟨c1, c2, c3⟩ := vecOk_in h3
  simp only [subV3] at c1 c2 c3
  rw [fitsB_iff.2 ⟨h2, h1, by omega, by omega, by omega⟩] at h
  cases h
theorem valid_e {a b v : V3} : ACalls Tryz.prog 172 [vecA a, vecA b, vecA v] (resV (valO a b v)) [] := by
 refine acalls_of tt Tryz.func172 rfl rfl rfl (fun w0 Z => ?_)
 repeat' (first|refine zst ?_|(refine zhm fun hb=>?_;try exact zab)|refine zg2 ?_ ?_|refine zop ?_|refine kc (vecOk_e (v := a)) rfl rfl ?_|refine kc (vecOk_e (v := b)) rfl rfl ?_|refine kc (vecOk_e (v := v)) rfl rfl ?_|fail)
 ·rw [valO_n (Or.inl (by assumption))]
  exact zr [] zae zae
 ·rw [valO_n (Or.inr (Or.inl (by assumption)))]
  exact zr [] zae zae
 ·rw [valO_n (Or.inr (Or.inr (by assumption)))]
  exact zr [] zae zae
 ·rw [valO_s (by assumption) (by assumption) (by assumption)]
  exact zr [] zae zae
theorem vecSub_e {a b : V3} (ha : vecOkB a = true) (hb' : vecOkB b = true) : ACalls Tryz.prog 245 [vecA a, vecA b] (resV (subO a b)) [] := by
 refine acalls_of tt Tryz.func245 rfl rfl rfl (fun w0 Z => ?_)
 obtain ⟨a1, a2, a3⟩ := vecOk_in ha
 obtain ⟨b1, b2, b3⟩ := vecOk_in hb'
 repeat' (first|refine zst ?_|(refine zhm fun hb=>?_;try exact zab)|refine zg2 ?_ ?_|refine zon ?_|refine kc (valid_e (a := a) (b := b) (v := subV3 a b)) rfl rfl ?_|fail)
 exact zr [] zae zae
theorem vecMin_e {a b : V3} : ACalls Tryz.prog 251 [vecA a, vecA b] [vecA (minO a b)] [] := by
 refine acalls_of tt Tryz.func251 rfl rfl rfl (fun w0 Z => ?_)
 repeat' (first|refine zst ?_|(refine zhm fun hb=>?_;try exact zab)|refine zg2 ?_ ?_|refine zop ?_|refine kc (valid_e (a := a) (b := b) (v := minV a b)) rfl rfl ?_|fail)
 exact zr [] zae zae
theorem vecFits_e {a b : V3} : ACalls Tryz.prog 211 [vecA a, vecA b] [.d (.b (fitsB a b))] [] := by
 refine acalls_of tt Tryz.func211 rfl rfl rfl (fun w0 Z => ?_)
 repeat' (first|refine zst ?_|(refine zhm fun hb=>?_;try exact zab)|refine zg2 ?_ ?_|refine zop ?_|refine kc (vecOk_e (v := a)) rfl rfl ?_|refine kc (vecOk_e (v := b)) rfl rfl ?_|fail)
 all_goals
  refine zr [] ?_ ?_
  repeat'(first|apply And.intro|exact ze0|refine ze1 ?_|refine zei ?_ ?_|exact rfl|trivial)
  refine Stop.mk ?_
  first
   | done
   | (rw [Bool.eq_iff_iff]; simp [fitsB, *]; done)
   | (rw [Bool.eq_iff_iff]; simp [fitsB, *]; omega)
theorem vecFits_s {a b : V3} : ACalls Tryz.prog 259 [vecA a, vecA b] [.d (.b (fitsB a b))] [] := by
 refine acalls_of tt Tryz.func259 rfl rfl rfl (fun w0 Z => ?_)
 repeat' (first|refine zst ?_|(refine zhm fun hb=>?_;try exact zab)|refine zg2 ?_ ?_|refine zop ?_|refine kc (vecOk_s (v := a)) rfl rfl ?_|refine kc (vecOk_s (v := b)) rfl rfl ?_|fail)
 all_goals
  refine zr [] ?_ ?_
  repeat'(first|apply And.intro|exact ze0|refine ze1 ?_|refine zei ?_ ?_|exact rfl|trivial)
  refine Stop.mk ?_
  first
   | done
   | (rw [Bool.eq_iff_iff]; simp [fitsB, *]; done)
   | (rw [Bool.eq_iff_iff]; simp [fitsB, *]; omega)
theorem vecSub_s {a b : V3} : ACalls Tryz.prog 279 [vecA a, vecA b] (resV (subO a b)) [] := by
 refine acalls_of tt Tryz.func279 rfl rfl rfl (fun w0 Z => ?_)
 have hc := vecFits_s (a := b) (b := a)
 cases hf : fitsB b a with
 | false =>
  rw [hf] at hc
  repeat' (first|refine zst ?_|(refine zhm fun hb=>?_;try exact zab)|refine zg2 ?_ ?_|refine zop ?_|refine kc (hc) rfl rfl ?_|fail)
  rw [subO_n hf]
  exact zr [] zae zae
 | true =>
  rw [hf] at hc
  obtain ⟨h1, h2, h3, h4, h5⟩ := fitsB_iff.1 hf
  obtain ⟨a1, a2, a3⟩ := vecOk_in h1
  obtain ⟨b1, b2, b3⟩ := vecOk_in h2
  repeat' (first|refine zst ?_|(refine zhm fun hb=>?_;try exact zab)|refine zg2 ?_ ?_|refine zon ?_|refine kc (hc) rfl rfl ?_|fail)
  rw [subO_s hf]
  exact zr [] zae zae
theorem l01Min_s {a b : Int} : ACalls Tryz.prog 305 [.d (.n .i64 a), .d (.n .i64 b)] [.d (.n .i64 (min a b))] [] := by
 refine acalls_of tt Tryz.func305 rfl rfl rfl (fun w0 Z => ?_)
 repeat' (first|refine zst ?_|(refine zhm fun hb=>?_;try exact zab)|refine zg2 ?_ ?_|refine zop ?_|fail)
 all_goals
  refine zr [] ?_ ?_
  repeat'(first|apply And.intro|exact ze0|refine ze1 ?_|refine zei ?_ ?_|exact rfl|trivial)
  all_goals exact Stop.mk (by omega)
theorem vecMin_s {a b : V3} : ACalls Tryz.prog 277 [vecA a, vecA b] [vecA (minO a b)] [] := by
 refine acalls_of tt Tryz.func277 rfl rfl rfl (fun w0 Z => ?_)
 repeat' (first|refine zst ?_|(refine zhm fun hb=>?_;try exact zab)|refine zdr ?_|(apply zch;exact zcg)|refine HopS.mk fun w0 Z O=>?_|exact zhk|refine zg3 ?_ ?_|refine zop ?_|refine kc (vecOk_s (v := a)) rfl rfl ?_|refine kc (vecOk_s (v := b)) rfl rfl ?_|refine kc (l01Min_s) rfl rfl ?_|refine kq (vecOk_s (v := a)) rfl rfl ?_|refine kq (vecOk_s (v := b)) rfl rfl ?_|refine kq (l01Min_s) rfl rfl ?_|fail)
 ·rw [minO_n (Or.inl (by assumption))]
  exact zr [] zae zae
 ·rw [minO_n (Or.inr (by assumption))]
  exact zr [] zae zae
 ·rw [minO_s (by assumption) (by assumption)]
  exact zr [] zae zae
end Go.Proofs.YtliopiphobopjaaGreat
