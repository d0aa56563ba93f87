/-
  Resize and Submit, both.
-/
import Derived.Test.YtliopiphobopjaaGreatKShL
import Derived.Test.YtliopiphobopjaaGreatKStD
import Derived.Test.YtliopiphobopjaaGreatKCpA
set_option maxRecDepth 100000
set_option maxHeartbeats 16000000
namespace Go.Proofs.YtliopiphobopjaaGreat
open Go Go.RowKit
attribute [local irreducible] AWp OpsOk OpOk ACalls ChA QsOk MCalls NCalls EnC PY

def resz (s : State) (v : V3) : State := { s with lic := v }
noncomputable def resizeO (s : State) (v : V3) : Option State × Int :=
 if stateOkB s = true ∧ vecOkB v = true then if (roomOf (resz s v)).isSome = true then (some (startO (resz s v)), 0) else (none, 9) else (none, 1)
theorem resz_small {n : Nat} {s : State} {v : V3} (h : Small n s) : Small n (resz s v) := ⟨h.par, h.nod, h.up, h.que, h.run, h.end', h.rno⟩
theorem resize_e {s : State} {v : V3} (hs : Small 1048576 s) : SO 56 [stateA s, vecA v] (resizeO s v).1 (resizeO s v).2 := by
 refine acalls_of tt Tryz.func56 rfl rfl rfl (fun w0 Z => ?_)
 have hm : Small 100000000 s := hs.mono (by omega)
 have hR := resz_small (v := v) hm
 have c1 := stateOk_e hm
 have c2 := vecOk_e (v := v)
 have c3 := roomOf_e (hR.mono (m := 1000000000) (by omega))
 unfold resizeO
 cases h : stateOkB s with
 | false =>
  rw [h] at c1
  rw [if_neg (fun h => by cases h.1)]
  repeat' (first|refine zst ?_|(refine zhm fun hb=>?_;try exact zab)|refine zg2 ?_ ?_|refine zop ?_|refine kc (c1) rfl rfl ?_|fail)
  exact zr [] zae zae
 | true =>
  rw [h] at c1
  cases hv : vecOkB v with
  | false =>
   rw [hv] at c2
   rw [if_neg (fun h => by cases h.2)]
   repeat' (first|refine zst ?_|(refine zhm fun hb=>?_;try exact zab)|refine zg2 ?_ ?_|refine zop ?_|refine kc (c1) rfl rfl ?_|refine kc (c2) rfl rfl ?_|fail)
   exact zr [] zae zae
  | true =>
   rw [hv] at c2
   rw [if_pos ⟨rfl, rfl⟩]
   have hq := startQ_of h
   have c4 := started_c hR ⟨hq.queue, hq.depth⟩
   cases hr : roomOf (resz s v) with
   | none =>
    rw [hr] at c3
    rw [if_neg (show ¬ ((none : Option Room).isSome = true) by decide)]
    repeat' (first|refine zst ?_|(refine zhm fun hb=>?_;try exact zab)|refine zg2 ?_ ?_|refine zop ?_|refine kc (c1) rfl rfl ?_|refine kc (c2) rfl rfl ?_|(refine km [] (copyState_d hm) rfl rfl (fun i hi => ?_);(try dsimp only at hi))|(refine km [] (c3) rfl rfl (fun i hi => ?_);(try dsimp only at hi))|fail)
    exact zr [] zae zae
   | some r =>
    rw [hr] at c3
    rw [if_pos (show (some r).isSome = true from rfl)]
    repeat' (first|refine zst ?_|(refine zhm fun hb=>?_;try exact zab)|refine zg2 ?_ ?_|refine zop ?_|refine kc (c1) rfl rfl ?_|refine kc (c2) rfl rfl ?_|refine kc (c4) rfl rfl ?_|(refine km [] (copyState_d hm) rfl rfl (fun i hi => ?_);(try dsimp only at hi))|(refine km [] (c3) rfl rfl (fun i hi => ?_);(try dsimp only at hi))|fail)
    exact zr [30, 1030, 2030, 3030, 4030, 5030] zae zae
theorem resize_s {s : State} {v : V3} (hs : Small 1048576 s) : SS 54 [stateA s, vecA v] (resizeO s v).1 (resizeO s v).2 := by
 refine mcalls_of tt Tryz.func54 rfl rfl rfl trivial (fun _ _ => ⟨trivial, trivial⟩) (fun w0 Z O => ?_)
 have hm : Small 100000000 s := hs.mono (by omega)
 have hR := resz_small (v := v) hm
 have c1 := stateOk_s hm
 have c2 := vecOk_s (v := v)
 have c3 := roomOf_h (hR.mono (m := 1000000000) (by omega))
 unfold resizeO
 cases h : stateOkB s with
 | false =>
  rw [h] at c1
  rw [if_neg (fun h => by cases h.1)]
  repeat' (first|refine zsr ?_|(refine zhm fun hb=>?_;try exact zab)|refine zg2 ?_ ?_|refine zop ?_|refine kc (c1) rfl rfl ?_|fail)
  show AWp _ _ _ _
  refine awp_dena ?_
  apply awp_ret'
  exact zm () [] trivial zae zae zae
 | true =>
  rw [h] at c1
  cases hv : vecOkB v with
  | false =>
   rw [hv] at c2
   rw [if_neg (fun h => by cases h.2)]
   repeat' (first|refine zsr ?_|(refine zhm fun hb=>?_;try exact zab)|refine zg2 ?_ ?_|refine zop ?_|refine kc (c1) rfl rfl ?_|refine kc (c2) rfl rfl ?_|fail)
   show AWp _ _ _ _
   refine awp_dena ?_
   apply awp_ret'
   exact zm () [] trivial zae zae zae
  | true =>
   rw [hv] at c2
   rw [if_pos ⟨rfl, rfl⟩]
   have hq := startQ_of h
   have c4 := l06Start_c hR ⟨hq.queue, hq.depth⟩
   cases hr : roomOf (resz s v) with
   | none =>
    rw [hr] at c3
    rw [if_neg (show ¬ ((none : Option Room).isSome = true) by decide)]
    repeat' (first|refine zsr ?_|(refine zhm fun hb=>?_;try exact zab)|refine zg2 ?_ ?_|refine zop ?_|refine kc (c1) rfl rfl ?_|refine kc (c2) rfl rfl ?_|(refine km [] (l06Copy_h hm) rfl rfl (fun i hi => ?_);(try dsimp only at hi))|(refine km [18, 1018] (c3) rfl rfl (fun i hi => ?_);(try dsimp only at hi))|fail)
    show AWp _ _ _ _
    refine awp_dena ?_
    apply awp_ret'
    exact zm () [] trivial zae zae zae
   | some r =>
    rw [hr] at c3
    rw [if_pos (show (some r).isSome = true from rfl)]
    repeat' (first|refine zsr ?_|(refine zhm fun hb=>?_;try exact zab)|refine zg2 ?_ ?_|refine zop ?_|refine kc (c1) rfl rfl ?_|refine kc (c2) rfl rfl ?_|(refine km [] (l06Copy_h hm) rfl rfl (fun i hi => ?_);(try dsimp only at hi))|(refine km [18, 1018] (c3) rfl rfl (fun i hi => ?_);(try dsimp only at hi))|(refine kn [18, 1018] (c4) rfl rfl (fun i hi => ?_);(try dsimp only at hi))|fail)
    show AWp _ _ _ _
    refine awp_frz 30 rfl ?_
    show AWp _ _ _ _
    refine awp_frz 1030 rfl ?_
    refine awp_dena ?_
    apply awp_ret'
    exact zm () [] trivial zae zae zae
theorem resizeO_small {s : State} {v : V3} (hs : Small 1048576 s) : ∀ s', (resizeO s v).1 = some s' → Small 1048576 s' := fun s' h => by
 unfold resizeO at h
 split at h
 ·rename_i h1
  split at h
  ·cases h
   have hq := startQ_of h1.1
   exact startO_sm ⟨hq.queue, hq.depth⟩ (resz_small hs) (by have := ok_runs h1.1; simp only [resz]; omega)
  ·cases h
 ·cases h
theorem resumeO_small {s : State} {n : Int} (hs : Small 1048576 s) : ∀ s', (resumeO s n).1 = some s' → Small 1048576 s' := fun s' h => by
 unfold resumeO at h
 split at h
 ·rename_i h1
  split at h
  ·cases h
   have hq := startQ_of h1
   exact startO_sm ⟨hq.queue, hq.depth⟩ ⟨hs.par, hs.nod, by rw [resu, List.length_set]; exact hs.up, hs.que, hs.run, hs.end', hs.rno⟩ (by have := ok_runs h1; simp only [resu]; omega)
  ·cases h
 ·cases h
end Go.Proofs.YtliopiphobopjaaGreat
