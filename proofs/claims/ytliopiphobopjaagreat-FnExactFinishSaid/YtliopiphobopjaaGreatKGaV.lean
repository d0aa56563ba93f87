/-
  StateOk, the reference's.
-/
import Derived.Test.YtliopiphobopjaaGreatKShL
import Derived.Test.YtliopiphobopjaaGreatKGaT
set_option maxRecDepth 100000
set_option maxHeartbeats 16000000
namespace Go.Proofs.YtliopiphobopjaaGreat
open Go Go.RowKit
attribute [local irreducible] AWp OpsOk OpOk ACalls ChA QsOk MCalls EnC PY

theorem stateOk_s {s : State} (hs : Small 100000000 s) : ACalls Tryz.prog 76 [stateA s] [.d (.b (stateOkB s))] [] := by
 refine acalls_of tt Tryz.func76 rfl rfl rfl (fun w0 Z => ?_)
 have hs9 := hs.mono (m := 1000000000) (by omega)
 have hel := endE_length s.ends
 have hes := hs.end'
 have c1 := roomOf_s hs9
 cases hr : roomOf s with
 | none =>
  rw [hr] at c1
  rw [stateOk_f fun h => by have := h.room; rw [hr] at this; cases this]
  repeat' (first|refine zst ?_|(refine zhm fun hb=>?_;try exact zab)|refine zdr ?_|(apply zch;exact zcg)|refine HopS.mk fun w0 Z O=>?_|exact zhk|refine zg3 ?_ ?_|refine zln fun _=>?_|refine zop ?_|(refine km [] (c1) rfl rfl (fun i hi => ?_);(try dsimp only at hi))|fail)
  exact zr [] zae zae
 | some r =>
  rw [hr] at c1
  have hR := runsP_of hr
  have hup := hR.up
  have c2 := queueOk_s (allJ_len hs)
  cases hq : queueOkB (allJ s) with
  | false =>
   rw [hq] at c2
   rw [stateOk_f fun h => by have := pB_t.2 h.jobs; unfold queueOkB at hq; rw [hq] at this; cases this]
   repeat' (first|refine zst ?_|(refine zhm fun hb=>?_;try exact zab)|refine zdr ?_|(apply zch;exact zcg)|refine HopS.mk fun w0 Z O=>?_|exact zhk|refine zg3 ?_ ?_|refine zln fun _=>?_|refine zop ?_|refine kc (c2) rfl rfl ?_|(refine km [] (c1) rfl rfl (fun i hi => ?_);(try dsimp only at hi))|(refine km [] (l06Jobs_s hs9) rfl rfl (fun i hi => ?_);(try dsimp only at hi))|refine kq (c2) rfl rfl ?_|fail)
   all_goals
    exact zr [] zae zae
  | true =>
   rw [hq] at c2
   repeat' (first|refine zst ?_|(refine zhm fun hb=>?_;try exact zab)|refine zdr ?_|(apply zch;exact zcg)|refine HopS.mk fun w0 Z O=>?_|exact zhk|refine zg3 ?_ ?_|refine zln fun _=>?_|refine zop ?_|refine kc (c2) rfl rfl ?_|(refine km [] (c1) rfl rfl (fun i hi => ?_);(try dsimp only at hi))|(refine km [] (l06Jobs_s hs9) rfl rfl (fun i hi => ?_);(try dsimp only at hi))|refine kq (c2) rfl rfl ?_|fail)
   any_goals
    rw [stateOk_f fun h => by have h1 := h.depth; have h2 := h.ends; omega]
    refine zr [] ?_ ?_
    repeat'(first|apply And.intro|exact ze0|refine ze1 ?_|refine zei ?_ ?_|exact rfl|trivial)
    all_goals exact Stop.mk rfl
   refine awp_loop (fun (n : Nat) => ⟨127, [(1, .ptr 1 0), (41, .d (.sl (runE s.runs))), (42, .d (.n .i64 (s.runs.length : Nat))), (43, .d (.n .i64 n))], [(1, .box 44 (stateC s))]⟩) (fun n => n ≤ s.runs.length ∧ ∀ j, j < n → RunP s (nth s.runs j)) (fun n => s.runs.length - n) 0 (by exact ⟨Nat.zero_le _, fun j hj => absurd hj (Nat.not_lt_zero _)⟩) ?_ ?_
   ·refine ⟨rfl, ?_, ?_, rfl⟩
    repeat'(first|apply And.intro|exact ze0|refine ze1 ?_|refine zei ?_ ?_|exact rfl|trivial)
    all_goals exact Stop.mk (by first | rfl | exact runE_length _)
   ·rintro n ⟨hn, hp⟩
    have hrl := runE_length s.runs
    by_cases hn' : n < s.runs.length
    ·obtain ⟨hj, hd⟩ := hR.runs n hn'
     have hnl := intE_length (nth s.runs n).nodes
     have hnum := hd.num
     have hjn := (jobOk_in hj).1
     have hbl := boolE_length s.up
     have hrn := hs.rno n hn'
     repeat' (first|refine zst ?_|(refine zhm fun hb=>?_;try exact zab)|refine zdr ?_|(apply zch;exact zcg)|refine HopS.mk fun w0 Z O=>?_|exact zhk|refine zg3 ?_ ?_|refine zln fun _=>?_|refine zop ?_|fail)
     refine awp_loop (fun (m : Nat) => ⟨127, [(1, .ptr 1 0), (6, .ptr 6 0), (41, .d (.sl (runE s.runs))), (42, .d (.n .i64 (s.runs.length : Nat))), (43, .d (.n .i64 n)), (48, .d (.sl (intE (nth s.runs n).nodes))), (49, .d (.n .i64 ((nth s.runs n).nodes.length : Nat))), (50, .d (.n .i64 m))], [(1, .box 44 (stateC s)), (6, .box 116 ((runD (nth s.runs n)).map AV.d))]⟩) (fun m => m ≤ (nth s.runs n).nodes.length ∧ ∀ k, k < m → nth s.up (nth (nth s.runs n).nodes k).toNat = true ∧ (0 < k → nth (nth s.runs n).nodes (k - 1) < nth (nth s.runs n).nodes k)) (fun m => (nth s.runs n).nodes.length - m) 0 (by exact ⟨Nat.zero_le _, fun j hj => absurd hj (Nat.not_lt_zero _)⟩) ?_ ?_
     ·refine ⟨rfl, ?_, ?_, rfl⟩
      repeat'(first|apply And.intro|exact ze0|refine ze1 ?_|refine zei ?_ ?_|exact rfl|trivial)
      all_goals exact Stop.mk (by first | rfl | exact intE_length _)
     ·rintro m ⟨hm, hk⟩
      by_cases hm' : m < (nth s.runs n).nodes.length
      ·have hin := hd.nodes m hm'
       repeat' (first|refine zst ?_|(refine zhm fun hb=>?_;try exact zab)|refine zdr ?_|(apply zch;exact zcg)|refine HopS.mk fun w0 Z O=>?_|exact zhk|refine zg3 ?_ ?_|refine zln fun _=>?_|refine zop ?_|fail)
       ·rw [stateOk_f fun h => by have h1 := (h.runs n hn').up m hm'; simp_all]
        exact zr [] zae zae
       ·rw [stateOk_f fun h => by have h1 := (h.runs n hn').asc (m - 1) (by omega); rw [show m - 1 + 1 = m by omega] at h1; omega]
        exact zr [] zae zae
       ·refine ⟨m + 1, ⟨by omega, fun k hk' => ?_⟩, by omega, ?_⟩
        ·by_cases e : k = m
         ·subst e; exact ⟨by assumption, fun _ => by omega⟩
         ·exact hk k (by omega)
        exact ⟨rfl, zae, zae, rfl⟩
       ·refine ⟨m + 1, ⟨by omega, fun k hk' => ?_⟩, by omega, ?_⟩
        ·by_cases e : k = m
         ·subst e; exact ⟨by assumption, fun _ => by omega⟩
         ·exact hk k (by omega)
        exact ⟨rfl, zae, zae, rfl⟩
      ·have hlow := lowI_in hR.topo hd.nodes
       have hlen := hR.topo.len
       have c4 := lowest_s hR.topo hd.nodes (by omega) (by omega)
       rw [low_cast hR.topo hd.nodes] at c4
       have c5 := l02Level_c (t := s.topo) (by omega) hR.topo.valid s.topo.parents.length (lowI s.topo (nth s.runs n).nodes).toNat (by omega) (by omega)
       rw [lv_lvl hR.topo.valid hR.topo.even (by omega)] at c5
       repeat' (first|refine zst ?_|(refine zhm fun hb=>?_;try exact zab)|refine zdr ?_|(apply zch;exact zcg)|refine HopS.mk fun w0 Z O=>?_|exact zhk|refine zg3 ?_ ?_|refine zln fun _=>?_|refine zop ?_|refine kc (c4) rfl rfl ?_|refine kc (c5) rfl rfl ?_|refine kq (c4) rfl rfl ?_|refine kq (c5) rfl rfl ?_|fail)
       ·rw [stateOk_f fun h => by have h1 := (h.runs n hn').level; omega]
        exact zr [] zae zae
       ·refine ⟨n + 1, ⟨by omega, fun j hj' => ?_⟩, by omega, ?_⟩
        ·by_cases e : j = n
         ·subst e
          exact ⟨fun i hi => (hk i (by omega)).1, fun i hi => (hk (i + 1) (by omega)).2 (Nat.succ_pos _), by omega⟩
         ·exact hp j (by omega)
        exact ⟨rfl, zae, zae, rfl⟩
    ·repeat' (first|refine zst ?_|(refine zhm fun hb=>?_;try exact zab)|refine zdr ?_|(apply zch;exact zcg)|refine HopS.mk fun w0 Z O=>?_|exact zhk|refine zg3 ?_ ?_|refine zln fun _=>?_|refine zop ?_|fail)
     refine awp_loop (fun (n : Nat) => ⟨127, [(1, .ptr 1 0), (90, .d (.sl (endE s.ends))), (91, .d (.n .i64 (s.ends.length : Nat))), (92, .d (.n .i64 n))], [(1, .box 44 (stateC s))]⟩) (fun n => n ≤ s.ends.length ∧ ∀ j, j < n → endB s.now (nth s.ends j) = true) (fun n => s.ends.length - n) 0 (by exact ⟨Nat.zero_le _, fun j hj => absurd hj (Nat.not_lt_zero _)⟩) ?_ ?_
     ·refine ⟨rfl, ?_, ?_, rfl⟩
      repeat'(first|apply And.intro|exact ze0|refine ze1 ?_|refine zei ?_ ?_|exact rfl|trivial)
      all_goals exact Stop.mk (by first | rfl | exact endE_length _)
     ·rintro m ⟨hm, hk⟩
      by_cases hm' : m < s.ends.length
      ·repeat' (first|refine zst ?_|(refine zhm fun hb=>?_;try exact zab)|refine zdr ?_|(apply zch;exact zcg)|refine HopS.mk fun w0 Z O=>?_|exact zhk|refine zg3 ?_ ?_|refine zln fun _=>?_|refine zop ?_|fail)
       any_goals
        rw [stateOk_f fun h => by have h1 := h.endsOk m hm'; simp only [endB, Bool.and_eq_true, inB_t] at h1; omega]
        refine zr [] ?_ ?_
        repeat'(first|apply And.intro|exact ze0|refine ze1 ?_|refine zei ?_ ?_|exact rfl|trivial)
        all_goals exact Stop.mk rfl
       refine ⟨m + 1, ⟨by omega, fun j hj' => ?_⟩, by omega, ?_⟩
       ·by_cases e : j = m
        ·subst e
         simp only [endB, Bool.and_eq_true, inB_t]
         omega
        ·exact hk j (by omega)
       exact ⟨rfl, zae, zae, rfl⟩
      ·rw [show stateOkB s = true from pB_t.2 ⟨by rw [hr]; rfl, by omega, pB_t.1 hq, by omega, fun j hj => hp j (by omega), fun j hj => hk j (by omega)⟩]
       repeat' (first|refine zst ?_|(refine zhm fun hb=>?_;try exact zab)|refine zdr ?_|(apply zch;exact zcg)|refine HopS.mk fun w0 Z O=>?_|exact zhk|refine zg3 ?_ ?_|refine zln fun _=>?_|refine zop ?_|fail)
       exact zr [] zae zae
end Go.Proofs.YtliopiphobopjaaGreat
