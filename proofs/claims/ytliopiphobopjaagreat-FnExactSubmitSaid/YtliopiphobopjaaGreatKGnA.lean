/-
  The law's functions over reservations: marks, equality with itself.
-/
import Derived.Test.YtliopiphobopjaaGreatKShL
import Derived.Test.YtliopiphobopjaaGreatKB10
import Derived.Test.YtliopiphobopjaaGreatKB16
set_option maxRecDepth 100000
set_option maxHeartbeats 16000000
namespace Go.Proofs.YtliopiphobopjaaGreat
open Go Go.RowKit
attribute [local irreducible] AWp OpsOk OpOk ACalls ChA QsOk MCalls EnC PY
def mH (k : Nat) (r : HeldS) : HeldS := ⟨(k : Int), ((k + 1 : Nat) : Int), markL (gI (k + 2)) r.nodes.length⟩
@[reducible] def wH (r : HeldS) : Nat := 2 + r.nodes.length
theorem heldE_at {l : List HeldS} {j : Nat} (h : j < l.length) : (heldE l)[j]? = some (heldD (nth l j)) := map_at h
theorem markHeldS_m {l : List HeldS} {k : Nat} (h : l.length ≤ 1048576) (hr : ∀ j, j < l.length → (nth l j).nodes.length ≤ 1048576) (hk : k ≤ 1000000000000000) : MCalls Tryz.prog 45 [.row 1000000, .d (.n .i64 k)] [(1000000, .row 159 (heldE l) true)] (fun (_ : Unit) => True) (fun _ => [.d (.n .i64 ((kSq wH k l : Nat) : Int))]) (fun _ => [(1000000, .row 159 (heldE (mSq mH wH k l)) true)]) (fun _ => []) := by
 refine mcalls_of tt Tryz.func45 rfl rfl rfl ⟨.inl rfl, trivial⟩ (fun _ _ => ⟨⟨⟨rfl, rfl, (lens_map (f := heldD) (z := 3) (fun _ => rfl) (mSq_length mH wH _ _)).symm⟩, trivial⟩, .inl rfl, trivial⟩) (fun w0 Z O => ?_)
 repeat' (first|refine zst ?_|(refine zhm fun hb=>?_;try exact zab)|refine zg2 ?_ ?_|refine zln fun _=>?_|refine zop ?_|fail)
 refine awp_loop (fun (i : Nat) => ⟨34, [(0, .row 1000000), (1, .d (.n .i64 ((kAtS wH k l i : Nat) : Int))), (5, .d (.n .i64 i))], [(1000000, .row 159 (heldE (mxS mH wH k l i)) true)]⟩) (fun i => i ≤ l.length) (fun i => l.length - i) 0 (by omega) ?_ ?_
 ·exact ⟨rfl, zae, zae, rfl⟩
 ·intro i hi
  have hl3 := mxS_length mH wH (k := k) hi
  have hl2 : (heldE (mxS mH wH k l i)).length = l.length := by rw [heldE_length, hl3]
  by_cases hi' : i < l.length
  ·have hat := heldE_at (l := mxS mH wH k l i) (j := i) (by omega)
   rw [mxS_nth mH wH hi'] at hat
   have hnl := hr i hi'
   have hka := kAtS_le wH (c := 1048578) (k := k) (j := i) (fun i hi => by have := hr i hi; simp only [wH]; omega) h
   have hst : kAtS wH k l (i + 1) = kAtS wH k l i + (2 + (nth l i).nodes.length) := (step_S mH wH k l i hi').2
   have hset := mxS_set mH wH (f := heldD) (k := k) hi'
   generalize kAtS wH k l i = q at *
   repeat' (first|(refine ops_takecall (z1 := 1) (es1 := intE (nth l i).nodes) (es2 := intE (markL (gI (q + 2)) (nth l i).nodes.length)) (kv := ((q + 2 : Nat) : Int)) (kr := ((q + 2 + 1 * (nth l i).nodes.length : Nat) : Int)) rfl rfl rfl rfl rfl rfl (List.getElem?_set_self (by omega)) rfl rfl rfl rfl rfl rfl (by intro k h;injection h with h;subst h;rfl) rfl rfl rfl rfl rfl rfl mapE_int (flatE_map fun _ => rfl) (flatE_map fun _ => rfl) (by rw [intE_length', intE_length', markL_length]) (fun _ e' he => markIntS_m he (by omega) (by omega)) (fun he => by rw [show (nth l i).nodes.length = 0 from by rw [← intE_length', he];rfl];exact markIntS_0) ?_)|refine zst ?_|(refine zhm fun hb=>?_;try exact zab)|refine zg2 ?_ ?_|(apply op_id;first|(refine st_storeDS rfl rfl rfl rfl rfl hl2 (by omega) rfl rfl rfl rfl ?_)|(refine st_storeD rfl rfl rfl rfl rfl hl2 (by omega) hat rfl rfl rfl rfl ?_))|refine zln fun _=>?_|refine zop ?_|fail)
   refine ⟨i + 1, by omega, by omega, ?_⟩
   refine ⟨rfl, ?_, ?_, rfl⟩
   repeat'(first|apply And.intro|exact ze0|refine ze1 ?_|refine zei ?_ ?_|exact rfl|trivial)
   all_goals exact Stop.mk (by first | rfl | exact (List.set_set ..).trans hset | (rw [hst]; congr 1; omega))
  ·obtain rfl : i = l.length := by omega
   repeat' (first|refine zst ?_|(refine zhm fun hb=>?_;try exact zab)|refine zg2 ?_ ?_|refine zln fun _=>?_|refine zop ?_|fail)
   refine zm () [] (by exact trivial) ?_ ?_ ?_
   repeat'(first|apply And.intro|exact ze0|refine ze1 ?_|refine zei ?_ ?_|exact rfl|trivial)
   all_goals exact Stop.mk (by first | rfl | rw [mxS_all] | rw [kAtS_all])
theorem heldHeldS_e {l : List HeldS} {k : Nat} (h : l.length ≤ 1048576) (hr : ∀ j, j < l.length → (nth l j).nodes.length ≤ 1048576) (hk : k ≤ 1000000000000000) : ACalls Tryz.prog 46 [.d (.sl (heldE (mSq mH wH k l))), .d (.n .i64 k)] [.d (.n .i64 ((kSq wH k l : Nat) : Int))] [] := by
  refine acalls_of tt Tryz.func46 rfl rfl rfl (fun w0 Z => ?_)
  have hl : (heldE (mSq mH wH k l)).length = l.length := by rw [heldE_length, mSq_length]
  have hl2 := mSq_length mH wH k l
  repeat' (first|refine zst ?_|(refine zhm fun hb=>?_;try exact zab)|refine zg2 ?_ ?_|refine zln fun _=>?_|refine zop ?_|fail)
  refine awp_loop (fun (i : Nat) => ⟨40, [(0, .d (.sl (heldE (mSq mH wH k l)))), (1, .d (.n .i64 ((kAtS wH k l i : Nat) : Int))), (5, .d (.n .i64 i))], []⟩) (fun i => i ≤ l.length) (fun i => l.length - i) 0 (by omega) ?_ ?_
  · exact ⟨rfl, zae, zae, rfl⟩
  · intro i hi
    by_cases hi' : i < l.length
    · have hnl := hr i hi'
      have hka := kAtS_le wH (c := 1048578) (k := k) (j := i) (fun i hi => by have := hr i hi; simp only [wH]; omega) h
      have hst : kAtS wH k l (i + 1) = kAtS wH k l i + (2 + (nth l i).nodes.length) := (step_S mH wH k l i hi').2
      have hat : (heldE (mSq mH wH k l))[i]? = some (heldD (mH (kAtS wH k l i) (nth l i))) := by rw [← mSq_nth mH wH k l i hi']; exact heldE_at (by rw [mSq_length]; exact hi')
      repeat' (first|refine zst ?_|(refine zhm fun hb=>?_;try exact zab)|refine zg2 ?_ ?_|(apply op_id;first|(refine QOk.ok (st_idxn rfl rfl rfl rfl rfl (nlit _) hl (by omega) hat rfl rfl ?_)))|refine zln fun _=>?_|refine zop ?_|refine kc (heldIntS_e (n := (nth l i).nodes.length) (k := kAtS wH k l i + 2) (by omega) (by omega)) rfl rfl ?_|fail)
      all_goals first
        | (exact absurd rfl hb)
        | (refine ⟨i + 1, by omega, by omega, ?_⟩
           refine ⟨rfl, ?_, ?_, rfl⟩
           repeat'(first|apply And.intro|exact ze0|refine ze1 ?_|refine zei ?_ ?_|exact rfl|trivial)
           all_goals exact Stop.mk (by first | rfl | (rw [hst]; congr 1; omega)))
    · obtain rfl : i = l.length := by omega
      repeat' (first|refine zst ?_|(refine zhm fun hb=>?_;try exact zab)|refine zg2 ?_ ?_|refine zln fun _=>?_|refine zop ?_|fail)
      refine zr [] ?_ ?_
      repeat'(first|apply And.intro|exact ze0|refine ze1 ?_|refine zei ?_ ?_|exact rfl|trivial)
      all_goals exact Stop.mk (by first | rfl | rw [kAtS_all])
theorem markHeldS_0 {k : Nat} : ACalls Tryz.prog 45 [.d (.sl []), .d (.n .i64 k)] [.d (.n .i64 k)] [] := by
 refine acalls_of tt Tryz.func45 rfl rfl rfl (fun w0 Z => ?_)
 repeat' (first|refine zst ?_|(refine zhm fun hb=>?_;try exact zab)|refine zg2 ?_ ?_|refine zln fun _=>?_|refine zop ?_|fail)
 refine awp_loop (fun (_ : Unit) => ⟨34, [(0, .d (.sl [])), (1, .d (.n .i64 k)), (5, .d (.n .i64 0))], []⟩) (fun _ => True) (fun _ => 0) () trivial ?_ ?_
 ·exact ⟨rfl, zae, zae, rfl⟩
 ·intro i hi
  repeat' (first|refine zst ?_|(refine zhm fun hb=>?_;try exact zab)|refine zg2 ?_ ?_|refine zln fun _=>?_|refine zop ?_|fail)
  exact zr [] zae zae
theorem eqHeld_r {r : HeldS} (h : r.nodes.length ≤ 1000000000) : ACalls Tryz.prog 118 [.agg ((heldD r).map AV.d), .agg ((heldD r).map AV.d)] [.d (.b true)] [] := by
 refine acalls_of tt Tryz.func118 rfl rfl rfl (fun w0 Z => ?_)
 repeat' (first|refine zst ?_|(refine zhm fun hb=>?_;try exact zab)|refine zg2 ?_ ?_|refine zop ?_|refine kc (eqIntS_r (l := r.nodes) h) rfl rfl ?_|fail)
 all_goals first | exact absurd rfl (by assumption) | skip
 exact zr [] zae zae
theorem eqHeldS_r {l : List HeldS} (h : l.length ≤ 1000000000) (hr : ∀ j, j < l.length → (nth l j).nodes.length ≤ 1000000000) : ACalls Tryz.prog 44 [.d (.sl (heldE l)), .d (.sl (heldE l))] [.d (.b true)] [] := by
 refine acalls_of tt Tryz.func44 rfl rfl rfl (fun w0 Z => ?_)
 have hl := heldE_length l
 repeat' (first|refine zst ?_|(refine zhm fun hb=>?_;try exact zab)|refine zdr ?_|(apply zch;exact zcg)|refine HopS.mk fun w0 Z O=>?_|exact zhk|refine zg3 ?_ ?_|refine zln fun _=>?_|refine zop ?_|fail)
 all_goals first | exact absurd rfl (by assumption) | skip
 refine awp_loop (fun (i : Nat) => ⟨27, [(0, .d (.sl (heldE l))), (1, .d (.sl (heldE l))), (5, .d (.n .i64 i))], []⟩) (fun i => i ≤ l.length) (fun i => l.length - i) 0 (by exact Nat.zero_le _) ?_ ?_
 ·exact ⟨rfl, zae, zae, rfl⟩
 ·intro i hi
  by_cases hi' : i < l.length
  ·repeat' (first|refine zst ?_|(refine zhm fun hb=>?_;try exact zab)|refine zdr ?_|(apply zch;exact zcg)|refine HopS.mk fun w0 Z O=>?_|exact zhk|refine zg3 ?_ ?_|refine zln fun _=>?_|refine zop ?_|refine kc (eqHeld_r (r := nth l i) (hr i hi')) rfl rfl ?_|refine kq (eqHeld_r (r := nth l i) (hr i hi')) rfl rfl ?_|fail)
   all_goals first | exact absurd rfl (by assumption) | skip
   refine ⟨i + 1, by omega, by omega, ?_⟩
   exact ⟨rfl, zae, zae, rfl⟩
  ·repeat' (first|refine zst ?_|(refine zhm fun hb=>?_;try exact zab)|refine zdr ?_|(apply zch;exact zcg)|refine HopS.mk fun w0 Z O=>?_|exact zhk|refine zg3 ?_ ?_|refine zln fun _=>?_|refine zop ?_|fail)
   exact zr [] zae zae
end Go.Proofs.YtliopiphobopjaaGreat
