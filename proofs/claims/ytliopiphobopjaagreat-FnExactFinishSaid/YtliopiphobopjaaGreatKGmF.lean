/-
  The law's marks in states.
-/
import Derived.Test.YtliopiphobopjaaGreatKShL
import Derived.Test.YtliopiphobopjaaGreatKB10
import Derived.Test.YtliopiphobopjaaGreatKGmC
set_option maxRecDepth 100000
set_option maxHeartbeats 16000000
namespace Go.Proofs.YtliopiphobopjaaGreat
open Go Go.RowKit
attribute [local irreducible] AWp OpsOk OpOk ACalls ChA QsOk MCalls EnC PY
theorem heldRunS_e {l : List Run} {k : Nat} (h : l.length ≤ 1048576) (hr : ∀ j, j < l.length → (nth l j).nodes.length ≤ 1048576) (hk : k ≤ 1000000000000000) : ACalls Tryz.prog 132 [.d (.sl (runE (mRs k l))), .d (.n .i64 k)] [.d (.n .i64 ((kR k l : Nat) : Int))] [] := by
  refine acalls_of tt Tryz.func132 rfl rfl rfl (fun w0 Z => ?_)
  have hl : (runE (mRs k l)).length = l.length := by rw [runE_length, mRs_length]
  have hl2 := mRs_length k l
  repeat' (first|refine zst ?_|(refine zhm fun hb=>?_;try exact zab)|refine zg2 ?_ ?_|refine zln fun _=>?_|refine zop ?_|fail)
  refine awp_loop (fun (i : Nat) => ⟨147, [(0, .d (.sl (runE (mRs k l)))), (1, .d (.n .i64 ((kAt k l i : Nat) : Int))), (5, .d (.n .i64 i))], []⟩) (fun i => i ≤ l.length) (fun i => l.length - i) 0 (by omega) ?_ ?_
  · refine ⟨rfl, ?_, ?_, rfl⟩
    repeat'(first|apply And.intro|exact ze0|refine ze1 ?_|refine zei ?_ ?_|exact rfl|trivial)
    all_goals exact Stop.mk (by first | rfl)
  · intro i hi
    by_cases hi' : i < l.length
    · have hka := kAt_le (k := k) (j := i) hr h
      have hnl := hr i hi'
      have hst := (step_R k l i hi').2
      have hat : (runE (mRs k l))[i]? = some (runD (mR (kAt k l i) (nth l i))) := by rw [← mRs_nth k l i hi']; exact runE_at (by rw [mRs_length]; exact hi')
      repeat' (first|refine zst ?_|(refine zhm fun hb=>?_;try exact zab)|refine zg2 ?_ ?_|(apply op_id;first|(refine QOk.ok (st_idxn rfl rfl rfl rfl rfl (nlit _) hl (by omega) hat rfl rfl ?_)))|refine zln fun _=>?_|refine zop ?_|refine kc (heldIntS_e (n := (nth l i).nodes.length) (k := kAt k l i + 12) (by omega) (by omega)) rfl rfl ?_|fail)
      all_goals first
        | (exact absurd rfl hb)
        | (refine ⟨i + 1, by omega, by omega, ?_⟩
           refine ⟨rfl, ?_, ?_, rfl⟩
           repeat'(first|apply And.intro|exact ze0|refine ze1 ?_|refine zei ?_ ?_|exact rfl|trivial)
           all_goals exact Stop.mk (by first | rfl | (rw [hst]; congr 1; omega)))
    · obtain rfl : i = l.length := by omega
      repeat' (first|refine zst ?_|(refine zhm fun hb=>?_;try exact zab)|refine zg2 ?_ ?_|refine zln fun _=>?_|refine zop ?_|fail)
      refine zr [] ?_ ?_
      repeat'(first|apply And.intro|exact ze0|refine ze1 ?_|refine zei ?_ ?_|exact rfl|trivial)
      all_goals exact Stop.mk (by first | rfl | rw [kAt_all])
def mTp (k : Nat) (t : Topo) : Topo := ⟨markL (gI k) t.parents.length, markL (gN (k + 1 * t.parents.length)) t.nodes.length⟩
def kTp (k : Nat) (t : Topo) : Nat := k + 1 * t.parents.length + 4 * t.nodes.length
def kUp (k : Nat) (s : State) : Nat := kTp k s.topo + 1 * s.up.length
def kQu (k : Nat) (s : State) : Nat := kUp k s + 11 * s.queue.length
def kRu (k : Nat) (s : State) : Nat := kR (kQu k s) s.runs
def kSt (k : Nat) (s : State) : Nat := kRu k s + 3 * s.ends.length
def mSt (k : Nat) (s : State) : State := ⟨mTp k s.topo, markL (gO (kTp k s.topo)) s.up.length, s.lic, s.depth, s.now, markL (gJ (kUp k s)) s.queue.length, mRs (kQu k s) s.runs, markL (gE (kRu k s)) s.ends.length⟩
theorem kRu_le {s : State} {k : Nat} (h : Small 1048576 s) (hk : k ≤ 100000000000000) : k ≤ kTp k s.topo ∧ kTp k s.topo ≤ kUp k s ∧ kUp k s ≤ kQu k s ∧ kQu k s ≤ kRu k s ∧ kRu k s ≤ kSt k s ∧ kQu k s ≤ 1000000000000000 ∧ kSt k s ≤ k + 1200000000000 := by
 have h1 := h.par; have h2 := h.nod; have h3 := h.up; have h4 := h.que; have h5 := h.run; have h6 := h.end'
 have h7 := kAt_le (k := kQu k s) (j := s.runs.length) h.rno h.run
 rw [kAt_all] at h7
 unfold kSt kRu
 have e1 : kTp k s.topo = k + 1 * s.topo.parents.length + 4 * s.topo.nodes.length := rfl
 have e2 : kUp k s = kTp k s.topo + 1 * s.up.length := rfl
 have e3 : kQu k s = kUp k s + 11 * s.queue.length := rfl
 omega
theorem tsz : (Tryz.prog.info? 3).map (·.size) = some 1 := ti3.sized
theorem lnI {g : Nat → Int} {l : List Int} : (intE l).map List.length = (intE (markL g l.length)).map List.length := (lens_map (f := (fun (x : Int) => ([.n .i64 x] : List D))) (z := 1) (fun _ => rfl) (markL_length _ _)).symm
theorem lnN {g : Nat → Node} {l : List Node} : (nodeE l).map List.length = (nodeE (markL g l.length)).map List.length := (lens_map (f := (fun (n : Node) => ([.n .i64 n.leaf, .n .i64 n.cap.a, .n .i64 n.cap.b, .n .i64 n.cap.c] : List D))) (z := 4) (fun _ => rfl) (markL_length _ _)).symm
theorem lnB {g : Nat → Bool} {l : List Bool} : (boolE l).map List.length = (boolE (markL g l.length)).map List.length := (lens_map (f := (fun (b : Bool) => ([.b b] : List D))) (z := 1) (fun _ => rfl) (markL_length _ _)).symm
theorem lnJ {g : Nat → Job} {l : List Job} : (jobE l).map List.length = (jobE (markL g l.length)).map List.length := (lens_map (f := jobD) (z := 11) (fun _ => rfl) (markL_length _ _)).symm
theorem lnR {k : Nat} {l : List Run} : (runE l).map List.length = (runE (mRs k l)).map List.length := (lens_map (f := runD) (z := 13) (fun _ => rfl) (mRs_length _ _)).symm
theorem lnE {g : Nat → EndS} {l : List EndS} : (endE l).map List.length = (endE (markL g l.length)).map List.length := (lens_map (f := (fun (e : EndS) => ([.n .i64 e.id, .n .i64 e.at', .n .i64 e.why] : List D))) (z := 3) (fun _ => rfl) (markL_length _ _)).symm
theorem markTopo_m {t : Topo} {k : Nat} (h1 : t.parents.length ≤ 1048576) (h2 : t.nodes.length ≤ 1048576) (hk : k ≤ 1000000000000000) : MCalls Tryz.prog 97 [.agg [.row 1000000, .row 1000001], .d (.n .i64 k)] [(1000000, .row 3 (intE t.parents) true), (1000001, .row 204 (nodeE t.nodes) true)] (fun (_ : Unit) => True) (fun _ => [.d (.n .i64 ((kTp k t : Nat) : Int))]) (fun _ => [(1000000, .row 3 (intE (mTp k t).parents) true), (1000001, .row 204 (nodeE (mTp k t).nodes) true)]) (fun _ => []) := by
 refine mcalls_of tt Tryz.func97 rfl rfl rfl ⟨.inl rfl, .inl rfl, trivial⟩ (fun _ _ => ⟨⟨⟨rfl, rfl, lnI⟩, ⟨rfl, rfl, lnN⟩, trivial⟩, .inl rfl, .inl rfl, trivial⟩) (fun w0 Z O => ?_)
 repeat' (first|refine zst ?_|(refine zhm fun hb=>?_;try exact zab)|refine zg2 ?_ ?_|refine zop ?_|(refine km [1000000] (markIntS_m (l := t.parents) (k := k) tsz (by omega) (by omega)) rfl rfl (fun i hi => ?_);(try dsimp only at hi))|(refine km [1000001] (markNodeS_m (l := t.nodes) (k := k + 1 * t.parents.length) (by omega) (by omega)) rfl rfl (fun i hi => ?_);(try dsimp only at hi))|fail)
 exact zm () [] (by exact trivial) zae zae zae
theorem markState_m {s : State} {k : Nat} (h : Small 1048576 s) (hk : k ≤ 100000000000000) : MCalls Tryz.prog 29 [stateO s 1000000 1000001 1000002 1000003 1000004 1000005, .d (.n .i64 k)] [(1000000, .row 3 (intE s.topo.parents) true), (1000001, .row 204 (nodeE s.topo.nodes) true), (1000002, .row 4 (boolE s.up) true), (1000003, .row 94 (jobE s.queue) true), (1000004, .row 116 (runE s.runs) true), (1000005, .row 134 (endE s.ends) true)]
  (fun (_ : Unit) => True) (fun _ => [.d (.n .i64 ((kSt k s : Nat) : Int))]) (fun _ => [(1000000, .row 3 (intE (mSt k s).topo.parents) true), (1000001, .row 204 (nodeE (mSt k s).topo.nodes) true), (1000002, .row 4 (boolE (mSt k s).up) true), (1000003, .row 94 (jobE (mSt k s).queue) true), (1000004, .row 116 (runE (mSt k s).runs) true), (1000005, .row 134 (endE (mSt k s).ends) true)]) (fun _ => []) := by
 refine mcalls_of tt Tryz.func29 rfl rfl rfl ⟨.inl rfl, .inl rfl, .inl rfl, .inl rfl, .inl rfl, .inl rfl, trivial⟩ (fun _ _ => ⟨⟨⟨rfl, rfl, lnI⟩, ⟨rfl, rfl, lnN⟩, ⟨rfl, rfl, lnB⟩, ⟨rfl, rfl, lnJ⟩, ⟨rfl, rfl, lnR⟩, ⟨rfl, rfl, lnE⟩, trivial⟩, .inl rfl, .inl rfl, .inl rfl, .inl rfl, .inl rfl, .inl rfl, trivial⟩) (fun w0 Z O => ?_)
 have hb := kRu_le h hk
 have h1 := h.par; have h2 := h.nod; have h3 := h.up; have h4 := h.que; have h5 := h.run; have h6 := h.end'
 repeat' (first|refine zst ?_|(refine zhm fun hb=>?_;try exact zab)|refine zg2 ?_ ?_|refine zop ?_|(refine km [1000000, 1000001] (markTopo_m (t := s.topo) (k := k) h1 h2 (by omega)) rfl rfl (fun i hi => ?_);(try dsimp only at hi))|(refine km [1000002] (markBoolS_m (l := s.up) (k := kTp k s.topo) (by omega) (by omega)) rfl rfl (fun i hi => ?_);(try dsimp only at hi))|(refine km [1000003] (markJobS_m (l := s.queue) (k := kUp k s) (by omega) (by omega)) rfl rfl (fun i hi => ?_);(try dsimp only at hi))|(refine km [1000004] (markRunS_m (l := s.runs) (k := kQu k s) h5 h.rno (by omega)) rfl rfl (fun i hi => ?_);(try dsimp only at hi))|(refine km [1000005] (markEndS_m (l := s.ends) (k := kRu k s) (by omega) (by omega)) rfl rfl (fun i hi => ?_);(try dsimp only at hi))|fail)
 exact zm () [] (by exact trivial) zae zae zae
theorem heldTopo_e {t : Topo} {k : Nat} (h1 : t.parents.length ≤ 1048576) (h2 : t.nodes.length ≤ 1048576) (hk : k ≤ 1000000000000000) : ACalls Tryz.prog 129 [topoA (mTp k t), .d (.n .i64 k)] [.d (.n .i64 ((kTp k t : Nat) : Int))] [] := by
 refine acalls_of tt Tryz.func129 rfl rfl rfl (fun w0 Z => ?_)
 repeat' (first|refine zst ?_|(refine zhm fun hb=>?_;try exact zab)|refine zg2 ?_ ?_|refine zop ?_|refine kc (heldIntS_e (n := t.parents.length) (k := k) (by omega) (by omega)) rfl rfl ?_|refine kc (heldNodeS_e (n := t.nodes.length) (k := k + 1 * t.parents.length) (by omega) (by omega)) rfl rfl ?_|fail)
 exact zr [] zae zae
theorem heldState_e {s : State} {k : Nat} (h : Small 1048576 s) (hk : k ≤ 100000000000000) : ACalls Tryz.prog 53 [stateA (mSt k s), .d (.n .i64 k)] [.d (.n .i64 ((kSt k s : Nat) : Int))] [] := by
 refine acalls_of tt Tryz.func53 rfl rfl rfl (fun w0 Z => ?_)
 have hb := kRu_le h hk
 have h1 := h.par; have h2 := h.nod; have h3 := h.up; have h4 := h.que; have h5 := h.run; have h6 := h.end'
 repeat' (first|refine zst ?_|(refine zhm fun hb=>?_;try exact zab)|refine zg2 ?_ ?_|refine zop ?_|refine kc (heldTopo_e (t := s.topo) (k := k) h1 h2 (by omega)) rfl rfl ?_|refine kc (heldBoolS_e (n := s.up.length) (k := kTp k s.topo) (by omega) (by omega)) rfl rfl ?_|refine kc (heldJobS_e (n := s.queue.length) (k := kUp k s) (by omega) (by omega)) rfl rfl ?_|refine kc (heldRunS_e (l := s.runs) (k := kQu k s) h5 h.rno (by omega)) rfl rfl ?_|refine kc (heldEndS_e (n := s.ends.length) (k := kRu k s) (by omega) (by omega)) rfl rfl ?_|fail)
 exact zr [] zae zae
end Go.Proofs.YtliopiphobopjaaGreat
