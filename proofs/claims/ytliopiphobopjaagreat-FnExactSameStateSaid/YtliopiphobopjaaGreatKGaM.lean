/-
  Rooms: RoomOk of a right room, different nodes; both.
-/
import Derived.Test.YtliopiphobopjaaGreatKSh
import Derived.Test.YtliopiphobopjaaGreatKB8
set_option maxRecDepth 100000
set_option maxHeartbeats 16000000
namespace Go.Proofs.YtliopiphobopjaaGreat
open Go Go.RowKit
attribute [local irreducible] AWp OpsOk OpOk ACalls ChA QsOk MCalls EnC PY

theorem RoomOk.small {r : Room} (h : RoomOk r) : (r.topo.parents.length ≤ 24 ∧ r.topo.nodes.length ≤ 24) ∧ r.up.length ≤ 24 ∧ r.profs.length ≤ 24 ∧ r.lics.length ≤ 200 := by
  have h1 := h.topo.len
  have h2 := h.topo.nlen
  have h3 := h.up
  have h4 := h.num
  have h5 := h.lics.len
  omega
theorem roomOk_e {r : Room} (h : RoomOk r) : ACalls Tryz.prog 199 [roomA r] [.d (.b true)] [] := by
  refine acalls_of tt Tryz.func199 rfl rfl rfl (fun w0 Z => ?_)
  have hs := h.small
  have h1 := h.up
  have h2 := h.num
  have c1 := topoOk_e (t := r.topo) (by omega) (by omega)
  rw [topoOkB_t.2 h.topo] at c1
  have c2 := profOk_e (l := r.lics) (by omega)
  rw [profOkB_t.2 h.lics] at c2
  repeat' (first|refine zst ?_|(refine zhm fun hb=>?_;try first|omega|exact absurd rfl hb)|refine zgc ?_ ?_|refine zgx ?_ ?_|(apply op_id;first|refine zk45 rfl ?_|refine zk46 rfl ?_|refine kc (c1) rfl rfl ?_|refine kc (c2) rfl rfl ?_|refine zgq ?_)|(apply q_id;first|refine zk0 ?_|refine zk5 ?_|refine zk11 ?_|refine zk12 (fun _ => ?_)|refine zk13 rfl rfl rfl ?_|refine zk14 ?_|refine zk19 ?_|refine zk29 ns_ok (by kernel_rfl) ?_|refine zk31 ?_|refine zk32 rfl rfl rfl ?_|refine zk33 rfl ?_|refine zk34 rfl ?_))
  refine awp_loop (fun (i : Nat) => ⟨43, [(1, .ptr 1 0), (30, .d (.sl (profsE r.profs))), (31, .d (.n .i64 (r.profs.length : Nat))), (32, .d (.n .i64 i))], [(1, .box 152 (roomC r))]⟩) (fun i => i ≤ r.profs.length) (fun i => r.profs.length - i) 0 (by exact Nat.zero_le _) ?_ ?_
  · refine ⟨rfl, ?_, ?_, rfl⟩
    repeat'(first|apply And.intro|exact zeb|refine zec ?_|exact zen|refine zeo ?_|exact zel|refine zem ?_|exact zep|refine zeq1 ?_|refine zea ?_|refine zei ?_ ?_|refine zex ?_|refine zca (hv := ?_)|refine zcb (hv := ?_)|exact rfl|trivial)
    all_goals exact Stop.mk (by first | rfl | exact profsE_length _)
  · intro i hi
    have hl := profsE_length r.profs
    by_cases hi' : i < r.profs.length
    · have hp := h.profs i hi'
      have c3 := profOk_e (l := nth r.profs i) (by have := hp.len; omega)
      rw [profOkB_t.2 hp] at c3
      repeat' (first|refine zst ?_|(refine zhm fun hb=>?_;try first|omega|exact absurd rfl hb)|refine zgc ?_ ?_|refine zgx ?_ ?_|(apply op_id;first|refine zk45 rfl ?_|refine zk46 rfl ?_|refine kc (c3) rfl rfl ?_|refine zgq ?_)|(apply q_id;first|refine zk0 ?_|refine zk5 ?_|refine zk11 ?_|refine zk12 (fun _ => ?_)|refine zk13 rfl rfl rfl ?_|refine zk14 ?_|refine zk19 ?_|refine zk29 ns_ok (by kernel_rfl) ?_|refine zk31 ?_|refine zk32 rfl rfl rfl ?_|refine zk33 rfl ?_|refine zk34 rfl ?_))
      refine ⟨i + 1, by omega, by omega, ?_⟩
      refine ⟨rfl, ?_, ?_, rfl⟩
      repeat'(first|apply And.intro|exact zeb|refine zec ?_|exact zen|refine zeo ?_|exact zel|refine zem ?_|exact zep|refine zeq1 ?_|refine zea ?_|refine zei ?_ ?_|refine zex ?_|refine zca (hv := ?_)|refine zcb (hv := ?_)|exact rfl|trivial)
      all_goals exact Stop.mk rfl
    · repeat' (first|refine zst ?_|(refine zhm fun hb=>?_;try first|omega|exact absurd rfl hb)|refine zgc ?_ ?_|refine zgx ?_ ?_|(apply op_id;first|refine zk45 rfl ?_|refine zk46 rfl ?_|refine kc (c2) rfl rfl ?_|refine zgq ?_)|(apply q_id;first|refine zk0 ?_|refine zk5 ?_|refine zk11 ?_|refine zk12 (fun _ => ?_)|refine zk13 rfl rfl rfl ?_|refine zk14 ?_|refine zk19 ?_|refine zk29 ns_ok (by kernel_rfl) ?_|refine zk31 ?_|refine zk32 rfl rfl rfl ?_|refine zk33 rfl ?_|refine zk34 rfl ?_))
      refine zr [] ?_ ?_
      repeat'(first|apply And.intro|exact zeb|refine zec ?_|exact zen|refine zeo ?_|exact zel|refine zem ?_|exact zep|refine zeq1 ?_|refine zea ?_|refine zei ?_ ?_|refine zex ?_|refine zca (hv := ?_)|refine zcb (hv := ?_)|exact rfl|trivial)
      all_goals exact Stop.mk rfl
theorem roomOk_s {r : Room} (h : RoomOk r) : ACalls Tryz.prog 192 [roomA r] [.d (.b true)] [] := by
  refine acalls_of tt Tryz.func192 rfl rfl rfl (fun w0 Z => ?_)
  have hs := h.small
  have h1 := h.up
  have h2 := h.num
  have c1 := topoOk_s (t := r.topo) (by omega) (by omega)
  rw [topoOkB_t.2 h.topo] at c1
  have c2 := profOk_s (l := r.lics) (by omega)
  rw [profOkB_t.2 h.lics] at c2
  repeat' (first|refine zst ?_|(refine zhm fun hb=>?_;try first|omega|exact absurd rfl hb)|refine zgc ?_ ?_|refine zgx ?_ ?_|(apply op_id;first|refine zk45 rfl ?_|refine zk46 rfl ?_|refine kc (c1) rfl rfl ?_|refine kc (c2) rfl rfl ?_|refine zgq ?_)|(apply q_id;first|refine zk0 ?_|refine zk5 ?_|refine zk11 ?_|refine zk12 (fun _ => ?_)|refine zk13 rfl rfl rfl ?_|refine zk14 ?_|refine zk19 ?_|refine zk29 ns_ok (by kernel_rfl) ?_|refine zk31 ?_|refine zk32 rfl rfl rfl ?_|refine zk33 rfl ?_|refine zk34 rfl ?_))
  refine awp_loop (fun (i : Nat) => ⟨46, [(36, .d (.sl (profsE r.profs))), (37, .d (.n .i64 (r.profs.length : Nat))), (38, .d (.n .i64 i))], []⟩) (fun i => i ≤ r.profs.length) (fun i => r.profs.length - i) 0 (by exact Nat.zero_le _) ?_ ?_
  · refine ⟨rfl, ?_, ?_, rfl⟩
    repeat'(first|apply And.intro|exact zeb|refine zec ?_|exact zen|refine zeo ?_|exact zel|refine zem ?_|exact zep|refine zeq1 ?_|refine zea ?_|refine zei ?_ ?_|refine zex ?_|refine zca (hv := ?_)|refine zcb (hv := ?_)|exact rfl|trivial)
    all_goals exact Stop.mk (by first | rfl | exact profsE_length _)
  · intro i hi
    have hl := profsE_length r.profs
    by_cases hi' : i < r.profs.length
    · have hp := h.profs i hi'
      have c3 := profOk_s (l := nth r.profs i) (by have := hp.len; omega)
      rw [profOkB_t.2 hp] at c3
      repeat' (first|refine zst ?_|(refine zhm fun hb=>?_;try first|omega|exact absurd rfl hb)|refine zgc ?_ ?_|refine zgx ?_ ?_|(apply op_id;first|refine zk45 rfl ?_|refine zk46 rfl ?_|refine kc (c3) rfl rfl ?_|refine zgq ?_)|(apply q_id;first|refine zk0 ?_|refine zk5 ?_|refine zk11 ?_|refine zk12 (fun _ => ?_)|refine zk13 rfl rfl rfl ?_|refine zk14 ?_|refine zk19 ?_|refine zk29 ns_ok (by kernel_rfl) ?_|refine zk31 ?_|refine zk32 rfl rfl rfl ?_|refine zk33 rfl ?_|refine zk34 rfl ?_))
      refine ⟨i + 1, by omega, by omega, ?_⟩
      refine ⟨rfl, ?_, ?_, rfl⟩
      repeat'(first|apply And.intro|exact zeb|refine zec ?_|exact zen|refine zeo ?_|exact zel|refine zem ?_|exact zep|refine zeq1 ?_|refine zea ?_|refine zei ?_ ?_|refine zex ?_|refine zca (hv := ?_)|refine zcb (hv := ?_)|exact rfl|trivial)
      all_goals exact Stop.mk rfl
    · repeat' (first|refine zst ?_|(refine zhm fun hb=>?_;try first|omega|exact absurd rfl hb)|refine zgc ?_ ?_|refine zgx ?_ ?_|(apply op_id;first|refine zk45 rfl ?_|refine zk46 rfl ?_|refine kc (c2) rfl rfl ?_|refine zgq ?_)|(apply q_id;first|refine zk0 ?_|refine zk5 ?_|refine zk11 ?_|refine zk12 (fun _ => ?_)|refine zk13 rfl rfl rfl ?_|refine zk14 ?_|refine zk19 ?_|refine zk29 ns_ok (by kernel_rfl) ?_|refine zk31 ?_|refine zk32 rfl rfl rfl ?_|refine zk33 rfl ?_|refine zk34 rfl ?_))
      refine zr [] ?_ ?_
      repeat'(first|apply And.intro|exact zeb|refine zec ?_|exact zen|refine zeo ?_|exact zel|refine zem ?_|exact zep|refine zeq1 ?_|refine zea ?_|refine zei ?_ ?_|refine zex ?_|refine zca (hv := ?_)|refine zcb (hv := ?_)|exact rfl|trivial)
      all_goals exact Stop.mk rfl
/-! ### Different nodes -/
theorem diff_f1 {t : Topo} {j : Job} {l : List Int} {i : Nat} (hi : i < l.length) (h : hasI (l.take i) (nth l i) = true) : diffB t j l = false := pB_f.2 fun hd => by rw [hd.diff i hi] at h; cases h
theorem diff_f2 {t : Topo} {j : Job} {l : List Int} (h : (l.length : Int) ≠ j.nodes) : diffB t j l = false := pB_f.2 fun hd => h hd.num
theorem diff_f3 {t : Topo} {j : Job} {l : List Int} (ht : TopoOk t) (h : nodesB t l = false) : diffB t j l = false := pB_f.2 fun hd => by rw [nodesB_iff.2 ⟨hd.nodes, ht⟩] at h; cases h
theorem diff_t {t : Topo} {j : Job} {l : List Int} (h1 : ∀ i, i < l.length → hasI (l.take i) (nth l i) = false) (h2 : (l.length : Int) = j.nodes) (h3 : nodesB t l = true) : diffB t j l = true := pB_t.2 ⟨(nodesB_iff.1 h3).1, h1, h2⟩
theorem sl_take (l : List Int) (i : Nat) : (List.drop 0 ((intE l).take i)) = intE (l.take i) := by simp [intE, List.map_take]
theorem areJobNodes_e {t : Topo} {j : Job} {l : List Int} (ht : TopoOk t) (hl : l.length ≤ 1000000000) : ACalls Tryz.prog 239 [topoA t, jobA j, .d (.sl (intE l))] [.d (.b (diffB t j l))] [] := by
  refine acalls_of tt Tryz.func239 rfl rfl rfl (fun w0 Z => ?_)
  have hps := ht.len
  have hns := ht.nlen
  repeat' (first|refine zst ?_|(refine zhm fun hb=>?_;try first|omega|exact absurd rfl hb)|refine zgc ?_ ?_|refine zgx ?_ ?_|(apply op_id;first|refine zk45 rfl ?_|refine zk46 rfl ?_|refine zgq ?_)|(apply q_id;first|refine zk0 ?_|refine zk5 ?_|refine zk11 ?_|refine zk12 (fun _ => ?_)|refine zk13 rfl rfl rfl ?_|refine zk14 ?_|refine zk15 ?_|refine zk16 rfl rfl rfl ?_|refine zk19 ?_|refine zk28 ns_ok (by kernel_rfl) ?_|refine zk30 rfl rfl rfl ?_|refine zk31 ?_|refine zk32 rfl rfl rfl ?_|refine zk33 rfl ?_|refine zk34 rfl ?_))
  refine awp_loop (fun (i : Nat) => ⟨32, [(2, .d (.sl (intE l))), (3, .ptr 3 0), (4, .ptr 4 0), (9, .d (.sl (intE l))), (10, .d (.n .i64 (l.length : Nat))), (11, .d (.n .i64 i))], [(3, .box 39 (topoC t)), (4, .box 94 ((jobD j).map AV.d))]⟩) (fun i => i ≤ l.length ∧ ∀ k, k < i → hasI (l.take k) (nth l k) = false) (fun i => l.length - i) 0 (by exact ⟨Nat.zero_le _, fun k hk => absurd hk (Nat.not_lt_zero _)⟩) ?_ ?_
  · refine ⟨rfl, ?_, ?_, rfl⟩
    repeat'(first|apply And.intro|exact zeb|refine zec ?_|exact zen|refine zeo ?_|exact zel|refine zem ?_|exact zep|refine zeq1 ?_|refine zea ?_|refine zei ?_ ?_|refine zex ?_|refine zca (hv := ?_)|refine zcb (hv := ?_)|exact rfl|trivial)
    all_goals exact Stop.mk (by first | rfl | exact intE_length _)
  · rintro i ⟨hi, hd⟩
    have hil : (intE l).length = l.length := intE_length l
    by_cases hi' : i < l.length
    · have hc := contains_c (l := l.take i) (x := nth l i) (by rw [List.length_take]; omega)
      rw [← sl_take] at hc
      repeat' (first|refine zst ?_|(refine zhm fun hb=>?_;try first|omega|exact absurd rfl hb)|refine zgc ?_ ?_|refine zgx ?_ ?_|(apply op_id;first|refine zk45 rfl ?_|refine zk46 rfl ?_|refine kc (hc) rfl rfl ?_|refine zgq ?_)|(apply q_id;first|refine zk0 ?_|refine zk5 ?_|refine zk11 ?_|refine zk12 (fun _ => ?_)|refine zk13 rfl rfl rfl ?_|refine zk14 ?_|refine zk15 ?_|refine zk16 rfl rfl rfl ?_|refine zk19 ?_|refine zk28 ns_ok (by kernel_rfl) ?_|refine zk30 rfl rfl rfl ?_|refine zk31 ?_|refine zk32 rfl rfl rfl ?_|refine zk33 rfl ?_|refine zk34 rfl ?_))
      · rw [diff_f1 hi' (by assumption)]
        refine zr [] ?_ ?_
        repeat'(first|apply And.intro|exact zeb|refine zec ?_|exact zen|refine zeo ?_|exact zel|refine zem ?_|exact zep|refine zeq1 ?_|refine zea ?_|refine zei ?_ ?_|refine zex ?_|refine zca (hv := ?_)|refine zcb (hv := ?_)|exact rfl|trivial)
        all_goals exact Stop.mk rfl
      · refine ⟨i + 1, ⟨by omega, fun k hk => ?_⟩, by omega, ?_⟩
        · by_cases e : k = i
          · subst e; assumption
          · exact hd k (by omega)
        refine ⟨rfl, ?_, ?_, rfl⟩
        repeat'(first|apply And.intro|exact zeb|refine zec ?_|exact zen|refine zeo ?_|exact zel|refine zem ?_|exact zep|refine zeq1 ?_|refine zea ?_|refine zei ?_ ?_|refine zex ?_|refine zca (hv := ?_)|refine zcb (hv := ?_)|exact rfl|trivial)
        all_goals exact Stop.mk rfl
    · have hn := areNodes_e (t := t) (l := l) (by omega) (by omega) hl
      cases hnb : nodesB t l with
      | false =>
        rw [hnb] at hn
        rw [diff_f3 ht hnb]
        repeat' (first|refine zst ?_|(refine zhm fun hb=>?_;try first|omega|exact absurd rfl hb)|refine zgc ?_ ?_|refine zgx ?_ ?_|(apply op_id;first|refine zk45 rfl ?_|refine zk46 rfl ?_|refine kc (hn) rfl rfl ?_|refine zgq ?_)|(apply q_id;first|refine zk0 ?_|refine zk5 ?_|refine zk11 ?_|refine zk12 (fun _ => ?_)|refine zk13 rfl rfl rfl ?_|refine zk14 ?_|refine zk15 ?_|refine zk16 rfl rfl rfl ?_|refine zk19 ?_|refine zk28 ns_ok (by kernel_rfl) ?_|refine zk30 rfl rfl rfl ?_|refine zk31 ?_|refine zk32 rfl rfl rfl ?_|refine zk33 rfl ?_|refine zk34 rfl ?_))
        refine zr [] ?_ ?_
        repeat'(first|apply And.intro|exact zeb|refine zec ?_|exact zen|refine zeo ?_|exact zel|refine zem ?_|exact zep|refine zeq1 ?_|refine zea ?_|refine zei ?_ ?_|refine zex ?_|refine zca (hv := ?_)|refine zcb (hv := ?_)|exact rfl|trivial)
        all_goals exact Stop.mk rfl
      | true =>
        rw [hnb] at hn
        repeat' (first|refine zst ?_|(refine zhm fun hb=>?_;try first|omega|exact absurd rfl hb)|refine zgc ?_ ?_|refine zgx ?_ ?_|(apply op_id;first|refine zk45 rfl ?_|refine zk46 rfl ?_|refine kc (hn) rfl rfl ?_|refine zgq ?_)|(apply q_id;first|refine zk0 ?_|refine zk5 ?_|refine zk11 ?_|refine zk12 (fun _ => ?_)|refine zk13 rfl rfl rfl ?_|refine zk14 ?_|refine zk15 ?_|refine zk16 rfl rfl rfl ?_|refine zk19 ?_|refine zk28 ns_ok (by kernel_rfl) ?_|refine zk30 rfl rfl rfl ?_|refine zk31 ?_|refine zk32 rfl rfl rfl ?_|refine zk33 rfl ?_|refine zk34 rfl ?_))
        refine zr [] ?_ ?_
        repeat'(first|apply And.intro|exact zeb|refine zec ?_|exact zen|refine zeo ?_|exact zel|refine zem ?_|exact zep|refine zeq1 ?_|refine zea ?_|refine zei ?_ ?_|refine zex ?_|refine zca (hv := ?_)|refine zcb (hv := ?_)|exact rfl|trivial)
        all_goals
          refine Stop.mk ?_
          by_cases e : (l.length : Int) = j.nodes
          · rw [diff_t (fun k hk => hd k (by omega)) e hnb]; simp [e]
          · rw [diff_f2 e]; simp [e]
theorem l04Diff_s {r : Room} {j : Job} {l : List Int} (hr : RoomOk r) (hl : l.length ≤ 1000000000) : ACalls Tryz.prog 190 [roomA r, jobA j, .d (.sl (intE l))] [.d (.b (jobOkB j && diffB r.topo j l))] [] := by
  refine acalls_of tt Tryz.func190 rfl rfl rfl (fun w0 Z => ?_)
  have hps := hr.topo.len
  have hns := hr.topo.nlen
  have c1 := roomOk_s hr
  have c2 := jobOk_s (j := j)
  have c3 := l02Nodes_e (t := r.topo) (l := l) (by omega) (by omega) hl
  cases h2 : jobOkB j with
  | false =>
    rw [h2] at c2
    repeat' (first|refine zst ?_|(refine zhm fun hb=>?_;try first|omega|exact absurd rfl hb)|refine zgc ?_ ?_|refine zgx ?_ ?_|(apply op_id;first|refine zk45 rfl ?_|refine zk46 rfl ?_|refine kc (c1) rfl rfl ?_|refine kc (c2) rfl rfl ?_|refine zgq ?_)|(apply q_id;first|refine zk0 ?_|refine zk5 ?_|refine zk11 ?_|refine zk12 (fun _ => ?_)|refine zk13 rfl rfl rfl ?_|refine zk14 ?_|refine zk15 ?_|refine zk16 rfl rfl rfl ?_|refine zk19 ?_|refine zk29 ns_ok (by kernel_rfl) ?_|refine zk30 rfl rfl rfl ?_|refine zk31 ?_|refine zk32 rfl rfl rfl ?_|refine zk33 rfl ?_|refine zk34 rfl ?_))
    refine zr [] ?_ ?_
    repeat'(first|apply And.intro|exact zeb|refine zec ?_|exact zen|refine zeo ?_|exact zel|refine zem ?_|exact zep|refine zeq1 ?_|refine zea ?_|refine zei ?_ ?_|refine zex ?_|refine zca (hv := ?_)|refine zcb (hv := ?_)|exact rfl|trivial)
    all_goals exact Stop.mk rfl
  | true =>
    rw [h2] at c2
    by_cases e : (l.length : Int) = j.nodes
    · cases h3 : nodesB r.topo l with
      | false =>
        rw [h3] at c3
        rw [diff_f3 hr.topo h3]
        repeat' (first|refine zst ?_|(refine zhm fun hb=>?_;try first|omega|exact absurd rfl hb)|refine zgc ?_ ?_|refine zgx ?_ ?_|(apply op_id;first|refine zk45 rfl ?_|refine zk46 rfl ?_|refine kc (c1) rfl rfl ?_|refine kc (c2) rfl rfl ?_|refine kc (c3) rfl rfl ?_|refine zgq ?_)|(apply q_id;first|refine zk0 ?_|refine zk5 ?_|refine zk11 ?_|refine zk12 (fun _ => ?_)|refine zk13 rfl rfl rfl ?_|refine zk14 ?_|refine zk15 ?_|refine zk16 rfl rfl rfl ?_|refine zk19 ?_|refine zk29 ns_ok (by kernel_rfl) ?_|refine zk30 rfl rfl rfl ?_|refine zk31 ?_|refine zk32 rfl rfl rfl ?_|refine zk33 rfl ?_|refine zk34 rfl ?_))
        any_goals
          refine zr [] ?_ ?_
          repeat'(first|apply And.intro|exact zeb|refine zec ?_|exact zen|refine zeo ?_|exact zel|refine zem ?_|exact zep|refine zeq1 ?_|refine zea ?_|refine zei ?_ ?_|refine zex ?_|refine zca (hv := ?_)|refine zcb (hv := ?_)|exact rfl|trivial)
          all_goals exact Stop.mk rfl
      | true =>
        rw [h3] at c3
        repeat' (first|refine zst ?_|(refine zhm fun hb=>?_;try first|omega|exact absurd rfl hb)|refine zgc ?_ ?_|refine zgx ?_ ?_|(apply op_id;first|refine zk45 rfl ?_|refine zk46 rfl ?_|refine kc (c1) rfl rfl ?_|refine kc (c2) rfl rfl ?_|refine kc (c3) rfl rfl ?_|refine zgq ?_)|(apply q_id;first|refine zk0 ?_|refine zk5 ?_|refine zk11 ?_|refine zk12 (fun _ => ?_)|refine zk13 rfl rfl rfl ?_|refine zk14 ?_|refine zk15 ?_|refine zk16 rfl rfl rfl ?_|refine zk19 ?_|refine zk29 ns_ok (by kernel_rfl) ?_|refine zk30 rfl rfl rfl ?_|refine zk31 ?_|refine zk32 rfl rfl rfl ?_|refine zk33 rfl ?_|refine zk34 rfl ?_))
        refine awp_loop (fun (i : Nat) => ⟨44, [(2, .d (.sl (intE l))), (31, .d (.sl (intE l))), (32, .d (.n .i64 (l.length : Nat))), (33, .d (.n .i64 i))], []⟩) (fun i => i ≤ l.length ∧ ∀ k, k < i → hasI (l.take k) (nth l k) = false) (fun i => l.length - i) 0 (by exact ⟨Nat.zero_le _, fun k hk => absurd hk (Nat.not_lt_zero _)⟩) ?_ ?_
        · refine ⟨rfl, ?_, ?_, rfl⟩
          repeat'(first|apply And.intro|exact zeb|refine zec ?_|exact zen|refine zeo ?_|exact zel|refine zem ?_|exact zep|refine zeq1 ?_|refine zea ?_|refine zei ?_ ?_|refine zex ?_|refine zca (hv := ?_)|refine zcb (hv := ?_)|exact rfl|trivial)
          all_goals exact Stop.mk (by first | rfl | exact intE_length _)
        · rintro i ⟨hi, hd⟩
          have hil : (intE l).length = l.length := intE_length l
          by_cases hi' : i < l.length
          · have hc := l02Has_c (l := l.take i) (x := nth l i) (by rw [List.length_take]; omega)
            rw [← sl_take] at hc
            repeat' (first|refine zst ?_|(refine zhm fun hb=>?_;try first|omega|exact absurd rfl hb)|refine zgc ?_ ?_|refine zgx ?_ ?_|(apply op_id;first|refine zk45 rfl ?_|refine zk46 rfl ?_|refine kc (hc) rfl rfl ?_|refine zgq ?_)|(apply q_id;first|refine zk0 ?_|refine zk5 ?_|refine zk11 ?_|refine zk12 (fun _ => ?_)|refine zk13 rfl rfl rfl ?_|refine zk14 ?_|refine zk15 ?_|refine zk16 rfl rfl rfl ?_|refine zk19 ?_|refine zk29 ns_ok (by kernel_rfl) ?_|refine zk30 rfl rfl rfl ?_|refine zk31 ?_|refine zk32 rfl rfl rfl ?_|refine zk33 rfl ?_|refine zk34 rfl ?_))
            · rw [diff_f1 hi' (by assumption)]
              refine zr [] ?_ ?_
              repeat'(first|apply And.intro|exact zeb|refine zec ?_|exact zen|refine zeo ?_|exact zel|refine zem ?_|exact zep|refine zeq1 ?_|refine zea ?_|refine zei ?_ ?_|refine zex ?_|refine zca (hv := ?_)|refine zcb (hv := ?_)|exact rfl|trivial)
              all_goals exact Stop.mk rfl
            · refine ⟨i + 1, ⟨by omega, fun k hk => ?_⟩, by omega, ?_⟩
              · by_cases e : k = i
                · subst e; assumption
                · exact hd k (by omega)
              refine ⟨rfl, ?_, ?_, rfl⟩
              repeat'(first|apply And.intro|exact zeb|refine zec ?_|exact zen|refine zeo ?_|exact zel|refine zem ?_|exact zep|refine zeq1 ?_|refine zea ?_|refine zei ?_ ?_|refine zex ?_|refine zca (hv := ?_)|refine zcb (hv := ?_)|exact rfl|trivial)
              all_goals exact Stop.mk rfl
          · rw [diff_t (fun k hk => hd k (by omega)) e h3]
            repeat' (first|refine zst ?_|(refine zhm fun hb=>?_;try first|omega|exact absurd rfl hb)|refine zgc ?_ ?_|refine zgx ?_ ?_|(apply op_id;first|refine zk45 rfl ?_|refine zk46 rfl ?_|refine zgq ?_)|(apply q_id;first|refine zk0 ?_|refine zk5 ?_|refine zk11 ?_|refine zk12 (fun _ => ?_)|refine zk13 rfl rfl rfl ?_|refine zk14 ?_|refine zk15 ?_|refine zk16 rfl rfl rfl ?_|refine zk19 ?_|refine zk29 ns_ok (by kernel_rfl) ?_|refine zk30 rfl rfl rfl ?_|refine zk31 ?_|refine zk32 rfl rfl rfl ?_|refine zk33 rfl ?_|refine zk34 rfl ?_))
            refine zr [] ?_ ?_
            repeat'(first|apply And.intro|exact zeb|refine zec ?_|exact zen|refine zeo ?_|exact zel|refine zem ?_|exact zep|refine zeq1 ?_|refine zea ?_|refine zei ?_ ?_|refine zex ?_|refine zca (hv := ?_)|refine zcb (hv := ?_)|exact rfl|trivial)
            all_goals exact Stop.mk rfl
    · rw [diff_f2 e]
      repeat' (first|refine zst ?_|(refine zhm fun hb=>?_;try first|omega|exact absurd rfl hb)|refine zgc ?_ ?_|refine zgx ?_ ?_|(apply op_id;first|refine zk45 rfl ?_|refine zk46 rfl ?_|refine kc (c1) rfl rfl ?_|refine kc (c2) rfl rfl ?_|refine kc (c3) rfl rfl ?_|refine zgq ?_)|(apply q_id;first|refine zk0 ?_|refine zk5 ?_|refine zk11 ?_|refine zk12 (fun _ => ?_)|refine zk13 rfl rfl rfl ?_|refine zk14 ?_|refine zk15 ?_|refine zk16 rfl rfl rfl ?_|refine zk19 ?_|refine zk29 ns_ok (by kernel_rfl) ?_|refine zk30 rfl rfl rfl ?_|refine zk31 ?_|refine zk32 rfl rfl rfl ?_|refine zk33 rfl ?_|refine zk34 rfl ?_))
      any_goals
        refine zr [] ?_ ?_
        repeat'(first|apply And.intro|exact zeb|refine zec ?_|exact zen|refine zeo ?_|exact zel|refine zem ?_|exact zep|refine zeq1 ?_|refine zea ?_|refine zei ?_ ?_|refine zex ?_|refine zca (hv := ?_)|refine zcb (hv := ?_)|exact rfl|trivial)
        all_goals exact Stop.mk rfl
end Go.Proofs.YtliopiphobopjaaGreat
