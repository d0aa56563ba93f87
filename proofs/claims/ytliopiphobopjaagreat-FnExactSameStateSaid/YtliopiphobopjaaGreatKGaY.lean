/-
  Equal topologies, equal runs, the program's.
-/
import Derived.Test.YtliopiphobopjaaGreatKSh
import Derived.Test.YtliopiphobopjaaGreatKGaX
import Derived.Test.YtliopiphobopjaaGreatKGlA
set_option maxRecDepth 100000
set_option maxHeartbeats 16000000
namespace Go.Proofs.YtliopiphobopjaaGreat
open Go Go.RowKit
attribute [local irreducible] AWp OpsOk OpOk ACalls ChA QsOk MCalls EnC PY

theorem topo_eq {t u : Topo} : t = u ↔ t.parents = u.parents ∧ t.nodes = u.nodes := by cases t; cases u; simp
theorem run_eq {x y : Run} : x = y ↔ x.job = y.job ∧ x.at' = y.at' ∧ x.nodes = y.nodes := by cases x; cases y; simp
theorem sameTopo_e {t u : Topo} (h1 : t.parents.length ≤ 1000000000) (h2 : t.nodes.length ≤ 1000000000) : ACalls Tryz.prog 180 [topoA t, topoA u] [.d (.b (pB (t = u)))] [] := by
  refine acalls_of tt Tryz.func180 rfl rfl rfl (fun w0 Z => ?_)
  have c1 := slEqI_e (l := t.parents) (l' := u.parents) h1
  have c2 := slEqN_e (l := t.nodes) (l' := u.nodes) h2
  by_cases e : t.parents = u.parents
  · rw [pB_t.2 e] at c1
    repeat' (first|refine zst ?_|(refine zhm fun hb=>?_;try first|omega|exact absurd rfl hb)|refine zgc ?_ ?_|refine zgx ?_ ?_|(apply op_id;first|refine kc (c1) rfl rfl ?_|refine kc (c2) rfl rfl ?_))
    refine zr [] ?_ ?_
    repeat'(first|apply And.intro|exact zeb|refine zec ?_|exact zen|refine zeo ?_|exact zel|refine zem ?_|exact zep|refine zeq1 ?_|refine zea ?_|refine zei ?_ ?_|refine zex ?_|refine zca (hv := ?_)|refine zcb (hv := ?_)|exact rfl|trivial)
    all_goals exact Stop.mk (by rw [Bool.eq_iff_iff, pB_t, pB_t, topo_eq]; exact ⟨fun h => ⟨e, h⟩, fun h => h.2⟩)
  · rw [pB_f.2 e] at c1
    rw [pB_f.2 (fun h : t = u => e (by rw [h]))]
    repeat' (first|refine zst ?_|(refine zhm fun hb=>?_;try first|omega|exact absurd rfl hb)|refine zgc ?_ ?_|refine zgx ?_ ?_|(apply op_id;first|refine kc (c1) rfl rfl ?_))
    refine zr [] ?_ ?_
    repeat'(first|apply And.intro|exact zeb|refine zec ?_|exact zen|refine zeo ?_|exact zel|refine zem ?_|exact zep|refine zeq1 ?_|refine zea ?_|refine zei ?_ ?_|refine zex ?_|refine zca (hv := ?_)|refine zcb (hv := ?_)|exact rfl|trivial)
    all_goals exact Stop.mk rfl
theorem sameRun_e {x y : Run} (h : x.nodes.length ≤ 1000000000) : ACalls Tryz.prog 184 [runA x, runA y] [.d (.b (pB (x = y)))] [] := by
  refine acalls_of tt Tryz.func184 rfl rfl rfl (fun w0 Z => ?_)
  have c1 := slEqI_e (l := x.nodes) (l' := y.nodes) h
  repeat' (first|refine zst ?_|(refine zhm fun hb=>?_;try first|omega|exact absurd rfl hb)|refine zgc ?_ ?_|refine zgx ?_ ?_|(apply op_id;first|refine kc (c1) rfl rfl ?_|refine zgq ?_)|(apply q_id;first|refine zk28 ns_ok (by kernel_rfl) ?_))
  all_goals
    refine zr [] ?_ ?_
    repeat'(first|apply And.intro|exact zeb|refine zec ?_|exact zen|refine zeo ?_|exact zel|refine zem ?_|exact zep|refine zeq1 ?_|refine zea ?_|refine zei ?_ ?_|refine zex ?_|refine zca (hv := ?_)|refine zcb (hv := ?_)|exact rfl|trivial)
  all_goals first
    | exact Stop.mk (by rw [pB_f.2 (fun e : x = y => (jeq_f.1 (by assumption)) (by rw [e]))])
    | exact Stop.mk (by rw [pB_f.2 (fun e : x = y => absurd (show x.at' = y.at' by rw [e]) (by assumption))])
    | exact Stop.mk (by rw [Bool.eq_iff_iff, pB_t, pB_t, run_eq]; exact ⟨fun h => ⟨jeq_t.1 (by assumption), by assumption, h⟩, fun h => h.2.2⟩)
theorem state_eq {s u : State} : s = u ↔ s.topo = u.topo ∧ s.up = u.up ∧ s.lic = u.lic ∧ s.depth = u.depth ∧ s.now = u.now ∧ s.queue = u.queue ∧ s.runs = u.runs ∧ s.ends = u.ends := by cases s; cases u; simp
theorem eqFuncR_e {l l' : List Run} (h : l.length ≤ 1000000000) (hr : ∀ j, j < l.length → (nth l j).nodes.length ≤ 1000000000) : ACalls Tryz.prog 183 [.d (.sl (runE l)), .d (.sl (runE l')), .clo 184 []] [.d (.b (pB (l = l')))] [] := by
  refine acalls_of tt Tryz.func183 rfl rfl rfl (fun w0 Z => ?_)
  have hl := runE_length l
  have hl' := runE_length l'
  by_cases hlen : l.length = l'.length
  · repeat' (first|refine zst ?_|(refine zhm fun hb=>?_;try first|omega|exact absurd rfl hb)|refine zgc ?_ ?_|refine zgx ?_ ?_|(apply op_id;first|refine zk45 rfl ?_|refine zk46 rfl ?_|refine zgq ?_)|(apply q_id;first|refine zk0 ?_|refine zk5 ?_|refine zk11 ?_|refine zk12 (fun _ => ?_)|refine zk13 rfl rfl rfl ?_|refine zk14 ?_|refine zk19 ?_|refine zk29 ns_ok (by kernel_rfl) ?_|refine zk31 ?_|refine zk32 rfl rfl rfl ?_|refine zk33 rfl ?_|refine zk34 rfl ?_))
    refine awp_loop (fun (i : Nat) => ⟨32, [(1, .d (.sl (runE l'))), (2, .clo 184 []), (15, .d (.sl (runE l))), (16, .d (.n .i64 (l.length : Nat))), (17, .d (.n .i64 i))], []⟩) (fun i => i ≤ l.length ∧ ∀ j, j < i → nth l j = nth l' j) (fun i => l.length - i) 0 (by exact ⟨Nat.zero_le _, fun j hj => absurd hj (Nat.not_lt_zero _)⟩) ?_ ?_
    · refine ⟨rfl, ?_, ?_, rfl⟩
      repeat'(first|apply And.intro|exact zeb|refine zec ?_|exact zen|refine zeo ?_|exact zel|refine zem ?_|exact zep|refine zeq1 ?_|refine zea ?_|refine zei ?_ ?_|refine zex ?_|refine zca (hv := ?_)|refine zcb (hv := ?_)|exact rfl|trivial)
      all_goals exact Stop.mk (by first | rfl | exact runE_length _)
    · rintro i ⟨hi, hp⟩
      by_cases hi' : i < l.length
      · have c1 := sameRun_e (x := nth l i) (y := nth l' i) (hr i hi')
        by_cases he : nth l i = nth l' i
        · rw [pB_t.2 he] at c1
          repeat' (first|refine zst ?_|(refine zhm fun hb=>?_;try first|omega|exact absurd rfl hb)|refine zgc ?_ ?_|refine zgx ?_ ?_|(apply op_id;first|refine zk45 rfl ?_|refine zk46 rfl ?_|refine kv (c1) rfl rfl rfl rfl rfl ?_|refine zgq ?_)|(apply q_id;first|refine zk0 ?_|refine zk5 ?_|refine zk11 ?_|refine zk12 (fun _ => ?_)|refine zk13 rfl rfl rfl ?_|refine zk14 ?_|refine zk19 ?_|refine zk29 ns_ok (by kernel_rfl) ?_|refine zk31 ?_|refine zk32 rfl rfl rfl ?_|refine zk33 rfl ?_|refine zk34 rfl ?_))
          refine ⟨i + 1, ⟨by omega, fun j hj => ?_⟩, by omega, ?_⟩
          · by_cases e : j = i
            · rw [e]; exact he
            · exact hp j (by omega)
          refine ⟨rfl, ?_, ?_, rfl⟩
          repeat'(first|apply And.intro|exact zeb|refine zec ?_|exact zen|refine zeo ?_|exact zel|refine zem ?_|exact zep|refine zeq1 ?_|refine zea ?_|refine zei ?_ ?_|refine zex ?_|refine zca (hv := ?_)|refine zcb (hv := ?_)|exact rfl|trivial)
          all_goals exact Stop.mk rfl
        · rw [pB_f.2 he] at c1
          rw [pB_f.2 (fun e : l = l' => he (by rw [e]))]
          repeat' (first|refine zst ?_|(refine zhm fun hb=>?_;try first|omega|exact absurd rfl hb)|refine zgc ?_ ?_|refine zgx ?_ ?_|(apply op_id;first|refine zk45 rfl ?_|refine zk46 rfl ?_|refine kv (c1) rfl rfl rfl rfl rfl ?_|refine zgq ?_)|(apply q_id;first|refine zk0 ?_|refine zk5 ?_|refine zk11 ?_|refine zk12 (fun _ => ?_)|refine zk13 rfl rfl rfl ?_|refine zk14 ?_|refine zk19 ?_|refine zk29 ns_ok (by kernel_rfl) ?_|refine zk31 ?_|refine zk32 rfl rfl rfl ?_|refine zk33 rfl ?_|refine zk34 rfl ?_))
          refine zr [] ?_ ?_
          repeat'(first|apply And.intro|exact zeb|refine zec ?_|exact zen|refine zeo ?_|exact zel|refine zem ?_|exact zep|refine zeq1 ?_|refine zea ?_|refine zei ?_ ?_|refine zex ?_|refine zca (hv := ?_)|refine zcb (hv := ?_)|exact rfl|trivial)
          all_goals exact Stop.mk rfl
      · rw [pB_t.2 (eq_nth hlen fun j hj => hp j (by omega))]
        repeat' (first|refine zst ?_|(refine zhm fun hb=>?_;try first|omega|exact absurd rfl hb)|refine zgc ?_ ?_|refine zgx ?_ ?_|(apply op_id;first|refine zk45 rfl ?_|refine zk46 rfl ?_|refine zgq ?_)|(apply q_id;first|refine zk0 ?_|refine zk5 ?_|refine zk11 ?_|refine zk12 (fun _ => ?_)|refine zk13 rfl rfl rfl ?_|refine zk14 ?_|refine zk19 ?_|refine zk29 ns_ok (by kernel_rfl) ?_|refine zk31 ?_|refine zk32 rfl rfl rfl ?_|refine zk33 rfl ?_|refine zk34 rfl ?_))
        refine zr [] ?_ ?_
        repeat'(first|apply And.intro|exact zeb|refine zec ?_|exact zen|refine zeo ?_|exact zel|refine zem ?_|exact zep|refine zeq1 ?_|refine zea ?_|refine zei ?_ ?_|refine zex ?_|refine zca (hv := ?_)|refine zcb (hv := ?_)|exact rfl|trivial)
        all_goals exact Stop.mk rfl
  · rw [pB_f.2 (fun e : l = l' => hlen (by rw [e]))]
    repeat' (first|refine zst ?_|(refine zhm fun hb=>?_;try first|omega|exact absurd rfl hb)|refine zgc ?_ ?_|refine zgx ?_ ?_|(apply op_id;first|refine zk45 rfl ?_|refine zk46 rfl ?_|refine zgq ?_)|(apply q_id;first|refine zk0 ?_|refine zk5 ?_|refine zk11 ?_|refine zk12 (fun _ => ?_)|refine zk13 rfl rfl rfl ?_|refine zk14 ?_|refine zk19 ?_|refine zk29 ns_ok (by kernel_rfl) ?_|refine zk31 ?_|refine zk32 rfl rfl rfl ?_|refine zk33 rfl ?_|refine zk34 rfl ?_))
    refine zr [] ?_ ?_
    repeat'(first|apply And.intro|exact zeb|refine zec ?_|exact zen|refine zeo ?_|exact zel|refine zem ?_|exact zep|refine zeq1 ?_|refine zea ?_|refine zei ?_ ?_|refine zex ?_|refine zca (hv := ?_)|refine zcb (hv := ?_)|exact rfl|trivial)
    all_goals exact Stop.mk rfl
end Go.Proofs.YtliopiphobopjaaGreat
