/-
  VecText, TopoText of the reference.
-/
import Derived.Test.YtliopiphobopjaaGreatKSh
import Derived.Test.YtliopiphobopjaaGreatKToA
set_option maxRecDepth 100000
set_option maxHeartbeats 16000000
namespace Go.Proofs.YtliopiphobopjaaGreat
open Go Go.RowKit
attribute [local irreducible] AWp OpsOk OpOk ACalls ChA QsOk MCalls EnC PY
theorem numText_x {x : Int} (h : 0 ≤ x ∧ x ≤ 1000000000) : ACalls Tryz.prog 178 [.d (.n .i64 x)] [.d (.s (numT x.toNat))] [] := by
  have := numText_s x.toNat (by omega)
  rwa [Int.toNat_of_nonneg h.1] at this
theorem vec_in {v : V3} (h : vecOkB v = true) : (0 ≤ v.a ∧ v.a ≤ 1000000) ∧ (0 ≤ v.b ∧ v.b ≤ 1000000) ∧ (0 ≤ v.c ∧ v.c ≤ 1000000) := by
  simp only [vecOkB, Bool.and_eq_true, inB_t] at h
  exact ⟨h.1.1, h.1.2, h.2⟩
theorem vcT_len {v : V3} (h : vecOkB v = true) : (vcT v).length ≤ 32 := by
  obtain ⟨h1, h2, h3⟩ := vec_in h
  have k1 := numT_len10 (n := v.a.toNat) (by omega)
  have k2 := numT_len10 (n := v.b.toNat) (by omega)
  have k3 := numT_len10 (n := v.c.toNat) (by omega)
  simp only [vcT, List.length_append, List.length_cons]
  omega
theorem vecText_s {v : V3} (h : vecOkB v = true) : ACalls Tryz.prog 179 [vecA v] [.d (.s (vcT v))] [] := by
  refine acalls_of tt Tryz.func179 rfl rfl rfl (fun w0 Z => ?_)
  obtain ⟨h1, h2, h3⟩ := vec_in h
  have k1 := numT_len10 (n := v.a.toNat) (by omega)
  have k2 := numT_len10 (n := v.b.toNat) (by omega)
  have k3 := numT_len10 (n := v.c.toNat) (by omega)
  have c1 := vecOk_s (v := v)
  rw [h] at c1
  repeat' (first|refine zst ?_|(refine zhm fun hb=>?_;try first|omega|exact absurd rfl hb)|(apply awp_drawq;exact rfl;kernel_rfl;kernel_rfl;exact rfl)|(apply awp_drawx;exact rfl;kernel_rfl;exact rfl)|(apply aopQ_ok;exact rfl)|apply qs_nil|(apply ch_nil;exact rfl)|((first|(apply ch_cons;iterate 2 exact rfl)|(apply ch_yes;iterate 4 exact rfl));(iterate 2 exact rfl);(· (intro w0 Z O;first|(apply aop_ok;exact rfl)|(apply QOk.ok;first|refine zk0 ?_|refine zk5 ?_|refine zk19 ?_)|refine kc (c1) rfl rfl ?_|refine kc (numText_x (x := v.a) (by omega)) rfl rfl ?_|refine kc (numText_x (x := v.b) (by omega)) rfl rfl ?_|refine kc (numText_x (x := v.c) (by omega)) rfl rfl ?_);exact ⟨rfl, rfl, rfl⟩);(iterate 2 exact rfl);exact zsl;exact zft;(iterate 4 exact rfl))|(apply ch_no;iterate 10 exact rfl)|(apply ch_no2;iterate 9 exact rfl)|refine zcx ?_ ?_|refine zgc ?_ ?_|refine zgx ?_ ?_|(first|(apply qs_cons;exact rfl)|(apply qs_yes;exact rfl;exact rfl;exact rfl))|refine zqx ?_ ?_|(apply q_id;first|refine kq (c1) rfl rfl ?_|refine kq (numText_x (x := v.a) (by omega)) rfl rfl ?_|refine kq (numText_x (x := v.b) (by omega)) rfl rfl ?_|refine kq (numText_x (x := v.c) (by omega)) rfl rfl ?_)|(apply op_id;first|refine kc (c1) rfl rfl ?_|refine kc (numText_x (x := v.a) (by omega)) rfl rfl ?_|refine kc (numText_x (x := v.b) (by omega)) rfl rfl ?_|refine kc (numText_x (x := v.c) (by omega)) rfl rfl ?_|refine zgq ?_)|(apply q_id;first|refine zk0 ?_|refine zk5 ?_|refine zk19 ?_))
  refine zr [] ?_ ?_
  repeat' (first | apply And.intro | exact zeb | refine zec ?_ | exact zen | refine zeo ?_ | exact zes | refine zet ?_ | exact zel | refine zem ?_ | exact zep | refine zeq1 ?_ | refine zea ?_ | refine zei ?_ ?_ | refine zex ?_ | (apply cell_agg; iterate 3 exact rfl) | (apply cell_one; iterate 2 exact rfl) | exact rfl | exact trivial)
  refine Stop.mk ?_
  simp [vcT]
theorem swT_take {l : List Int} {i : Nat} (h : i < l.length) : (l.take (i + 1)).flatMap swT = (l.take i).flatMap swT ++ txS ++ numT (nth l i).toNat ++ [10] := by
  have e : nth l i = l[i] := by simp [nth, h]
  rw [List.take_succ_eq_append_getElem h, List.flatMap_append, e]
  simp [swT]
theorem ndT_take {l : List Node} {i : Nat} (h : i < l.length) : (l.take (i + 1)).flatMap ndT = (l.take i).flatMap ndT ++ txN ++ numT (nth l i).leaf.toNat ++ [32] ++ vcT (nth l i).cap ++ [10] := by
  have e : nth l i = l[i] := by simp [nth, h]
  rw [List.take_succ_eq_append_getElem h, List.flatMap_append, e]
  simp [ndT]
theorem nth_drop1 {l : List Int} {i : Nat} : nth (l.drop 1) i = nth l (i + 1) := by
  simp only [nth, List.getD_eq_getElem?_getD, List.getElem?_drop, Nat.add_comm]
theorem sw_len : ∀ {l : List Int}, (∀ x ∈ l, 0 ≤ x ∧ x ≤ 1000000000) → (l.flatMap swT).length ≤ 18 * l.length
  | [], _ => by simp
  | x :: l, h => by
    have ih := sw_len (l := l) fun y hy => h y (List.mem_cons_of_mem _ hy)
    have hx := h x List.mem_cons_self
    have := numT_len10 (n := x.toNat) (by omega)
    rw [List.flatMap_cons, List.length_append, List.length_cons, swT, List.length_append, List.length_append]
    simp only [txS, List.length_cons, List.length_nil]
    omega
theorem nd_len : ∀ {l : List Node}, (∀ n ∈ l, (0 ≤ n.leaf ∧ n.leaf ≤ 1000000000) ∧ vecOkB n.cap = true) → (l.flatMap ndT).length ≤ 50 * l.length
  | [], _ => by simp
  | x :: l, h => by
    have ih := nd_len (l := l) fun y hy => h y (List.mem_cons_of_mem _ hy)
    have hx := h x List.mem_cons_self
    have := numT_len10 (n := x.leaf.toNat) (by omega)
    have := vcT_len hx.2
    rw [List.flatMap_cons, List.length_append, List.length_cons, ndT, List.length_append, List.length_append, List.length_cons, List.length_append]
    simp only [txN, List.length_cons, List.length_nil]
    omega
theorem nth_memD {α : Type} [Inhabited α] {l : List α} {x : α} (h : x ∈ l) : ∃ i, i < l.length ∧ nth l i = x := by
  obtain ⟨i, hi, e⟩ := List.getElem_of_mem h
  exact ⟨i, hi, by rw [nth, List.getD_eq_getElem?_getD, List.getElem?_eq_getElem hi]; exact e⟩
theorem topoText_s {t : Topo} (h : TopoOk t) : ACalls Tryz.prog 93 [topoA t] [.d (.s (topoT t))] [] := by
  refine acalls_of tt Tryz.func93 rfl rfl rfl (fun w0 Z => ?_)
  have hlp := h.len
  have hln := h.nlen
  have hl1 := intE_length t.parents
  have hl2 := nodeE_length t.nodes
  have c1 := topoOk_s (t := t) (by omega) (by omega)
  rw [show topoOkB t = true from by unfold topoOkB; simp [h]] at c1
  have hp : ∀ x ∈ t.parents.drop 1, 0 ≤ x ∧ x ≤ 1000000000 := fun x hx => by
    obtain ⟨i, hi, e⟩ := nth_memD hx
    rw [List.length_drop] at hi
    rw [nth_drop1] at e
    have := h.valid (i + 1) (by omega) (by omega)
    rw [e] at this
    omega
  have hn : ∀ n ∈ t.nodes, (0 ≤ n.leaf ∧ n.leaf ≤ 1000000000) ∧ vecOkB n.cap = true := fun n hn => by
    obtain ⟨i, hi, e⟩ := nth_memD hn
    obtain ⟨h1, _, h2⟩ := h.nodes i hi
    rw [e] at h1 h2
    exact ⟨by omega, h2⟩
  have hL1 := sw_len hp
  rw [List.length_drop] at hL1
  repeat' (first|refine zst ?_|(refine zhm fun hb=>?_;try first|omega|exact absurd rfl hb)|(apply awp_drawq;exact rfl;kernel_rfl;kernel_rfl;exact rfl)|(apply awp_drawx;exact rfl;kernel_rfl;exact rfl)|(apply aopQ_ok;exact rfl)|apply qs_nil|(apply ch_nil;exact rfl)|((first|(apply ch_cons;iterate 2 exact rfl)|(apply ch_yes;iterate 4 exact rfl));(iterate 2 exact rfl);(· (intro w0 Z O;first|(apply aop_ok;exact rfl)|(apply QOk.ok;first|refine zk0 ?_|refine zk5 ?_|refine zk11 ?_|refine zk12 (fun _ => ?_)|refine zk13 rfl rfl rfl ?_|refine zk14 ?_|refine zk19 ?_|refine zk31 ?_|refine zk32 rfl rfl rfl ?_|refine zk33 rfl ?_|refine zk34 rfl ?_)|refine zk45 rfl ?_|refine zk46 rfl ?_|refine kc (c1) rfl rfl ?_);exact ⟨rfl, rfl, rfl⟩);(iterate 2 exact rfl);exact zsl;exact zft;(iterate 4 exact rfl))|(apply ch_no;iterate 10 exact rfl)|(apply ch_no2;iterate 9 exact rfl)|refine zcx ?_ ?_|refine zgc ?_ ?_|refine zgx ?_ ?_|(first|(apply qs_cons;exact rfl)|(apply qs_yes;exact rfl;exact rfl;exact rfl))|refine zqx ?_ ?_|(apply q_id;first|refine kq (c1) rfl rfl ?_)|(apply op_id;first|refine zk45 rfl ?_|refine zk46 rfl ?_|refine kc (c1) rfl rfl ?_|refine zgq ?_)|(apply q_id;first|refine zk0 ?_|refine zk5 ?_|refine zk11 ?_|refine zk12 (fun _ => ?_)|refine zk13 rfl rfl rfl ?_|refine zk14 ?_|refine zk19 ?_|refine zk31 ?_|refine zk32 rfl rfl rfl ?_|refine zk33 rfl ?_|refine zk34 rfl ?_))
  refine awp_loop (fun (k : Nat) => ⟨48, [(1, .ptr 1 0), (3, .d (.s (((t.parents.drop 1).take k).flatMap swT))), (4, .d (.n .i64 ((k + 1 : Nat) : Int)))], [(1, .box 39 [.d (.sl (intE t.parents)), .d (.sl (nodeE t.nodes))])]⟩) (fun k => k + 1 ≤ t.parents.length) (fun k => t.parents.length - k) 0 (by exact hlp.1) ?_ ?_
  · refine ⟨rfl, ?_, ?_, rfl⟩
    repeat'(first|apply And.intro|exact zeb|refine zec ?_|exact zen|refine zeo ?_|exact zel|refine zem ?_|exact zep|refine zeq1 ?_|refine zea ?_|refine zei ?_ ?_|refine zex ?_|refine zca (hv := ?_)|refine zcb (hv := ?_)|exact rfl|trivial)
    all_goals exact Stop.mk rfl
  · intro k hk
    have hlk := sw_len (l := (t.parents.drop 1).take k) fun x hx => hp x (List.mem_of_mem_take hx)
    have hlk2 : ((t.parents.drop 1).take k).length = k := by rw [List.length_take, List.length_drop]; omega
    by_cases hk' : k + 1 < t.parents.length
    · have hv := h.valid (k + 1) (by omega) hk'
      have hnl := numT_len10 (n := (nth t.parents (k + 1)).toNat) (by omega)
      repeat' (first|refine zst ?_|(refine zhm fun hb=>?_;try first|omega|exact absurd rfl hb)|(apply awp_drawq;exact rfl;kernel_rfl;kernel_rfl;exact rfl)|(apply awp_drawx;exact rfl;kernel_rfl;exact rfl)|(apply aopQ_ok;exact rfl)|apply qs_nil|(apply ch_nil;exact rfl)|((first|(apply ch_cons;iterate 2 exact rfl)|(apply ch_yes;iterate 4 exact rfl));(iterate 2 exact rfl);(· (intro w0 Z O;first|(apply aop_ok;exact rfl)|(apply QOk.ok;first|refine zk0 ?_|refine zk5 ?_|refine zk11 ?_|refine zk12 (fun _ => ?_)|refine zk13 rfl rfl rfl ?_|refine zk14 ?_|refine zk19 ?_|refine zk31 ?_|refine zk32 rfl rfl rfl ?_|refine zk33 rfl ?_|refine zk34 rfl ?_)|refine zk45 rfl ?_|refine zk46 rfl ?_|refine kc (numText_x (x := nth t.parents (k + 1)) (by omega)) rfl rfl ?_);exact ⟨rfl, rfl, rfl⟩);(iterate 2 exact rfl);exact zsl;exact zft;(iterate 4 exact rfl))|(apply ch_no;iterate 10 exact rfl)|(apply ch_no2;iterate 9 exact rfl)|refine zcx ?_ ?_|refine zgc ?_ ?_|refine zgx ?_ ?_|(first|(apply qs_cons;exact rfl)|(apply qs_yes;exact rfl;exact rfl;exact rfl))|refine zqx ?_ ?_|(apply q_id;first|refine kq (numText_x (x := nth t.parents (k + 1)) (by omega)) rfl rfl ?_)|(apply op_id;first|refine zk45 rfl ?_|refine zk46 rfl ?_|refine kc (numText_x (x := nth t.parents (k + 1)) (by omega)) rfl rfl ?_|refine zgq ?_)|(apply q_id;first|refine zk0 ?_|refine zk5 ?_|refine zk11 ?_|refine zk12 (fun _ => ?_)|refine zk13 rfl rfl rfl ?_|refine zk14 ?_|refine zk19 ?_|refine zk31 ?_|refine zk32 rfl rfl rfl ?_|refine zk33 rfl ?_|refine zk34 rfl ?_))
      refine ⟨k + 1, by omega, by omega, ?_⟩
      refine ⟨rfl, ?_, ?_, rfl⟩
      repeat' (first | apply And.intro | exact zeb | refine zec ?_ | exact zen | refine zeo ?_ | exact zes | refine zet ?_ | exact zel | refine zem ?_ | exact zep | refine zeq1 ?_ | refine zea ?_ | refine zei ?_ ?_ | refine zex ?_ | (apply cell_agg; iterate 3 exact rfl) | (apply cell_one; iterate 2 exact rfl) | exact rfl | exact trivial)
      all_goals exact Stop.mk (by first | rfl | (rw [swT_take (by rw [List.length_drop]; omega), nth_drop1]; rfl))
    · have hke : k = t.parents.length - 1 := by omega
      have hpre : ((t.parents.drop 1).take k).flatMap swT = (t.parents.drop 1).flatMap swT := by rw [List.take_of_length_le (by rw [List.length_drop]; omega)]
      rw [hpre]
      repeat' (first|refine zst ?_|(refine zhm fun hb=>?_;try first|omega|exact absurd rfl hb)|(apply awp_drawq;exact rfl;kernel_rfl;kernel_rfl;exact rfl)|(apply awp_drawx;exact rfl;kernel_rfl;exact rfl)|(apply aopQ_ok;exact rfl)|apply qs_nil|(apply ch_nil;exact rfl)|((first|(apply ch_cons;iterate 2 exact rfl)|(apply ch_yes;iterate 4 exact rfl));(iterate 2 exact rfl);(· (intro w0 Z O;first|(apply aop_ok;exact rfl)|(apply QOk.ok;first|refine zk0 ?_|refine zk5 ?_|refine zk11 ?_|refine zk12 (fun _ => ?_)|refine zk13 rfl rfl rfl ?_|refine zk14 ?_|refine zk19 ?_|refine zk31 ?_|refine zk32 rfl rfl rfl ?_|refine zk33 rfl ?_|refine zk34 rfl ?_)|refine zk45 rfl ?_|refine zk46 rfl ?_);exact ⟨rfl, rfl, rfl⟩);(iterate 2 exact rfl);exact zsl;exact zft;(iterate 4 exact rfl))|(apply ch_no;iterate 10 exact rfl)|(apply ch_no2;iterate 9 exact rfl)|refine zcx ?_ ?_|refine zgc ?_ ?_|refine zgx ?_ ?_|(first|(apply qs_cons;exact rfl)|(apply qs_yes;exact rfl;exact rfl;exact rfl))|refine zqx ?_ ?_|(apply op_id;first|refine zk45 rfl ?_|refine zk46 rfl ?_|refine zgq ?_)|(apply q_id;first|refine zk0 ?_|refine zk5 ?_|refine zk11 ?_|refine zk12 (fun _ => ?_)|refine zk13 rfl rfl rfl ?_|refine zk14 ?_|refine zk19 ?_|refine zk31 ?_|refine zk32 rfl rfl rfl ?_|refine zk33 rfl ?_|refine zk34 rfl ?_))
      refine awp_loop (fun (j : Nat) => ⟨48, [(3, .d (.s ((t.parents.drop 1).flatMap swT ++ (t.nodes.take j).flatMap ndT))), (28, .d (.sl (nodeE t.nodes))), (29, .d (.n .i64 (t.nodes.length : Nat))), (30, .d (.n .i64 j))], []⟩) (fun j => j ≤ t.nodes.length) (fun j => t.nodes.length - j) 0 (by exact Nat.zero_le _) ?_ ?_
      · refine ⟨rfl, ?_, ?_, rfl⟩
        repeat' (first | apply And.intro | exact zeb | refine zec ?_ | exact zen | refine zeo ?_ | exact zes | refine zet ?_ | exact zel | refine zem ?_ | exact zep | refine zeq1 ?_ | refine zea ?_ | refine zei ?_ ?_ | refine zex ?_ | (apply cell_agg; iterate 3 exact rfl) | (apply cell_one; iterate 2 exact rfl) | exact rfl | exact trivial)
        all_goals exact Stop.mk (by first | rfl | simp)
      · intro j hj
        have hlj := nd_len (l := t.nodes.take j) fun x hx => hn x (List.mem_of_mem_take hx)
        have hlj2 : (t.nodes.take j).length = j := by rw [List.length_take]; omega
        have hll : ((t.parents.drop 1).flatMap swT ++ (t.nodes.take j).flatMap ndT).length ≤ 5000 := by rw [List.length_append]; omega
        by_cases hj' : j < t.nodes.length
        · obtain ⟨g1, g2⟩ := hn _ (nth_mem hj')
          have hnl := numT_len10 (n := (nth t.nodes j).leaf.toNat) (by omega)
          have hvl := vcT_len g2
          repeat' (first|refine zst ?_|(refine zhm fun hb=>?_;try first|omega|exact absurd rfl hb)|(apply awp_drawq;exact rfl;kernel_rfl;kernel_rfl;exact rfl)|(apply awp_drawx;exact rfl;kernel_rfl;exact rfl)|(apply aopQ_ok;exact rfl)|apply qs_nil|(apply ch_nil;exact rfl)|((first|(apply ch_cons;iterate 2 exact rfl)|(apply ch_yes;iterate 4 exact rfl));(iterate 2 exact rfl);(· (intro w0 Z O;first|(apply aop_ok;exact rfl)|(apply QOk.ok;first|refine zk0 ?_|refine zk5 ?_|refine zk11 ?_|refine zk12 (fun _ => ?_)|refine zk13 rfl rfl rfl ?_|refine zk14 ?_|refine zk19 ?_|refine zk31 ?_|refine zk32 rfl rfl rfl ?_|refine zk33 rfl ?_|refine zk34 rfl ?_)|refine zk45 rfl ?_|refine zk46 rfl ?_|refine kc (numText_x (x := (nth t.nodes j).leaf) (by omega)) rfl rfl ?_|refine kc (vecText_s (v := (nth t.nodes j).cap) g2) rfl rfl ?_);exact ⟨rfl, rfl, rfl⟩);(iterate 2 exact rfl);exact zsl;exact zft;(iterate 4 exact rfl))|(apply ch_no;iterate 10 exact rfl)|(apply ch_no2;iterate 9 exact rfl)|refine zcx ?_ ?_|refine zgc ?_ ?_|refine zgx ?_ ?_|(first|(apply qs_cons;exact rfl)|(apply qs_yes;exact rfl;exact rfl;exact rfl))|refine zqx ?_ ?_|(apply q_id;first|refine kq (numText_x (x := (nth t.nodes j).leaf) (by omega)) rfl rfl ?_|refine kq (vecText_s (v := (nth t.nodes j).cap) g2) rfl rfl ?_)|(apply op_id;first|refine zk45 rfl ?_|refine zk46 rfl ?_|refine kc (numText_x (x := (nth t.nodes j).leaf) (by omega)) rfl rfl ?_|refine kc (vecText_s (v := (nth t.nodes j).cap) g2) rfl rfl ?_|refine zgq ?_)|(apply q_id;first|refine zk0 ?_|refine zk5 ?_|refine zk11 ?_|refine zk12 (fun _ => ?_)|refine zk13 rfl rfl rfl ?_|refine zk14 ?_|refine zk19 ?_|refine zk31 ?_|refine zk32 rfl rfl rfl ?_|refine zk33 rfl ?_|refine zk34 rfl ?_))
          refine ⟨j + 1, by omega, by omega, ?_⟩
          refine ⟨rfl, ?_, ?_, rfl⟩
          repeat' (first | apply And.intro | exact zeb | refine zec ?_ | exact zen | refine zeo ?_ | exact zes | refine zet ?_ | exact zel | refine zem ?_ | exact zep | refine zeq1 ?_ | refine zea ?_ | refine zei ?_ ?_ | refine zex ?_ | (apply cell_agg; iterate 3 exact rfl) | (apply cell_one; iterate 2 exact rfl) | exact rfl | exact trivial)
          all_goals exact Stop.mk (by first | rfl | (rw [ndT_take hj']; simp [txN]))
        · obtain rfl : j = t.nodes.length := by omega
          repeat' (first|refine zst ?_|(refine zhm fun hb=>?_;try first|omega|exact absurd rfl hb)|(apply awp_drawq;exact rfl;kernel_rfl;kernel_rfl;exact rfl)|(apply awp_drawx;exact rfl;kernel_rfl;exact rfl)|(apply aopQ_ok;exact rfl)|apply qs_nil|(apply ch_nil;exact rfl)|((first|(apply ch_cons;iterate 2 exact rfl)|(apply ch_yes;iterate 4 exact rfl));(iterate 2 exact rfl);(· (intro w0 Z O;first|(apply aop_ok;exact rfl)|(apply QOk.ok;first|refine zk0 ?_|refine zk5 ?_|refine zk11 ?_|refine zk12 (fun _ => ?_)|refine zk13 rfl rfl rfl ?_|refine zk14 ?_|refine zk19 ?_|refine zk31 ?_|refine zk32 rfl rfl rfl ?_|refine zk33 rfl ?_|refine zk34 rfl ?_)|refine zk45 rfl ?_|refine zk46 rfl ?_);exact ⟨rfl, rfl, rfl⟩);(iterate 2 exact rfl);exact zsl;exact zft;(iterate 4 exact rfl))|(apply ch_no;iterate 10 exact rfl)|(apply ch_no2;iterate 9 exact rfl)|refine zcx ?_ ?_|refine zgc ?_ ?_|refine zgx ?_ ?_|(first|(apply qs_cons;exact rfl)|(apply qs_yes;exact rfl;exact rfl;exact rfl))|refine zqx ?_ ?_|(apply op_id;first|refine zk45 rfl ?_|refine zk46 rfl ?_|refine zgq ?_)|(apply q_id;first|refine zk0 ?_|refine zk5 ?_|refine zk11 ?_|refine zk12 (fun _ => ?_)|refine zk13 rfl rfl rfl ?_|refine zk14 ?_|refine zk19 ?_|refine zk31 ?_|refine zk32 rfl rfl rfl ?_|refine zk33 rfl ?_|refine zk34 rfl ?_))
          refine zr [] ?_ ?_
          repeat' (first | apply And.intro | exact zeb | refine zec ?_ | exact zen | refine zeo ?_ | exact zes | refine zet ?_ | exact zel | refine zem ?_ | exact zep | refine zeq1 ?_ | refine zea ?_ | refine zei ?_ ?_ | refine zex ?_ | (apply cell_agg; iterate 3 exact rfl) | (apply cell_one; iterate 2 exact rfl) | exact rfl | exact trivial)
          all_goals exact Stop.mk (by first | rfl | (rw [List.take_length]; rfl))
end Go.Proofs.YtliopiphobopjaaGreat
