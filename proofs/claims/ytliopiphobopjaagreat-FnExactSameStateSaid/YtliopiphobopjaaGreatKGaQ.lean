/-
  The empty room, both.
-/
import Derived.Test.YtliopiphobopjaaGreatKSh
import Derived.Test.YtliopiphobopjaaGreatKGaN
import Derived.Test.YtliopiphobopjaaGreatKGlA
set_option maxRecDepth 100000
set_option maxHeartbeats 16000000
namespace Go.Proofs.YtliopiphobopjaaGreat
open Go Go.RowKit
attribute [local irreducible] AWp OpsOk OpOk ACalls ChA QsOk MCalls EnC PY

def newPs (l : List Node) : List (List Pt) := l.map fun n => [⟨0, n.cap⟩]
theorem newPs_take {l : List Node} {n : Nat} (h : n < l.length) : newPs (l.take (n + 1)) = newPs (l.take n) ++ [[⟨0, (nth l n).cap⟩]] := by
  rw [take_snoc h]
  simp [newPs]
theorem empty_e {t : Topo} {up : List Bool} {lic : V3} (h : TopoOk t) (hu : up.length = t.nodes.length) (hv : vecOkB lic = true) : DC Tryz.prog 144 [topoA t, .d (.sl (boolE up)), vecA lic] [roomA (emptyR t up lic)] := by
  refine mcalls_of tt Tryz.func144 rfl rfl rfl trivial (fun _ _ => ⟨trivial, trivial⟩) (fun w0 Z O => ?_)
  have h1 := h.len
  have h2 := h.nlen
  have hbl := boolE_length up
  have hnl := nodeE_length t.nodes
  repeat' (first|(refine awp_frzr 2 15 rfl ?_)|refine zst ?_|(refine zhm fun hb=>?_;try first|omega|exact absurd rfl hb)|refine zgc ?_ ?_|refine zgx ?_ ?_|(apply op_id;first|refine zk35 rfl rfl rfl ?_|refine zk36 rfl rfl rfl ?_|refine zk37 rfl rfl rfl ?_|refine zk38 rfl rfl rfl ?_|refine zk39 rfl rfl rfl ?_|refine zk40 rfl rfl rfl ?_|refine zk42 rfl rfl rfl ?_|refine zk45 rfl ?_|refine zk46 rfl ?_|(refine km [] (copyTopo_e (t := t) (by omega) (by omega)) rfl rfl (fun i hi => ?_);(try dsimp only at hi))|refine zgq ?_)|(apply q_id;first|refine zk0 ?_|refine zk5 ?_|refine zk11 ?_|refine zk12 (fun _ => ?_)|refine zk13 rfl rfl rfl ?_|refine zk14 ?_|refine zk19 ?_|refine zk23 rfl ?_|refine zk31 ?_|refine zk32 rfl rfl rfl ?_|refine zk33 rfl ?_|refine zk34 rfl ?_))
  refine awp_loop (fun (k : Nat × List (List Pt)) => ⟨44, [(5, .ptr 5 0), (6, .ptr 6 0), (7, .ptr 7 0), (18, .d (.sl (nodeE t.nodes))), (19, .d (.n .i64 (t.nodes.length : Nat))), (20, .d (.n .i64 k.1))], [(5, .box 35 (vecC lic)), (6, .box 152 [.nil, .nil, .nil, .nil, .nil]), (7, .box 152 [.d (.sl (intE t.parents)), .d (.sl (nodeE t.nodes)), .d (.sl (boolE up)), slN 34 (profsE k.2), .nil])] ++ slO 34 150 (profsE k.2)⟩) (fun k => k.1 ≤ t.nodes.length ∧ k.2 = newPs (t.nodes.take k.1)) (fun k => t.nodes.length - k.1) (0, []) (by exact ⟨Nat.zero_le _, rfl⟩) ?_ ?_
  · refine ⟨rfl, ?_, ?_, rfl⟩
    repeat'(first|apply And.intro|exact zeb|refine zec ?_|exact zen|refine zeo ?_|exact zel|refine zem ?_|exact zep|refine zeq1 ?_|refine zea ?_|refine zei ?_ ?_|refine zex ?_|refine zca (hv := ?_)|refine zcb (hv := ?_)|exact rfl|trivial)
    all_goals exact Stop.mk (by first | rfl | exact nodeE_length _)
  · rintro ⟨n, out⟩ ⟨hn, ho⟩
    dsimp only at hn ho ⊢
    have hol : out.length = n := by rw [ho, newPs, List.length_map, List.length_take]; omega
    have hol2 := profsE_length out
    by_cases hn' : n < t.nodes.length
    · have hnx := newPs_take hn'
      rw [← ho] at hnx
      have hc := h.nodes n hn'
      cases out with
      | nil =>
        repeat' (first|(refine awp_frzr 6 27 rfl ?_)|refine zst ?_|(refine zhm fun hb=>?_;try first|omega|exact absurd rfl hb)|refine zgc ?_ ?_|refine zgx ?_ ?_|(apply op_id;first|refine zk35 rfl rfl rfl ?_|refine zk36 rfl rfl rfl ?_|refine zk37 rfl rfl rfl ?_|refine zk38 rfl rfl rfl ?_|refine zk39 rfl rfl rfl ?_|refine zk40 rfl rfl rfl ?_|refine zk42 rfl rfl rfl ?_|refine zk45 rfl ?_|refine zk46 rfl ?_|refine kc (profNew_e (v := (nth t.nodes n).cap) hc.2.2) rfl rfl ?_|refine zgq ?_)|(apply q_id;first|refine zk0 ?_|refine zk5 ?_|refine zk11 ?_|refine zk12 (fun _ => ?_)|refine zk13 rfl rfl rfl ?_|refine zk14 ?_|refine zk19 ?_|refine zk23 rfl ?_|refine zk31 ?_|refine zk32 rfl rfl rfl ?_|refine zk33 rfl ?_|refine zk34 rfl ?_))
        refine ⟨(n + 1, [] ++ [[⟨0, (nth t.nodes n).cap⟩]]), ⟨by omega, hnx.symm⟩, by omega, ?_⟩
        refine ⟨rfl, ?_, ?_, rfl⟩
        repeat'(first|apply And.intro|exact zeb|refine zec ?_|exact zen|refine zeo ?_|exact zel|refine zem ?_|exact zep|refine zeq1 ?_|refine zea ?_|refine zei ?_ ?_|refine zex ?_|refine zca (hv := ?_)|refine zcb (hv := ?_)|exact rfl|trivial)
        all_goals exact Stop.mk rfl
      | cons p0 o0 =>
        repeat' (first|(refine awp_frzr 6 27 rfl ?_)|refine zst ?_|(refine zhm fun hb=>?_;try first|omega|exact absurd rfl hb)|refine zgc ?_ ?_|refine zgx ?_ ?_|(apply op_id;first|refine zk35 rfl rfl rfl ?_|refine zk36 rfl rfl rfl ?_|refine zk37 rfl rfl rfl ?_|refine zk38 rfl rfl rfl ?_|refine zk39 rfl rfl rfl ?_|refine zk40 rfl rfl rfl ?_|refine zk42 rfl rfl rfl ?_|refine zk45 rfl ?_|refine zk46 rfl ?_|refine kc (profNew_e (v := (nth t.nodes n).cap) hc.2.2) rfl rfl ?_|refine zgq ?_)|(apply q_id;first|refine zk0 ?_|refine zk5 ?_|refine zk11 ?_|refine zk12 (fun _ => ?_)|refine zk13 rfl rfl rfl ?_|refine zk14 ?_|refine zk19 ?_|refine zk23 rfl ?_|refine zk31 ?_|refine zk32 rfl rfl rfl ?_|refine zk33 rfl ?_|refine zk34 rfl ?_))
        refine ⟨(n + 1, (p0 :: o0) ++ [[⟨0, (nth t.nodes n).cap⟩]]), ⟨by omega, hnx.symm⟩, by omega, ?_⟩
        refine ⟨rfl, ?_, ?_, rfl⟩
        repeat'(first|apply And.intro|exact zeb|refine zec ?_|exact zen|refine zeo ?_|exact zel|refine zem ?_|exact zep|refine zeq1 ?_|refine zea ?_|refine zei ?_ ?_|refine zex ?_|refine zca (hv := ?_)|refine zcb (hv := ?_)|exact rfl|trivial)
        all_goals exact Stop.mk (by first | rfl | exact profsE_push (p0 :: o0) _)
    · have hall : out = (emptyR t up lic).profs := by rw [ho, List.take_of_length_le (by omega)]; rfl
      cases out with
      | nil =>
        repeat' (first|(refine awp_frzr 9 39 rfl ?_)|refine zsr ?_|(refine zhm fun hb=>?_;try first|omega|exact absurd rfl hb)|refine zgc ?_ ?_|refine zgx ?_ ?_|(apply op_id;first|refine zk35 rfl rfl rfl ?_|refine zk36 rfl rfl rfl ?_|refine zk37 rfl rfl rfl ?_|refine zk38 rfl rfl rfl ?_|refine zk39 rfl rfl rfl ?_|refine zk40 rfl rfl rfl ?_|refine zk42 rfl rfl rfl ?_|refine zk45 rfl ?_|refine zk46 rfl ?_|refine kc (profNew_e (v := lic) hv) rfl rfl ?_|refine zgq ?_)|(apply q_id;first|refine zk0 ?_|refine zk5 ?_|refine zk11 ?_|refine zk12 (fun _ => ?_)|refine zk13 rfl rfl rfl ?_|refine zk14 ?_|refine zk19 ?_|refine zk23 rfl ?_|refine zk31 ?_|refine zk32 rfl rfl rfl ?_|refine zk33 rfl ?_|refine zk34 rfl ?_))
        show AWp _ _ _ _
        refine awp_dena ?_
        apply awp_ret'
        refine zm () [] trivial ?_ ?_ ?_
        repeat'(first|apply And.intro|exact zeb|refine zec ?_|exact zen|refine zeo ?_|exact zel|refine zem ?_|exact zep|refine zeq1 ?_|refine zea ?_|refine zei ?_ ?_|refine zex ?_|refine zca (hv := ?_)|refine zcb (hv := ?_)|exact rfl|trivial)
        all_goals exact Stop.mk (by first | rfl | (rw [← hall]; done) | (rw [← hall]; rfl))
      | cons p0 o0 =>
        repeat' (first|(refine awp_frzr 9 39 rfl ?_)|refine zsr ?_|(refine zhm fun hb=>?_;try first|omega|exact absurd rfl hb)|refine zgc ?_ ?_|refine zgx ?_ ?_|(apply op_id;first|refine zk35 rfl rfl rfl ?_|refine zk36 rfl rfl rfl ?_|refine zk37 rfl rfl rfl ?_|refine zk38 rfl rfl rfl ?_|refine zk39 rfl rfl rfl ?_|refine zk40 rfl rfl rfl ?_|refine zk42 rfl rfl rfl ?_|refine zk45 rfl ?_|refine zk46 rfl ?_|refine kc (profNew_e (v := lic) hv) rfl rfl ?_|refine zgq ?_)|(apply q_id;first|refine zk0 ?_|refine zk5 ?_|refine zk11 ?_|refine zk12 (fun _ => ?_)|refine zk13 rfl rfl rfl ?_|refine zk14 ?_|refine zk19 ?_|refine zk23 rfl ?_|refine zk31 ?_|refine zk32 rfl rfl rfl ?_|refine zk33 rfl ?_|refine zk34 rfl ?_))
        show AWp _ _ _ _
        refine awp_frz 34 rfl ?_
        refine awp_dena ?_
        apply awp_ret'
        refine zm () [] trivial ?_ ?_ ?_
        repeat'(first|apply And.intro|exact zeb|refine zec ?_|exact zen|refine zeo ?_|exact zel|refine zem ?_|exact zep|refine zeq1 ?_|refine zea ?_|refine zei ?_ ?_|refine zex ?_|refine zca (hv := ?_)|refine zcb (hv := ?_)|exact rfl|trivial)
        all_goals exact Stop.mk (by first | rfl | (rw [← hall]; done) | (rw [← hall]; rfl))
theorem l04Copy_0 {tp : Topo} {up : List Bool} {li : List Pt} (h : RoomOk ⟨tp, up, [], li⟩) : DC Tryz.prog 232 [.agg [.d (.sl (intE tp.parents)), .d (.sl (nodeE tp.nodes)), .d (.sl (boolE up)), .nil, .d (.sl (ptE li))]] [roomA ⟨tp, up, [], li⟩] := by
  refine mcalls_of tt Tryz.func232 rfl rfl rfl trivial (fun _ _ => ⟨trivial, trivial⟩) (fun w0 Z O => ?_)
  have hs := h.small
  dsimp only at hs
  have hbl := boolE_length up
  have hnl := nodeE_length tp.nodes
  have hil := intE_length tp.parents
  repeat' (first|(refine awp_frzr 3 6 rfl ?_)|(refine awp_frzr 3 14 rfl ?_)|(refine awp_frzr 3 19 rfl ?_)|refine zst ?_|(refine zhm fun hb=>?_;try first|omega|exact absurd rfl hb)|(apply awp_drawq;exact rfl;kernel_rfl;kernel_rfl;exact rfl)|(apply awp_drawx;exact rfl;kernel_rfl;exact rfl)|(apply aopQ_ok;exact rfl)|apply qs_nil|(apply ch_nil;exact rfl)|((first|(apply ch_cons;iterate 2 exact rfl)|(apply ch_yes;iterate 4 exact rfl));(iterate 2 exact rfl);(· (intro w0 Z O;first|(apply aop_ok;exact rfl)|(apply QOk.ok;first|refine zk0 ?_|refine zk5 ?_|refine zk11 ?_|refine zk12 (fun _ => ?_)|refine zk13 rfl rfl rfl ?_|refine zk14 ?_|refine zk19 ?_|refine zk23 rfl ?_|refine zk31 ?_|refine zk32 rfl rfl rfl ?_|refine zk33 rfl ?_|refine zk34 rfl ?_)|refine zk35 rfl rfl rfl ?_|refine zk36 rfl rfl rfl ?_|refine zk37 rfl rfl rfl ?_|refine zk38 rfl rfl rfl ?_|refine zk39 rfl rfl rfl ?_|refine zk40 rfl rfl rfl ?_|refine zk42 rfl rfl rfl ?_|refine zk45 rfl ?_|refine zk46 rfl ?_|refine km [] (l04Prof_s (l := li) (by omega)) rfl rfl (fun i hi => ?_);(try dsimp only at hi));exact ⟨rfl, rfl, rfl⟩);(iterate 2 exact rfl);exact zsl;exact zft;(iterate 4 exact rfl))|(apply ch_no;iterate 10 exact rfl)|(apply ch_no2;iterate 9 exact rfl)|refine zcx ?_ ?_|refine zgc ?_ ?_|refine zgx ?_ ?_|(first|(apply qs_cons;exact rfl)|(apply qs_yes;exact rfl;exact rfl;exact rfl))|refine zqx ?_ ?_|(apply op_id;first|refine zk35 rfl rfl rfl ?_|refine zk36 rfl rfl rfl ?_|refine zk37 rfl rfl rfl ?_|refine zk38 rfl rfl rfl ?_|refine zk39 rfl rfl rfl ?_|refine zk40 rfl rfl rfl ?_|refine zk42 rfl rfl rfl ?_|refine zk45 rfl ?_|refine zk46 rfl ?_|(refine km [] (l04Prof_s (l := li) (by omega)) rfl rfl (fun i hi => ?_);(try dsimp only at hi))|refine zgq ?_)|(apply q_id;first|refine zk0 ?_|refine zk5 ?_|refine zk11 ?_|refine zk12 (fun _ => ?_)|refine zk13 rfl rfl rfl ?_|refine zk14 ?_|refine zk19 ?_|refine zk23 rfl ?_|refine zk31 ?_|refine zk32 rfl rfl rfl ?_|refine zk33 rfl ?_|refine zk34 rfl ?_))
  refine awp_loop (fun (_ : Unit) => ⟨42, [(2, .ptr 2 0), (3, .ptr 3 0), (27, .nil), (28, .d (.n .i64 0)), (29, .d (.n .i64 0))], [(2, .box 152 [.nil, .nil, .nil, .nil, .nil]), (3, .box 152 [.d (.sl (intE tp.parents)), .d (.sl (nodeE tp.nodes)), .d (.sl (boolE up)), .nil, .d (.sl (ptE li))])]⟩) (fun _ => True) (fun _ => 0) () trivial ?_ ?_
  · refine ⟨rfl, ?_, ?_, rfl⟩
    repeat'(first|apply And.intro|exact zeb|refine zec ?_|exact zen|refine zeo ?_|exact zel|refine zem ?_|exact zep|refine zeq1 ?_|refine zea ?_|refine zei ?_ ?_|refine zex ?_|refine zca (hv := ?_)|refine zcb (hv := ?_)|exact rfl|trivial)
    all_goals exact Stop.mk rfl
  · intro _ _
    repeat' (first|refine zsr ?_|(refine zhm fun hb=>?_;try first|omega|exact absurd rfl hb)|(apply awp_drawq;exact rfl;kernel_rfl;kernel_rfl;exact rfl)|(apply awp_drawx;exact rfl;kernel_rfl;exact rfl)|(apply aopQ_ok;exact rfl)|apply qs_nil|(apply ch_nil;exact rfl)|((first|(apply ch_cons;iterate 2 exact rfl)|(apply ch_yes;iterate 4 exact rfl));(iterate 2 exact rfl);(· (intro w0 Z O;first|(apply aop_ok;exact rfl)|(apply QOk.ok;first|refine zk0 ?_|refine zk5 ?_|refine zk11 ?_|refine zk12 (fun _ => ?_)|refine zk13 rfl rfl rfl ?_|refine zk14 ?_|refine zk19 ?_|refine zk23 rfl ?_|refine zk31 ?_|refine zk32 rfl rfl rfl ?_|refine zk33 rfl ?_|refine zk34 rfl ?_)|refine zk35 rfl rfl rfl ?_|refine zk36 rfl rfl rfl ?_|refine zk37 rfl rfl rfl ?_|refine zk38 rfl rfl rfl ?_|refine zk39 rfl rfl rfl ?_|refine zk40 rfl rfl rfl ?_|refine zk42 rfl rfl rfl ?_|refine zk45 rfl ?_|refine zk46 rfl ?_);exact ⟨rfl, rfl, rfl⟩);(iterate 2 exact rfl);exact zsl;exact zft;(iterate 4 exact rfl))|(apply ch_no;iterate 10 exact rfl)|(apply ch_no2;iterate 9 exact rfl)|refine zcx ?_ ?_|refine zgc ?_ ?_|refine zgx ?_ ?_|(first|(apply qs_cons;exact rfl)|(apply qs_yes;exact rfl;exact rfl;exact rfl))|refine zqx ?_ ?_|(apply op_id;first|refine zk35 rfl rfl rfl ?_|refine zk36 rfl rfl rfl ?_|refine zk37 rfl rfl rfl ?_|refine zk38 rfl rfl rfl ?_|refine zk39 rfl rfl rfl ?_|refine zk40 rfl rfl rfl ?_|refine zk42 rfl rfl rfl ?_|refine zk45 rfl ?_|refine zk46 rfl ?_|refine zgq ?_)|(apply q_id;first|refine zk0 ?_|refine zk5 ?_|refine zk11 ?_|refine zk12 (fun _ => ?_)|refine zk13 rfl rfl rfl ?_|refine zk14 ?_|refine zk19 ?_|refine zk23 rfl ?_|refine zk31 ?_|refine zk32 rfl rfl rfl ?_|refine zk33 rfl ?_|refine zk34 rfl ?_))
    show AWp _ _ _ _
    refine awp_dena ?_
    apply awp_ret'
    refine zm () [] trivial ?_ ?_ ?_
    repeat'(first|apply And.intro|exact zeb|refine zec ?_|exact zen|refine zeo ?_|exact zel|refine zem ?_|exact zep|refine zeq1 ?_|refine zea ?_|refine zei ?_ ?_|refine zex ?_|refine zca (hv := ?_)|refine zcb (hv := ?_)|exact rfl|trivial)
    all_goals exact Stop.mk rfl
noncomputable def empO (s : State) : Option Room := if (topoOkB s.topo && decide (s.up.length = s.topo.nodes.length) && vecOkB s.lic) = true then some (emptyR s.topo s.up s.lic) else none
theorem empO_f {s : State} (h : topoOkB s.topo = false ∨ s.up.length ≠ s.topo.nodes.length ∨ vecOkB s.lic = false) : empO s = none := by
  unfold empO
  rw [if_neg]
  rcases h with h | h | h <;> simp [h]
theorem empO_t {s : State} (h1 : TopoOk s.topo) (h2 : s.up.length = s.topo.nodes.length) (h3 : vecOkB s.lic = true) : empO s = some (emptyR s.topo s.up s.lic) := by
  unfold empO
  rw [if_pos]
  simp [topoOkB_t.2 h1, h2, h3]
theorem l06Empty_s {s : State} (hs : Small 1000000000 s) : DC Tryz.prog 189 [stateA s] [roomA ((empO s).getD zR), .d (.b (empO s).isSome)] := by
  refine mcalls_of tt Tryz.func189 rfl rfl rfl trivial (fun _ _ => ⟨trivial, trivial⟩) (fun w0 Z O => ?_)
  have hbl := boolE_length s.up
  have hnl := nodeE_length s.topo.nodes
  have hup := hs.up
  have hno := hs.nod
  have c1 := topoOk_s (t := s.topo) hs.par hs.nod
  have c2 := vecOk_s (v := s.lic)
  cases h1 : topoOkB s.topo with
  | false =>
    rw [h1] at c1
    rw [empO_f (.inl h1)]
    repeat' (first|refine zsr ?_|(refine zhm fun hb=>?_;try first|omega|exact absurd rfl hb)|refine zgc ?_ ?_|refine zgx ?_ ?_|(apply op_id;first|refine zk35 rfl rfl rfl ?_|refine zk36 rfl rfl rfl ?_|refine zk37 rfl rfl rfl ?_|refine zk38 rfl rfl rfl ?_|refine zk39 rfl rfl rfl ?_|refine zk40 rfl rfl rfl ?_|refine zk42 rfl rfl rfl ?_|refine zk45 rfl ?_|refine zk46 rfl ?_|refine kc (c1) rfl rfl ?_|refine zgq ?_)|(apply q_id;first|refine zk0 ?_|refine zk5 ?_|refine zk11 ?_|refine zk12 (fun _ => ?_)|refine zk13 rfl rfl rfl ?_|refine zk14 ?_|refine zk19 ?_|refine zk23 rfl ?_|refine zk29 ns_ok (by kernel_rfl) ?_|refine zk31 ?_|refine zk32 rfl rfl rfl ?_|refine zk33 rfl ?_|refine zk34 rfl ?_))
    show AWp _ _ _ _
    refine awp_dena ?_
    apply awp_ret'
    refine zm () [] trivial ?_ ?_ ?_
    repeat'(first|apply And.intro|exact zeb|refine zec ?_|exact zen|refine zeo ?_|exact zel|refine zem ?_|exact zep|refine zeq1 ?_|refine zea ?_|refine zei ?_ ?_|refine zex ?_|refine zca (hv := ?_)|refine zcb (hv := ?_)|exact rfl|trivial)
    all_goals exact Stop.mk rfl
  | true =>
    rw [h1] at c1
    by_cases h2 : s.up.length = s.topo.nodes.length
    · cases h3 : vecOkB s.lic with
      | false =>
        rw [h3] at c2
        rw [empO_f (.inr (.inr h3))]
        repeat' (first|refine zsr ?_|(refine zhm fun hb=>?_;try first|omega|exact absurd rfl hb)|refine zgc ?_ ?_|refine zgx ?_ ?_|(apply op_id;first|refine zk35 rfl rfl rfl ?_|refine zk36 rfl rfl rfl ?_|refine zk37 rfl rfl rfl ?_|refine zk38 rfl rfl rfl ?_|refine zk39 rfl rfl rfl ?_|refine zk40 rfl rfl rfl ?_|refine zk42 rfl rfl rfl ?_|refine zk45 rfl ?_|refine zk46 rfl ?_|refine kc (c1) rfl rfl ?_|refine kc (c2) rfl rfl ?_|refine zgq ?_)|(apply q_id;first|refine zk0 ?_|refine zk5 ?_|refine zk11 ?_|refine zk12 (fun _ => ?_)|refine zk13 rfl rfl rfl ?_|refine zk14 ?_|refine zk19 ?_|refine zk23 rfl ?_|refine zk29 ns_ok (by kernel_rfl) ?_|refine zk31 ?_|refine zk32 rfl rfl rfl ?_|refine zk33 rfl ?_|refine zk34 rfl ?_))
        show AWp _ _ _ _
        refine awp_dena ?_
        apply awp_ret'
        refine zm () [] trivial ?_ ?_ ?_
        repeat'(first|apply And.intro|exact zeb|refine zec ?_|exact zen|refine zeo ?_|exact zel|refine zem ?_|exact zep|refine zeq1 ?_|refine zea ?_|refine zei ?_ ?_|refine zex ?_|refine zca (hv := ?_)|refine zcb (hv := ?_)|exact rfl|trivial)
        all_goals exact Stop.mk rfl
      | true =>
        rw [h3] at c2
        have ht := topoOkB_t.1 h1
        have h4 := ht.len
        have h5 := ht.nlen
        have hok := empty_ok ht h2 h3
        have hen : (emptyR s.topo s.up s.lic).profs = newPs s.topo.nodes := rfl
        rw [empO_t ht h2 h3]
        repeat' (first|refine zst ?_|(refine zhm fun hb=>?_;try first|omega|exact absurd rfl hb)|refine zgc ?_ ?_|refine zgx ?_ ?_|(apply op_id;first|refine zk35 rfl rfl rfl ?_|refine zk36 rfl rfl rfl ?_|refine zk37 rfl rfl rfl ?_|refine zk38 rfl rfl rfl ?_|refine zk39 rfl rfl rfl ?_|refine zk40 rfl rfl rfl ?_|refine zk42 rfl rfl rfl ?_|refine zk45 rfl ?_|refine zk46 rfl ?_|refine kc (c1) rfl rfl ?_|refine kc (c2) rfl rfl ?_|refine zgq ?_)|(apply q_id;first|refine zk0 ?_|refine zk5 ?_|refine zk11 ?_|refine zk12 (fun _ => ?_)|refine zk13 rfl rfl rfl ?_|refine zk14 ?_|refine zk19 ?_|refine zk23 rfl ?_|refine zk29 ns_ok (by kernel_rfl) ?_|refine zk31 ?_|refine zk32 rfl rfl rfl ?_|refine zk33 rfl ?_|refine zk34 rfl ?_))
        refine awp_loop (fun (k : Nat × List (List Pt)) => ⟨65, [(1, .ptr 1 0), (2, .ptr 2 0), (4, .ptr 4 0), (37, .d (.sl (nodeE s.topo.nodes))), (38, .d (.n .i64 (s.topo.nodes.length : Nat))), (39, .d (.n .i64 k.1))], [(1, .box 44 (stateC s)), (2, .box 152 [.nil, .nil, .nil, .nil, .nil]), (4, .box 152 [.d (.sl (intE s.topo.parents)), .d (.sl (nodeE s.topo.nodes)), .d (.sl (boolE s.up)), slN 53 (profsE k.2), .nil])] ++ slO 53 150 (profsE k.2)⟩) (fun k => k.1 ≤ s.topo.nodes.length ∧ k.2 = newPs (s.topo.nodes.take k.1)) (fun k => s.topo.nodes.length - k.1) (0, []) (by exact ⟨Nat.zero_le _, rfl⟩) ?_ ?_
        · refine ⟨rfl, ?_, ?_, rfl⟩
          repeat'(first|apply And.intro|exact zeb|refine zec ?_|exact zen|refine zeo ?_|exact zel|refine zem ?_|exact zep|refine zeq1 ?_|refine zea ?_|refine zei ?_ ?_|refine zex ?_|refine zca (hv := ?_)|refine zcb (hv := ?_)|exact rfl|trivial)
          all_goals exact Stop.mk (by first | rfl | exact nodeE_length _)
        · rintro ⟨n, out⟩ ⟨hn, ho⟩
          dsimp only at hn ho ⊢
          have hol : out.length = n := by rw [ho, newPs, List.length_map, List.length_take]; omega
          have hol2 := profsE_length out
          by_cases hn' : n < s.topo.nodes.length
          · have hnx := newPs_take hn'
            rw [← ho] at hnx
            have hc := ht.nodes n hn'
            cases out with
            | nil =>
              repeat' (first|(refine awp_frzr 8 46 rfl ?_)|refine zst ?_|(refine zhm fun hb=>?_;try first|omega|exact absurd rfl hb)|refine zgc ?_ ?_|refine zgx ?_ ?_|(apply op_id;first|refine zk35 rfl rfl rfl ?_|refine zk36 rfl rfl rfl ?_|refine zk37 rfl rfl rfl ?_|refine zk38 rfl rfl rfl ?_|refine zk39 rfl rfl rfl ?_|refine zk40 rfl rfl rfl ?_|refine zk42 rfl rfl rfl ?_|refine zk45 rfl ?_|refine zk46 rfl ?_|refine kc (profNew_s (v := (nth s.topo.nodes n).cap) hc.2.2) rfl rfl ?_|refine zgq ?_)|(apply q_id;first|refine zk0 ?_|refine zk5 ?_|refine zk11 ?_|refine zk12 (fun _ => ?_)|refine zk13 rfl rfl rfl ?_|refine zk14 ?_|refine zk19 ?_|refine zk23 rfl ?_|refine zk29 ns_ok (by kernel_rfl) ?_|refine zk31 ?_|refine zk32 rfl rfl rfl ?_|refine zk33 rfl ?_|refine zk34 rfl ?_))
              refine ⟨(n + 1, [] ++ [[⟨0, (nth s.topo.nodes n).cap⟩]]), ⟨by omega, hnx.symm⟩, by omega, ?_⟩
              refine ⟨rfl, ?_, ?_, rfl⟩
              repeat'(first|apply And.intro|exact zeb|refine zec ?_|exact zen|refine zeo ?_|exact zel|refine zem ?_|exact zep|refine zeq1 ?_|refine zea ?_|refine zei ?_ ?_|refine zex ?_|refine zca (hv := ?_)|refine zcb (hv := ?_)|exact rfl|trivial)
              all_goals exact Stop.mk rfl
            | cons p0 o0 =>
              repeat' (first|(refine awp_frzr 8 46 rfl ?_)|refine zst ?_|(refine zhm fun hb=>?_;try first|omega|exact absurd rfl hb)|refine zgc ?_ ?_|refine zgx ?_ ?_|(apply op_id;first|refine zk35 rfl rfl rfl ?_|refine zk36 rfl rfl rfl ?_|refine zk37 rfl rfl rfl ?_|refine zk38 rfl rfl rfl ?_|refine zk39 rfl rfl rfl ?_|refine zk40 rfl rfl rfl ?_|refine zk42 rfl rfl rfl ?_|refine zk45 rfl ?_|refine zk46 rfl ?_|refine kc (profNew_s (v := (nth s.topo.nodes n).cap) hc.2.2) rfl rfl ?_|refine zgq ?_)|(apply q_id;first|refine zk0 ?_|refine zk5 ?_|refine zk11 ?_|refine zk12 (fun _ => ?_)|refine zk13 rfl rfl rfl ?_|refine zk14 ?_|refine zk19 ?_|refine zk23 rfl ?_|refine zk29 ns_ok (by kernel_rfl) ?_|refine zk31 ?_|refine zk32 rfl rfl rfl ?_|refine zk33 rfl ?_|refine zk34 rfl ?_))
              refine ⟨(n + 1, (p0 :: o0) ++ [[⟨0, (nth s.topo.nodes n).cap⟩]]), ⟨by omega, hnx.symm⟩, by omega, ?_⟩
              refine ⟨rfl, ?_, ?_, rfl⟩
              repeat'(first|apply And.intro|exact zeb|refine zec ?_|exact zen|refine zeo ?_|exact zel|refine zem ?_|exact zep|refine zeq1 ?_|refine zea ?_|refine zei ?_ ?_|refine zex ?_|refine zca (hv := ?_)|refine zcb (hv := ?_)|exact rfl|trivial)
              all_goals exact Stop.mk (by first | rfl | exact profsE_push (p0 :: o0) _)
          · have hall : newPs s.topo.nodes = out := by rw [ho, List.take_of_length_le (by omega)]
            cases out with
            | nil =>
              have hcp := l04Copy_0 (tp := s.topo) (up := s.up) (li := [⟨0, s.lic⟩]) (by unfold emptyR at hok; rw [show (s.topo.nodes.map fun n => [(⟨0, n.cap⟩ : Pt)]) = [] from hall] at hok; exact hok)
              unfold emptyR
              rw [show (s.topo.nodes.map fun n => [(⟨0, n.cap⟩ : Pt)]) = [] from hall]
              repeat' (first|(refine awp_frzr 11 59 rfl ?_)|refine zsr ?_|(refine zhm fun hb=>?_;try first|omega|exact absurd rfl hb)|refine zgc ?_ ?_|refine zgx ?_ ?_|(apply op_id;first|refine zk35 rfl rfl rfl ?_|refine zk36 rfl rfl rfl ?_|refine zk37 rfl rfl rfl ?_|refine zk38 rfl rfl rfl ?_|refine zk39 rfl rfl rfl ?_|refine zk40 rfl rfl rfl ?_|refine zk42 rfl rfl rfl ?_|refine zk45 rfl ?_|refine zk46 rfl ?_|refine kc (profNew_s (v := s.lic) h3) rfl rfl ?_|(refine km [] (hcp) rfl rfl (fun i hi => ?_);(try dsimp only at hi))|refine zgq ?_)|(apply q_id;first|refine zk0 ?_|refine zk5 ?_|refine zk11 ?_|refine zk12 (fun _ => ?_)|refine zk13 rfl rfl rfl ?_|refine zk14 ?_|refine zk19 ?_|refine zk23 rfl ?_|refine zk29 ns_ok (by kernel_rfl) ?_|refine zk31 ?_|refine zk32 rfl rfl rfl ?_|refine zk33 rfl ?_|refine zk34 rfl ?_))
              show AWp _ _ _ _
              refine awp_dena ?_
              apply awp_ret'
              refine zm () [] trivial ?_ ?_ ?_
              repeat'(first|apply And.intro|exact zeb|refine zec ?_|exact zen|refine zeo ?_|exact zel|refine zem ?_|exact zep|refine zeq1 ?_|refine zea ?_|refine zei ?_ ?_|refine zex ?_|refine zca (hv := ?_)|refine zcb (hv := ?_)|exact rfl|trivial)
              all_goals exact Stop.mk rfl
            | cons p0 o0 =>
              have hcp := l04Copy_s hok (by rw [hen, hall]; exact Nat.succ_pos _)
              unfold emptyR at hcp
              rw [show (s.topo.nodes.map fun n => [(⟨0, n.cap⟩ : Pt)]) = p0 :: o0 from hall] at hcp
              unfold emptyR
              rw [show (s.topo.nodes.map fun n => [(⟨0, n.cap⟩ : Pt)]) = p0 :: o0 from hall]
              repeat' (first|(refine awp_frzr 11 59 rfl ?_)|(refine awp_frzr 11 53 rfl ?_)|refine zsr ?_|(refine zhm fun hb=>?_;try first|omega|exact absurd rfl hb)|refine zgc ?_ ?_|refine zgx ?_ ?_|(apply op_id;first|refine zk35 rfl rfl rfl ?_|refine zk36 rfl rfl rfl ?_|refine zk37 rfl rfl rfl ?_|refine zk38 rfl rfl rfl ?_|refine zk39 rfl rfl rfl ?_|refine zk40 rfl rfl rfl ?_|refine zk42 rfl rfl rfl ?_|refine zk45 rfl ?_|refine zk46 rfl ?_|refine kc (profNew_s (v := s.lic) h3) rfl rfl ?_|(refine km [] (hcp) rfl rfl (fun i hi => ?_);(try dsimp only at hi))|refine zgq ?_)|(apply q_id;first|refine zk0 ?_|refine zk5 ?_|refine zk11 ?_|refine zk12 (fun _ => ?_)|refine zk13 rfl rfl rfl ?_|refine zk14 ?_|refine zk19 ?_|refine zk23 rfl ?_|refine zk29 ns_ok (by kernel_rfl) ?_|refine zk31 ?_|refine zk32 rfl rfl rfl ?_|refine zk33 rfl ?_|refine zk34 rfl ?_))
              show AWp _ _ _ _
              refine awp_frz 64 rfl ?_
              refine awp_dena ?_
              apply awp_ret'
              refine zm () [] trivial ?_ ?_ ?_
              repeat'(first|apply And.intro|exact zeb|refine zec ?_|exact zen|refine zeo ?_|exact zel|refine zem ?_|exact zep|refine zeq1 ?_|refine zea ?_|refine zei ?_ ?_|refine zex ?_|refine zca (hv := ?_)|refine zcb (hv := ?_)|exact rfl|trivial)
              all_goals exact Stop.mk rfl
    · rw [empO_f (.inr (.inl h2))]
      repeat' (first|refine zsr ?_|(refine zhm fun hb=>?_;try first|omega|exact absurd rfl hb)|refine zgc ?_ ?_|refine zgx ?_ ?_|(apply op_id;first|refine zk35 rfl rfl rfl ?_|refine zk36 rfl rfl rfl ?_|refine zk37 rfl rfl rfl ?_|refine zk38 rfl rfl rfl ?_|refine zk39 rfl rfl rfl ?_|refine zk40 rfl rfl rfl ?_|refine zk42 rfl rfl rfl ?_|refine zk45 rfl ?_|refine zk46 rfl ?_|refine kc (c1) rfl rfl ?_|refine kc (c2) rfl rfl ?_|refine zgq ?_)|(apply q_id;first|refine zk0 ?_|refine zk5 ?_|refine zk11 ?_|refine zk12 (fun _ => ?_)|refine zk13 rfl rfl rfl ?_|refine zk14 ?_|refine zk19 ?_|refine zk23 rfl ?_|refine zk29 ns_ok (by kernel_rfl) ?_|refine zk31 ?_|refine zk32 rfl rfl rfl ?_|refine zk33 rfl ?_|refine zk34 rfl ?_))
      any_goals
        show AWp _ _ _ _
        refine awp_dena ?_
        apply awp_ret'
        refine zm () [] trivial ?_ ?_ ?_
        repeat'(first|apply And.intro|exact zeb|refine zec ?_|exact zen|refine zeo ?_|exact zel|refine zem ?_|exact zep|refine zeq1 ?_|refine zea ?_|refine zei ?_ ?_|refine zex ?_|refine zca (hv := ?_)|refine zcb (hv := ?_)|exact rfl|trivial)
        all_goals exact Stop.mk rfl
end Go.Proofs.YtliopiphobopjaaGreat
