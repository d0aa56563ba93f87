/-
  Rooms: copies, the empty room; both.
-/
import Derived.Test.YtliopiphobopjaaGreatKSh
import Derived.Test.YtliopiphobopjaaGreatKGaM
set_option maxRecDepth 100000
set_option maxHeartbeats 16000000
namespace Go.Proofs.YtliopiphobopjaaGreat
open Go Go.RowKit
attribute [local irreducible] AWp OpsOk OpOk ACalls ChA QsOk MCalls EnC PY

theorem copyInts_e {l : List Int} (h : l.length ≤ 1000000000) : DC Tryz.prog 188 [.d (.sl (intE l))] [.d (.sl (intE l))] := by
  refine mcalls_of tt Tryz.func188 rfl rfl rfl trivial (fun _ _ => ⟨trivial, trivial⟩) (fun w0 Z O => ?_)
  have hl := intE_length l
  repeat' (first|refine zsr ?_|(refine zhm fun hb=>?_;try first|omega|exact absurd rfl hb)|refine zgc ?_ ?_|refine zgx ?_ ?_|(apply op_id;first|refine zk35 rfl rfl rfl ?_|refine zk36 rfl rfl rfl ?_|refine zk37 rfl rfl rfl ?_|refine zk38 rfl rfl rfl ?_|refine zk39 rfl rfl rfl ?_))
  show AWp _ _ _ _
  refine awp_frz 4 rfl ?_
  refine awp_dena ?_
  apply awp_ret'
  refine zm () [] trivial ?_ ?_ ?_
  repeat'(first|apply And.intro|exact zeb|refine zec ?_|exact zen|refine zeo ?_|exact zel|refine zem ?_|exact zep|refine zeq1 ?_|refine zea ?_|refine zei ?_ ?_|refine zex ?_|refine zca (hv := ?_)|refine zcb (hv := ?_)|exact rfl|trivial)
  all_goals exact Stop.mk rfl
theorem copyProf_e {l : List Pt} (h : l.length ≤ 1000000000) : DC Tryz.prog 262 [profA l] [profA l] := by
  refine mcalls_of tt Tryz.func262 rfl rfl rfl trivial (fun _ _ => ⟨trivial, trivial⟩) (fun w0 Z O => ?_)
  have hl := ptE_length l
  repeat' (first|refine zsr ?_|(refine zhm fun hb=>?_;try first|omega|exact absurd rfl hb)|refine zgc ?_ ?_|refine zgx ?_ ?_|(apply op_id;first|refine zk35 rfl rfl rfl ?_|refine zk36 rfl rfl rfl ?_|refine zk37 rfl rfl rfl ?_|refine zk38 rfl rfl rfl ?_|refine zk39 rfl rfl rfl ?_|refine zgq ?_)|(apply q_id;first|refine zk23 rfl ?_))
  show AWp _ _ _ _
  refine awp_frz 5 rfl ?_
  refine awp_dena ?_
  apply awp_ret'
  refine zm () [] trivial ?_ ?_ ?_
  repeat'(first|apply And.intro|exact zeb|refine zec ?_|exact zen|refine zeo ?_|exact zel|refine zem ?_|exact zep|refine zeq1 ?_|refine zea ?_|refine zei ?_ ?_|refine zex ?_|refine zca (hv := ?_)|refine zcb (hv := ?_)|exact rfl|trivial)
  all_goals exact Stop.mk rfl
theorem l04Prof_s {l : List Pt} (h : l.length ≤ 1000000000) : DC Tryz.prog 255 [profA l] [profA l] := by
  refine mcalls_of tt Tryz.func255 rfl rfl rfl trivial (fun _ _ => ⟨trivial, trivial⟩) (fun w0 Z O => ?_)
  have hl := ptE_length l
  repeat' (first|refine zsr ?_|(refine zhm fun hb=>?_;try first|omega|exact absurd rfl hb)|refine zgc ?_ ?_|refine zgx ?_ ?_|(apply op_id;first|refine zk35 rfl rfl rfl ?_|refine zk36 rfl rfl rfl ?_|refine zk37 rfl rfl rfl ?_|refine zk38 rfl rfl rfl ?_|refine zk39 rfl rfl rfl ?_|refine zk40 rfl rfl rfl ?_|refine zk42 rfl rfl rfl ?_|refine zgq ?_)|(apply q_id;first|refine zk23 rfl ?_))
  show AWp _ _ _ _
  refine awp_frz 3 rfl ?_
  refine awp_dena ?_
  apply awp_ret'
  refine zm () [] trivial ?_ ?_ ?_
  repeat'(first|apply And.intro|exact zeb|refine zec ?_|exact zen|refine zeo ?_|exact zel|refine zem ?_|exact zep|refine zeq1 ?_|refine zea ?_|refine zei ?_ ?_|refine zex ?_|refine zca (hv := ?_)|refine zcb (hv := ?_)|exact rfl|trivial)
  all_goals exact Stop.mk rfl
theorem copyTopo_e {t : Topo} (h1 : t.parents.length ≤ 1000000000) (h2 : t.nodes.length ≤ 1000000000) : DC Tryz.prog 187 [topoA t] [topoA t] := by
  refine mcalls_of tt Tryz.func187 rfl rfl rfl trivial (fun _ _ => ⟨trivial, trivial⟩) (fun w0 Z O => ?_)
  have hl := nodeE_length t.nodes
  repeat' (first|refine zsr ?_|(refine zhm fun hb=>?_;try first|omega|exact absurd rfl hb)|(apply awp_drawq;exact rfl;kernel_rfl;kernel_rfl;exact rfl)|(apply awp_drawx;exact rfl;kernel_rfl;exact rfl)|(apply aopQ_ok;exact rfl)|apply qs_nil|(apply ch_nil;exact rfl)|((first|(apply ch_cons;iterate 2 exact rfl)|(apply ch_yes;iterate 4 exact rfl));(iterate 2 exact rfl);(· (intro w0 Z O;first|(apply aop_ok;exact rfl)|(apply QOk.ok;first|refine zk23 rfl ?_)|refine zk35 rfl rfl rfl ?_|refine zk36 rfl rfl rfl ?_|refine zk37 rfl rfl rfl ?_|refine zk38 rfl rfl rfl ?_|refine zk39 rfl rfl rfl ?_|refine km [] (copyInts_e (l := t.parents) h1) rfl rfl (fun i hi => ?_);(try dsimp only at hi));exact ⟨rfl, rfl, rfl⟩);(iterate 2 exact rfl);exact zsl;exact zft;(iterate 4 exact rfl))|(apply ch_no;iterate 10 exact rfl)|(apply ch_no2;iterate 9 exact rfl)|refine zcx ?_ ?_|refine zgc ?_ ?_|refine zgx ?_ ?_|(first|(apply qs_cons;exact rfl)|(apply qs_yes;exact rfl;exact rfl;exact rfl))|refine zqx ?_ ?_|(apply op_id;first|refine zk35 rfl rfl rfl ?_|refine zk36 rfl rfl rfl ?_|refine zk37 rfl rfl rfl ?_|refine zk38 rfl rfl rfl ?_|refine zk39 rfl rfl rfl ?_|(refine km [] (copyInts_e (l := t.parents) h1) rfl rfl (fun i hi => ?_);(try dsimp only at hi))|refine zgq ?_)|(apply q_id;first|refine zk23 rfl ?_))
  show AWp _ _ _ _
  refine awp_frz 8 rfl ?_
  refine awp_dena ?_
  apply awp_ret'
  refine zm () [] trivial ?_ ?_ ?_
  repeat'(first|apply And.intro|exact zeb|refine zec ?_|exact zen|refine zeo ?_|exact zel|refine zem ?_|exact zep|refine zeq1 ?_|refine zea ?_|refine zei ?_ ?_|refine zex ?_|refine zca (hv := ?_)|refine zcb (hv := ?_)|exact rfl|trivial)
  all_goals exact Stop.mk rfl
def slN (n : Nat) (es : List (List D)) : AV := match es with
  | [] => .nil
  | _ :: _ => .row n
def slO (n : Nat) (e : TypeId) (es : List (List D)) : List (Nat × AO) := match es with
  | [] => []
  | _ :: _ => [(n, .row e es false)]
theorem profsE_push (l : List (List Pt)) (p : List Pt) : profsE l ++ [[.sl (ptE p)]] = profsE (l ++ [p]) := by simp [profsE]
theorem copyRoom_e {r : Room} (h : RoomOk r) (h0 : 0 < r.profs.length) : MCalls Tryz.prog 240 [roomA r] [] (fun _ : Unit => True) (fun _ => [.agg [.d (.sl (intE r.topo.parents)), .d (.sl (nodeE r.topo.nodes)), .d (.sl (boolE r.up)), .row 0, .d (.sl (ptE r.lics))]]) (fun _ => []) (fun _ => [(0, .row 150 (profsE r.profs) false)]) := by
  refine mcalls_of tt Tryz.func240 rfl rfl rfl trivial (fun _ _ => ⟨trivial, trivial⟩) (fun w0 Z O => ?_)
  have hs := h.small
  have hbl := boolE_length r.up
  have hnl := nodeE_length r.topo.nodes
  have hpl := profsE_length r.profs
  have hil := intE_length r.topo.parents
  repeat' (first|(refine awp_frzr 2 11 rfl ?_)|refine zst ?_|(refine zhm fun hb=>?_;try first|omega|exact absurd rfl hb)|(apply awp_drawq;exact rfl;kernel_rfl;kernel_rfl;exact rfl)|(apply awp_drawx;exact rfl;kernel_rfl;exact rfl)|(apply aopQ_ok;exact rfl)|apply qs_nil|(apply ch_nil;exact rfl)|((first|(apply ch_cons;iterate 2 exact rfl)|(apply ch_yes;iterate 4 exact rfl));(iterate 2 exact rfl);(· (intro w0 Z O;first|(apply aop_ok;exact rfl)|(apply QOk.ok;first|refine zk0 ?_|refine zk5 ?_|refine zk11 ?_|refine zk12 (fun _ => ?_)|refine zk13 rfl rfl rfl ?_|refine zk14 ?_|refine zk19 ?_|refine zk23 rfl ?_|refine zk31 ?_|refine zk32 rfl rfl rfl ?_|refine zk33 rfl ?_|refine zk34 rfl ?_)|refine zk35 rfl rfl rfl ?_|refine zk36 rfl rfl rfl ?_|refine zk37 rfl rfl rfl ?_|refine zk38 rfl rfl rfl ?_|refine zk39 rfl rfl rfl ?_|refine zk40 rfl rfl rfl ?_|refine zk42 rfl rfl rfl ?_|refine zk45 rfl ?_|refine zk46 rfl ?_|refine km [] (copyTopo_e (t := r.topo) (by omega) (by omega)) rfl rfl (fun i hi => ?_);(try dsimp only at hi)|refine km [] (copyProf_e (l := r.lics) (by omega)) rfl rfl (fun i hi => ?_);(try dsimp only at hi));exact ⟨rfl, rfl, rfl⟩);(iterate 2 exact rfl);exact zsl;exact zft;(iterate 4 exact rfl))|(apply ch_no;iterate 10 exact rfl)|(apply ch_no2;iterate 9 exact rfl)|refine zcx ?_ ?_|refine zgc ?_ ?_|refine zgx ?_ ?_|(first|(apply qs_cons;exact rfl)|(apply qs_yes;exact rfl;exact rfl;exact rfl))|refine zqx ?_ ?_|(apply op_id;first|refine zk35 rfl rfl rfl ?_|refine zk36 rfl rfl rfl ?_|refine zk37 rfl rfl rfl ?_|refine zk38 rfl rfl rfl ?_|refine zk39 rfl rfl rfl ?_|refine zk40 rfl rfl rfl ?_|refine zk42 rfl rfl rfl ?_|refine zk45 rfl ?_|refine zk46 rfl ?_|(refine km [] (copyTopo_e (t := r.topo) (by omega) (by omega)) rfl rfl (fun i hi => ?_);(try dsimp only at hi))|(refine km [] (copyProf_e (l := r.lics) (by omega)) rfl rfl (fun i hi => ?_);(try dsimp only at hi))|refine zgq ?_)|(apply q_id;first|refine zk0 ?_|refine zk5 ?_|refine zk11 ?_|refine zk12 (fun _ => ?_)|refine zk13 rfl rfl rfl ?_|refine zk14 ?_|refine zk19 ?_|refine zk23 rfl ?_|refine zk31 ?_|refine zk32 rfl rfl rfl ?_|refine zk33 rfl ?_|refine zk34 rfl ?_))
  refine awp_loop (fun (k : Nat × List (List Pt)) => ⟨32, [(2, .ptr 2 0), (3, .ptr 3 0), (17, .d (.sl (profsE r.profs))), (18, .d (.n .i64 (r.profs.length : Nat))), (19, .d (.n .i64 k.1))], [(2, .box 152 [.nil, .nil, .nil, .nil, .nil]), (3, .box 152 [.d (.sl (intE r.topo.parents)), .d (.sl (nodeE r.topo.nodes)), .d (.sl (boolE r.up)), slN 28 (profsE k.2), .d (.sl (ptE r.lics))])] ++ slO 28 150 (profsE k.2)⟩) (fun k => k.1 ≤ r.profs.length ∧ k.2 = r.profs.take k.1) (fun k => r.profs.length - k.1) (0, []) (by exact ⟨Nat.zero_le _, rfl⟩) ?_ ?_
  · refine ⟨rfl, ?_, ?_, rfl⟩
    repeat'(first|apply And.intro|exact zeb|refine zec ?_|exact zen|refine zeo ?_|exact zel|refine zem ?_|exact zep|refine zeq1 ?_|refine zea ?_|refine zei ?_ ?_|refine zex ?_|refine zca (hv := ?_)|refine zcb (hv := ?_)|exact rfl|trivial)
    all_goals exact Stop.mk (by first | rfl | exact profsE_length _)
  · rintro ⟨n, out⟩ ⟨hn, ho⟩
    dsimp only at hn ho ⊢
    have hol : out.length = n := by rw [ho, List.length_take]; omega
    have hol2 := profsE_length out
    by_cases hn' : n < r.profs.length
    · have hp := h.profs n hn'
      have hpl2 := hp.len
      have hnx := take_snoc hn'
      rw [← ho] at hnx
      cases out with
      | nil =>
        repeat' (first|refine zst ?_|(refine zhm fun hb=>?_;try first|omega|exact absurd rfl hb)|(apply awp_drawq;exact rfl;kernel_rfl;kernel_rfl;exact rfl)|(apply awp_drawx;exact rfl;kernel_rfl;exact rfl)|(apply aopQ_ok;exact rfl)|apply qs_nil|(apply ch_nil;exact rfl)|((first|(apply ch_cons;iterate 2 exact rfl)|(apply ch_yes;iterate 4 exact rfl));(iterate 2 exact rfl);(· (intro w0 Z O;first|(apply aop_ok;exact rfl)|(apply QOk.ok;first|refine zk0 ?_|refine zk5 ?_|refine zk11 ?_|refine zk12 (fun _ => ?_)|refine zk13 rfl rfl rfl ?_|refine zk14 ?_|refine zk19 ?_|refine zk23 rfl ?_|refine zk31 ?_|refine zk32 rfl rfl rfl ?_|refine zk33 rfl ?_|refine zk34 rfl ?_)|refine zk35 rfl rfl rfl ?_|refine zk36 rfl rfl rfl ?_|refine zk37 rfl rfl rfl ?_|refine zk38 rfl rfl rfl ?_|refine zk39 rfl rfl rfl ?_|refine zk40 rfl rfl rfl ?_|refine zk42 rfl rfl rfl ?_|refine zk45 rfl ?_|refine zk46 rfl ?_|refine km [] (copyProf_e (l := nth r.profs n) (by omega)) rfl rfl (fun i hi => ?_);(try dsimp only at hi));exact ⟨rfl, rfl, rfl⟩);(iterate 2 exact rfl);exact zsl;exact zft;(iterate 4 exact rfl))|(apply ch_no;iterate 10 exact rfl)|(apply ch_no2;iterate 9 exact rfl)|refine zcx ?_ ?_|refine zgc ?_ ?_|refine zgx ?_ ?_|(first|(apply qs_cons;exact rfl)|(apply qs_yes;exact rfl;exact rfl;exact rfl))|refine zqx ?_ ?_|(apply op_id;first|refine zk35 rfl rfl rfl ?_|refine zk36 rfl rfl rfl ?_|refine zk37 rfl rfl rfl ?_|refine zk38 rfl rfl rfl ?_|refine zk39 rfl rfl rfl ?_|refine zk40 rfl rfl rfl ?_|refine zk42 rfl rfl rfl ?_|refine zk45 rfl ?_|refine zk46 rfl ?_|(refine km [] (copyProf_e (l := nth r.profs n) (by omega)) rfl rfl (fun i hi => ?_);(try dsimp only at hi))|refine zgq ?_)|(apply q_id;first|refine zk0 ?_|refine zk5 ?_|refine zk11 ?_|refine zk12 (fun _ => ?_)|refine zk13 rfl rfl rfl ?_|refine zk14 ?_|refine zk19 ?_|refine zk23 rfl ?_|refine zk31 ?_|refine zk32 rfl rfl rfl ?_|refine zk33 rfl ?_|refine zk34 rfl ?_))
        refine ⟨(n + 1, [] ++ [nth r.profs n]), ⟨by omega, hnx.symm⟩, by omega, ?_⟩
        refine ⟨rfl, ?_, ?_, rfl⟩
        repeat'(first|apply And.intro|exact zeb|refine zec ?_|exact zen|refine zeo ?_|exact zel|refine zem ?_|exact zep|refine zeq1 ?_|refine zea ?_|refine zei ?_ ?_|refine zex ?_|refine zca (hv := ?_)|refine zcb (hv := ?_)|exact rfl|trivial)
        all_goals exact Stop.mk rfl
      | cons p0 o0 =>
        repeat' (first|refine zst ?_|(refine zhm fun hb=>?_;try first|omega|exact absurd rfl hb)|(apply awp_drawq;exact rfl;kernel_rfl;kernel_rfl;exact rfl)|(apply awp_drawx;exact rfl;kernel_rfl;exact rfl)|(apply aopQ_ok;exact rfl)|apply qs_nil|(apply ch_nil;exact rfl)|((first|(apply ch_cons;iterate 2 exact rfl)|(apply ch_yes;iterate 4 exact rfl));(iterate 2 exact rfl);(· (intro w0 Z O;first|(apply aop_ok;exact rfl)|(apply QOk.ok;first|refine zk0 ?_|refine zk5 ?_|refine zk11 ?_|refine zk12 (fun _ => ?_)|refine zk13 rfl rfl rfl ?_|refine zk14 ?_|refine zk19 ?_|refine zk23 rfl ?_|refine zk31 ?_|refine zk32 rfl rfl rfl ?_|refine zk33 rfl ?_|refine zk34 rfl ?_)|refine zk35 rfl rfl rfl ?_|refine zk36 rfl rfl rfl ?_|refine zk37 rfl rfl rfl ?_|refine zk38 rfl rfl rfl ?_|refine zk39 rfl rfl rfl ?_|refine zk40 rfl rfl rfl ?_|refine zk42 rfl rfl rfl ?_|refine zk45 rfl ?_|refine zk46 rfl ?_|refine km [] (copyProf_e (l := nth r.profs n) (by omega)) rfl rfl (fun i hi => ?_);(try dsimp only at hi));exact ⟨rfl, rfl, rfl⟩);(iterate 2 exact rfl);exact zsl;exact zft;(iterate 4 exact rfl))|(apply ch_no;iterate 10 exact rfl)|(apply ch_no2;iterate 9 exact rfl)|refine zcx ?_ ?_|refine zgc ?_ ?_|refine zgx ?_ ?_|(first|(apply qs_cons;exact rfl)|(apply qs_yes;exact rfl;exact rfl;exact rfl))|refine zqx ?_ ?_|(apply op_id;first|refine zk35 rfl rfl rfl ?_|refine zk36 rfl rfl rfl ?_|refine zk37 rfl rfl rfl ?_|refine zk38 rfl rfl rfl ?_|refine zk39 rfl rfl rfl ?_|refine zk40 rfl rfl rfl ?_|refine zk42 rfl rfl rfl ?_|refine zk45 rfl ?_|refine zk46 rfl ?_|(refine km [] (copyProf_e (l := nth r.profs n) (by omega)) rfl rfl (fun i hi => ?_);(try dsimp only at hi))|refine zgq ?_)|(apply q_id;first|refine zk0 ?_|refine zk5 ?_|refine zk11 ?_|refine zk12 (fun _ => ?_)|refine zk13 rfl rfl rfl ?_|refine zk14 ?_|refine zk19 ?_|refine zk23 rfl ?_|refine zk31 ?_|refine zk32 rfl rfl rfl ?_|refine zk33 rfl ?_|refine zk34 rfl ?_))
        refine ⟨(n + 1, (p0 :: o0) ++ [nth r.profs n]), ⟨by omega, hnx.symm⟩, by omega, ?_⟩
        refine ⟨rfl, ?_, ?_, rfl⟩
        repeat'(first|apply And.intro|exact zeb|refine zec ?_|exact zen|refine zeo ?_|exact zel|refine zem ?_|exact zep|refine zeq1 ?_|refine zea ?_|refine zei ?_ ?_|refine zex ?_|refine zca (hv := ?_)|refine zcb (hv := ?_)|exact rfl|trivial)
        all_goals exact Stop.mk (by first | rfl | exact profsE_push (p0 :: o0) _)
    · have hall : out = r.profs := by rw [ho, List.take_of_length_le (by omega)]
      cases out with
      | nil => rw [← hall] at h0; cases h0
      | cons p0 o0 =>
        repeat' (first|refine zsr ?_|(refine zhm fun hb=>?_;try first|omega|exact absurd rfl hb)|(apply awp_drawq;exact rfl;kernel_rfl;kernel_rfl;exact rfl)|(apply awp_drawx;exact rfl;kernel_rfl;exact rfl)|(apply aopQ_ok;exact rfl)|apply qs_nil|(apply ch_nil;exact rfl)|((first|(apply ch_cons;iterate 2 exact rfl)|(apply ch_yes;iterate 4 exact rfl));(iterate 2 exact rfl);(· (intro w0 Z O;first|(apply aop_ok;exact rfl)|(apply QOk.ok;first|refine zk0 ?_|refine zk5 ?_|refine zk11 ?_|refine zk12 (fun _ => ?_)|refine zk13 rfl rfl rfl ?_|refine zk14 ?_|refine zk19 ?_|refine zk23 rfl ?_|refine zk31 ?_|refine zk32 rfl rfl rfl ?_|refine zk33 rfl ?_|refine zk34 rfl ?_)|refine zk35 rfl rfl rfl ?_|refine zk36 rfl rfl rfl ?_|refine zk37 rfl rfl rfl ?_|refine zk38 rfl rfl rfl ?_|refine zk39 rfl rfl rfl ?_|refine zk40 rfl rfl rfl ?_|refine zk42 rfl rfl rfl ?_|refine zk45 rfl ?_|refine zk46 rfl ?_);exact ⟨rfl, rfl, rfl⟩);(iterate 2 exact rfl);exact zsl;exact zft;(iterate 4 exact rfl))|(apply ch_no;iterate 10 exact rfl)|(apply ch_no2;iterate 9 exact rfl)|refine zcx ?_ ?_|refine zgc ?_ ?_|refine zgx ?_ ?_|(first|(apply qs_cons;exact rfl)|(apply qs_yes;exact rfl;exact rfl;exact rfl))|refine zqx ?_ ?_|(apply op_id;first|refine zk35 rfl rfl rfl ?_|refine zk36 rfl rfl rfl ?_|refine zk37 rfl rfl rfl ?_|refine zk38 rfl rfl rfl ?_|refine zk39 rfl rfl rfl ?_|refine zk40 rfl rfl rfl ?_|refine zk42 rfl rfl rfl ?_|refine zk45 rfl ?_|refine zk46 rfl ?_|refine zgq ?_)|(apply q_id;first|refine zk0 ?_|refine zk5 ?_|refine zk11 ?_|refine zk12 (fun _ => ?_)|refine zk13 rfl rfl rfl ?_|refine zk14 ?_|refine zk19 ?_|refine zk23 rfl ?_|refine zk31 ?_|refine zk32 rfl rfl rfl ?_|refine zk33 rfl ?_|refine zk34 rfl ?_))
        show AWp _ _ _ _
        refine awp_dena ?_
        apply awp_ret'
        refine zm () [28] trivial ?_ ?_ ?_
        repeat'(first|apply And.intro|exact zeb|refine zec ?_|exact zen|refine zeo ?_|exact zel|refine zem ?_|exact zep|refine zeq1 ?_|refine zea ?_|refine zei ?_ ?_|refine zex ?_|refine zca (hv := ?_)|refine zcb (hv := ?_)|exact rfl|trivial)
        all_goals exact Stop.mk (by first | rfl | rw [hall])
theorem l04Copy_s {r : Room} (h : RoomOk r) (h0 : 0 < r.profs.length) : MCalls Tryz.prog 232 [roomA r] [] (fun _ : Unit => True) (fun _ => [.agg [.d (.sl (intE r.topo.parents)), .d (.sl (nodeE r.topo.nodes)), .d (.sl (boolE r.up)), .row 0, .d (.sl (ptE r.lics))]]) (fun _ => []) (fun _ => [(0, .row 150 (profsE r.profs) false)]) := by
  refine mcalls_of tt Tryz.func232 rfl rfl rfl trivial (fun _ _ => ⟨trivial, trivial⟩) (fun w0 Z O => ?_)
  have hs := h.small
  have hbl := boolE_length r.up
  have hnl := nodeE_length r.topo.nodes
  have hpl := profsE_length r.profs
  have hil := intE_length r.topo.parents
  repeat' (first|(refine awp_frzr 3 6 rfl ?_)|(refine awp_frzr 3 14 rfl ?_)|(refine awp_frzr 3 19 rfl ?_)|refine zst ?_|(refine zhm fun hb=>?_;try first|omega|exact absurd rfl hb)|(apply awp_drawq;exact rfl;kernel_rfl;kernel_rfl;exact rfl)|(apply awp_drawx;exact rfl;kernel_rfl;exact rfl)|(apply aopQ_ok;exact rfl)|apply qs_nil|(apply ch_nil;exact rfl)|((first|(apply ch_cons;iterate 2 exact rfl)|(apply ch_yes;iterate 4 exact rfl));(iterate 2 exact rfl);(· (intro w0 Z O;first|(apply aop_ok;exact rfl)|(apply QOk.ok;first|refine zk0 ?_|refine zk5 ?_|refine zk11 ?_|refine zk12 (fun _ => ?_)|refine zk13 rfl rfl rfl ?_|refine zk14 ?_|refine zk19 ?_|refine zk23 rfl ?_|refine zk31 ?_|refine zk32 rfl rfl rfl ?_|refine zk33 rfl ?_|refine zk34 rfl ?_)|refine zk35 rfl rfl rfl ?_|refine zk36 rfl rfl rfl ?_|refine zk37 rfl rfl rfl ?_|refine zk38 rfl rfl rfl ?_|refine zk39 rfl rfl rfl ?_|refine zk40 rfl rfl rfl ?_|refine zk42 rfl rfl rfl ?_|refine zk45 rfl ?_|refine zk46 rfl ?_|refine km [] (l04Prof_s (l := r.lics) (by omega)) rfl rfl (fun i hi => ?_);(try dsimp only at hi));exact ⟨rfl, rfl, rfl⟩);(iterate 2 exact rfl);exact zsl;exact zft;(iterate 4 exact rfl))|(apply ch_no;iterate 10 exact rfl)|(apply ch_no2;iterate 9 exact rfl)|refine zcx ?_ ?_|refine zgc ?_ ?_|refine zgx ?_ ?_|(first|(apply qs_cons;exact rfl)|(apply qs_yes;exact rfl;exact rfl;exact rfl))|refine zqx ?_ ?_|(apply op_id;first|refine zk35 rfl rfl rfl ?_|refine zk36 rfl rfl rfl ?_|refine zk37 rfl rfl rfl ?_|refine zk38 rfl rfl rfl ?_|refine zk39 rfl rfl rfl ?_|refine zk40 rfl rfl rfl ?_|refine zk42 rfl rfl rfl ?_|refine zk45 rfl ?_|refine zk46 rfl ?_|(refine km [] (l04Prof_s (l := r.lics) (by omega)) rfl rfl (fun i hi => ?_);(try dsimp only at hi))|refine zgq ?_)|(apply q_id;first|refine zk0 ?_|refine zk5 ?_|refine zk11 ?_|refine zk12 (fun _ => ?_)|refine zk13 rfl rfl rfl ?_|refine zk14 ?_|refine zk19 ?_|refine zk23 rfl ?_|refine zk31 ?_|refine zk32 rfl rfl rfl ?_|refine zk33 rfl ?_|refine zk34 rfl ?_))
  refine awp_loop (fun (k : Nat × List (List Pt)) => ⟨42, [(2, .ptr 2 0), (3, .ptr 3 0), (27, .d (.sl (profsE r.profs))), (28, .d (.n .i64 (r.profs.length : Nat))), (29, .d (.n .i64 k.1))], [(2, .box 152 [.nil, .nil, .nil, .nil, .nil]), (3, .box 152 [.d (.sl (intE r.topo.parents)), .d (.sl (nodeE r.topo.nodes)), .d (.sl (boolE r.up)), slN 38 (profsE k.2), .d (.sl (ptE r.lics))])] ++ slO 38 150 (profsE k.2)⟩) (fun k => k.1 ≤ r.profs.length ∧ k.2 = r.profs.take k.1) (fun k => r.profs.length - k.1) (0, []) (by exact ⟨Nat.zero_le _, rfl⟩) ?_ ?_
  · refine ⟨rfl, ?_, ?_, rfl⟩
    repeat'(first|apply And.intro|exact zeb|refine zec ?_|exact zen|refine zeo ?_|exact zel|refine zem ?_|exact zep|refine zeq1 ?_|refine zea ?_|refine zei ?_ ?_|refine zex ?_|refine zca (hv := ?_)|refine zcb (hv := ?_)|exact rfl|trivial)
    all_goals exact Stop.mk (by first | rfl | exact profsE_length _)
  · rintro ⟨n, out⟩ ⟨hn, ho⟩
    dsimp only at hn ho ⊢
    have hol : out.length = n := by rw [ho, List.length_take]; omega
    have hol2 := profsE_length out
    by_cases hn' : n < r.profs.length
    · have hp := h.profs n hn'
      have hpl2 := hp.len
      have hnx := take_snoc hn'
      rw [← ho] at hnx
      cases out with
      | nil =>
        repeat' (first|refine zst ?_|(refine zhm fun hb=>?_;try first|omega|exact absurd rfl hb)|(apply awp_drawq;exact rfl;kernel_rfl;kernel_rfl;exact rfl)|(apply awp_drawx;exact rfl;kernel_rfl;exact rfl)|(apply aopQ_ok;exact rfl)|apply qs_nil|(apply ch_nil;exact rfl)|((first|(apply ch_cons;iterate 2 exact rfl)|(apply ch_yes;iterate 4 exact rfl));(iterate 2 exact rfl);(· (intro w0 Z O;first|(apply aop_ok;exact rfl)|(apply QOk.ok;first|refine zk0 ?_|refine zk5 ?_|refine zk11 ?_|refine zk12 (fun _ => ?_)|refine zk13 rfl rfl rfl ?_|refine zk14 ?_|refine zk19 ?_|refine zk23 rfl ?_|refine zk31 ?_|refine zk32 rfl rfl rfl ?_|refine zk33 rfl ?_|refine zk34 rfl ?_)|refine zk35 rfl rfl rfl ?_|refine zk36 rfl rfl rfl ?_|refine zk37 rfl rfl rfl ?_|refine zk38 rfl rfl rfl ?_|refine zk39 rfl rfl rfl ?_|refine zk40 rfl rfl rfl ?_|refine zk42 rfl rfl rfl ?_|refine zk45 rfl ?_|refine zk46 rfl ?_|refine km [] (l04Prof_s (l := nth r.profs n) (by omega)) rfl rfl (fun i hi => ?_);(try dsimp only at hi));exact ⟨rfl, rfl, rfl⟩);(iterate 2 exact rfl);exact zsl;exact zft;(iterate 4 exact rfl))|(apply ch_no;iterate 10 exact rfl)|(apply ch_no2;iterate 9 exact rfl)|refine zcx ?_ ?_|refine zgc ?_ ?_|refine zgx ?_ ?_|(first|(apply qs_cons;exact rfl)|(apply qs_yes;exact rfl;exact rfl;exact rfl))|refine zqx ?_ ?_|(apply op_id;first|refine zk35 rfl rfl rfl ?_|refine zk36 rfl rfl rfl ?_|refine zk37 rfl rfl rfl ?_|refine zk38 rfl rfl rfl ?_|refine zk39 rfl rfl rfl ?_|refine zk40 rfl rfl rfl ?_|refine zk42 rfl rfl rfl ?_|refine zk45 rfl ?_|refine zk46 rfl ?_|(refine km [] (l04Prof_s (l := nth r.profs n) (by omega)) rfl rfl (fun i hi => ?_);(try dsimp only at hi))|refine zgq ?_)|(apply q_id;first|refine zk0 ?_|refine zk5 ?_|refine zk11 ?_|refine zk12 (fun _ => ?_)|refine zk13 rfl rfl rfl ?_|refine zk14 ?_|refine zk19 ?_|refine zk23 rfl ?_|refine zk31 ?_|refine zk32 rfl rfl rfl ?_|refine zk33 rfl ?_|refine zk34 rfl ?_))
        refine ⟨(n + 1, [] ++ [nth r.profs n]), ⟨by omega, hnx.symm⟩, by omega, ?_⟩
        refine ⟨rfl, ?_, ?_, rfl⟩
        repeat'(first|apply And.intro|exact zeb|refine zec ?_|exact zen|refine zeo ?_|exact zel|refine zem ?_|exact zep|refine zeq1 ?_|refine zea ?_|refine zei ?_ ?_|refine zex ?_|refine zca (hv := ?_)|refine zcb (hv := ?_)|exact rfl|trivial)
        all_goals exact Stop.mk rfl
      | cons p0 o0 =>
        repeat' (first|refine zst ?_|(refine zhm fun hb=>?_;try first|omega|exact absurd rfl hb)|(apply awp_drawq;exact rfl;kernel_rfl;kernel_rfl;exact rfl)|(apply awp_drawx;exact rfl;kernel_rfl;exact rfl)|(apply aopQ_ok;exact rfl)|apply qs_nil|(apply ch_nil;exact rfl)|((first|(apply ch_cons;iterate 2 exact rfl)|(apply ch_yes;iterate 4 exact rfl));(iterate 2 exact rfl);(· (intro w0 Z O;first|(apply aop_ok;exact rfl)|(apply QOk.ok;first|refine zk0 ?_|refine zk5 ?_|refine zk11 ?_|refine zk12 (fun _ => ?_)|refine zk13 rfl rfl rfl ?_|refine zk14 ?_|refine zk19 ?_|refine zk23 rfl ?_|refine zk31 ?_|refine zk32 rfl rfl rfl ?_|refine zk33 rfl ?_|refine zk34 rfl ?_)|refine zk35 rfl rfl rfl ?_|refine zk36 rfl rfl rfl ?_|refine zk37 rfl rfl rfl ?_|refine zk38 rfl rfl rfl ?_|refine zk39 rfl rfl rfl ?_|refine zk40 rfl rfl rfl ?_|refine zk42 rfl rfl rfl ?_|refine zk45 rfl ?_|refine zk46 rfl ?_|refine km [] (l04Prof_s (l := nth r.profs n) (by omega)) rfl rfl (fun i hi => ?_);(try dsimp only at hi));exact ⟨rfl, rfl, rfl⟩);(iterate 2 exact rfl);exact zsl;exact zft;(iterate 4 exact rfl))|(apply ch_no;iterate 10 exact rfl)|(apply ch_no2;iterate 9 exact rfl)|refine zcx ?_ ?_|refine zgc ?_ ?_|refine zgx ?_ ?_|(first|(apply qs_cons;exact rfl)|(apply qs_yes;exact rfl;exact rfl;exact rfl))|refine zqx ?_ ?_|(apply op_id;first|refine zk35 rfl rfl rfl ?_|refine zk36 rfl rfl rfl ?_|refine zk37 rfl rfl rfl ?_|refine zk38 rfl rfl rfl ?_|refine zk39 rfl rfl rfl ?_|refine zk40 rfl rfl rfl ?_|refine zk42 rfl rfl rfl ?_|refine zk45 rfl ?_|refine zk46 rfl ?_|(refine km [] (l04Prof_s (l := nth r.profs n) (by omega)) rfl rfl (fun i hi => ?_);(try dsimp only at hi))|refine zgq ?_)|(apply q_id;first|refine zk0 ?_|refine zk5 ?_|refine zk11 ?_|refine zk12 (fun _ => ?_)|refine zk13 rfl rfl rfl ?_|refine zk14 ?_|refine zk19 ?_|refine zk23 rfl ?_|refine zk31 ?_|refine zk32 rfl rfl rfl ?_|refine zk33 rfl ?_|refine zk34 rfl ?_))
        refine ⟨(n + 1, (p0 :: o0) ++ [nth r.profs n]), ⟨by omega, hnx.symm⟩, by omega, ?_⟩
        refine ⟨rfl, ?_, ?_, rfl⟩
        repeat'(first|apply And.intro|exact zeb|refine zec ?_|exact zen|refine zeo ?_|exact zel|refine zem ?_|exact zep|refine zeq1 ?_|refine zea ?_|refine zei ?_ ?_|refine zex ?_|refine zca (hv := ?_)|refine zcb (hv := ?_)|exact rfl|trivial)
        all_goals exact Stop.mk (by first | rfl | exact profsE_push (p0 :: o0) _)
    · have hall : out = r.profs := by rw [ho, List.take_of_length_le (by omega)]
      cases out with
      | nil => rw [← hall] at h0; cases h0
      | cons p0 o0 =>
        repeat' (first|refine zsr ?_|(refine zhm fun hb=>?_;try first|omega|exact absurd rfl hb)|(apply awp_drawq;exact rfl;kernel_rfl;kernel_rfl;exact rfl)|(apply awp_drawx;exact rfl;kernel_rfl;exact rfl)|(apply aopQ_ok;exact rfl)|apply qs_nil|(apply ch_nil;exact rfl)|((first|(apply ch_cons;iterate 2 exact rfl)|(apply ch_yes;iterate 4 exact rfl));(iterate 2 exact rfl);(· (intro w0 Z O;first|(apply aop_ok;exact rfl)|(apply QOk.ok;first|refine zk0 ?_|refine zk5 ?_|refine zk11 ?_|refine zk12 (fun _ => ?_)|refine zk13 rfl rfl rfl ?_|refine zk14 ?_|refine zk19 ?_|refine zk23 rfl ?_|refine zk31 ?_|refine zk32 rfl rfl rfl ?_|refine zk33 rfl ?_|refine zk34 rfl ?_)|refine zk35 rfl rfl rfl ?_|refine zk36 rfl rfl rfl ?_|refine zk37 rfl rfl rfl ?_|refine zk38 rfl rfl rfl ?_|refine zk39 rfl rfl rfl ?_|refine zk40 rfl rfl rfl ?_|refine zk42 rfl rfl rfl ?_|refine zk45 rfl ?_|refine zk46 rfl ?_);exact ⟨rfl, rfl, rfl⟩);(iterate 2 exact rfl);exact zsl;exact zft;(iterate 4 exact rfl))|(apply ch_no;iterate 10 exact rfl)|(apply ch_no2;iterate 9 exact rfl)|refine zcx ?_ ?_|refine zgc ?_ ?_|refine zgx ?_ ?_|(first|(apply qs_cons;exact rfl)|(apply qs_yes;exact rfl;exact rfl;exact rfl))|refine zqx ?_ ?_|(apply op_id;first|refine zk35 rfl rfl rfl ?_|refine zk36 rfl rfl rfl ?_|refine zk37 rfl rfl rfl ?_|refine zk38 rfl rfl rfl ?_|refine zk39 rfl rfl rfl ?_|refine zk40 rfl rfl rfl ?_|refine zk42 rfl rfl rfl ?_|refine zk45 rfl ?_|refine zk46 rfl ?_|refine zgq ?_)|(apply q_id;first|refine zk0 ?_|refine zk5 ?_|refine zk11 ?_|refine zk12 (fun _ => ?_)|refine zk13 rfl rfl rfl ?_|refine zk14 ?_|refine zk19 ?_|refine zk23 rfl ?_|refine zk31 ?_|refine zk32 rfl rfl rfl ?_|refine zk33 rfl ?_|refine zk34 rfl ?_))
        show AWp _ _ _ _
        refine awp_dena ?_
        apply awp_ret'
        refine zm () [38] trivial ?_ ?_ ?_
        repeat'(first|apply And.intro|exact zeb|refine zec ?_|exact zen|refine zeo ?_|exact zel|refine zem ?_|exact zep|refine zeq1 ?_|refine zea ?_|refine zei ?_ ?_|refine zex ?_|refine zca (hv := ?_)|refine zcb (hv := ?_)|exact rfl|trivial)
        all_goals exact Stop.mk (by first | rfl | rw [hall])
end Go.Proofs.YtliopiphobopjaaGreat
