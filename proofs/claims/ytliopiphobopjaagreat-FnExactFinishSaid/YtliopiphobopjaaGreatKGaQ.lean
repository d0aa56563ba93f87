/-
  The empty room, both.
-/
import Derived.Test.YtliopiphobopjaaGreatKShL
import Derived.Test.YtliopiphobopjaaGreatKB18
import Derived.Test.YtliopiphobopjaaGreatKGlA
set_option maxRecDepth 100000
set_option maxHeartbeats 16000000
namespace Go.Proofs.YtliopiphobopjaaGreat
open Go Go.RowKit
attribute [local irreducible] AWp OpsOk OpOk ACalls ChA QsOk MCalls EnC PY

def newPs (l : List Node) : List (List Pt) := l.map fun n => [⟨0, n.cap⟩]
theorem newPs_take {l : List Node} {n : Nat} (h : n < l.length) : newPs (l.take (n + 1)) = newPs (l.take n) ++ [[⟨0, (nth l n).cap⟩]] := by
 rw [take_snoc h]
 simp [newPs]
theorem empty_e {t : Topo} {up : List Bool} {lic : V3} (h : TopoOk t) (hu : up.length = t.nodes.length) (hv : vecOkB lic = true) : DC Tryz.prog 144 [topoA t, .d (.sl (boolE up)), vecA lic] [roomA (emptyR t up lic)] := by
 refine mcalls_of tt Tryz.func144 rfl rfl rfl trivial (fun _ _ => ⟨trivial, trivial⟩) (fun w0 Z O => ?_)
 have h1 := h.len
 have h2 := h.nlen
 have hbl := boolE_length up
 have hnl := nodeE_length t.nodes
 repeat' (first|(refine awp_frzr 2 15 rfl ?_)|refine zst ?_|(refine zhm fun hb=>?_;try exact zab)|refine zg2 ?_ ?_|refine zln fun _=>?_|refine zop ?_|(refine km [] (copyTopo_e (t := t) (by omega) (by omega)) rfl rfl (fun i hi => ?_);(try dsimp only at hi))|fail)
 refine awp_loop (fun (k : Nat × List (List Pt)) => ⟨44, [(5, .ptr 5 0), (6, .ptr 6 0), (7, .ptr 7 0), (18, .d (.sl (nodeE t.nodes))), (19, .d (.n .i64 (t.nodes.length : Nat))), (20, .d (.n .i64 k.1))], [(5, .box 35 (vecC lic)), (6, .box 152 [.nil, .nil, .nil, .nil, .nil]), (7, .box 152 [.d (.sl (intE t.parents)), .d (.sl (nodeE t.nodes)), .d (.sl (boolE up)), slN 34 (profsE k.2), .nil])] ++ slO 34 150 (profsE k.2)⟩) (fun k => k.1 ≤ t.nodes.length ∧ k.2 = newPs (t.nodes.take k.1)) (fun k => t.nodes.length - k.1) (0, []) (by exact ⟨Nat.zero_le _, rfl⟩) ?_ ?_
 ·refine ⟨rfl, ?_, ?_, rfl⟩
  repeat'(first|apply And.intro|exact ze0|refine ze1 ?_|refine zei ?_ ?_|exact rfl|trivial)
  all_goals exact Stop.mk (by first | rfl | exact nodeE_length _)
 ·rintro ⟨n, out⟩ ⟨hn, ho⟩
  dsimp only at hn ho ⊢
  have hol : out.length = n := by rw [ho, newPs, List.length_map, List.length_take]; omega
  have hol2 := profsE_length out
  by_cases hn' : n < t.nodes.length
  ·have hnx := newPs_take hn'
   rw [← ho] at hnx
   have hc := h.nodes n hn'
   cases out with
   | nil =>
    repeat' (first|(refine awp_frzr 6 27 rfl ?_)|refine zst ?_|(refine zhm fun hb=>?_;try exact zab)|refine zg2 ?_ ?_|refine zln fun _=>?_|refine zop ?_|refine kc (profNew_e (v := (nth t.nodes n).cap) hc.2.2) rfl rfl ?_|fail)
    refine ⟨(n + 1, [] ++ [[⟨0, (nth t.nodes n).cap⟩]]), ⟨by omega, hnx.symm⟩, by omega, ?_⟩
    exact ⟨rfl, zae, zae, rfl⟩
   | cons p0 o0 =>
    repeat' (first|(refine awp_frzr 6 27 rfl ?_)|refine zst ?_|(refine zhm fun hb=>?_;try exact zab)|refine zg2 ?_ ?_|refine zln fun _=>?_|refine zop ?_|refine kc (profNew_e (v := (nth t.nodes n).cap) hc.2.2) rfl rfl ?_|fail)
    refine ⟨(n + 1, (p0 :: o0) ++ [[⟨0, (nth t.nodes n).cap⟩]]), ⟨by omega, hnx.symm⟩, by omega, ?_⟩
    refine ⟨rfl, ?_, ?_, rfl⟩
    repeat'(first|apply And.intro|exact ze0|refine ze1 ?_|refine zei ?_ ?_|exact rfl|trivial)
    all_goals exact Stop.mk (by first | rfl | exact profsE_push (p0 :: o0) _)
  ·have hall : out = (emptyR t up lic).profs := by rw [ho, List.take_of_length_le (by omega)]; rfl
   cases out with
   | nil =>
    repeat' (first|(refine awp_frzr 9 39 rfl ?_)|refine zsr ?_|(refine zhm fun hb=>?_;try exact zab)|refine zg2 ?_ ?_|refine zln fun _=>?_|refine zop ?_|refine kc (profNew_e (v := lic) hv) rfl rfl ?_|fail)
    show AWp _ _ _ _
    refine awp_dena ?_
    apply awp_ret'
    refine zm () [] trivial ?_ ?_ ?_
    repeat'(first|apply And.intro|exact ze0|refine ze1 ?_|refine zei ?_ ?_|exact rfl|trivial)
    all_goals exact Stop.mk (by first | rfl | (rw [← hall]; done) | (rw [← hall]; rfl))
   | cons p0 o0 =>
    repeat' (first|(refine awp_frzr 9 39 rfl ?_)|refine zsr ?_|(refine zhm fun hb=>?_;try exact zab)|refine zg2 ?_ ?_|refine zln fun _=>?_|refine zop ?_|refine kc (profNew_e (v := lic) hv) rfl rfl ?_|fail)
    show AWp _ _ _ _
    refine awp_frz 34 rfl ?_
    refine awp_dena ?_
    apply awp_ret'
    refine zm () [] trivial ?_ ?_ ?_
    repeat'(first|apply And.intro|exact ze0|refine ze1 ?_|refine zei ?_ ?_|exact rfl|trivial)
    all_goals exact Stop.mk (by first | rfl | (rw [← hall]; done) | (rw [← hall]; rfl))
theorem l04Copy_0 {tp : Topo} {up : List Bool} {li : List Pt} (h : RoomOk ⟨tp, up, [], li⟩) : DC Tryz.prog 232 [.agg [.d (.sl (intE tp.parents)), .d (.sl (nodeE tp.nodes)), .d (.sl (boolE up)), .nil, .d (.sl (ptE li))]] [roomA ⟨tp, up, [], li⟩] := by
 refine mcalls_of tt Tryz.func232 rfl rfl rfl trivial (fun _ _ => ⟨trivial, trivial⟩) (fun w0 Z O => ?_)
 have hs := h.small
 dsimp only at hs
 have hbl := boolE_length up
 have hnl := nodeE_length tp.nodes
 have hil := intE_length tp.parents
 repeat' (first|(refine awp_frzr 3 6 rfl ?_)|(refine awp_frzr 3 14 rfl ?_)|(refine awp_frzr 3 19 rfl ?_)|refine zst ?_|(refine zhm fun hb=>?_;try exact zab)|refine zdr ?_|(apply zch;exact zcg)|refine HopS.mk fun w0 Z O=>?_|exact zhk|refine zg3 ?_ ?_|refine zln fun _=>?_|refine zop ?_|(refine km [] (l04Prof_s (l := li) (by omega)) rfl rfl (fun i hi => ?_);(try dsimp only at hi))|fail)
 refine awp_loop (fun (_ : Unit) => ⟨42, [(2, .ptr 2 0), (3, .ptr 3 0), (27, .nil), (28, .d (.n .i64 0)), (29, .d (.n .i64 0))], [(2, .box 152 [.nil, .nil, .nil, .nil, .nil]), (3, .box 152 [.d (.sl (intE tp.parents)), .d (.sl (nodeE tp.nodes)), .d (.sl (boolE up)), .nil, .d (.sl (ptE li))])]⟩) (fun _ => True) (fun _ => 0) () trivial ?_ ?_
 ·exact ⟨rfl, zae, zae, rfl⟩
 ·intro _ _
  repeat' (first|refine zsr ?_|(refine zhm fun hb=>?_;try exact zab)|refine zdr ?_|(apply zch;exact zcg)|refine HopS.mk fun w0 Z O=>?_|exact zhk|refine zg3 ?_ ?_|refine zln fun _=>?_|refine zop ?_|fail)
  show AWp _ _ _ _
  refine awp_dena ?_
  apply awp_ret'
  exact zm () [] trivial zae zae zae
noncomputable def empO (s : State) : Option Room := if (topoOkB s.topo && decide (s.up.length = s.topo.nodes.length) && vecOkB s.lic) = true then some (emptyR s.topo s.up s.lic) else none
theorem empO_f {s : State} (h : topoOkB s.topo = false ∨ s.up.length ≠ s.topo.nodes.length ∨ vecOkB s.lic = false) : empO s = none := by
 unfold empO
 rw [if_neg]
 rcases h with h | h | h <;> simp [h]
theorem empO_t {s : State} (h1 : TopoOk s.topo) (h2 : s.up.length = s.topo.nodes.length) (h3 : vecOkB s.lic = true) : empO s = some (emptyR s.topo s.up s.lic) := by
 unfold empO
 rw [if_pos]
 simp [topoOkB_t.2 h1, h2, h3]
theorem l06Empty_s {s : State} (hs : Small 1000000000 s) : DC Tryz.prog 189 [stateA s] [roomA ((empO s).getD zR), .d (.b (empO s).isSome)] := by
 refine mcalls_of tt Tryz.func189 rfl rfl rfl trivial (fun _ _ => ⟨trivial, trivial⟩) (fun w0 Z O => ?_)
 have hbl := boolE_length s.up
 have hnl := nodeE_length s.topo.nodes
 have hup := hs.up
 have hno := hs.nod
 have c1 := topoOk_s (t := s.topo) hs.par hs.nod
 have c2 := vecOk_s (v := s.lic)
 cases h1 : topoOkB s.topo with
 | false =>
  rw [h1] at c1
  rw [empO_f (.inl h1)]
  repeat' (first|refine zsr ?_|(refine zhm fun hb=>?_;try exact zab)|refine zg2 ?_ ?_|refine zln fun _=>?_|refine zop ?_|refine kc (c1) rfl rfl ?_|fail)
  show AWp _ _ _ _
  refine awp_dena ?_
  apply awp_ret'
  exact zm () [] trivial zae zae zae
 | true =>
  rw [h1] at c1
  by_cases h2 : s.up.length = s.topo.nodes.length
  ·cases h3 : vecOkB s.lic with
   | false =>
    rw [h3] at c2
    rw [empO_f (.inr (.inr h3))]
    repeat' (first|refine zsr ?_|(refine zhm fun hb=>?_;try exact zab)|refine zg2 ?_ ?_|refine zln fun _=>?_|refine zop ?_|refine kc (c1) rfl rfl ?_|refine kc (c2) rfl rfl ?_|fail)
    show AWp _ _ _ _
    refine awp_dena ?_
    apply awp_ret'
    exact zm () [] trivial zae zae zae
   | true =>
    rw [h3] at c2
    have ht := topoOkB_t.1 h1
    have h4 := ht.len
    have h5 := ht.nlen
    have hok := empty_ok ht h2 h3
    have hen : (emptyR s.topo s.up s.lic).profs = newPs s.topo.nodes := rfl
    rw [empO_t ht h2 h3]
    repeat' (first|refine zst ?_|(refine zhm fun hb=>?_;try exact zab)|refine zg2 ?_ ?_|refine zln fun _=>?_|refine zop ?_|refine kc (c1) rfl rfl ?_|refine kc (c2) rfl rfl ?_|fail)
    refine awp_loop (fun (k : Nat × List (List Pt)) => ⟨65, [(1, .ptr 1 0), (2, .ptr 2 0), (4, .ptr 4 0), (37, .d (.sl (nodeE s.topo.nodes))), (38, .d (.n .i64 (s.topo.nodes.length : Nat))), (39, .d (.n .i64 k.1))], [(1, .box 44 (stateC s)), (2, .box 152 [.nil, .nil, .nil, .nil, .nil]), (4, .box 152 [.d (.sl (intE s.topo.parents)), .d (.sl (nodeE s.topo.nodes)), .d (.sl (boolE s.up)), slN 53 (profsE k.2), .nil])] ++ slO 53 150 (profsE k.2)⟩) (fun k => k.1 ≤ s.topo.nodes.length ∧ k.2 = newPs (s.topo.nodes.take k.1)) (fun k => s.topo.nodes.length - k.1) (0, []) (by exact ⟨Nat.zero_le _, rfl⟩) ?_ ?_
    ·refine ⟨rfl, ?_, ?_, rfl⟩
     repeat'(first|apply And.intro|exact ze0|refine ze1 ?_|refine zei ?_ ?_|exact rfl|trivial)
     all_goals exact Stop.mk (by first | rfl | exact nodeE_length _)
    ·rintro ⟨n, out⟩ ⟨hn, ho⟩
     dsimp only at hn ho ⊢
     have hol : out.length = n := by rw [ho, newPs, List.length_map, List.length_take]; omega
     have hol2 := profsE_length out
     by_cases hn' : n < s.topo.nodes.length
     ·have hnx := newPs_take hn'
      rw [← ho] at hnx
      have hc := ht.nodes n hn'
      cases out with
      | nil =>
       repeat' (first|(refine awp_frzr 8 46 rfl ?_)|refine zst ?_|(refine zhm fun hb=>?_;try exact zab)|refine zg2 ?_ ?_|refine zln fun _=>?_|refine zop ?_|refine kc (profNew_s (v := (nth s.topo.nodes n).cap) hc.2.2) rfl rfl ?_|fail)
       refine ⟨(n + 1, [] ++ [[⟨0, (nth s.topo.nodes n).cap⟩]]), ⟨by omega, hnx.symm⟩, by omega, ?_⟩
       exact ⟨rfl, zae, zae, rfl⟩
      | cons p0 o0 =>
       repeat' (first|(refine awp_frzr 8 46 rfl ?_)|refine zst ?_|(refine zhm fun hb=>?_;try exact zab)|refine zg2 ?_ ?_|refine zln fun _=>?_|refine zop ?_|refine kc (profNew_s (v := (nth s.topo.nodes n).cap) hc.2.2) rfl rfl ?_|fail)
       refine ⟨(n + 1, (p0 :: o0) ++ [[⟨0, (nth s.topo.nodes n).cap⟩]]), ⟨by omega, hnx.symm⟩, by omega, ?_⟩
       refine ⟨rfl, ?_, ?_, rfl⟩
       repeat'(first|apply And.intro|exact ze0|refine ze1 ?_|refine zei ?_ ?_|exact rfl|trivial)
       all_goals exact Stop.mk (by first | rfl | exact profsE_push (p0 :: o0) _)
     ·have hall : newPs s.topo.nodes = out := by rw [ho, List.take_of_length_le (by omega)]
      cases out with
      | nil =>
       have hcp := l04Copy_0 (tp := s.topo) (up := s.up) (li := [⟨0, s.lic⟩]) (by unfold emptyR at hok; rw [show (s.topo.nodes.map fun n => [(⟨0, n.cap⟩ : Pt)]) = [] from hall] at hok; exact hok)
       unfold emptyR
       rw [show (s.topo.nodes.map fun n => [(⟨0, n.cap⟩ : Pt)]) = [] from hall]
       repeat' (first|(refine awp_frzr 11 59 rfl ?_)|refine zsr ?_|(refine zhm fun hb=>?_;try exact zab)|refine zg2 ?_ ?_|refine zln fun _=>?_|refine zop ?_|refine kc (profNew_s (v := s.lic) h3) rfl rfl ?_|(refine km [] (hcp) rfl rfl (fun i hi => ?_);(try dsimp only at hi))|fail)
       show AWp _ _ _ _
       refine awp_dena ?_
       apply awp_ret'
       exact zm () [] trivial zae zae zae
      | cons p0 o0 =>
       have hcp := l04Copy_s hok (by rw [hen, hall]; exact Nat.succ_pos _)
       unfold emptyR at hcp
       rw [show (s.topo.nodes.map fun n => [(⟨0, n.cap⟩ : Pt)]) = p0 :: o0 from hall] at hcp
       unfold emptyR
       rw [show (s.topo.nodes.map fun n => [(⟨0, n.cap⟩ : Pt)]) = p0 :: o0 from hall]
       repeat' (first|(refine awp_frzr 11 59 rfl ?_)|(refine awp_frzr 11 53 rfl ?_)|refine zsr ?_|(refine zhm fun hb=>?_;try exact zab)|refine zg2 ?_ ?_|refine zln fun _=>?_|refine zop ?_|refine kc (profNew_s (v := s.lic) h3) rfl rfl ?_|(refine km [] (hcp) rfl rfl (fun i hi => ?_);(try dsimp only at hi))|fail)
       show AWp _ _ _ _
       refine awp_frz 64 rfl ?_
       refine awp_dena ?_
       apply awp_ret'
       exact zm () [] trivial zae zae zae
  ·rw [empO_f (.inr (.inl h2))]
   repeat' (first|refine zsr ?_|(refine zhm fun hb=>?_;try exact zab)|refine zg2 ?_ ?_|refine zln fun _=>?_|refine zop ?_|refine kc (c1) rfl rfl ?_|refine kc (c2) rfl rfl ?_|fail)
   any_goals
    show AWp _ _ _ _
    refine awp_dena ?_
    apply awp_ret'
    refine zm () [] trivial ?_ ?_ ?_
    repeat'(first|apply And.intro|exact ze0|refine ze1 ?_|refine zei ?_ ?_|exact rfl|trivial)
    all_goals exact Stop.mk rfl
end Go.Proofs.YtliopiphobopjaaGreat
