/-
  The empty room of the reference with a row of its own of the nodes that are up; whether a job could start alone.
-/
import Derived.Test.YtliopiphobopjaaGreatKShL
import Derived.Test.YtliopiphobopjaaGreatKGaQ
import Derived.Test.YtliopiphobopjaaGreatKB14
import Derived.Test.YtliopiphobopjaaGreatKGaV
set_option maxRecDepth 100000
set_option maxHeartbeats 16000000
namespace Go.Proofs.YtliopiphobopjaaGreat
open Go Go.RowKit
attribute [local irreducible] AWp OpsOk OpOk ACalls ChA QsOk MCalls NCalls EnC PY

@[reducible] def roomU (r : Room) (q : Nat) : AV := .agg [.d (.sl (intE r.topo.parents)), .d (.sl (nodeE r.topo.nodes)), .row q, .d (.sl (profsE r.profs)), .d (.sl (ptE r.lics))]
theorem l04Copy_u {r : Room} (h : RoomOk r) (h0 : 0 < r.profs.length) : MCalls Tryz.prog 232 [roomA r] [] (fun _ : Unit => True) (fun _ => [roomU r 0]) (fun _ => []) (fun _ => [(0, .row 4 (boolE r.up) true)]) := by
 refine mcalls_of tt Tryz.func232 rfl rfl rfl trivial (fun _ _ => ⟨trivial, trivial⟩) (fun w0 Z O => ?_)
 have hs := h.small
 have hbl := boolE_length r.up
 have hnl := nodeE_length r.topo.nodes
 have hpl := profsE_length r.profs
 have hil := intE_length r.topo.parents
 repeat' (first|(refine awp_frzr 3 14 rfl ?_)|(refine awp_frzr 3 19 rfl ?_)|refine zst ?_|(refine zhm fun hb=>?_;try exact zab)|refine zdr ?_|(apply zch;exact zcg)|refine HopS.mk fun w0 Z O=>?_|exact zhk|refine zg3 ?_ ?_|refine zln fun _=>?_|refine zop ?_|(refine km [] (l04Prof_s (l := r.lics) (by omega)) rfl rfl (fun i hi => ?_);(try dsimp only at hi))|fail)
 refine awp_loop (fun (k : Nat × List (List Pt)) => ⟨42, [(2, .ptr 2 0), (3, .ptr 3 0), (27, .d (.sl (profsE r.profs))), (28, .d (.n .i64 (r.profs.length : Nat))), (29, .d (.n .i64 k.1))], [(2, .box 152 [.nil, .nil, .nil, .nil, .nil]), (3, .box 152 [.d (.sl (intE r.topo.parents)), .d (.sl (nodeE r.topo.nodes)), .row 6, slN 38 (profsE k.2), .d (.sl (ptE r.lics))]), (6, .row 4 (boolE r.up) true)] ++ slO 38 150 (profsE k.2)⟩) (fun k => k.1 ≤ r.profs.length ∧ k.2 = r.profs.take k.1) (fun k => r.profs.length - k.1) (0, []) (by exact ⟨Nat.zero_le _, rfl⟩) ?_ ?_
 ·refine ⟨rfl, ?_, ?_, rfl⟩
  repeat'(first|apply And.intro|exact ze0|refine ze1 ?_|refine zei ?_ ?_|exact rfl|trivial)
  all_goals exact Stop.mk (by first | rfl | exact profsE_length _)
 ·rintro ⟨n, out⟩ ⟨hn, ho⟩
  dsimp only at hn ho ⊢
  have hol : out.length = n := by rw [ho, List.length_take]; omega
  have hol2 := profsE_length out
  by_cases hn' : n < r.profs.length
  ·have hp := h.profs n hn'
   have hpl2 := hp.len
   have hnx := take_snoc hn'
   rw [← ho] at hnx
   cases out with
   | nil =>
    repeat' (first|refine zst ?_|(refine zhm fun hb=>?_;try exact zab)|refine zdr ?_|(apply zch;exact zcg)|refine HopS.mk fun w0 Z O=>?_|exact zhk|refine zg3 ?_ ?_|refine zln fun _=>?_|refine zop ?_|(refine km [] (l04Prof_s (l := nth r.profs n) (by omega)) rfl rfl (fun i hi => ?_);(try dsimp only at hi))|fail)
    refine ⟨(n + 1, [] ++ [nth r.profs n]), ⟨by omega, hnx.symm⟩, by omega, ?_⟩
    exact ⟨rfl, zae, zae, rfl⟩
   | cons p0 o0 =>
    repeat' (first|refine zst ?_|(refine zhm fun hb=>?_;try exact zab)|refine zdr ?_|(apply zch;exact zcg)|refine HopS.mk fun w0 Z O=>?_|exact zhk|refine zg3 ?_ ?_|refine zln fun _=>?_|refine zop ?_|(refine km [] (l04Prof_s (l := nth r.profs n) (by omega)) rfl rfl (fun i hi => ?_);(try dsimp only at hi))|fail)
    refine ⟨(n + 1, (p0 :: o0) ++ [nth r.profs n]), ⟨by omega, hnx.symm⟩, by omega, ?_⟩
    refine ⟨rfl, ?_, ?_, rfl⟩
    repeat'(first|apply And.intro|exact ze0|refine ze1 ?_|refine zei ?_ ?_|exact rfl|trivial)
    all_goals exact Stop.mk (by first | rfl | exact profsE_push (p0 :: o0) _)
  ·have hall : out = r.profs := by rw [ho, List.take_of_length_le (by omega)]
   cases out with
   | nil => rw [← hall] at h0; cases h0
   | cons p0 o0 =>
    repeat' (first|refine zsr ?_|(refine zhm fun hb=>?_;try exact zab)|refine zdr ?_|(apply zch;exact zcg)|refine HopS.mk fun w0 Z O=>?_|exact zhk|refine zg3 ?_ ?_|refine zln fun _=>?_|refine zop ?_|fail)
    show AWp _ _ _ _
    refine awp_frz 38 rfl ?_
    show AWp _ _ _ _
    refine awp_dena ?_
    apply awp_ret'
    refine zm () [6] trivial ?_ ?_ ?_
    repeat'(first|apply And.intro|exact ze0|refine ze1 ?_|refine zei ?_ ?_|exact rfl|trivial)
    all_goals exact Stop.mk (by first | rfl | rw [hall])
theorem l04Copy_u0 {tp : Topo} {up : List Bool} {li : List Pt} (h : RoomOk ⟨tp, up, [], li⟩) : MCalls Tryz.prog 232 [.agg [.d (.sl (intE tp.parents)), .d (.sl (nodeE tp.nodes)), .d (.sl (boolE up)), .nil, .d (.sl (ptE li))]] [] (fun _ : Unit => True) (fun _ => [roomU ⟨tp, up, [], li⟩ 0]) (fun _ => []) (fun _ => [(0, .row 4 (boolE up) true)]) := by
 refine mcalls_of tt Tryz.func232 rfl rfl rfl trivial (fun _ _ => ⟨trivial, trivial⟩) (fun w0 Z O => ?_)
 have hs := h.small
 dsimp only at hs
 have hbl := boolE_length up
 have hnl := nodeE_length tp.nodes
 have hil := intE_length tp.parents
 repeat' (first|(refine awp_frzr 3 14 rfl ?_)|(refine awp_frzr 3 19 rfl ?_)|refine zst ?_|(refine zhm fun hb=>?_;try exact zab)|refine zdr ?_|(apply zch;exact zcg)|refine HopS.mk fun w0 Z O=>?_|exact zhk|refine zg3 ?_ ?_|refine zln fun _=>?_|refine zop ?_|(refine km [] (l04Prof_s (l := li) (by omega)) rfl rfl (fun i hi => ?_);(try dsimp only at hi))|fail)
 refine awp_loop (fun (_ : Unit) => ⟨42, [(2, .ptr 2 0), (3, .ptr 3 0), (27, .nil), (28, .d (.n .i64 0)), (29, .d (.n .i64 0))], [(2, .box 152 [.nil, .nil, .nil, .nil, .nil]), (3, .box 152 [.d (.sl (intE tp.parents)), .d (.sl (nodeE tp.nodes)), .row 6, .nil, .d (.sl (ptE li))]), (6, .row 4 (boolE up) true)]⟩) (fun _ => True) (fun _ => 0) () trivial ?_ ?_
 ·exact ⟨rfl, zae, zae, rfl⟩
 ·intro _ _
  repeat' (first|refine zsr ?_|(refine zhm fun hb=>?_;try exact zab)|refine zdr ?_|(apply zch;exact zcg)|refine HopS.mk fun w0 Z O=>?_|exact zhk|refine zg3 ?_ ?_|refine zln fun _=>?_|refine zop ?_|fail)
  show AWp _ _ _ _
  refine awp_dena ?_
  apply awp_ret'
  exact zm () [6] trivial zae zae zae
theorem l06Empty_u {s : State} (ht : TopoOk s.topo) (h2 : s.up.length = s.topo.nodes.length) (h3 : vecOkB s.lic = true) (hs : Small 1000000000 s) : MCalls Tryz.prog 189 [stateA s] [] (fun _ : Unit => True) (fun _ => [roomU (emptyR s.topo s.up s.lic) 0, .d (.b true)]) (fun _ => []) (fun _ => [(0, .row 4 (boolE s.up) true)]) := by
 refine mcalls_of tt Tryz.func189 rfl rfl rfl trivial (fun _ _ => ⟨trivial, trivial⟩) (fun w0 Z O => ?_)
 have hbl := boolE_length s.up
 have hnl := nodeE_length s.topo.nodes
 have hup := hs.up
 have hno := hs.nod
 have c1 := topoOk_s (t := s.topo) hs.par hs.nod
 have c2 := vecOk_s (v := s.lic)
 have h1 := topoOkB_t.2 ht
 rw [h1] at c1
 rw [h3] at c2
 have h4 := ht.len
 have h5 := ht.nlen
 have hok := empty_ok ht h2 h3
 have hen : (emptyR s.topo s.up s.lic).profs = newPs s.topo.nodes := rfl
 repeat' (first|refine zst ?_|(refine zhm fun hb=>?_;try exact zab)|refine zg2 ?_ ?_|refine zln fun _=>?_|refine zop ?_|refine kc (c1) rfl rfl ?_|refine kc (c2) rfl rfl ?_|fail)
 refine awp_loop (fun (k : Nat × List (List Pt)) => ⟨65, [(1, .ptr 1 0), (2, .ptr 2 0), (4, .ptr 4 0), (37, .d (.sl (nodeE s.topo.nodes))), (38, .d (.n .i64 (s.topo.nodes.length : Nat))), (39, .d (.n .i64 k.1))], [(1, .box 44 (stateC s)), (2, .box 152 [.nil, .nil, .nil, .nil, .nil]), (4, .box 152 [.d (.sl (intE s.topo.parents)), .d (.sl (nodeE s.topo.nodes)), .d (.sl (boolE s.up)), slN 53 (profsE k.2), .nil])] ++ slO 53 150 (profsE k.2)⟩) (fun k => k.1 ≤ s.topo.nodes.length ∧ k.2 = newPs (s.topo.nodes.take k.1)) (fun k => s.topo.nodes.length - k.1) (0, []) (by exact ⟨Nat.zero_le _, rfl⟩) ?_ ?_
 ·refine ⟨rfl, ?_, ?_, rfl⟩
  repeat'(first|apply And.intro|exact ze0|refine ze1 ?_|refine zei ?_ ?_|exact rfl|trivial)
  all_goals exact Stop.mk (by first | rfl | exact nodeE_length _)
 ·rintro ⟨n, out⟩ ⟨hn, ho⟩
  dsimp only at hn ho ⊢
  have hol : out.length = n := by rw [ho, newPs, List.length_map, List.length_take]; omega
  have hol2 := profsE_length out
  by_cases hn' : n < s.topo.nodes.length
  ·have hnx := newPs_take hn'
   rw [← ho] at hnx
   have hc := ht.nodes n hn'
   cases out with
   | nil =>
    repeat' (first|(refine awp_frzr 8 46 rfl ?_)|refine zst ?_|(refine zhm fun hb=>?_;try exact zab)|refine zg2 ?_ ?_|refine zln fun _=>?_|refine zop ?_|refine kc (profNew_s (v := (nth s.topo.nodes n).cap) hc.2.2) rfl rfl ?_|fail)
    refine ⟨(n + 1, [] ++ [[⟨0, (nth s.topo.nodes n).cap⟩]]), ⟨by omega, hnx.symm⟩, by omega, ?_⟩
    exact ⟨rfl, zae, zae, rfl⟩
   | cons p0 o0 =>
    repeat' (first|(refine awp_frzr 8 46 rfl ?_)|refine zst ?_|(refine zhm fun hb=>?_;try exact zab)|refine zg2 ?_ ?_|refine zln fun _=>?_|refine zop ?_|refine kc (profNew_s (v := (nth s.topo.nodes n).cap) hc.2.2) rfl rfl ?_|fail)
    refine ⟨(n + 1, (p0 :: o0) ++ [[⟨0, (nth s.topo.nodes n).cap⟩]]), ⟨by omega, hnx.symm⟩, by omega, ?_⟩
    refine ⟨rfl, ?_, ?_, rfl⟩
    repeat'(first|apply And.intro|exact ze0|refine ze1 ?_|refine zei ?_ ?_|exact rfl|trivial)
    all_goals exact Stop.mk (by first | rfl | exact profsE_push (p0 :: o0) _)
  ·have hall : newPs s.topo.nodes = out := by rw [ho, List.take_of_length_le (by omega)]
   cases out with
   | nil =>
    have hcp := l04Copy_u0 (tp := s.topo) (up := s.up) (li := [⟨0, s.lic⟩]) (by unfold emptyR at hok; rw [show (s.topo.nodes.map fun n => [(⟨0, n.cap⟩ : Pt)]) = [] from hall] at hok; exact hok)
    unfold emptyR
    rw [show (s.topo.nodes.map fun n => [(⟨0, n.cap⟩ : Pt)]) = [] from hall]
    repeat' (first|(refine awp_frzr 11 59 rfl ?_)|refine zsr ?_|(refine zhm fun hb=>?_;try exact zab)|refine zg2 ?_ ?_|refine zln fun _=>?_|refine zop ?_|refine kc (profNew_s (v := s.lic) h3) rfl rfl ?_|(refine km [] (hcp) rfl rfl (fun i hi => ?_);(try dsimp only at hi))|fail)
    show AWp _ _ _ _
    refine awp_dena ?_
    apply awp_ret'
    exact zm () [64] trivial zae zae zae
   | cons p0 o0 =>
    have hcp := l04Copy_u hok (by rw [hen, hall]; exact Nat.succ_pos _)
    unfold emptyR at hcp
    rw [show (s.topo.nodes.map fun n => [(⟨0, n.cap⟩ : Pt)]) = p0 :: o0 from hall] at hcp
    unfold emptyR
    rw [show (s.topo.nodes.map fun n => [(⟨0, n.cap⟩ : Pt)]) = p0 :: o0 from hall]
    repeat' (first|(refine awp_frzr 11 59 rfl ?_)|(refine awp_frzr 11 53 rfl ?_)|refine zsr ?_|(refine zhm fun hb=>?_;try exact zab)|refine zg2 ?_ ?_|refine zln fun _=>?_|refine zop ?_|refine kc (profNew_s (v := s.lic) h3) rfl rfl ?_|(refine km [] (hcp) rfl rfl (fun i hi => ?_);(try dsimp only at hi))|fail)
    show AWp _ _ _ _
    refine awp_dena ?_
    apply awp_ret'
    exact zm () [64] trivial zae zae zae
@[reducible] def jobC (j : Job) : List AV := [.d (.n .i64 j.id), .d (.n .i64 j.prio), .d (.n .i64 j.nodes), .d (.n .i64 j.need.a), .d (.n .i64 j.need.b), .d (.n .i64 j.need.c), .d (.n .i64 j.lic.a), .d (.n .i64 j.lic.b), .d (.n .i64 j.lic.c), .d (.n .i64 j.wall), .d (.n .i64 j.level)]
def allUp (s : State) : List Bool := List.replicate s.topo.nodes.length true
def fullR (s : State) : Room := emptyR s.topo (allUp s) s.lic
theorem full_ok {s : State} (ht : TopoOk s.topo) (h3 : vecOkB s.lic = true) : RoomOk (fullR s) := empty_ok ht (by simp [allUp]) h3
def upTo (s : State) (i : Nat) : List Bool := List.replicate i true ++ s.up.drop i
theorem upTo_len {s : State} {i : Nat} (h : i ≤ s.up.length) : (upTo s i).length = s.up.length := by simp [upTo]; omega
theorem upTo_step {s : State} {i : Nat} (h : i < s.up.length) : (boolE (upTo s i)).set i [.b true] = boolE (upTo s (i + 1)) := by
 rw [show (boolE (upTo s i)).set i [.b true] = boolE ((upTo s i).set i true) by simp [boolE, List.map_set]]
 congr 1
 unfold upTo
 rw [List.set_append_right _ _ (by simp), List.drop_eq_getElem_cons h, List.length_replicate, Nat.sub_self, List.set_cons_zero, List.replicate_succ', List.append_assoc]
 rfl
theorem upTo_all {s : State} (h : s.up.length = s.topo.nodes.length) : upTo s s.up.length = allUp s := by
 unfold upTo allUp
 rw [h, List.drop_of_length_le (by omega), List.append_nil]
theorem l06Could_s {s : State} {j : Job} (ht : TopoOk s.topo) (h2 : s.up.length = s.topo.nodes.length) (h3 : vecOkB s.lic = true) (hj : jobOkB j = true) (hs : Small 1000000000 s) : ACalls Tryz.prog 139 [stateA s, jobA j] [.d (.b (earO (fullR s) j 0).isSome)] [] := by
 refine acalls_of tt Tryz.func139 rfl rfl rfl (fun w0 Z => ?_)
 have c1 := l06Empty_u ht h2 h3 hs
 have c2 := earliest_s (r := fullR s) (j := j) (a := 0) (full_ok ht h3) hj (by omega)
 have hbl : ∀ n, n ≤ s.up.length → (boolE (upTo s n)).length = s.up.length := fun n hn => by rw [boolE_length, upTo_len hn]
 have hup := hs.up
 have hno := ht.nlen
 repeat' (first|refine zst ?_|(refine zhm fun hb=>?_;try exact zab)|refine zg2 ?_ ?_|refine zln fun _=>?_|refine zop ?_|(refine km [] (c1) rfl rfl (fun i hi => ?_);(try dsimp only at hi))|fail)
 refine awp_loop (fun (n : Nat) => ⟨38, [(3, .ptr 3 0), (5, .ptr 5 0), (6, .d (.b true)), (18, .d (.n .i64 (s.up.length : Nat))), (19, .d (.n .i64 n))], [(3, .box 94 (jobC j)), (5, .box 152 [.d (.sl (intE s.topo.parents)), .d (.sl (nodeE s.topo.nodes)), .row 13, .d (.sl (profsE (fullR s).profs)), .d (.sl (ptE [⟨0, s.lic⟩]))]), (13, .row 4 (boolE (upTo s n)) true)]⟩) (fun n => n ≤ s.up.length) (fun n => s.up.length - n) 0 (by exact Nat.zero_le _) ?_ ?_
 ·refine ⟨rfl, ?_, ?_, rfl⟩
  repeat'(first|apply And.intro|exact ze0|refine ze1 ?_|refine zei ?_ ?_|exact rfl|trivial)
  all_goals exact Stop.mk (by first | rfl | exact boolE_length _)
 intro n hn
 have hbn := hbl n hn
 have hul := upTo_len hn
 by_cases hn' : n < s.up.length
 ·have hst := upTo_step hn'
  repeat' (first|refine zst ?_|(refine zhm fun hb=>?_;try exact zab)|refine zg2 ?_ ?_|refine zln fun _=>?_|refine zop ?_|fail)
  refine ⟨n + 1, by omega, by omega, ?_⟩
  refine ⟨rfl, ?_, ?_, rfl⟩
  repeat'(first|apply And.intro|exact ze0|refine ze1 ?_|refine zei ?_ ?_|exact rfl|trivial)
  all_goals exact Stop.mk (by first | rfl | exact hst)
 ·obtain rfl : n = s.up.length := by omega
  rw [upTo_all h2]
  repeat' (first|(refine awp_frzr 7 13 rfl ?_)|refine zst ?_|(refine zhm fun hb=>?_;try exact zab)|refine zg2 ?_ ?_|refine zln fun _=>?_|refine zop ?_|(refine km [] (c2) rfl rfl (fun i hi => ?_);(try dsimp only at hi))|fail)
  exact zr [] zae zae
end Go.Proofs.YtliopiphobopjaaGreat
