/-
  The room of a state of the reference, over runs and ends in rows of the caller's own.
-/
import Derived.Test.YtliopiphobopjaaGreatKShL
import Derived.Test.YtliopiphobopjaaGreatKB20
import Derived.Test.YtliopiphobopjaaGreatKGlA
set_option maxRecDepth 100000
set_option maxHeartbeats 16000000
namespace Go.Proofs.YtliopiphobopjaaGreat
open Go Go.RowKit
attribute [local irreducible] AWp OpsOk OpOk ACalls ChA QsOk MCalls NCalls EnC PY
@[reducible] def stateH (s : State) (q1 q2 : Nat) : List AV := [.d (.sl (intE s.topo.parents)), .d (.sl (nodeE s.topo.nodes)), .d (.sl (boolE s.up)), .d (.n .i64 s.lic.a), .d (.n .i64 s.lic.b), .d (.n .i64 s.lic.c), .d (.n .i64 s.depth), .d (.n .i64 s.now), .d (.sl (jobE s.queue)), .row q1, .row q2]
theorem l06Empty_h {s : State} (hs : Small 1000000000 s) : MCalls Tryz.prog 189 [.agg (stateH s 1000000 1000001)] [(1000000, .row 116 (runE s.runs) false), (1000001, .row 134 (endE s.ends) true)] (fun _ : Unit => True) (fun _ => [roomA ((empO s).getD zR), .d (.b (empO s).isSome)]) (fun _ => [(1000000, .row 116 (runE s.runs) false), (1000001, .row 134 (endE s.ends) true)]) (fun _ => []) := by
 refine mcalls_of tt Tryz.func189 rfl rfl rfl ⟨.inr (.inr rfl), .inl rfl, trivial⟩ (fun _ _ => ⟨⟨⟨rfl, rfl, rfl⟩, ⟨rfl, rfl, rfl⟩, trivial⟩, .inr (.inr rfl), .inl rfl, trivial⟩) (fun w0 Z O => ?_)
 have hbl := boolE_length s.up
 have hnl := nodeE_length s.topo.nodes
 have hup := hs.up
 have hno := hs.nod
 have c1 := topoOk_s (t := s.topo) hs.par hs.nod
 have c2 := vecOk_s (v := s.lic)
 cases h1 : topoOkB s.topo with
 | false =>
  rw [h1] at c1
  rw [empO_f (.inl h1)]
  repeat' (first|refine zsr ?_|(refine zhm fun hb=>?_;try exact zab)|refine zg2 ?_ ?_|refine zln fun _=>?_|refine zop ?_|refine kc (c1) rfl rfl ?_|fail)
  show AWp _ _ _ _
  refine awp_dena ?_
  apply awp_ret'
  exact zm () [] trivial zae zae zae
 | true =>
  rw [h1] at c1
  by_cases h2 : s.up.length = s.topo.nodes.length
  ·cases h3 : vecOkB s.lic with
   | false =>
    rw [h3] at c2
    rw [empO_f (.inr (.inr h3))]
    repeat' (first|refine zsr ?_|(refine zhm fun hb=>?_;try exact zab)|refine zg2 ?_ ?_|refine zln fun _=>?_|refine zop ?_|refine kc (c1) rfl rfl ?_|refine kc (c2) rfl rfl ?_|fail)
    show AWp _ _ _ _
    refine awp_dena ?_
    apply awp_ret'
    exact zm () [] trivial zae zae zae
   | true =>
    rw [h3] at c2
    have ht := topoOkB_t.1 h1
    have h4 := ht.len
    have h5 := ht.nlen
    have hok := empty_ok ht h2 h3
    have hen : (emptyR s.topo s.up s.lic).profs = newPs s.topo.nodes := rfl
    rw [empO_t ht h2 h3]
    repeat' (first|refine zst ?_|(refine zhm fun hb=>?_;try exact zab)|refine zg2 ?_ ?_|refine zln fun _=>?_|refine zop ?_|refine kc (c1) rfl rfl ?_|refine kc (c2) rfl rfl ?_|fail)
    refine awp_loop (fun (k : Nat × List (List Pt)) => ⟨65, [(1, .ptr 1 0), (2, .ptr 2 0), (4, .ptr 4 0), (37, .d (.sl (nodeE s.topo.nodes))), (38, .d (.n .i64 (s.topo.nodes.length : Nat))), (39, .d (.n .i64 k.1))], [(1000000, .row 116 (runE s.runs) false), (1000001, .row 134 (endE s.ends) true), (1, .box 44 (stateH s 1000000 1000001)), (2, .box 152 [.nil, .nil, .nil, .nil, .nil]), (4, .box 152 [.d (.sl (intE s.topo.parents)), .d (.sl (nodeE s.topo.nodes)), .d (.sl (boolE s.up)), slN 53 (profsE k.2), .nil])] ++ slO 53 150 (profsE k.2)⟩) (fun k => k.1 ≤ s.topo.nodes.length ∧ k.2 = newPs (s.topo.nodes.take k.1)) (fun k => s.topo.nodes.length - k.1) (0, []) (by exact ⟨Nat.zero_le _, rfl⟩) ?_ ?_
    ·refine ⟨rfl, ?_, ?_, rfl⟩
     repeat'(first|apply And.intro|exact ze0|refine ze1 ?_|refine zei ?_ ?_|exact rfl|trivial)
     all_goals exact Stop.mk (by first | rfl | exact nodeE_length _)
    ·rintro ⟨n, out⟩ ⟨hn, ho⟩
     dsimp only at hn ho ⊢
     have hol : out.length = n := by rw [ho, newPs, List.length_map, List.length_take]; omega
     have hol2 := profsE_length out
     by_cases hn' : n < s.topo.nodes.length
     ·have hnx := newPs_take hn'
      rw [← ho] at hnx
      have hc := ht.nodes n hn'
      cases out with
      | nil =>
       repeat' (first|(refine awp_frzr 8 46 rfl ?_)|refine zst ?_|(refine zhm fun hb=>?_;try exact zab)|refine zg2 ?_ ?_|refine zln fun _=>?_|refine zop ?_|refine kc (profNew_s (v := (nth s.topo.nodes n).cap) hc.2.2) rfl rfl ?_|fail)
       refine ⟨(n + 1, [] ++ [[⟨0, (nth s.topo.nodes n).cap⟩]]), ⟨by omega, hnx.symm⟩, by omega, ?_⟩
       exact ⟨rfl, zae, zae, rfl⟩
      | cons p0 o0 =>
       repeat' (first|(refine awp_frzr 8 46 rfl ?_)|refine zst ?_|(refine zhm fun hb=>?_;try exact zab)|refine zg2 ?_ ?_|refine zln fun _=>?_|refine zop ?_|refine kc (profNew_s (v := (nth s.topo.nodes n).cap) hc.2.2) rfl rfl ?_|fail)
       refine ⟨(n + 1, (p0 :: o0) ++ [[⟨0, (nth s.topo.nodes n).cap⟩]]), ⟨by omega, hnx.symm⟩, by omega, ?_⟩
       refine ⟨rfl, ?_, ?_, rfl⟩
       repeat'(first|apply And.intro|exact ze0|refine ze1 ?_|refine zei ?_ ?_|exact rfl|trivial)
       all_goals exact Stop.mk (by first | rfl | exact profsE_push (p0 :: o0) _)
     ·have hall : newPs s.topo.nodes = out := by rw [ho, List.take_of_length_le (by omega)]
      cases out with
      | nil =>
       have hcp := l04Copy_0 (tp := s.topo) (up := s.up) (li := [⟨0, s.lic⟩]) (by unfold emptyR at hok; rw [show (s.topo.nodes.map fun n => [(⟨0, n.cap⟩ : Pt)]) = [] from hall] at hok; exact hok)
       unfold emptyR
       rw [show (s.topo.nodes.map fun n => [(⟨0, n.cap⟩ : Pt)]) = [] from hall]
       repeat' (first|(refine awp_frzr 11 59 rfl ?_)|refine zsr ?_|(refine zhm fun hb=>?_;try exact zab)|refine zg2 ?_ ?_|refine zln fun _=>?_|refine zop ?_|refine kc (profNew_s (v := s.lic) h3) rfl rfl ?_|(refine km [] (hcp) rfl rfl (fun i hi => ?_);(try dsimp only at hi))|fail)
       show AWp _ _ _ _
       refine awp_dena ?_
       apply awp_ret'
       exact zm () [] trivial zae zae zae
      | cons p0 o0 =>
       have hcp := l04Copy_s hok (by rw [hen, hall]; exact Nat.succ_pos _)
       unfold emptyR at hcp
       rw [show (s.topo.nodes.map fun n => [(⟨0, n.cap⟩ : Pt)]) = p0 :: o0 from hall] at hcp
       unfold emptyR
       rw [show (s.topo.nodes.map fun n => [(⟨0, n.cap⟩ : Pt)]) = p0 :: o0 from hall]
       repeat' (first|(refine awp_frzr 11 59 rfl ?_)|(refine awp_frzr 11 53 rfl ?_)|refine zsr ?_|(refine zhm fun hb=>?_;try exact zab)|refine zg2 ?_ ?_|refine zln fun _=>?_|refine zop ?_|refine kc (profNew_s (v := s.lic) h3) rfl rfl ?_|(refine km [] (hcp) rfl rfl (fun i hi => ?_);(try dsimp only at hi))|fail)
       show AWp _ _ _ _
       refine awp_frz 64 rfl ?_
       refine awp_dena ?_
       apply awp_ret'
       exact zm () [] trivial zae zae zae
  ·rw [empO_f (.inr (.inl h2))]
   repeat' (first|refine zsr ?_|(refine zhm fun hb=>?_;try exact zab)|refine zg2 ?_ ?_|refine zln fun _=>?_|refine zop ?_|refine kc (c1) rfl rfl ?_|refine kc (c2) rfl rfl ?_|fail)
   any_goals
    show AWp _ _ _ _
    refine awp_dena ?_
    apply awp_ret'
    refine zm () [] trivial ?_ ?_ ?_
    repeat'(first|apply And.intro|exact ze0|refine ze1 ?_|refine zei ?_ ?_|exact rfl|trivial)
    all_goals exact Stop.mk rfl
theorem roomOf_h {s : State} (hs : Small 1000000000 s) : MCalls Tryz.prog 114 [.agg (stateH s 1000000 1000001)] [(1000000, .row 116 (runE s.runs) false), (1000001, .row 134 (endE s.ends) true)] (fun _ : Unit => True) (fun _ => (resRoom (roomOf s))) (fun _ => [(1000000, .row 116 (runE s.runs) false), (1000001, .row 134 (endE s.ends) true)]) (fun _ => []) := by
 refine mcalls_of tt Tryz.func114 rfl rfl rfl ⟨.inr (.inr rfl), .inl rfl, trivial⟩ (fun _ _ => ⟨⟨⟨rfl, rfl, rfl⟩, ⟨rfl, rfl, rfl⟩, trivial⟩, .inr (.inr rfl), .inl rfl, trivial⟩) (fun w0 Z O => ?_)
 have c1 := l06Empty_h hs
 have c3 := time_s (x := s.now)
 by_cases hB : BaseP s
 ·have h1 := hB.up
  have h2 := hB.now
  have h3 := hB.topo.nlen
  have h4 := hB.topo.len
  rw [empO_t hB.topo hB.up hB.lic] at c1
  rw [show inB s.now 0 1000000000 = true by rw [inB_t]; exact h2] at c3
  rw [roomOf_b hB]
  repeat' (first|refine zst ?_|(refine zhm fun hb=>?_;try exact zab)|refine zg2 ?_ ?_|refine zln fun _=>?_|refine zop ?_|refine kc (c3) rfl rfl ?_|(refine km [1000000, 1000001] (c1) rfl rfl (fun i hi => ?_);(try dsimp only at hi))|fail)
  refine awp_loop (fun (k : Nat × Room) => ⟨93, [(1, .ptr 1 0), (2, .ptr 2 0), (4, .ptr 4 0), (27, .row 1000000), (28, .d (.n .i64 (s.runs.length : Nat))), (29, .d (.n .i64 k.1))], [(1000000, .row 116 (runE s.runs) false), (1000001, .row 134 (endE s.ends) true), (1, .box 44 (stateH s 1000000 1000001)), (2, .box 152 [.nil, .nil, .nil, .nil, .nil]), (4, .box 152 (roomC k.2))]⟩) (fun k => GoP s k.1 k.2) (fun k => s.runs.length - k.1) (0, emptyR s.topo s.up s.lic) (by exact ⟨Nat.zero_le _, empty_ok hB.topo h1 hB.lic, rfl⟩) ?_ ?_
  ·refine ⟨rfl, ?_, ?_, rfl⟩
   repeat'(first|apply And.intro|exact ze0|refine ze1 ?_|refine zei ?_ ?_|exact rfl|trivial)
   all_goals exact Stop.mk (by first | rfl | exact runE_length _)
  ·rintro ⟨n, r⟩ hg
   dsimp only at hg ⊢
   have hle := hg.le
   have hrl := runE_length s.runs
   by_cases hn : n < s.runs.length
   ·have c5 := l04Diff_s (j := (nth s.runs n).job) (l := (nth s.runs n).nodes) hg.ok (hs.rno n hn)
    cases hd : (jobOkB (nth s.runs n).job && diffB r.topo (nth s.runs n).job (nth s.runs n).nodes) with
    | false =>
     rw [hd] at c5
     have hnone : roomGo s.now s.runs (emptyR s.topo s.up s.lic) = none := by
      cases hb0 : runB s.now (nth s.runs n) with
      | false => exact goP_f hg hn hb0
      | true =>
       refine goP_n hg hn ?_
       cases hj : jobOkB (nth s.runs n).job with
       | false => exact resO_f1 hj
       | true => rw [hj, Bool.true_and] at hd; exact resO_f2 hd
     rw [hnone]
     repeat' (first|refine zsr ?_|(refine zhm fun hb=>?_;try exact zab)|refine zg2 ?_ ?_|(apply op_id;first|refine zom ?_|(apply QOk.ok;refine st_bin rfl rfl rfl rfl rfl rfl ?_))|refine zln fun _=>?_|refine zop ?_|refine kc (c5) rfl rfl ?_|fail)
     show AWp _ _ _ _
     refine awp_dena ?_
     apply awp_ret'
     exact zm () [] trivial zae zae zae
    | true =>
     rw [hd] at c5
     rw [Bool.and_eq_true] at hd
     obtain ⟨k4, k5⟩ := jobOk_in hd.1
     cases hb0 : runB s.now (nth s.runs n) with
     | false =>
      rw [goP_f hg hn hb0]
      by_cases hat : 0 ≤ (nth s.runs n).at' ∧ (nth s.runs n).at' ≤ 1000000000
      ·have c6 := time_s (x := (nth s.runs n).at')
       repeat' (first|refine zsr ?_|(refine zhm fun hb=>?_;try exact zab)|refine zg2 ?_ ?_|refine zln fun _=>?_|refine zon ?_|refine kc (c5) rfl rfl ?_|refine kc (c6) rfl rfl ?_|fail)
       all_goals first
        | (exfalso; have := (runB_iff (now := s.now) (x := nth s.runs n)).2 ⟨hd.1, by omega, by omega, by omega⟩; rw [hb0] at this; cases this; done)
        | skip
       any_goals
        show AWp _ _ _ _
        refine awp_dena ?_
        apply awp_ret'
        refine zm () [] trivial ?_ ?_ ?_
        repeat'(first|apply And.intro|exact ze0|refine ze1 ?_|refine zei ?_ ?_|exact rfl|trivial)
        all_goals exact Stop.mk rfl
      ·have c6 := time_s (x := (nth s.runs n).at')
       rw [show inB (nth s.runs n).at' 0 1000000000 = false by rw [inB_f]; omega] at c6
       repeat' (first|refine zsr ?_|(refine zhm fun hb=>?_;try exact zab)|refine zg2 ?_ ?_|(apply op_id;first|refine zom ?_|(apply QOk.ok;refine st_bin rfl rfl rfl rfl rfl rfl ?_))|refine zln fun _=>?_|refine zon ?_|refine kc (c5) rfl rfl ?_|refine kc (c6) rfl rfl ?_|fail)
       show AWp _ _ _ _
       refine awp_dena ?_
       apply awp_ret'
       exact zm () [] trivial zae zae zae
     | true =>
      obtain ⟨k1, k2, k3⟩ := runB_iff.1 hb0
      have c6 := time_s (x := (nth s.runs n).at')
      have c7 := reserve_s (j := { (nth s.runs n).job with wall := (nth s.runs n).at' + (nth s.runs n).job.wall - s.now }) (a := s.now) hg.ok (hs.rno n hn) h2
      have hjo : jobOkB { (nth s.runs n).job with wall := (nth s.runs n).at' + (nth s.runs n).job.wall - s.now } = true := by
       have := k1
       simp only [jobOkB, Bool.and_eq_true, inB_t] at this ⊢
       exact ⟨⟨this.1.1, by omega⟩, this.2⟩
      rw [resO_wall (j := (nth s.runs n).job) k1 hjo rfl rfl rfl] at c7
      dsimp only at c7
      rw [show s.now + ((nth s.runs n).at' + (nth s.runs n).job.wall - s.now) = (nth s.runs n).at' + (nth s.runs n).job.wall by omega] at c7
      cases hq : resO r (nth s.runs n).job s.now ((nth s.runs n).at' + (nth s.runs n).job.wall) (nth s.runs n).nodes with
      | none =>
       rw [hq] at c7
       rw [goP_n hg hn hq]
       repeat' (first|refine zsr ?_|(refine zhm fun hb=>?_;try exact zab)|refine zg2 ?_ ?_|refine zln fun _=>?_|refine zon ?_|refine kc (c5) rfl rfl ?_|refine kc (c6) rfl rfl ?_|(refine km [] (c7) rfl rfl (fun i hi => ?_);(try dsimp only at hi))|fail)
       show AWp _ _ _ _
       refine awp_dena ?_
       apply awp_ret'
       exact zm () [] trivial zae zae zae
      | some r' =>
       rw [hq] at c7
       have hst := goP_s hg hn hb0 hq
       repeat' (first|refine zsr ?_|(refine zhm fun hb=>?_;try exact zab)|refine zg2 ?_ ?_|refine zln fun _=>?_|refine zon ?_|refine kc (c5) rfl rfl ?_|refine kc (c6) rfl rfl ?_|(refine km [] (c7) rfl rfl (fun i hi => ?_);(try dsimp only at hi))|fail)
       refine ⟨(n + 1, r'), hst, by dsimp only; omega, ?_⟩
       exact ⟨rfl, zae, zae, rfl⟩
   ·rw [goP_e hg hn]
    repeat' (first|refine zsr ?_|(refine zhm fun hb=>?_;try exact zab)|refine zg2 ?_ ?_|refine zln fun _=>?_|refine zop ?_|fail)
    show AWp _ _ _ _
    refine awp_dena ?_
    apply awp_ret'
    exact zm () [] trivial zae zae zae
 ·rw [roomOf_f hB]
  cases he : empO s with
  | none =>
   rw [he] at c1
   repeat' (first|refine zsr ?_|(refine zhm fun hb=>?_;try exact zab)|refine zg2 ?_ ?_|refine zln fun _=>?_|refine zop ?_|(refine km [1000000, 1000001] (c1) rfl rfl (fun i hi => ?_);(try dsimp only at hi))|fail)
   show AWp _ _ _ _
   refine awp_dena ?_
   apply awp_ret'
   exact zm () [] trivial zae zae zae
  | some r0 =>
   rw [he] at c1
   rw [show inB s.now 0 1000000000 = false by
    rw [inB_f]
    rcases Classical.em (0 ≤ s.now ∧ s.now ≤ 1000000000) with h | h
    ·exact absurd (base_empO.2 ⟨by rw [he]; rfl, h⟩) hB
    ·omega] at c3
   repeat' (first|refine zsr ?_|(refine zhm fun hb=>?_;try exact zab)|refine zg2 ?_ ?_|refine zln fun _=>?_|refine zop ?_|refine kc (c3) rfl rfl ?_|(refine km [1000000, 1000001] (c1) rfl rfl (fun i hi => ?_);(try dsimp only at hi))|fail)
   show AWp _ _ _ _
   refine awp_dena ?_
   apply awp_ret'
   exact zm () [] trivial zae zae zae
end Go.Proofs.YtliopiphobopjaaGreat
