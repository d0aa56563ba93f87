/-
  Rooms: what a job uses is taken; both.
-/
import Derived.Test.YtliopiphobopjaaGreatKShL
import Derived.Test.YtliopiphobopjaaGreatKB18
import Derived.Test.YtliopiphobopjaaGreatKB17
set_option maxRecDepth 100000
set_option maxHeartbeats 16000000
namespace Go.Proofs.YtliopiphobopjaaGreat
open Go Go.RowKit
attribute [local irreducible] AWp OpsOk OpOk ACalls ChA QsOk MCalls EnC PY

@[reducible] def resRoom (o : Option Room) : List AV := [roomA (o.getD zR), .d (.b o.isSome)]
theorem resO_f1 {r : Room} {j : Job} {a b : Int} {l : List Int} (h : jobOkB j = false) : resO r j a b l = none := by
 unfold resO
 rw [if_neg (by rw [h]; simp)]
theorem resO_f2 {r : Room} {j : Job} {a b : Int} {l : List Int} (h : diffB r.topo j l = false) : resO r j a b l = none := by
 unfold resO
 rw [if_neg (by rw [h]; simp)]
theorem resO_t {r : Room} {j : Job} {a b : Int} {l : List Int} (h1 : RoomOk r) (h2 : jobOkB j = true) (h3 : diffB r.topo j l = true) : resO r j a b l = match takeN a b j.need l r.profs with
  | none => none
  | some ps => match takeP r.lics a b j.lic with
   | none => none
   | some q => some ⟨r.topo, r.up, ps, q⟩ := by
 unfold resO
 rw [if_pos (by rw [h2, h3, show roomOkB r = true from pB_t.2 h1]; rfl)]
 rfl
theorem profsE_set (ps : List (List Pt)) (n : Nat) (q : List Pt) : (profsE ps).set n [.sl (ptE q)] = profsE (ps.set n q) := by simp [profsE, List.map_set]
structure TakP (r : Room) (a b : Int) (v : V3) (l : List Int) (i : Nat) (ps : List (List Pt)) : Prop where
 le : i ≤ l.length
 len : ps.length = r.profs.length
 ok : ∀ j, j < ps.length → ProfOk (nth ps j)
 eq : takeN a b v (l.drop i) ps = takeN a b v l r.profs
theorem takP_none {r : Room} {a b : Int} {v : V3} {l : List Int} {i : Nat} {ps : List (List Pt)} (h : TakP r a b v l i ps) (hi : i < l.length) (hq : takeP (nth ps (nth l i).toNat) a b v = none) : takeN a b v l r.profs = none := by
 rw [← h.eq, drop_nth hi, takeN, hq]
theorem takP_some {r : Room} {a b : Int} {v : V3} {l : List Int} {i : Nat} {ps : List (List Pt)} {q : List Pt} (h : TakP r a b v l i ps) (hi : i < l.length) (hn : (nth l i).toNat < ps.length) (hq : takeP (nth ps (nth l i).toNat) a b v = some q) : TakP r a b v l (i + 1) (ps.set (nth l i).toNat q) := by
 refine ⟨by omega, by rw [List.length_set]; exact h.len, fun j hj => ?_, ?_⟩
 ·rw [List.length_set] at hj
  rw [nth_set hn]
  split
  ·exact takeP_ok hq
  ·exact h.ok j hj
 ·rw [← h.eq, drop_nth hi]
  conv => rhs; rw [takeN, hq]
theorem takP_end {r : Room} {a b : Int} {v : V3} {l : List Int} {i : Nat} {ps : List (List Pt)} (h : TakP r a b v l i ps) (hi : ¬ i < l.length) : takeN a b v l r.profs = some ps := by
 rw [← h.eq, List.drop_eq_nil_of_le (by omega)]
 rfl
theorem moved_e {r : Room} {j : Job} {a b : Int} {l : List Int} (hr : RoomOk r) (hl : l.length ≤ 1000000000) : DC Tryz.prog 197 [roomA r, jobA j, .d (.n .i64 a), .d (.n .i64 b), .d (.sl (intE l)), .clo 198 []] (resRoom (resO r j a b l)) := by
 refine mcalls_of tt Tryz.func197 rfl rfl rfl trivial (fun _ _ => ⟨trivial, trivial⟩) (fun w0 Z O => ?_)
 have hs := hr.small
 have c1 := roomOk_e hr
 have c2 := jobOk_e (j := j)
 have c3 := areJobNodes_e (j := j) hr.topo hl
 cases h2 : jobOkB j with
 | false =>
  rw [h2] at c2
  rw [resO_f1 h2]
  repeat' (first|refine zsr ?_|(refine zhm fun hb=>?_;try exact zab)|refine zdr ?_|(apply zch;exact zcg)|refine HopS.mk fun w0 Z O=>?_|exact zhk|refine zg3 ?_ ?_|refine zln fun _=>?_|refine zop ?_|refine kc (c1) rfl rfl ?_|refine kc (c2) rfl rfl ?_|refine kq (c1) rfl rfl ?_|refine kq (c2) rfl rfl ?_|fail)
  show AWp _ _ _ _
  refine awp_dena ?_
  apply awp_ret'
  exact zm () [] trivial zae zae zae
 | true =>
  rw [h2] at c2
  cases h3 : diffB r.topo j l with
  | false =>
   rw [h3] at c3
   rw [resO_f2 h3]
   repeat' (first|refine zsr ?_|(refine zhm fun hb=>?_;try exact zab)|refine zdr ?_|(apply zch;exact zcg)|refine HopS.mk fun w0 Z O=>?_|exact zhk|refine zg3 ?_ ?_|refine zln fun _=>?_|refine zop ?_|refine kc (c1) rfl rfl ?_|refine kc (c2) rfl rfl ?_|refine kc (c3) rfl rfl ?_|refine kq (c1) rfl rfl ?_|refine kq (c2) rfl rfl ?_|refine kq (c3) rfl rfl ?_|fail)
   show AWp _ _ _ _
   refine awp_dena ?_
   apply awp_ret'
   exact zm () [] trivial zae zae zae
  | true =>
   rw [h3] at c3
   rw [resO_t hr h2 h3]
   have hd := pB_t.1 h3
   have hjn : 1 ≤ j.nodes := by
    simp only [jobOkB, Bool.and_eq_true, inB_t] at h2
    omega
   have hnum := hd.num
   have hin0 := hd.nodes 0 (by omega)
   have hpn := hr.num
   repeat' (first|refine zst ?_|(refine zhm fun hb=>?_;try exact zab)|refine zdr ?_|(apply zch;exact zcg)|refine HopS.mk fun w0 Z O=>?_|exact zhk|refine zg3 ?_ ?_|refine zln fun _=>?_|refine zop ?_|refine kc (c1) rfl rfl ?_|refine kc (c2) rfl rfl ?_|refine kc (c3) rfl rfl ?_|(refine km [] (copyRoom_e hr (by omega)) rfl rfl (fun i hi => ?_);(try dsimp only at hi))|refine kq (c1) rfl rfl ?_|refine kq (c2) rfl rfl ?_|refine kq (c3) rfl rfl ?_|fail)
   refine awp_loop (fun (k : Nat × List (List Pt)) => ⟨86, [(2, .d (.n .i64 a)), (3, .d (.n .i64 b)), (5, .clo 198 []), (7, .ptr 7 0), (12, .ptr 12 0), (14, .ptr 14 0), (40, .d (.sl (intE l))), (41, .d (.n .i64 (l.length : Nat))), (42, .d (.n .i64 k.1))], [(7, .box 94 ((jobD j).map AV.d)), (12, .box 152 [.nil, .nil, .nil, .nil, .nil]), (14, .box 152 [.d (.sl (intE r.topo.parents)), .d (.sl (nodeE r.topo.nodes)), .d (.sl (boolE r.up)), .row 39, .d (.sl (ptE r.lics))]), (39, .row 150 (profsE k.2) false)]⟩) (fun k => TakP r a b j.need l k.1 k.2) (fun k => l.length - k.1) (0, r.profs) (by exact ⟨Nat.zero_le _, rfl, hr.profs, rfl⟩) ?_ ?_
   ·refine ⟨rfl, ?_, ?_, rfl⟩
    repeat'(first|apply And.intro|exact ze0|refine ze1 ?_|refine zei ?_ ?_|exact rfl|trivial)
    all_goals exact Stop.mk (by first | rfl | exact intE_length _)
   ·rintro ⟨n, ps⟩ ht
    dsimp only at ht ⊢
    have hle := ht.le
    have hlen := ht.len
    have hil := intE_length l
    have hpl := profsE_length ps
    by_cases hn' : n < l.length
    ·have hin := hd.nodes n hn'
     have hok := ht.ok (nth l n).toNat (by omega)
     have hokl := hok.len
     have c4 := profTake_e (l := nth ps (nth l n).toNat) (a := a) (b := b) (v := j.need) (by omega)
     cases hq : takeP (nth ps (nth l n).toNat) a b j.need with
     | none =>
      rw [hq] at c4
      rw [takP_none ht hn' hq]
      repeat' (first|refine zsr ?_|(refine zhm fun hb=>?_;try exact zab)|refine zdr ?_|(apply zch;exact zcg)|refine HopS.mk fun w0 Z O=>?_|exact zhk|refine zg3 ?_ ?_|refine zln fun _=>?_|refine zop ?_|(refine kw [] (c4) rfl rfl rfl rfl rfl (fun i hi => ?_);(try dsimp only at hi))|fail)
      show AWp _ _ _ _
      refine awp_dena ?_
      apply awp_ret'
      exact zm () [] trivial zae zae zae
     | some q =>
      rw [hq] at c4
      have hst := takP_some ht hn' (by omega) hq
      repeat' (first|refine zsr ?_|(refine zhm fun hb=>?_;try exact zab)|refine zdr ?_|(apply zch;exact zcg)|refine HopS.mk fun w0 Z O=>?_|exact zhk|refine zg3 ?_ ?_|refine zln fun _=>?_|refine zop ?_|(refine kw [] (c4) rfl rfl rfl rfl rfl (fun i hi => ?_);(try dsimp only at hi))|fail)
      refine ⟨(n + 1, ps.set (nth l n).toNat q), hst, by dsimp only; omega, ?_⟩
      refine ⟨rfl, ?_, ?_, rfl⟩
      repeat'(first|apply And.intro|exact ze0|refine ze1 ?_|refine zei ?_ ?_|exact rfl|trivial)
      all_goals exact Stop.mk (by first | rfl | exact profsE_set _ _ _)
    ·rw [takP_end ht hn']
     have hll := hr.lics.len
     have c4 := profTake_e (l := r.lics) (a := a) (b := b) (v := j.lic) (by omega)
     cases hq : takeP r.lics a b j.lic with
     | none =>
      rw [hq] at c4
      repeat' (first|refine zsr ?_|(refine zhm fun hb=>?_;try exact zab)|refine zdr ?_|(apply zch;exact zcg)|refine HopS.mk fun w0 Z O=>?_|exact zhk|refine zg3 ?_ ?_|refine zln fun _=>?_|refine zop ?_|(refine kw [] (c4) rfl rfl rfl rfl rfl (fun i hi => ?_);(try dsimp only at hi))|fail)
      show AWp _ _ _ _
      refine awp_dena ?_
      apply awp_ret'
      exact zm () [] trivial zae zae zae
     | some q =>
      rw [hq] at c4
      repeat' (first|refine zsr ?_|(refine zhm fun hb=>?_;try exact zab)|refine zdr ?_|(apply zch;exact zcg)|refine HopS.mk fun w0 Z O=>?_|exact zhk|refine zg3 ?_ ?_|refine zln fun _=>?_|refine zop ?_|(refine kw [] (c4) rfl rfl rfl rfl rfl (fun i hi => ?_);(try dsimp only at hi))|fail)
      show AWp _ _ _ _
      refine awp_frz 39 rfl ?_
      refine awp_dena ?_
      apply awp_ret'
      exact zm () [] trivial zae zae zae
end Go.Proofs.YtliopiphobopjaaGreat
namespace Go.Proofs.YtliopiphobopjaaGreat
open Go Go.RowKit
attribute [local irreducible] AWp OpsOk OpOk ACalls ChA QsOk MCalls EnC PY

theorem reserve_s {r : Room} {j : Job} {a : Int} {l : List Int} (hr : RoomOk r) (hl : l.length ≤ 1000000000) (ha : 0 ≤ a ∧ a ≤ 1000000000) : DC Tryz.prog 191 [roomA r, jobA j, .d (.n .i64 a), .d (.sl (intE l))] (resRoom (resO r j a (a + j.wall) l)) := by
 refine mcalls_of tt Tryz.func191 rfl rfl rfl trivial (fun _ _ => ⟨trivial, trivial⟩) (fun w0 Z O => ?_)
 have hs := hr.small
 have c1 := l04Diff_s (j := j) hr hl
 have c2 := time_s (x := a)
 rw [show inB a 0 1000000000 = true by rw [inB_t]; exact ha] at c2
 cases h2 : jobOkB j with
 | false =>
  rw [h2, Bool.false_and] at c1
  rw [resO_f1 h2]
  repeat' (first|refine zsr ?_|(refine zhm fun hb=>?_;try exact zab)|refine zdr ?_|(apply zch;exact zcg)|refine HopS.mk fun w0 Z O=>?_|exact zhk|refine zg3 ?_ ?_|refine zln fun _=>?_|refine zop ?_|refine kc (c1) rfl rfl ?_|refine kq (c1) rfl rfl ?_|fail)
  show AWp _ _ _ _
  refine awp_dena ?_
  apply awp_ret'
  exact zm () [] trivial zae zae zae
 | true =>
  cases h3 : diffB r.topo j l with
  | false =>
   rw [h2, h3, Bool.true_and] at c1
   rw [resO_f2 h3]
   repeat' (first|refine zsr ?_|(refine zhm fun hb=>?_;try exact zab)|refine zdr ?_|(apply zch;exact zcg)|refine HopS.mk fun w0 Z O=>?_|exact zhk|refine zg3 ?_ ?_|refine zln fun _=>?_|refine zop ?_|refine kc (c1) rfl rfl ?_|refine kq (c1) rfl rfl ?_|fail)
   show AWp _ _ _ _
   refine awp_dena ?_
   apply awp_ret'
   exact zm () [] trivial zae zae zae
  | true =>
   rw [h2, h3, Bool.true_and] at c1
   rw [resO_t hr h2 h3]
   have hd := pB_t.1 h3
   have hjb := h2
   simp only [jobOkB, Bool.and_eq_true, inB_t] at hjb
   have hjw : 1 ≤ j.wall ∧ j.wall ≤ 1000000 := hjb.1.2
   have hjn : 1 ≤ j.nodes := by omega
   have hnum := hd.num
   have hin0 := hd.nodes 0 (by omega)
   have hpn := hr.num
   repeat' (first|refine zst ?_|(refine zhm fun hb=>?_;try exact zab)|refine zdr ?_|(apply zch;exact zcg)|refine HopS.mk fun w0 Z O=>?_|exact zhk|refine zg3 ?_ ?_|refine zln fun _=>?_|refine zop ?_|refine kc (c1) rfl rfl ?_|refine kc (c2) rfl rfl ?_|(refine km [] (l04Copy_s hr (by omega)) rfl rfl (fun i hi => ?_);(try dsimp only at hi))|refine kq (c1) rfl rfl ?_|refine kq (c2) rfl rfl ?_|fail)
   refine awp_loop (fun (k : Nat × List (List Pt)) => ⟨80, [(2, .d (.n .i64 a)), (5, .ptr 5 0), (8, .ptr 8 0), (10, .ptr 10 0), (30, .d (.sl (intE l))), (31, .d (.n .i64 (l.length : Nat))), (32, .d (.n .i64 k.1))], [(5, .box 94 ((jobD j).map AV.d)), (8, .box 152 [.nil, .nil, .nil, .nil, .nil]), (10, .box 152 [.d (.sl (intE r.topo.parents)), .d (.sl (nodeE r.topo.nodes)), .d (.sl (boolE r.up)), .row 29, .d (.sl (ptE r.lics))]), (29, .row 150 (profsE k.2) false)]⟩) (fun k => TakP r a (a + j.wall) j.need l k.1 k.2) (fun k => l.length - k.1) (0, r.profs) (by exact ⟨Nat.zero_le _, rfl, hr.profs, rfl⟩) ?_ ?_
   ·refine ⟨rfl, ?_, ?_, rfl⟩
    repeat'(first|apply And.intro|exact ze0|refine ze1 ?_|refine zei ?_ ?_|exact rfl|trivial)
    all_goals exact Stop.mk (by first | rfl | exact intE_length _)
   ·rintro ⟨n, ps⟩ ht
    dsimp only at ht ⊢
    have hle := ht.le
    have hlen := ht.len
    have hil := intE_length l
    have hpl := profsE_length ps
    by_cases hn' : n < l.length
    ·have hin := hd.nodes n hn'
     have hok := ht.ok (nth l n).toNat (by omega)
     have hokl := hok.len
     have c4 := profTake_s (l := nth ps (nth l n).toNat) (a := a) (b := a + j.wall) (v := j.need) (by omega)
     cases hq : takeP (nth ps (nth l n).toNat) a (a + j.wall) j.need with
     | none =>
      rw [hq] at c4
      rw [takP_none ht hn' hq]
      repeat' (first|refine zsr ?_|(refine zhm fun hb=>?_;try exact zab)|refine zdr ?_|(apply zch;exact zcg)|refine HopS.mk fun w0 Z O=>?_|exact zhk|refine zg3 ?_ ?_|refine zln fun _=>?_|refine zon ?_|(refine km [] (c4) rfl rfl (fun i hi => ?_);(try dsimp only at hi))|fail)
      show AWp _ _ _ _
      refine awp_dena ?_
      apply awp_ret'
      exact zm () [] trivial zae zae zae
     | some q =>
      rw [hq] at c4
      have hst := takP_some ht hn' (by omega) hq
      repeat' (first|refine zsr ?_|(refine zhm fun hb=>?_;try exact zab)|refine zdr ?_|(apply zch;exact zcg)|refine HopS.mk fun w0 Z O=>?_|exact zhk|refine zg3 ?_ ?_|refine zln fun _=>?_|refine zon ?_|(refine km [] (c4) rfl rfl (fun i hi => ?_);(try dsimp only at hi))|fail)
      refine ⟨(n + 1, ps.set (nth l n).toNat q), hst, by dsimp only; omega, ?_⟩
      refine ⟨rfl, ?_, ?_, rfl⟩
      repeat'(first|apply And.intro|exact ze0|refine ze1 ?_|refine zei ?_ ?_|exact rfl|trivial)
      all_goals exact Stop.mk (by first | rfl | exact profsE_set _ _ _)
    ·rw [takP_end ht hn']
     have hll := hr.lics.len
     have c4 := profTake_s (l := r.lics) (a := a) (b := a + j.wall) (v := j.lic) (by omega)
     cases hq : takeP r.lics a (a + j.wall) j.lic with
     | none =>
      rw [hq] at c4
      repeat' (first|refine zsr ?_|(refine zhm fun hb=>?_;try exact zab)|refine zdr ?_|(apply zch;exact zcg)|refine HopS.mk fun w0 Z O=>?_|exact zhk|refine zg3 ?_ ?_|refine zln fun _=>?_|refine zon ?_|(refine km [] (c4) rfl rfl (fun i hi => ?_);(try dsimp only at hi))|fail)
      show AWp _ _ _ _
      refine awp_dena ?_
      apply awp_ret'
      exact zm () [] trivial zae zae zae
     | some q =>
      rw [hq] at c4
      repeat' (first|refine zsr ?_|(refine zhm fun hb=>?_;try exact zab)|refine zdr ?_|(apply zch;exact zcg)|refine HopS.mk fun w0 Z O=>?_|exact zhk|refine zg3 ?_ ?_|refine zln fun _=>?_|refine zon ?_|(refine km [] (c4) rfl rfl (fun i hi => ?_);(try dsimp only at hi))|fail)
      show AWp _ _ _ _
      refine awp_frz 29 rfl ?_
      refine awp_dena ?_
      apply awp_ret'
      exact zm () [] trivial zae zae zae
end Go.Proofs.YtliopiphobopjaaGreat
