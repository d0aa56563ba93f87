/-
  Rooms: RoomOk of a right room, different nodes; both.
-/
import Derived.Test.YtliopiphobopjaaGreatKShL
import Derived.Test.YtliopiphobopjaaGreatKB9
set_option maxRecDepth 100000
set_option maxHeartbeats 16000000
namespace Go.Proofs.YtliopiphobopjaaGreat
open Go Go.RowKit
attribute [local irreducible] AWp OpsOk OpOk ACalls ChA QsOk MCalls EnC PY

theorem RoomOk.small {r : Room} (h : RoomOk r) : (r.topo.parents.length ≤ 24 ∧ r.topo.nodes.length ≤ 24) ∧ r.up.length ≤ 24 ∧ r.profs.length ≤ 24 ∧ r.lics.length ≤ 200 := by
 have h1 := h.topo.len
 have h2 := h.topo.nlen
 have h3 := h.up
 have h4 := h.num
 have h5 := h.lics.len
 omega
theorem roomOk_e {r : Room} (h : RoomOk r) : ACalls Tryz.prog 199 [roomA r] [.d (.b true)] [] := by
 refine acalls_of tt Tryz.func199 rfl rfl rfl (fun w0 Z => ?_)
 have hs := h.small
 have h1 := h.up
 have h2 := h.num
 have c1 := topoOk_e (t := r.topo) (by omega) (by omega)
 rw [topoOkB_t.2 h.topo] at c1
 have c2 := profOk_e (l := r.lics) (by omega)
 rw [profOkB_t.2 h.lics] at c2
 repeat' (first|refine zst ?_|(refine zhm fun hb=>?_;try exact zab)|refine zg2 ?_ ?_|refine zln fun _=>?_|refine zop ?_|refine kc (c1) rfl rfl ?_|refine kc (c2) rfl rfl ?_|fail)
 refine awp_loop (fun (i : Nat) => ⟨43, [(1, .ptr 1 0), (30, .d (.sl (profsE r.profs))), (31, .d (.n .i64 (r.profs.length : Nat))), (32, .d (.n .i64 i))], [(1, .box 152 (roomC r))]⟩) (fun i => i ≤ r.profs.length) (fun i => r.profs.length - i) 0 (by exact Nat.zero_le _) ?_ ?_
 ·refine ⟨rfl, ?_, ?_, rfl⟩
  repeat'(first|apply And.intro|exact ze0|refine ze1 ?_|refine zei ?_ ?_|exact rfl|trivial)
  all_goals exact Stop.mk (by first | rfl | exact profsE_length _)
 ·intro i hi
  have hl := profsE_length r.profs
  by_cases hi' : i < r.profs.length
  ·have hp := h.profs i hi'
   have c3 := profOk_e (l := nth r.profs i) (by have := hp.len; omega)
   rw [profOkB_t.2 hp] at c3
   repeat' (first|refine zst ?_|(refine zhm fun hb=>?_;try exact zab)|refine zg2 ?_ ?_|refine zln fun _=>?_|refine zop ?_|refine kc (c3) rfl rfl ?_|fail)
   refine ⟨i + 1, by omega, by omega, ?_⟩
   exact ⟨rfl, zae, zae, rfl⟩
  ·repeat' (first|refine zst ?_|(refine zhm fun hb=>?_;try exact zab)|refine zg2 ?_ ?_|refine zln fun _=>?_|refine zop ?_|refine kc (c2) rfl rfl ?_|fail)
   exact zr [] zae zae
theorem roomOk_s {r : Room} (h : RoomOk r) : ACalls Tryz.prog 192 [roomA r] [.d (.b true)] [] := by
 refine acalls_of tt Tryz.func192 rfl rfl rfl (fun w0 Z => ?_)
 have hs := h.small
 have h1 := h.up
 have h2 := h.num
 have c1 := topoOk_s (t := r.topo) (by omega) (by omega)
 rw [topoOkB_t.2 h.topo] at c1
 have c2 := profOk_s (l := r.lics) (by omega)
 rw [profOkB_t.2 h.lics] at c2
 repeat' (first|refine zst ?_|(refine zhm fun hb=>?_;try exact zab)|refine zg2 ?_ ?_|refine zln fun _=>?_|refine zop ?_|refine kc (c1) rfl rfl ?_|refine kc (c2) rfl rfl ?_|fail)
 refine awp_loop (fun (i : Nat) => ⟨46, [(36, .d (.sl (profsE r.profs))), (37, .d (.n .i64 (r.profs.length : Nat))), (38, .d (.n .i64 i))], []⟩) (fun i => i ≤ r.profs.length) (fun i => r.profs.length - i) 0 (by exact Nat.zero_le _) ?_ ?_
 ·refine ⟨rfl, ?_, ?_, rfl⟩
  repeat'(first|apply And.intro|exact ze0|refine ze1 ?_|refine zei ?_ ?_|exact rfl|trivial)
  all_goals exact Stop.mk (by first | rfl | exact profsE_length _)
 ·intro i hi
  have hl := profsE_length r.profs
  by_cases hi' : i < r.profs.length
  ·have hp := h.profs i hi'
   have c3 := profOk_s (l := nth r.profs i) (by have := hp.len; omega)
   rw [profOkB_t.2 hp] at c3
   repeat' (first|refine zst ?_|(refine zhm fun hb=>?_;try exact zab)|refine zg2 ?_ ?_|refine zln fun _=>?_|refine zop ?_|refine kc (c3) rfl rfl ?_|fail)
   refine ⟨i + 1, by omega, by omega, ?_⟩
   exact ⟨rfl, zae, zae, rfl⟩
  ·repeat' (first|refine zst ?_|(refine zhm fun hb=>?_;try exact zab)|refine zg2 ?_ ?_|refine zln fun _=>?_|refine zop ?_|refine kc (c2) rfl rfl ?_|fail)
   exact zr [] zae zae
/-! ### Different nodes -/
theorem diff_f1 {t : Topo} {j : Job} {l : List Int} {i : Nat} (hi : i < l.length) (h : hasI (l.take i) (nth l i) = true) : diffB t j l = false := pB_f.2 fun hd => by rw [hd.diff i hi] at h; cases h
theorem diff_f2 {t : Topo} {j : Job} {l : List Int} (h : (l.length : Int) ≠ j.nodes) : diffB t j l = false := pB_f.2 fun hd => h hd.num
theorem diff_f3 {t : Topo} {j : Job} {l : List Int} (ht : TopoOk t) (h : nodesB t l = false) : diffB t j l = false := pB_f.2 fun hd => by rw [nodesB_iff.2 ⟨hd.nodes, ht⟩] at h; cases h
theorem diff_t {t : Topo} {j : Job} {l : List Int} (h1 : ∀ i, i < l.length → hasI (l.take i) (nth l i) = false) (h2 : (l.length : Int) = j.nodes) (h3 : nodesB t l = true) : diffB t j l = true := pB_t.2 ⟨(nodesB_iff.1 h3).1, h1, h2⟩
theorem sl_take (l : List Int) (i : Nat) : (List.drop 0 ((intE l).take i)) = intE (l.take i) := by simp [intE, List.map_take]
theorem areJobNodes_e {t : Topo} {j : Job} {l : List Int} (ht : TopoOk t) (hl : l.length ≤ 1000000000) : ACalls Tryz.prog 239 [topoA t, jobA j, .d (.sl (intE l))] [.d (.b (diffB t j l))] [] := by
 refine acalls_of tt Tryz.func239 rfl rfl rfl (fun w0 Z => ?_)
 have hps := ht.len
 have hns := ht.nlen
 repeat' (first|refine zst ?_|(refine zhm fun hb=>?_;try exact zab)|refine zg2 ?_ ?_|refine zln fun _=>?_|refine zop ?_|fail)
 refine awp_loop (fun (i : Nat) => ⟨32, [(2, .d (.sl (intE l))), (3, .ptr 3 0), (4, .ptr 4 0), (9, .d (.sl (intE l))), (10, .d (.n .i64 (l.length : Nat))), (11, .d (.n .i64 i))], [(3, .box 39 (topoC t)), (4, .box 94 ((jobD j).map AV.d))]⟩) (fun i => i ≤ l.length ∧ ∀ k, k < i → hasI (l.take k) (nth l k) = false) (fun i => l.length - i) 0 (by exact ⟨Nat.zero_le _, fun k hk => absurd hk (Nat.not_lt_zero _)⟩) ?_ ?_
 ·refine ⟨rfl, ?_, ?_, rfl⟩
  repeat'(first|apply And.intro|exact ze0|refine ze1 ?_|refine zei ?_ ?_|exact rfl|trivial)
  all_goals exact Stop.mk (by first | rfl | exact intE_length _)
 ·rintro i ⟨hi, hd⟩
  have hil : (intE l).length = l.length := intE_length l
  by_cases hi' : i < l.length
  ·have hc := contains_c (l := l.take i) (x := nth l i) (by rw [List.length_take]; omega)
   rw [← sl_take] at hc
   repeat' (first|refine zst ?_|(refine zhm fun hb=>?_;try exact zab)|refine zg2 ?_ ?_|refine zln fun _=>?_|refine zop ?_|refine kc (hc) rfl rfl ?_|fail)
   ·rw [diff_f1 hi' (by assumption)]
    exact zr [] zae zae
   ·refine ⟨i + 1, ⟨by omega, fun k hk => ?_⟩, by omega, ?_⟩
    ·by_cases e : k = i
     ·subst e; assumption
     ·exact hd k (by omega)
    exact ⟨rfl, zae, zae, rfl⟩
  ·have hn := areNodes_e (t := t) (l := l) (by omega) (by omega) hl
   cases hnb : nodesB t l with
   | false =>
    rw [hnb] at hn
    rw [diff_f3 ht hnb]
    repeat' (first|refine zst ?_|(refine zhm fun hb=>?_;try exact zab)|refine zg2 ?_ ?_|refine zln fun _=>?_|refine zop ?_|refine kc (hn) rfl rfl ?_|fail)
    exact zr [] zae zae
   | true =>
    rw [hnb] at hn
    repeat' (first|refine zst ?_|(refine zhm fun hb=>?_;try exact zab)|refine zg2 ?_ ?_|refine zln fun _=>?_|refine zop ?_|refine kc (hn) rfl rfl ?_|fail)
    refine zr [] ?_ ?_
    repeat'(first|apply And.intro|exact ze0|refine ze1 ?_|refine zei ?_ ?_|exact rfl|trivial)
    all_goals
     refine Stop.mk ?_
     by_cases e : (l.length : Int) = j.nodes
     ·rw [diff_t (fun k hk => hd k (by omega)) e hnb]; simp [e]
     ·rw [diff_f2 e]; simp [e]
theorem l04Diff_s {r : Room} {j : Job} {l : List Int} (hr : RoomOk r) (hl : l.length ≤ 1000000000) : ACalls Tryz.prog 190 [roomA r, jobA j, .d (.sl (intE l))] [.d (.b (jobOkB j && diffB r.topo j l))] [] := by
 refine acalls_of tt Tryz.func190 rfl rfl rfl (fun w0 Z => ?_)
 have hps := hr.topo.len
 have hns := hr.topo.nlen
 have c1 := roomOk_s hr
 have c2 := jobOk_s (j := j)
 have c3 := l02Nodes_e (t := r.topo) (l := l) (by omega) (by omega) hl
 cases h2 : jobOkB j with
 | false =>
  rw [h2] at c2
  repeat' (first|refine zst ?_|(refine zhm fun hb=>?_;try exact zab)|refine zg2 ?_ ?_|refine zln fun _=>?_|refine zop ?_|refine kc (c1) rfl rfl ?_|refine kc (c2) rfl rfl ?_|fail)
  exact zr [] zae zae
 | true =>
  rw [h2] at c2
  by_cases e : (l.length : Int) = j.nodes
  ·cases h3 : nodesB r.topo l with
   | false =>
    rw [h3] at c3
    rw [diff_f3 hr.topo h3]
    repeat' (first|refine zst ?_|(refine zhm fun hb=>?_;try exact zab)|refine zg2 ?_ ?_|refine zln fun _=>?_|refine zop ?_|refine kc (c1) rfl rfl ?_|refine kc (c2) rfl rfl ?_|refine kc (c3) rfl rfl ?_|fail)
    any_goals
     refine zr [] ?_ ?_
     repeat'(first|apply And.intro|exact ze0|refine ze1 ?_|refine zei ?_ ?_|exact rfl|trivial)
     all_goals exact Stop.mk rfl
   | true =>
    rw [h3] at c3
    repeat' (first|refine zst ?_|(refine zhm fun hb=>?_;try exact zab)|refine zg2 ?_ ?_|refine zln fun _=>?_|refine zop ?_|refine kc (c1) rfl rfl ?_|refine kc (c2) rfl rfl ?_|refine kc (c3) rfl rfl ?_|fail)
    refine awp_loop (fun (i : Nat) => ⟨44, [(2, .d (.sl (intE l))), (31, .d (.sl (intE l))), (32, .d (.n .i64 (l.length : Nat))), (33, .d (.n .i64 i))], []⟩) (fun i => i ≤ l.length ∧ ∀ k, k < i → hasI (l.take k) (nth l k) = false) (fun i => l.length - i) 0 (by exact ⟨Nat.zero_le _, fun k hk => absurd hk (Nat.not_lt_zero _)⟩) ?_ ?_
    ·refine ⟨rfl, ?_, ?_, rfl⟩
     repeat'(first|apply And.intro|exact ze0|refine ze1 ?_|refine zei ?_ ?_|exact rfl|trivial)
     all_goals exact Stop.mk (by first | rfl | exact intE_length _)
    ·rintro i ⟨hi, hd⟩
     have hil : (intE l).length = l.length := intE_length l
     by_cases hi' : i < l.length
     ·have hc := l02Has_c (l := l.take i) (x := nth l i) (by rw [List.length_take]; omega)
      rw [← sl_take] at hc
      repeat' (first|refine zst ?_|(refine zhm fun hb=>?_;try exact zab)|refine zg2 ?_ ?_|refine zln fun _=>?_|refine zop ?_|refine kc (hc) rfl rfl ?_|fail)
      ·rw [diff_f1 hi' (by assumption)]
       exact zr [] zae zae
      ·refine ⟨i + 1, ⟨by omega, fun k hk => ?_⟩, by omega, ?_⟩
       ·by_cases e : k = i
        ·subst e; assumption
        ·exact hd k (by omega)
       exact ⟨rfl, zae, zae, rfl⟩
     ·rw [diff_t (fun k hk => hd k (by omega)) e h3]
      repeat' (first|refine zst ?_|(refine zhm fun hb=>?_;try exact zab)|refine zg2 ?_ ?_|refine zln fun _=>?_|refine zop ?_|fail)
      exact zr [] zae zae
  ·rw [diff_f2 e]
   repeat' (first|refine zst ?_|(refine zhm fun hb=>?_;try exact zab)|refine zg2 ?_ ?_|refine zln fun _=>?_|refine zop ?_|refine kc (c1) rfl rfl ?_|refine kc (c2) rfl rfl ?_|refine kc (c3) rfl rfl ?_|fail)
   any_goals
    refine zr [] ?_ ?_
    repeat'(first|apply And.intro|exact ze0|refine ze1 ?_|refine zei ?_ ?_|exact rfl|trivial)
    all_goals exact Stop.mk rfl
end Go.Proofs.YtliopiphobopjaaGreat
namespace Go.Proofs.YtliopiphobopjaaGreat
open Go Go.RowKit
attribute [local irreducible] AWp OpsOk OpOk ACalls ChA QsOk MCalls EnC PY

theorem copyInts_e {l : List Int} (h : l.length ≤ 1000000000) : DC Tryz.prog 188 [.d (.sl (intE l))] [.d (.sl (intE l))] := by
 refine mcalls_of tt Tryz.func188 rfl rfl rfl trivial (fun _ _ => ⟨trivial, trivial⟩) (fun w0 Z O => ?_)
 have hl := intE_length l
 repeat' (first|refine zsr ?_|(refine zhm fun hb=>?_;try exact zab)|refine zg2 ?_ ?_|refine zop ?_|fail)
 show AWp _ _ _ _
 refine awp_frz 4 rfl ?_
 refine awp_dena ?_
 apply awp_ret'
 exact zm () [] trivial zae zae zae
theorem copyProf_e {l : List Pt} (h : l.length ≤ 1000000000) : DC Tryz.prog 262 [profA l] [profA l] := by
 refine mcalls_of tt Tryz.func262 rfl rfl rfl trivial (fun _ _ => ⟨trivial, trivial⟩) (fun w0 Z O => ?_)
 have hl := ptE_length l
 repeat' (first|refine zsr ?_|(refine zhm fun hb=>?_;try exact zab)|refine zg2 ?_ ?_|refine zop ?_|fail)
 show AWp _ _ _ _
 refine awp_frz 5 rfl ?_
 refine awp_dena ?_
 apply awp_ret'
 exact zm () [] trivial zae zae zae
theorem l04Prof_s {l : List Pt} (h : l.length ≤ 1000000000) : DC Tryz.prog 255 [profA l] [profA l] := by
 refine mcalls_of tt Tryz.func255 rfl rfl rfl trivial (fun _ _ => ⟨trivial, trivial⟩) (fun w0 Z O => ?_)
 have hl := ptE_length l
 repeat' (first|refine zsr ?_|(refine zhm fun hb=>?_;try exact zab)|refine zg2 ?_ ?_|refine zop ?_|fail)
 show AWp _ _ _ _
 refine awp_frz 3 rfl ?_
 refine awp_dena ?_
 apply awp_ret'
 exact zm () [] trivial zae zae zae
theorem copyTopo_e {t : Topo} (h1 : t.parents.length ≤ 1000000000) (h2 : t.nodes.length ≤ 1000000000) : DC Tryz.prog 187 [topoA t] [topoA t] := by
 refine mcalls_of tt Tryz.func187 rfl rfl rfl trivial (fun _ _ => ⟨trivial, trivial⟩) (fun w0 Z O => ?_)
 have hl := nodeE_length t.nodes
 repeat' (first|refine zsr ?_|(refine zhm fun hb=>?_;try exact zab)|refine zdr ?_|(apply zch;exact zcg)|refine HopS.mk fun w0 Z O=>?_|exact zhk|refine zg3 ?_ ?_|refine zop ?_|(refine km [] (copyInts_e (l := t.parents) h1) rfl rfl (fun i hi => ?_);(try dsimp only at hi))|fail)
 show AWp _ _ _ _
 refine awp_frz 8 rfl ?_
 refine awp_dena ?_
 apply awp_ret'
 exact zm () [] trivial zae zae zae
def slN (n : Nat) (es : List (List D)) : AV := match es with
 | [] => .nil
 | _ :: _ => .row n
def slO (n : Nat) (e : TypeId) (es : List (List D)) : List (Nat × AO) := match es with
 | [] => []
 | _ :: _ => [(n, .row e es false)]
theorem profsE_push (l : List (List Pt)) (p : List Pt) : profsE l ++ [[.sl (ptE p)]] = profsE (l ++ [p]) := by simp [profsE]
theorem copyRoom_e {r : Room} (h : RoomOk r) (h0 : 0 < r.profs.length) : MCalls Tryz.prog 240 [roomA r] [] (fun _ : Unit => True) (fun _ => [.agg [.d (.sl (intE r.topo.parents)), .d (.sl (nodeE r.topo.nodes)), .d (.sl (boolE r.up)), .row 0, .d (.sl (ptE r.lics))]]) (fun _ => []) (fun _ => [(0, .row 150 (profsE r.profs) false)]) := by
 refine mcalls_of tt Tryz.func240 rfl rfl rfl trivial (fun _ _ => ⟨trivial, trivial⟩) (fun w0 Z O => ?_)
 have hs := h.small
 have hbl := boolE_length r.up
 have hnl := nodeE_length r.topo.nodes
 have hpl := profsE_length r.profs
 have hil := intE_length r.topo.parents
 repeat' (first|(refine awp_frzr 2 11 rfl ?_)|refine zst ?_|(refine zhm fun hb=>?_;try exact zab)|refine zdr ?_|(apply zch;exact zcg)|refine HopS.mk fun w0 Z O=>?_|exact zhk|refine zg3 ?_ ?_|refine zln fun _=>?_|refine zop ?_|(refine km [] (copyTopo_e (t := r.topo) (by omega) (by omega)) rfl rfl (fun i hi => ?_);(try dsimp only at hi))|(refine km [] (copyProf_e (l := r.lics) (by omega)) rfl rfl (fun i hi => ?_);(try dsimp only at hi))|fail)
 refine awp_loop (fun (k : Nat × List (List Pt)) => ⟨32, [(2, .ptr 2 0), (3, .ptr 3 0), (17, .d (.sl (profsE r.profs))), (18, .d (.n .i64 (r.profs.length : Nat))), (19, .d (.n .i64 k.1))], [(2, .box 152 [.nil, .nil, .nil, .nil, .nil]), (3, .box 152 [.d (.sl (intE r.topo.parents)), .d (.sl (nodeE r.topo.nodes)), .d (.sl (boolE r.up)), slN 28 (profsE k.2), .d (.sl (ptE r.lics))])] ++ slO 28 150 (profsE k.2)⟩) (fun k => k.1 ≤ r.profs.length ∧ k.2 = r.profs.take k.1) (fun k => r.profs.length - k.1) (0, []) (by exact ⟨Nat.zero_le _, rfl⟩) ?_ ?_
 ·refine ⟨rfl, ?_, ?_, rfl⟩
  repeat'(first|apply And.intro|exact ze0|refine ze1 ?_|refine zei ?_ ?_|exact rfl|trivial)
  all_goals exact Stop.mk (by first | rfl | exact profsE_length _)
 ·rintro ⟨n, out⟩ ⟨hn, ho⟩
  dsimp only at hn ho ⊢
  have hol : out.length = n := by rw [ho, List.length_take]; omega
  have hol2 := profsE_length out
  by_cases hn' : n < r.profs.length
  ·have hp := h.profs n hn'
   have hpl2 := hp.len
   have hnx := take_snoc hn'
   rw [← ho] at hnx
   cases out with
   | nil =>
    repeat' (first|refine zst ?_|(refine zhm fun hb=>?_;try exact zab)|refine zdr ?_|(apply zch;exact zcg)|refine HopS.mk fun w0 Z O=>?_|exact zhk|refine zg3 ?_ ?_|refine zln fun _=>?_|refine zop ?_|(refine km [] (copyProf_e (l := nth r.profs n) (by omega)) rfl rfl (fun i hi => ?_);(try dsimp only at hi))|fail)
    refine ⟨(n + 1, [] ++ [nth r.profs n]), ⟨by omega, hnx.symm⟩, by omega, ?_⟩
    exact ⟨rfl, zae, zae, rfl⟩
   | cons p0 o0 =>
    repeat' (first|refine zst ?_|(refine zhm fun hb=>?_;try exact zab)|refine zdr ?_|(apply zch;exact zcg)|refine HopS.mk fun w0 Z O=>?_|exact zhk|refine zg3 ?_ ?_|refine zln fun _=>?_|refine zop ?_|(refine km [] (copyProf_e (l := nth r.profs n) (by omega)) rfl rfl (fun i hi => ?_);(try dsimp only at hi))|fail)
    refine ⟨(n + 1, (p0 :: o0) ++ [nth r.profs n]), ⟨by omega, hnx.symm⟩, by omega, ?_⟩
    refine ⟨rfl, ?_, ?_, rfl⟩
    repeat'(first|apply And.intro|exact ze0|refine ze1 ?_|refine zei ?_ ?_|exact rfl|trivial)
    all_goals exact Stop.mk (by first | rfl | exact profsE_push (p0 :: o0) _)
  ·have hall : out = r.profs := by rw [ho, List.take_of_length_le (by omega)]
   cases out with
   | nil => rw [← hall] at h0; cases h0
   | cons p0 o0 =>
    repeat' (first|refine zsr ?_|(refine zhm fun hb=>?_;try exact zab)|refine zdr ?_|(apply zch;exact zcg)|refine HopS.mk fun w0 Z O=>?_|exact zhk|refine zg3 ?_ ?_|refine zln fun _=>?_|refine zop ?_|fail)
    show AWp _ _ _ _
    refine awp_dena ?_
    apply awp_ret'
    refine zm () [28] trivial ?_ ?_ ?_
    repeat'(first|apply And.intro|exact ze0|refine ze1 ?_|refine zei ?_ ?_|exact rfl|trivial)
    all_goals exact Stop.mk (by first | rfl | rw [hall])
theorem l04Copy_s {r : Room} (h : RoomOk r) (h0 : 0 < r.profs.length) : MCalls Tryz.prog 232 [roomA r] [] (fun _ : Unit => True) (fun _ => [.agg [.d (.sl (intE r.topo.parents)), .d (.sl (nodeE r.topo.nodes)), .d (.sl (boolE r.up)), .row 0, .d (.sl (ptE r.lics))]]) (fun _ => []) (fun _ => [(0, .row 150 (profsE r.profs) false)]) := by
 refine mcalls_of tt Tryz.func232 rfl rfl rfl trivial (fun _ _ => ⟨trivial, trivial⟩) (fun w0 Z O => ?_)
 have hs := h.small
 have hbl := boolE_length r.up
 have hnl := nodeE_length r.topo.nodes
 have hpl := profsE_length r.profs
 have hil := intE_length r.topo.parents
 repeat' (first|(refine awp_frzr 3 6 rfl ?_)|(refine awp_frzr 3 14 rfl ?_)|(refine awp_frzr 3 19 rfl ?_)|refine zst ?_|(refine zhm fun hb=>?_;try exact zab)|refine zdr ?_|(apply zch;exact zcg)|refine HopS.mk fun w0 Z O=>?_|exact zhk|refine zg3 ?_ ?_|refine zln fun _=>?_|refine zop ?_|(refine km [] (l04Prof_s (l := r.lics) (by omega)) rfl rfl (fun i hi => ?_);(try dsimp only at hi))|fail)
 refine awp_loop (fun (k : Nat × List (List Pt)) => ⟨42, [(2, .ptr 2 0), (3, .ptr 3 0), (27, .d (.sl (profsE r.profs))), (28, .d (.n .i64 (r.profs.length : Nat))), (29, .d (.n .i64 k.1))], [(2, .box 152 [.nil, .nil, .nil, .nil, .nil]), (3, .box 152 [.d (.sl (intE r.topo.parents)), .d (.sl (nodeE r.topo.nodes)), .d (.sl (boolE r.up)), slN 38 (profsE k.2), .d (.sl (ptE r.lics))])] ++ slO 38 150 (profsE k.2)⟩) (fun k => k.1 ≤ r.profs.length ∧ k.2 = r.profs.take k.1) (fun k => r.profs.length - k.1) (0, []) (by exact ⟨Nat.zero_le _, rfl⟩) ?_ ?_
 ·refine ⟨rfl, ?_, ?_, rfl⟩
  repeat'(first|apply And.intro|exact ze0|refine ze1 ?_|refine zei ?_ ?_|exact rfl|trivial)
  all_goals exact Stop.mk (by first | rfl | exact profsE_length _)
 ·rintro ⟨n, out⟩ ⟨hn, ho⟩
  dsimp only at hn ho ⊢
  have hol : out.length = n := by rw [ho, List.length_take]; omega
  have hol2 := profsE_length out
  by_cases hn' : n < r.profs.length
  ·have hp := h.profs n hn'
   have hpl2 := hp.len
   have hnx := take_snoc hn'
   rw [← ho] at hnx
   cases out with
   | nil =>
    repeat' (first|refine zst ?_|(refine zhm fun hb=>?_;try exact zab)|refine zdr ?_|(apply zch;exact zcg)|refine HopS.mk fun w0 Z O=>?_|exact zhk|refine zg3 ?_ ?_|refine zln fun _=>?_|refine zop ?_|(refine km [] (l04Prof_s (l := nth r.profs n) (by omega)) rfl rfl (fun i hi => ?_);(try dsimp only at hi))|fail)
    refine ⟨(n + 1, [] ++ [nth r.profs n]), ⟨by omega, hnx.symm⟩, by omega, ?_⟩
    exact ⟨rfl, zae, zae, rfl⟩
   | cons p0 o0 =>
    repeat' (first|refine zst ?_|(refine zhm fun hb=>?_;try exact zab)|refine zdr ?_|(apply zch;exact zcg)|refine HopS.mk fun w0 Z O=>?_|exact zhk|refine zg3 ?_ ?_|refine zln fun _=>?_|refine zop ?_|(refine km [] (l04Prof_s (l := nth r.profs n) (by omega)) rfl rfl (fun i hi => ?_);(try dsimp only at hi))|fail)
    refine ⟨(n + 1, (p0 :: o0) ++ [nth r.profs n]), ⟨by omega, hnx.symm⟩, by omega, ?_⟩
    refine ⟨rfl, ?_, ?_, rfl⟩
    repeat'(first|apply And.intro|exact ze0|refine ze1 ?_|refine zei ?_ ?_|exact rfl|trivial)
    all_goals exact Stop.mk (by first | rfl | exact profsE_push (p0 :: o0) _)
  ·have hall : out = r.profs := by rw [ho, List.take_of_length_le (by omega)]
   cases out with
   | nil => rw [← hall] at h0; cases h0
   | cons p0 o0 =>
    repeat' (first|refine zsr ?_|(refine zhm fun hb=>?_;try exact zab)|refine zdr ?_|(apply zch;exact zcg)|refine HopS.mk fun w0 Z O=>?_|exact zhk|refine zg3 ?_ ?_|refine zln fun _=>?_|refine zop ?_|fail)
    show AWp _ _ _ _
    refine awp_dena ?_
    apply awp_ret'
    refine zm () [38] trivial ?_ ?_ ?_
    repeat'(first|apply And.intro|exact ze0|refine ze1 ?_|refine zei ?_ ?_|exact rfl|trivial)
    all_goals exact Stop.mk (by first | rfl | rw [hall])
end Go.Proofs.YtliopiphobopjaaGreat
