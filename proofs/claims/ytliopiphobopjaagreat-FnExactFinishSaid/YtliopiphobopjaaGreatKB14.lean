/-
  Placement: when a job can start; of the reference.
-/
import Derived.Test.YtliopiphobopjaaGreatKShL
import Derived.Test.YtliopiphobopjaaGreatKB13
import Derived.Test.YtliopiphobopjaaGreatKGaR
import Derived.Test.YtliopiphobopjaaGreatKB12
set_option maxRecDepth 100000
set_option maxHeartbeats 16000000
namespace Go.Proofs.YtliopiphobopjaaGreat
open Go Go.RowKit
attribute [local irreducible] AWp OpsOk OpOk ACalls ChA QsOk MCalls EnC PY

theorem l04Can_s {r : Room} {j : Job} {t : Int} (h : RoomOk r) (hj : jobOkB j = true) (ht : 0 ≤ t ∧ t ≤ 1000000000) : DC Tryz.prog 237 [roomA r, jobA j, .d (.n .i64 t)] (optI (canO r j t)) := by
 refine mcalls_of tt Tryz.func237 rfl rfl rfl trivial (fun _ _ => ⟨trivial, trivial⟩) (fun w0 Z O => ?_)
 have hs := h.small
 obtain ⟨j1, j2⟩ := jobOk_in hj
 have hln := h.lics.len
 have c1 := profMin_s (l := r.lics) (a := t) (b := t + j.wall) (by omega)
 rw [profOkB_t.2 h.lics, Bool.true_and] at c1
 have c2 := vecFits_s (a := j.lic) (b := leastS r.lics t (t + j.wall))
 by_cases hw : t + j.wall ≤ 1000000000
 ·have hsp : spanB t (t + j.wall) = true := spanB_iff.2 ⟨by omega, by omega, by omega⟩
  rw [hsp] at c1
  cases hf : fitsB j.lic (leastS r.lics t (t + j.wall)) with
  | false =>
   rw [hf] at c2
   rw [show canO r j t = none from if_neg (fun e => by rw [hf] at e; cases e.2)]
   repeat' (first|refine zsr ?_|(refine zhm fun hb=>?_;try exact zab)|refine zdr ?_|(apply zch;exact zcg)|refine HopS.mk fun w0 Z O=>?_|exact zhk|refine zg3 ?_ ?_|refine zon ?_|refine kc (c1) rfl rfl ?_|refine kc (c2) rfl rfl ?_|refine kq (c1) rfl rfl ?_|refine kq (c2) rfl rfl ?_|fail)
   show AWp _ _ _ _
   refine awp_dena ?_
   apply awp_ret'
   exact zm () [] trivial zae zae zae
  | true =>
   rw [hf] at c2
   rw [show canO r j t = chooseO r.topo (eligL r j.need t (t + j.wall)) j.nodes j.level from if_pos ⟨hw, hf⟩]
   have hel := eligL_len (r := r) (need := j.need) (a := t) (b := t + j.wall)
   have c3 := eligible_s (need := j.need) h hsp
   have c4 := choose_s (most := j.level) h.topo (eligL_in h (need := j.need) (a := t) (b := t + j.wall)) eligL_asc j1.1 (by omega)
   repeat' (first|refine zsr ?_|(refine zhm fun hb=>?_;try exact zab)|(apply awp_drawm2 4;kernel_rfl;exact rfl)|refine zdr ?_|(apply zch;exact zcg)|refine HopS.mk fun w0 Z O=>?_|exact zhk|refine zg3 ?_ ?_|refine zon ?_|refine kc (c1) rfl rfl ?_|refine kc (c2) rfl rfl ?_|(refine km [] (c3) rfl rfl (fun i hi => ?_);(try dsimp only at hi))|(refine km [] (c4) rfl rfl (fun i hi => ?_);(try dsimp only at hi))|refine kq (c1) rfl rfl ?_|refine kq (c2) rfl rfl ?_|fail)
   show AWp _ _ _ _
   refine awp_dena ?_
   apply awp_ret'
   exact zm () [] trivial zae zae zae
 ·rw [show canO r j t = none from if_neg (fun e => hw e.1)]
  have hsp : spanB t (t + j.wall) = false := by
   cases e : spanB t (t + j.wall) with
   | false => rfl
   | true => have := spanB_iff.1 e; omega
  rw [hsp] at c1
  repeat' (first|refine zsr ?_|(refine zhm fun hb=>?_;try exact zab)|refine zdr ?_|(apply zch;exact zcg)|refine HopS.mk fun w0 Z O=>?_|exact zhk|refine zg3 ?_ ?_|refine zon ?_|refine kc (c1) rfl rfl ?_|refine kq (c1) rfl rfl ?_|fail)
  show AWp _ _ _ _
  refine awp_dena ?_
  apply awp_ret'
  exact zm () [] trivial zae zae zae
theorem earliest_s {r : Room} {j : Job} {a : Int} (h : RoomOk r) (hj : jobOkB j = true) (ha : 0 ≤ a ∧ a ≤ 1000000000) : DC Tryz.prog 194 [roomA r, jobA j, .d (.n .i64 a)] (earA (earO r j a)) := by
 refine mcalls_of tt Tryz.func194 rfl rfl rfl trivial (fun _ _ => ⟨trivial, trivial⟩) (fun w0 Z O => ?_)
 have c0 := roomOk_s h
 have c1 := jobOk_s (j := j)
 rw [hj] at c1
 have c2 := time_s (x := a)
 rw [show inB a 0 1000000000 = true from inB_t.mpr ha] at c2
 have htl := timR_len h a
 have hti := timR_in h ha
 have c3 := l04Times_s (a := a) h
 unfold earO
 generalize timR r a = ts at *
 have hle := intE_length ts
 repeat' (first|refine zst ?_|(refine zhm fun hb=>?_;try exact zab)|refine zg2 ?_ ?_|refine zln fun _=>?_|refine zop ?_|refine kc (c0) rfl rfl ?_|refine kc (c1) rfl rfl ?_|refine kc (c2) rfl rfl ?_|(refine km [] (c3) rfl rfl (fun i hi => ?_);(try dsimp only at hi))|fail)
 refine awp_loop (fun (i : Nat) => ⟨45, [(3, .ptr 3 0), (4, .ptr 4 0), (28, .d (.sl (intE ts))), (29, .d (.n .i64 (ts.length : Nat))), (30, .d (.n .i64 i))], [(3, .box 152 (roomC r)), (4, .box 94 ((jobD j).map AV.d))]⟩) (fun i => i ≤ ts.length ∧ earGo r j (ts.drop i) = earGo r j ts) (fun i => ts.length - i) 0 (by exact ⟨Nat.zero_le _, rfl⟩) ?_ ?_
 ·refine ⟨rfl, ?_, ?_, rfl⟩
  repeat'(first|apply And.intro|exact ze0|refine ze1 ?_|refine zei ?_ ?_|exact rfl|trivial)
  all_goals exact Stop.mk (by first | rfl | exact hle)
 rintro k ⟨hk, hg⟩
 by_cases hk' : k < ts.length
 ·have htm := hti _ (nth_mem hk')
  rw [drop_cons hk', earGo] at hg
  have c4 := l04Can_s (t := nth ts k) h hj (by omega)
  cases hc : canO r j (nth ts k) with
  | none =>
   rw [hc] at hg c4
   dsimp only at hg
   repeat' (first|refine zst ?_|(refine zhm fun hb=>?_;try exact zab)|refine zg2 ?_ ?_|refine zln fun _=>?_|refine zop ?_|(refine km [] (c4) rfl rfl (fun i hi => ?_);(try dsimp only at hi))|fail)
   refine ⟨k + 1, ⟨by omega, hg⟩, by omega, ?_⟩
   exact ⟨rfl, zae, zae, rfl⟩
  | some l =>
   rw [hc] at hg c4
   dsimp only at hg
   rw [← hg]
   repeat' (first|refine zsr ?_|(refine zhm fun hb=>?_;try exact zab)|refine zg2 ?_ ?_|refine zln fun _=>?_|refine zop ?_|(refine km [] (c4) rfl rfl (fun i hi => ?_);(try dsimp only at hi))|fail)
   show AWp _ _ _ _
   refine awp_dena ?_
   apply awp_ret'
   exact zm () [] trivial zae zae zae
 ·rw [List.drop_eq_nil_of_le (by omega), earGo] at hg
  rw [← hg]
  repeat' (first|refine zsr ?_|(refine zhm fun hb=>?_;try exact zab)|refine zg2 ?_ ?_|refine zln fun _=>?_|refine zop ?_|fail)
  show AWp _ _ _ _
  refine awp_dena ?_
  apply awp_ret'
  exact zm () [] trivial zae zae zae
end Go.Proofs.YtliopiphobopjaaGreat
namespace Go.Proofs.YtliopiphobopjaaGreat
open Go Go.RowKit
attribute [local irreducible] AWp OpsOk OpOk ACalls ChA QsOk MCalls EnC PY

/-! ### The program's times -/
def tnP (a : Int) (out : List Int) (p : List Pt) : List Int := p.foldl (fun o x => if a < x.at' then o ++ [x.at'] else o) out
def tnL (a : Int) (ps : List (List Pt)) : List Int := ps.foldl (tnP a) [a]
theorem tnP_step {a : Int} {out : List Int} {p : List Pt} {i : Nat} (h : i < p.length) : tnP a out (p.take (i + 1)) = if a < (nth p i).at' then tnP a out (p.take i) ++ [(nth p i).at'] else tnP a out (p.take i) := by
 rw [take_snoc h, tnP, List.foldl_append]
 rfl
theorem tnL_step {a : Int} {ps : List (List Pt)} {i : Nat} (h : i < ps.length) : tnL a (ps.take (i + 1)) = tnP a (tnL a (ps.take i)) (nth ps i) := by
 rw [take_snoc h, tnL, List.foldl_append]
 rfl
theorem tnP_len {a : Int} : ∀ (p : List Pt) (out : List Int), (tnP a out p).length ≤ out.length + p.length
 | [], out => Nat.le_refl _
 | x :: p, out => by
  have h := tnP_len (a := a) p (if a < x.at' then out ++ [x.at'] else out)
  have h2 : (if a < x.at' then out ++ [x.at'] else out).length ≤ out.length + 1 := by
   split
   ·simp
   ·omega
  show (tnP a (if a < x.at' then out ++ [x.at'] else out) p).length ≤ _
  rw [List.length_cons]
  omega
theorem tnL_len {a : Int} {ps : List (List Pt)} (h : ∀ p ∈ ps, p.length ≤ 200) : ∀ (i : Nat), i ≤ ps.length → (tnL a (ps.take i)).length ≤ 1 + 200 * i
 | 0, _ => by simp [tnL]
 | i + 1, hi => by
  have h1 := tnL_len (a := a) h i (by omega)
  have h2 := h _ (nth_mem (show i < ps.length by omega))
  rw [tnL_step (by omega)]
  have := tnP_len (a := a) (nth ps i) (tnL a (ps.take i))
  omega
theorem tnP_mem {a y : Int} : ∀ {p : List Pt} {out : List Int}, y ∈ tnP a out p ↔ y ∈ out ∨ ∃ x ∈ p, a < x.at' ∧ y = x.at'
 | [], out => by simp [tnP]
 | x :: p, out => by
  rw [show tnP a out (x :: p) = tnP a (if a < x.at' then out ++ [x.at'] else out) p from rfl, tnP_mem]
  have h2 : y ∈ (if a < x.at' then out ++ [x.at'] else out) ↔ y ∈ out ∨ a < x.at' ∧ y = x.at' := by
   split
   ·rename_i h; simp [h]
   ·rename_i h; simp [h]
  rw [h2]
  constructor
  ·rintro ((h | h) | ⟨z, hz, h⟩)
   ·exact .inl h
   ·exact .inr ⟨x, List.mem_cons_self, h⟩
   ·exact .inr ⟨z, List.mem_cons_of_mem _ hz, h⟩
  ·rintro (h | ⟨z, hz, h⟩)
   ·exact .inl (.inl h)
   ·rcases List.mem_cons.1 hz with rfl | hz
    ·exact .inl (.inr h)
    ·exact .inr ⟨z, hz, h⟩
theorem tnF_mem {a y : Int} : ∀ {ps : List (List Pt)} {out : List Int}, y ∈ ps.foldl (tnP a) out ↔ y ∈ out ∨ ∃ p ∈ ps, ∃ x ∈ p, a < x.at' ∧ y = x.at'
 | [], out => by simp
 | p :: ps, out => by
  rw [List.foldl_cons, tnF_mem, tnP_mem]
  constructor
  ·rintro ((h | h) | ⟨z, hz, h⟩)
   ·exact .inl h
   ·exact .inr ⟨p, List.mem_cons_self, h⟩
   ·exact .inr ⟨z, List.mem_cons_of_mem _ hz, h⟩
  ·rintro (h | ⟨z, hz, h⟩)
   ·exact .inl (.inl h)
   ·rcases List.mem_cons.1 hz with rfl | hz
    ·exact .inl (.inr h)
    ·exact .inr ⟨z, hz, h⟩
theorem tn_timR (r : Room) (a : Int) : cmpL (srtI (tnL a ([r.lics] ++ r.profs))) = timR r a := by
 obtain ⟨h1, h2⟩ := timR_ris r a
 obtain ⟨h3, h4⟩ := cmpL_ris (srtI_pw (tnL a ([r.lics] ++ r.profs)))
 refine ris_unique h3 h1 fun y => ?_
 rw [h4, srtI_mem, h2, show tnL a ([r.lics] ++ r.profs) = ([r.lics] ++ r.profs).foldl (tnP a) [a] from rfl, tnF_mem, List.mem_singleton]
 refine or_congr_right ⟨?_, ?_⟩
 ·rintro ⟨p, hp, h⟩
  exact ⟨p, by rcases List.mem_append.1 hp with hp | hp <;> simp_all, h⟩
 ·rintro ⟨p, hp, h⟩
  exact ⟨p, by rcases List.mem_append.1 hp with hp | hp <;> simp_all, h⟩
theorem earGo_none {r : Room} {j : Job} : ∀ {ts : List Int}, (∀ t ∈ ts, canO r j t = none) → earGo r j ts = none
 | [], _ => rfl
 | t :: ts, h => by
  rw [earGo, h t List.mem_cons_self]
  exact earGo_none fun t ht => h t (List.mem_cons_of_mem _ ht)
theorem drop_ge {ts : List Int} (h : risI ts) {k : Nat} (hk : k < ts.length) : ∀ t ∈ ts.drop k, nth ts k ≤ t := fun t ht => by
 obtain ⟨i, hi, rfl⟩ := List.getElem_of_mem ht
 rw [List.getElem_drop, nth_eq hk]
 rw [List.length_drop] at hi
 by_cases e : i = 0
 ·subst e; simp
 ·have := List.pairwise_iff_getElem.1 h k (k + i) hk (by omega) (by omega)
  omega
theorem profsE_cons (l : List (List Pt)) (p : List Pt) : [[.sl (ptE p)]] ++ profsE l = profsE ([p] ++ l) := by simp [profsE]
@[reducible] def earR (o : Option (Int × List Int)) : List AV := match o with
 | none => [.d (.n .i64 0), .d (.sl []), .d (.b false)]
 | some x => [.d (.n .i64 x.1), .row 0, .d (.b true)]
@[reducible] def earB (o : Option (Int × List Int)) : List (Nat × AO) := match o with
 | none => []
 | some x => [(0, .row 3 (intE x.2) true)]
theorem earliest_r {r : Room} {j : Job} {a : Int} (h : RoomOk r) (hj : jobOkB j = true) (ha : 0 ≤ a ∧ a ≤ 1000000000) : MCalls Tryz.prog 143 [roomA r, jobA j, .d (.n .i64 a)] [] (fun _ : Unit => True) (fun _ => earR (earO r j a)) (fun _ => []) (fun _ => earB (earO r j a)) := by
 refine mcalls_of tt Tryz.func143 rfl rfl rfl trivial (fun _ _ => ⟨trivial, trivial⟩) (fun w0 Z O => ?_)
 have hs := h.small
 obtain ⟨j1, j2⟩ := jobOk_in hj
 have c0 := roomOk_e h
 have c1 := jobOk_e (j := j)
 rw [hj] at c1
 have c2 := isTime_c2 (x := a)
 rw [show inB a 0 1000000000 = true from inB_t.mpr ha] at c2
 have hpl := profsE_length r.profs
 have hpl2 := profsE_length ([r.lics] ++ r.profs)
 have hal : ([r.lics] ++ r.profs).length = r.profs.length + 1 := by simp
 have hpr : ∀ p ∈ [r.lics] ++ r.profs, ProfOk p := fun p hp => h.parts p (by rcases List.mem_append.1 hp with hp | hp <;> simp_all)
 have htr := tn_timR r a
 have htl0 := timR_len h a
 have hti := timR_in h ha
 have htris := (timR_ris r a).1
 unfold earO
 generalize timR r a = ts at *
 have hle := intE_length ts
 repeat' (first|refine zst ?_|(refine zhm fun hb=>?_;try exact zab)|refine zdr ?_|(apply zch;exact zcg)|refine HopS.mk fun w0 Z O=>?_|exact zhk|refine zg3 ?_ ?_|refine zln fun _=>?_|refine zop ?_|refine kc (c0) rfl rfl ?_|refine kc (c1) rfl rfl ?_|refine kc (c2) rfl rfl ?_|refine kq (c0) rfl rfl ?_|refine kq (c1) rfl rfl ?_|refine kq (c2) rfl rfl ?_|fail)
 refine awp_frz 35 rfl ?_
 generalize hps : [r.lics] ++ r.profs = ps at *
 refine awp_loop (fun (i : Nat) => ⟨111, [(2, .d (.n .i64 a)), (3, .ptr 3 0), (4, .ptr 4 0), (9, .row 32), (38, .d (.sl (profsE ps))), (39, .d (.n .i64 (ps.length : Nat))), (40, .d (.n .i64 i))], [(3, .box 152 (roomC r)), (4, .box 94 ((jobD j).map AV.d)), (32, .row 3 (intE (tnL a (ps.take i))) true)]⟩) (fun i => i ≤ ps.length) (fun i => ps.length - i) 0 (by exact Nat.zero_le _) ?_ ?_
 ·refine ⟨rfl, ?_, ?_, rfl⟩
  repeat'(first|apply And.intro|exact ze0|refine ze1 ?_|refine zei ?_ ?_|exact rfl|trivial)
  all_goals exact Stop.mk (by first | rfl | (rw [profsE_cons, hps, hpl2]) | (rw [profsE_cons, hps]))
 intro q hq
 have htl := tnL_len (a := a) (fun p hp => (hpr p hp).len.2) q hq
 by_cases hq' : q < ps.length
 ·have hst := tnL_step (a := a) hq'
  have hp := hpr _ (nth_mem hq')
  have hpn := hp.len
  generalize hpe : nth ps q = p at hst hp hpn
  have hpl3 := ptE_length p
  generalize tnL a (ps.take q) = o at hst htl ⊢
  repeat' (first|refine zst ?_|(refine zhm fun hb=>?_;try exact zab)|refine zdr ?_|(apply zch;exact zcg)|refine HopS.mk fun w0 Z O=>?_|exact zhk|refine zg3 ?_ ?_|refine zln fun _=>?_|refine zop ?_|fail)
  refine awp_loop (fun (k : Nat) => ⟨111, [(2, .d (.n .i64 a)), (3, .ptr 3 0), (4, .ptr 4 0), (9, .row 32), (38, .d (.sl (profsE ps))), (39, .d (.n .i64 (ps.length : Nat))), (40, .d (.n .i64 q)), (45, .d (.sl (ptE p))), (46, .d (.n .i64 (p.length : Nat))), (47, .d (.n .i64 k))], [(3, .box 152 (roomC r)), (4, .box 94 ((jobD j).map AV.d)), (32, .row 3 (intE (tnP a o (p.take k))) true)]⟩) (fun k => k ≤ p.length) (fun k => p.length - k) 0 (by exact Nat.zero_le _) ?_ ?_
  ·refine ⟨rfl, ?_, ?_, rfl⟩
   repeat'(first|apply And.intro|exact ze0|refine ze1 ?_|refine zei ?_ ?_|exact rfl|trivial)
   all_goals exact Stop.mk (by first | rfl | exact hpl3 | rw [← hpe] | (rw [hpe]; exact hpl3))
  intro k hk
  have htp := tnP_len (a := a) (p.take k) o
  rw [List.length_take] at htp
  by_cases hk' : k < p.length
  ·have hst2 := tnP_step (a := a) (out := o) hk'
   generalize tnP a o (p.take k) = u at hst2 htp ⊢
   repeat' (first|refine zst ?_|(refine zhm fun hb=>?_;try exact zab)|refine zdr ?_|(apply zch;exact zcg)|refine HopS.mk fun w0 Z O=>?_|exact zhk|refine zg3 ?_ ?_|refine zln fun _=>?_|refine zop ?_|fail)
   ·rw [if_pos (by assumption)] at hst2
    refine ⟨k + 1, by omega, by omega, ?_⟩
    refine ⟨rfl, ?_, ?_, rfl⟩
    repeat'(first|apply And.intro|exact ze0|refine ze1 ?_|refine zei ?_ ?_|exact rfl|trivial)
    all_goals exact Stop.mk (by first | rfl | (rw [hst2]; exact intE_push _ _))
   ·rw [if_neg (by assumption)] at hst2
    refine ⟨k + 1, by omega, by omega, ?_⟩
    refine ⟨rfl, ?_, ?_, rfl⟩
    repeat'(first|apply And.intro|exact ze0|refine ze1 ?_|refine zei ?_ ?_|exact rfl|trivial)
    all_goals exact Stop.mk (by first | rfl | rw [hst2])
  ·obtain rfl : k = p.length := by omega
   rw [List.take_length] at *
   repeat' (first|refine zst ?_|(refine zhm fun hb=>?_;try exact zab)|refine zdr ?_|(apply zch;exact zcg)|refine HopS.mk fun w0 Z O=>?_|exact zhk|refine zg3 ?_ ?_|refine zln fun _=>?_|refine zop ?_|fail)
   refine ⟨q + 1, by omega, by omega, ?_⟩
   refine ⟨rfl, ?_, ?_, rfl⟩
   repeat'(first|apply And.intro|exact ze0|refine ze1 ?_|refine zei ?_ ?_|exact rfl|trivial)
   all_goals exact Stop.mk (by first | rfl | rw [hst])
 obtain rfl : q = ps.length := by omega
 rw [List.take_length] at *
 have hsl : (tnL a ps).length ≤ 1000000000 := by omega
 have hsl2 : (srtI (tnL a ps)).length ≤ 1000000000 := by rw [srtI_length]; exact hsl
 repeat' (first|refine zst ?_|(refine zhm fun hb=>?_;try exact zab)|refine zdr ?_|(apply zch;exact zcg)|refine HopS.mk fun w0 Z O=>?_|exact zhk|refine zg3 ?_ ?_|refine zln fun _=>?_|refine zop ?_|(refine km [32] (sort_m (d := true) hsl) rfl rfl (fun i hi => ?_);(try dsimp only at hi))|(refine km [32] (compact_m hsl2) rfl rfl (fun i hi => ?_);(try dsimp only at hi))|fail)
 refine awp_frz 32 rfl ?_
 rw [htr]
 refine awp_loop (fun (k : Nat) => ⟨111, [(3, .ptr 3 0), (4, .ptr 4 0), (65, .d (.sl (intE ts))), (66, .d (.n .i64 (ts.length : Nat))), (67, .d (.n .i64 k))], [(3, .box 152 (roomC r)), (4, .box 94 ((jobD j).map AV.d))]⟩) (fun k => k ≤ ts.length ∧ earGo r j (ts.drop k) = earGo r j ts) (fun k => ts.length - k) 0 (by exact ⟨Nat.zero_le _, rfl⟩) ?_ ?_
 ·refine ⟨rfl, ?_, ?_, rfl⟩
  repeat'(first|apply And.intro|exact ze0|refine ze1 ?_|refine zei ?_ ?_|exact rfl|trivial)
  all_goals first | exact Stop.mk rfl | exact Stop.mk (by have e := sub_times (srtI (tnL a ps)); rw [htr] at e; exact e)
 rintro k ⟨hk, hg⟩
 by_cases hk' : k < ts.length
 ·have htm := hti _ (nth_mem hk')
  have hge := drop_ge htris hk'
  rw [drop_cons hk', earGo] at hg
  by_cases hw : nth ts k + j.wall ≤ 1000000000
  ·have c3 := least_e (a := nth ts k) (b := nth ts k + j.wall) h.lics
   have c4 := vecFits_e (a := j.lic) (b := leastS r.lics (nth ts k) (nth ts k + j.wall))
   cases hf : fitsB j.lic (leastS r.lics (nth ts k) (nth ts k + j.wall)) with
   | false =>
    rw [hf] at c4
    rw [show canO r j (nth ts k) = none from if_neg (fun e => by rw [hf] at e; cases e.2)] at hg
    dsimp only at hg
    repeat' (first|refine zst ?_|(refine zhm fun hb=>?_;try exact zab)|refine zdr ?_|(apply zch;exact zcg)|refine HopS.mk fun w0 Z O=>?_|exact zhk|refine zg3 ?_ ?_|refine zln fun _=>?_|refine zon ?_|refine kc (c3) rfl rfl ?_|refine kc (c4) rfl rfl ?_|refine kq (c3) rfl rfl ?_|refine kq (c4) rfl rfl ?_|fail)
    refine ⟨k + 1, ⟨by omega, hg⟩, by omega, ?_⟩
    exact ⟨rfl, zae, zae, rfl⟩
   | true =>
    rw [hf] at c4
    rw [show canO r j (nth ts k) = chooseO r.topo (eligL r j.need (nth ts k) (nth ts k + j.wall)) j.nodes j.level from if_pos ⟨hw, hf⟩] at hg
    have hel := eligL_len (r := r) (need := j.need) (a := nth ts k) (b := nth ts k + j.wall)
    have c5 := eligible_e (need := j.need) (a := nth ts k) (b := nth ts k + j.wall) h
    have c6 := choose_c (most := j.level) h.topo (eligL_in h (need := j.need) (a := nth ts k) (b := nth ts k + j.wall)) j1.1 (by omega)
    cases hc : chooseO r.topo (eligL r j.need (nth ts k) (nth ts k + j.wall)) j.nodes j.level with
    | none =>
     rw [hc] at hg c6
     dsimp only at hg
     repeat' (first|refine zst ?_|(refine zhm fun hb=>?_;try exact zab)|(apply awp_drawm2 20;kernel_rfl;exact rfl)|refine zdr ?_|(apply zch;exact zcg)|refine HopS.mk fun w0 Z O=>?_|exact zhk|refine zg3 ?_ ?_|refine zln fun _=>?_|refine zon ?_|refine kc (c3) rfl rfl ?_|refine kc (c4) rfl rfl ?_|(refine km [] (c5) rfl rfl (fun i hi => ?_);(try dsimp only at hi))|(refine km [] (c6) rfl rfl (fun i hi => ?_);(try dsimp only at hi))|refine kq (c3) rfl rfl ?_|refine kq (c4) rfl rfl ?_|fail)
     refine ⟨k + 1, ⟨by omega, hg⟩, by omega, ?_⟩
     exact ⟨rfl, zae, zae, rfl⟩
    | some l =>
     rw [hc] at hg c6
     dsimp only at hg
     rw [← hg]
     repeat' (first|refine zsr ?_|(refine zhm fun hb=>?_;try exact zab)|(apply awp_drawm2 20;kernel_rfl;exact rfl)|refine zdr ?_|(apply zch;exact zcg)|refine HopS.mk fun w0 Z O=>?_|exact zhk|refine zg3 ?_ ?_|refine zln fun _=>?_|refine zon ?_|refine kc (c3) rfl rfl ?_|refine kc (c4) rfl rfl ?_|(refine km [] (c5) rfl rfl (fun i hi => ?_);(try dsimp only at hi))|(refine km [] (c6) rfl rfl (fun i hi => ?_);(try dsimp only at hi))|refine kq (c3) rfl rfl ?_|refine kq (c4) rfl rfl ?_|fail)
     show AWp _ _ _ _
     refine awp_dena ?_
     apply awp_ret'
     exact zm () [104] trivial zae zae zae
  ·have hno : canO r j (nth ts k) = none := if_neg (fun e => hw e.1)
   rw [hno] at hg
   dsimp only at hg
   rw [earGo_none (fun t ht => if_neg (fun e => by have := hge t (by rw [drop_cons hk']; exact List.mem_cons_of_mem _ ht); omega))] at hg
   rw [← hg]
   repeat' (first|refine zsr ?_|(refine zhm fun hb=>?_;try exact zab)|refine zdr ?_|(apply zch;exact zcg)|refine HopS.mk fun w0 Z O=>?_|exact zhk|refine zg3 ?_ ?_|refine zln fun _=>?_|refine zon ?_|fail)
   show AWp _ _ _ _
   refine awp_dena ?_
   apply awp_ret'
   exact zm () [] trivial zae zae zae
 ·rw [List.drop_eq_nil_of_le (by omega), earGo] at hg
  rw [← hg]
  repeat' (first|refine zsr ?_|(refine zhm fun hb=>?_;try exact zab)|refine zdr ?_|(apply zch;exact zcg)|refine HopS.mk fun w0 Z O=>?_|exact zhk|refine zg3 ?_ ?_|refine zln fun _=>?_|refine zop ?_|fail)
  show AWp _ _ _ _
  refine awp_dena ?_
  apply awp_ret'
  exact zm () [] trivial zae zae zae
theorem earGo_some {r : Room} {j : Job} : ∀ {ts : List Int} {x : Int × List Int}, earGo r j ts = some x → x.1 ∈ ts ∧ canO r j x.1 = some x.2
 | [], x, h => by cases h
 | t :: ts, x, h => by
  unfold earGo at h
  split at h
  ·rename_i l hl
   injection h with h
   subst h
   exact ⟨List.mem_cons_self, hl⟩
  ·obtain ⟨h1, h2⟩ := earGo_some h
   exact ⟨List.mem_cons_of_mem _ h1, h2⟩
theorem earO_some {r : Room} {j : Job} {a : Int} {x : Int × List Int} (h : RoomOk r) (hj : jobOkB j = true) (ha : 0 ≤ a ∧ a ≤ 1000000000) (he : earO r j a = some x) : (a ≤ x.1 ∧ x.1 ≤ 1000000000) ∧ x.2.length ≤ 24 := by
 obtain ⟨h1, h2⟩ := earGo_some he
 refine ⟨timR_in h ha _ h1, ?_⟩
 unfold canO at h2
 split at h2
 ·obtain ⟨j1, _⟩ := jobOk_in hj
  have := choose_len h.topo (eligL_in h) j1.1 h2
  omega
 ·cases h2
end Go.Proofs.YtliopiphobopjaaGreat
