/-
  A change of a profile is a profile; taking.
-/
import Derived.Test.YtliopiphobopjaaGreatKGaH
set_option maxRecDepth 100000
set_option maxHeartbeats 16000000
namespace Go.Proofs.YtliopiphobopjaaGreat
open Go Go.RowKit

theorem freeP_ok {l : List Pt} (h : ProfOk l) (t : Int) : vecOkB (freeP l t) = true := by
 have key : ∀ n, n ≤ l.length → vecOkB (freeP (l.take n) t) = true := by
  intro n
  induction n with
  | zero => intro _; rfl
  | succ n ih =>
   intro hn
   rw [freeP_step (by omega)]
   split
   ·exact (h.pts n (by omega)).2
   ·exact ih (by omega)
 have := key l.length (Nat.le_refl _)
 rwa [List.take_length] at this
structure OutOk (out : List Pt) (ts : List Int) : Prop where
 pts : ∀ j, j < out.length → (0 ≤ (nth out j).at' ∧ (nth out j).at' ≤ 1000000000) ∧ vecOkB (nth out j).free = true
 steps : ∀ j, j + 1 < out.length → (nth out j).at' < (nth out (j + 1)).at' ∧ (nth out j).free ≠ (nth out (j + 1)).free
 last : ∀ t ∈ ts, 0 < out.length → (nth out (out.length - 1)).at' < t
theorem nth_append_left {α : Type} [Inhabited α] {l r : List α} {j : Nat} (h : j < l.length) : nth (l ++ r) j = nth l j := by
 simp [nth, List.getD, List.getElem?_append_left h]
theorem nth_append_one {α : Type} [Inhabited α] {l : List α} {x : α} : nth (l ++ [x]) l.length = x := by
 simp [nth, List.getD]
theorem out_push {out : List Pt} {t : Int} {ts : List Int} {v : V3} (h : OutOk out (t :: ts)) (hr : risI (t :: ts)) (ht : 0 ≤ t ∧ t ≤ 1000000000) (hv : vecOkB v = true) : OutOk (pushP out t v) ts := by
 unfold risI at hr
 rw [List.pairwise_cons] at hr
 unfold pushP
 split
 ·rename_i hc
  refine ⟨fun j hj => ?_, fun j hj => ?_, fun u hu _ => ?_⟩
  ·rw [List.length_append] at hj
   simp only [List.length_cons, List.length_nil] at hj
   by_cases e : j = out.length
   ·subst e; rw [nth_append_one]; exact ⟨ht, hv⟩
   ·rw [nth_append_left (by omega)]; exact h.pts j (by omega)
  ·rw [List.length_append] at hj
   simp only [List.length_cons, List.length_nil] at hj
   by_cases e : j + 1 = out.length
   ·rw [e, nth_append_one, nth_append_left (by omega)]
    have e2 : j = out.length - 1 := by omega
    rw [e2]
    refine ⟨h.last t List.mem_cons_self (by omega), ?_⟩
    rcases hc with rfl | hc
    ·simp at e
    ·exact hc
   ·rw [nth_append_left (by omega), nth_append_left (by omega)]; exact h.steps j (by omega)
  ·rw [List.length_append]
   simp only [List.length_cons, List.length_nil, Nat.zero_add, Nat.add_sub_cancel]
   rw [nth_append_one]
   exact hr.1 u hu
 ·exact ⟨h.pts, h.steps, fun u hu => h.last u (List.mem_cons_of_mem _ hu)⟩
theorem pushP_pre (out : List Pt) (t : Int) (v : V3) : ∃ s, pushP out t v = out ++ s := by
 unfold pushP
 split
 ·exact ⟨_, rfl⟩
 ·exact ⟨[], by simp⟩
theorem pushP_length (out : List Pt) (t : Int) (v : V3) : (pushP out t v).length ≤ out.length + 1 := by
 unfold pushP; split <;> simp
theorem chgGo_inv {l : List Pt} {a b : Int} {by' : V3 → Option V3} (hp : ProfOk l) (hby : ∀ v u, vecOkB v = true → by' v = some u → vecOkB u = true) : ∀ {ts : List Int} {out q : List Pt}, risI ts → (∀ t ∈ ts, 0 ≤ t ∧ t ≤ 1000000000) → OutOk out ts → chgGo l a b by' ts out = some q →
  OutOk q [] ∧ (∃ s, q = out ++ s) ∧ q.length ≤ out.length + ts.length
 | [], out, q, _, _, h, e => by
  injection e with e
  subst e
  exact ⟨h, ⟨[], by simp⟩, Nat.le_refl _⟩
 | t :: ts, out, q, hr, ht, h, e => by
  unfold chgGo at e
  split at e
  ·cases e
  ·rename_i v hv
   have hvo : vecOkB v = true := by
    unfold chgV at hv
    split at hv
    ·exact hby _ _ (freeP_ok hp t) hv
    ·injection hv with hv; rw [← hv]; exact freeP_ok hp t
   have hr' := hr
   unfold risI at hr'
   rw [List.pairwise_cons] at hr'
   obtain ⟨g1, ⟨s, g2⟩, g3⟩ := chgGo_inv hp hby hr'.2 (fun u hu => ht u (List.mem_cons_of_mem _ hu)) (out_push h hr (ht t List.mem_cons_self) hvo) e
   obtain ⟨s', g4⟩ := pushP_pre out t v
   refine ⟨g1, ⟨s' ++ s, by rw [g2, g4, List.append_assoc]⟩, ?_⟩
   have := pushP_length out t v
   rw [List.length_cons]
   omega
theorem times_in {l : List Pt} {a b : Int} (hp : ProfOk l) (hs : spanB a b = true) : (∀ t ∈ timesS l a b, 0 ≤ t ∧ t ≤ 1000000000) ∧ ∃ ts, timesS l a b = 0 :: ts := by
 obtain ⟨h1, h2, h3⟩ := spanB_iff.1 hs
 obtain ⟨r1, r2⟩ := times_ris hp a b
 have hin : ∀ t ∈ timesS l a b, 0 ≤ t ∧ t ≤ 1000000000 := by
  intro t ht
  rcases (r2 t).1 ht with rfl | rfl | ht
  ·exact h2
  ·exact h1
  ·obtain ⟨p, hp', rfl⟩ := List.mem_map.1 ht
   obtain ⟨j, hj, rfl⟩ := mem_nth hp'
   exact (hp.pts j hj).1
 refine ⟨hin, ?_⟩
 have h0 : (0 : Int) ∈ timesS l a b := (r2 0).2 (.inr (.inr (List.mem_map.2 ⟨nth l 0, nth_mem (by have := hp.len; omega), hp.zero⟩)))
 cases e : timesS l a b with
 | nil => rw [e] at h0; cases h0
 | cons t ts =>
  refine ⟨ts, ?_⟩
  rw [e] at h0 r1 hin
  unfold risI at r1
  rw [List.pairwise_cons] at r1
  rcases List.mem_cons.1 h0 with h0 | h0
  ·rw [← h0]
  ·have := r1.1 0 h0
   have := (hin t List.mem_cons_self).1
   omega
theorem insI_len {t : Int} : ∀ {l : List Int}, (insI t false l).length ≤ l.length + 1 ∧ (insI t true l).length ≤ l.length
 | [] => by simp [insI]
 | x :: l => by
  obtain ⟨h1, h2⟩ := insI_len (t := t) (l := l)
  simp only [insI, Bool.true_or, Bool.false_or]
  by_cases hx : t ≤ x <;> by_cases hy : x = t <;> simp [hx, hy] <;> omega
theorem times_len {l : List Pt} {a b : Int} : (timesS l a b).length ≤ l.length + 2 := by
 have h1 := (insI_len (t := a) (l := atsI l)).1
 have h2 := (insI_len (t := b) (l := insI a false (atsI l))).1
 have h3 : (atsI l).length = l.length := by simp [atsI]
 unfold timesS
 omega
theorem chg_len {l : List Pt} {a b : Int} {by' : V3 → Option V3} {q : List Pt} (hp : ProfOk l) (hs : spanB a b = true) (hby : ∀ v u, vecOkB v = true → by' v = some u → vecOkB u = true) (h : chgGo l a b by' (timesS l a b) [] = some q) : q.length ≤ 202 := by
 have := (chgGo_inv hp hby (times_ris hp a b).1 (times_in hp hs).1 ⟨fun j hj => absurd hj (Nat.not_lt_zero _), fun j hj => absurd hj (Nat.not_lt_zero _), fun _ _ hj => absurd hj (Nat.lt_irrefl _)⟩ h).2.2
 have h2 := times_len (l := l) (a := a) (b := b)
 have := hp.len
 simp only [List.length_nil] at *
 omega
theorem chg_ok {l : List Pt} {a b : Int} {by' : V3 → Option V3} {q : List Pt} (hp : ProfOk l) (hs : spanB a b = true) (hby : ∀ v u, vecOkB v = true → by' v = some u → vecOkB u = true) (h : chgGo l a b by' (timesS l a b) [] = some q) : profOkB q = decide (q.length ≤ 200) := by
 obtain ⟨h1, ts, h2⟩ := times_in hp hs
 have h3 := (times_ris hp a b).1
 rw [h2] at h h1 h3
 unfold chgGo at h
 split at h
 ·cases h
 ·rename_i v hv
  have hvo : vecOkB v = true := by
   unfold chgV at hv
   split at hv
   ·exact hby _ _ (freeP_ok hp 0) hv
   ·injection hv with hv; rw [← hv]; exact freeP_ok hp 0
  have h0 : OutOk [] ((0 : Int) :: ts) := ⟨fun j hj => absurd hj (Nat.not_lt_zero _), fun j hj => absurd hj (Nat.not_lt_zero _), fun _ _ hj => absurd hj (Nat.lt_irrefl _)⟩
  have h3' := h3
  unfold risI at h3'
  rw [List.pairwise_cons] at h3'
  obtain ⟨g1, ⟨s, g2⟩, _⟩ := chgGo_inv hp hby h3'.2 (fun u hu => h1 u (List.mem_cons_of_mem _ hu)) (out_push h0 h3 (h1 0 List.mem_cons_self) hvo) h
  have g3 : q = ⟨0, v⟩ :: s := by rw [g2]; unfold pushP; rw [if_pos (.inl rfl)]; rfl
  rw [Bool.eq_iff_iff, profOkB_t, decide_eq_true_eq]
  constructor
  ·exact fun h => h.len.2
  ·intro hl
   exact ⟨⟨by rw [g3]; simp, hl⟩, by rw [g3]; rfl, g1.pts, g1.steps⟩
theorem chgP_ok {l : List Pt} {a b : Int} {by' : V3 → Option V3} {q : List Pt} (hp : ProfOk l) (hs : spanB a b = true) (hby : ∀ v u, vecOkB v = true → by' v = some u → vecOkB u = true) (h : chgP l a b by' = some q) : ProfOk q := by
 unfold chgP at h
 cases e : chgGo l a b by' (timesS l a b) [] with
 | none => rw [e] at h; cases h
 | some r =>
  rw [e] at h
  simp only [Option.bind_some] at h
  split at h
  ·rename_i hl
   injection h with h
   subst h
   refine profOkB_t.1 ?_
   rw [chg_ok hp hs hby e, decide_eq_true_eq]
   exact hl
  ·cases h
theorem chgGo_fail {l : List Pt} {a b : Int} {by' : V3 → Option V3} {t : Int} (hv : chgV l a b by' t = none) : ∀ {ts : List Int} {out : List Pt}, t ∈ ts → chgGo l a b by' ts out = none
 | u :: ts, out, h => by
  unfold chgGo
  split
  ·rfl
  ·rename_i v hv'
   rcases List.mem_cons.1 h with rfl | h
   ·rw [hv] at hv'; cases hv'
   ·exact chgGo_fail hv h
theorem subO_ok {x v u : V3} (h : subO x v = some u) : vecOkB u = true := by
 unfold subO valO at h
 split at h
 ·rename_i hc
  injection h with h
  subst h
  simp only [Bool.and_eq_true] at hc
  exact hc.2.2
 ·cases h
noncomputable def takeP (l : List Pt) (a b : Int) (v : V3) : Option (List Pt) := if (profOkB l && spanB a b && vecOkB v) = true then chgP l a b (fun x => subO x v) else none
theorem takeP_ok {l : List Pt} {a b : Int} {v : V3} {q : List Pt} (h : takeP l a b v = some q) : ProfOk q := by
 unfold takeP at h
 split at h
 ·rename_i hc
  simp only [Bool.and_eq_true] at hc
  exact chgP_ok (profOkB_t.1 hc.1.1) hc.1.2 (fun _ _ _ => subO_ok) h
 ·cases h
theorem takeP_no {l : List Pt} {a b : Int} {v : V3} (hp : ProfOk l) (hs : spanB a b = true) (hv : vecOkB v = false) : chgGo l a b (fun x => subO x v) (timesS l a b) [] = none := by
 refine chgGo_fail (t := a) ?_ (((times_ris hp a b).2 a).2 (.inr (.inl rfl)))
 unfold chgV
 rw [if_pos ⟨Int.le_refl _, (spanB_iff.1 hs).2.2⟩]
 refine subO_n ?_
 unfold fitsB
 rw [hv]
 rfl
end Go.Proofs.YtliopiphobopjaaGreat
namespace Go.Proofs.YtliopiphobopjaaGreat
open Go Go.RowKit

abbrev DC (P : Program) (f : FuncId) (args rs : List AV) : Prop := MCalls P f args [] (fun _ : Unit => True) (fun _ => rs) (fun _ => []) (fun _ => [])
abbrev SC (P : Program) (f : FuncId) (arg : AV) (x : Int) (p : Prop) : Prop := MCalls P f [arg, .d (.n .i64 x)] [] (fun y : Int => (-1 ≤ y ∧ y ≤ x) ∧ (0 ≤ y → p)) (fun y => [.d (.n .i64 y)]) (fun _ => []) (fun _ => [])
theorem awp_cutc (d : Nat) {X : Cx} {Q : Exit → AS → Prop} {σ : AS} {ι : Type} {r x y z : Code} (S : ι → AS) (ok : ι → Prop) (h1 : AWp X (.seq r (.cond (.tmp d) x y)) (thenA (fun σ' => ∃ j, ok j ∧ σ'.le (S j)) Q) σ) (h2 : ∀ j, ok j → AWp X z Q (S j)) : AWp X (.seq (.seq r (.cond (.tmp d) x y)) z) Q σ := awp_cut S ok h1 h2
theorem awp_frzr (id p : Nat) {X : Cx} {Q : Exit → AS → Prop} {σ : AS} {ops : Array Oper} {dr : Bool} {e : TypeId} {es : List (List D)} {dp : Bool} (hp : lookO σ.ob p = some (.row e es dp)) (h : AWp X (.region id ops dr) Q (σ.frz p es)) : AWp X (.region id ops dr) Q σ := awp_frz p hp h
theorem awp_fzbr (id p : Nat) {X : Cx} {Q : Exit → AS → Prop} {σ : AS} {ops : Array Oper} {dr : Bool} {e : TypeId} {cs : List AV} {ds : List D} (hp : lookO σ.ob p = some (.box e cs)) (hds : dataL cs = some ds) (h : AWp X (.region id ops dr) Q (σ.fzb p ds)) : AWp X (.region id ops dr) Q σ := awp_fzb p hp hds h
end Go.Proofs.YtliopiphobopjaaGreat
namespace Go.Proofs.YtliopiphobopjaaGreat
open Go Go.RowKit

/-! ### Rooms -/
structure Room where
 topo : Topo
 up : List Bool
 profs : List (List Pt)
 lics : List Pt
def zR : Room := ⟨⟨[], []⟩, [], [], []⟩
def boolE (l : List Bool) : List (List D) := l.map fun b => [.b b]
def profsE (l : List (List Pt)) : List (List D) := l.map fun p => [.sl (ptE p)]
theorem boolE_length (l : List Bool) : (boolE l).length = l.length := by simp [boolE]
theorem profsE_length (l : List (List Pt)) : (profsE l).length = l.length := by simp [profsE]
@[reducible] def roomC (r : Room) : List AV := [.d (.sl (intE r.topo.parents)), .d (.sl (nodeE r.topo.nodes)), .d (.sl (boolE r.up)), .d (.sl (profsE r.profs)), .d (.sl (ptE r.lics))]
@[reducible] def roomA (r : Room) : AV := .agg (roomC r)
structure RoomOk (r : Room) : Prop where
 topo : TopoOk r.topo
 up : r.up.length = r.topo.nodes.length
 num : r.profs.length = r.topo.nodes.length
 profs : ∀ j, j < r.profs.length → ProfOk (nth r.profs j)
 lics : ProfOk r.lics
noncomputable def roomOkB (r : Room) : Bool := pB (RoomOk r)
structure DiffP (t : Topo) (j : Job) (l : List Int) : Prop where
 nodes : inNodes t l
 diff : ∀ i, i < l.length → hasI (l.take i) (nth l i) = false
 num : (l.length : Int) = j.nodes
noncomputable def diffB (t : Topo) (j : Job) (l : List Int) : Bool := pB (DiffP t j l)
noncomputable def takeN (a b : Int) (v : V3) : List Int → List (List Pt) → Option (List (List Pt))
 | [], ps => some ps
 | n :: ns, ps => match takeP (nth ps n.toNat) a b v with
  | none => none
  | some q => takeN a b v ns (ps.set n.toNat q)
noncomputable def resO (r : Room) (j : Job) (a b : Int) (l : List Int) : Option Room :=
 if (roomOkB r && jobOkB j && diffB r.topo j l) = true then
  match takeN a b j.need l r.profs with
  | none => none
  | some ps => match takeP r.lics a b j.lic with
   | none => none
   | some q => some ⟨r.topo, r.up, ps, q⟩
 else none
theorem nth_set {α : Type} [Inhabited α] {l : List α} {i j : Nat} {x : α} (h : i < l.length) : nth (l.set i x) j = if i = j then x else nth l j := by
 simp only [nth, List.getD, List.getElem?_set]
 by_cases e : i = j
 ·subst e; simp [h]
 ·simp [e]
theorem takeN_ok {a b : Int} {v : V3} : ∀ {ns : List Int} {ps qs : List (List Pt)}, (∀ n ∈ ns, n.toNat < ps.length) → (∀ j, j < ps.length → ProfOk (nth ps j)) → takeN a b v ns ps = some qs → qs.length = ps.length ∧ ∀ j, j < qs.length → ProfOk (nth qs j)
 | [], ps, qs, _, h, e => by injection e with e; subst e; exact ⟨rfl, h⟩
 | n :: ns, ps, qs, hn, h, e => by
  unfold takeN at e
  split at e
  ·cases e
  ·rename_i q hq
   have h1 := hn n List.mem_cons_self
   obtain ⟨g1, g2⟩ := takeN_ok (ns := ns) (ps := ps.set n.toNat q) (qs := qs) (fun m hm => by rw [List.length_set]; exact hn m (List.mem_cons_of_mem _ hm)) (fun j hj => by
    rw [List.length_set] at hj
    rw [nth_set h1]
    split
    ·exact takeP_ok hq
    ·exact h j hj) e
   rw [List.length_set] at g1
   exact ⟨g1, g2⟩
theorem diff_in {t : Topo} {j : Job} {l : List Int} (h : DiffP t j l) {n : Int} (hn : n ∈ l) : n.toNat < t.nodes.length := by
 obtain ⟨i, hi, e⟩ := mem_nth hn
 have := h.nodes i hi
 omega
theorem resO_ok {r r' : Room} {j : Job} {a b : Int} {l : List Int} (h : resO r j a b l = some r') : RoomOk r' ∧ r'.topo = r.topo ∧ r'.up = r.up ∧ DiffP r.topo j l ∧ jobOkB j = true := by
 unfold resO at h
 split at h
 ·rename_i hc
  simp only [Bool.and_eq_true] at hc
  obtain ⟨⟨h1, h2⟩, h3⟩ := hc
  have h1 := pB_t.1 h1
  have h3 := pB_t.1 h3
  split at h
  ·cases h
  ·rename_i ps hps
   split at h
   ·cases h
   ·rename_i q hq
    injection h with h
    subst h
    obtain ⟨g1, g2⟩ := takeN_ok (fun n hn => by rw [h1.num]; exact diff_in h3 hn) h1.profs hps
    exact ⟨⟨h1.topo, h1.up, by rw [g1]; exact h1.num, g2, takeP_ok hq⟩, rfl, rfl, h3, h2⟩
 ·cases h
/-! ### States -/
structure Run where
 job : Job
 at' : Int
 nodes : List Int
structure EndS where
 id : Int
 at' : Int
 why : Int
structure State where
 topo : Topo
 up : List Bool
 lic : V3
 depth : Int
 now : Int
 queue : List Job
 runs : List Run
 ends : List EndS
instance : Inhabited Job := ⟨⟨0, 0, 0, zV, zV, 0, 0⟩⟩
instance : Inhabited Run := ⟨⟨default, 0, []⟩⟩
instance : Inhabited EndS := ⟨⟨0, 0, 0⟩⟩
@[reducible] def jobD (j : Job) : List D := [.n .i64 j.id, .n .i64 j.prio, .n .i64 j.nodes, .n .i64 j.need.a, .n .i64 j.need.b, .n .i64 j.need.c, .n .i64 j.lic.a, .n .i64 j.lic.b, .n .i64 j.lic.c, .n .i64 j.wall, .n .i64 j.level]
def jobE (l : List Job) : List (List D) := l.map fun j => [.n .i64 j.id, .n .i64 j.prio, .n .i64 j.nodes, .n .i64 j.need.a, .n .i64 j.need.b, .n .i64 j.need.c, .n .i64 j.lic.a, .n .i64 j.lic.b, .n .i64 j.lic.c, .n .i64 j.wall, .n .i64 j.level]
def runE (l : List Run) : List (List D) := l.map fun r => [.n .i64 r.job.id, .n .i64 r.job.prio, .n .i64 r.job.nodes, .n .i64 r.job.need.a, .n .i64 r.job.need.b, .n .i64 r.job.need.c, .n .i64 r.job.lic.a, .n .i64 r.job.lic.b, .n .i64 r.job.lic.c, .n .i64 r.job.wall, .n .i64 r.job.level, .n .i64 r.at', .sl (intE r.nodes)]
def endE (l : List EndS) : List (List D) := l.map fun e => [.n .i64 e.id, .n .i64 e.at', .n .i64 e.why]
theorem jobE_length (l : List Job) : (jobE l).length = l.length := by simp [jobE]
theorem runE_length (l : List Run) : (runE l).length = l.length := by simp [runE]
theorem endE_length (l : List EndS) : (endE l).length = l.length := by simp [endE]
@[reducible] def stateC (s : State) : List AV := [.d (.sl (intE s.topo.parents)), .d (.sl (nodeE s.topo.nodes)), .d (.sl (boolE s.up)), .d (.n .i64 s.lic.a), .d (.n .i64 s.lic.b), .d (.n .i64 s.lic.c), .d (.n .i64 s.depth), .d (.n .i64 s.now), .d (.sl (jobE s.queue)), .d (.sl (runE s.runs)), .d (.sl (endE s.ends))]
@[reducible] def stateA (s : State) : AV := .agg (stateC s)
structure Small (n : Nat) (s : State) : Prop where
 par : s.topo.parents.length ≤ n
 nod : s.topo.nodes.length ≤ n
 up : s.up.length ≤ n
 que : s.queue.length ≤ n
 run : s.runs.length ≤ n
 end' : s.ends.length ≤ n
 rno : ∀ j, j < s.runs.length → (nth s.runs j).nodes.length ≤ n
def emptyR (t : Topo) (up : List Bool) (lic : V3) : Room := ⟨t, up, t.nodes.map fun n => [⟨0, n.cap⟩], [⟨0, lic⟩]⟩
def runB (now : Int) (x : Run) : Bool := jobOkB x.job && inB x.at' 0 now && inB (x.at' + x.job.wall) (now + 1) 1000000000
noncomputable def roomGo (now : Int) : List Run → Room → Option Room
 | [], r => some r
 | x :: xs, r => if runB now x = true then match resO r x.job now (x.at' + x.job.wall) x.nodes with
  | none => none
  | some r' => roomGo now xs r'
  else none
structure BaseP (s : State) : Prop where
 topo : TopoOk s.topo
 up : s.up.length = s.topo.nodes.length
 lic : vecOkB s.lic = true
 now : 0 ≤ s.now ∧ s.now ≤ 1000000000
noncomputable def roomOf (s : State) : Option Room := if pB (BaseP s) = true then roomGo s.now s.runs (emptyR s.topo s.up s.lic) else none
theorem one_ok {v : V3} (h : vecOkB v = true) : ProfOk [⟨0, v⟩] := by
 refine ⟨⟨Nat.le_refl _, by simp⟩, rfl, fun j hj => ?_, fun j hj => ?_⟩
 ·have : j = 0 := by simpa using hj
  subst this
  exact ⟨⟨Int.le_refl _, (by decide : (0 : Int) ≤ 1000000000)⟩, h⟩
 ·simp at hj
theorem empty_ok {t : Topo} {up : List Bool} {lic : V3} (h : TopoOk t) (hu : up.length = t.nodes.length) (hl : vecOkB lic = true) : RoomOk (emptyR t up lic) := by
 refine ⟨h, hu, by simp [emptyR], fun j hj => ?_, one_ok hl⟩
 simp only [emptyR, List.length_map] at hj
 have e : nth (emptyR t up lic).profs j = [⟨0, (nth t.nodes j).cap⟩] := by
  simp [emptyR, nth, List.getD, hj]
 rw [e]
 exact one_ok (h.nodes j hj).2.2
theorem roomGo_ok {now : Int} : ∀ {xs : List Run} {r r' : Room}, RoomOk r → roomGo now xs r = some r' → RoomOk r' ∧ r'.topo = r.topo ∧ r'.up = r.up ∧ ∀ x ∈ xs, runB now x = true ∧ DiffP r.topo x.job x.nodes
 | [], r, r', h, e => by injection e with e; subst e; exact ⟨h, rfl, rfl, fun x hx => by cases hx⟩
 | x :: xs, r, r', h, e => by
  unfold roomGo at e
  split at e
  ·rename_i hb
   split at e
   ·cases e
   ·rename_i r1 h1
    obtain ⟨g1, g2, g3, g4, g5⟩ := resO_ok h1
    obtain ⟨k1, k2, k3, k4⟩ := roomGo_ok g1 e
    rw [g2] at k2 k4
    rw [g3] at k3
    refine ⟨k1, k2, k3, fun y hy => ?_⟩
    rcases List.mem_cons.1 hy with rfl | hy
    ·exact ⟨hb, g4⟩
    ·exact k4 y hy
  ·cases e
theorem roomOf_ok {s : State} {r : Room} (h : roomOf s = some r) : RoomOk r ∧ r.topo = s.topo ∧ r.up = s.up ∧ BaseP s ∧ ∀ x ∈ s.runs, runB s.now x = true ∧ DiffP s.topo x.job x.nodes := by
 unfold roomOf at h
 split at h
 ·rename_i hb
  have hb := pB_t.1 hb
  obtain ⟨k1, k2, k3, k4⟩ := roomGo_ok (empty_ok hb.topo hb.up hb.lic) h
  exact ⟨k1, k2, k3, hb, k4⟩
 ·cases h
/-! ### Queues -/
structure QueueP (l : List Job) : Prop where
 len : l.length ≤ 60
 jobs : ∀ i, i < l.length → jobOkB (nth l i) = true
 diff : ∀ i, i < l.length → ∀ k, k < i → (nth l k).id ≠ (nth l i).id
noncomputable def queueOkB (l : List Job) : Bool := pB (QueueP l)
/-! ### What is asked of a state -/
def allJ (s : State) : List Job := s.queue ++ s.runs.map Run.job
structure RunP (s : State) (x : Run) : Prop where
 up : ∀ i, i < x.nodes.length → nth s.up (nth x.nodes i).toNat = true
 asc : ascP x.nodes
 level : lvl s.topo.parents (lowI s.topo x.nodes).toNat ≤ x.job.level
def endB (now : Int) (e : EndS) : Bool := inB e.id 1 999 && inB e.at' 0 now && inB e.why 1 4
structure StateP (s : State) : Prop where
 room : (roomOf s).isSome = true
 depth : 0 ≤ s.depth ∧ s.depth ≤ 60
 jobs : QueueP (allJ s)
 ends : s.ends.length ≤ 300
 runs : ∀ j, j < s.runs.length → RunP s (nth s.runs j)
 endsOk : ∀ j, j < s.ends.length → endB s.now (nth s.ends j) = true
noncomputable def stateOkB (s : State) : Bool := pB (StateP s)
end Go.Proofs.YtliopiphobopjaaGreat
