/-
  Topologies as text: NumText, VecText, TopoText of the reference; the text tells the topology.
-/
import Derived.Test.YtliopiphobopjaaGreatKSh
import Derived.Test.YtliopiphobopjaaGreatKB7
set_option maxRecDepth 100000
set_option maxHeartbeats 16000000
namespace Go.Proofs.YtliopiphobopjaaGreat
open Go Go.RowKit
attribute [local irreducible] AWp OpsOk OpOk ACalls ChA QsOk MCalls EnC PY

def numT (n : Nat) : List UInt8 := if n < 10 then [UInt8.ofNat (48 + n)] else numT (n / 10) ++ [UInt8.ofNat (48 + n % 10)]
theorem numT_lt {n : Nat} (h : n < 10) : numT n = [UInt8.ofNat (48 + n)] := by rw [numT, if_pos h]
theorem numT_ge {n : Nat} (h : ¬ n < 10) : numT n = numT (n / 10) ++ [UInt8.ofNat (48 + n % 10)] := by rw [numT, if_neg h]
theorem numT_len : ∀ (k n : Nat), n < 10 ^ (k + 1) → (numT n).length ≤ k + 1
  | 0, n, h => by rw [numT_lt (by omega)]; simp
  | k + 1, n, h => by
    by_cases h1 : n < 10
    · rw [numT_lt h1]; simp
    · rw [numT_ge h1, List.length_append, List.length_singleton]
      have := numT_len k (n / 10) (by rw [Nat.pow_succ] at h; omega)
      omega
theorem dig_val {n : Nat} (h : n < 10) : (UInt8.ofNat (48 + n)).toNat = 48 + n := by
  rw [UInt8.toNat_ofNat']; omega
theorem numT_dig : ∀ (n : Nat), ∀ b ∈ numT n, 48 ≤ b.toNat ∧ b.toNat ≤ 57 := by
  intro n
  induction n using Nat.strongRecOn with
  | _ n ih =>
    intro b hb
    by_cases h : n < 10
    · rw [numT_lt h, List.mem_singleton] at hb
      subst hb
      rw [dig_val h]; omega
    · rw [numT_ge h, List.mem_append, List.mem_singleton] at hb
      rcases hb with hb | rfl
      · exact ih (n / 10) (by omega) b hb
      · rw [dig_val (by omega)]; omega
def numV (l : List UInt8) : Nat := l.foldl (fun v b => 10 * v + (b.toNat - 48)) 0
theorem numV_T : ∀ (n : Nat), numV (numT n) = n := by
  intro n
  induction n using Nat.strongRecOn with
  | _ n ih =>
    by_cases h : n < 10
    · rw [numT_lt h]
      simp only [numV, List.foldl_cons, List.foldl_nil, dig_val h]
      omega
    · rw [numT_ge h, numV, List.foldl_append]
      have := ih (n / 10) (by omega)
      unfold numV at this
      rw [this]
      simp only [List.foldl_cons, List.foldl_nil, dig_val (show n % 10 < 10 by omega)]
      omega
theorem numT_inj {n m : Nat} (h : numT n = numT m) : n = m := by rw [← numV_T n, h, numV_T]
theorem cutU {q : UInt8} : ∀ {x y x' y' : List UInt8}, (∀ b ∈ x, b ≠ q) → (∀ b ∈ x', b ≠ q) → x ++ q :: y = x' ++ q :: y' → x = x' ∧ y = y'
  | [], y, [], y', _, _, h => ⟨rfl, by simpa using h⟩
  | [], y, b :: x', y', _, h2, h => by
    injection h with h _
    exact absurd h.symm (h2 b List.mem_cons_self)
  | b :: x, y, [], y', h1, _, h => by
    injection h with h _
    exact absurd h (h1 b List.mem_cons_self)
  | b :: x, y, b' :: x', y', h1, h2, h => by
    injection h with e h
    obtain ⟨g1, g2⟩ := cutU (fun c hc => h1 c (List.mem_cons_of_mem _ hc)) (fun c hc => h2 c (List.mem_cons_of_mem _ hc)) h
    exact ⟨by rw [e, g1], g2⟩
theorem numT_ne {n : Nat} {q : UInt8} (hq : q.toNat < 48) : ∀ b ∈ numT n, b ≠ q := fun b hb e => by
  have := (numT_dig n b hb).1
  rw [e] at this; omega
theorem num_cut {q : UInt8} (hq : q.toNat < 48) {n m : Nat} {y y' : List UInt8} (h : numT n ++ q :: y = numT m ++ q :: y') : n = m ∧ y = y' := by
  obtain ⟨g1, g2⟩ := cutU (numT_ne hq) (numT_ne hq) h
  exact ⟨numT_inj g1, g2⟩
def txS : List UInt8 := [115, 119, 105, 116, 99, 104, 32]
def txN : List UInt8 := [110, 111, 100, 101, 32]
def swT (p : Int) : List UInt8 := txS ++ (numT p.toNat ++ [10])
def vcT (v : V3) : List UInt8 := numT v.a.toNat ++ 47 :: (numT v.b.toNat ++ 47 :: numT v.c.toNat)
def ndT (n : Node) : List UInt8 := txN ++ (numT n.leaf.toNat ++ 32 :: (vcT n.cap ++ [10]))
theorem toNat_inj {x y : Int} (hx : 0 ≤ x) (hy : 0 ≤ y) (h : x.toNat = y.toNat) : x = y := by omega
def nonN (n : Node) : Prop := 0 ≤ n.leaf ∧ 0 ≤ n.cap.a ∧ 0 ≤ n.cap.b ∧ 0 ≤ n.cap.c
theorem ndT_cut {n m : Node} {y y' : List UInt8} (hn : nonN n) (hm : nonN m) (h : ndT n ++ y = ndT m ++ y') : n = m ∧ y = y' := by
  obtain ⟨h1, h2, h3, h4⟩ := hn
  obtain ⟨k1, k2, k3, k4⟩ := hm
  simp only [ndT, vcT, List.append_assoc, List.cons_append, List.nil_append] at h
  have h := List.append_cancel_left h
  obtain ⟨e1, h⟩ := num_cut (by decide) h
  obtain ⟨e2, h⟩ := num_cut (by decide) h
  obtain ⟨e3, h⟩ := num_cut (by decide) h
  obtain ⟨e4, h⟩ := num_cut (by decide) h
  refine ⟨?_, h⟩
  obtain ⟨l, ⟨a, b, c⟩⟩ := n
  obtain ⟨l', ⟨a', b', c'⟩⟩ := m
  simp only at *
  rw [toNat_inj h1 k1 e1, toNat_inj h2 k2 e2, toNat_inj h3 k3 e3, toNat_inj h4 k4 e4]
theorem nds_inj : ∀ {l l' : List Node}, (∀ n ∈ l, nonN n) → (∀ n ∈ l', nonN n) → l.flatMap ndT = l'.flatMap ndT → l = l'
  | [], [], _, _, _ => rfl
  | [], m :: l', _, _, h => by simp [ndT, txN] at h
  | n :: l, [], _, _, h => by simp [ndT, txN] at h
  | n :: l, m :: l', h1, h2, h => by
    rw [List.flatMap_cons, List.flatMap_cons] at h
    obtain ⟨e1, e2⟩ := ndT_cut (h1 n List.mem_cons_self) (h2 m List.mem_cons_self) h
    rw [e1, nds_inj (fun x hx => h1 x (List.mem_cons_of_mem _ hx)) (fun x hx => h2 x (List.mem_cons_of_mem _ hx)) e2]
theorem topo_inj : ∀ {p p' : List Int} {l l' : List Node}, (∀ x ∈ p, 0 ≤ x) → (∀ x ∈ p', 0 ≤ x) → (∀ n ∈ l, nonN n) → (∀ n ∈ l', nonN n) → p.flatMap swT ++ l.flatMap ndT = p'.flatMap swT ++ l'.flatMap ndT → p = p' ∧ l = l'
  | [], [], l, l', _, _, h3, h4, h => ⟨rfl, nds_inj h3 h4 (by simpa using h)⟩
  | [], x :: p', l, l', _, _, _, _, h => by
    cases l with
    | nil => simp [swT, txS] at h
    | cons n l => simp [swT, txS, ndT, txN] at h
  | x :: p, [], l, l', _, _, _, _, h => by
    cases l' with
    | nil => simp [swT, txS] at h
    | cons n l => simp [swT, txS, ndT, txN] at h
  | x :: p, x' :: p', l, l', h1, h2, h3, h4, h => by
    simp only [List.flatMap_cons, swT, List.append_assoc, List.cons_append, List.nil_append] at h
    have h := List.append_cancel_left h
    obtain ⟨e1, h⟩ := num_cut (by decide) h
    obtain ⟨g1, g2⟩ := topo_inj (fun y hy => h1 y (List.mem_cons_of_mem _ hy)) (fun y hy => h2 y (List.mem_cons_of_mem _ hy)) h3 h4 h
    exact ⟨by rw [toNat_inj (h1 x List.mem_cons_self) (h2 x' List.mem_cons_self) e1, g1], g2⟩
def topoT (t : Topo) : List UInt8 := (t.parents.drop 1).flatMap swT ++ t.nodes.flatMap ndT
theorem topoT_inj {t t' : Topo} (h : TopoOk t) (h' : TopoOk t') (e : topoT t = topoT t') : t = t' := by
  have key : ∀ {t : Topo}, TopoOk t → (∀ x ∈ t.parents.drop 1, 0 ≤ x) ∧ (∀ n ∈ t.nodes, nonN n) ∧ t.parents = 0 :: t.parents.drop 1 := fun {t} h => by
    refine ⟨fun x hx => ?_, fun n hn => ?_, ?_⟩
    · obtain ⟨i, hi, rfl⟩ := List.getElem_of_mem hx
      rw [List.length_drop] at hi
      have h1 := (h.valid (i + 1) (by omega) (by omega)).1
      rw [List.getElem_drop]
      have e : nth t.parents (i + 1) = t.parents[1 + i]'(by omega) := by
        rw [nth, List.getD_eq_getElem?_getD, List.getElem?_eq_getElem (by omega)]
        simp only [Option.getD_some, Nat.add_comm]
      rwa [e] at h1
    · obtain ⟨i, hi, rfl⟩ := List.getElem_of_mem hn
      obtain ⟨⟨h1, _⟩, _, h2⟩ := h.nodes i hi
      have e : nth t.nodes i = t.nodes[i] := by rw [nth, List.getD_eq_getElem?_getD, List.getElem?_eq_getElem hi]; rfl
      rw [e] at h1 h2
      simp only [vecOkB, Bool.and_eq_true, inB_t] at h2
      exact ⟨h1, h2.1.1.1, h2.1.2.1, h2.2.1⟩
    · have h1 := h.len.1
      have h2 := h.zero
      cases hp : t.parents with
      | nil => rw [hp] at h1; simp at h1
      | cons a l =>
        rw [hp] at h2
        have : a = 0 := by simpa [nth] using h2
        rw [this]; rfl
  obtain ⟨k1, k2, k3⟩ := key h
  obtain ⟨j1, j2, j3⟩ := key h'
  obtain ⟨g1, g2⟩ := topo_inj k1 j1 k2 j2 e
  obtain ⟨p, n⟩ := t
  obtain ⟨p', n'⟩ := t'
  simp only at *
  rw [k3, j3, g1, g2]
/-! ### The walks -/
def numTx (x : Int) : List UInt8 := numT x.toNat
theorem numT_len10 {n : Nat} (h : n ≤ 1000000000) : (numT n).length ≤ 10 := numT_len 9 _ (by omega)
theorem numText_s : ∀ (n : Nat), n ≤ 1000000000 → ACalls Tryz.prog 178 [.d (.n .i64 (n : Int))] [.d (.s (numT n))] [] := by
  intro n
  induction n using Nat.strongRecOn with
  | _ n ih =>
    intro hn
    refine acalls_of tt Tryz.func178 rfl rfl rfl (fun w0 Z => ?_)
    have hl := numT_len 9 (n / 10) (by omega)
    repeat' (first|refine zst ?_|(refine zhm fun hb=>?_;try first|omega|exact absurd rfl hb)|(apply awp_drawq;exact rfl;kernel_rfl;kernel_rfl;exact rfl)|(apply awp_drawx;exact rfl;kernel_rfl;exact rfl)|(apply aopQ_ok;exact rfl)|apply qs_nil|(apply ch_nil;exact rfl)|((first|(apply ch_cons;iterate 2 exact rfl)|(apply ch_yes;iterate 4 exact rfl));(iterate 2 exact rfl);(· (intro w0 Z O;first|(apply aop_ok;exact rfl)|(apply QOk.ok;first|refine zk0 ?_|refine zk3 ?_|refine zk4 ?_|refine zk5 ?_|refine zk8 ?_|refine zk9 ?_|refine zk17 ?_|refine zk19 ?_|refine zk20 ?_|refine zk21 ?_|refine zk22 ?_)|refine zk40 rfl rfl rfl ?_|refine zk42 rfl rfl rfl ?_|refine zk44 ?_|refine kc (time_s) rfl rfl ?_|refine kc (ih (n / 10) (by omega) (by omega)) rfl rfl ?_);exact ⟨rfl, rfl, rfl⟩);(iterate 2 exact rfl);exact zsl;exact zft;(iterate 4 exact rfl))|(apply ch_no;iterate 10 exact rfl)|(apply ch_no2;iterate 9 exact rfl)|refine zcx ?_ ?_|refine zgc ?_ ?_|refine zgx ?_ ?_|(first|(apply qs_cons;exact rfl)|(apply qs_yes;exact rfl;exact rfl;exact rfl))|refine zqx ?_ ?_|(apply q_id;first|refine kq (time_s) rfl rfl ?_|refine kq (ih (n / 10) (by omega) (by omega)) rfl rfl ?_)|(apply op_id;first|refine zk40 rfl rfl rfl ?_|refine zk42 rfl rfl rfl ?_|refine zk44 ?_|refine kc (time_s) rfl rfl ?_|refine kc (ih (n / 10) (by omega) (by omega)) rfl rfl ?_|refine zgq ?_)|(apply q_id;first|refine zk0 ?_|refine zk3 ?_|refine zk4 ?_|refine zk5 ?_|refine zk8 ?_|refine zk9 ?_|refine zk17 ?_|refine zk19 ?_|refine zk20 ?_|refine zk21 ?_|refine zk22 ?_))
    · refine zr [] ?_ ?_
      repeat' (first | apply And.intro | exact zeb | refine zec ?_ | exact zen | refine zeo ?_ | exact zes | refine zet ?_ | exact zel | refine zem ?_ | exact zep | refine zeq1 ?_ | refine zea ?_ | refine zei ?_ ?_ | refine zex ?_ | (apply cell_agg; iterate 3 exact rfl) | (apply cell_one; iterate 2 exact rfl) | exact rfl | exact trivial)
      refine Stop.mk ?_
      rw [numT_lt (by omega)]
      rfl
    · refine zr [] ?_ ?_
      repeat' (first | apply And.intro | exact zeb | refine zec ?_ | exact zen | refine zeo ?_ | exact zes | refine zet ?_ | exact zel | refine zem ?_ | exact zep | refine zeq1 ?_ | refine zea ?_ | refine zei ?_ ?_ | refine zex ?_ | (apply cell_agg; iterate 3 exact rfl) | (apply cell_one; iterate 2 exact rfl) | exact rfl | exact trivial)
      refine Stop.mk ?_
      rw [numT_ge (n := n) (by omega)]
      rfl
end Go.Proofs.YtliopiphobopjaaGreat
