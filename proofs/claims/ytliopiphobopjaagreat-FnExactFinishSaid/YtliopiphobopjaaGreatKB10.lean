/-
  The law's marks in slices of plain elements: what is written, and that it is held.
-/
import Derived.Test.YtliopiphobopjaaGreatKB5
import Derived.Test.YtliopiphobopjaaGreatKGlA
import Derived.Test.YtliopiphobopjaaGreatKShL
set_option maxRecDepth 100000
set_option maxHeartbeats 16000000
namespace Go.Proofs.YtliopiphobopjaaGreat
open Go Go.RowKit
attribute [local irreducible] AWp OpsOk OpOk ACalls ChA QsOk MCalls EnC PY
def gI (k j : Nat) : Int := ((k + 1 * j : Nat) : Int)
def gN (k j : Nat) : Node := ⟨((k + 4 * j : Nat) : Int), ⟨((k + 4 * j + 1 : Nat) : Int), ((k + 4 * j + 1 + 1 : Nat) : Int), ((k + 4 * j + 1 + 1 + 1 : Nat) : Int)⟩⟩
def gJ (k j : Nat) : Job := ⟨((k + 11 * j : Nat) : Int), ((k + 11 * j + 1 : Nat) : Int), ((k + 11 * j + 2 : Nat) : Int), ⟨((k + 11 * j + 3 : Nat) : Int), ((k + 11 * j + 4 : Nat) : Int), ((k + 11 * j + 5 : Nat) : Int)⟩, ⟨((k + 11 * j + 6 : Nat) : Int), ((k + 11 * j + 7 : Nat) : Int), ((k + 11 * j + 8 : Nat) : Int)⟩, ((k + 11 * j + 9 : Nat) : Int), ((k + 11 * j + 10 : Nat) : Int)⟩
def gE (k j : Nat) : EndS := ⟨((k + 3 * j : Nat) : Int), ((k + 3 * j + 1 : Nat) : Int), ((k + 3 * j + 1 + 1 : Nat) : Int)⟩
theorem markNodeS_m {l : List Node} {k : Nat} (h : l.length ≤ 1000000000) (hk : k ≤ 10000000000000000) : MCalls Tryz.prog 186 [.row 1000000, .d (.n .i64 k)] [(1000000, .row 204 (nodeE l) true)] (fun (_ : Unit) => True) (fun _ => [.d (.n .i64 ((k + 4 * l.length : Nat) : Int))]) (fun _ => [(1000000, .row 204 (nodeE (markL (gN k) l.length)) true)]) (fun _ => []) := by
 refine mcalls_of tt Tryz.func186 rfl rfl rfl ⟨.inl rfl, trivial⟩ (fun _ _ => ⟨⟨⟨rfl, rfl, (lens_map (f := (fun (n : Node) => ([.n .i64 n.leaf, .n .i64 n.cap.a, .n .i64 n.cap.b, .n .i64 n.cap.c] : List D))) (z := 4) (fun _ => rfl) (markL_length _ _)).symm⟩, trivial⟩, .inl rfl, trivial⟩) (fun w0 Z O => ?_)
 repeat' (first|refine zst ?_|(refine zhm fun hb=>?_;try exact zab)|refine zg2 ?_ ?_|refine zln fun _=>?_|refine zop ?_|fail)
 refine awp_loop (fun (i : Nat) => ⟨44, [(0, .row 1000000), (1, .d (.n .i64 ((k + 4 * i : Nat) : Int))), (5, .d (.n .i64 i))], [(1000000, .row 204 (nodeE (mkL (gN k) l i)) true)]⟩) (fun i => i ≤ l.length) (fun i => l.length - i) 0 (by omega) ?_ ?_
 ·refine ⟨rfl, ?_, ?_, rfl⟩
  repeat'(first|apply And.intro|exact ze0|refine ze1 ?_|refine zei ?_ ?_|exact rfl|trivial)
  all_goals exact Stop.mk (by first | rfl)
 ·intro i hi
  have hl2 : (nodeE (mkL (gN k) l i)).length = l.length := by rw [nodeE, List.length_map, mkL_length (gN k) l hi]
  have hl3 := mkL_length (gN k) l hi
  repeat' (first|refine zst ?_|(refine zhm fun hb=>?_;try exact zab)|refine zg2 ?_ ?_|(apply op_id;first|(refine st_storeDS rfl rfl rfl rfl rfl hl2 (by omega) rfl rfl rfl rfl ?_)|(refine st_storeD rfl rfl rfl rfl rfl hl2 (by omega) (map_at (by omega)) rfl rfl rfl rfl ?_))|refine zln fun _=>?_|refine zop ?_|fail)
  ·refine ⟨i + 1, by omega, by omega, ?_⟩
   refine ⟨rfl, ?_, ?_, rfl⟩
   repeat'(first|apply And.intro|exact ze0|refine ze1 ?_|refine zei ?_ ?_|exact rfl|trivial)
   all_goals exact Stop.mk (by first | rfl | exact mkL_set (f := (fun (n : Node) => ([.n .i64 n.leaf, .n .i64 n.cap.a, .n .i64 n.cap.b, .n .i64 n.cap.c] : List D))) (by omega))
  ·obtain rfl : i = l.length := by omega
   refine zm () [] (by exact trivial) ?_ ?_ ?_
   repeat'(first|apply And.intro|exact ze0|refine ze1 ?_|refine zei ?_ ?_|exact rfl|trivial)
   all_goals exact Stop.mk (by first | rfl | rw [mkL_all])
theorem markJobS_m {l : List Job} {k : Nat} (h : l.length ≤ 1000000000) (hk : k ≤ 10000000000000000) : MCalls Tryz.prog 99 [.row 1000000, .d (.n .i64 k)] [(1000000, .row 94 (jobE l) true)] (fun (_ : Unit) => True) (fun _ => [.d (.n .i64 ((k + 11 * l.length : Nat) : Int))]) (fun _ => [(1000000, .row 94 (jobE (markL (gJ k) l.length)) true)]) (fun _ => []) := by
 refine mcalls_of tt Tryz.func99 rfl rfl rfl ⟨.inl rfl, trivial⟩ (fun _ _ => ⟨⟨⟨rfl, rfl, (lens_map (f := jobD) (z := 11) (fun _ => rfl) (markL_length _ _)).symm⟩, trivial⟩, .inl rfl, trivial⟩) (fun w0 Z O => ?_)
 repeat' (first|refine zst ?_|(refine zhm fun hb=>?_;try exact zab)|refine zg2 ?_ ?_|refine zln fun _=>?_|refine zop ?_|fail)
 refine awp_loop (fun (i : Nat) => ⟨96, [(0, .row 1000000), (1, .d (.n .i64 ((k + 11 * i : Nat) : Int))), (5, .d (.n .i64 i))], [(1000000, .row 94 (jobE (mkL (gJ k) l i)) true)]⟩) (fun i => i ≤ l.length) (fun i => l.length - i) 0 (by omega) ?_ ?_
 ·refine ⟨rfl, ?_, ?_, rfl⟩
  repeat'(first|apply And.intro|exact ze0|refine ze1 ?_|refine zei ?_ ?_|exact rfl|trivial)
  all_goals exact Stop.mk (by first | rfl)
 ·intro i hi
  have hl2 : (jobE (mkL (gJ k) l i)).length = l.length := by rw [jobE, List.length_map, mkL_length (gJ k) l hi]
  have hl3 := mkL_length (gJ k) l hi
  repeat' (first|refine zst ?_|(refine zhm fun hb=>?_;try exact zab)|refine zg2 ?_ ?_|(apply op_id;first|(refine st_storeDS rfl rfl rfl rfl rfl hl2 (by omega) rfl rfl rfl rfl ?_)|(refine st_storeD rfl rfl rfl rfl rfl hl2 (by omega) (map_at (by omega)) rfl rfl rfl rfl ?_))|refine zln fun _=>?_|refine zop ?_|fail)
  ·refine ⟨i + 1, by omega, by omega, ?_⟩
   refine ⟨rfl, ?_, ?_, rfl⟩
   repeat'(first|apply And.intro|exact ze0|refine ze1 ?_|refine zei ?_ ?_|exact rfl|trivial)
   all_goals exact Stop.mk (by first | rfl | exact mkL_set (f := jobD) (by omega))
  ·obtain rfl : i = l.length := by omega
   refine zm () [] (by exact trivial) ?_ ?_ ?_
   repeat'(first|apply And.intro|exact ze0|refine ze1 ?_|refine zei ?_ ?_|exact rfl|trivial)
   all_goals exact Stop.mk (by first | rfl | rw [mkL_all])
theorem markEndS_m {l : List EndS} {k : Nat} (h : l.length ≤ 1000000000) (hk : k ≤ 10000000000000000) : MCalls Tryz.prog 101 [.row 1000000, .d (.n .i64 k)] [(1000000, .row 134 (endE l) true)] (fun (_ : Unit) => True) (fun _ => [.d (.n .i64 ((k + 3 * l.length : Nat) : Int))]) (fun _ => [(1000000, .row 134 (endE (markL (gE k) l.length)) true)]) (fun _ => []) := by
 refine mcalls_of tt Tryz.func101 rfl rfl rfl ⟨.inl rfl, trivial⟩ (fun _ _ => ⟨⟨⟨rfl, rfl, (lens_map (f := (fun (e : EndS) => ([.n .i64 e.id, .n .i64 e.at', .n .i64 e.why] : List D))) (z := 3) (fun _ => rfl) (markL_length _ _)).symm⟩, trivial⟩, .inl rfl, trivial⟩) (fun w0 Z O => ?_)
 repeat' (first|refine zst ?_|(refine zhm fun hb=>?_;try exact zab)|refine zg2 ?_ ?_|refine zln fun _=>?_|refine zop ?_|fail)
 refine awp_loop (fun (i : Nat) => ⟨34, [(0, .row 1000000), (1, .d (.n .i64 ((k + 3 * i : Nat) : Int))), (5, .d (.n .i64 i))], [(1000000, .row 134 (endE (mkL (gE k) l i)) true)]⟩) (fun i => i ≤ l.length) (fun i => l.length - i) 0 (by omega) ?_ ?_
 ·refine ⟨rfl, ?_, ?_, rfl⟩
  repeat'(first|apply And.intro|exact ze0|refine ze1 ?_|refine zei ?_ ?_|exact rfl|trivial)
  all_goals exact Stop.mk (by first | rfl)
 ·intro i hi
  have hl2 : (endE (mkL (gE k) l i)).length = l.length := by rw [endE, List.length_map, mkL_length (gE k) l hi]
  have hl3 := mkL_length (gE k) l hi
  repeat' (first|refine zst ?_|(refine zhm fun hb=>?_;try exact zab)|refine zg2 ?_ ?_|(apply op_id;first|(refine st_storeDS rfl rfl rfl rfl rfl hl2 (by omega) rfl rfl rfl rfl ?_)|(refine st_storeD rfl rfl rfl rfl rfl hl2 (by omega) (map_at (by omega)) rfl rfl rfl rfl ?_))|refine zln fun _=>?_|refine zop ?_|fail)
  ·refine ⟨i + 1, by omega, by omega, ?_⟩
   refine ⟨rfl, ?_, ?_, rfl⟩
   repeat'(first|apply And.intro|exact ze0|refine ze1 ?_|refine zei ?_ ?_|exact rfl|trivial)
   all_goals exact Stop.mk (by first | rfl | exact mkL_set (f := (fun (e : EndS) => ([.n .i64 e.id, .n .i64 e.at', .n .i64 e.why] : List D))) (by omega))
  ·obtain rfl : i = l.length := by omega
   refine zm () [] (by exact trivial) ?_ ?_ ?_
   repeat'(first|apply And.intro|exact ze0|refine ze1 ?_|refine zei ?_ ?_|exact rfl|trivial)
   all_goals exact Stop.mk (by first | rfl | rw [mkL_all])
theorem heldNodeS_e {n k : Nat} (h : n ≤ 1000000000) (hk : k ≤ 10000000000000000) : ACalls Tryz.prog 205 [.d (.sl (nodeE (markL (gN k) n))), .d (.n .i64 k)] [.d (.n .i64 ((k + 4 * n : Nat) : Int))] [] := by
  refine acalls_of tt Tryz.func205 rfl rfl rfl (fun w0 Z => ?_)
  have hl := markL_length (gN k) n
  repeat' (first|refine zst ?_|(refine zhm fun hb=>?_;try exact zab)|refine zg2 ?_ ?_|refine zln fun _=>?_|refine zop ?_|fail)
  refine awp_loop (fun (i : Nat) => ⟨52, [(0, .d (.sl (nodeE (markL (gN k) n)))), (1, .d (.n .i64 ((k + 4 * i : Nat) : Int))), (5, .d (.n .i64 i))], []⟩) (fun i => i ≤ n) (fun i => n - i) 0 (by omega) ?_ ?_
  · exact ⟨rfl, zae, zae, rfl⟩
  · intro i hi
    repeat' (first|refine zst ?_|(refine zhm fun hb=>?_;try exact zab)|refine zg2 ?_ ?_|refine zln fun _=>?_|refine zop ?_|fail)
    all_goals first
      | (exact absurd (by rw [markL_nth (by omega)]; rfl) hb)
      | (refine ⟨i + 1, by omega, by omega, ?_⟩
         refine ⟨rfl, ?_, ?_, rfl⟩
         repeat'(first|apply And.intro|exact ze0|refine ze1 ?_|refine zei ?_ ?_|exact rfl|trivial)
         all_goals exact Stop.mk rfl)
      | (obtain rfl : i = n := by omega
         refine zr [] ?_ ?_
         repeat'(first|apply And.intro|exact ze0|refine ze1 ?_|refine zei ?_ ?_|exact rfl|trivial)
         all_goals exact Stop.mk rfl)
theorem heldJobS_e {n k : Nat} (h : n ≤ 1000000000) (hk : k ≤ 10000000000000000) : ACalls Tryz.prog 131 [.d (.sl (jobE (markL (gJ k) n))), .d (.n .i64 k)] [.d (.n .i64 ((k + 11 * n : Nat) : Int))] [] := by
  refine acalls_of tt Tryz.func131 rfl rfl rfl (fun w0 Z => ?_)
  have hl := markL_length (gJ k) n
  repeat' (first|refine zst ?_|(refine zhm fun hb=>?_;try exact zab)|refine zg2 ?_ ?_|refine zln fun _=>?_|refine zop ?_|fail)
  refine awp_loop (fun (i : Nat) => ⟨118, [(0, .d (.sl (jobE (markL (gJ k) n)))), (1, .d (.n .i64 ((k + 11 * i : Nat) : Int))), (5, .d (.n .i64 i))], []⟩) (fun i => i ≤ n) (fun i => n - i) 0 (by omega) ?_ ?_
  · exact ⟨rfl, zae, zae, rfl⟩
  · intro i hi
    repeat' (first|refine zst ?_|(refine zhm fun hb=>?_;try exact zab)|refine zg2 ?_ ?_|refine zln fun _=>?_|refine zop ?_|fail)
    all_goals first
      | (exact absurd (by rw [markL_nth (by omega)]; rfl) hb)
      | (refine ⟨i + 1, by omega, by omega, ?_⟩
         refine ⟨rfl, ?_, ?_, rfl⟩
         repeat'(first|apply And.intro|exact ze0|refine ze1 ?_|refine zei ?_ ?_|exact rfl|trivial)
         all_goals exact Stop.mk rfl)
      | (obtain rfl : i = n := by omega
         refine zr [] ?_ ?_
         repeat'(first|apply And.intro|exact ze0|refine ze1 ?_|refine zei ?_ ?_|exact rfl|trivial)
         all_goals exact Stop.mk rfl)
theorem heldEndS_e {n k : Nat} (h : n ≤ 1000000000) (hk : k ≤ 10000000000000000) : ACalls Tryz.prog 133 [.d (.sl (endE (markL (gE k) n))), .d (.n .i64 k)] [.d (.n .i64 ((k + 3 * n : Nat) : Int))] [] := by
  refine acalls_of tt Tryz.func133 rfl rfl rfl (fun w0 Z => ?_)
  have hl := markL_length (gE k) n
  repeat' (first|refine zst ?_|(refine zhm fun hb=>?_;try exact zab)|refine zg2 ?_ ?_|refine zln fun _=>?_|refine zop ?_|fail)
  refine awp_loop (fun (i : Nat) => ⟨40, [(0, .d (.sl (endE (markL (gE k) n)))), (1, .d (.n .i64 ((k + 3 * i : Nat) : Int))), (5, .d (.n .i64 i))], []⟩) (fun i => i ≤ n) (fun i => n - i) 0 (by omega) ?_ ?_
  · exact ⟨rfl, zae, zae, rfl⟩
  · intro i hi
    repeat' (first|refine zst ?_|(refine zhm fun hb=>?_;try exact zab)|refine zg2 ?_ ?_|refine zln fun _=>?_|refine zop ?_|fail)
    all_goals first
      | (exact absurd (by rw [markL_nth (by omega)]; rfl) hb)
      | (refine ⟨i + 1, by omega, by omega, ?_⟩
         refine ⟨rfl, ?_, ?_, rfl⟩
         repeat'(first|apply And.intro|exact ze0|refine ze1 ?_|refine zei ?_ ?_|exact rfl|trivial)
         all_goals exact Stop.mk rfl)
      | (obtain rfl : i = n := by omega
         refine zr [] ?_ ?_
         repeat'(first|apply And.intro|exact ze0|refine ze1 ?_|refine zei ?_ ?_|exact rfl|trivial)
         all_goals exact Stop.mk rfl)
theorem heldIntS_e {n k : Nat} (h : n ≤ 1000000000) (hk : k ≤ 10000000000000000) : ACalls Tryz.prog 113 [.d (.sl (intE (markL (gI k) n))), .d (.n .i64 k)] [.d (.n .i64 ((k + 1 * n : Nat) : Int))] [] := by
  refine acalls_of tt Tryz.func113 rfl rfl rfl (fun w0 Z => ?_)
  have hl := markL_length (gI k) n
  repeat' (first|refine zst ?_|(refine zhm fun hb=>?_;try exact zab)|refine zg2 ?_ ?_|refine zln fun _=>?_|refine zop ?_|fail)
  refine awp_loop (fun (i : Nat) => ⟨21, [(0, .d (.sl (intE (markL (gI k) n)))), (1, .d (.n .i64 ((k + 1 * i : Nat) : Int))), (5, .d (.n .i64 i))], []⟩) (fun i => i ≤ n) (fun i => n - i) 0 (by omega) ?_ ?_
  · exact ⟨rfl, zae, zae, rfl⟩
  · intro i hi
    repeat' (first|refine zst ?_|(refine zhm fun hb=>?_;try exact zab)|refine zg2 ?_ ?_|refine zln fun _=>?_|refine zop ?_|fail)
    all_goals first
      | (exact absurd (by rw [markL_nth (by omega)]; rfl) hb)
      | (refine ⟨i + 1, by omega, by omega, ?_⟩
         refine ⟨rfl, ?_, ?_, rfl⟩
         repeat'(first|apply And.intro|exact ze0|refine ze1 ?_|refine zei ?_ ?_|exact rfl|trivial)
         all_goals exact Stop.mk rfl)
      | (obtain rfl : i = n := by omega
         refine zr [] ?_ ?_
         repeat'(first|apply And.intro|exact ze0|refine ze1 ?_|refine zei ?_ ?_|exact rfl|trivial)
         all_goals exact Stop.mk rfl)
end Go.Proofs.YtliopiphobopjaaGreat
namespace Go.Proofs.YtliopiphobopjaaGreat
open Go Go.RowKit
attribute [local irreducible] AWp OpsOk OpOk ACalls ChA QsOk MCalls EnC PY
def mR (k : Nat) (r : Run) : Run := ⟨⟨(k : Int), ((k + 1 : Nat) : Int), ((k + 2 : Nat) : Int), ⟨((k + 3 : Nat) : Int), ((k + 4 : Nat) : Int), ((k + 5 : Nat) : Int)⟩, ⟨((k + 6 : Nat) : Int), ((k + 7 : Nat) : Int), ((k + 8 : Nat) : Int)⟩, ((k + 9 : Nat) : Int), ((k + 10 : Nat) : Int)⟩, ((k + 11 : Nat) : Int), markL (gI (k + 12)) r.nodes.length⟩
/-! ### Marks in a list of elements of their own widths -/
section
variable {α : Type} (m : Nat → α → α) (w : α → Nat)
def mSq : Nat → List α → List α
 | _, [] => []
 | k, r :: l => m k r :: mSq (k + w r) l
def kSq : Nat → List α → Nat
 | k, [] => k
 | k, r :: l => kSq (k + w r) l
theorem mSq_length : ∀ (k : Nat) (l : List α), (mSq m w k l).length = l.length
 | _, [] => rfl
 | k, r :: l => by rw [mSq, List.length_cons, mSq_length, List.length_cons]
def mxS (k : Nat) (l : List α) (j : Nat) : List α := mSq m w k (l.take j) ++ l.drop j
def kAtS (k : Nat) (l : List α) (j : Nat) : Nat := kSq w k (l.take j)
theorem mxS_all (k : Nat) (l : List α) : mxS m w k l l.length = mSq m w k l := by simp [mxS]
theorem kAtS_all (k : Nat) (l : List α) : kAtS w k l l.length = kSq w k l := by simp [kAtS]
theorem mxS_length {k : Nat} {l : List α} {j : Nat} (h : j ≤ l.length) : (mxS m w k l j).length = l.length := by simp [mxS, mSq_length]; omega
theorem mxS_nth [Inhabited α] {k : Nat} {l : List α} {j : Nat} (h : j < l.length) : nth (mxS m w k l j) j = nth l j := by
 have : (mxS m w k l j)[j]? = l[j]? := by
  unfold mxS
  rw [List.getElem?_append_right (by rw [mSq_length, List.length_take]; omega), List.getElem?_drop, mSq_length, List.length_take]
  congr 1; omega
 simp only [nth, List.getD_eq_getElem?_getD, this]
theorem step_S [Inhabited α] : ∀ (k : Nat) (l : List α) (j : Nat), j < l.length → mSq m w k (l.take (j + 1)) = mSq m w k (l.take j) ++ [m (kAtS w k l j) (nth l j)] ∧ kAtS w k l (j + 1) = kAtS w k l j + w (nth l j)
 | _, [], j, h => absurd h (Nat.not_lt_zero _)
 | k, r :: l, 0, _ => by simp [mSq, kAtS, kSq, nth]
 | k, r :: l, j + 1, h => by
  obtain ⟨h1, h2⟩ := step_S (k + w r) l j (by simpa using h)
  have e : nth (r :: l) (j + 1) = nth l j := by simp [nth]
  constructor
  ·rw [List.take_succ_cons, mSq, h1, List.take_succ_cons, mSq, e]; rfl
  ·rw [e]; exact h2
theorem mxS_set [Inhabited α] {f : α → List D} {k : Nat} {l : List α} {j : Nat} (h : j < l.length) : ((mxS m w k l j).map f).set j (f (m (kAtS w k l j) (nth l j))) = (mxS m w k l (j + 1)).map f := by
 have hl : (mSq m w k (l.take j)).length = j := by rw [mSq_length, List.length_take]; omega
 have hd : l.drop j = nth l j :: l.drop (j + 1) := by
  rw [List.drop_eq_getElem_cons h]
  simp [nth, h]
 unfold mxS
 rw [(step_S m w k l j h).1, hd, List.map_append, List.map_cons, List.set_append_right _ _ (by rw [List.length_map, hl]; exact Nat.le_refl _), List.length_map, hl, Nat.sub_self, List.set_cons_zero]
 simp
theorem mSq_nth [Inhabited α] : ∀ (k : Nat) (l : List α) (j : Nat), j < l.length → nth (mSq m w k l) j = m (kAtS w k l j) (nth l j)
 | _, [], j, h => absurd h (Nat.not_lt_zero _)
 | k, r :: l, 0, _ => by simp [mSq, kAtS, kSq, nth]
 | k, r :: l, j + 1, h => by
  have := mSq_nth (k + w r) l j (by simpa using h)
  have e : nth (r :: l) (j + 1) = nth l j := by simp [nth]
  have e2 : nth (mSq m w k (r :: l)) (j + 1) = nth (mSq m w (k + w r) l) j := by simp [nth, mSq]
  rw [e, e2]
  exact this
theorem kSq_le {c : Nat} : ∀ {l : List α} {k : Nat}, (∀ r ∈ l, w r ≤ c) → k ≤ kSq w k l ∧ kSq w k l ≤ k + c * l.length
 | [], k, _ => ⟨Nat.le_refl _, Nat.le_refl _⟩
 | r :: l, k, h => by
  obtain ⟨h1, h2⟩ := kSq_le (c := c) (l := l) (k := k + w r) fun q hq => h q (List.mem_cons_of_mem _ hq)
  have := h r List.mem_cons_self
  rw [List.length_cons, Nat.mul_succ]
  exact ⟨Nat.le_trans (Nat.le_add_right _ _) h1, by simp only [kSq]; omega⟩
theorem kAtS_le [Inhabited α] {c : Nat} {l : List α} {k j : Nat} (h : ∀ j, j < l.length → w (nth l j) ≤ c) (hl : l.length ≤ 1048576) : k ≤ kAtS w k l j ∧ kAtS w k l j ≤ k + c * 1048576 := by
 have h1 : ∀ r ∈ l.take j, w r ≤ c := fun r hr => by
  obtain ⟨i, hi, rfl⟩ := List.getElem_of_mem (List.mem_of_mem_take hr)
  have := h i hi
  simpa [nth, hi] using this
 obtain ⟨h2, h3⟩ := kSq_le w (k := k) h1
 have : (l.take j).length ≤ 1048576 := by rw [List.length_take]; omega
 exact ⟨h2, Nat.le_trans h3 (Nat.add_le_add_left (Nat.mul_le_mul_left c this) k)⟩
end
theorem nth_lt {α : Type} [Inhabited α] {l : List α} {j : Nat} (h : j < l.length) : l[j]? = some (nth l j) := by simp [nth, h]
@[reducible] def wR (r : Run) : Nat := 12 + r.nodes.length
@[reducible] def mRs (k : Nat) (l : List Run) : List Run := mSq mR wR k l
@[reducible] def kR (k : Nat) (l : List Run) : Nat := kSq wR k l
@[reducible] def mxR (k : Nat) (l : List Run) (j : Nat) : List Run := mxS mR wR k l j
@[reducible] def kAt (k : Nat) (l : List Run) (j : Nat) : Nat := kAtS wR k l j
theorem mRs_length (k : Nat) (l : List Run) : (mRs k l).length = l.length := mSq_length mR wR k l
theorem mxR_all (k : Nat) (l : List Run) : mxR k l l.length = mRs k l := mxS_all mR wR k l
theorem kAt_all (k : Nat) (l : List Run) : kAt k l l.length = kR k l := kAtS_all wR k l
theorem mxR_length {k : Nat} {l : List Run} {j : Nat} (h : j ≤ l.length) : (mxR k l j).length = l.length := mxS_length mR wR h
theorem mxR_nth {k : Nat} {l : List Run} {j : Nat} (h : j < l.length) : nth (mxR k l j) j = nth l j := mxS_nth mR wR h
theorem step_R (k : Nat) (l : List Run) (j : Nat) (h : j < l.length) : mRs k (l.take (j + 1)) = mRs k (l.take j) ++ [mR (kAt k l j) (nth l j)] ∧ kAt k l (j + 1) = kAt k l j + 12 + (nth l j).nodes.length := by
 obtain ⟨h1, h2⟩ := step_S mR wR k l j h
 exact ⟨h1, by rw [show kAt k l (j + 1) = kAt k l j + (12 + (nth l j).nodes.length) from h2]; omega⟩
theorem mxR_set {k : Nat} {l : List Run} {j : Nat} (h : j < l.length) : (runE (mxR k l j)).set j (runD (mR (kAt k l j) (nth l j))) = runE (mxR k l (j + 1)) := mxS_set mR wR (f := runD) h
theorem mRs_nth (k : Nat) (l : List Run) (j : Nat) (h : j < l.length) : nth (mRs k l) j = mR (kAt k l j) (nth l j) := mSq_nth mR wR k l j h
theorem kAt_le {l : List Run} {k j : Nat} (h : ∀ j, j < l.length → (nth l j).nodes.length ≤ 1048576) (hl : l.length ≤ 1048576) : k ≤ kAt k l j ∧ kAt k l j ≤ k + 1099524276288 := by
 have := kAtS_le wR (c := 1048588) (k := k) (j := j) (fun i hi => by have := h i hi; simp only [wR]; omega) hl
 have e : kAtS wR k l j = kAt k l j := rfl
 rw [e] at this
 omega
theorem markIntS_m {e' : TypeId} (he : (Tryz.prog.info? e').map (·.size) = some 1) {l : List Int} {k : Nat} (h : l.length ≤ 1000000000) (hk : k ≤ 10000000000000000) : MCalls Tryz.prog 111 [.row 1000000, .d (.n .i64 k)] [(1000000, .row e' (intE l) true)] (fun (_ : Unit) => True) (fun _ => [.d (.n .i64 ((k + 1 * l.length : Nat) : Int))]) (fun _ => [(1000000, .row e' (intE (markL (gI k) l.length)) true)]) (fun _ => []) := by
 refine mcalls_of tt Tryz.func111 rfl rfl rfl ⟨.inl rfl, trivial⟩ (fun _ _ => ⟨⟨⟨rfl, rfl, (lens_map (f := (fun (x : Int) => ([.n .i64 x] : List D))) (z := 1) (fun _ => rfl) (markL_length _ _)).symm⟩, trivial⟩, .inl rfl, trivial⟩) (fun w0 Z O => ?_)
 repeat' (first|refine zst ?_|(refine zhm fun hb=>?_;try exact zab)|refine zg2 ?_ ?_|refine zln fun _=>?_|refine zop ?_|fail)
 refine awp_loop (fun (i : Nat) => ⟨19, [(0, .row 1000000), (1, .d (.n .i64 ((k + 1 * i : Nat) : Int))), (5, .d (.n .i64 i))], [(1000000, .row e' (intE (mkL (gI k) l i)) true)]⟩) (fun i => i ≤ l.length) (fun i => l.length - i) 0 (by omega) ?_ ?_
 ·refine ⟨rfl, ?_, ?_, rfl⟩
  repeat'(first|apply And.intro|exact ze0|refine ze1 ?_|refine zei ?_ ?_|exact rfl|trivial)
  all_goals exact Stop.mk (by first | rfl)
 ·intro i hi
  have hl2 : (intE (mkL (gI k) l i)).length = l.length := by rw [intE, List.length_map, mkL_length (gI k) l hi]
  have hl3 := mkL_length (gI k) l hi
  repeat' (first|refine zst ?_|(refine zhm fun hb=>?_;try exact zab)|refine zg2 ?_ ?_|(apply op_id;first|(refine QOk.ok (st_idxrz (e := 3) rfl rfl rfl rfl rfl he rfl rfl hl2 (by omega) rfl ?_))|(refine st_storeD rfl rfl rfl rfl rfl hl2 (by omega) (map_at (by omega)) rfl rfl rfl rfl ?_))|refine zln fun _=>?_|refine zop ?_|fail)
  ·refine ⟨i + 1, by omega, by omega, ?_⟩
   refine ⟨rfl, ?_, ?_, rfl⟩
   repeat'(first|apply And.intro|exact ze0|refine ze1 ?_|refine zei ?_ ?_|exact rfl|trivial)
   all_goals exact Stop.mk (by first | rfl | exact mkL_set (f := (fun (x : Int) => ([.n .i64 x] : List D))) (by omega))
  ·obtain rfl : i = l.length := by omega
   refine zm () [] (by exact trivial) ?_ ?_ ?_
   repeat'(first|apply And.intro|exact ze0|refine ze1 ?_|refine zei ?_ ?_|exact rfl|trivial)
   all_goals exact Stop.mk (by first | rfl | rw [mkL_all])
theorem markIntS_0 {k : Nat} : ACalls Tryz.prog 111 [.d (.sl []), .d (.n .i64 k)] [.d (.n .i64 k)] [] := by
 refine acalls_of tt Tryz.func111 rfl rfl rfl (fun w0 Z => ?_)
 repeat' (first|refine zst ?_|(refine zhm fun hb=>?_;try exact zab)|refine zg2 ?_ ?_|refine zln fun _=>?_|refine zop ?_|fail)
 refine awp_loop (fun (_ : Unit) => ⟨19, [(0, .d (.sl [])), (1, .d (.n .i64 k)), (5, .d (.n .i64 0))], []⟩) (fun _ => True) (fun _ => 0) () trivial ?_ ?_
 ·exact ⟨rfl, zae, zae, rfl⟩
 ·intro i hi
  repeat' (first|refine zst ?_|(refine zhm fun hb=>?_;try exact zab)|refine zg2 ?_ ?_|refine zln fun _=>?_|refine zop ?_|fail)
  exact zr [] zae zae
end Go.Proofs.YtliopiphobopjaaGreat
namespace Go.Proofs.YtliopiphobopjaaGreat
open Go Go.RowKit
attribute [local irreducible] AWp OpsOk OpOk ACalls ChA QsOk MCalls EnC PY
theorem mapE_int {l : List Int} : (∀ q ∈ intE l, q.length = 1) := fun q hq => by
 obtain ⟨x, _, rfl⟩ := List.mem_map.1 hq
 rfl
theorem markRunS_m {l : List Run} {k : Nat} (h : l.length ≤ 1048576) (hr : ∀ j, j < l.length → (nth l j).nodes.length ≤ 1048576) (hk : k ≤ 1000000000000000) : MCalls Tryz.prog 100 [.row 1000000, .d (.n .i64 k)] [(1000000, .row 116 (runE l) true)] (fun (_ : Unit) => True) (fun _ => [.d (.n .i64 ((kR k l : Nat) : Int))]) (fun _ => [(1000000, .row 116 (runE (mRs k l)) true)]) (fun _ => []) := by
 refine mcalls_of tt Tryz.func100 rfl rfl rfl ⟨.inl rfl, trivial⟩ (fun _ _ => ⟨⟨⟨rfl, rfl, (lens_map (f := runD) (z := 13) (fun _ => rfl) (mRs_length _ _)).symm⟩, trivial⟩, .inl rfl, trivial⟩) (fun w0 Z O => ?_)
 repeat' (first|refine zst ?_|(refine zhm fun hb=>?_;try exact zab)|refine zg2 ?_ ?_|refine zln fun _=>?_|refine zop ?_|fail)
 refine awp_loop (fun (i : Nat) => ⟨121, [(0, .row 1000000), (1, .d (.n .i64 ((kAt k l i : Nat) : Int))), (5, .d (.n .i64 i))], [(1000000, .row 116 (runE (mxR k l i)) true)]⟩) (fun i => i ≤ l.length) (fun i => l.length - i) 0 (by omega) ?_ ?_
 ·refine ⟨rfl, ?_, ?_, rfl⟩
  repeat'(first|apply And.intro|exact ze0|refine ze1 ?_|refine zei ?_ ?_|exact rfl|trivial)
  all_goals exact Stop.mk (by first | rfl)
 ·intro i hi
  have hl3 := mxR_length (k := k) hi
  have hl2 : (runE (mxR k l i)).length = l.length := by rw [runE_length, hl3]
  by_cases hi' : i < l.length
  ·have hat := runE_at (l := mxR k l i) (j := i) (by omega)
   rw [mxR_nth hi'] at hat
   have hka := kAt_le (k := k) (j := i) hr h
   have hnl := hr i hi'
   have hst := (step_R k l i hi').2
   repeat' (first|(refine ops_takecall (z1 := 1) (es1 := intE (nth l i).nodes) (es2 := intE (markL (gI (kAt k l i + 12)) (nth l i).nodes.length)) (kv := ((kAt k l i + 12 : Nat) : Int)) (kr := ((kAt k l i + 12 + 1 * (nth l i).nodes.length : Nat) : Int)) rfl rfl rfl rfl rfl rfl (List.getElem?_set_self (by omega)) rfl rfl rfl rfl rfl rfl (by intro k h;injection h with h;subst h;rfl) rfl rfl rfl rfl rfl rfl mapE_int (flatE_map fun _ => rfl) (flatE_map fun _ => rfl) (by rw [intE_length', intE_length', markL_length]) (fun _ e' he => markIntS_m he (by omega) (by omega)) (fun he => by rw [show (nth l i).nodes.length = 0 from by rw [← intE_length', he];rfl];exact markIntS_0) ?_)|refine zst ?_|(refine zhm fun hb=>?_;try exact zab)|refine zg2 ?_ ?_|(apply op_id;first|(refine st_storeDS rfl rfl rfl rfl rfl hl2 (by omega) rfl rfl rfl rfl ?_)|(refine st_storeD rfl rfl rfl rfl rfl hl2 (by omega) hat rfl rfl rfl rfl ?_))|refine zln fun _=>?_|refine zop ?_|fail)
   refine ⟨i + 1, by omega, by omega, ?_⟩
   refine ⟨rfl, ?_, ?_, rfl⟩
   repeat'(first|apply And.intro|exact ze0|refine ze1 ?_|refine zei ?_ ?_|exact rfl|trivial)
   all_goals exact Stop.mk (by first | rfl | exact (List.set_set ..).trans (mxR_set hi') | (rw [hst]; congr 1; omega))
  ·obtain rfl : i = l.length := by omega
   repeat' (first|refine zst ?_|(refine zhm fun hb=>?_;try exact zab)|refine zg2 ?_ ?_|refine zln fun _=>?_|refine zop ?_|fail)
   refine zm () [] (by exact trivial) ?_ ?_ ?_
   repeat'(first|apply And.intro|exact ze0|refine ze1 ?_|refine zei ?_ ?_|exact rfl|trivial)
   all_goals exact Stop.mk (by first | rfl | rw [mxR_all] | rw [kAt_all])
end Go.Proofs.YtliopiphobopjaaGreat
namespace Go.Proofs.YtliopiphobopjaaGreat
open Go Go.RowKit
attribute [local irreducible] AWp OpsOk OpOk ACalls ChA QsOk MCalls EnC PY
def gO (k j : Nat) : Bool := decide ((((k + 1 * j) % 3 : Nat) : Int) = 0)
theorem markBoolS_m {l : List Bool} {k : Nat} (h : l.length ≤ 1000000000) (hk : k ≤ 10000000000000000) : MCalls Tryz.prog 98 [.row 1000000, .d (.n .i64 k)] [(1000000, .row 4 (boolE l) true)] (fun (_ : Unit) => True) (fun _ => [.d (.n .i64 ((k + 1 * l.length : Nat) : Int))]) (fun _ => [(1000000, .row 4 (boolE (markL (gO k) l.length)) true)]) (fun _ => []) := by
 refine mcalls_of tt Tryz.func98 rfl rfl rfl ⟨.inl rfl, trivial⟩ (fun _ _ => ⟨⟨⟨rfl, rfl, (lens_map (f := (fun (b : Bool) => ([.b b] : List D))) (z := 1) (fun _ => rfl) (markL_length _ _)).symm⟩, trivial⟩, .inl rfl, trivial⟩) (fun w0 Z O => ?_)
 repeat' (first|refine zst ?_|(refine zhm fun hb=>?_;try exact zab)|refine zg2 ?_ ?_|refine zln fun _=>?_|refine zop ?_|fail)
 refine awp_loop (fun (i : Nat) => ⟨21, [(0, .row 1000000), (1, .d (.n .i64 ((k + 1 * i : Nat) : Int))), (5, .d (.n .i64 i))], [(1000000, .row 4 (boolE (mkL (gO k) l i)) true)]⟩) (fun i => i ≤ l.length) (fun i => l.length - i) 0 (by omega) ?_ ?_
 ·refine ⟨rfl, ?_, ?_, rfl⟩
  repeat'(first|apply And.intro|exact ze0|refine ze1 ?_|refine zei ?_ ?_|exact rfl|trivial)
  all_goals exact Stop.mk (by first | rfl)
 ·intro i hi
  have hl2 : (boolE (mkL (gO k) l i)).length = l.length := by rw [boolE, List.length_map, mkL_length (gO k) l hi]
  have hl3 := mkL_length (gO k) l hi
  repeat' (first|refine zst ?_|(refine zhm fun hb=>?_;try exact zab)|refine zg2 ?_ ?_|(apply op_id;first|(refine st_storeDS rfl rfl rfl rfl rfl hl2 (by omega) rfl rfl rfl rfl ?_)|(refine st_storeD rfl rfl rfl rfl rfl hl2 (by omega) (map_at (by omega)) rfl rfl rfl rfl ?_))|refine zln fun _=>?_|refine zop ?_|fail)
  ·refine ⟨i + 1, by omega, by omega, ?_⟩
   refine ⟨rfl, ?_, ?_, rfl⟩
   repeat'(first|apply And.intro|exact ze0|refine ze1 ?_|refine zei ?_ ?_|exact rfl|trivial)
   all_goals exact Stop.mk (by first | rfl | exact mkL_set (f := (fun (b : Bool) => ([.b b] : List D))) (by omega))
  ·obtain rfl : i = l.length := by omega
   refine zm () [] (by exact trivial) ?_ ?_ ?_
   repeat'(first|apply And.intro|exact ze0|refine ze1 ?_|refine zei ?_ ?_|exact rfl|trivial)
   all_goals exact Stop.mk (by first | rfl | rw [mkL_all])
theorem heldBoolS_e {n k : Nat} (h : n ≤ 1000000000) (hk : k ≤ 10000000000000000) : ACalls Tryz.prog 130 [.d (.sl (boolE (markL (gO k) n))), .d (.n .i64 k)] [.d (.n .i64 ((k + 1 * n : Nat) : Int))] [] := by
  refine acalls_of tt Tryz.func130 rfl rfl rfl (fun w0 Z => ?_)
  have hl := markL_length (gO k) n
  repeat' (first|refine zst ?_|(refine zhm fun hb=>?_;try exact zab)|refine zg2 ?_ ?_|refine zln fun _=>?_|refine zop ?_|fail)
  refine awp_loop (fun (i : Nat) => ⟨23, [(0, .d (.sl (boolE (markL (gO k) n)))), (1, .d (.n .i64 ((k + 1 * i : Nat) : Int))), (5, .d (.n .i64 i))], []⟩) (fun i => i ≤ n) (fun i => n - i) 0 (by omega) ?_ ?_
  · exact ⟨rfl, zae, zae, rfl⟩
  · intro i hi
    repeat' (first|refine zst ?_|(refine zhm fun hb=>?_;try exact zab)|refine zg2 ?_ ?_|refine zln fun _=>?_|refine zop ?_|fail)
    all_goals first
      | (exact absurd (by rw [markL_nth (by omega)]; rfl) hb)
      | (refine ⟨i + 1, by omega, by omega, ?_⟩
         refine ⟨rfl, ?_, ?_, rfl⟩
         repeat'(first|apply And.intro|exact ze0|refine ze1 ?_|refine zei ?_ ?_|exact rfl|trivial)
         all_goals exact Stop.mk rfl)
      | (obtain rfl : i = n := by omega
         refine zr [] ?_ ?_
         repeat'(first|apply And.intro|exact ze0|refine ze1 ?_|refine zei ?_ ?_|exact rfl|trivial)
         all_goals exact Stop.mk rfl)
end Go.Proofs.YtliopiphobopjaaGreat
