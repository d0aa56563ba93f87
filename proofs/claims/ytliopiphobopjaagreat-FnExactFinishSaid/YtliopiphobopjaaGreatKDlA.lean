/-
  The library's Delete, at jobs.
-/
import Derived.Test.YtliopiphobopjaaGreatKShL
import Derived.Test.YtliopiphobopjaaGreatKB9
import Derived.Test.YtliopiphobopjaaGreatKB20
set_option maxRecDepth 100000
set_option maxHeartbeats 16000000
namespace Go.Proofs.YtliopiphobopjaaGreat
open Go Go.RowKit
section
variable {X : Cx} {σ : AS} {o : Oper} {K : AS → Prop} {t : Nat}
theorem st_slice3 {T e : TypeId} {x lo hi mx : Operand} {p i j m : Nat} {es : List (List D)} {dp : Bool} {u v q : Int} [te : TI X.P e] (ho : o.op = .slice T x (some lo) (some hi) (some mx)) (hd : o.dst = some t) (hT : sliceT X T = some e) (hx : σ.ev x = .row p) (hp : lookO σ.ob p = some (.row e es dp))
  (hlo : σ.ev lo = .d (.n .i64 u)) (hi' : u = (i : Int)) (hhi : σ.ev hi = .d (.n .i64 v)) (hj : v = (j : Int)) (hmx : σ.ev mx = .d (.n .i64 q)) (hm : q = (m : Int)) (hb : i ≤ j ∧ j ≤ m ∧ m ≤ es.length) (ht : Nat.blt t σ.nt = true) (hK : K (σ.put t .any)) : QOk X o σ K := by
 subst hi'; subst hj; subst hm
 refine op_val hd ht (fun a w en h => ?_) hK
 have hu := sliceT_und hT
 obtain ⟨y, hy, hyn, hya, A, c, g1, g2, g4, g5, g6⟩ := row_ent h hp
 obtain ⟨y', hy', e1, e2, e3⟩ := ev_of h hx
 have := h.mem.ent_unique hy' hy (e1.trans hyn.symm)
 subst this
 obtain ⟨F1, ⟨f1, _⟩, _⟩ := ev_of h hlo
 obtain ⟨F2, ⟨f2, _⟩, _⟩ := ev_of h hhi
 obtain ⟨F3, ⟨f3, _⟩, _⟩ := ev_of h hmx
 obtain ⟨q, h12, _, h13, _⟩ := te.parts
 have hbnd : ∀ w' : World, (Instr.sliceBounds true es.length c (some (.int .i64 i)) (some (.int .i64 j)) (some (.int .i64 m))).run X.P w' = .ok (i, j, m) w' := fun w' => by
  have b : ∀ (x y : Nat) (c : BoundsCode) (w : World), x ≤ y → (Instr.sliceBound (.int .i64 (x : Int)) y c).run X.P w = .ok x w := fun x y c w h => by
   rw [run_sliceBound w .i64 x y c (by omega) (by omega)]; simp
  have h1 : m ≤ c := by omega
  simp [Instr.sliceBounds, *]
 rw [g1] at e3
 refine ⟨.slice (if m = i then A else A.map (·.add (i * te.size))) (j - i) (m - i), fun w' _ => ?_, trivial⟩
 simp only [execOp, ho, e3, Option.map_some, f1, f2, f3, Instr.sliceAt, Sem.run_bind, run_underlying hu, Instr.slice, hbnd w', sizeOf, typeInfo, run_program, h12, h13, Sem.run_pure, Result.andThen]
end
attribute [local irreducible] AWp OpsOk OpOk ACalls ChA QsOk MCalls NCalls EnC PY
theorem del_flat {E : List (List D)} {k m : Nat} (h : flatE E = true) : flatE (E.take k ++ (E.drop (k + 1) ++ E.drop m)) = true := by
 unfold flatE at *
 rw [List.all_eq_true] at *
 intro x hx
 rcases List.mem_append.1 hx with hx | hx
 ·exact h x (List.mem_of_mem_take hx)
 ·rcases List.mem_append.1 hx with hx | hx
  ·exact h x (List.mem_of_mem_drop hx)
  ·exact h x (List.mem_of_mem_drop hx)
theorem del_flat2 {E : List (List D)} {z : List D} {k m a i n : Nat} (h : flatE E = true) (hz : z.all D.flat1 = true := by rfl) : flatE ((E.take k ++ (E.drop (k + 1) ++ E.drop m)).take i ++ (List.replicate a z ++ (E.take k ++ (E.drop (k + 1) ++ E.drop m)).drop n)) = true := by
 have h1 := del_flat (k := k) (m := m) h
 unfold flatE at h1 ⊢
 rw [List.all_eq_true] at h1 ⊢
 intro x hx
 rcases List.mem_append.1 hx with hx | hx
 ·exact h1 x (List.mem_of_mem_take hx)
 ·rcases List.mem_append.1 hx with hx | hx
  ·rw [List.eq_of_mem_replicate hx]; exact hz
  ·exact h1 x (List.mem_of_mem_drop hx)
theorem del_eq {l : List Job} {k a n : Nat} {z : List D} (hk : k < l.length) : List.take (l.length - 1) ((List.take k (jobE l) ++ (List.drop (k + 1) (jobE l) ++ List.drop (l.length - 1) (jobE l))).take (l.length - 1) ++ (List.replicate a z ++ (List.take k (jobE l) ++ (List.drop (k + 1) (jobE l) ++ List.drop (l.length - 1) (jobE l))).drop n)) = jobE (l.eraseIdx k) := by
 have hle := jobE_length l
 have h1 : (List.take k (jobE l) ++ List.drop (k + 1) (jobE l)).length = l.length - 1 := by
  rw [List.length_append, List.length_take, List.length_drop]; omega
 have h2 : (List.take k (jobE l) ++ (List.drop (k + 1) (jobE l) ++ List.drop (l.length - 1) (jobE l))).take (l.length - 1) = List.take k (jobE l) ++ List.drop (k + 1) (jobE l) := by
  rw [← List.append_assoc, List.take_append_of_le_length (by omega), ← h1, List.take_length]
 rw [h2, List.take_append_of_le_length (by omega), ← h1, List.take_length, List.eraseIdx_eq_take_drop_succ]
 simp [jobE, List.map_take, List.map_drop]
theorem delete_n {l : List Job} {k : Nat} (hk : k < l.length) (hl : l.length ≤ 1000000000) : NCalls Tryz.prog 153 [.row 500000, .d (.n .i64 k), .d (.n .i64 ((k + 1 : Nat) : Int))] [(500000, .row 94 (jobE l) true)] (fun _ : Unit => True) (fun _ => [.row 0]) (fun _ => [(0, .row 94 (jobE (l.eraseIdx k)) true)]) := by
 refine ncalls_of tt Tryz.func153 rfl rfl rfl (fun _ _ => rfl) (fun w0 Z O => ?_)
 have hle := jobE_length l
 have hfl : flatE (jobE l) = true := flatE_map fun _ => rfl
 have hfd := del_flat (k := k) (m := l.length - 1) hfl
 repeat' (first|refine zsr ?_|(refine zhm fun hb=>?_;try exact zab)|refine zdr ?_|(apply zchE;exact zcg)|(apply zch;exact zcg)|refine HopS.mk fun w0 Z O=>?_|exact zhk|refine zg3 ?_ ?_|(apply op_id;first|(refine QOk.ok (st_slice3 rfl rfl rfl rfl rfl rfl rfl rfl rfl rfl rfl (by omega) rfl ?_))|(refine st_delapp (j := k + 1) (m := l.length - 1) rfl rfl rfl rfl rfl rfl ⟨rfl, rfl, rfl⟩ hfl hle (by omega) (by omega) rfl ?_)|(refine QOk.ok (st_slicesubx (n := l.length) (i := l.length - 1) (j := l.length) rfl rfl rfl rfl rfl (by simp;omega) rfl (by omega) rfl (by omega) (by omega) rfl ?_))|(refine st_clearsub rfl rfl rfl rfl rfl ⟨rfl, rfl, rfl⟩ rfl rfl rfl rfl hfd (by omega) ?_))|refine zln fun _=>?_|refine zop ?_|fail)
 show AWp _ _ _ _
 refine awp_subrow 6 rfl rfl (del_flat2 hfl) (by simp; omega) rfl ?_
 apply awp_ret'
 refine zn () [500000] (by exact trivial) ?_ ?_
 repeat'(first|apply And.intro|exact ze0|refine ze1 ?_|refine zei ?_ ?_|exact rfl|trivial)
 all_goals exact Stop.mk (del_eq hk)
end Go.Proofs.YtliopiphobopjaaGreat
