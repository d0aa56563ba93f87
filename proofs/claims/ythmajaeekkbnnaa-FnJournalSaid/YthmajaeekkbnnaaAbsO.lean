/-
  The walk over abstract states: rows made data, strings and bytes, structs as values.
-/
import Derived.Test.YthmajaeekkbnnaaAbsN
namespace Go.Proofs.Ythmajaeekkbnnaa
open Go Go.RowKit

/-! ### A row that nothing writes any more is data -/
mutual
def AV.frz (p : Nat) (es : List (List D)) : AV → AV
  | .row o => bif Nat.beq o p then .d (.sl es) else .row o
  | .pr o i off => bif Nat.beq o p then .any else .pr o i off
  | .ptr o off => bif Nat.beq o p then .any else .ptr o off
  | .agg xs => .agg (frzL p es xs)
  | .tup xs => .tup (frzL p es xs)
  | x => x
def frzL (p : Nat) (es : List (List D)) : List AV → List AV
  | [] => []
  | x :: xs => x.frz p es :: frzL p es xs
end
def AO.frz (p : Nat) (es : List (List D)) : AO → AO
  | .box e cs => .box e (frzL p es cs)
  | x => x
def AS.frz (σ : AS) (p : Nat) (es : List (List D)) : AS := ⟨σ.nt, σ.sl.map fun y => (y.1, y.2.frz p es), (dropO p σ.ob).map fun y => (y.1, y.2.frz p es)⟩
theorem AO.frz_isRow (p : Nat) (es : List (List D)) (x : AO) : (x.frz p es).isRow = x.isRow := by cases x <;> rfl
theorem AO.frz_lens (p : Nat) (es : List (List D)) (x : AO) : (x.frz p es).lens = x.lens := by cases x <;> rfl
theorem AO.frz_deep (p : Nat) (es : List (List D)) (x : AO) : (x.frz p es).deep = x.deep := by cases x <;> rfl
theorem beq_ne {a b : Nat} (h : a ≠ b) : Nat.beq a b = false := by
  cases hb : Nat.beq a b with
  | false => rfl
  | true => exact absurd ((beq_spec a b).1 hb) h
theorem beq_eq' (a : Nat) : Nat.beq a a = true := (beq_spec a a).2 rfl
section
variable {w : World} {en en' : List Ent} {I I' : Nat → Prop} {p : Nat} {es : List (List D)}
mutual
theorem AV.shows_frz (hI : ∀ b, I b → I' b) (hp : ∀ x ∈ en, x.nm = p → ∃ F, (D.sl es).rep w x.val F ∧ ∀ b ∈ F, I' b) (he : ∀ x ∈ en, x.nm ≠ p → ∃ y ∈ en', Like x y) : ∀ (x : AV) (u : Value), x.shows w en I u → (x.frz p es).shows w en' I' u
  | .any, _, _ => trivial
  | .d x, u, h => by
    obtain ⟨F, h1, h2⟩ := h
    exact ⟨F, h1, fun b hb => hI b (h2 b hb)⟩
  | .nil, _, h => h
  | .row o, u, h => by
    obtain ⟨x, hx, rfl, h1, rfl⟩ := h
    simp only [AV.frz]
    by_cases ho : x.nm = p
    · rw [(beq_spec _ _).2 ho]
      exact hp x hx ho
    · rw [beq_ne ho]
      obtain ⟨y, hy, l1, l2, l3, l4⟩ := he x hx ho
      exact ⟨y, hy, l1, by rw [l3]; exact h1, l2.symm⟩
  | .ptr o off, u, h => by
    obtain ⟨x, hx, rfl, h1, g, h2, h3⟩ := h
    simp only [AV.frz]
    by_cases ho : x.nm = p
    · rw [(beq_spec _ _).2 ho]
      trivial
    · rw [beq_ne ho]
      obtain ⟨y, hy, l1, l2, l3, l4⟩ := he x hx ho
      exact ⟨y, hy, l1, by rw [l3]; exact h1, g, by rw [l2]; exact h2, h3⟩
  | .pr o i off, u, h => by
    obtain ⟨x, hx, rfl, h1, g, z, h2, h3, h4, h5⟩ := h
    simp only [AV.frz]
    by_cases ho : x.nm = p
    · rw [(beq_spec _ _).2 ho]
      trivial
    · rw [beq_ne ho]
      obtain ⟨y, hy, l1, l2, l3, l4⟩ := he x hx ho
      exact ⟨y, hy, l1, by rw [l3]; exact h1, g, z, by rw [l2]; exact h2, by rw [l4]; exact h3, by rw [l4]; exact h4, h5⟩
  | .pd e off, u, h => by
    obtain ⟨b, o, us, F, h1, h2, h3, h4, h5⟩ := h
    exact ⟨b, o, us, F, h1, h2, h3, hI b h4, fun c hc => hI c (h5 c hc)⟩
  | .agg xs, u, h => by
    obtain ⟨us, h1, h2⟩ := h
    exact ⟨us, h1, showsL_frz hI hp he xs us h2⟩
  | .tup xs, u, h => by
    obtain ⟨us, h1, h2⟩ := h
    exact ⟨us, h1, showsL_frz hI hp he xs us h2⟩
theorem showsL_frz (hI : ∀ b, I b → I' b) (hp : ∀ x ∈ en, x.nm = p → ∃ F, (D.sl es).rep w x.val F ∧ ∀ b ∈ F, I' b) (he : ∀ x ∈ en, x.nm ≠ p → ∃ y ∈ en', Like x y) : ∀ (xs : List AV) (us : List Value), showsL w en I xs us → showsL w en' I' (frzL p es xs) us
  | [], _, h => h
  | x :: xs, us, h => by
    obtain ⟨u, us', h1, h2, h3⟩ := h
    exact ⟨u, us', h1, AV.shows_frz hI hp he x u h2, showsL_frz hI hp he xs us' h3⟩
end
end
theorem look_frz (p : Nat) (es : List (List D)) : ∀ (sl : List (Nat × AV)) (t : Nat), look (sl.map fun y => (y.1, y.2.frz p es)) t = (look sl t).frz p es
  | [], _ => rfl
  | (k, x) :: l, t => by
    rw [List.map_cons, look_cons, look_cons, look_frz p es l t]
    split <;> rfl
theorem Rel1.frz {X : Cx} {σ : AS} {a : Act} {w : World} {en : List Ent} (h : Rel1 X σ a w en) {p : Nat} {e : TypeId} {es : List (List D)} {dp : Bool} (hp : lookO σ.ob p = some (.row e es dp)) :
    Rel1 X (σ.frz p es) a w ((en.filter fun y => y.nm != p).map fun y => { y with ao := y.ao.frz p es }) := by
  have m := h.mem
  let g : Ent → Ent := fun y => { y with ao := y.ao.frz p es }
  have hmem : ∀ {y : Ent}, y ∈ (en.filter fun y => y.nm != p).map g → ∃ z ∈ en, z.nm ≠ p ∧ y = g z := by
    intro y hy
    simp only [List.mem_map, List.mem_filter, bne_iff_ne] at hy
    obtain ⟨z, ⟨h1, h2⟩, rfl⟩ := hy
    exact ⟨z, h1, h2, rfl⟩
  obtain ⟨y0, hy0, hy0n, hy0a, F0, hF1, hF2⟩ := row_data h hp
  have hI : ∀ b, Imm X.w0 X.Z X.O en w b → Imm X.w0 X.Z X.O ((en.filter fun y => y.nm != p).map g) w b := fun b hb => ⟨hb.1, hb.2.1, fun y hy => by
    obtain ⟨z, hz, _, rfl⟩ := hmem hy
    exact hb.2.2 z hz⟩
  have hpx : ∀ x ∈ en, x.nm = p → ∃ F, (D.sl es).rep w x.val F ∧ ∀ b ∈ F, Imm X.w0 X.Z X.O ((en.filter fun y => y.nm != p).map g) w b := fun x hx hn => by
    have := m.ent_unique hx hy0 (hn.trans hy0n.symm)
    subst this
    refine ⟨F0, hF1, fun b hb => ?_⟩
    rcases hF2 b hb with h1 | h1
    · have hok := m.ok x hx
      unfold EntOk at hok
      rw [hy0a] at hok
      obtain ⟨_, _, _, _, _, _, _, k5, _⟩ := hok
      exact hI b (k5 b h1)
    · obtain ⟨l1, l2⟩ := (m.ok x hx).lt h1
      refine ⟨.inr l2, l1, fun y hy => ?_⟩
      obtain ⟨z, hz, hzn, rfl⟩ := hmem hy
      exact m.blk_ne hx hz (fun e => hzn (e.symm.trans hn)) h1
  have hl : ∀ x ∈ en, x.nm ≠ p → ∃ y ∈ (en.filter fun y => y.nm != p).map g, Like x y := fun x hx hn =>
    ⟨g x, by simp only [List.mem_map, List.mem_filter, bne_iff_ne]; exact ⟨x, ⟨hx, hn⟩, rfl⟩, rfl, rfl, AO.frz_isRow p es x.ao, AO.frz_lens p es x.ao⟩
  refine ⟨⟨m.os, m.tape, m.output, m.size, m.old, ?_, ?_, ?_, ?_, fun y hy => by
    obtain ⟨z, hz, _, rfl⟩ := hmem hy
    exact m.fix z hz⟩, ?_, h.defers, h.size, fun t => ?_⟩
  · have : ((en.filter fun y => y.nm != p).map g).map Ent.nm = (en.filter fun y => y.nm != p).map Ent.nm := by simp only [List.map_map]; rfl
    rw [this]
    exact List.Nodup.sublist (List.Sublist.map _ List.filter_sublist) m.names
  · exact List.Pairwise.map _ (fun x y hxy => hxy) (List.Pairwise.sublist List.filter_sublist m.blks)
  · intro y hy
    obtain ⟨z, hz, hzn, rfl⟩ := hmem hy
    have hok := m.ok z hz
    unfold EntOk at hok
    split at hok
    · rename_i e' es' dp' hao
      obtain ⟨s, us, k0, k1, k2, k3, k4, k5, k6, k7⟩ := hok
      unfold EntOk
      simp only [g, hao, AO.frz]
      exact ⟨s, us, k0, k1, k2, k3, k4, fun b hb => hI b (k5 b hb), k6, k7⟩
    · rename_i e' cs hao
      obtain ⟨k0, q, cur, k1, k2, k3, k4⟩ := hok
      unfold EntOk
      simp only [g, hao, AO.frz]
      exact ⟨k0, q, cur, k1, k2, k3, showsL_frz hI hpx hl cs _ k4⟩
  · refine List.Pairwise.map _ (fun x y hxy h1 h2 => ?_) (List.Pairwise.sublist List.filter_sublist m.apart)
    exact hxy (by rw [← AO.frz_deep p es]; exact h1) (by rw [← AO.frz_deep p es]; exact h2)
  · have e1 : ((en.filter fun y => y.nm != p).map g).map Ent.key = ((en.map Ent.key).filter fun y => y.1 != p).map fun y => (y.1, y.2.frz p es) := by
      simp only [List.map_map, List.filter_map]
      rfl
    show (((en.filter fun y => y.nm != p).map g).map Ent.key).Perm ((dropO p σ.ob).map fun y => (y.1, y.2.frz p es))
    rw [e1]
    exact (h.ob.filter _).map _
  · simp only [AS.frz, look_frz]
    exact AV.shows_frz hI hpx hl _ _ (h.slots t)
section
variable {X : Cx} {σ : AS} {o : Oper} {K : AS → Prop} {Q : Exit → AS → Prop} {t : Nat}
theorem ops_frz (p : Nat) {e : TypeId} {es : List (List D)} {dp : Bool} {ops : Array Oper} {l : List Oper} (hp : lookO σ.ob p = some (.row e es dp)) (h : OpsOk X ops l Q (σ.frz p es)) : OpsOk X ops l Q σ := fun a w ⟨_, hr⟩ => h a w ⟨_, hr.frz hp⟩
theorem qs_frz (p : Nat) {e : TypeId} {es : List (List D)} {dp : Bool} {ops : Array Oper} {N : AS → Prop} {l : List Oper} (hp : lookO σ.ob p = some (.row e es dp)) (h : QsOk X ops l N (σ.frz p es)) : QsOk X ops l N σ := fun a w ⟨_, hr⟩ => h a w ⟨_, hr.frz hp⟩
theorem awp_frz (p : Nat) {e : TypeId} {es : List (List D)} {dp : Bool} {c : Code} (hp : lookO σ.ob p = some (.row e es dp)) (h : AWp X c Q (σ.frz p es)) : AWp X c Q σ := fun a w ⟨_, hr⟩ => h a w ⟨_, hr.frz hp⟩

/-! ### Strings and bytes -/
def byteE (l : List UInt8) : List (List D) := l.map fun b => [.n .u8 (b.toNat : Int)]
theorem repE_bytes (w : World) : ∀ (l : List UInt8), repE w (byteE l) (l.map fun (b : UInt8) => Value.int .u8 (b.toNat : Int)) []
  | [] => ⟨rfl, rfl⟩
  | b :: l => ⟨[.int .u8 (b.toNat : Int)], l.map fun (b : UInt8) => Value.int .u8 (b.toNat : Int), [], [], rfl, rfl, ⟨.int .u8 (b.toNat : Int), [], [], [], rfl, rfl, ⟨rfl, rfl⟩, rfl, rfl⟩, repE_bytes w l⟩
theorem rep_bytes_cells {w : World} : ∀ {l : List UInt8} {us : List Value} {F : List Nat}, repE w (byteE l) us F → us = l.map fun b => .int .u8 (b.toNat : Int)
  | [], us, F, h => h.1
  | b :: l, us, F, h => by
    obtain ⟨u1, u2, F1, F2, rfl, rfl, k1, k2⟩ := h
    obtain ⟨u, us', G1, G2, rfl, rfl, ⟨rfl, rfl⟩, k3⟩ := k1
    rw [k3.1, rep_bytes_cells k2]
    rfl
def isU8D : TypeDesc → Bool
  | .int .u8 => true
  | _ => false
def byteT (X : Cx) (T : TypeId) : Bool := match X.tt T with
  | some ti => isU8D ti.desc
  | none => false
theorem byteT_und {T : TypeId} (h : byteT X T = true) : X.P.underlying T = some (.int .u8) := by
  unfold byteT at h
  split at h
  · rename_i ti _
    unfold isU8D at h
    split at h
    · rename_i hde
      exact hde ▸ ti.und
    · cases h
  · cases h
theorem st_tobytes {src dst e : TypeId} {x : Operand} {l : List UInt8} (ho : o.op = .convert src dst x) (hd : o.dst = some t) (hs : stringT X src = true) (hT : sliceT X dst = some e) (he : byteT X e = true) (hx : σ.ev x = .d (.s l)) (hb : l.length ≤ 9223372036854775807) (ht : Nat.blt t σ.nt = true) (hK : K (σ.put t (.d (.sl (byteE l))))) : OpOk X o σ K :=
  op_ext hd ht (fun a w en h => by
    obtain ⟨F, ⟨e1, _⟩, _⟩ := ev_of h hx
    have hr := run_bytes_of_string (P := X.P) w src dst e ⟨l.toArray⟩ (stringT_und hs) (sliceT_und hT) (byteT_und he)
    have hsz : (⟨l.toArray⟩ : ByteArray).size = l.length := by simp [ByteArray.size]
    rw [hsz] at hr
    have hX : Ext w (w.drew.alloc (.cells (bytesRow ⟨l.toArray⟩ (grownCap w l.length 0 e)) e ((bytesRow ⟨l.toArray⟩ (grownCap w l.length 0 e)).size, (bytesRow ⟨l.toArray⟩ (grownCap w l.length 0 e)).size + 1))) := (Ext.drew w).trans (Ext.alloc_ w.drew _)
    have hl : (byteE l).length = l.length := by simp [byteE]
    have hz : ∀ q ∈ byteE l, q.length = 1 := by
      intro q hq
      unfold byteE at hq
      obtain ⟨b, _, rfl⟩ := List.mem_map.1 hq
      rfl
    have hcap : l.length ≤ grownCap w l.length 0 e := grownCap_ge w l.length 0 e
    have hmax : grownCap w l.length 0 e ≤ maxLen := grownCap_le_maxLen w l.length 0 e (by unfold maxLen; omega)
    refine ⟨_, _, by simp only [execOp, ho, e1, Sem.run_bind, hr, Result.andThen]; rfl, hX, ?_⟩
    by_cases h0 : l = []
    · subst h0
      exact ⟨[], ⟨_, _, 1, [], [], rfl, hcap, hmax, (fun e => by cases e), hz, ⟨rfl, rfl⟩, .inl ⟨rfl, rfl⟩⟩, by simp⟩
    · refine ⟨[w.heap.size], ⟨_, _, 1, l.map fun b => .int .u8 (b.toNat : Int), [], by rw [hl], by rw [hl]; exact hcap, hmax, (fun e => by cases e), hz, repE_bytes _ l, .inr ⟨by simpa [byteE] using h0, w.heap.size, 0, rfl, by simp, rfl, fun j v hj => ?_⟩⟩, fun b hb => ?_⟩
      · have hjl : j < l.length := by simpa using (List.getElem?_eq_some_iff.1 hj).1
        rw [Nat.zero_add, show w.heap.size = w.drew.heap.size from rfl, World.cell?_alloc_mark, bytesRow_at ⟨l.toArray⟩ _ j (by simpa using hjl), ← hj]
        simp [List.getElem?_eq_getElem hjl]
      · rw [List.mem_singleton] at hb
        subst hb
        exact ⟨.inr (.inr h.mem.size), by simp, fun x hx hbx => absurd ((h.mem.ok x hx).lt hbx).1 (Nat.lt_irrefl _)⟩) hK
theorem st_tostr {src dst e : TypeId} {x : Operand} {es : List (List D)} {l : List UInt8} (ho : o.op = .convert src dst x) (hd : o.dst = some t) (hT : sliceT X src = some e) (he : byteT X e = true) (hs : stringT X dst = true) (hx : σ.els (σ.ev x) = some es) (hl : es = byteE l) (ht : Nat.blt t σ.nt = true) (hK : K (σ.put t (.d (.s l)))) : QOk X o σ K :=
  op_val hd ht (fun a w en h => by
    subst hl
    obtain ⟨A, cap, e1, h1, h2, h3, F, h4⟩ := els_slice h hx (AS.ev_shows h x)
    obtain ⟨A', cap', z, us, F', e2, h5, h6, h7, h8, h9, h10⟩ := h4
    rw [e1] at e2
    injection e2 with e2 _ e3
    subst e2; subst e3
    have hll : (byteE l).length = l.length := by simp [byteE]
    have hus := rep_bytes_cells h9
    subst hus
    refine ⟨.string ⟨l.toArray⟩, fun w' hw' => ?_, [], ⟨rfl, rfl⟩, by simp⟩
    cases A with
    | none =>
      have hn : l = [] := by
        have h11 := h3 rfl
        rw [hll] at h1
        exact List.eq_nil_of_length_eq_zero (by omega)
      subst hn
      have hr := run_convert_bytes_string (P := X.P) w' src dst e none 0 cap (sliceT_und hT) (byteT_und he) (stringT_und hs)
      have h0 : (Conv.bytesToString (.slice none 0 cap)).run X.P w' = .ok (.string ⟨([] : List UInt8).toArray⟩) w' := by simp [Conv.bytesToString]; rfl
      simp only [execOp, ho, e1, byteE, List.map_nil, List.length_nil, Sem.run_bind, hr, h0, Result.andThen]
      rfl
    | some ad =>
      have hcells : ∀ j (hj : j < l.length), w'.cell? (ad.add j) = some (.int .u8 (l[j].toNat : Int)) := fun j hj => by
        rcases h10 with ⟨h10, _⟩ | ⟨h10, b, off, e5, h11, h12, h13⟩
        · have : l = [] := by simpa [byteE] using h10
          subst this; simp at hj
        · injection e5 with e5
          subst e5
          rw [add_lit']
          refine hw'.cell (h13 j _ ?_)
          simp [List.getElem?_eq_getElem hj]
      have hr := run_convert_bytes_back (P := X.P) w' src dst e ad cap l (sliceT_und hT) (byteT_und he) (stringT_und hs) hcells
      simp only [execOp, ho, e1, hll, Sem.run_bind, hr, Result.andThen]
      rfl) hK
theorem byteE_one {v : Int} (h : 0 ≤ v ∧ v ≤ 255) : [[D.n .u8 v]] = byteE [UInt8.ofNat v.toNat] := by
  have : ((UInt8.ofNat v.toNat).toNat : Int) = v := by simp; omega
  rw [byteE, List.map_cons, List.map_nil, this]
theorem st_atn {T : TypeId} {x y : Operand} {l : List UInt8} {p : Int} {j : Nat} (ho : o.op = .index T x y) (hd : o.dst = some t) (hT : stringT X T = true) (hx : σ.ev x = .d (.s l)) (hy : σ.ev y = .d (.n .i64 p)) (hj : p = (j : Int)) (hlt : j < l.length) (ht : Nat.blt t σ.nt = true)
    (hK : K (σ.put t (.d (.n .u8 (l.getD j 0).toNat)))) : QOk X o σ K := by
  unfold stringT at hT
  split at hT
  · rename_i ti _
    unfold isStringD at hT
    split at hT
    · rename_i hde
      subst hj
      exact st_at (ti := ti) hde ho hd hx hy (by omega) ht (by simpa using hK)
    · cases hT
  · cases hT
theorem st_catn {l r : List UInt8} {xt yt : TypeId} {x y : Operand} (ho : o.op = .binOp .add xt x y yt) (hd : o.dst = some t) (hx : σ.ev x = .d (.s l)) (hy : σ.ev y = .d (.s r)) (hb : l.length + r.length ≤ 9223372036854775807) (ht : Nat.blt t σ.nt = true) (hK : K (σ.put t (.d (.s (l ++ r))))) : QOk X o σ K := st_cat ho hd hx hy hb ht hK

/-! ### Integers of other kinds -/
def intD : TypeDesc → Option IntKind
  | .int k => some k
  | _ => none
def intT (X : Cx) (T : TypeId) : Option IntKind := match X.tt T with
  | some ti => intD ti.desc
  | none => none
def hasT (X : Cx) (T : TypeId) : Bool := match X.tt T with
  | some _ => true
  | none => false
theorem st_convw {src dst : TypeId} {k k' : IntKind} {x : Operand} {p : Int} (ho : o.op = .convert src dst x) (hd : o.dst = some t) (hs : hasT X src = true) (hT : intT X dst = some k') (hx : σ.ev x = .d (.n k p)) (ht : Nat.blt t σ.nt = true) (hK : K (σ.put t (.d (.n k' (k'.wrap p))))) : QOk X o σ K := by
  unfold hasT at hs
  split at hs
  · rename_i ts _
    unfold intT at hT
    split at hT
    · rename_i td _
      unfold intD at hT
      split at hT
      · rename_i k'' hde
        injection hT with hT
        subst hT
        exact st_conv (td := td) (ts := ts) ho hd hx hde rfl ht hK
      · cases hT
    · cases hT
  · cases hs
theorem st_conv8 {src dst : TypeId} {k : IntKind} {x : Operand} {p : Int} (ho : o.op = .convert src dst x) (hd : o.dst = some t) (hs : hasT X src = true) (hT : intT X dst = some .u8) (hx : σ.ev x = .d (.n k p)) (hb : 0 ≤ p ∧ p ≤ 255) (ht : Nat.blt t σ.nt = true) (hK : K (σ.put t (.d (.n .u8 p)))) : QOk X o σ K :=
  st_convw ho hd hs hT hx ht (by rw [IntWalk.u8_in _ hb]; exact hK)
theorem st_conv64 {src dst : TypeId} {k : IntKind} {x : Operand} {p : Int} (ho : o.op = .convert src dst x) (hd : o.dst = some t) (hs : hasT X src = true) (hT : intT X dst = some .i64) (hx : σ.ev x = .d (.n k p)) (hb : -9223372036854775808 ≤ p ∧ p ≤ 9223372036854775807) (ht : Nat.blt t σ.nt = true) (hK : K (σ.put t (.d (.n .i64 p)))) : QOk X o σ K :=
  st_convw ho hd hs hT hx ht (by rw [IntWalk.i64_in _ hb]; exact hK)
end
end Go.Proofs.Ythmajaeekkbnnaa
