/-
  StateOk, the program's.
-/
import Derived.Test.YtelbahebpmkfjaaGreatKB7
import Derived.Test.YtelbahebpmkfjaaGreatKB19
set_option maxRecDepth 100000
set_option maxHeartbeats 16000000
namespace Go.Proofs.YtelbahebpmkfjaaGreat
open Go Go.RowKit
attribute [local irreducible] AWp Qat OpOk ACalls ChA QsOk MCalls EnC PY

theorem Small.mono {n m:Nat} {s:State} (h:Small n s) (hm:n≤m):Small m s:=⟨Nat.le_trans h.par hm,Nat.le_trans h.nod hm,Nat.le_trans h.up hm,Nat.le_trans h.que hm,Nat.le_trans h.run hm,Nat.le_trans h.end' hm,fun j hj=>Nat.le_trans (h.rno j hj) hm⟩
theorem Qob {s:State} (h:Small 100000000 s):(allJ s).length≤1000000000:=by
 have h1:=h.que
 have h2:=h.run
 simp only [allJ,List.length_append,List.length_map]
 omega
theorem Qbs {s:State} (h:StateP s→False):Qap s=false:=pB_f.2 h
structure RunsP (s:State):Prop where
 topo:TopoOk s.topo
 up:s.up.length=s.topo.nodes.length
 runs:∀j,j<s.runs.length→Qau (nth s.runs j).job=true∧DiffP s.topo (nth s.runs j).job (nth s.runs j).nodes
theorem QjS {s:State} {r:Room} (h:Qbu s=some r):RunsP s:=by
 obtain ⟨_,_,_,h4,h5⟩:=Qed h
 exact ⟨h4.topo,h4.up,fun j hj=>⟨(QdN.1 (h5 _ (QaO hj)).1).1,(h5 _ (QaO hj)).2⟩⟩
theorem QoO {t:Topo} {l:List Int} (h:TopoOk t) (hl:Qbj t l):lowI t l=((lowI t l).toNat:Int):=(Int.toNat_of_nonneg (Qni h hl).1).symm
theorem Qca {s:State} (hs:Small 100000000 s):ACalls Tryz.prog 104 [QaA s] [.d (.b (Qap s))] []:=by
 refine Qaa tt Tryz.func104 rfl rfl rfl (fun w0 Z=>?_)
 have hs9:=hs.mono (m:=1000000000) (by omega)
 have hel:=QaC s.ends
 have hes:=hs.end'
 have c1:=Qgh hs9
 cases hr:Qbu s with
 | none=>
  rw [hr] at c1
  rw [Qbs fun h=>by have:=h.room;rw [hr] at this;cases this]
  repeat' (first|refine zst ?_|(refine zhm fun hb=>?_;try exact zab)|refine zdr ?_|(apply zch;exact zcg)|refine HopS.mk fun w0 Z O=>?_|exact zhk|refine zg3 ?_ ?_|refine zln fun _=>?_|refine zop ?_|(refine km [] (c1) rfl rfl (fun i hi=>?_);(try dsimp only at hi))|fail)
  exact zr [] zae zae
 | some r=>
  rw [hr] at c1
  have hR:=QjS hr
  have hup:=hR.up
  have c2:=Qll (Qob hs)
  cases hq:Qb1 (allJ s) with
  | false=>
   rw [hq] at c2
   rw [Qbs fun h=>by have:=pB_t.2 h.jobs;unfold Qb1 at hq;rw [hq] at this;cases this]
   repeat' (first|refine zst ?_|(refine zhm fun hb=>?_;try exact zab)|refine zdr ?_|(apply zch;exact zcg)|refine HopS.mk fun w0 Z O=>?_|exact zhk|refine zg3 ?_ ?_|refine zln fun _=>?_|refine zop ?_|refine kc (QaX) rfl rfl ?_|refine kc (c2) rfl rfl ?_|(refine km [] (c1) rfl rfl (fun i hi=>?_);(try dsimp only at hi))|(refine km [] (Qvm hs9) rfl rfl (fun i hi=>?_);(try dsimp only at hi))|refine kq (QaX) rfl rfl ?_|refine kq (c2) rfl rfl ?_|fail)
   all_goals
    exact zr [] zae zae
  | true=>
   rw [hq] at c2
   repeat' (first|refine zst ?_|(refine zhm fun hb=>?_;try exact zab)|refine zdr ?_|(apply zch;exact zcg)|refine HopS.mk fun w0 Z O=>?_|exact zhk|refine zg3 ?_ ?_|refine zln fun _=>?_|refine zop ?_|refine kc (QaX) rfl rfl ?_|refine kc (c2) rfl rfl ?_|(refine km [] (c1) rfl rfl (fun i hi=>?_);(try dsimp only at hi))|(refine km [] (Qvm hs9) rfl rfl (fun i hi=>?_);(try dsimp only at hi))|refine kq (QaX) rfl rfl ?_|refine kq (c2) rfl rfl ?_|fail)
   any_goals
    rw [Qbs fun h=>by have h1:=h.depth;have h2:=h.ends;omega]
    refine zr [] ?_ ?_
    repeat'(first|apply And.intro|exact ze0|refine ze1 ?_|refine zei ?_ ?_|exact rfl|trivial)
    all_goals exact Stop.mk rfl
   refine Qae (fun (n:Nat)=>⟨102,[(1,.ptr 1 0),(37,.d (.sl (runE s.runs))),(38,.d (.n .i64 (s.runs.length:Nat))),(39,.d (.n .i64 n))],[(1,.box 43 (Qbw s))]⟩) (fun n=>n≤s.runs.length∧∀j,j<n→RunP s (nth s.runs j)) (fun n=>s.runs.length - n) 0 (by exact ⟨Nat.zero_le _,fun j hj=>absurd hj (Nat.not_lt_zero _)⟩) ?_ ?_
   ·refine ⟨rfl,?_,?_,rfl⟩
    repeat'(first|apply And.intro|exact ze0|refine ze1 ?_|refine zei ?_ ?_|exact rfl|trivial)
    all_goals exact Stop.mk (by first|rfl|exact Qah _)
   ·rintro n ⟨hn,hp⟩
    have hrl:=Qah s.runs
    by_cases hn':n<s.runs.length
    ·obtain ⟨hj,hd⟩:=hR.runs n hn'
     have hnl:=Qad (nth s.runs n).nodes
     have hnum:=hd.num
     have hjn:=(Qcg hj).1
     have hbl:=Qaq s.up
     have hrn:=hs.rno n hn'
     repeat' (first|refine zst ?_|(refine zhm fun hb=>?_;try exact zab)|refine zdr ?_|(apply zch;exact zcg)|refine HopS.mk fun w0 Z O=>?_|exact zhk|refine zg3 ?_ ?_|refine zln fun _=>?_|refine zop ?_|fail)
     refine Qae (fun (m:Nat)=>⟨102,[(1,.ptr 1 0),(6,.ptr 6 0),(37,.d (.sl (runE s.runs))),(38,.d (.n .i64 (s.runs.length:Nat))),(39,.d (.n .i64 n)),(44,.d (.sl (intE (nth s.runs n).nodes))),(45,.d (.n .i64 ((nth s.runs n).nodes.length:Nat))),(46,.d (.n .i64 m))],[(1,.box 43 (Qbw s)),(6,.box 148 ((runD (nth s.runs n)).map AV.d))]⟩) (fun m=>m≤(nth s.runs n).nodes.length∧∀k,k<m→nth s.up (nth (nth s.runs n).nodes k).toNat=true) (fun m=>(nth s.runs n).nodes.length - m) 0 (by exact ⟨Nat.zero_le _,fun j hj=>absurd hj (Nat.not_lt_zero _)⟩) ?_ ?_
     ·refine ⟨rfl,?_,?_,rfl⟩
      repeat'(first|apply And.intro|exact ze0|refine ze1 ?_|refine zei ?_ ?_|exact rfl|trivial)
      all_goals exact Stop.mk (by first|rfl|exact Qad _)
     ·rintro m ⟨hm,hk⟩
      by_cases hm':m<(nth s.runs n).nodes.length
      ·have hin:=hd.nodes m hm'
       repeat' (first|refine zst ?_|(refine zhm fun hb=>?_;try exact zab)|refine zdr ?_|(apply zch;exact zcg)|refine HopS.mk fun w0 Z O=>?_|exact zhk|refine zg3 ?_ ?_|refine zln fun _=>?_|refine zop ?_|fail)
       ·rw [Qbs fun h=>by have h1:=(h.runs n hn').up m hm';simp_all]
        exact zr [] zae zae
       ·refine ⟨m+1,⟨by omega,fun k hk'=>?_⟩,by omega,?_⟩
        ·by_cases e:k=m
         ·subst e;assumption
         ·exact hk k (by omega)
        exact ⟨rfl,zae,zae,rfl⟩
      ·have hlow:=Qni hR.topo hd.nodes
       have c4:=Qug hR.topo hd.nodes (by omega) (by omega)
       rw [QoO hR.topo hd.nodes] at c4
       have c5:=Qkj hR.topo (s:=(lowI s.topo (nth s.runs n).nodes).toNat) (by omega)
       repeat' (first|refine zst ?_|(refine zhm fun hb=>?_;try exact zab)|refine zdr ?_|(apply zch;exact zcg)|refine HopS.mk fun w0 Z O=>?_|exact zhk|refine zg3 ?_ ?_|refine zln fun _=>?_|refine zop ?_|refine kc (Qfr (l:=(nth s.runs n).nodes) (by omega)) rfl rfl ?_|refine kc (c4) rfl rfl ?_|refine kc (c5) rfl rfl ?_|refine kq (Qfr (l:=(nth s.runs n).nodes) (by omega)) rfl rfl ?_|refine kq (c4) rfl rfl ?_|refine kq (c5) rfl rfl ?_|fail)
       ·rw [Qbs fun h=>by have h1:=QpS.2 (h.runs n hn').asc;simp_all]
        exact zr [] zae zae
       ·rw [Qbs fun h=>by have h1:=(h.runs n hn').level;omega]
        exact zr [] zae zae
       ·refine ⟨n+1,⟨by omega,fun j hj'=>?_⟩,by omega,?_⟩
        ·by_cases e:j=n
         ·subst e
          exact ⟨fun i hi=>hk i (by omega),QpS.1 (by assumption),by omega⟩
         ·exact hp j (by omega)
        exact ⟨rfl,zae,zae,rfl⟩
    ·repeat' (first|refine zst ?_|(refine zhm fun hb=>?_;try exact zab)|refine zdr ?_|(apply zch;exact zcg)|refine HopS.mk fun w0 Z O=>?_|exact zhk|refine zg3 ?_ ?_|refine zln fun _=>?_|refine zop ?_|fail)
     refine Qae (fun (n:Nat)=>⟨102,[(1,.ptr 1 0),(77,.d (.sl (endE s.ends))),(78,.d (.n .i64 (s.ends.length:Nat))),(79,.d (.n .i64 n))],[(1,.box 43 (Qbw s))]⟩) (fun n=>n≤s.ends.length∧∀j,j<n→endB s.now (nth s.ends j)=true) (fun n=>s.ends.length - n) 0 (by exact ⟨Nat.zero_le _,fun j hj=>absurd hj (Nat.not_lt_zero _)⟩) ?_ ?_
     ·refine ⟨rfl,?_,?_,rfl⟩
      repeat'(first|apply And.intro|exact ze0|refine ze1 ?_|refine zei ?_ ?_|exact rfl|trivial)
      all_goals exact Stop.mk (by first|rfl|exact QaC _)
     ·rintro m ⟨hm,hk⟩
      by_cases hm':m<s.ends.length
      ·repeat' (first|refine zst ?_|(refine zhm fun hb=>?_;try exact zab)|refine zdr ?_|(apply zch;exact zcg)|refine HopS.mk fun w0 Z O=>?_|exact zhk|refine zg3 ?_ ?_|refine zln fun _=>?_|refine zop ?_|refine kc (QaX) rfl rfl ?_|refine kq (QaX) rfl rfl ?_|fail)
       any_goals
        rw [Qbs fun h=>by have h1:=h.endsOk m hm';simp only [endB,Bool.and_eq_true,QcM] at h1;omega]
        refine zr [] ?_ ?_
        repeat'(first|apply And.intro|exact ze0|refine ze1 ?_|refine zei ?_ ?_|exact rfl|trivial)
        all_goals exact Stop.mk rfl
       refine ⟨m+1,⟨by omega,fun j hj'=>?_⟩,by omega,?_⟩
       ·by_cases e:j=m
        ·subst e
         simp only [endB,Bool.and_eq_true,QcM]
         omega
        ·exact hk j (by omega)
       exact ⟨rfl,zae,zae,rfl⟩
      ·rw [show Qap s=true from pB_t.2 ⟨by rw [hr];rfl,by omega,pB_t.1 hq,by omega,fun j hj=>hp j (by omega),fun j hj=>hk j (by omega)⟩]
       repeat' (first|refine zst ?_|(refine zhm fun hb=>?_;try exact zab)|refine zdr ?_|(apply zch;exact zcg)|refine HopS.mk fun w0 Z O=>?_|exact zhk|refine zg3 ?_ ?_|refine zln fun _=>?_|refine zop ?_|fail)
       exact zr [] zae zae
end Go.Proofs.YtelbahebpmkfjaaGreat
namespace Go.Proofs.YtelbahebpmkfjaaGreat
open Go Go.RowKit
attribute [local irreducible] AWp Qat OpOk ACalls ChA QsOk MCalls EnC PY

theorem QcD {s:State} (hs:Small 100000000 s):ACalls Tryz.prog 100 [QaA s] [.d (.b (Qap s))] []:=by
 refine Qaa tt Tryz.func100 rfl rfl rfl (fun w0 Z=>?_)
 have hs9:=hs.mono (m:=1000000000) (by omega)
 have hel:=QaC s.ends
 have hes:=hs.end'
 have c1:=Qoi hs9
 cases hr:Qbu s with
 | none=>
  rw [hr] at c1
  rw [Qbs fun h=>by have:=h.room;rw [hr] at this;cases this]
  repeat' (first|refine zst ?_|(refine zhm fun hb=>?_;try exact zab)|refine zdr ?_|(apply zch;exact zcg)|refine HopS.mk fun w0 Z O=>?_|exact zhk|refine zg3 ?_ ?_|refine zln fun _=>?_|refine zop ?_|(refine km [] (c1) rfl rfl (fun i hi=>?_);(try dsimp only at hi))|fail)
  exact zr [] zae zae
 | some r=>
  rw [hr] at c1
  have hR:=QjS hr
  have hup:=hR.up
  have c2:=Qh9 (Qob hs)
  cases hq:Qb1 (allJ s) with
  | false=>
   rw [hq] at c2
   rw [Qbs fun h=>by have:=pB_t.2 h.jobs;unfold Qb1 at hq;rw [hq] at this;cases this]
   repeat' (first|refine zst ?_|(refine zhm fun hb=>?_;try exact zab)|refine zdr ?_|(apply zch;exact zcg)|refine HopS.mk fun w0 Z O=>?_|exact zhk|refine zg3 ?_ ?_|refine zln fun _=>?_|refine zop ?_|refine kc (c2) rfl rfl ?_|(refine km [] (c1) rfl rfl (fun i hi=>?_);(try dsimp only at hi))|(refine km [] (Qf0 hs9) rfl rfl (fun i hi=>?_);(try dsimp only at hi))|refine kq (c2) rfl rfl ?_|fail)
   all_goals
    exact zr [] zae zae
  | true=>
   rw [hq] at c2
   repeat' (first|refine zst ?_|(refine zhm fun hb=>?_;try exact zab)|refine zdr ?_|(apply zch;exact zcg)|refine HopS.mk fun w0 Z O=>?_|exact zhk|refine zg3 ?_ ?_|refine zln fun _=>?_|refine zop ?_|refine kc (c2) rfl rfl ?_|(refine km [] (c1) rfl rfl (fun i hi=>?_);(try dsimp only at hi))|(refine km [] (Qf0 hs9) rfl rfl (fun i hi=>?_);(try dsimp only at hi))|refine kq (c2) rfl rfl ?_|fail)
   any_goals
    rw [Qbs fun h=>by have h1:=h.depth;have h2:=h.ends;omega]
    refine zr [] ?_ ?_
    repeat'(first|apply And.intro|exact ze0|refine ze1 ?_|refine zei ?_ ?_|exact rfl|trivial)
    all_goals exact Stop.mk rfl
   refine Qae (fun (n:Nat)=>⟨127,[(1,.ptr 1 0),(41,.d (.sl (runE s.runs))),(42,.d (.n .i64 (s.runs.length:Nat))),(43,.d (.n .i64 n))],[(1,.box 43 (Qbw s))]⟩) (fun n=>n≤s.runs.length∧∀j,j<n→RunP s (nth s.runs j)) (fun n=>s.runs.length - n) 0 (by exact ⟨Nat.zero_le _,fun j hj=>absurd hj (Nat.not_lt_zero _)⟩) ?_ ?_
   ·refine ⟨rfl,?_,?_,rfl⟩
    repeat'(first|apply And.intro|exact ze0|refine ze1 ?_|refine zei ?_ ?_|exact rfl|trivial)
    all_goals exact Stop.mk (by first|rfl|exact Qah _)
   ·rintro n ⟨hn,hp⟩
    have hrl:=Qah s.runs
    by_cases hn':n<s.runs.length
    ·obtain ⟨hj,hd⟩:=hR.runs n hn'
     have hnl:=Qad (nth s.runs n).nodes
     have hnum:=hd.num
     have hjn:=(Qcg hj).1
     have hbl:=Qaq s.up
     have hrn:=hs.rno n hn'
     repeat' (first|refine zst ?_|(refine zhm fun hb=>?_;try exact zab)|refine zdr ?_|(apply zch;exact zcg)|refine HopS.mk fun w0 Z O=>?_|exact zhk|refine zg3 ?_ ?_|refine zln fun _=>?_|refine zop ?_|fail)
     refine Qae (fun (m:Nat)=>⟨127,[(1,.ptr 1 0),(6,.ptr 6 0),(41,.d (.sl (runE s.runs))),(42,.d (.n .i64 (s.runs.length:Nat))),(43,.d (.n .i64 n)),(48,.d (.sl (intE (nth s.runs n).nodes))),(49,.d (.n .i64 ((nth s.runs n).nodes.length:Nat))),(50,.d (.n .i64 m))],[(1,.box 43 (Qbw s)),(6,.box 148 ((runD (nth s.runs n)).map AV.d))]⟩) (fun m=>m≤(nth s.runs n).nodes.length∧∀k,k<m→nth s.up (nth (nth s.runs n).nodes k).toNat=true∧(0<k→nth (nth s.runs n).nodes (k - 1)<nth (nth s.runs n).nodes k)) (fun m=>(nth s.runs n).nodes.length - m) 0 (by exact ⟨Nat.zero_le _,fun j hj=>absurd hj (Nat.not_lt_zero _)⟩) ?_ ?_
     ·refine ⟨rfl,?_,?_,rfl⟩
      repeat'(first|apply And.intro|exact ze0|refine ze1 ?_|refine zei ?_ ?_|exact rfl|trivial)
      all_goals exact Stop.mk (by first|rfl|exact Qad _)
     ·rintro m ⟨hm,hk⟩
      by_cases hm':m<(nth s.runs n).nodes.length
      ·have hin:=hd.nodes m hm'
       repeat' (first|refine zst ?_|(refine zhm fun hb=>?_;try exact zab)|refine zdr ?_|(apply zch;exact zcg)|refine HopS.mk fun w0 Z O=>?_|exact zhk|refine zg3 ?_ ?_|refine zln fun _=>?_|refine zop ?_|fail)
       ·rw [Qbs fun h=>by have h1:=(h.runs n hn').up m hm';simp_all]
        exact zr [] zae zae
       ·rw [Qbs fun h=>by have h1:=(h.runs n hn').asc (m - 1) (by omega);rw [show m - 1+1=m by omega] at h1;omega]
        exact zr [] zae zae
       ·refine ⟨m+1,⟨by omega,fun k hk'=>?_⟩,by omega,?_⟩
        ·by_cases e:k=m
         ·subst e;exact ⟨by assumption,fun _=>by omega⟩
         ·exact hk k (by omega)
        exact ⟨rfl,zae,zae,rfl⟩
       ·refine ⟨m+1,⟨by omega,fun k hk'=>?_⟩,by omega,?_⟩
        ·by_cases e:k=m
         ·subst e;exact ⟨by assumption,fun _=>by omega⟩
         ·exact hk k (by omega)
        exact ⟨rfl,zae,zae,rfl⟩
      ·have hlow:=Qni hR.topo hd.nodes
       have hlen:=hR.topo.len
       have c4:=Qth hR.topo hd.nodes (by omega) (by omega)
       rw [QoO hR.topo hd.nodes] at c4
       have c5:=Qd4 (t:=s.topo) (by omega) hR.topo.valid s.topo.parents.length (lowI s.topo (nth s.runs n).nodes).toNat (by omega) (by omega)
       rw [QoM hR.topo.valid hR.topo.even (by omega)] at c5
       repeat' (first|refine zst ?_|(refine zhm fun hb=>?_;try exact zab)|refine zdr ?_|(apply zch;exact zcg)|refine HopS.mk fun w0 Z O=>?_|exact zhk|refine zg3 ?_ ?_|refine zln fun _=>?_|refine zop ?_|refine kc (c4) rfl rfl ?_|refine kc (c5) rfl rfl ?_|refine kq (c4) rfl rfl ?_|refine kq (c5) rfl rfl ?_|fail)
       ·rw [Qbs fun h=>by have h1:=(h.runs n hn').level;omega]
        exact zr [] zae zae
       ·refine ⟨n+1,⟨by omega,fun j hj'=>?_⟩,by omega,?_⟩
        ·by_cases e:j=n
         ·subst e
          exact ⟨fun i hi=>(hk i (by omega)).1,fun i hi=>(hk (i+1) (by omega)).2 (Nat.succ_pos _),by omega⟩
         ·exact hp j (by omega)
        exact ⟨rfl,zae,zae,rfl⟩
    ·repeat' (first|refine zst ?_|(refine zhm fun hb=>?_;try exact zab)|refine zdr ?_|(apply zch;exact zcg)|refine HopS.mk fun w0 Z O=>?_|exact zhk|refine zg3 ?_ ?_|refine zln fun _=>?_|refine zop ?_|fail)
     refine Qae (fun (n:Nat)=>⟨127,[(1,.ptr 1 0),(90,.d (.sl (endE s.ends))),(91,.d (.n .i64 (s.ends.length:Nat))),(92,.d (.n .i64 n))],[(1,.box 43 (Qbw s))]⟩) (fun n=>n≤s.ends.length∧∀j,j<n→endB s.now (nth s.ends j)=true) (fun n=>s.ends.length - n) 0 (by exact ⟨Nat.zero_le _,fun j hj=>absurd hj (Nat.not_lt_zero _)⟩) ?_ ?_
     ·refine ⟨rfl,?_,?_,rfl⟩
      repeat'(first|apply And.intro|exact ze0|refine ze1 ?_|refine zei ?_ ?_|exact rfl|trivial)
      all_goals exact Stop.mk (by first|rfl|exact QaC _)
     ·rintro m ⟨hm,hk⟩
      by_cases hm':m<s.ends.length
      ·repeat' (first|refine zst ?_|(refine zhm fun hb=>?_;try exact zab)|refine zdr ?_|(apply zch;exact zcg)|refine HopS.mk fun w0 Z O=>?_|exact zhk|refine zg3 ?_ ?_|refine zln fun _=>?_|refine zop ?_|fail)
       any_goals
        rw [Qbs fun h=>by have h1:=h.endsOk m hm';simp only [endB,Bool.and_eq_true,QcM] at h1;omega]
        refine zr [] ?_ ?_
        repeat'(first|apply And.intro|exact ze0|refine ze1 ?_|refine zei ?_ ?_|exact rfl|trivial)
        all_goals exact Stop.mk rfl
       refine ⟨m+1,⟨by omega,fun j hj'=>?_⟩,by omega,?_⟩
       ·by_cases e:j=m
        ·subst e
         simp only [endB,Bool.and_eq_true,QcM]
         omega
        ·exact hk j (by omega)
       exact ⟨rfl,zae,zae,rfl⟩
      ·rw [show Qap s=true from pB_t.2 ⟨by rw [hr];rfl,by omega,pB_t.1 hq,by omega,fun j hj=>hp j (by omega),fun j hj=>hk j (by omega)⟩]
       repeat' (first|refine zst ?_|(refine zhm fun hb=>?_;try exact zab)|refine zdr ?_|(apply zch;exact zcg)|refine HopS.mk fun w0 Z O=>?_|exact zhk|refine zg3 ?_ ?_|refine zln fun _=>?_|refine zop ?_|fail)
       exact zr [] zae zae
end Go.Proofs.YtelbahebpmkfjaaGreat
namespace Go.Proofs.YtelbahebpmkfjaaGreat
open Go Go.RowKit
attribute [local irreducible] AWp Qat OpOk ACalls ChA QsOk MCalls EnC PY

def useS (n:Int) (v:V3) (x:Run):V3:=if hasI x.nodes n=true then (addO v x.job.need).getD zV else v
def useV (n:Int) (l:List Run):V3:=l.foldl (useS n) zV
noncomputable def useO (s:State) (n:Int):V3:=if Qap s=true∧0≤n∧n<s.topo.nodes.length then useV n s.runs else zV
theorem Qhb {s:State} (h:Qap s=true):RunsP s:=by
 have h1:=(pB_t.1 h).room
 cases hr:Qbu s with
 | none=>rw [hr] at h1;cases h1
 | some r=>exact QjS hr
theorem QlW {s:State} {n:Int}:ACalls Tryz.prog 199 [QaA s,.d (.n .i64 n)] [.d (.b (decide (0≤n)&&decide (n<s.topo.nodes.length)))] []:=by
 refine Qaa tt Tryz.func199 rfl rfl rfl (fun w0 Z=>?_)
 have hnl:=Qar s.topo.nodes
 repeat' (first|refine zst ?_|(refine zhm fun hb=>?_;try exact zab)|refine zg2 ?_ ?_|refine zln fun _=>?_|refine zop ?_|fail)
 all_goals
  refine zr [] ?_ ?_
  repeat'(first|apply And.intro|exact ze0|refine ze1 ?_|refine zei ?_ ?_|exact rfl|trivial)
  exact Stop.mk (by rw [Bool.eq_iff_iff];simp;omega)
end Go.Proofs.YtelbahebpmkfjaaGreat
