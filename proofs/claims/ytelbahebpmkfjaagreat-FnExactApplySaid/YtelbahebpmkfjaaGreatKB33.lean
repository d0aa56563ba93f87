/-
  Fail, both.
-/
import Derived.Test.YtelbahebpmkfjaaGreatKB7
import Derived.Test.YtelbahebpmkfjaaGreatKB32
import Derived.Test.YtelbahebpmkfjaaGreatKB25
import Derived.Test.YtelbahebpmkfjaaGreatKB26
set_option maxRecDepth 100000
set_option maxHeartbeats 16000000
namespace Go.Proofs.YtelbahebpmkfjaaGreat
open Go Go.RowKit
attribute [local irreducible] AWp Qat OpOk ACalls ChA QsOk MCalls NCalls EnC PY

theorem QlJ {l:List Job} (h1:l.length≤60) (h2:∀x∈l,Qau x=true) (h3:(l.map Job.id).Nodup):QueueP l:=by
 refine ⟨h1,fun i hi=>h2 _ (QaO hi),fun i hi k hk e=>?_⟩
 have:=List.pairwise_iff_getElem.1 h3 k i (by rw [List.length_map];omega) (by rw [List.length_map];exact hi) hk
 apply this
 rw [List.getElem_map,List.getElem_map,←Qa8 hi,←Qa8 (by omega)]
 exact e
theorem QueueP.sub {l l':List Job} (h:QueueP l) (hs:l'.Sublist l):QueueP l':=QlJ (Nat.le_trans hs.length_le h.len) (fun x hx=>h.ok x (hs.subset hx)) ((hs.map Job.id).nodup h.nodup)
theorem QhG {s:State} {p:Run→Bool}:(s.queue++Qck p s.runs).Sublist (allJ s):=List.Sublist.append (List.Sublist.refl _) ((List.filter_sublist).map _)
theorem Qkx {p:Run→Bool} {l:List Run} {j:Nat} (hj:j<(Qbx p l).length):nth (Qbx p l) j∈l:=(List.mem_filter.1 (QaO hj)).1
theorem Qgt {p:Run→Bool} {l:List Run}:(Qbx p l).length≤l.length:=List.length_filter_le _ _
theorem Quj {p:Run→Bool} {l:List Run}:(Qck p l).length≤l.length:=by rw [Qck,List.length_map];exact List.length_filter_le _ _
theorem Qfd {now why:Int} {p:Run→Bool} {l:List Run}:(QaM now why p l).length≤l.length:=by rw [QaM,List.length_map];exact List.length_filter_le _ _
def QbN (n:Int) (r:Run):Bool:=hasI r.nodes n
def fail1 (s:State) (n:Int):State:={ s with up:=s.up.set n.toNat false,queue:=s.queue++Qck (QbN n) s.runs,runs:=Qbx (QbN n) s.runs,ends:=s.ends++QaM s.now 4 (QbN n) s.runs }
noncomputable def QfK (s:State) (n:Int):Option State×Int:=
 if Qap s=true then
  if 0≤n∧n<s.up.length∧nth s.up n.toNat=true then
   if 300<(s.ends++QaM s.now 4 (QbN n) s.runs).length then (none,6) else (some (Qbq (fail1 s n)),0)
  else (none,7)
 else (none,1)
theorem Qxi {s:State} (h:QueueP (allJ s)) {r:Run} (hr:r∈s.runs):Qau r.job=true:=h.ok _ (List.mem_append_right _ (List.mem_map.2 ⟨r,hr,rfl⟩))
theorem Qxz {j:Job} (h:Qau j=true):1≤j.id∧j.id≤999:=by
 simp only [Qau,Bool.and_eq_true,QcM] at h;omega
theorem Qmf {s:State} {n:Int} (h:QueueP (allJ s)):∀r∈s.runs,Qb4 0 n r=QbN n r:=fun r hr=>by
 have:=Qxz (Qxi h hr)
 unfold Qb4 QbN
 rw [show (r.job.id==0)=false by rw [beq_eq_false_iff_ne];omega,Bool.false_or]
theorem Qqt {p q:Run→Bool} {l:List Run} (h:∀r∈l,p r=q r):l.filter p=l.filter q:=List.filter_congr h
theorem QqZ {p q:Run→Bool} {l:List Run} (h:∀r∈l,p r=q r):Qbx p l=Qbx q l:=List.filter_congr fun r hr=>by rw [h r hr]
theorem Qn9 {now why:Int} {p q:Run→Bool} {l:List Run} (h:∀r∈l,p r=q r):QaM now why p l=QaM now why q l:=by unfold QaM;rw [Qqt h]
theorem Qgv {n:Nat} {s:State} {x:Int} (h:Small 1048576 s) (hk:QueueP (allJ s)) (he:¬300<(s.ends++QaM s.now 4 (QbN x) s.runs).length) (hn:1048576≤n):Small n (fail1 s x):=by
 have h1:=(hk.sub (QhG (s:=s) (p:=QbN x))).len
 have h2:=Qgt (p:=QbN x) (l:=s.runs)
 have h3:=h.run
 refine ⟨Nat.le_trans h.par hn,Nat.le_trans h.nod hn,by rw [fail1,List.length_set];exact Nat.le_trans h.up hn,by simp only [fail1];omega,by simp only [fail1];omega,by simp only [fail1];omega,fun j hj=>?_⟩
 obtain ⟨i,hi,e⟩:=QbB (Qkx hj)
 rw [show (fail1 s x).runs=Qbx (QbN x) s.runs from rfl,←e]
 exact Nat.le_trans (h.rno i hi) hn
@[reducible] def QqE (s:State) (u q r e:List (List D)):AV:=.agg [.d (.sl (intE s.topo.parents)),.d (.sl (QaD s.topo.nodes)),.d (.sl u),.d (.n .i64 s.lic.a),.d (.n .i64 s.lic.b),.d (.n .i64 s.lic.c),.d (.n .i64 s.depth),.d (.n .i64 s.now),.d (.sl q),.d (.sl r),.d (.sl e)]
@[reducible] def QwJ (s:State) (u q:List (List D)) (q1 q2:Nat):List AV:=[.d (.sl (intE s.topo.parents)),.d (.sl (QaD s.topo.nodes)),.d (.sl u),.d (.n .i64 s.lic.a),.d (.n .i64 s.lic.b),.d (.n .i64 s.lic.c),.d (.n .i64 s.depth),.d (.n .i64 s.now),.d (.sl q),.row q1,.row q2]
theorem QwV {s:State} {n:Int}:QaA (fail1 s n)=QqE s ((Qaw s.up).set n.toNat [.b false]) (jobE s.queue++jobE (Qck (QbN n) s.runs)) (runE (Qbx (QbN n) s.runs)) (endE (s.ends++QaM s.now 4 (QbN n) s.runs)):=by rw [Qgb,QtC];rfl
theorem Qw3 {s:State} {n:Int} {q1 q2:Nat}:Qdc (fail1 s n) q1 q2=QwJ s ((Qaw s.up).set n.toNat [.b false]) (jobE (s.queue++Qck (QbN n) s.runs)) q1 q2:=by rw [Qgb];rfl
theorem Qru {n:Int} {r:Run} (h:r.nodes.length≤1000000000):ACalls Tryz.prog 209 [runA r,.pd [.n .i64 n] 0] [.d (.b (QbN n r))] []:=by
 refine Qaa tt Tryz.func209 rfl rfl rfl (fun w0 Z=>?_)
 repeat' (first|refine zst ?_|(refine zhm fun hb=>?_;try exact zab)|refine zg2 ?_ ?_|refine zop ?_|refine kc (Qdk (l:=r.nodes) (x:=n) h) rfl rfl ?_|fail)
 exact zr [] zae zae
theorem QxO {s:State} {n:Int} (hs:Small 1048576 s):SO 125 [QaA s,.d (.n .i64 n)] (QfK s n).1 (QfK s n).2:=by
 refine Qaa tt Tryz.func125 rfl rfl rfl (fun w0 Z=>?_)
 have hm:Small 100000000 s:=hs.mono (by omega)
 have c1:=Qca hm
 unfold QfK
 cases h:Qap s with
 | false=>
  rw [h] at c1
  rw [if_neg (by decide)]
  repeat' (first|refine zst ?_|(refine zhm fun hb=>?_;try exact zab)|refine zg2 ?_ ?_|refine zln fun _=>?_|refine zop ?_|refine kc (c1) rfl rfl ?_|fail)
  exact zr [] zae zae
 | true=>
  rw [h] at c1
  rw [if_pos rfl]
  have hk:=Qgd h
  have hbl:=Qaq s.up
  have hbl2:=hs.up
  by_cases hn:0≤n∧n<s.up.length∧nth s.up n.toNat=true
  ·rw [if_pos hn]
   obtain ⟨h1,h2,h3⟩:=hn
   have hnn:n=(n.toNat:Int):=by omega
   have hql:=hk.jobs.left.len
   have hqe:=Qak s.queue
   have hgl:=Quj (p:=QbN n) (l:=s.runs)
   have hge:=Qak (Qck (QbN n) s.runs)
   have hrl:=hs.run
   have hel:=QaC (s.ends++QaM s.now 4 (QbN n) s.runs)
   have hle:(s.ends++QaM s.now 4 (QbN n) s.runs).length=s.ends.length+(QaM s.now 4 (QbN n) s.runs).length:=List.length_append
   have hle2:=Qfd (now:=s.now) (why:=4) (p:=QbN n) (l:=s.runs)
   have hle3:=hs.end'
   have c3:=QpR (s:=s) (why:=4) (p:=QbN n) (g:=209) (ds:=[.n .i64 n]) (u:=(Qaw s.up).set n.toNat [.b false]) hm (fun r hr=>by
    obtain ⟨i,hi,e⟩:=QbB hr
    exact Qru (by rw [←e];have:=hs.rno i hi;omega))
   by_cases h6:300<(s.ends++QaM s.now 4 (QbN n) s.runs).length
   ·rw [if_pos h6]
    repeat' (first|(refine Qaj 7 28 rfl ?_)|(refine QcN 7 3 rfl rfl ?_)|refine zst ?_|(refine zhm fun hb=>?_;try exact zab)|refine zg2 ?_ ?_|refine zln fun _=>?_|refine zop ?_|refine kc (c1) rfl rfl ?_|refine kc (QaX) rfl rfl ?_|(refine km [] (QhT hm) rfl rfl (fun i hi=>?_);(try dsimp only at hi))|(refine kn2 [2,1028,2028] (c3) rfl rfl (fun i hi=>?_);(try dsimp only at hi))|fail)
    all_goals first
     | (exfalso;omega)
     | (exfalso;rw [h3] at hb;cases hb;done)
     | skip
    exact zr [] zae zae
   ·rw [if_neg h6]
    have hsm:=Qgv (n:=100000000) hs hk.jobs h6 (by omega)
    have c7:=Qdu (s:=fail1 s n) hsm ⟨hk.jobs.sub QhG,hk.depth⟩
    rw [QwV] at c7
    repeat' (first|(refine Qaj 7 28 rfl ?_)|(refine QcN 7 3 rfl rfl ?_)|refine zst ?_|(refine zhm fun hb=>?_;try exact zab)|refine zg2 ?_ ?_|refine zln fun _=>?_|refine zop ?_|refine kc (c1) rfl rfl ?_|refine kc (QaX) rfl rfl ?_|refine kc (c7) rfl rfl ?_|(refine km [] (QhT hm) rfl rfl (fun i hi=>?_);(try dsimp only at hi))|(refine kn2 [2,1028,2028] (c3) rfl rfl (fun i hi=>?_);(try dsimp only at hi))|fail)
    all_goals first
     | (exfalso;omega)
     | (exfalso;rw [h3] at hb;cases hb;done)
     | skip
    exact zr [46,1046,2046,3046,4046,5046] zae zae
  ·rw [if_neg hn]
   repeat' (first|refine zst ?_|(refine zhm fun hb=>?_;try exact zab)|refine zg2 ?_ ?_|refine zln fun _=>?_|refine zop ?_|refine kc (c1) rfl rfl ?_|refine kc (QaX) rfl rfl ?_|fail)
   all_goals first
    | (exfalso;exact hn ⟨by omega,by omega,by assumption⟩)
    | skip
   any_goals
    refine zr [] ?_ ?_
    repeat'(first|apply And.intro|exact ze0|refine ze1 ?_|refine zei ?_ ?_|exact rfl|trivial)
    all_goals exact Stop.mk rfl
theorem QxQ {s:State} {n:Int} (hs:Small 1048576 s):SS 118 [QaA s,.d (.n .i64 n)] (QfK s n).1 (QfK s n).2:=by
 refine Qag tt Tryz.func118 rfl rfl rfl trivial (fun _ _=>⟨trivial,trivial⟩) (fun w0 Z O=>?_)
 have hm:Small 100000000 s:=hs.mono (by omega)
 have c1:=QcD hm
 unfold QfK
 cases h:Qap s with
 | false=>
  rw [h] at c1
  rw [if_neg (by decide)]
  repeat' (first|refine zsr ?_|(refine zhm fun hb=>?_;try exact zab)|refine zg2 ?_ ?_|refine zln fun _=>?_|refine zop ?_|refine kc (c1) rfl rfl ?_|fail)
  show AWp _ _ _ _
  refine Qac ?_
  apply Qab
  exact zm () [] trivial zae zae zae
 | true=>
  rw [h] at c1
  rw [if_pos rfl]
  have hk:=Qgd h
  have hup:=hk.up
  have hbl:=Qaq s.up
  have hbl2:=hs.up
  have c3:=QlW (s:=s) (n:=n)
  by_cases hn0:0≤n∧n<s.up.length
  ·rw [decide_eq_true hn0.1,decide_eq_true (show n<s.topo.nodes.length by omega)] at c3
   obtain ⟨h1,h2⟩:=hn0
   have hnn:n=(n.toNat:Int):=by omega
   cases h3:nth s.up n.toNat with
   | false=>
    rw [if_neg (fun h=>by cases h.2.2)]
    repeat' (first|refine zsr ?_|(refine zhm fun hb=>?_;try exact zab)|refine zg2 ?_ ?_|refine zln fun _=>?_|refine zop ?_|refine kc (c1) rfl rfl ?_|refine kc (c3) rfl rfl ?_|fail)
    all_goals first
     | (exfalso;rw [h3] at hb;cases hb;done)
     | skip
    show AWp _ _ _ _
    refine Qac ?_
    apply Qab
    exact zm () [] trivial zae zae zae
   | true=>
    rw [if_pos ⟨h1,h2,rfl⟩]
    have hql:=hk.jobs.left.len
    have hrl:=hs.run
    have hrl2:=Qah s.runs
    have hel:=QaC (s.ends++QaM s.now 4 (QbN n) s.runs)
    have hle:(s.ends++QaM s.now 4 (QbN n) s.runs).length=s.ends.length+(QaM s.now 4 (QbN n) s.runs).length:=List.length_append
    have hle2:=Qfd (now:=s.now) (why:=4) (p:=QbN n) (l:=s.runs)
    have hle3:=hs.end'
    repeat' (first|refine zsr ?_|(refine zhm fun hb=>?_;try exact zab)|refine zg2 ?_ ?_|refine zln fun _=>?_|refine zop ?_|refine kc (c1) rfl rfl ?_|refine kc (c3) rfl rfl ?_|(refine km [] (Qrd hm) rfl rfl (fun i hi=>?_);(try dsimp only at hi))|fail)
    all_goals first
     | (exfalso;rw [h3] at hb;cases hb;done)
     | skip
    refine Qae (fun (k:Nat)=>⟨60,[(1,.d (.n .i64 n)),(2,.ptr 2 0),(4,.ptr 4 0),(28,.d (.sl (runE s.runs))),(29,.d (.n .i64 (s.runs.length:Nat))),(30,.d (.n .i64 k))],[(2,.box 43 (Qsb s (.row 26) (.row 1026) 2026)),(4,.box 43 ctl0),(26,.row 4 (Qaw s.up) true),(1026,.row 78 (jobE (s.queue++Qck (QbN n) (s.runs.take k))) true),(2026,.row 150 (endE s.ends) true)]⟩) (fun k=>k≤s.runs.length) (fun k=>s.runs.length - k) 0 (by exact Nat.zero_le _) ?_ ?_
    ·refine ⟨rfl,?_,?_,rfl⟩
     repeat'(first|apply And.intro|exact ze0|refine ze1 ?_|refine zei ?_ ?_|exact rfl|trivial)
     all_goals exact Stop.mk (by first|rfl|exact Qah _|(simp [Qck];done))
    intro k hk'
    have hd1:=Qak (s.queue++Qck (QbN n) (s.runs.take k))
    have hd2:(s.queue++Qck (QbN n) (s.runs.take k)).length=s.queue.length+(Qck (QbN n) (s.runs.take k)).length:=List.length_append
    have hd3:=Qib (p:=QbN n) (l:=s.runs) (i:=k)
    by_cases hk2:k<s.runs.length
    ·have hno:=hs.rno k hk2
     have c4:=Qc4 (l:=(nth s.runs k).nodes) (x:=n) (by omega)
     cases hp:hasI (nth s.runs k).nodes n with
     | true=>
      rw [hp] at c4
      have e1:=Qio (p:=QbN n) hk2 hp
      generalize Qck (QbN n) (s.runs.take k)=gj at *
      repeat' (first|refine zsr ?_|(refine zhm fun hb=>?_;try exact zab)|refine zg2 ?_ ?_|refine zln fun _=>?_|refine zop ?_|refine kc (c4) rfl rfl ?_|fail)
      refine ⟨k+1,by omega,by omega,?_⟩
      refine ⟨rfl,?_,?_,rfl⟩
      repeat'(first|apply And.intro|exact ze0|refine ze1 ?_|refine zei ?_ ?_|exact rfl|trivial)
      all_goals exact Stop.mk (by first|rfl|(rw [e1,←List.append_assoc];exact Qb2 _ _))
     | false=>
      rw [hp] at c4
      have e1:=Qj8 (p:=QbN n) hk2 hp
      repeat' (first|refine zsr ?_|(refine zhm fun hb=>?_;try exact zab)|refine zg2 ?_ ?_|refine zln fun _=>?_|refine zop ?_|refine kc (c4) rfl rfl ?_|fail)
      refine ⟨k+1,by omega,by omega,?_⟩
      refine ⟨rfl,?_,?_,rfl⟩
      repeat'(first|apply And.intro|exact ze0|refine ze1 ?_|refine zei ?_ ?_|exact rfl|trivial)
      all_goals exact Stop.mk (by first|rfl|(rw [e1];done))
    ·obtain rfl:k=s.runs.length:=by omega
     rw [List.take_length] at *
     have c5:=Qp4 (s:={ s with queue:=s.queue++Qck (QbN n) s.runs }) (why:=4) (id:=0) (node:=n) ⟨hm.par,hm.nod,hm.up,by dsimp only;omega,hm.run,hm.end',hm.rno⟩
     dsimp only [Qhj] at c5
     rw [QqZ (Qmf hk.jobs),Qn9 (Qmf hk.jobs)] at c5
     by_cases h6:300<(s.ends++QaM s.now 4 (QbN n) s.runs).length
     ·rw [if_pos h6]
      repeat' (first|(refine Qaj 12 1026 rfl ?_)|refine zsr ?_|(refine zhm fun hb=>?_;try exact zab)|refine zg2 ?_ ?_|refine zln fun _=>?_|refine zop ?_|(refine kn [26,2026] (c5) rfl rfl (fun i hi=>?_);(try dsimp only at hi))|fail)
      show AWp _ _ _ _
      refine Qac ?_
      apply Qab
      exact zm () [] trivial zae zae zae
     ·rw [if_neg h6]
      have hsm:=Qgv (n:=100000000) hs hk.jobs h6 (by omega)
      have c7:=Qc1 (s:=fail1 s n) hsm ⟨hk.jobs.sub QhG,hk.depth⟩
      rw [Qw3] at c7
      repeat' (first|(refine Qaj 12 1026 rfl ?_)|(refine Qaj 16 2048 rfl ?_)|refine zsr ?_|(refine zhm fun hb=>?_;try exact zab)|refine zg2 ?_ ?_|refine zln fun _=>?_|refine zop ?_|(refine kn [26,2026] (c5) rfl rfl (fun i hi=>?_);(try dsimp only at hi))|(refine kn [48,1048] (c7) rfl rfl (fun i hi=>?_);(try dsimp only at hi))|fail)
      show AWp _ _ _ _
      refine Qav 59 rfl ?_
      show AWp _ _ _ _
      refine Qav 1059 rfl ?_
      refine Qac ?_
      apply Qab
      exact zm () [] trivial zae zae zae
  ·rw [show (decide (0≤n)&&decide (n<s.topo.nodes.length))=false by simp;omega] at c3
   rw [if_neg (fun h=>hn0 ⟨h.1,h.2.1⟩)]
   repeat' (first|refine zsr ?_|(refine zhm fun hb=>?_;try exact zab)|refine zg2 ?_ ?_|refine zln fun _=>?_|refine zop ?_|refine kc (c1) rfl rfl ?_|refine kc (c3) rfl rfl ?_|fail)
   show AWp _ _ _ _
   refine Qac ?_
   apply Qab
   exact zm () [] trivial zae zae zae
theorem QmJ {s:State} {n:Int} (hs:Small 1048576 s):∀s',(QfK s n).1=some s'→Small 1048576 s':=fun s' h=>by
 unfold QfK at h
 split at h
 ·rename_i h1
  have hk:=Qgd h1
  split at h
  ·split at h
   ·cases h
   ·rename_i h3
    cases h
    exact Qdw ⟨hk.jobs.sub QhG,hk.depth⟩ (Qgv hs hk.jobs h3 (Nat.le_refl _)) (by have:=QfI h1;have:=Qgt (p:=QbN n) (l:=s.runs);simp only [fail1];omega)
  ·cases h
 ·cases h
end Go.Proofs.YtelbahebpmkfjaaGreat
namespace Go.Proofs.YtelbahebpmkfjaaGreat
open Go Go.RowKit
attribute [local irreducible] AWp Qat OpOk ACalls ChA QsOk MCalls NCalls EnC PY

theorem QmZ {l:List Run} {p:Run→Bool} {g:FuncId} {ds:List D} (h:l.length≤1000000000) (hg:∀j,ACalls Tryz.prog g [runA j,.pd ds 0] [.d (.b (p j))] []):ACalls Tryz.prog 270 [.d (.sl (runE l)),.clo g [.pd ds 0]] [.d (.n .i64 (idxF l p))] []:=by
 refine Qaa tt Tryz.func270 rfl rfl rfl (fun w0 Z=>?_)
 have hl:=Qah l
 repeat' (first|refine zst ?_|(refine zhm fun hb=>?_;try exact zab)|refine zg2 ?_ ?_|refine zln fun _=>?_|refine zop ?_|fail)
 refine Qae (fun (i:Nat)=>⟨19,[(0,.d (.sl (runE l))),(1,.clo g [.pd ds 0]),(7,.d (.n .i64 (l.length:Nat))),(8,.d (.n .i64 i))],[]⟩) (fun i=>i≤l.length∧∀j,j<i→p (nth l j)=false) (fun i=>l.length - i) 0 (by exact ⟨Nat.zero_le _,fun j hj=>absurd hj (Nat.not_lt_zero _)⟩) ?_ ?_
 ·refine ⟨rfl,?_,?_,rfl⟩
  repeat'(first|apply And.intro|exact ze0|refine ze1 ?_|refine zei ?_ ?_|exact rfl|trivial)
  all_goals exact Stop.mk (by first|rfl|exact Qah _)
 ·rintro i ⟨hi,hp⟩
  by_cases hi':i<l.length
  ·repeat' (first|refine zst ?_|(refine zhm fun hb=>?_;try exact zab)|refine zg2 ?_ ?_|refine zln fun _=>?_|refine zop ?_|refine kv (hg (nth l i)) rfl rfl rfl rfl rfl ?_|fail)
   ·rw [QkJ hi' (by assumption) hp]
    exact zr [] zae zae
   ·refine ⟨i+1,⟨by omega,fun j hj=>?_⟩,by omega,?_⟩
    ·by_cases e:j=i
     ·subst e;assumption
     ·exact hp j (by omega)
    exact ⟨rfl,zae,zae,rfl⟩
  ·rw [QrJ (fun j hj=>hp j (by omega))]
   repeat' (first|refine zst ?_|(refine zhm fun hb=>?_;try exact zab)|refine zg2 ?_ ?_|refine zln fun _=>?_|refine zop ?_|fail)
   exact zr [] zae zae
theorem Qja {l:List Run} {p:Run→Bool} {g:FuncId} {ds:List D} (h:l.length≤1000000000) (hg:∀j,ACalls Tryz.prog g [runA j,.pd ds 0] [.d (.b (p j))] []):ACalls Tryz.prog 206 [.d (.sl (runE l)),.clo g [.pd ds 0]] [.d (.b (l.any p))] []:=by
 refine Qaa tt Tryz.func206 rfl rfl rfl (fun w0 Z=>?_)
 repeat' (first|refine zst ?_|(refine zhm fun hb=>?_;try exact zab)|refine zg2 ?_ ?_|refine zop ?_|refine kc (QmZ h hg) rfl rfl ?_|fail)
 refine zr [] ?_ ?_
 repeat'(first|apply And.intro|exact ze0|refine ze1 ?_|refine zei ?_ ?_|exact rfl|trivial)
 all_goals exact Stop.mk (QhJ l p)
def finP (id:Int) (r:Run):Bool:=r.job.id==id
theorem QqB {id:Int} (r:Run):ACalls Tryz.prog 207 [runA r,.pd [.n .i64 id] 0] [.d (.b (finP id r))] []:=by
 refine Qaa tt Tryz.func207 rfl rfl rfl (fun w0 Z=>?_)
 repeat' (first|refine zst ?_|(refine zhm fun hb=>?_;try exact zab)|refine zg2 ?_ ?_|refine zop ?_|fail)
 exact zr [] zae zae
theorem Qrw {id:Int} (r:Run):ACalls Tryz.prog 208 [runA r,.pd [.n .i64 id] 0] [.d (.b (finP id r))] []:=by
 refine Qaa tt Tryz.func208 rfl rfl rfl (fun w0 Z=>?_)
 repeat' (first|refine zst ?_|(refine zhm fun hb=>?_;try exact zab)|refine zg2 ?_ ?_|refine zop ?_|fail)
 exact zr [] zae zae
def finR (s:State) (id why:Int):State:={ s with runs:=Qbx (finP id) s.runs,ends:=s.ends++QaM s.now why (finP id) s.runs }
def finQ (s:State) (id why:Int):State:={ s with queue:=outJ s.queue id,ends:=s.ends++[⟨id,s.now,why⟩] }
noncomputable def fnsO (s:State) (id why:Int):Option State×Int:=
 if Qap s=true∧(why=2∨why=3) then
  if s.runs.any (finP id)=true then
   if 300≤s.ends.length then (none,6) else (some (Qbq (finR s id why)),0)
  else if s.queue.any (fun x=>x.id==id)=true∧why=3 then
   if 300≤s.ends.length then (none,6) else (some (Qbq (finQ s id why)),0)
  else (none,5)
 else (none,1)
theorem QjY {l:List Job} {id:Int}:(outJ l id).Sublist l:=List.filter_sublist
theorem QgY {s:State} {id why:Int} {n:Nat} (h:Small 1048576 s) (he:¬300≤s.ends.length) (hr:s.runs.length≤60) (hn:1048576≤n):Small n (finR s id why):=by
 have h1:=Qgt (p:=finP id) (l:=s.runs)
 have h2:=Qfd (now:=s.now) (why:=why) (p:=finP id) (l:=s.runs)
 have h3:=h.que
 have hl:(s.ends++QaM s.now why (finP id) s.runs).length=s.ends.length+(QaM s.now why (finP id) s.runs).length:=List.length_append
 refine ⟨Nat.le_trans h.par hn,Nat.le_trans h.nod hn,Nat.le_trans h.up hn,Nat.le_trans h.que hn,by simp only [finR];omega,by simp only [finR];omega,fun j hj=>?_⟩
 obtain ⟨i,hi,e⟩:=QbB (Qkx hj)
 rw [show (finR s id why).runs=Qbx (finP id) s.runs from rfl,←e]
 exact Nat.le_trans (h.rno i hi) hn
theorem Qfc {s:State} {id why:Int} {n:Nat} (h:Small 1048576 s) (he:¬300≤s.ends.length) (hn:1048576≤n):Small n (finQ s id why):=by
 have h1:=(QjY (l:=s.queue) (id:=id)).length_le
 have h3:=h.que
 exact ⟨Nat.le_trans h.par hn,Nat.le_trans h.nod hn,Nat.le_trans h.up hn,by simp only [finQ];omega,Nat.le_trans h.run hn,by simp only [finQ,List.length_append,List.length_singleton];omega,fun j hj=>Nat.le_trans (h.rno j hj) hn⟩
theorem QxB {s:State} {id why:Int}:QaA (finR s id why)=QqE s (Qaw s.up) (jobE s.queue) (runE (Qbx (finP id) s.runs)) (endE (s.ends++QaM s.now why (finP id) s.runs)):=rfl
theorem QwT {s:State} {id why:Int}:QaA (finQ s id why)=QqE s (Qaw s.up) (jobE (outJ s.queue id)) (runE s.runs) (endE s.ends++[[.n .i64 id,.n .i64 s.now,.n .i64 why]]):=by
 rw [show endE s.ends++[[.n .i64 id,.n .i64 s.now,.n .i64 why]]=endE (s.ends++[⟨id,s.now,why⟩]) from Qcm _ ⟨_,_,_⟩];rfl
theorem QwP {s:State} (h:Qap s=true) {r:Run} (hr:r∈s.runs):hasI r.nodes (-1)=false:=by
 obtain ⟨i,hi,rfl⟩:=QbB hr
 have hd:=((Qhb h).runs i hi).2.nodes
 cases hh:hasI (nth s.runs i).nodes (-1) with
 | false=>rfl
 | true=>
  have:(-1:Int)∈(nth s.runs i).nodes:=by simpa [hasI] using hh
  obtain ⟨k,hk,e⟩:=QbB this
  have:=(hd k hk).1
  omega
theorem QjX {s:State} {id:Int} (h:Qap s=true):∀r∈s.runs,Qb4 id (-1) r=finP id r:=fun r hr=>by
 unfold Qb4 finP
 rw [QwP h hr,Bool.or_false]
theorem QpX {s:State} {id:Int} (h:Qap s=true) (hn:s.runs.any (finP id)=false):∀r∈s.runs,Qb4 id (-1) r=false:=fun r hr=>by
 rw [QjX h r hr]
 cases hh:finP id r with
 | false=>rfl
 | true=>rw [List.any_eq_true.2 ⟨r,hr,hh⟩] at hn;cases hn
theorem QrU {p:Run→Bool} {l:List Run} (h:∀r∈l,p r=false):Qbx p l=l:=by
 unfold Qbx
 rw [List.filter_eq_self]
 intro r hr
 rw [h r hr];rfl
theorem Qpg {now why:Int} {p:Run→Bool} {l:List Run} (h:∀r∈l,p r=false):QaM now why p l=[]:=by
 unfold QaM
 rw [List.filter_eq_nil_iff.2 (fun r hr=>by rw [h r hr];decide)]
 rfl
theorem QsL {s:State} {id:Int} (hk:QueueP (allJ s)) (h:s.runs.any (finP id)=true):s.queue.any (fun x=>x.id==id)=false:=by
 cases hh:s.queue.any (fun x=>x.id==id) with
 | false=>rfl
 | true=>
  exfalso
  obtain ⟨x,hx,e1⟩:=List.any_eq_true.1 hh
  obtain ⟨r,hr,e2⟩:=List.any_eq_true.1 h
  have hn:=hk.nodup
  rw [allJ,List.map_append,List.nodup_append] at hn
  refine hn.2.2 x.id (List.mem_map.2 ⟨x,hx,rfl⟩) r.job.id (List.mem_map.2 ⟨r.job,List.mem_map.2 ⟨r,hr,rfl⟩,rfl⟩) ?_
  rw [beq_iff_eq.1 e1]
  exact (beq_iff_eq.1 e2).symm
theorem QvG {s:State} {id:Int}:(allJ s).any (fun x=>x.id==id)=(s.queue.any (fun x=>x.id==id)||s.runs.any (finP id)):=by
 rw [allJ,List.any_append,List.any_map]
 rfl
theorem QoC {s:State} {id why:Int} (hs:Small 1048576 s):SO 124 [QaA s,.d (.n .i64 id),.d (.n .i64 why)] (fnsO s id why).1 (fnsO s id why).2:=by
 refine Qaa tt Tryz.func124 rfl rfl rfl (fun w0 Z=>?_)
 have hm:Small 100000000 s:=hs.mono (by omega)
 have c1:=Qca hm
 unfold fnsO
 cases h:Qap s with
 | false=>
  rw [h] at c1
  rw [if_neg (fun h=>by cases h.1)]
  repeat' (first|refine zst ?_|(refine zhm fun hb=>?_;try exact zab)|refine zg2 ?_ ?_|refine zln fun _=>?_|refine zop ?_|refine kc (c1) rfl rfl ?_|fail)
  all_goals
   exact zr [] zae zae
 | true=>
  rw [h] at c1
  by_cases hw:why=2∨why=3
  ·rw [if_pos ⟨rfl,hw⟩]
   have hk:=Qgd h
   have hrl:=QfI h
   have hrm:=hs.run
   have hqm:=hs.que
   have hem:=hs.end'
   have hql:=hk.jobs.left.len
   have hqe:=Qak s.queue
   have hee:=QaC s.ends
   have c2:=Qja (l:=s.runs) (p:=finP id) (g:=207) (ds:=[.n .i64 id]) (by omega) QqB
   have c3:=Qm2 (l:=s.queue) (id:=id) (by omega)
   have hix:=QhJ s.queue fun x=>x.id==id
   cases hr:s.runs.any (finP id) with
   | true=>
    rw [hr] at c2
    rw [if_pos rfl]
    by_cases h6:300≤s.ends.length
    ·rw [if_pos h6]
     repeat' (first|(refine QcN 3 4 rfl rfl ?_)|refine zst ?_|(refine zhm fun hb=>?_;try exact zab)|refine zg2 ?_ ?_|refine zln fun _=>?_|refine zop ?_|refine kc (c1) rfl rfl ?_|refine kc (c2) rfl rfl ?_|refine kc (c3) rfl rfl ?_|fail)
     all_goals
      exact zr [] zae zae
    ·rw [if_neg h6]
     have c4:=QpR (s:=s) (why:=why) (p:=finP id) (g:=208) (ds:=[.n .i64 id]) (u:=Qaw s.up) hm (fun r _=>Qrw r)
     have c7:=Qdu (s:=finR s id why) (QgY hs h6 hrl (by omega)) ⟨hk.jobs.left,hk.depth⟩
     rw [QxB] at c7
     repeat' (first|(refine QcN 3 4 rfl rfl ?_)|refine zst ?_|(refine zhm fun hb=>?_;try exact zab)|refine zg2 ?_ ?_|refine zln fun _=>?_|refine zop ?_|refine kc (c1) rfl rfl ?_|refine kc (c2) rfl rfl ?_|refine kc (c3) rfl rfl ?_|refine kc (c7) rfl rfl ?_|(refine km [] (Qh3 hm) rfl rfl (fun i hi=>?_);(try dsimp only at hi))|(refine kn2 [3,47,1047] (c4) rfl rfl (fun i hi=>?_);(try dsimp only at hi))|fail)
     all_goals first
      | (exfalso;omega)
      | skip
     all_goals
      exact zr [70,1070,2070,3070,4070,5070] zae zae
   | false=>
    rw [hr] at c2
    rw [if_neg (show ¬(false=true) by decide)]
    cases hq:s.queue.any (fun x=>x.id==id) with
    | false=>
     rw [hq,decide_eq_false_iff_not] at hix
     rw [if_neg (fun h=>by cases h.1)]
     repeat' (first|(refine QcN 3 4 rfl rfl ?_)|refine zst ?_|(refine zhm fun hb=>?_;try exact zab)|refine zg2 ?_ ?_|refine zln fun _=>?_|refine zop ?_|refine kc (c1) rfl rfl ?_|refine kc (c2) rfl rfl ?_|refine kc (c3) rfl rfl ?_|fail)
     all_goals
      exact zr [] zae zae
    | true=>
     rw [hq,decide_eq_true_eq] at hix
     by_cases h3:why=3
     ·rw [if_pos ⟨rfl,h3⟩]
      by_cases h6:300≤s.ends.length
      ·rw [if_pos h6]
       repeat' (first|(refine QcN 3 4 rfl rfl ?_)|refine zst ?_|(refine zhm fun hb=>?_;try exact zab)|refine zg2 ?_ ?_|refine zln fun _=>?_|refine zop ?_|refine kc (c1) rfl rfl ?_|refine kc (c2) rfl rfl ?_|refine kc (c3) rfl rfl ?_|fail)
       all_goals
        exact zr [] zae zae
      ·rw [if_neg h6]
       have hfi:idxF s.queue (fun x=>x.id==id)=((s.queue.findIdx (fun x=>x.id==id):Nat):Int):=if_pos hq
       have hlt:s.queue.findIdx (fun x=>x.id==id)<s.queue.length:=List.findIdx_lt_length.2 (by simpa using List.any_eq_true.1 hq)
       have hid:(nth s.queue (s.queue.findIdx (fun x=>x.id==id))).id=id:=by
        rw [Qa8 hlt]
        exact beq_iff_eq.1 (List.findIdx_getElem (w:=hlt))
       rw [hfi] at c3
       generalize s.queue.findIdx (fun x=>x.id==id)=k at *
       have c4:=Qoh (l:=s.queue) (k:=k) hlt (by omega)
       rw [Qfe hk.jobs.left.nodup hlt,hid] at c4
       have c7:=Qdu (s:=finQ s id why) (Qfc hs h6 (by omega)) ⟨hk.jobs.left.sub QjY,hk.depth⟩
       rw [QwT] at c7
       repeat' (first|(refine QcN 3 4 rfl rfl ?_)|refine zst ?_|(refine zhm fun hb=>?_;try exact zab)|refine zg2 ?_ ?_|refine zln fun _=>?_|refine zop ?_|refine kc (c1) rfl rfl ?_|refine kc (c2) rfl rfl ?_|refine kc (c3) rfl rfl ?_|refine kc (c7) rfl rfl ?_|(refine km [] (Qh3 hm) rfl rfl (fun i hi=>?_);(try dsimp only at hi))|(refine kn [47] (c4) rfl rfl (fun i hi=>?_);(try dsimp only at hi))|fail)
       all_goals first
        | (exfalso;omega)
        | skip
       all_goals
        exact zr [70,1070,2070,3070,4070,5070] zae zae
     ·rw [if_neg (fun h=>h3 h.2)]
      repeat' (first|(refine QcN 3 4 rfl rfl ?_)|refine zst ?_|(refine zhm fun hb=>?_;try exact zab)|refine zg2 ?_ ?_|refine zln fun _=>?_|refine zop ?_|refine kc (c1) rfl rfl ?_|refine kc (c2) rfl rfl ?_|refine kc (c3) rfl rfl ?_|fail)
      all_goals
       exact zr [] zae zae
  ·rw [if_neg (fun h=>hw h.2)]
   repeat' (first|refine zst ?_|(refine zhm fun hb=>?_;try exact zab)|refine zg2 ?_ ?_|refine zln fun _=>?_|refine zop ?_|refine kc (c1) rfl rfl ?_|fail)
   all_goals first
    | (exfalso;omega)
    | skip
   all_goals
    exact zr [] zae zae
theorem QnG {s:State} {id why:Int} (hs:Small 1048576 s):SS 117 [QaA s,.d (.n .i64 id),.d (.n .i64 why)] (fnsO s id why).1 (fnsO s id why).2:=by
 refine Qag tt Tryz.func117 rfl rfl rfl trivial (fun _ _=>⟨trivial,trivial⟩) (fun w0 Z O=>?_)
 have hm:Small 100000000 s:=hs.mono (by omega)
 have c1:=QcD hm
 unfold fnsO
 cases h:Qap s with
 | false=>
  rw [h] at c1
  rw [if_neg (fun h=>by cases h.1)]
  repeat' (first|refine zsr ?_|(refine zhm fun hb=>?_;try exact zab)|refine zg2 ?_ ?_|refine zln fun _=>?_|refine zop ?_|refine kc (c1) rfl rfl ?_|fail)
  all_goals
   show AWp _ _ _ _
   refine Qac ?_
   apply Qab
   exact zm () [] trivial zae zae zae
 | true=>
  rw [h] at c1
  by_cases hw:why=2∨why=3
  ·rw [if_pos ⟨rfl,hw⟩]
   have hk:=Qgd h
   have hrl:=QfI h
   have hal:=hk.jobs.len
   have hrm:=hs.run
   have hqm:=hs.que
   have hem:=hs.end'
   have hee:=QaC s.ends
   have c2:=QfT (l:=s.queue) (id:=id) (by omega)
   have c3:=QfT (l:=allJ s) (id:=id) (by omega)
   have c6:=Qf0 (hm.mono (m:=1000000000) (by omega))
   rw [QnD] at c2 c3
   rw [QvG] at c3
   cases hr:s.runs.any (finP id) with
   | true=>
    have hq:=QsL hk.jobs hr
    rw [hr,hq] at c3
    rw [hq] at c2
    rw [if_pos rfl]
    by_cases h6:300≤s.ends.length
    ·rw [if_pos h6]
     repeat' (first|refine zsr ?_|(refine zhm fun hb=>?_;try exact zab)|refine zg2 ?_ ?_|refine zln fun _=>?_|refine zop ?_|refine kc (c1) rfl rfl ?_|refine kc (c2) rfl rfl ?_|refine kc (c3) rfl rfl ?_|(refine km [] (c6) rfl rfl (fun i hi=>?_);(try dsimp only at hi))|fail)
     all_goals
      show AWp _ _ _ _
      refine Qac ?_
      apply Qab
      exact zm () [] trivial zae zae zae
    ·rw [if_neg h6]
     have c5:=Qlb (s:=s) (why:=why) (id:=id) (node:=-1) hm
     rw [QqZ (QjX h),Qn9 (QjX h)] at c5
     have c7:=Qc1 (s:=finR s id why) (QgY hs h6 hrl (by omega)) ⟨hk.jobs.left,hk.depth⟩
     repeat' (first|refine zsr ?_|(refine zhm fun hb=>?_;try exact zab)|refine zg2 ?_ ?_|refine zln fun _=>?_|refine zop ?_|refine kc (c1) rfl rfl ?_|refine kc (c2) rfl rfl ?_|refine kc (c3) rfl rfl ?_|(refine km [] (c6) rfl rfl (fun i hi=>?_);(try dsimp only at hi))|(refine km [] (QlN hm) rfl rfl (fun i hi=>?_);(try dsimp only at hi))|(refine kn [54] (c5) rfl rfl (fun i hi=>?_);(try dsimp only at hi))|(refine kn [74,1074] (c7) rfl rfl (fun i hi=>?_);(try dsimp only at hi))|fail)
     all_goals first
      | (exfalso;omega)
      | skip
     all_goals
      show AWp _ _ _ _
      refine Qav 76 rfl ?_
      show AWp _ _ _ _
      refine Qav 1076 rfl ?_
      refine Qac ?_
      apply Qab
      exact zm () [] trivial zae zae zae
   | false=>
    rw [hr] at c3
    rw [if_neg (show ¬(false=true) by decide)]
    cases hq:s.queue.any (fun x=>x.id==id) with
    | false=>
     rw [hq] at c2 c3
     rw [if_neg (fun h=>by cases h.1)]
     repeat' (first|refine zsr ?_|(refine zhm fun hb=>?_;try exact zab)|refine zg2 ?_ ?_|refine zln fun _=>?_|refine zop ?_|refine kc (c1) rfl rfl ?_|refine kc (c2) rfl rfl ?_|refine kc (c3) rfl rfl ?_|(refine km [] (c6) rfl rfl (fun i hi=>?_);(try dsimp only at hi))|fail)
     all_goals
      show AWp _ _ _ _
      refine Qac ?_
      apply Qab
      exact zm () [] trivial zae zae zae
    | true=>
     rw [hq] at c2 c3
     by_cases h3:why=3
     ·rw [if_pos ⟨rfl,h3⟩]
      by_cases h6:300≤s.ends.length
      ·rw [if_pos h6]
       repeat' (first|refine zsr ?_|(refine zhm fun hb=>?_;try exact zab)|refine zg2 ?_ ?_|refine zln fun _=>?_|refine zop ?_|refine kc (c1) rfl rfl ?_|refine kc (c2) rfl rfl ?_|refine kc (c3) rfl rfl ?_|(refine km [] (c6) rfl rfl (fun i hi=>?_);(try dsimp only at hi))|fail)
       all_goals
        show AWp _ _ _ _
        refine Qac ?_
        apply Qab
        exact zm () [] trivial zae zae zae
      ·rw [if_neg h6]
       have c5:=Qlb (s:=finQ s id why) (why:=why) (id:=id) (node:=-1) (Qfc hs h6 (by omega))
       have hno:=QpX (id:=id) h hr
       dsimp only [Qhj,finQ] at c5
       rw [QrU hno,Qpg hno,List.append_nil,←Qcm] at c5
       have c7:=Qc1 (s:=finQ s id why) (Qfc hs h6 (by omega)) ⟨hk.jobs.left.sub QjY,hk.depth⟩
       have hep:endE (finQ s id why).ends=endE s.ends++[[.n .i64 id,.n .i64 s.now,.n .i64 why]]:=(Qcm s.ends ⟨id,s.now,why⟩).symm
       rw [hep] at c7
       repeat' (first|refine zsr ?_|(refine zhm fun hb=>?_;try exact zab)|refine zg2 ?_ ?_|refine zln fun _=>?_|refine zop ?_|refine kc (c1) rfl rfl ?_|refine kc (c2) rfl rfl ?_|refine kc (c3) rfl rfl ?_|(refine km [] (c6) rfl rfl (fun i hi=>?_);(try dsimp only at hi))|(refine km [] (QlN hm) rfl rfl (fun i hi=>?_);(try dsimp only at hi))|(refine km [] (Qop (l:=s.queue) (id:=id) (by omega)) rfl rfl (fun i hi=>?_);(try dsimp only at hi))|(refine kn [54] (c5) rfl rfl (fun i hi=>?_);(try dsimp only at hi))|(refine kn [74,1074] (c7) rfl rfl (fun i hi=>?_);(try dsimp only at hi))|fail)
       all_goals first
        | (exfalso;omega)
        | skip
       all_goals
        show AWp _ _ _ _
        refine Qav 76 rfl ?_
        show AWp _ _ _ _
        refine Qav 1076 rfl ?_
        refine Qac ?_
        apply Qab
        refine zm () [] trivial ?_ ?_ ?_
        repeat'(first|apply And.intro|exact ze0|refine ze1 ?_|refine zei ?_ ?_|exact rfl|trivial)
        all_goals exact Stop.mk (by first|rfl|exact hep.symm)
     ·rw [if_neg (fun h=>h3 h.2)]
      repeat' (first|refine zsr ?_|(refine zhm fun hb=>?_;try exact zab)|refine zg2 ?_ ?_|refine zln fun _=>?_|refine zop ?_|refine kc (c1) rfl rfl ?_|refine kc (c2) rfl rfl ?_|refine kc (c3) rfl rfl ?_|(refine km [] (c6) rfl rfl (fun i hi=>?_);(try dsimp only at hi))|fail)
      all_goals first
       | (exfalso;omega)
       | skip
      all_goals
       show AWp _ _ _ _
       refine Qac ?_
       apply Qab
       exact zm () [] trivial zae zae zae
  ·rw [if_neg (fun h=>hw h.2)]
   repeat' (first|refine zsr ?_|(refine zhm fun hb=>?_;try exact zab)|refine zg2 ?_ ?_|refine zln fun _=>?_|refine zop ?_|refine kc (c1) rfl rfl ?_|fail)
   all_goals first
    | (exfalso;omega)
    | skip
   all_goals
    show AWp _ _ _ _
    refine Qac ?_
    apply Qab
    exact zm () [] trivial zae zae zae
theorem QjO {s:State} {id why:Int} (hs:Small 1048576 s):∀s',(fnsO s id why).1=some s'→Small 1048576 s':=fun s' h=>by
 unfold fnsO at h
 split at h
 ·rename_i h1
  have hk:=Qgd h1.1
  have hrl:=QfI h1.1
  split at h
  ·split at h
   ·cases h
   ·rename_i h3
    cases h
    exact Qdw ⟨hk.jobs.left,hk.depth⟩ (QgY hs h3 hrl (Nat.le_refl _)) (by have:=Qgt (p:=finP id) (l:=s.runs);simp only [finR];omega)
  ·split at h
   ·split at h
    ·cases h
    ·rename_i h3
     cases h
     exact Qdw ⟨hk.jobs.left.sub QjY,hk.depth⟩ (Qfc hs h3 (Nat.le_refl _)) (by simp only [finQ];omega)
   ·cases h
 ·cases h
end Go.Proofs.YtelbahebpmkfjaaGreat
