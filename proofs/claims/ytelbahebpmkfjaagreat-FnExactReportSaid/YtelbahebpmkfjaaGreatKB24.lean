/-
  Copies of states as rows of the caller's own; CtlNew, both.
-/
import Derived.Test.YtelbahebpmkfjaaGreatKB7
import Derived.Test.YtelbahebpmkfjaaGreatKB12
import Derived.Test.YtelbahebpmkfjaaGreatKB21
import Derived.Test.YtelbahebpmkfjaaGreatKB5
set_option maxRecDepth 100000
set_option maxHeartbeats 16000000
namespace Go.Proofs.YtelbahebpmkfjaaGreat
open Go Go.RowKit
attribute [local irreducible] AWp Qat OpOk ACalls ChA QsOk MCalls EnC PY
theorem QdY {l:List Int} (h:l.length≤1000000000):ACalls Tryz.prog 169 [.d (.sl (intE l))] [.row 0] [(0,.row 3 (intE l) true)]:=by
 refine Qaa tt Tryz.func169 rfl rfl rfl (fun w0 Z=>?_)
 repeat' (first|refine zst ?_|(refine zhm fun hb=>?_;try exact zab)|refine zg2 ?_ ?_|refine zop ?_|fail)
 exact zr [4] zae zae
theorem Qpm {t:Topo} (h1:t.parents.length≤1000000000) (h2:t.nodes.length≤1000000000):ACalls Tryz.prog 168 [Qcw t] [.agg [.row 0,.row 1]] [(0,.row 3 (intE t.parents) true),(1,.row 255 (QaD t.nodes) true)]:=by
 refine Qaa tt Tryz.func168 rfl rfl rfl (fun w0 Z=>?_)
 repeat' (first|refine zst ?_|(refine zhm fun hb=>?_;try exact zab)|refine zdr ?_|(apply zch;exact zcg)|refine HopS.mk fun w0 Z O=>?_|exact zhk|refine zg3 ?_ ?_|refine zop ?_|refine kc (QdY (l:=t.parents) h1) rfl rfl ?_|refine kq (QdY (l:=t.parents) h1) rfl rfl ?_|fail)
 exact zr [5,8] zae zae
theorem Qdd {l:List Run} {i:Nat} (h:i<l.length):runE (l.take i)++[runD (nth l i)]=runE (l.take (i+1)):=by
 rw [List.take_succ_eq_append_getElem h,runE,runE,List.map_append]
 have e:nth l i=l[i]:=by simp [nth,h]
 rw [e]
 rfl
theorem Qbv {s:State} (hs:Small 100000000 s):ACalls Tryz.prog 78 [QaA s] [Qgp s 0 1 2 3 4 5] (Qgc s):=by
 refine Qaa tt Tryz.func78 rfl rfl rfl (fun w0 Z=>?_)
 have hl:=Qah s.runs
 have h1:=hs.par;have h2:=hs.nod;have h3:=hs.up;have h4:=hs.que;have h5:=hs.run;have h6:=hs.end'
 repeat' (first|refine zst ?_|(refine zhm fun hb=>?_;try exact zab)|refine zg2 ?_ ?_|refine zln fun _=>?_|refine zop ?_|refine kc (Qpm (t:=s.topo) (by omega) (by omega)) rfl rfl ?_|fail)
 refine QdW 3 3 148 rfl rfl rfl ?_
 refine Qae (fun (k:Nat)=>⟨41,[(1,.ptr 1 0),(2,.ptr 2 0),(3,.row 3),(19,.d (.sl (runE s.runs))),(20,.d (.n .i64 (s.runs.length:Nat))),(21,.d (.n .i64 k))],[(3,.row 148 (runE (s.runs.take k)) true),(8,.row 3 (intE s.topo.parents) true),(1008,.row 255 (QaD s.topo.nodes) true),(12,.row 4 (Qaw s.up) true),(16,.row 78 (jobE s.queue) true),(1,.box 43 [.row 8,.row 1008,.row 12,.d (.n .i64 s.lic.a),.d (.n .i64 s.lic.b),.d (.n .i64 s.lic.c),.d (.n .i64 s.depth),.d (.n .i64 s.now),.row 16,.d (.sl (runE s.runs)),.d (.sl (endE s.ends))]),(2,.box 43 [.nil,.nil,.nil,.d (.n .i64 0),.d (.n .i64 0),.d (.n .i64 0),.d (.n .i64 0),.d (.n .i64 0),.nil,.nil,.nil])]⟩) (fun k=>k≤s.runs.length) (fun k=>s.runs.length - k) 0 (by exact Nat.zero_le _) ?_ ?_
 ·exact ⟨rfl,zae,zae,rfl⟩
 ·intro k hk
  have hd2:(runE (s.runs.take k)).length=k:=by rw [Qah,List.length_take];omega
  by_cases hk':k<s.runs.length
  ·have hn:=hs.rno k hk'
   repeat' (first|refine zst ?_|(refine zhm fun hb=>?_;try exact zab)|refine zg2 ?_ ?_|(apply Qcj;first|(refine Qdr rfl rfl rfl ⟨rfl,rfl,rfl⟩ rfl rfl rfl rfl rfl rfl rfl rfl (QaG fun _=>rfl) rfl rfl rfl rfl rfl ?_)|(refine QbC rfl rfl rfl rfl rfl rfl rfl rfl ⟨rfl,rfl,rfl⟩ hd2 (rfl:_=1) (by omega) rfl rfl ?_))|refine zln fun _=>?_|refine zop ?_|refine kc (QdY (l:=(nth s.runs k).nodes) (by omega)) rfl rfl ?_|fail)
   refine ⟨k+1,by omega,by omega,?_⟩
   refine ⟨rfl,?_,?_,rfl⟩
   repeat'(first|apply And.intro|exact ze0|refine ze1 ?_|refine zei ?_ ?_|exact rfl|trivial)
   all_goals exact Stop.mk (by first|rfl|exact Qdd hk')
  ·obtain rfl:k=s.runs.length:=by omega
   repeat' (first|refine zst ?_|(refine zhm fun hb=>?_;try exact zab)|refine zg2 ?_ ?_|refine zln fun _=>?_|refine zop ?_|fail)
   refine zr [8,1008,12,16,3,38] ?_ ?_
   repeat'(first|apply And.intro|exact ze0|refine ze1 ?_|refine zei ?_ ?_|exact rfl|trivial)
   all_goals exact Stop.mk (by first|rfl|rw [List.take_length])
theorem Ql0 {s:State} (hs:Small 100000000 s):ACalls Tryz.prog 70 [QaA s] [Qgp s 0 1 2 3 4 5] (Qgc s):=by
 refine Qaa tt Tryz.func70 rfl rfl rfl (fun w0 Z=>?_)
 have hl:=Qah s.runs
 have h1:=hs.par;have h2:=hs.nod;have h3:=hs.up;have h4:=hs.que;have h5:=hs.run;have h6:=hs.end'
 repeat' (first|refine zst ?_|(refine zhm fun hb=>?_;try exact zab)|refine zdr ?_|(apply zch;exact zcg)|refine HopS.mk fun w0 Z O=>?_|exact zhk|refine zg3 ?_ ?_|refine zln fun _=>?_|refine zop ?_|fail)
 refine Qae (fun (k:Nat)=>⟨54,[(1,.ptr 1 0),(2,.ptr 2 0),(3,.row 28),(30,.d (.sl (runE s.runs))),(31,.d (.n .i64 (s.runs.length:Nat))),(32,.d (.n .i64 k))],[(28,.row 148 (runE (s.runs.take k)) true),(6,.row 3 (intE s.topo.parents) true),(11,.row 255 (QaD s.topo.nodes) true),(18,.row 4 (Qaw s.up) true),(23,.row 78 (jobE s.queue) true),(1,.box 43 [.row 6,.row 11,.row 18,.d (.n .i64 s.lic.a),.d (.n .i64 s.lic.b),.d (.n .i64 s.lic.c),.d (.n .i64 s.depth),.d (.n .i64 s.now),.row 23,.d (.sl (runE s.runs)),.d (.sl (endE s.ends))]),(2,.box 43 [.nil,.nil,.nil,.d (.n .i64 0),.d (.n .i64 0),.d (.n .i64 0),.d (.n .i64 0),.d (.n .i64 0),.nil,.nil,.nil])]⟩) (fun k=>k≤s.runs.length) (fun k=>s.runs.length - k) 0 (by exact Nat.zero_le _) ?_ ?_
 ·exact ⟨rfl,zae,zae,rfl⟩
 ·intro k hk
  have hd2:(runE (s.runs.take k)).length=k:=by rw [Qah,List.length_take];omega
  by_cases hk':k<s.runs.length
  ·have hn:=hs.rno k hk'
   repeat' (first|refine zst ?_|(refine zhm fun hb=>?_;try exact zab)|refine zdr ?_|(apply zch;exact zcg)|refine HopS.mk fun w0 Z O=>?_|exact zhk|refine zg3 ?_ ?_|(apply Qcj;first|(refine Qdr rfl rfl rfl ⟨rfl,rfl,rfl⟩ rfl rfl rfl rfl rfl rfl rfl rfl (QaG fun _=>rfl) rfl rfl rfl rfl rfl ?_)|(refine QbC rfl rfl rfl rfl rfl rfl rfl rfl ⟨rfl,rfl,rfl⟩ hd2 (rfl:_=1) (by omega) rfl rfl ?_))|refine zln fun _=>?_|refine zop ?_|fail)
   refine ⟨k+1,by omega,by omega,?_⟩
   refine ⟨rfl,?_,?_,rfl⟩
   repeat'(first|apply And.intro|exact ze0|refine ze1 ?_|refine zei ?_ ?_|exact rfl|trivial)
   all_goals exact Stop.mk (by first|rfl|exact Qdd hk')
  ·obtain rfl:k=s.runs.length:=by omega
   repeat' (first|refine zst ?_|(refine zhm fun hb=>?_;try exact zab)|refine zdr ?_|(apply zch;exact zcg)|refine HopS.mk fun w0 Z O=>?_|exact zhk|refine zg3 ?_ ?_|refine zln fun _=>?_|refine zop ?_|fail)
   refine zr [6,11,18,23,28,48] ?_ ?_
   repeat'(first|apply And.intro|exact ze0|refine ze1 ?_|refine zei ?_ ?_|exact rfl|trivial)
   all_goals exact Stop.mk (by first|rfl|rw [List.take_length])
structure FreshP (s:State):Prop where
 ok:Qap s=true
 que:s.queue.length=0
 run:s.runs.length=0
 end':s.ends.length=0
@[reducible] def stC (s:State) (q0 q1 q2 q3 q4 q5:Nat):List AV:=[.row q0,.row q1,.row q2,.d (.n .i64 s.lic.a),.d (.n .i64 s.lic.b),.d (.n .i64 s.lic.c),.d (.n .i64 s.depth),.d (.n .i64 s.now),.row q3,.row q4,.row q5]
@[reducible] def ctl0:List AV:=[.nil,.nil,.nil,.d (.n .i64 0),.d (.n .i64 0),.d (.n .i64 0),.d (.n .i64 0),.d (.n .i64 0),.nil,.nil,.nil]
@[reducible] def ctlR (s:State):List (Nat×AO):=[(0,.row 3 (intE s.topo.parents) true),(1,.row 255 (QaD s.topo.nodes) true),(2,.row 4 (Qaw s.up) true),(3,.row 78 (jobE s.queue) true),(4,.row 148 (runE s.runs) true),(5,.row 150 (endE s.ends) true),(6,.row 3 (intE s.topo.parents) true),(7,.row 255 (QaD s.topo.nodes) true),(8,.row 4 (Qaw s.up) true),(9,.row 78 (jobE s.queue) true),(10,.row 148 (runE s.runs) true),(11,.row 150 (endE s.ends) true)]
theorem Qun {s:State} (hs:Small 100000000 s) (hf:FreshP s):ACalls Tryz.prog 77 [QaA s] [.agg (stC s 0 1 2 3 4 5++stC s 6 7 8 9 10 11++[.nil,.d (.n .i64 0),.d (.n .i64 0)]),.d (.b true)] (ctlR s):=by
 refine Qaa tt Tryz.func77 rfl rfl rfl (fun w0 Z=>?_)
 have c1:=Qca hs
 rw [hf.ok] at c1
 have h4:=hf.que;have h5:=hf.run;have h6:=hf.end'
 repeat' (first|refine zst ?_|(refine zhm fun hb=>?_;try exact zab)|refine zdr ?_|(apply zch;exact zcg)|refine HopS.mk fun w0 Z O=>?_|exact zhk|refine zg3 ?_ ?_|refine zln fun _=>?_|refine zop ?_|refine kc (c1) rfl rfl ?_|refine kc (Qbv hs) rfl rfl ?_|refine kq (c1) rfl rfl ?_|refine kq (Qbv hs) rfl rfl ?_|fail)
 exact zr [23,1023,2023,3023,4023,5023,25,1025,2025,3025,4025,5025] zae zae
theorem QsG {s:State} (hs:Small 100000000 s) (hf:¬FreshP s):ACalls Tryz.prog 77 [QaA s] [.agg (ctl0++ctl0++[.nil,.d (.n .i64 0),.d (.n .i64 0)]),.d (.b false)] []:=by
 refine Qaa tt Tryz.func77 rfl rfl rfl (fun w0 Z=>?_)
 have c1:=Qca hs
 have h4:=hs.que;have h5:=hs.run;have h6:=hs.end'
 cases hok:Qap s with
 | true=>
  rw [hok] at c1
  have hn:0<s.queue.length+s.runs.length+s.ends.length:=by
   refine Nat.pos_of_ne_zero fun e=>hf ⟨hok,by omega,by omega,by omega⟩
  repeat' (first|refine zst ?_|(refine zhm fun hb=>?_;try exact zab)|refine zdr ?_|(apply zch;exact zcg)|refine HopS.mk fun w0 Z O=>?_|exact zhk|refine zg3 ?_ ?_|refine zln fun _=>?_|refine zop ?_|refine kc (c1) rfl rfl ?_|refine kq (c1) rfl rfl ?_|fail)
  exact zr [] zae zae
 | false=>
  rw [hok] at c1
  repeat' (first|refine zst ?_|(refine zhm fun hb=>?_;try exact zab)|refine zdr ?_|(apply zch;exact zcg)|refine HopS.mk fun w0 Z O=>?_|exact zhk|refine zg3 ?_ ?_|refine zln fun _=>?_|refine zop ?_|refine kc (c1) rfl rfl ?_|refine kq (c1) rfl rfl ?_|fail)
  exact zr [] zae zae
noncomputable def Qhe (s:State):Bool:=pB (FreshP s)
theorem Qjh {s:State} (hs:Small 100000000 s):ACalls Tryz.prog 69 [QaA s] [.d (.b (Qhe s))] []:=by
 refine Qaa tt Tryz.func69 rfl rfl rfl (fun w0 Z=>?_)
 have c1:=QcD hs
 have h4:=hs.que;have h5:=hs.run;have h6:=hs.end'
 cases hok:Qap s with
 | false=>
  rw [hok] at c1
  rw [show Qhe s=false from pB_f.2 fun h=>by rw [h.ok] at hok;cases hok]
  repeat' (first|refine zst ?_|(refine zhm fun hb=>?_;try exact zab)|refine zg2 ?_ ?_|refine zln fun _=>?_|refine zop ?_|refine kc (c1) rfl rfl ?_|fail)
  exact zr [] zae zae
 | true=>
  rw [hok] at c1
  by_cases hq:s.queue.length=0
  ·by_cases hr:s.runs.length=0
   ·by_cases he:s.ends.length=0
    ·rw [show Qhe s=true from pB_t.2 ⟨hok,hq,hr,he⟩]
     repeat' (first|refine zst ?_|(refine zhm fun hb=>?_;try exact zab)|refine zg2 ?_ ?_|refine zln fun _=>?_|refine zop ?_|refine kc (c1) rfl rfl ?_|fail)
     refine zr [] ?_ ?_
     repeat'(first|apply And.intro|exact ze0|refine ze1 ?_|refine zei ?_ ?_|exact rfl|trivial)
     all_goals exact Stop.mk (by first|rfl|(rw [he];rfl)|exact beq_eq_false_iff_ne.2 (by omega))
    ·rw [show Qhe s=false from pB_f.2 fun h=>he h.end']
     repeat' (first|refine zst ?_|(refine zhm fun hb=>?_;try exact zab)|refine zg2 ?_ ?_|refine zln fun _=>?_|refine zop ?_|refine kc (c1) rfl rfl ?_|fail)
     refine zr [] ?_ ?_
     repeat'(first|apply And.intro|exact ze0|refine ze1 ?_|refine zei ?_ ?_|exact rfl|trivial)
     all_goals exact Stop.mk (by first|rfl|(rw [he];rfl)|exact beq_eq_false_iff_ne.2 (by omega))
   ·rw [show Qhe s=false from pB_f.2 fun h=>hr h.run]
    repeat' (first|refine zst ?_|(refine zhm fun hb=>?_;try exact zab)|refine zg2 ?_ ?_|refine zln fun _=>?_|refine zop ?_|refine kc (c1) rfl rfl ?_|fail)
    exact zr [] zae zae
  ·rw [show Qhe s=false from pB_f.2 fun h=>hq h.que]
   repeat' (first|refine zst ?_|(refine zhm fun hb=>?_;try exact zab)|refine zg2 ?_ ?_|refine zln fun _=>?_|refine zop ?_|refine kc (c1) rfl rfl ?_|fail)
   exact zr [] zae zae
end Go.Proofs.YtelbahebpmkfjaaGreat
namespace Go.Proofs.YtelbahebpmkfjaaGreat
open Go Go.RowKit
attribute [local irreducible] AWp Qat OpOk ACalls ChA QsOk MCalls EnC PY
theorem Qmo {k:Nat}:ACalls Tryz.prog 174 [.d (.sl []),.d (.n .i64 k)] [.d (.n .i64 k)] []:=by
 refine Qaa tt Tryz.func174 rfl rfl rfl (fun w0 Z=>?_)
 repeat' (first|refine zst ?_|(refine zhm fun hb=>?_;try exact zab)|refine zg2 ?_ ?_|refine zln fun _=>?_|refine zop ?_|fail)
 refine Qae (fun (_:Unit)=>⟨44,[(0,.d (.sl [])),(1,.d (.n .i64 k)),(5,.d (.n .i64 0))],[]⟩) (fun _=>True) (fun _=>0) () trivial ?_ ?_
 ·exact ⟨rfl,zae,zae,rfl⟩
 ·intro i hi
  repeat' (first|refine zst ?_|(refine zhm fun hb=>?_;try exact zab)|refine zg2 ?_ ?_|refine zln fun _=>?_|refine zop ?_|fail)
  exact zr [] zae zae
theorem QmR {k:Nat}:ACalls Tryz.prog 87 [.d (.sl []),.d (.n .i64 k)] [.d (.n .i64 k)] []:=by
 refine Qaa tt Tryz.func87 rfl rfl rfl (fun w0 Z=>?_)
 repeat' (first|refine zst ?_|(refine zhm fun hb=>?_;try exact zab)|refine zg2 ?_ ?_|refine zln fun _=>?_|refine zop ?_|fail)
 refine Qae (fun (_:Unit)=>⟨21,[(0,.d (.sl [])),(1,.d (.n .i64 k)),(5,.d (.n .i64 0))],[]⟩) (fun _=>True) (fun _=>0) () trivial ?_ ?_
 ·exact ⟨rfl,zae,zae,rfl⟩
 ·intro i hi
  repeat' (first|refine zst ?_|(refine zhm fun hb=>?_;try exact zab)|refine zg2 ?_ ?_|refine zln fun _=>?_|refine zop ?_|fail)
  exact zr [] zae zae
theorem Qo7 {k:Nat}:ACalls Tryz.prog 88 [.d (.sl []),.d (.n .i64 k)] [.d (.n .i64 k)] []:=by
 refine Qaa tt Tryz.func88 rfl rfl rfl (fun w0 Z=>?_)
 repeat' (first|refine zst ?_|(refine zhm fun hb=>?_;try exact zab)|refine zg2 ?_ ?_|refine zln fun _=>?_|refine zop ?_|fail)
 refine Qae (fun (_:Unit)=>⟨96,[(0,.d (.sl [])),(1,.d (.n .i64 k)),(5,.d (.n .i64 0))],[]⟩) (fun _=>True) (fun _=>0) () trivial ?_ ?_
 ·exact ⟨rfl,zae,zae,rfl⟩
 ·intro i hi
  repeat' (first|refine zst ?_|(refine zhm fun hb=>?_;try exact zab)|refine zg2 ?_ ?_|refine zln fun _=>?_|refine zop ?_|fail)
  exact zr [] zae zae
theorem Qo5 {k:Nat}:ACalls Tryz.prog 89 [.d (.sl []),.d (.n .i64 k)] [.d (.n .i64 k)] []:=by
 refine Qaa tt Tryz.func89 rfl rfl rfl (fun w0 Z=>?_)
 repeat' (first|refine zst ?_|(refine zhm fun hb=>?_;try exact zab)|refine zg2 ?_ ?_|refine zln fun _=>?_|refine zop ?_|fail)
 refine Qae (fun (_:Unit)=>⟨121,[(0,.d (.sl [])),(1,.d (.n .i64 k)),(5,.d (.n .i64 0))],[]⟩) (fun _=>True) (fun _=>0) () trivial ?_ ?_
 ·exact ⟨rfl,zae,zae,rfl⟩
 ·intro i hi
  repeat' (first|refine zst ?_|(refine zhm fun hb=>?_;try exact zab)|refine zg2 ?_ ?_|refine zln fun _=>?_|refine zop ?_|fail)
  exact zr [] zae zae
theorem Qpw {k:Nat}:ACalls Tryz.prog 90 [.d (.sl []),.d (.n .i64 k)] [.d (.n .i64 k)] []:=by
 refine Qaa tt Tryz.func90 rfl rfl rfl (fun w0 Z=>?_)
 repeat' (first|refine zst ?_|(refine zhm fun hb=>?_;try exact zab)|refine zg2 ?_ ?_|refine zln fun _=>?_|refine zop ?_|fail)
 refine Qae (fun (_:Unit)=>⟨34,[(0,.d (.sl [])),(1,.d (.n .i64 k)),(5,.d (.n .i64 0))],[]⟩) (fun _=>True) (fun _=>0) () trivial ?_ ?_
 ·exact ⟨rfl,zae,zae,rfl⟩
 ·intro i hi
  repeat' (first|refine zst ?_|(refine zhm fun hb=>?_;try exact zab)|refine zg2 ?_ ?_|refine zln fun _=>?_|refine zop ?_|fail)
  exact zr [] zae zae
theorem Qfx {k:Nat}:ACalls Tryz.prog 45 [.d (.sl []),.d (.n .i64 k)] [.d (.n .i64 k)] []:=by
 refine Qaa tt Tryz.func45 rfl rfl rfl (fun w0 Z=>?_)
 repeat' (first|refine zst ?_|(refine zhm fun hb=>?_;try exact zab)|refine zg2 ?_ ?_|refine zln fun _=>?_|refine zop ?_|fail)
 refine Qae (fun (_:Unit)=>⟨20,[(0,.d (.sl [])),(1,.d (.n .i64 k)),(5,.d (.n .i64 0))],[]⟩) (fun _=>True) (fun _=>0) () trivial ?_ ?_
 ·exact ⟨rfl,zae,zae,rfl⟩
 ·intro i hi
  repeat' (first|refine zst ?_|(refine zhm fun hb=>?_;try exact zab)|refine zg2 ?_ ?_|refine zln fun _=>?_|refine zop ?_|fail)
  exact zr [] zae zae
theorem QiG {k:Nat}:ACalls Tryz.prog 46 [.d (.sl []),.d (.n .i64 k)] [.d (.n .i64 k)] []:=by
 refine Qaa tt Tryz.func46 rfl rfl rfl (fun w0 Z=>?_)
 repeat' (first|refine zst ?_|(refine zhm fun hb=>?_;try exact zab)|refine zg2 ?_ ?_|refine zln fun _=>?_|refine zop ?_|fail)
 refine Qae (fun (_:Unit)=>⟨22,[(0,.d (.sl [])),(1,.d (.n .i64 k)),(5,.d (.n .i64 0))],[]⟩) (fun _=>True) (fun _=>0) () trivial ?_ ?_
 ·exact ⟨rfl,zae,zae,rfl⟩
 ·intro i hi
  repeat' (first|refine zst ?_|(refine zhm fun hb=>?_;try exact zab)|refine zg2 ?_ ?_|refine zln fun _=>?_|refine zop ?_|fail)
  exact zr [] zae zae
theorem Qk2:ACalls Tryz.prog 43 [.d (.sl []),.d (.sl [])] [.d (.b true)] []:=by
 refine Qaa tt Tryz.func43 rfl rfl rfl (fun w0 Z=>?_)
 repeat' (first|refine zst ?_|(refine zhm fun hb=>?_;try exact zab)|refine zdr ?_|(apply zch;exact zcg)|refine HopS.mk fun w0 Z O=>?_|exact zhk|refine zg3 ?_ ?_|refine zln fun _=>?_|refine zop ?_|fail)
 refine Qae (fun (_:Unit)=>⟨26,[(0,.d (.sl [])),(1,.d (.sl [])),(5,.d (.n .i64 0))],[]⟩) (fun _=>True) (fun _=>0) () trivial ?_ ?_
 ·exact ⟨rfl,zae,zae,rfl⟩
 ·intro i hi
  repeat' (first|refine zst ?_|(refine zhm fun hb=>?_;try exact zab)|refine zdr ?_|(apply zch;exact zcg)|refine HopS.mk fun w0 Z O=>?_|exact zhk|refine zg3 ?_ ?_|refine zln fun _=>?_|refine zop ?_|fail)
  exact zr [] zae zae
@[reducible] def jn0:AV:=.agg [.d (.sl []),.d (.n .i64 0),.d (.n .i64 0)]
theorem QkA {k:Nat}:ACalls Tryz.prog 144 [jn0,.d (.n .i64 k)] [.d (.n .i64 k)] []:=by
 refine Qaa tt Tryz.func144 rfl rfl rfl (fun w0 Z=>?_)
 repeat' (first|refine zst ?_|(refine zhm fun hb=>?_;try exact zab)|refine zg2 ?_ ?_|refine zop ?_|refine kc (Qfx) rfl rfl ?_|fail)
 exact zr [] zae zae
theorem Qkd {k:Nat}:ACalls Tryz.prog 147 [jn0,.d (.n .i64 k)] [.d (.n .i64 k)] []:=by
 refine Qaa tt Tryz.func147 rfl rfl rfl (fun w0 Z=>?_)
 repeat' (first|refine zst ?_|(refine zhm fun hb=>?_;try exact zab)|refine zg2 ?_ ?_|refine zop ?_|refine kc (QiG) rfl rfl ?_|fail)
 exact zr [] zae zae
theorem QmC:ACalls Tryz.prog 137 [jn0,jn0] [.d (.b true)] []:=by
 refine Qaa tt Tryz.func137 rfl rfl rfl (fun w0 Z=>?_)
 repeat' (first|refine zst ?_|(refine zhm fun hb=>?_;try exact zab)|refine zg2 ?_ ?_|refine zop ?_|refine kc (Qk2) rfl rfl ?_|fail)
 exact zr [] zae zae
theorem QpQ {k:Nat}:ACalls Tryz.prog 86 [.agg [.d (.sl []),.d (.sl [])],.d (.n .i64 k)] [.d (.n .i64 k)] []:=by
 refine Qaa tt Tryz.func86 rfl rfl rfl (fun w0 Z=>?_)
 repeat' (first|refine zst ?_|(refine zhm fun hb=>?_;try exact zab)|refine zg2 ?_ ?_|refine zop ?_|refine kc (Qff) rfl rfl ?_|refine kc (Qmo) rfl rfl ?_|fail)
 exact zr [] zae zae
@[reducible] def st0:List AV:=[.d (.sl []),.d (.sl []),.d (.sl []),.d (.n .i64 0),.d (.n .i64 0),.d (.n .i64 0),.d (.n .i64 0),.d (.n .i64 0),.d (.sl []),.d (.sl []),.d (.sl [])]
theorem QcV {k:Nat}:ACalls Tryz.prog 21 [.agg st0,.d (.n .i64 k)] [.d (.n .i64 k)] []:=by
 refine Qaa tt Tryz.func21 rfl rfl rfl (fun w0 Z=>?_)
 repeat' (first|refine zst ?_|(refine zhm fun hb=>?_;try exact zab)|refine zg2 ?_ ?_|refine zop ?_|refine kc (QpQ) rfl rfl ?_|refine kc (QmR) rfl rfl ?_|refine kc (Qo7) rfl rfl ?_|refine kc (Qo5) rfl rfl ?_|refine kc (Qpw) rfl rfl ?_|fail)
 exact zr [] zae zae
theorem QlY {k:Nat}:ACalls Tryz.prog 44 [.agg (st0++st0++[.d (.sl []),.d (.n .i64 0),.d (.n .i64 0)]),.d (.n .i64 k)] [.d (.n .i64 k)] []:=by
 refine Qaa tt Tryz.func44 rfl rfl rfl (fun w0 Z=>?_)
 repeat' (first|refine zst ?_|(refine zhm fun hb=>?_;try exact zab)|refine zg2 ?_ ?_|refine zop ?_|refine kc (QcV) rfl rfl ?_|refine kc (QkA) rfl rfl ?_|fail)
 exact zr [] zae zae
@[reducible] def ctlD (a b:State):AV:=.agg (Qbw a++Qbw b++[.d (.sl []),.d (.n .i64 0),.d (.n .i64 0)])
theorem QwK {s:State} (hs:Small 1000000000 s):ACalls Tryz.prog 38 [ctlD s s,ctlD s s] [.d (.b true)] []:=by
 refine Qaa tt Tryz.func38 rfl rfl rfl (fun w0 Z=>?_)
 repeat' (first|refine zst ?_|(refine zhm fun hb=>?_;try exact zab)|refine zg2 ?_ ?_|refine zop ?_|refine kc (QaQ hs) rfl rfl ?_|refine kc (QmC) rfl rfl ?_|fail)
 exact zr [] zae zae
theorem Qqe {s:State} {k:Nat} (h:Small 1048576 s) (hk:k≤10000000000000):ACalls Tryz.prog 50 [ctlD (mSt k s) (mSt (kSt k s) s),.d (.n .i64 k)] [.d (.n .i64 ((kSt (kSt k s) s:Nat):Int))] []:=by
 refine Qaa tt Tryz.func50 rfl rfl rfl (fun w0 Z=>?_)
 have hb:=QjD h (k:=k) (by omega)
 have hb2:=QjD h (k:=kSt k s) (by omega)
 repeat' (first|refine zst ?_|(refine zhm fun hb=>?_;try exact zab)|refine zg2 ?_ ?_|refine zop ?_|refine kc (Qbm (k:=k) h (by omega)) rfl rfl ?_|refine kc (Qbm (k:=kSt k s) h (by omega)) rfl rfl ?_|refine kc (Qkd) rfl rfl ?_|fail)
 exact zr [] zae zae
@[reducible] def ctlM (s t:State):List (Nat×AO):=[(1000000,.row 3 (intE s.topo.parents) true),(1000001,.row 255 (QaD s.topo.nodes) true),(1000002,.row 4 (Qaw s.up) true),(1000003,.row 78 (jobE s.queue) true),(1000004,.row 148 (runE s.runs) true),(1000005,.row 150 (endE s.ends) true),(1000006,.row 3 (intE t.topo.parents) true),(1000007,.row 255 (QaD t.topo.nodes) true),(1000008,.row 4 (Qaw t.up) true),(1000009,.row 78 (jobE t.queue) true),(1000010,.row 148 (runE t.runs) true),(1000011,.row 150 (endE t.ends) true)]
def zS:State:=⟨⟨[],[]⟩,[],zV,0,0,[],[],[]⟩
theorem QbY (n:Nat):Small n zS:=⟨Nat.zero_le _,Nat.zero_le _,Nat.zero_le _,Nat.zero_le _,Nat.zero_le _,Nat.zero_le _,fun _ hj=>absurd hj (Nat.not_lt_zero _)⟩
end Go.Proofs.YtelbahebpmkfjaaGreat
namespace Go.Proofs.YtelbahebpmkfjaaGreat
open Go Go.RowKit
attribute [local irreducible] AWp Qat OpOk ACalls ChA QsOk MCalls EnC PY
@[reducible] def ctlZ:List AV:=[.nil,.nil,.nil,.d (.n .i64 0),.d (.n .i64 0),.d (.n .i64 0),.d (.n .i64 0),.d (.n .i64 0),.nil,.nil,.nil,.nil,.nil,.nil,.d (.n .i64 0),.d (.n .i64 0),.d (.n .i64 0),.d (.n .i64 0),.d (.n .i64 0),.nil,.nil,.nil,.nil,.d (.n .i64 0),.d (.n .i64 0)]
@[reducible] def wldO (xs:List AV):AV:=.agg (.d (.b false)::(xs++(ctlZ++[.nil,.nil])))
theorem Qjj {s:State} (hs:Small 100000000 s) (hf:FreshP s):ACalls Tryz.prog 18 [QaA s] [wldO (stC s 0 1 2 3 4 5),.d (.b true)] (Qgc s):=by
 refine Qaa tt Tryz.func18 rfl rfl rfl (fun w0 Z=>?_)
 repeat' (first|refine zst ?_|(refine zhm fun hb=>?_;try exact zab)|refine zg2 ?_ ?_|refine zop ?_|refine kc (Qun hs hf) rfl rfl ?_|refine kc (Qbv hs) rfl rfl ?_|fail)
 exact zr [15,1015,2015,3015,4015,5015] zae zae
theorem QjK {s:State} (hs:Small 100000000 s) (hf:¬FreshP s):ACalls Tryz.prog 18 [QaA s] [wldO ctl0,.d (.b false)] []:=by
 refine Qaa tt Tryz.func18 rfl rfl rfl (fun w0 Z=>?_)
 repeat' (first|refine zst ?_|(refine zhm fun hb=>?_;try exact zab)|refine zg2 ?_ ?_|refine zop ?_|refine kc (QsG hs hf) rfl rfl ?_|fail)
 exact zr [] zae zae
theorem QjP {s:State} (hs:Small 100000000 s) (hf:FreshP s):ACalls Tryz.prog 16 [QaA s] [wldO (stC s 0 1 2 3 4 5),.d (.b true)] (Qgc s):=by
 refine Qaa tt Tryz.func16 rfl rfl rfl (fun w0 Z=>?_)
 have c1:=Qjh hs
 rw [show Qhe s=true from pB_t.2 hf] at c1
 repeat' (first|refine zst ?_|(refine zhm fun hb=>?_;try exact zab)|refine zg2 ?_ ?_|refine zop ?_|refine kc (c1) rfl rfl ?_|refine kc (Ql0 hs) rfl rfl ?_|fail)
 exact zr [9,1009,2009,3009,4009,5009] zae zae
theorem Qjr {s:State} (hs:Small 100000000 s) (hf:¬FreshP s):ACalls Tryz.prog 16 [QaA s] [wldO ctl0,.d (.b false)] []:=by
 refine Qaa tt Tryz.func16 rfl rfl rfl (fun w0 Z=>?_)
 have c1:=Qjh hs
 rw [show Qhe s=false from pB_f.2 hf] at c1
 repeat' (first|refine zst ?_|(refine zhm fun hb=>?_;try exact zab)|refine zg2 ?_ ?_|refine zop ?_|refine kc (c1) rfl rfl ?_|fail)
 exact zr [] zae zae
@[reducible] def QvI:List AV:=[.d (.sl []),.d (.sl []),.d (.sl []),.d (.n .i64 0),.d (.n .i64 0),.d (.n .i64 0),.d (.n .i64 0),.d (.n .i64 0),.d (.sl []),.d (.sl []),.d (.sl []),.d (.sl []),.d (.sl []),.d (.sl []),.d (.n .i64 0),.d (.n .i64 0),.d (.n .i64 0),.d (.n .i64 0),.d (.n .i64 0),.d (.sl []),.d (.sl []),.d (.sl []),.d (.sl []),.d (.n .i64 0),.d (.n .i64 0)]
@[reducible] def wldD (s:State):AV:=.agg (.d (.b false)::(Qbw s++(QvI++[.d (.sl []),.d (.sl [])])))
theorem Qsj {k:Nat} (hk:k≤10000000000000):ACalls Tryz.prog 50 [.agg QvI,.d (.n .i64 k)] [.d (.n .i64 k)] []:=Qqe (s:=zS) (k:=k) (QbY _) hk
theorem QfZ {s:State} (hs:Small 1000000000 s):ACalls Tryz.prog 19 [wldD s,wldD s] [.d (.b true)] []:=by
 refine Qaa tt Tryz.func19 rfl rfl rfl (fun w0 Z=>?_)
 repeat' (first|refine zst ?_|(refine zhm fun hb=>?_;try exact zab)|refine zg2 ?_ ?_|refine zop ?_|refine kc (QaQ hs) rfl rfl ?_|refine kc (QwK (QbY _)) rfl rfl ?_|refine kc (Qk2) rfl rfl ?_|refine kc (QhD (l:=[]) (by simp)) rfl rfl ?_|fail)
 exact zr [] zae zae
theorem Qeq {s:State} {k:Nat} (h:Small 1048576 s) (hk:k≤1000000000):ACalls Tryz.prog 23 [wldD (mSt k s),.d (.n .i64 k)] [.d (.n .i64 ((kSt k s:Nat):Int))] []:=by
 refine Qaa tt Tryz.func23 rfl rfl rfl (fun w0 Z=>?_)
 have hb:=QjD h (k:=k) (by omega)
 repeat' (first|refine zst ?_|(refine zhm fun hb=>?_;try exact zab)|refine zg2 ?_ ?_|refine zop ?_|refine kc (Qbm (k:=k) h (by omega)) rfl rfl ?_|refine kc (Qsj (k:=kSt k s) (by omega)) rfl rfl ?_|refine kc (QiG) rfl rfl ?_|refine kc (QgI (n:=0) (k:=kSt k s) (by omega) (by omega)) rfl rfl ?_|fail)
 exact zr [] zae zae
theorem Qid {k:Nat}:ACalls Tryz.prog 22 [.agg (.d (.b false)::(st0++(QvI++[.d (.sl []),.d (.sl [])]))),.d (.n .i64 k)] [.d (.n .i64 k)] []:=by
 refine Qaa tt Tryz.func22 rfl rfl rfl (fun w0 Z=>?_)
 repeat' (first|refine zst ?_|(refine zhm fun hb=>?_;try exact zab)|refine zg2 ?_ ?_|refine zop ?_|refine kc (QcV) rfl rfl ?_|refine kc (QlY) rfl rfl ?_|refine kc (Qfx) rfl rfl ?_|refine kc (Qff) rfl rfl ?_|fail)
 exact zr [] zae zae
@[reducible] def stM (s:State):List (Nat×AO):=[(1000000,.row 3 (intE s.topo.parents) true),(1000001,.row 255 (QaD s.topo.nodes) true),(1000002,.row 4 (Qaw s.up) true),(1000003,.row 78 (jobE s.queue) true),(1000004,.row 148 (runE s.runs) true),(1000005,.row 150 (endE s.ends) true)]
theorem QmP {s:State} {k:Nat} (h:Small 1048576 s) (hk:k≤1000000000):MCalls Tryz.prog 22 [wldO (stC s 1000000 1000001 1000002 1000003 1000004 1000005),.d (.n .i64 k)] (stM s) (fun (_:Unit)=>True) (fun _=>[.d (.n .i64 ((kSt k s:Nat):Int))]) (fun _=>stM (mSt k s)) (fun _=>[]):=by
 refine Qag tt Tryz.func22 rfl rfl rfl ⟨.inl rfl,.inl rfl,.inl rfl,.inl rfl,.inl rfl,.inl rfl,trivial⟩ (fun _ _=>⟨⟨⟨rfl,rfl,lnI⟩,⟨rfl,rfl,lnN⟩,⟨rfl,rfl,lnB⟩,⟨rfl,rfl,lnJ⟩,⟨rfl,rfl,lnR⟩,⟨rfl,rfl,lnE⟩,trivial⟩,.inl rfl,.inl rfl,.inl rfl,.inl rfl,.inl rfl,.inl rfl,trivial⟩) (fun w0 Z O=>?_)
 have hb:=QjD h (k:=k) (by omega)
 repeat' (first|refine zst ?_|(refine zhm fun hb=>?_;try exact zab)|refine zg2 ?_ ?_|refine zop ?_|refine kc (QlY) rfl rfl ?_|refine kc (Qfx) rfl rfl ?_|refine kc (Qff) rfl rfl ?_|(refine km [1000000,1000001,1000002,1000003,1000004,1000005] (QbH (k:=k) h (by omega)) rfl rfl (fun i hi=>?_);(try dsimp only at hi))|fail)
 exact zm () [] (by exact trivial) zae zae zae
theorem lawWorldNew_e {s:State} (h:Small 9223372036854775807 s):ACalls Tryz.prog 3 [QaA s] [.d (.b true)] []:=by
 refine Qaa tt Tryz.func3 rfl rfl rfl (fun w0 Z=>?_)
 by_cases hS:Small 1048576 s
 ·have hm:Small 100000000 s:=hS.mono (by omega)
  by_cases hf:FreshP s
  ·repeat' (first|refine zst ?_|(refine zhm fun hb=>?_;try exact zab)|(apply QaT 10;kernel_rfl;exact rfl)|refine zdr ?_|(apply zch;exact zcg)|refine HopS.mk fun w0 Z O=>?_|exact zhk|refine zg3 ?_ ?_|refine zop ?_|refine kc (QbO hS) rfl rfl ?_|refine kc (QjP hm hf) rfl rfl ?_|refine kc (Qjj hm hf) rfl rfl ?_|refine kc (QfZ (hS.mono (by omega))) rfl rfl ?_|refine kc (QaQ (hS.mono (by omega))) rfl rfl ?_|refine kc (Qeq (k:=1) hS (by omega)) rfl rfl ?_|(refine km [] (Qc7 h) rfl rfl (fun i hi=>?_);(try dsimp only at hi))|(refine km [] (QbD hS) rfl rfl (fun i hi=>?_);(try dsimp only at hi))|(refine km [26,1026,2026,3026,4026,5026] (QbH (k:=1) hS (by omega)) rfl rfl (fun i hi=>?_);(try dsimp only at hi))|(refine km [29,1029,2029,3029,4029,5029] (QmP (k:=1) hS (by omega)) rfl rfl (fun i hi=>?_);(try dsimp only at hi))|refine kq (QbO hS) rfl rfl ?_|refine kq (QjP hm hf) rfl rfl ?_|refine kq (Qjj hm hf) rfl rfl ?_|refine kq (QfZ (hS.mono (by omega))) rfl rfl ?_|refine kq (QaQ (hS.mono (by omega))) rfl rfl ?_|refine kq (Qeq (k:=1) hS (by omega)) rfl rfl ?_|fail)
   all_goals
    exact zr [] zae zae
  ·repeat' (first|refine zst ?_|(refine zhm fun hb=>?_;try exact zab)|(apply QaT 10;kernel_rfl;exact rfl)|refine zdr ?_|(apply zch;exact zcg)|refine HopS.mk fun w0 Z O=>?_|exact zhk|refine zg3 ?_ ?_|refine zop ?_|refine kc (QbO hS) rfl rfl ?_|refine kc (Qjr hm hf) rfl rfl ?_|refine kc (QjK hm hf) rfl rfl ?_|refine kc (QfZ (QbY _)) rfl rfl ?_|refine kc (QaQ (hS.mono (by omega))) rfl rfl ?_|refine kc (Qid (k:=1)) rfl rfl ?_|refine kc (Qeq (s:=zS) (k:=1) (QbY _) (by omega)) rfl rfl ?_|(refine km [] (Qc7 h) rfl rfl (fun i hi=>?_);(try dsimp only at hi))|(refine km [] (QbD hS) rfl rfl (fun i hi=>?_);(try dsimp only at hi))|(refine km [26,1026,2026,3026,4026,5026] (QbH (k:=1) hS (by omega)) rfl rfl (fun i hi=>?_);(try dsimp only at hi))|refine kq (QbO hS) rfl rfl ?_|refine kq (Qjr hm hf) rfl rfl ?_|refine kq (QjK hm hf) rfl rfl ?_|refine kq (QfZ (QbY _)) rfl rfl ?_|refine kq (QaQ (hS.mono (by omega))) rfl rfl ?_|refine kq (Qid (k:=1)) rfl rfl ?_|refine kq (Qeq (s:=zS) (k:=1) (QbY _) (by omega)) rfl rfl ?_|fail)
   all_goals
    exact zr [] zae zae
 ·repeat' (first|refine zst ?_|(refine zhm fun hb=>?_;try exact zab)|refine zdr ?_|(apply zch;exact zcg)|refine HopS.mk fun w0 Z O=>?_|exact zhk|refine zg3 ?_ ?_|refine zop ?_|(refine km [] (Qc7 h) rfl rfl (fun i hi=>?_);(try dsimp only at hi))|fail)
  all_goals first|(exfalso;exact hS (hi.2 (by omega)))|skip
  exact zr [] zae zae
end Go.Proofs.YtelbahebpmkfjaaGreat
