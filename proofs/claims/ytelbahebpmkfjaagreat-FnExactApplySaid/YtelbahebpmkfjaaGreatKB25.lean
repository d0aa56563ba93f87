/-
  Runs that end: what goes and what stays; the method and the function that drop them; the copies they start from.
-/
import Derived.Test.YtelbahebpmkfjaaGreatKB7
import Derived.Test.YtelbahebpmkfjaaGreatKB26
import Derived.Test.YtelbahebpmkfjaaGreatKB8
set_option maxRecDepth 100000
set_option maxHeartbeats 16000000
namespace Go.Proofs.YtelbahebpmkfjaaGreat
open Go Go.RowKit
attribute [local irreducible] AWp Qat OpOk ACalls ChA QsOk MCalls NCalls EnC PY

def Qck (p:Run→Bool) (l:List Run):List Job:=(l.filter p).map Run.job
def Qbx (p:Run→Bool) (l:List Run):List Run:=l.filter fun r=>!p r
def QaM (now why:Int) (p:Run→Bool) (l:List Run):List EndS:=(l.filter p).map fun r=>⟨r.job.id,now,why⟩
theorem Qio {p:Run→Bool} {l:List Run} {i:Nat} (h:i<l.length) (hp:p (nth l i)=true):Qck p (l.take (i+1))=Qck p (l.take i)++[(nth l i).job]:=by
 rw [Qck,Qas h,List.filter_append,List.map_append];simp [Qck,hp]
theorem Qj8 {p:Run→Bool} {l:List Run} {i:Nat} (h:i<l.length) (hp:p (nth l i)=false):Qck p (l.take (i+1))=Qck p (l.take i):=by
 rw [Qck,Qas h,List.filter_append,List.map_append];simp [Qck,hp]
theorem QdD {p:Run→Bool} {l:List Run} {i:Nat} (h:i<l.length) (hp:p (nth l i)=true):Qbx p (l.take (i+1))=Qbx p (l.take i):=by
 rw [Qbx,Qas h,List.filter_append];simp [Qbx,hp]
theorem QfO {p:Run→Bool} {l:List Run} {i:Nat} (h:i<l.length) (hp:p (nth l i)=false):Qbx p (l.take (i+1))=Qbx p (l.take i)++[nth l i]:=by
 rw [Qbx,Qas h,List.filter_append];simp [Qbx,hp]
theorem Qdq {now why:Int} {p:Run→Bool} {l:List Run} {i:Nat} (h:i<l.length) (hp:p (nth l i)=true):QaM now why p (l.take (i+1))=QaM now why p (l.take i)++[⟨(nth l i).job.id,now,why⟩]:=by
 rw [QaM,Qas h,List.filter_append,List.map_append];simp [QaM,hp]
theorem QfR {now why:Int} {p:Run→Bool} {l:List Run} {i:Nat} (h:i<l.length) (hp:p (nth l i)=false):QaM now why p (l.take (i+1))=QaM now why p (l.take i):=by
 rw [QaM,Qas h,List.filter_append,List.map_append];simp [QaM,hp]
theorem QeB {p:Run→Bool} {l:List Run} {i:Nat}:(Qbx p (l.take i)).length≤i:=Nat.le_trans (List.length_filter_le _ _) (by rw [List.length_take];omega)
theorem Qib {p:Run→Bool} {l:List Run} {i:Nat}:(Qck p (l.take i)).length≤i:=by rw [Qck,List.length_map];exact Nat.le_trans (List.length_filter_le _ _) (by rw [List.length_take];omega)
theorem QeH {now why:Int} {p:Run→Bool} {l:List Run} {i:Nat}:(QaM now why p (l.take i)).length≤i:=by rw [QaM,List.length_map];exact Nat.le_trans (List.length_filter_le _ _) (by rw [List.length_take];omega)
theorem Qcm (l:List EndS) (e:EndS):endE l++[[.n .i64 e.id,.n .i64 e.at',.n .i64 e.why]]=endE (l++[e]):=by simp [endE]
theorem QeN (l:List Run) (r:Run):runE l++[[.n .i64 r.job.id,.n .i64 r.job.prio,.n .i64 r.job.nodes,.n .i64 r.job.need.a,.n .i64 r.job.need.b,.n .i64 r.job.need.c,.n .i64 r.job.lic.a,.n .i64 r.job.lic.b,.n .i64 r.job.lic.c,.n .i64 r.job.wall,.n .i64 r.job.level,.n .i64 r.at',.sl (intE r.nodes)]]=runE (l++[r]):=by simp [runE]
def drop (s:State) (why:Int) (p:Run→Bool):State:={ s with runs:=Qbx p s.runs,ends:=s.ends++QaM s.now why p s.runs }
@[reducible] def Qwr (s:State) (u:List (List D)) (q1 q2:Nat) (v:AV):List AV:=[.d (.sl (intE s.topo.parents)),.d (.sl (QaD s.topo.nodes)),.d (.sl u),.d (.n .i64 s.lic.a),.d (.n .i64 s.lic.b),.d (.n .i64 s.lic.c),.d (.n .i64 s.depth),.d (.n .i64 s.now),.row q1,v,.row q2]
theorem QpR {s:State} {why:Int} {p:Run→Bool} {g:FuncId} {ds:List D} {u:List (List D)} (hs:Small 100000000 s) (hg:∀r,r∈s.runs→ACalls Tryz.prog g [runA r,.pd ds 0] [.d (.b (p r))] []):NCalls Tryz.prog 107 [.ptr 1000000 0,.d (.n .i64 why),.clo g [.pd ds 0]] [(1000000,.box 43 (Qwr s u 500001 500002 (.d (.sl (runE s.runs))))),(500001,.row 78 (jobE s.queue) true),(500002,.row 150 (endE s.ends) true)] (fun _:Unit=>True) (fun _=>[.row 3]) (fun _=>[(1000000,.box 43 (Qwr s u 0 2 (.row 1))),(0,.row 78 (jobE s.queue) true),(1,.row 148 (runE (Qbx p s.runs)) false),(2,.row 150 (endE (s.ends++QaM s.now why p s.runs)) true),(3,.row 78 (jobE (Qck p s.runs)) true)]):=by
 refine Qdo tt Tryz.func107 rfl rfl rfl (fun _ _=>rfl) (fun w0 Z O=>?_)
 refine QcR 500002 62 rfl ?_
 have hl:=Qah s.runs
 have h5:=hs.run
 have h6:=hs.end'
 repeat' (first|refine zst ?_|(refine zhm fun hb=>?_;try exact zab)|(apply QeV;iterate 10 exact rfl)|refine zdr ?_|(apply zch;exact zcg)|refine HopS.mk fun w0 Z O=>?_|exact zhk|refine zg3 ?_ ?_|refine zln fun _=>?_|refine zop ?_|fail)
 refine QdW 8 8 148 rfl rfl rfl ?_
 refine Qc5 8 rfl ?_
 refine Qae (fun (k:Nat)=>⟨58,[(0,.ptr 1000000 0),(1,.d (.n .i64 why)),(2,.clo g [.pd ds 0]),(7,.row 11),(8,.row 8),(15,.d (.sl (runE s.runs))),(16,.d (.n .i64 (s.runs.length:Nat))),(17,.d (.n .i64 k))],[(1000000,.box 43 (Qwr s u 500001 62 (.d (.sl (runE s.runs))))),(500001,.row 78 (jobE s.queue) true),(62,.row 150 (endE (s.ends++QaM s.now why p (s.runs.take k))) true),(8,.row 148 (runE (Qbx p (s.runs.take k))) false),(11,.row 78 (jobE (Qck p (s.runs.take k))) true)]⟩) (fun k=>k≤s.runs.length) (fun k=>s.runs.length - k) 0 (by exact Nat.zero_le _) ?_ ?_
 ·refine ⟨rfl,?_,?_,rfl⟩
  repeat'(first|apply And.intro|exact ze0|refine ze1 ?_|refine zei ?_ ?_|exact rfl|trivial)
  all_goals exact Stop.mk (by first|rfl|(simp [QaM];done))
 ·intro k hk
  have hd1:=Qak (Qck p (s.runs.take k))
  have hd2:=Qah (Qbx p (s.runs.take k))
  have hd3:=QaC (s.ends++QaM s.now why p (s.runs.take k))
  have hd7:(s.ends++QaM s.now why p (s.runs.take k)).length=s.ends.length+(QaM s.now why p (s.runs.take k)).length:=List.length_append
  have hd4:=Qib (p:=p) (l:=s.runs) (i:=k)
  have hd5:=QeB (p:=p) (l:=s.runs) (i:=k)
  have hd6:=QeH (now:=s.now) (why:=why) (p:=p) (l:=s.runs) (i:=k)
  by_cases hk':k<s.runs.length
  ·cases hp:p (nth s.runs k) with
   | true=>
    have c1:=hg (nth s.runs k) (QaO hk')
    rw [hp] at c1
    have e1:=Qio hk' hp
    have e2:=QdD hk' hp
    have e3:=Qdq (now:=s.now) (why:=why) hk' hp
    generalize Qck p (s.runs.take k)=gj at *
    generalize QaM s.now why p (s.runs.take k)=ge at *
    repeat' (first|refine zsr ?_|(refine zhm fun hb=>?_;try exact zab)|(apply QeV;iterate 10 exact rfl)|refine zdr ?_|(apply zch;exact zcg)|refine HopS.mk fun w0 Z O=>?_|exact zhk|refine zg3 ?_ ?_|refine zln fun _=>?_|refine zop ?_|refine kv (c1) rfl rfl rfl rfl rfl ?_|fail)
    refine ⟨k+1,by omega,by omega,?_⟩
    refine ⟨rfl,?_,?_,rfl⟩
    repeat'(first|apply And.intro|exact ze0|refine ze1 ?_|refine zei ?_ ?_|exact rfl|trivial)
    all_goals exact Stop.mk (by first|rfl|(rw [e2];done)|(rw [e1];exact Qb2 _ _)|(rw [e3,←List.append_assoc];exact Qcm _ ⟨_,_,_⟩))
   | false=>
    have c1:=hg (nth s.runs k) (QaO hk')
    rw [hp] at c1
    have e1:=Qj8 hk' hp
    have e2:=QfO hk' hp
    have e3:=QfR (now:=s.now) (why:=why) hk' hp
    repeat' (first|refine zsr ?_|(refine zhm fun hb=>?_;try exact zab)|(apply QeV;iterate 10 exact rfl)|refine zdr ?_|(apply zch;exact zcg)|refine HopS.mk fun w0 Z O=>?_|exact zhk|refine zg3 ?_ ?_|refine zln fun _=>?_|refine zop ?_|refine kv (c1) rfl rfl rfl rfl rfl ?_|fail)
    refine ⟨k+1,by omega,by omega,?_⟩
    refine ⟨rfl,?_,?_,rfl⟩
    repeat'(first|apply And.intro|exact ze0|refine ze1 ?_|refine zei ?_ ?_|exact rfl|trivial)
    all_goals exact Stop.mk (by first|rfl|(rw [e1];done)|(rw [e3];done)|(rw [e2];exact QeN _ _))
  ·obtain rfl:k=s.runs.length:=by omega
   rw [List.take_length] at *
   repeat' (first|refine zsr ?_|(refine zhm fun hb=>?_;try exact zab)|(apply QeV;iterate 10 exact rfl)|refine zdr ?_|(apply zch;exact zcg)|refine HopS.mk fun w0 Z O=>?_|exact zhk|refine zg3 ?_ ?_|refine zln fun _=>?_|refine zop ?_|fail)
   show AWp _ _ _ _
   apply Qab
   refine zn () [500001,8,62,11] (by exact trivial) ?_ ?_
   all_goals exact zae
end Go.Proofs.YtelbahebpmkfjaaGreat
namespace Go.Proofs.YtelbahebpmkfjaaGreat
open Go Go.RowKit
attribute [local irreducible] AWp Qat OpOk ACalls ChA QsOk MCalls NCalls EnC PY

def Qb4 (id node:Int) (r:Run):Bool:=(r.job.id==id)||hasI r.nodes node
theorem Qq7 {id node:Int} {r:Run} (h:r.job.id=id):Qb4 id node r=true:=by simp [Qb4,h]
theorem QqM {id node:Int} {r:Run} (h:hasI r.nodes node=true):Qb4 id node r=true:=by simp [Qb4,h]
theorem Qri {id node:Int} {r:Run} (h:r.job.id≠id) (h2:hasI r.nodes node=false):Qb4 id node r=false:=by simp [Qb4,h,h2]
@[reducible] def Qhj (s:State) (u:AV) (v:AV) (q:Nat):List AV:=[.d (.sl (intE s.topo.parents)),.d (.sl (QaD s.topo.nodes)),u,.d (.n .i64 s.lic.a),.d (.n .i64 s.lic.b),.d (.n .i64 s.lic.c),.d (.n .i64 s.depth),.d (.n .i64 s.now),.d (.sl (jobE s.queue)),v,.row q]
theorem Qlb {s:State} {why id node:Int} (hs:Small 100000000 s):NCalls Tryz.prog 198 [.agg (Qhj s (.d (.sl (Qaw s.up))) (.d (.sl (runE s.runs))) 500000),.d (.n .i64 why),.d (.n .i64 id),.d (.n .i64 node)] [(500000,.row 150 (endE s.ends) true)] (fun _:Unit=>True) (fun _=>[.agg (Qhj s (.d (.sl (Qaw s.up))) (.row 0) 1)]) (fun _=>[(0,.row 148 (runE (Qbx (Qb4 id node) s.runs)) false),(1,.row 150 (endE (s.ends++QaM s.now why (Qb4 id node) s.runs)) true)]):=by
 refine Qdo tt Tryz.func198 rfl rfl rfl (fun _ _=>rfl) (fun w0 Z O=>?_)
 have hl:=Qah s.runs
 have h5:=hs.run
 have h6:=hs.end'
 repeat' (first|refine zst ?_|(refine zhm fun hb=>?_;try exact zab)|refine zg2 ?_ ?_|refine zln fun _=>?_|refine zop ?_|fail)
 refine Qc5 12 rfl ?_
 refine Qae (fun (k:Nat)=>⟨51,[(1,.d (.n .i64 why)),(2,.d (.n .i64 id)),(3,.d (.n .i64 node)),(4,.ptr 4 0),(8,.ptr 8 0),(9,.row 12),(14,.d (.sl (runE s.runs))),(15,.d (.n .i64 (s.runs.length:Nat))),(16,.d (.n .i64 k))],[(4,.box 43 (Qhj s (.d (.sl (Qaw s.up))) (.d (.sl (runE s.runs))) 500000)),(8,.box 43 [.nil,.nil,.nil,.d (.n .i64 0),.d (.n .i64 0),.d (.n .i64 0),.d (.n .i64 0),.d (.n .i64 0),.nil,.nil,.nil]),(500000,.row 150 (endE (s.ends++QaM s.now why (Qb4 id node) (s.runs.take k))) true),(12,.row 148 (runE (Qbx (Qb4 id node) (s.runs.take k))) false)]⟩) (fun k=>k≤s.runs.length) (fun k=>s.runs.length - k) 0 (by exact Nat.zero_le _) ?_ ?_
 ·refine ⟨rfl,?_,?_,rfl⟩
  repeat'(first|apply And.intro|exact ze0|refine ze1 ?_|refine zei ?_ ?_|exact rfl|trivial)
  all_goals exact Stop.mk (by first|rfl|(simp [QaM];done))
 ·intro k hk
  have hd2:=Qah (Qbx (Qb4 id node) (s.runs.take k))
  have hd3:=QaC (s.ends++QaM s.now why (Qb4 id node) (s.runs.take k))
  have hd7:(s.ends++QaM s.now why (Qb4 id node) (s.runs.take k)).length=s.ends.length+(QaM s.now why (Qb4 id node) (s.runs.take k)).length:=List.length_append
  have hd5:=QeB (p:=Qb4 id node) (l:=s.runs) (i:=k)
  have hd6:=QeH (now:=s.now) (why:=why) (p:=Qb4 id node) (l:=s.runs) (i:=k)
  by_cases hk':k<s.runs.length
  ·have hno:=hs.rno k hk'
   have c3:=Qc4 (l:=(nth s.runs k).nodes) (x:=node) (by omega)
   by_cases h1:(nth s.runs k).job.id=id
   ·have hp:=Qq7 (node:=node) h1
    have e2:=QdD hk' hp
    have e3:=Qdq (now:=s.now) (why:=why) hk' hp
    generalize QaM s.now why (Qb4 id node) (s.runs.take k)=ge at *
    repeat' (first|refine zsr ?_|(refine zhm fun hb=>?_;try exact zab)|refine zg2 ?_ ?_|refine zln fun _=>?_|refine zop ?_|refine kc (c3) rfl rfl ?_|fail)
    refine ⟨k+1,by omega,by omega,?_⟩
    refine ⟨rfl,?_,?_,rfl⟩
    repeat'(first|apply And.intro|exact ze0|refine ze1 ?_|refine zei ?_ ?_|exact rfl|trivial)
    all_goals exact Stop.mk (by first|rfl|(rw [e2];done)|(rw [e3,←List.append_assoc];exact Qcm _ ⟨_,_,_⟩))
   ·cases h2:hasI (nth s.runs k).nodes node with
    | true=>
     rw [h2] at c3
     have hp:=QqM (id:=id) h2
     have e2:=QdD hk' hp
     have e3:=Qdq (now:=s.now) (why:=why) hk' hp
     generalize QaM s.now why (Qb4 id node) (s.runs.take k)=ge at *
     repeat' (first|refine zsr ?_|(refine zhm fun hb=>?_;try exact zab)|refine zg2 ?_ ?_|refine zln fun _=>?_|refine zop ?_|refine kc (c3) rfl rfl ?_|fail)
     refine ⟨k+1,by omega,by omega,?_⟩
     refine ⟨rfl,?_,?_,rfl⟩
     repeat'(first|apply And.intro|exact ze0|refine ze1 ?_|refine zei ?_ ?_|exact rfl|trivial)
     all_goals exact Stop.mk (by first|rfl|(rw [e2];done)|(rw [e3,←List.append_assoc];exact Qcm _ ⟨_,_,_⟩))
    | false=>
     rw [h2] at c3
     have hp:=Qri h1 h2
     have e2:=QfO hk' hp
     have e3:=QfR (now:=s.now) (why:=why) hk' hp
     repeat' (first|refine zsr ?_|(refine zhm fun hb=>?_;try exact zab)|refine zg2 ?_ ?_|refine zln fun _=>?_|refine zop ?_|refine kc (c3) rfl rfl ?_|fail)
     refine ⟨k+1,by omega,by omega,?_⟩
     refine ⟨rfl,?_,?_,rfl⟩
     repeat'(first|apply And.intro|exact ze0|refine ze1 ?_|refine zei ?_ ?_|exact rfl|trivial)
     all_goals exact Stop.mk (by first|rfl|(rw [e3];done)|(rw [e2];exact QeN _ _))
  ·obtain rfl:k=s.runs.length:=by omega
   rw [List.take_length] at *
   repeat' (first|refine zsr ?_|(refine zhm fun hb=>?_;try exact zab)|refine zg2 ?_ ?_|refine zln fun _=>?_|refine zop ?_|fail)
   show AWp _ _ _ _
   apply Qab
   refine zn () [12,500000] (by exact trivial) ?_ ?_
   all_goals exact zae
theorem Qp4 {s:State} {why id node:Int} (hs:Small 100000000 s):NCalls Tryz.prog 198 [.agg (Qhj s (.row 500000) (.d (.sl (runE s.runs))) 500001),.d (.n .i64 why),.d (.n .i64 id),.d (.n .i64 node)] [(500000,.row 4 (Qaw s.up) true),(500001,.row 150 (endE s.ends) true)] (fun _:Unit=>True) (fun _=>[.agg (Qhj s (.row 2) (.row 0) 1)]) (fun _=>[(0,.row 148 (runE (Qbx (Qb4 id node) s.runs)) false),(1,.row 150 (endE (s.ends++QaM s.now why (Qb4 id node) s.runs)) true),(2,.row 4 (Qaw s.up) true)]):=by
 refine Qdo tt Tryz.func198 rfl rfl rfl (fun _ _=>rfl) (fun w0 Z O=>?_)
 have hl:=Qah s.runs
 have h5:=hs.run
 have h6:=hs.end'
 repeat' (first|refine zst ?_|(refine zhm fun hb=>?_;try exact zab)|refine zg2 ?_ ?_|refine zln fun _=>?_|refine zop ?_|fail)
 refine Qc5 12 rfl ?_
 refine Qae (fun (k:Nat)=>⟨51,[(1,.d (.n .i64 why)),(2,.d (.n .i64 id)),(3,.d (.n .i64 node)),(4,.ptr 4 0),(8,.ptr 8 0),(9,.row 12),(14,.d (.sl (runE s.runs))),(15,.d (.n .i64 (s.runs.length:Nat))),(16,.d (.n .i64 k))],[(4,.box 43 (Qhj s (.row 500000) (.d (.sl (runE s.runs))) 500001)),(8,.box 43 [.nil,.nil,.nil,.d (.n .i64 0),.d (.n .i64 0),.d (.n .i64 0),.d (.n .i64 0),.d (.n .i64 0),.nil,.nil,.nil]),(500000,.row 4 (Qaw s.up) true),(500001,.row 150 (endE (s.ends++QaM s.now why (Qb4 id node) (s.runs.take k))) true),(12,.row 148 (runE (Qbx (Qb4 id node) (s.runs.take k))) false)]⟩) (fun k=>k≤s.runs.length) (fun k=>s.runs.length - k) 0 (by exact Nat.zero_le _) ?_ ?_
 ·refine ⟨rfl,?_,?_,rfl⟩
  repeat'(first|apply And.intro|exact ze0|refine ze1 ?_|refine zei ?_ ?_|exact rfl|trivial)
  all_goals exact Stop.mk (by first|rfl|(simp [QaM];done))
 ·intro k hk
  have hd2:=Qah (Qbx (Qb4 id node) (s.runs.take k))
  have hd3:=QaC (s.ends++QaM s.now why (Qb4 id node) (s.runs.take k))
  have hd7:(s.ends++QaM s.now why (Qb4 id node) (s.runs.take k)).length=s.ends.length+(QaM s.now why (Qb4 id node) (s.runs.take k)).length:=List.length_append
  have hd5:=QeB (p:=Qb4 id node) (l:=s.runs) (i:=k)
  have hd6:=QeH (now:=s.now) (why:=why) (p:=Qb4 id node) (l:=s.runs) (i:=k)
  by_cases hk':k<s.runs.length
  ·have hno:=hs.rno k hk'
   have c3:=Qc4 (l:=(nth s.runs k).nodes) (x:=node) (by omega)
   by_cases h1:(nth s.runs k).job.id=id
   ·have hp:=Qq7 (node:=node) h1
    have e2:=QdD hk' hp
    have e3:=Qdq (now:=s.now) (why:=why) hk' hp
    generalize QaM s.now why (Qb4 id node) (s.runs.take k)=ge at *
    repeat' (first|refine zsr ?_|(refine zhm fun hb=>?_;try exact zab)|refine zg2 ?_ ?_|refine zln fun _=>?_|refine zop ?_|refine kc (c3) rfl rfl ?_|fail)
    refine ⟨k+1,by omega,by omega,?_⟩
    refine ⟨rfl,?_,?_,rfl⟩
    repeat'(first|apply And.intro|exact ze0|refine ze1 ?_|refine zei ?_ ?_|exact rfl|trivial)
    all_goals exact Stop.mk (by first|rfl|(rw [e2];done)|(rw [e3,←List.append_assoc];exact Qcm _ ⟨_,_,_⟩))
   ·cases h2:hasI (nth s.runs k).nodes node with
    | true=>
     rw [h2] at c3
     have hp:=QqM (id:=id) h2
     have e2:=QdD hk' hp
     have e3:=Qdq (now:=s.now) (why:=why) hk' hp
     generalize QaM s.now why (Qb4 id node) (s.runs.take k)=ge at *
     repeat' (first|refine zsr ?_|(refine zhm fun hb=>?_;try exact zab)|refine zg2 ?_ ?_|refine zln fun _=>?_|refine zop ?_|refine kc (c3) rfl rfl ?_|fail)
     refine ⟨k+1,by omega,by omega,?_⟩
     refine ⟨rfl,?_,?_,rfl⟩
     repeat'(first|apply And.intro|exact ze0|refine ze1 ?_|refine zei ?_ ?_|exact rfl|trivial)
     all_goals exact Stop.mk (by first|rfl|(rw [e2];done)|(rw [e3,←List.append_assoc];exact Qcm _ ⟨_,_,_⟩))
    | false=>
     rw [h2] at c3
     have hp:=Qri h1 h2
     have e2:=QfO hk' hp
     have e3:=QfR (now:=s.now) (why:=why) hk' hp
     repeat' (first|refine zsr ?_|(refine zhm fun hb=>?_;try exact zab)|refine zg2 ?_ ?_|refine zln fun _=>?_|refine zop ?_|refine kc (c3) rfl rfl ?_|fail)
     refine ⟨k+1,by omega,by omega,?_⟩
     refine ⟨rfl,?_,?_,rfl⟩
     repeat'(first|apply And.intro|exact ze0|refine ze1 ?_|refine zei ?_ ?_|exact rfl|trivial)
     all_goals exact Stop.mk (by first|rfl|(rw [e3];done)|(rw [e2];exact QeN _ _))
  ·obtain rfl:k=s.runs.length:=by omega
   rw [List.take_length] at *
   repeat' (first|refine zsr ?_|(refine zhm fun hb=>?_;try exact zab)|refine zg2 ?_ ?_|refine zln fun _=>?_|refine zop ?_|fail)
   show AWp _ _ _ _
   apply Qab
   refine zn () [12,500001,500000] (by exact trivial) ?_ ?_
   all_goals exact zae
end Go.Proofs.YtelbahebpmkfjaaGreat
namespace Go.Proofs.YtelbahebpmkfjaaGreat
open Go Go.RowKit
def keyL:List (Nat×AO)→List Nat
 | []=>[]
 | (n,_)::l=>n::keyL l
theorem QmA:∀(l:List (Nat×AO)),keyL l=l.map Prod.fst
 | []=>rfl
 | (n,_)::l=>by rw [keyL,QmA l];rfl
def kept2 (ρ ks:List Nat) (n:Nat):Bool:=bif inN ρ n then ks.any (fun m=>bif fre0 m then false else Nat.beq (ρ.getD (m - 1000000) 0) n) else true
def back2 (f:Nat→Bool) (t:Nat) (ρ:List Nat) (ob:List (Nat×AO)) (ks:List Nat):Bool:=Qci (ks.map (Qbf t ρ))&&ks.all fun m=>bif fre0 m then QbG f (Qbd t m) ob else true
theorem QtZ (ρ:List Nat) (fin:List (Nat×AO)):Qfz ρ fin=kept2 ρ (keyL fin):=by
 funext n
 unfold Qfz kept2
 rw [QmA,List.any_map]
 rfl
theorem Qur {f:Nat→Bool} {t:Nat} {ρ:List Nat} {ob fin:List (Nat×AO)} (h:back2 f t ρ ob (keyL fin)=true):QoX f t ρ ob fin=true:=by
 unfold back2 at h
 unfold QoX
 rw [QmA,List.map_map,List.all_map] at h
 exact h
theorem kn2 {X:Cx} {σ:AS} {o:Oper} {K:AS→Prop} {t:Nat} {ι:Type} {f:FuncId} {ws:Array Operand} {ats:Array TypeId} {xs:List AV} {obs:List (Nat×AO)} {ok:ι→Prop} {rs:ι→List AV} {fin:ι→List (Nat×AO)} (ρ:List Nat) (hc:NCalls X.P f xs obs ok rs fin)
  (ho:o.op=.call { callee:=.value (.func f),args:=ws,argTypes:=ats }) (hx:σ.handNA ρ ws.toList=some xs)
  (hK:∀i,ok i→K ⟨σ.nt,(t,(one (rs i)).mapN (Qbf t ρ))::cutS (kept2 ρ (keyL (fin i))) σ.sl,finO t ρ (fin i)++QbL (inN ρ) (kept2 ρ (keyL (fin i))) σ.ob⟩)
  (hd:o.dst=some t:=by exact rfl) (hob:σ.handedN ρ 0 ρ=some obs:=by exact rfl) (hn:Qci ρ=true:=by exact rfl) (hno:Qdb obs=true:=by exact rfl)
  (hf:∀i,ok i→back2 X.fre t ρ σ.ob (keyL (fin i))=true:=by exact fun _ _=>rfl) (ht:Nat.blt t σ.nt=true:=by exact rfl):OpOk X o σ K:=
 Qof ρ hc ho hd hx hob hn hno (fun i hi=>Qur (hf i hi)) ht (fun i hi=>by rw [QtZ];exact hK i hi)
end Go.Proofs.YtelbahebpmkfjaaGreat
namespace Go.Proofs.YtelbahebpmkfjaaGreat
open Go Go.RowKit
attribute [local irreducible] AWp Qat OpOk ACalls ChA QsOk MCalls NCalls EnC PY

@[reducible] def stEw (s:State) (a b c q1 q2:Nat) (v:AV):List AV:=[.row a,.row b,.row c,.d (.n .i64 s.lic.a),.d (.n .i64 s.lic.b),.d (.n .i64 s.lic.c),.d (.n .i64 s.depth),.d (.n .i64 s.now),.row q1,v,.row q2]
theorem Qwy {s:State} {why:Int} {p:Run→Bool} {g:FuncId} {ds:List D} (hs:Small 100000000 s) (hg:∀r,r∈s.runs→ACalls Tryz.prog g [runA r,.pd ds 0] [.d (.b (p r))] []):NCalls Tryz.prog 107 [.ptr 1000000 0,.d (.n .i64 why),.clo g [.pd ds 0]] [(1000000,.box 43 (stEw s 500001 500002 500003 500004 500005 (.d (.sl (runE s.runs))))),(500001,.row 3 (intE s.topo.parents) true),(500002,.row 255 (QaD s.topo.nodes) true),(500003,.row 4 (Qaw s.up) true),(500004,.row 78 (jobE s.queue) true),(500005,.row 150 (endE s.ends) true)] (fun _:Unit=>True) (fun _=>[.row 3]) (fun _=>[(1000000,.box 43 (stEw s 4 5 6 0 2 (.row 1))),(0,.row 78 (jobE s.queue) true),(1,.row 148 (runE (Qbx p s.runs)) false),(2,.row 150 (endE (s.ends++QaM s.now why p s.runs)) true),(3,.row 78 (jobE (Qck p s.runs)) true),(4,.row 3 (intE s.topo.parents) true),(5,.row 255 (QaD s.topo.nodes) true),(6,.row 4 (Qaw s.up) true)]):=by
 refine Qdo tt Tryz.func107 rfl rfl rfl (fun _ _=>rfl) (fun w0 Z O=>?_)
 refine QcR 500005 62 rfl ?_
 have hl:=Qah s.runs
 have h5:=hs.run
 have h6:=hs.end'
 repeat' (first|refine zst ?_|(refine zhm fun hb=>?_;try exact zab)|(apply QeV;iterate 10 exact rfl)|refine zdr ?_|(apply zch;exact zcg)|refine HopS.mk fun w0 Z O=>?_|exact zhk|refine zg3 ?_ ?_|refine zln fun _=>?_|refine zop ?_|fail)
 refine QdW 8 8 148 rfl rfl rfl ?_
 refine Qc5 8 rfl ?_
 refine Qae (fun (k:Nat)=>⟨58,[(0,.ptr 1000000 0),(1,.d (.n .i64 why)),(2,.clo g [.pd ds 0]),(7,.row 11),(8,.row 8),(15,.d (.sl (runE s.runs))),(16,.d (.n .i64 (s.runs.length:Nat))),(17,.d (.n .i64 k))],[(1000000,.box 43 (stEw s 500001 500002 500003 500004 62 (.d (.sl (runE s.runs))))),(500001,.row 3 (intE s.topo.parents) true),(500002,.row 255 (QaD s.topo.nodes) true),(500003,.row 4 (Qaw s.up) true),(500004,.row 78 (jobE s.queue) true),(62,.row 150 (endE (s.ends++QaM s.now why p (s.runs.take k))) true),(8,.row 148 (runE (Qbx p (s.runs.take k))) false),(11,.row 78 (jobE (Qck p (s.runs.take k))) true)]⟩) (fun k=>k≤s.runs.length) (fun k=>s.runs.length - k) 0 (by exact Nat.zero_le _) ?_ ?_
 ·refine ⟨rfl,?_,?_,rfl⟩
  repeat'(first|apply And.intro|exact ze0|refine ze1 ?_|refine zei ?_ ?_|exact rfl|trivial)
  all_goals exact Stop.mk (by first|rfl|(simp [QaM];done))
 ·intro k hk
  have hd1:=Qak (Qck p (s.runs.take k))
  have hd2:=Qah (Qbx p (s.runs.take k))
  have hd3:=QaC (s.ends++QaM s.now why p (s.runs.take k))
  have hd7:(s.ends++QaM s.now why p (s.runs.take k)).length=s.ends.length+(QaM s.now why p (s.runs.take k)).length:=List.length_append
  have hd4:=Qib (p:=p) (l:=s.runs) (i:=k)
  have hd5:=QeB (p:=p) (l:=s.runs) (i:=k)
  have hd6:=QeH (now:=s.now) (why:=why) (p:=p) (l:=s.runs) (i:=k)
  by_cases hk':k<s.runs.length
  ·cases hp:p (nth s.runs k) with
   | true=>
    have c1:=hg (nth s.runs k) (QaO hk')
    rw [hp] at c1
    have e1:=Qio hk' hp
    have e2:=QdD hk' hp
    have e3:=Qdq (now:=s.now) (why:=why) hk' hp
    generalize Qck p (s.runs.take k)=gj at *
    generalize QaM s.now why p (s.runs.take k)=ge at *
    repeat' (first|refine zsr ?_|(refine zhm fun hb=>?_;try exact zab)|(apply QeV;iterate 10 exact rfl)|refine zdr ?_|(apply zch;exact zcg)|refine HopS.mk fun w0 Z O=>?_|exact zhk|refine zg3 ?_ ?_|refine zln fun _=>?_|refine zop ?_|refine kv (c1) rfl rfl rfl rfl rfl ?_|fail)
    refine ⟨k+1,by omega,by omega,?_⟩
    refine ⟨rfl,?_,?_,rfl⟩
    repeat'(first|apply And.intro|exact ze0|refine ze1 ?_|refine zei ?_ ?_|exact rfl|trivial)
    all_goals exact Stop.mk (by first|rfl|(rw [e2];done)|(rw [e1];exact Qb2 _ _)|(rw [e3,←List.append_assoc];exact Qcm _ ⟨_,_,_⟩))
   | false=>
    have c1:=hg (nth s.runs k) (QaO hk')
    rw [hp] at c1
    have e1:=Qj8 hk' hp
    have e2:=QfO hk' hp
    have e3:=QfR (now:=s.now) (why:=why) hk' hp
    repeat' (first|refine zsr ?_|(refine zhm fun hb=>?_;try exact zab)|(apply QeV;iterate 10 exact rfl)|refine zdr ?_|(apply zch;exact zcg)|refine HopS.mk fun w0 Z O=>?_|exact zhk|refine zg3 ?_ ?_|refine zln fun _=>?_|refine zop ?_|refine kv (c1) rfl rfl rfl rfl rfl ?_|fail)
    refine ⟨k+1,by omega,by omega,?_⟩
    refine ⟨rfl,?_,?_,rfl⟩
    repeat'(first|apply And.intro|exact ze0|refine ze1 ?_|refine zei ?_ ?_|exact rfl|trivial)
    all_goals exact Stop.mk (by first|rfl|(rw [e1];done)|(rw [e3];done)|(rw [e2];exact QeN _ _))
  ·obtain rfl:k=s.runs.length:=by omega
   rw [List.take_length] at *
   repeat' (first|refine zsr ?_|(refine zhm fun hb=>?_;try exact zab)|(apply QeV;iterate 10 exact rfl)|refine zdr ?_|(apply zch;exact zcg)|refine HopS.mk fun w0 Z O=>?_|exact zhk|refine zg3 ?_ ?_|refine zln fun _=>?_|refine zop ?_|fail)
   show AWp _ _ _ _
   apply Qab
   refine zn () [500004,8,62,11,500001,500002,500003] (by exact trivial) ?_ ?_
   all_goals exact zae
end Go.Proofs.YtelbahebpmkfjaaGreat
