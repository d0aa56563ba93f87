/-
  The empty room of the reference with a row of its own of the nodes that are up; whether a job could start alone.
-/
import Derived.Test.YtelbahebpmkfjaaGreatKB7
import Derived.Test.YtelbahebpmkfjaaGreatKB20
import Derived.Test.YtelbahebpmkfjaaGreatKB15
import Derived.Test.YtelbahebpmkfjaaGreatKB21
import Derived.Test.YtelbahebpmkfjaaGreatKB31
import Derived.Test.YtelbahebpmkfjaaGreatKB19
set_option maxRecDepth 100000
set_option maxHeartbeats 16000000
namespace Go.Proofs.YtelbahebpmkfjaaGreat
open Go Go.RowKit
attribute [local irreducible] AWp Qat OpOk ACalls ChA QsOk MCalls NCalls EnC PY

@[reducible] def QvD (r:Room) (q:Nat):AV:=.agg [.d (.sl (intE r.topo.parents)),.d (.sl (QaD r.topo.nodes)),.row q,.d (.sl (QaU r.profs)),.d (.sl (ptE r.lics))]
theorem Qp9 {r:Room} (h:RoomOk r) (h0:0<r.profs.length):MCalls Tryz.prog 292 [QcC r] [] (fun _:Unit=>True) (fun _=>[QvD r 0]) (fun _=>[]) (fun _=>[(0,.row 4 (Qaw r.up) true)]):=by
 refine Qag tt Tryz.func292 rfl rfl rfl trivial (fun _ _=>⟨trivial,trivial⟩) (fun w0 Z O=>?_)
 have hs:=h.small
 have hbl:=Qaq r.up
 have hnl:=Qar r.topo.nodes
 have hpl:=Qan r.profs
 have hil:=Qad r.topo.parents
 repeat' (first|(refine Qaj 3 14 rfl ?_)|(refine Qaj 3 19 rfl ?_)|refine zst ?_|(refine zhm fun hb=>?_;try exact zab)|refine zdr ?_|(apply zch;exact zcg)|refine HopS.mk fun w0 Z O=>?_|exact zhk|refine zg3 ?_ ?_|refine zln fun _=>?_|refine zop ?_|(refine km [] (Qc9 (l:=r.lics) (by omega)) rfl rfl (fun i hi=>?_);(try dsimp only at hi))|fail)
 refine Qae (fun (k:Nat×List (List Pt))=>⟨42,[(2,.ptr 2 0),(3,.ptr 3 0),(27,.d (.sl (QaU r.profs))),(28,.d (.n .i64 (r.profs.length:Nat))),(29,.d (.n .i64 k.1))],[(2,.box 212 [.nil,.nil,.nil,.nil,.nil]),(3,.box 212 [.d (.sl (intE r.topo.parents)),.d (.sl (QaD r.topo.nodes)),.row 6,slN 38 (QaU k.2),.d (.sl (ptE r.lics))]),(6,.row 4 (Qaw r.up) true)]++slO 38 210 (QaU k.2)⟩) (fun k=>k.1≤r.profs.length∧k.2=r.profs.take k.1) (fun k=>r.profs.length - k.1) (0,[]) (by exact ⟨Nat.zero_le _,rfl⟩) ?_ ?_
 ·refine ⟨rfl,?_,?_,rfl⟩
  repeat'(first|apply And.intro|exact ze0|refine ze1 ?_|refine zei ?_ ?_|exact rfl|trivial)
  all_goals exact Stop.mk (by first|rfl|exact Qan _)
 ·rintro ⟨n,out⟩ ⟨hn,ho⟩
  dsimp only at hn ho ⊢
  have hol:out.length=n:=by rw [ho,List.length_take];omega
  have hol2:=Qan out
  by_cases hn':n<r.profs.length
  ·have hp:=h.profs n hn'
   have hpl2:=hp.len
   have hnx:=Qas hn'
   rw [←ho] at hnx
   cases out with
   | nil=>
    repeat' (first|refine zst ?_|(refine zhm fun hb=>?_;try exact zab)|refine zdr ?_|(apply zch;exact zcg)|refine HopS.mk fun w0 Z O=>?_|exact zhk|refine zg3 ?_ ?_|refine zln fun _=>?_|refine zop ?_|(refine km [] (Qc9 (l:=nth r.profs n) (by omega)) rfl rfl (fun i hi=>?_);(try dsimp only at hi))|fail)
    refine ⟨(n+1,[]++[nth r.profs n]),⟨by omega,hnx.symm⟩,by omega,?_⟩
    exact ⟨rfl,zae,zae,rfl⟩
   | cons p0 o0=>
    repeat' (first|refine zst ?_|(refine zhm fun hb=>?_;try exact zab)|refine zdr ?_|(apply zch;exact zcg)|refine HopS.mk fun w0 Z O=>?_|exact zhk|refine zg3 ?_ ?_|refine zln fun _=>?_|refine zop ?_|(refine km [] (Qc9 (l:=nth r.profs n) (by omega)) rfl rfl (fun i hi=>?_);(try dsimp only at hi))|fail)
    refine ⟨(n+1,(p0::o0)++[nth r.profs n]),⟨by omega,hnx.symm⟩,by omega,?_⟩
    refine ⟨rfl,?_,?_,rfl⟩
    repeat'(first|apply And.intro|exact ze0|refine ze1 ?_|refine zei ?_ ?_|exact rfl|trivial)
    all_goals exact Stop.mk (by first|rfl|exact Qcu (p0::o0) _)
  ·have hall:out=r.profs:=by rw [ho,List.take_of_length_le (by omega)]
   cases out with
   | nil=>rw [←hall] at h0;cases h0
   | cons p0 o0=>
    repeat' (first|refine zsr ?_|(refine zhm fun hb=>?_;try exact zab)|refine zdr ?_|(apply zch;exact zcg)|refine HopS.mk fun w0 Z O=>?_|exact zhk|refine zg3 ?_ ?_|refine zln fun _=>?_|refine zop ?_|fail)
    show AWp _ _ _ _
    refine Qav 38 rfl ?_
    show AWp _ _ _ _
    refine Qac ?_
    apply Qab
    refine zm () [6] trivial ?_ ?_ ?_
    repeat'(first|apply And.intro|exact ze0|refine ze1 ?_|refine zei ?_ ?_|exact rfl|trivial)
    all_goals exact Stop.mk (by first|rfl|rw [hall])
theorem Qpl {tp:Topo} {up:List Bool} {li:List Pt} (h:RoomOk ⟨tp,up,[],li⟩):MCalls Tryz.prog 292 [.agg [.d (.sl (intE tp.parents)),.d (.sl (QaD tp.nodes)),.d (.sl (Qaw up)),.nil,.d (.sl (ptE li))]] [] (fun _:Unit=>True) (fun _=>[QvD ⟨tp,up,[],li⟩ 0]) (fun _=>[]) (fun _=>[(0,.row 4 (Qaw up) true)]):=by
 refine Qag tt Tryz.func292 rfl rfl rfl trivial (fun _ _=>⟨trivial,trivial⟩) (fun w0 Z O=>?_)
 have hs:=h.small
 dsimp only at hs
 have hbl:=Qaq up
 have hnl:=Qar tp.nodes
 have hil:=Qad tp.parents
 repeat' (first|(refine Qaj 3 14 rfl ?_)|(refine Qaj 3 19 rfl ?_)|refine zst ?_|(refine zhm fun hb=>?_;try exact zab)|refine zdr ?_|(apply zch;exact zcg)|refine HopS.mk fun w0 Z O=>?_|exact zhk|refine zg3 ?_ ?_|refine zln fun _=>?_|refine zop ?_|(refine km [] (Qc9 (l:=li) (by omega)) rfl rfl (fun i hi=>?_);(try dsimp only at hi))|fail)
 refine Qae (fun (_:Unit)=>⟨42,[(2,.ptr 2 0),(3,.ptr 3 0),(27,.nil),(28,.d (.n .i64 0)),(29,.d (.n .i64 0))],[(2,.box 212 [.nil,.nil,.nil,.nil,.nil]),(3,.box 212 [.d (.sl (intE tp.parents)),.d (.sl (QaD tp.nodes)),.row 6,.nil,.d (.sl (ptE li))]),(6,.row 4 (Qaw up) true)]⟩) (fun _=>True) (fun _=>0) () trivial ?_ ?_
 ·exact ⟨rfl,zae,zae,rfl⟩
 ·intro _ _
  repeat' (first|refine zsr ?_|(refine zhm fun hb=>?_;try exact zab)|refine zdr ?_|(apply zch;exact zcg)|refine HopS.mk fun w0 Z O=>?_|exact zhk|refine zg3 ?_ ?_|refine zln fun _=>?_|refine zop ?_|fail)
  show AWp _ _ _ _
  refine Qac ?_
  apply Qab
  exact zm () [6] trivial zae zae zae
theorem Qo6 {s:State} (ht:TopoOk s.topo) (h2:s.up.length=s.topo.nodes.length) (h3:Qal s.lic=true) (hs:Small 1000000000 s):MCalls Tryz.prog 239 [QaA s] [] (fun _:Unit=>True) (fun _=>[QvD (Qa5 s.topo s.up s.lic) 0,.d (.b true)]) (fun _=>[]) (fun _=>[(0,.row 4 (Qaw s.up) true)]):=by
 refine Qag tt Tryz.func239 rfl rfl rfl trivial (fun _ _=>⟨trivial,trivial⟩) (fun w0 Z O=>?_)
 have hbl:=Qaq s.up
 have hnl:=Qar s.topo.nodes
 have hup:=hs.up
 have hno:=hs.nod
 have c1:=Qe1 (t:=s.topo) hs.par hs.nod
 have c2:=Qb8 (v:=s.lic)
 have h1:=Qbz.2 ht
 rw [h1] at c1
 rw [h3] at c2
 have h4:=ht.len
 have h5:=ht.nlen
 have hok:=QdM ht h2 h3
 have hen:(Qa5 s.topo s.up s.lic).profs=QeF s.topo.nodes:=rfl
 repeat' (first|refine zst ?_|(refine zhm fun hb=>?_;try exact zab)|refine zg2 ?_ ?_|refine zln fun _=>?_|refine zop ?_|refine kc (c1) rfl rfl ?_|refine kc (c2) rfl rfl ?_|fail)
 refine Qae (fun (k:Nat×List (List Pt))=>⟨65,[(1,.ptr 1 0),(2,.ptr 2 0),(4,.ptr 4 0),(37,.d (.sl (QaD s.topo.nodes))),(38,.d (.n .i64 (s.topo.nodes.length:Nat))),(39,.d (.n .i64 k.1))],[(1,.box 43 (Qbw s)),(2,.box 212 [.nil,.nil,.nil,.nil,.nil]),(4,.box 212 [.d (.sl (intE s.topo.parents)),.d (.sl (QaD s.topo.nodes)),.d (.sl (Qaw s.up)),slN 53 (QaU k.2),.nil])]++slO 53 210 (QaU k.2)⟩) (fun k=>k.1≤s.topo.nodes.length∧k.2=QeF (s.topo.nodes.take k.1)) (fun k=>s.topo.nodes.length - k.1) (0,[]) (by exact ⟨Nat.zero_le _,rfl⟩) ?_ ?_
 ·refine ⟨rfl,?_,?_,rfl⟩
  repeat'(first|apply And.intro|exact ze0|refine ze1 ?_|refine zei ?_ ?_|exact rfl|trivial)
  all_goals exact Stop.mk (by first|rfl|exact Qar _)
 ·rintro ⟨n,out⟩ ⟨hn,ho⟩
  dsimp only at hn ho ⊢
  have hol:out.length=n:=by rw [ho,QeF,List.length_map,List.length_take];omega
  have hol2:=Qan out
  by_cases hn':n<s.topo.nodes.length
  ·have hnx:=Qe4 hn'
   rw [←ho] at hnx
   have hc:=ht.nodes n hn'
   cases out with
   | nil=>
    repeat' (first|(refine Qaj 8 46 rfl ?_)|refine zst ?_|(refine zhm fun hb=>?_;try exact zab)|refine zg2 ?_ ?_|refine zln fun _=>?_|refine zop ?_|refine kc (QbP (v:=(nth s.topo.nodes n).cap) hc.2.2) rfl rfl ?_|fail)
    refine ⟨(n+1,[]++[[⟨0,(nth s.topo.nodes n).cap⟩]]),⟨by omega,hnx.symm⟩,by omega,?_⟩
    exact ⟨rfl,zae,zae,rfl⟩
   | cons p0 o0=>
    repeat' (first|(refine Qaj 8 46 rfl ?_)|refine zst ?_|(refine zhm fun hb=>?_;try exact zab)|refine zg2 ?_ ?_|refine zln fun _=>?_|refine zop ?_|refine kc (QbP (v:=(nth s.topo.nodes n).cap) hc.2.2) rfl rfl ?_|fail)
    refine ⟨(n+1,(p0::o0)++[[⟨0,(nth s.topo.nodes n).cap⟩]]),⟨by omega,hnx.symm⟩,by omega,?_⟩
    refine ⟨rfl,?_,?_,rfl⟩
    repeat'(first|apply And.intro|exact ze0|refine ze1 ?_|refine zei ?_ ?_|exact rfl|trivial)
    all_goals exact Stop.mk (by first|rfl|exact Qcu (p0::o0) _)
  ·have hall:QeF s.topo.nodes=out:=by rw [ho,List.take_of_length_le (by omega)]
   cases out with
   | nil=>
    have hcp:=Qpl (tp:=s.topo) (up:=s.up) (li:=[⟨0,s.lic⟩]) (by unfold Qa5 at hok;rw [show (s.topo.nodes.map fun n=>[(⟨0,n.cap⟩:Pt)])=[] from hall] at hok;exact hok)
    unfold Qa5
    rw [show (s.topo.nodes.map fun n=>[(⟨0,n.cap⟩:Pt)])=[] from hall]
    repeat' (first|(refine Qaj 11 59 rfl ?_)|refine zsr ?_|(refine zhm fun hb=>?_;try exact zab)|refine zg2 ?_ ?_|refine zln fun _=>?_|refine zop ?_|refine kc (QbP (v:=s.lic) h3) rfl rfl ?_|(refine km [] (hcp) rfl rfl (fun i hi=>?_);(try dsimp only at hi))|fail)
    show AWp _ _ _ _
    refine Qac ?_
    apply Qab
    exact zm () [64] trivial zae zae zae
   | cons p0 o0=>
    have hcp:=Qp9 hok (by rw [hen,hall];exact Nat.succ_pos _)
    unfold Qa5 at hcp
    rw [show (s.topo.nodes.map fun n=>[(⟨0,n.cap⟩:Pt)])=p0::o0 from hall] at hcp
    unfold Qa5
    rw [show (s.topo.nodes.map fun n=>[(⟨0,n.cap⟩:Pt)])=p0::o0 from hall]
    repeat' (first|(refine Qaj 11 59 rfl ?_)|(refine Qaj 11 53 rfl ?_)|refine zsr ?_|(refine zhm fun hb=>?_;try exact zab)|refine zg2 ?_ ?_|refine zln fun _=>?_|refine zop ?_|refine kc (QbP (v:=s.lic) h3) rfl rfl ?_|(refine km [] (hcp) rfl rfl (fun i hi=>?_);(try dsimp only at hi))|fail)
    show AWp _ _ _ _
    refine Qac ?_
    apply Qab
    exact zm () [64] trivial zae zae zae
@[reducible] def jobC (j:Job):List AV:=[.d (.n .i64 j.id),.d (.n .i64 j.prio),.d (.n .i64 j.nodes),.d (.n .i64 j.need.a),.d (.n .i64 j.need.b),.d (.n .i64 j.need.c),.d (.n .i64 j.lic.a),.d (.n .i64 j.lic.b),.d (.n .i64 j.lic.c),.d (.n .i64 j.wall),.d (.n .i64 j.level)]
def QlI (s:State):List Bool:=List.replicate s.topo.nodes.length true
def Qhm (s:State):Room:=Qa5 s.topo (QlI s) s.lic
theorem Qr4 {s:State} (ht:TopoOk s.topo) (h3:Qal s.lic=true):RoomOk (Qhm s):=QdM ht (by simp [QlI]) h3
def upTo (s:State) (i:Nat):List Bool:=List.replicate i true++s.up.drop i
theorem Qov {s:State} {i:Nat} (h:i≤s.up.length):(upTo s i).length=s.up.length:=by simp [upTo];omega
theorem Qq8 {s:State} {i:Nat} (h:i<s.up.length):(Qaw (upTo s i)).set i [.b true]=Qaw (upTo s (i+1)):=by
 rw [show (Qaw (upTo s i)).set i [.b true]=Qaw ((upTo s i).set i true) by simp [Qaw,List.map_set]]
 congr 1
 unfold upTo
 rw [List.set_append_right _ _ (by simp),List.drop_eq_getElem_cons h,List.length_replicate,Nat.sub_self,List.set_cons_zero,List.replicate_succ',List.append_assoc]
 rfl
theorem QtV {s:State} (h:s.up.length=s.topo.nodes.length):upTo s s.up.length=QlI s:=by
 unfold upTo QlI
 rw [h,List.drop_of_length_le (by omega),List.append_nil]
theorem Qpj {s:State} {j:Job} (ht:TopoOk s.topo) (h2:s.up.length=s.topo.nodes.length) (h3:Qal s.lic=true) (hj:Qau j=true) (hs:Small 1000000000 s):ACalls Tryz.prog 197 [QaA s,jobA j] [.d (.b (earO (Qhm s) j 0).isSome)] []:=by
 refine Qaa tt Tryz.func197 rfl rfl rfl (fun w0 Z=>?_)
 have c1:=Qo6 ht h2 h3 hs
 have c2:=Qg0 (r:=Qhm s) (j:=j) (a:=0) (Qr4 ht h3) hj (by omega)
 have hbl:∀n,n≤s.up.length→(Qaw (upTo s n)).length=s.up.length:=fun n hn=>by rw [Qaq,Qov hn]
 have hup:=hs.up
 have hno:=ht.nlen
 repeat' (first|refine zst ?_|(refine zhm fun hb=>?_;try exact zab)|refine zg2 ?_ ?_|refine zln fun _=>?_|refine zop ?_|(refine km [] (c1) rfl rfl (fun i hi=>?_);(try dsimp only at hi))|fail)
 refine Qae (fun (n:Nat)=>⟨38,[(3,.ptr 3 0),(5,.ptr 5 0),(6,.d (.b true)),(18,.d (.n .i64 (s.up.length:Nat))),(19,.d (.n .i64 n))],[(3,.box 78 (jobC j)),(5,.box 212 [.d (.sl (intE s.topo.parents)),.d (.sl (QaD s.topo.nodes)),.row 13,.d (.sl (QaU (Qhm s).profs)),.d (.sl (ptE [⟨0,s.lic⟩]))]),(13,.row 4 (Qaw (upTo s n)) true)]⟩) (fun n=>n≤s.up.length) (fun n=>s.up.length - n) 0 (by exact Nat.zero_le _) ?_ ?_
 ·refine ⟨rfl,?_,?_,rfl⟩
  repeat'(first|apply And.intro|exact ze0|refine ze1 ?_|refine zei ?_ ?_|exact rfl|trivial)
  all_goals exact Stop.mk (by first|rfl|exact Qaq _)
 intro n hn
 have hbn:=hbl n hn
 have hul:=Qov hn
 by_cases hn':n<s.up.length
 ·have hst:=Qq8 hn'
  repeat' (first|refine zst ?_|(refine zhm fun hb=>?_;try exact zab)|refine zg2 ?_ ?_|refine zln fun _=>?_|refine zop ?_|fail)
  refine ⟨n+1,by omega,by omega,?_⟩
  refine ⟨rfl,?_,?_,rfl⟩
  repeat'(first|apply And.intro|exact ze0|refine ze1 ?_|refine zei ?_ ?_|exact rfl|trivial)
  all_goals exact Stop.mk (by first|rfl|exact hst)
 ·obtain rfl:n=s.up.length:=by omega
  rw [QtV h2]
  repeat' (first|(refine Qaj 7 13 rfl ?_)|refine zst ?_|(refine zhm fun hb=>?_;try exact zab)|refine zg2 ?_ ?_|refine zln fun _=>?_|refine zop ?_|(refine km [] (c2) rfl rfl (fun i hi=>?_);(try dsimp only at hi))|fail)
  exact zr [] zae zae
end Go.Proofs.YtelbahebpmkfjaaGreat
namespace Go.Proofs.YtelbahebpmkfjaaGreat
open Go Go.RowKit
attribute [local irreducible] AWp Qat OpOk ACalls ChA QsOk MCalls NCalls EnC PY

def subm (s:State) (j:Job):State:={ s with queue:=s.queue++[j] }
noncomputable def QcL (s:State) (j:Job):Option State×Int:=
 if Qap s=true∧Qau j=true then
  if (allJ s).any (fun x=>x.id==j.id)=true then (none,2)
  else if 60≤(allJ s).length then (none,3)
  else if (earO (Qhm s) j 0).isSome=true then (some (Qbq (subm s j)),0) else (none,4)
 else (none,1)
theorem Qsu {s:State} {j:Job} (h:QueueP (allJ s)) (hj:Qau j=true) (hn:¬(allJ s).any (fun x=>x.id==j.id)=true) (hl:¬60≤(allJ s).length):QueueP (s.queue++[j]):=by
 have hq:=h.left
 have hlen:s.queue.length≤(allJ s).length:=by simp [allJ]
 have hnx:∀i,i<s.queue.length→(nth s.queue i).id≠j.id:=fun i hi e=>by
  apply hn
  refine List.any_eq_true.2 ⟨nth s.queue i,?_,by rw [e];exact beq_self_eq_true _⟩
  exact List.mem_append_left _ (QaO hi)
 have ex:nth (s.queue++[j]) s.queue.length=j:=by rw [Qa8 (by simp)];simp
 have ei:∀i,i<s.queue.length→nth (s.queue++[j]) i=nth s.queue i:=fun i hi=>by
  rw [Qa8 (by simp;omega),Qa8 hi,List.getElem_append_left hi]
 have el:(s.queue++[j]).length=s.queue.length+1:=by simp
 refine ⟨by omega,fun i hi=>?_,fun i hi k hk=>?_⟩
 ·by_cases h1:i<s.queue.length
  ·rw [ei i h1];exact hq.jobs i h1
  ·obtain rfl:i=s.queue.length:=by omega
   rw [ex];exact hj
 ·have h2:k<s.queue.length:=by omega
  rw [ei k h2]
  by_cases h1:i<s.queue.length
  ·rw [ei i h1];exact hq.diff i h1 k hk
  ·obtain rfl:i=s.queue.length:=by omega
   rw [ex];exact hnx k h2
theorem QgX {n:Nat} {s:State} {j:Job} (h:Small n s) (hq:s.queue.length+1≤n):Small n (subm s j):=⟨h.par,h.nod,h.up,by simp only [subm,List.length_append,List.length_singleton];exact hq,h.run,h.end',h.rno⟩
@[reducible] def QxL (s:State) (q:List (List D)):AV:=.agg [.d (.sl (intE s.topo.parents)),.d (.sl (QaD s.topo.nodes)),.d (.sl (Qaw s.up)),.d (.n .i64 s.lic.a),.d (.n .i64 s.lic.b),.d (.n .i64 s.lic.c),.d (.n .i64 s.depth),.d (.n .i64 s.now),.d (.sl q),.d (.sl (runE s.runs)),.d (.sl (endE s.ends))]
@[reducible] def Qvn (s:State) (q:List (List D)) (q1 q2:Nat):List AV:=[.d (.sl (intE s.topo.parents)),.d (.sl (QaD s.topo.nodes)),.d (.sl (Qaw s.up)),.d (.n .i64 s.lic.a),.d (.n .i64 s.lic.b),.d (.n .i64 s.lic.c),.d (.n .i64 s.depth),.d (.n .i64 s.now),.d (.sl q),.row q1,.row q2]
theorem QxI {s:State} {j:Job}:QaA (subm s j)=QxL s (jobE s.queue++[[.n .i64 j.id,.n .i64 j.prio,.n .i64 j.nodes,.n .i64 j.need.a,.n .i64 j.need.b,.n .i64 j.need.c,.n .i64 j.lic.a,.n .i64 j.lic.b,.n .i64 j.lic.c,.n .i64 j.wall,.n .i64 j.level]]):=by rw [Qb2];rfl
theorem Qxr {s:State} {j:Job} {q1 q2:Nat}:Qdc (subm s j) q1 q2=Qvn s (jobE s.queue++[[.n .i64 j.id,.n .i64 j.prio,.n .i64 j.nodes,.n .i64 j.need.a,.n .i64 j.need.b,.n .i64 j.need.c,.n .i64 j.lic.a,.n .i64 j.lic.b,.n .i64 j.lic.c,.n .i64 j.wall,.n .i64 j.level]]) q1 q2:=by rw [Qb2];rfl
structure OkP (s:State):Prop where
 topo:TopoOk s.topo
 up:s.up.length=s.topo.nodes.length
 lic:Qal s.lic=true
 jobs:QueueP (allJ s)
 depth:0≤s.depth∧s.depth≤60
theorem Qgd {s:State} (h:Qap s=true):OkP s:=by
 have h':=pB_t.1 h
 obtain ⟨r,hr⟩:=Option.isSome_iff_exists.1 h'.room
 have hb:=(Qed hr).2.2.2.1
 exact ⟨hb.topo,hb.up,hb.lic,h'.jobs,h'.depth⟩
theorem QnD (l:List Job) (id:Int):(Qg3 l id).isSome=l.any (fun x=>x.id==id):=by
 unfold Qg3
 rw [Bool.eq_iff_iff,List.find?_isSome,List.any_eq_true]
theorem Qs5 {s:State} {j:Job} (hs:Small 1048576 s):SO 123 [QaA s,jobA j] (QcL s j).1 (QcL s j).2:=by
 refine Qaa tt Tryz.func123 rfl rfl rfl (fun w0 Z=>?_)
 have hm:Small 100000000 s:=hs.mono (by omega)
 have c1:=Qca hm
 have c2:=QeC (j:=j)
 unfold QcL
 cases h:Qap s with
 | false=>
  rw [h] at c1
  rw [if_neg (fun h=>by cases h.1)]
  repeat' (first|refine zst ?_|(refine zhm fun hb=>?_;try exact zab)|refine zdr ?_|(apply zch;exact zcg)|refine HopS.mk fun w0 Z O=>?_|exact zhk|refine zg3 ?_ ?_|refine zln fun _=>?_|refine zop ?_|refine kc (c1) rfl rfl ?_|refine kq (c1) rfl rfl ?_|fail)
  exact zr [] zae zae
 | true=>
  rw [h] at c1
  cases hv:Qau j with
  | false=>
   rw [hv] at c2
   rw [if_neg (fun h=>by cases h.2)]
   repeat' (first|refine zst ?_|(refine zhm fun hb=>?_;try exact zab)|refine zdr ?_|(apply zch;exact zcg)|refine HopS.mk fun w0 Z O=>?_|exact zhk|refine zg3 ?_ ?_|refine zln fun _=>?_|refine zop ?_|refine kc (c1) rfl rfl ?_|refine kc (c2) rfl rfl ?_|refine kq (c1) rfl rfl ?_|refine kq (c2) rfl rfl ?_|fail)
   exact zr [] zae zae
  | true=>
   rw [hv] at c2
   rw [if_pos ⟨rfl,rfl⟩]
   have hk:=Qgd h
   have hal:=hk.jobs.len
   have hjl:=Qak (allJ s)
   have c3:=Qvm (hm.mono (m:=1000000000) (by omega))
   have c4:=Qm2 (l:=allJ s) (id:=j.id) (by omega)
   have hix:=QhJ (allJ s) fun x=>x.id==j.id
   cases ha:(allJ s).any (fun x=>x.id==j.id) with
   | true=>
    rw [ha,decide_eq_true_eq] at hix
    rw [if_pos rfl]
    repeat' (first|refine zst ?_|(refine zhm fun hb=>?_;try exact zab)|refine zdr ?_|(apply zch;exact zcg)|refine HopS.mk fun w0 Z O=>?_|exact zhk|refine zg3 ?_ ?_|refine zln fun _=>?_|refine zop ?_|refine kc (c1) rfl rfl ?_|refine kc (c2) rfl rfl ?_|refine kc (c4) rfl rfl ?_|(refine km [] (c3) rfl rfl (fun i hi=>?_);(try dsimp only at hi))|refine kq (c1) rfl rfl ?_|refine kq (c2) rfl rfl ?_|refine kq (c4) rfl rfl ?_|fail)
    exact zr [] zae zae
   | false=>
    rw [ha,decide_eq_false_iff_not] at hix
    rw [if_neg (show ¬(false=true) by decide)]
    by_cases h6:60≤(allJ s).length
    ·rw [if_pos h6]
     repeat' (first|refine zst ?_|(refine zhm fun hb=>?_;try exact zab)|refine zdr ?_|(apply zch;exact zcg)|refine HopS.mk fun w0 Z O=>?_|exact zhk|refine zg3 ?_ ?_|refine zln fun _=>?_|refine zop ?_|refine kc (c1) rfl rfl ?_|refine kc (c2) rfl rfl ?_|refine kc (c4) rfl rfl ?_|(refine km [] (c3) rfl rfl (fun i hi=>?_);(try dsimp only at hi))|refine kq (c1) rfl rfl ?_|refine kq (c2) rfl rfl ?_|refine kq (c4) rfl rfl ?_|fail)
     exact zr [] zae zae
    ·rw [if_neg h6]
     have hn:=hk.topo.nlen
     have hql:s.queue.length≤(allJ s).length:=by simp [allJ]
     have hqe:=Qak s.queue
     repeat' (first|refine zst ?_|(refine zhm fun hb=>?_;try exact zab)|refine zdr ?_|(apply zch;exact zcg)|refine HopS.mk fun w0 Z O=>?_|exact zhk|refine zg3 ?_ ?_|refine zln fun _=>?_|refine zop ?_|refine kc (c1) rfl rfl ?_|refine kc (c2) rfl rfl ?_|refine kc (c4) rfl rfl ?_|(refine km [] (c3) rfl rfl (fun i hi=>?_);(try dsimp only at hi))|refine kq (c1) rfl rfl ?_|refine kq (c2) rfl rfl ?_|refine kq (c4) rfl rfl ?_|fail)
     refine Qae (fun (n:Nat)=>⟨68,[(2,.ptr 2 0),(3,.ptr 3 0),(4,.ptr 4 0),(7,.row 32),(36,.d (.n .i64 (s.topo.nodes.length:Nat))),(37,.d (.n .i64 n))],[(2,.box 43 (Qbw s)),(3,.box 78 (jobC j)),(4,.box 43 ctl0),(32,.row 4 (Qaw (List.replicate n true)) true)]⟩) (fun n=>n≤s.topo.nodes.length) (fun n=>s.topo.nodes.length - n) 0 (by exact Nat.zero_le _) ?_ ?_
     ·refine ⟨rfl,?_,?_,rfl⟩
      repeat'(first|apply And.intro|exact ze0|refine ze1 ?_|refine zei ?_ ?_|exact rfl|trivial)
      all_goals exact Stop.mk (by first|rfl|exact Qar _)
     intro n hn1
     have hbn:(Qaw (List.replicate n true)).length=n:=by rw [Qaq,List.length_replicate]
     have hbr:(List.replicate n true).length=n:=List.length_replicate
     by_cases hn':n<s.topo.nodes.length
     ·have hst:Qaw (List.replicate n true)++[[.b true]]=Qaw (List.replicate (n+1) true):=by rw [List.replicate_succ'];simp [Qaw]
      repeat' (first|refine zst ?_|(refine zhm fun hb=>?_;try exact zab)|refine zdr ?_|(apply zch;exact zcg)|refine HopS.mk fun w0 Z O=>?_|exact zhk|refine zg3 ?_ ?_|refine zln fun _=>?_|refine zop ?_|fail)
      refine ⟨n+1,by omega,by omega,?_⟩
      refine ⟨rfl,?_,?_,rfl⟩
      repeat'(first|apply And.intro|exact ze0|refine ze1 ?_|refine zei ?_ ?_|exact rfl|trivial)
      all_goals exact Stop.mk (by first|rfl|exact hst)
     ·obtain rfl:n=s.topo.nodes.length:=by omega
      rw [show List.replicate s.topo.nodes.length true=QlI s from rfl]
      have c5:=QqC (up:=QlI s) hk.topo (by simp [QlI]) hk.lic
      have c6:=QoV (r:=Qhm s) (j:=j) (a:=0) (Qr4 hk.topo hk.lic) hv (by omega)
      unfold Qhm at c6
      cases he:earO (Qa5 s.topo (QlI s) s.lic) j 0 with
      | none=>
       rw [he] at c6
       rw [if_neg (show ¬((earO (Qhm s) j 0).isSome=true) by rw [Qhm,he];decide)]
       repeat' (first|(refine Qaj 13 32 rfl ?_)|refine zst ?_|(refine zhm fun hb=>?_;try exact zab)|(apply QaT 13;kernel_rfl;exact rfl)|refine zdr ?_|(apply zch;exact zcg)|refine HopS.mk fun w0 Z O=>?_|exact zhk|refine zg3 ?_ ?_|refine zln fun _=>?_|refine zop ?_|(refine km [] (c5) rfl rfl (fun i hi=>?_);(try dsimp only at hi))|(refine km [] (c6) rfl rfl (fun i hi=>?_);(try dsimp only at hi))|fail)
       exact zr [] zae zae
      | some x=>
       rw [he] at c6
       rw [if_pos (show (earO (Qhm s) j 0).isSome=true by rw [Qhm,he];rfl)]
       have hsm:=QgX (j:=j) hm (by omega)
       have c7:=Qdu (s:=subm s j) hsm ⟨Qsu hk.jobs hv (by rw [ha];decide) h6,hk.depth⟩
       rw [QxI] at c7
       repeat' (first|(refine Qaj 13 32 rfl ?_)|refine zst ?_|(refine zhm fun hb=>?_;try exact zab)|(apply QaT 13;kernel_rfl;exact rfl)|refine zdr ?_|(apply zch;exact zcg)|refine HopS.mk fun w0 Z O=>?_|exact zhk|refine zg3 ?_ ?_|refine zln fun _=>?_|refine zop ?_|refine kc (Qbv hm) rfl rfl ?_|refine kc (c7) rfl rfl ?_|(refine km [] (c5) rfl rfl (fun i hi=>?_);(try dsimp only at hi))|(refine km [] (c6) rfl rfl (fun i hi=>?_);(try dsimp only at hi))|refine kq (Qbv hm) rfl rfl ?_|refine kq (c7) rfl rfl ?_|fail)
       exact zr [67,1067,2067,3067,4067,5067] zae zae
theorem Qtw {s:State} {j:Job} (hs:Small 1048576 s):SS 116 [QaA s,jobA j] (QcL s j).1 (QcL s j).2:=by
 refine Qag tt Tryz.func116 rfl rfl rfl trivial (fun _ _=>⟨trivial,trivial⟩) (fun w0 Z O=>?_)
 have hm:Small 100000000 s:=hs.mono (by omega)
 have c1:=QcD hm
 have c2:=QiD (j:=j)
 unfold QcL
 cases h:Qap s with
 | false=>
  rw [h] at c1
  rw [if_neg (fun h=>by cases h.1)]
  repeat' (first|refine zsr ?_|(refine zhm fun hb=>?_;try exact zab)|refine zg2 ?_ ?_|refine zln fun _=>?_|refine zop ?_|refine kc (c1) rfl rfl ?_|fail)
  show AWp _ _ _ _
  refine Qac ?_
  apply Qab
  exact zm () [] trivial zae zae zae
 | true=>
  rw [h] at c1
  cases hv:Qau j with
  | false=>
   rw [hv] at c2
   rw [if_neg (fun h=>by cases h.2)]
   repeat' (first|refine zsr ?_|(refine zhm fun hb=>?_;try exact zab)|refine zg2 ?_ ?_|refine zln fun _=>?_|refine zop ?_|refine kc (c1) rfl rfl ?_|refine kc (c2) rfl rfl ?_|fail)
   show AWp _ _ _ _
   refine Qac ?_
   apply Qab
   exact zm () [] trivial zae zae zae
  | true=>
   rw [hv] at c2
   rw [if_pos ⟨rfl,rfl⟩]
   have hk:=Qgd h
   have hal:=hk.jobs.len
   have hjl:=Qak (allJ s)
   have c3:=Qf0 (hm.mono (m:=1000000000) (by omega))
   have c4:=QfT (l:=allJ s) (id:=j.id) (by omega)
   have hfa:=QnD (allJ s) j.id
   cases ha:(allJ s).any (fun x=>x.id==j.id) with
   | true=>
    rw [ha] at hfa
    rw [hfa] at c4
    rw [if_pos rfl]
    repeat' (first|refine zsr ?_|(refine zhm fun hb=>?_;try exact zab)|refine zg2 ?_ ?_|refine zln fun _=>?_|refine zop ?_|refine kc (c1) rfl rfl ?_|refine kc (c2) rfl rfl ?_|refine kc (c4) rfl rfl ?_|(refine km [] (c3) rfl rfl (fun i hi=>?_);(try dsimp only at hi))|fail)
    show AWp _ _ _ _
    refine Qac ?_
    apply Qab
    exact zm () [] trivial zae zae zae
   | false=>
    rw [ha] at hfa
    rw [hfa] at c4
    rw [if_neg (show ¬(false=true) by decide)]
    by_cases h6:60≤(allJ s).length
    ·rw [if_pos h6]
     repeat' (first|refine zsr ?_|(refine zhm fun hb=>?_;try exact zab)|refine zg2 ?_ ?_|refine zln fun _=>?_|refine zop ?_|refine kc (c1) rfl rfl ?_|refine kc (c2) rfl rfl ?_|refine kc (c4) rfl rfl ?_|(refine km [] (c3) rfl rfl (fun i hi=>?_);(try dsimp only at hi))|fail)
     show AWp _ _ _ _
     refine Qac ?_
     apply Qab
     exact zm () [] trivial zae zae zae
    ·rw [if_neg h6]
     have hql:s.queue.length≤(allJ s).length:=by simp [allJ]
     have hqe:=Qak s.queue
     have c5:=Qpj (j:=j) hk.topo hk.up hk.lic hv (hm.mono (m:=1000000000) (by omega))
     cases he:(earO (Qhm s) j 0).isSome with
     | false=>
      rw [he] at c5
      rw [if_neg (show ¬(false=true) by decide)]
      repeat' (first|refine zsr ?_|(refine zhm fun hb=>?_;try exact zab)|refine zg2 ?_ ?_|refine zln fun _=>?_|refine zop ?_|refine kc (c1) rfl rfl ?_|refine kc (c2) rfl rfl ?_|refine kc (c4) rfl rfl ?_|refine kc (c5) rfl rfl ?_|(refine km [] (c3) rfl rfl (fun i hi=>?_);(try dsimp only at hi))|fail)
      show AWp _ _ _ _
      refine Qac ?_
      apply Qab
      exact zm () [] trivial zae zae zae
     | true=>
      rw [he] at c5
      rw [if_pos rfl]
      have hsm:=QgX (j:=j) hm (by omega)
      have c7:=Qc1 (s:=subm s j) hsm ⟨Qsu hk.jobs hv (by rw [ha];decide) h6,hk.depth⟩
      rw [Qxr] at c7
      repeat' (first|(refine Qaj 13 39 rfl ?_)|refine zsr ?_|(refine zhm fun hb=>?_;try exact zab)|refine zg2 ?_ ?_|refine zln fun _=>?_|refine zop ?_|refine kc (c1) rfl rfl ?_|refine kc (c2) rfl rfl ?_|refine kc (c4) rfl rfl ?_|refine kc (c5) rfl rfl ?_|(refine km [] (c3) rfl rfl (fun i hi=>?_);(try dsimp only at hi))|(refine km [] (QpU hm) rfl rfl (fun i hi=>?_);(try dsimp only at hi))|(refine kn [1039,2039] (c7) rfl rfl (fun i hi=>?_);(try dsimp only at hi))|fail)
      show AWp _ _ _ _
      refine Qav 47 rfl ?_
      show AWp _ _ _ _
      refine Qav 1047 rfl ?_
      refine Qac ?_
      apply Qab
      exact zm () [] trivial zae zae zae
theorem Qj1 {s:State} {j:Job} (hs:Small 1048576 s):∀s',(QcL s j).1=some s'→Small 1048576 s':=fun s' h=>by
 unfold QcL at h
 split at h
 ·rename_i h1
  have hk:=Qgd h1.1
  have hal:=hk.jobs.len
  have hql:s.queue.length≤(allJ s).length:=by simp [allJ]
  split at h
  ·cases h
  ·rename_i h2
   split at h
   ·cases h
   ·rename_i h3
    split at h
    ·cases h
     exact Qdw ⟨Qsu hk.jobs h1.2 h2 h3,hk.depth⟩ (QgX hs (by omega)) (by have:=QfI h1.1;simp only [subm];omega)
    ·cases h
 ·cases h
end Go.Proofs.YtelbahebpmkfjaaGreat
