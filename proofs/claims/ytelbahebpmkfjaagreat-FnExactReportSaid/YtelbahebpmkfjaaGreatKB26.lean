/-
  Copies of states of which only some rows are the caller's own.
-/
import Derived.Test.YtelbahebpmkfjaaGreatKB7
import Derived.Test.YtelbahebpmkfjaaGreatKB24
import Derived.Test.YtelbahebpmkfjaaGreatKB28
import Derived.Test.YtelbahebpmkfjaaGreatKB6
import Derived.Test.YtelbahebpmkfjaaGreatKB18
set_option maxRecDepth 100000
set_option maxHeartbeats 16000000
namespace Go.Proofs.YtelbahebpmkfjaaGreat
open Go Go.RowKit
theorem Qxu {ι:Type} {P:Program} {f:FuncId} {args:List AV} {obs:List (Nat×AO)} {ok q:ι→Prop} {rs:ι→List AV} {obs' rob:ι→List (Nat×AO)} (h:MCalls P f args obs ok rs obs' rob) (hq:∀i,ok i→q i):MCalls P f args obs (fun i=>ok i∧q i) rs obs' rob:=by
 refine ⟨⟨h.1.1,fun i hi=>h.1.2 i hi.1⟩,fun w Zp eh us hm hk hs=>?_⟩
 obtain ⟨h1,h2⟩:=h.2 w Zp eh us hm hk hs
 exact ⟨h1,h2.mono fun e w' ⟨i,v,en,⟨hi,x⟩,r⟩=>⟨i,v,en,⟨⟨hi,hq i hi⟩,x⟩,r⟩⟩
attribute [local irreducible] AWp Qat OpOk ACalls ChA QsOk MCalls NCalls EnC PY
theorem QuX {s:State} (h:Small 9223372036854775807 s) (hS:¬Small 1048576 s):MCalls Tryz.prog 15 [QaA s,.d (.n .i64 1048576)] [] (fun y:Int=>((-1≤y∧y≤1048576)∧(0≤y→Small 1048576 s))∧y<0) (fun y=>[.d (.n .i64 y)]) (fun _=>[]) (fun _=>[]):=Qxu (Qc7 h) (q:=fun i=>i<0) (fun i hi=>by
 rcases Int.lt_or_le i 0 with h1|h1
 ·exact h1
 ·exact absurd (hi.2 h1) hS)
theorem Qi3 {s:State} (hs:Small 100000000 s):DC Tryz.prog 78 [QaA s] [QaA s]:=dc_a (Qbv hs)
theorem QiQ {s:State} (hs:Small 100000000 s):MCalls Tryz.prog 70 [QaA s] [] (fun _:Unit=>True) (fun _=>[.agg (Qdc s 0 1)]) (fun _=>[]) (fun _=>[(0,.row 148 (runE s.runs) false),(1,.row 150 (endE s.ends) true)]):=by
 refine Qag tt Tryz.func70 rfl rfl rfl trivial (fun _ _=>⟨trivial,trivial⟩) (fun w0 Z O=>?_)
 have hl:=Qah s.runs
 have h1:=hs.par;have h2:=hs.nod;have h3:=hs.up;have h4:=hs.que;have h5:=hs.run;have h6:=hs.end'
 repeat' (first|(refine Qaj 2 6 rfl ?_)|(refine Qaj 2 11 rfl ?_)|(refine Qaj 3 18 rfl ?_)|(refine Qaj 4 23 rfl ?_)|refine zst ?_|(refine zhm fun hb=>?_;try exact zab)|refine zdr ?_|(apply zch;exact zcg)|refine HopS.mk fun w0 Z O=>?_|exact zhk|refine zg3 ?_ ?_|refine zln fun _=>?_|refine zop ?_|fail)
 refine Qae (fun (k:Nat)=>⟨54,[(1,.ptr 1 0),(2,.ptr 2 0),(3,.row 28),(30,.d (.sl (runE s.runs))),(31,.d (.n .i64 (s.runs.length:Nat))),(32,.d (.n .i64 k))],[(28,.row 148 (runE (s.runs.take k)) true),(1,.box 43 (Qbw s)),(2,.box 43 [.nil,.nil,.nil,.d (.n .i64 0),.d (.n .i64 0),.d (.n .i64 0),.d (.n .i64 0),.d (.n .i64 0),.nil,.nil,.nil])]⟩) (fun k=>k≤s.runs.length) (fun k=>s.runs.length - k) 0 (by exact Nat.zero_le _) ?_ ?_
 ·exact ⟨rfl,zae,zae,rfl⟩
 ·intro k hk
  have hd2:(runE (s.runs.take k)).length=k:=by rw [Qah,List.length_take];omega
  by_cases hk':k<s.runs.length
  ·have hn:=hs.rno k hk'
   repeat' (first|refine zst ?_|(refine zhm fun hb=>?_;try exact zab)|refine zdr ?_|(apply zch;exact zcg)|refine HopS.mk fun w0 Z O=>?_|exact zhk|refine zg3 ?_ ?_|(apply Qcj;first|(refine Qdr rfl rfl rfl ⟨rfl,rfl,rfl⟩ rfl rfl rfl rfl rfl rfl rfl rfl (QaG fun _=>rfl) rfl rfl rfl rfl rfl ?_)|(refine QbC rfl rfl rfl rfl rfl rfl rfl rfl ⟨rfl,rfl,rfl⟩ hd2 (rfl:_=1) (by omega) rfl rfl ?_))|refine zln fun _=>?_|refine zop ?_|fail)
   refine ⟨k+1,by omega,by omega,?_⟩
   refine ⟨rfl,?_,?_,rfl⟩
   repeat'(first|apply And.intro|exact ze0|refine ze1 ?_|refine zei ?_ ?_|exact rfl|trivial)
   all_goals exact Stop.mk (by first|rfl|exact Qdd hk')
  ·obtain rfl:k=s.runs.length:=by omega
   repeat' (first|refine zsr ?_|(refine zhm fun hb=>?_;try exact zab)|refine zdr ?_|(apply zch;exact zcg)|refine HopS.mk fun w0 Z O=>?_|exact zhk|refine zg3 ?_ ?_|refine zln fun _=>?_|refine zop ?_|fail)
   show AWp _ _ _ _
   refine Qc5 28 rfl ?_
   show AWp _ _ _ _
   refine Qac ?_
   apply Qab
   refine zm () [28,48] trivial ?_ ?_ ?_
   repeat'(first|apply And.intro|exact ze0|refine ze1 ?_|refine zei ?_ ?_|exact rfl|trivial)
   all_goals exact Stop.mk (by first|rfl|rw [List.take_length])
@[reducible] def QvU (s:State) (q0 q1 q2:Nat):List AV:=[.d (.sl (intE s.topo.parents)),.d (.sl (QaD s.topo.nodes)),.d (.sl (Qaw s.up)),.d (.n .i64 s.lic.a),.d (.n .i64 s.lic.b),.d (.n .i64 s.lic.c),.d (.n .i64 s.depth),.d (.n .i64 s.now),.row q0,.row q1,.row q2]
@[reducible] def QvR (s:State) (q0:Nat):List AV:=[.d (.sl (intE s.topo.parents)),.d (.sl (QaD s.topo.nodes)),.d (.sl (Qaw s.up)),.d (.n .i64 s.lic.a),.d (.n .i64 s.lic.b),.d (.n .i64 s.lic.c),.d (.n .i64 s.depth),.d (.n .i64 s.now),.row q0,.d (.sl (runE s.runs)),.d (.sl (endE s.ends))]
theorem QpU {s:State} (hs:Small 100000000 s):MCalls Tryz.prog 70 [QaA s] [] (fun _:Unit=>True) (fun _=>[.agg (QvU s 0 1 2)]) (fun _=>[]) (fun _=>[(0,.row 78 (jobE s.queue) true),(1,.row 148 (runE s.runs) false),(2,.row 150 (endE s.ends) true)]):=by
 refine Qag tt Tryz.func70 rfl rfl rfl trivial (fun _ _=>⟨trivial,trivial⟩) (fun w0 Z O=>?_)
 have hl:=Qah s.runs
 have h1:=hs.par;have h2:=hs.nod;have h3:=hs.up;have h4:=hs.que;have h5:=hs.run;have h6:=hs.end'
 repeat' (first|(refine Qaj 2 6 rfl ?_)|(refine Qaj 2 11 rfl ?_)|(refine Qaj 3 18 rfl ?_)|refine zst ?_|(refine zhm fun hb=>?_;try exact zab)|refine zdr ?_|(apply zch;exact zcg)|refine HopS.mk fun w0 Z O=>?_|exact zhk|refine zg3 ?_ ?_|refine zln fun _=>?_|refine zop ?_|fail)
 refine Qae (fun (k:Nat)=>⟨54,[(1,.ptr 1 0),(2,.ptr 2 0),(3,.row 28),(30,.d (.sl (runE s.runs))),(31,.d (.n .i64 (s.runs.length:Nat))),(32,.d (.n .i64 k))],[(28,.row 148 (runE (s.runs.take k)) true),(23,.row 78 (jobE s.queue) true),(1,.box 43 (QvR s 23)),(2,.box 43 [.nil,.nil,.nil,.d (.n .i64 0),.d (.n .i64 0),.d (.n .i64 0),.d (.n .i64 0),.d (.n .i64 0),.nil,.nil,.nil])]⟩) (fun k=>k≤s.runs.length) (fun k=>s.runs.length - k) 0 (by exact Nat.zero_le _) ?_ ?_
 ·exact ⟨rfl,zae,zae,rfl⟩
 ·intro k hk
  have hd2:(runE (s.runs.take k)).length=k:=by rw [Qah,List.length_take];omega
  by_cases hk':k<s.runs.length
  ·have hn:=hs.rno k hk'
   repeat' (first|refine zst ?_|(refine zhm fun hb=>?_;try exact zab)|refine zdr ?_|(apply zch;exact zcg)|refine HopS.mk fun w0 Z O=>?_|exact zhk|refine zg3 ?_ ?_|(apply Qcj;first|(refine Qdr rfl rfl rfl ⟨rfl,rfl,rfl⟩ rfl rfl rfl rfl rfl rfl rfl rfl (QaG fun _=>rfl) rfl rfl rfl rfl rfl ?_)|(refine QbC rfl rfl rfl rfl rfl rfl rfl rfl ⟨rfl,rfl,rfl⟩ hd2 (rfl:_=1) (by omega) rfl rfl ?_))|refine zln fun _=>?_|refine zop ?_|fail)
   refine ⟨k+1,by omega,by omega,?_⟩
   refine ⟨rfl,?_,?_,rfl⟩
   repeat'(first|apply And.intro|exact ze0|refine ze1 ?_|refine zei ?_ ?_|exact rfl|trivial)
   all_goals exact Stop.mk (by first|rfl|exact Qdd hk')
  ·obtain rfl:k=s.runs.length:=by omega
   repeat' (first|refine zsr ?_|(refine zhm fun hb=>?_;try exact zab)|refine zdr ?_|(apply zch;exact zcg)|refine HopS.mk fun w0 Z O=>?_|exact zhk|refine zg3 ?_ ?_|refine zln fun _=>?_|refine zop ?_|fail)
   show AWp _ _ _ _
   refine Qc5 28 rfl ?_
   show AWp _ _ _ _
   refine Qac ?_
   apply Qab
   refine zm () [23,28,48] trivial ?_ ?_ ?_
   repeat'(first|apply And.intro|exact ze0|refine ze1 ?_|refine zei ?_ ?_|exact rfl|trivial)
   all_goals exact Stop.mk (by first|rfl|rw [List.take_length])
end Go.Proofs.YtelbahebpmkfjaaGreat
namespace Go.Proofs.YtelbahebpmkfjaaGreat
open Go Go.RowKit
attribute [local irreducible] AWp Qat OpOk ACalls ChA QsOk MCalls NCalls EnC PY
@[reducible] def Qsb (s:State) (u q:AV) (q2:Nat):List AV:=[.d (.sl (intE s.topo.parents)),.d (.sl (QaD s.topo.nodes)),u,.d (.n .i64 s.lic.a),.d (.n .i64 s.lic.b),.d (.n .i64 s.lic.c),.d (.n .i64 s.depth),.d (.n .i64 s.now),q,.d (.sl (runE s.runs)),.row q2]
@[reducible] def QvZ (s:State) (u q:AV):List AV:=[.d (.sl (intE s.topo.parents)),.d (.sl (QaD s.topo.nodes)),u,.d (.n .i64 s.lic.a),.d (.n .i64 s.lic.b),.d (.n .i64 s.lic.c),.d (.n .i64 s.depth),.d (.n .i64 s.now),q,.d (.sl (runE s.runs)),.d (.sl (endE s.ends))]
theorem Qrd {s:State} (hs:Small 100000000 s):MCalls Tryz.prog 70 [QaA s] [] (fun _:Unit=>True) (fun _=>[.agg (Qsb s (.row 0) (.row 1) 2)]) (fun _=>[]) (fun _=>[(0,.row 4 (Qaw s.up) true),(1,.row 78 (jobE s.queue) true),(2,.row 150 (endE s.ends) true)]):=by
 refine Qag tt Tryz.func70 rfl rfl rfl trivial (fun _ _=>⟨trivial,trivial⟩) (fun w0 Z O=>?_)
 have hl:=Qah s.runs
 have h1:=hs.par;have h2:=hs.nod;have h3:=hs.up;have h4:=hs.que;have h5:=hs.run;have h6:=hs.end'
 repeat' (first|(refine Qaj 2 6 rfl ?_)|(refine Qaj 2 11 rfl ?_)|refine zst ?_|(refine zhm fun hb=>?_;try exact zab)|refine zdr ?_|(apply zch;exact zcg)|refine HopS.mk fun w0 Z O=>?_|exact zhk|refine zg3 ?_ ?_|refine zln fun _=>?_|refine zop ?_|fail)
 refine Qae (fun (k:Nat)=>⟨54,[(1,.ptr 1 0),(2,.ptr 2 0),(3,.row 28),(30,.d (.sl (runE s.runs))),(31,.d (.n .i64 (s.runs.length:Nat))),(32,.d (.n .i64 k))],[(28,.row 148 (runE (s.runs.take k)) true),(18,.row 4 (Qaw s.up) true),(23,.row 78 (jobE s.queue) true),(1,.box 43 (QvZ s (.row 18) (.row 23))),(2,.box 43 [.nil,.nil,.nil,.d (.n .i64 0),.d (.n .i64 0),.d (.n .i64 0),.d (.n .i64 0),.d (.n .i64 0),.nil,.nil,.nil])]⟩) (fun k=>k≤s.runs.length) (fun k=>s.runs.length - k) 0 (by exact Nat.zero_le _) ?_ ?_
 ·exact ⟨rfl,zae,zae,rfl⟩
 ·intro k hk
  have hd2:(runE (s.runs.take k)).length=k:=by rw [Qah,List.length_take];omega
  by_cases hk':k<s.runs.length
  ·have hn:=hs.rno k hk'
   repeat' (first|refine zst ?_|(refine zhm fun hb=>?_;try exact zab)|refine zdr ?_|(apply zch;exact zcg)|refine HopS.mk fun w0 Z O=>?_|exact zhk|refine zg3 ?_ ?_|(apply Qcj;first|(refine Qdr rfl rfl rfl ⟨rfl,rfl,rfl⟩ rfl rfl rfl rfl rfl rfl rfl rfl (QaG fun _=>rfl) rfl rfl rfl rfl rfl ?_)|(refine QbC rfl rfl rfl rfl rfl rfl rfl rfl ⟨rfl,rfl,rfl⟩ hd2 (rfl:_=1) (by omega) rfl rfl ?_))|refine zln fun _=>?_|refine zop ?_|fail)
   refine ⟨k+1,by omega,by omega,?_⟩
   refine ⟨rfl,?_,?_,rfl⟩
   repeat'(first|apply And.intro|exact ze0|refine ze1 ?_|refine zei ?_ ?_|exact rfl|trivial)
   all_goals exact Stop.mk (by first|rfl|exact Qdd hk')
  ·obtain rfl:k=s.runs.length:=by omega
   rw [List.take_length]
   repeat' (first|refine zsr ?_|(refine zhm fun hb=>?_;try exact zab)|refine zdr ?_|(apply zch;exact zcg)|refine HopS.mk fun w0 Z O=>?_|exact zhk|refine zg3 ?_ ?_|refine zln fun _=>?_|refine zop ?_|fail)
   show AWp _ _ _ _
   refine Qav 28 rfl ?_
   show AWp _ _ _ _
   refine Qac ?_
   apply Qab
   exact zm () [18,23,48] trivial zae zae zae
theorem QlN {s:State} (hs:Small 100000000 s):MCalls Tryz.prog 70 [QaA s] [] (fun _:Unit=>True) (fun _=>[.agg (Qsb s (.d (.sl (Qaw s.up))) (.d (.sl (jobE s.queue))) 0)]) (fun _=>[]) (fun _=>[(0,.row 150 (endE s.ends) true)]):=by
 refine Qag tt Tryz.func70 rfl rfl rfl trivial (fun _ _=>⟨trivial,trivial⟩) (fun w0 Z O=>?_)
 have hl:=Qah s.runs
 have h1:=hs.par;have h2:=hs.nod;have h3:=hs.up;have h4:=hs.que;have h5:=hs.run;have h6:=hs.end'
 repeat' (first|(refine Qaj 2 6 rfl ?_)|(refine Qaj 2 11 rfl ?_)|(refine Qaj 3 18 rfl ?_)|(refine Qaj 4 23 rfl ?_)|refine zst ?_|(refine zhm fun hb=>?_;try exact zab)|refine zdr ?_|(apply zch;exact zcg)|refine HopS.mk fun w0 Z O=>?_|exact zhk|refine zg3 ?_ ?_|refine zln fun _=>?_|refine zop ?_|fail)
 refine Qae (fun (k:Nat)=>⟨54,[(1,.ptr 1 0),(2,.ptr 2 0),(3,.row 28),(30,.d (.sl (runE s.runs))),(31,.d (.n .i64 (s.runs.length:Nat))),(32,.d (.n .i64 k))],[(28,.row 148 (runE (s.runs.take k)) true),(1,.box 43 (Qbw s)),(2,.box 43 [.nil,.nil,.nil,.d (.n .i64 0),.d (.n .i64 0),.d (.n .i64 0),.d (.n .i64 0),.d (.n .i64 0),.nil,.nil,.nil])]⟩) (fun k=>k≤s.runs.length) (fun k=>s.runs.length - k) 0 (by exact Nat.zero_le _) ?_ ?_
 ·exact ⟨rfl,zae,zae,rfl⟩
 ·intro k hk
  have hd2:(runE (s.runs.take k)).length=k:=by rw [Qah,List.length_take];omega
  by_cases hk':k<s.runs.length
  ·have hn:=hs.rno k hk'
   repeat' (first|refine zst ?_|(refine zhm fun hb=>?_;try exact zab)|refine zdr ?_|(apply zch;exact zcg)|refine HopS.mk fun w0 Z O=>?_|exact zhk|refine zg3 ?_ ?_|(apply Qcj;first|(refine Qdr rfl rfl rfl ⟨rfl,rfl,rfl⟩ rfl rfl rfl rfl rfl rfl rfl rfl (QaG fun _=>rfl) rfl rfl rfl rfl rfl ?_)|(refine QbC rfl rfl rfl rfl rfl rfl rfl rfl ⟨rfl,rfl,rfl⟩ hd2 (rfl:_=1) (by omega) rfl rfl ?_))|refine zln fun _=>?_|refine zop ?_|fail)
   refine ⟨k+1,by omega,by omega,?_⟩
   refine ⟨rfl,?_,?_,rfl⟩
   repeat'(first|apply And.intro|exact ze0|refine ze1 ?_|refine zei ?_ ?_|exact rfl|trivial)
   all_goals exact Stop.mk (by first|rfl|exact Qdd hk')
  ·obtain rfl:k=s.runs.length:=by omega
   rw [List.take_length]
   repeat' (first|refine zsr ?_|(refine zhm fun hb=>?_;try exact zab)|refine zdr ?_|(apply zch;exact zcg)|refine HopS.mk fun w0 Z O=>?_|exact zhk|refine zg3 ?_ ?_|refine zln fun _=>?_|refine zop ?_|fail)
   show AWp _ _ _ _
   refine Qav 28 rfl ?_
   show AWp _ _ _ _
   refine Qac ?_
   apply Qab
   exact zm () [48] trivial zae zae zae
theorem QhT {s:State} (hs:Small 100000000 s):MCalls Tryz.prog 78 [QaA s] [] (fun _:Unit=>True) (fun _=>[.agg (Qsb s (.row 0) (.row 1) 2)]) (fun _=>[]) (fun _=>[(0,.row 4 (Qaw s.up) true),(1,.row 78 (jobE s.queue) true),(2,.row 150 (endE s.ends) true)]):=by
 refine Qag tt Tryz.func78 rfl rfl rfl trivial (fun _ _=>⟨trivial,trivial⟩) (fun w0 Z O=>?_)
 have hl:=Qah s.runs
 have h1:=hs.par;have h2:=hs.nod;have h3:=hs.up;have h4:=hs.que;have h5:=hs.run;have h6:=hs.end'
 repeat' (first|refine zst ?_|(refine zhm fun hb=>?_;try exact zab)|refine zg2 ?_ ?_|refine zln fun _=>?_|refine zop ?_|(refine km [] (Qe6 (t:=s.topo) (by omega) (by omega)) rfl rfl (fun i hi=>?_);(try dsimp only at hi))|fail)
 refine QdW 3 3 148 rfl rfl rfl ?_
 refine Qae (fun (k:Nat)=>⟨41,[(1,.ptr 1 0),(2,.ptr 2 0),(3,.row 3),(19,.d (.sl (runE s.runs))),(20,.d (.n .i64 (s.runs.length:Nat))),(21,.d (.n .i64 k))],[(3,.row 148 (runE (s.runs.take k)) true),(12,.row 4 (Qaw s.up) true),(16,.row 78 (jobE s.queue) true),(1,.box 43 (QvZ s (.row 12) (.row 16))),(2,.box 43 [.nil,.nil,.nil,.d (.n .i64 0),.d (.n .i64 0),.d (.n .i64 0),.d (.n .i64 0),.d (.n .i64 0),.nil,.nil,.nil])]⟩) (fun k=>k≤s.runs.length) (fun k=>s.runs.length - k) 0 (by exact Nat.zero_le _) ?_ ?_
 ·exact ⟨rfl,zae,zae,rfl⟩
 ·intro k hk
  have hd2:(runE (s.runs.take k)).length=k:=by rw [Qah,List.length_take];omega
  by_cases hk':k<s.runs.length
  ·have hn:=hs.rno k hk'
   repeat' (first|refine zst ?_|(refine zhm fun hb=>?_;try exact zab)|refine zg2 ?_ ?_|(apply Qcj;first|(refine Qdr rfl rfl rfl ⟨rfl,rfl,rfl⟩ rfl rfl rfl rfl rfl rfl rfl rfl (QaG fun _=>rfl) rfl rfl rfl rfl rfl ?_)|(refine QbC rfl rfl rfl rfl rfl rfl rfl rfl ⟨rfl,rfl,rfl⟩ hd2 (rfl:_=1) (by omega) rfl rfl ?_))|refine zln fun _=>?_|refine zop ?_|refine kc (QdY (l:=(nth s.runs k).nodes) (by omega)) rfl rfl ?_|fail)
   refine ⟨k+1,by omega,by omega,?_⟩
   refine ⟨rfl,?_,?_,rfl⟩
   repeat'(first|apply And.intro|exact ze0|refine ze1 ?_|refine zei ?_ ?_|exact rfl|trivial)
   all_goals exact Stop.mk (by first|rfl|exact Qdd hk')
  ·obtain rfl:k=s.runs.length:=by omega
   rw [List.take_length]
   repeat' (first|refine zsr ?_|(refine zhm fun hb=>?_;try exact zab)|refine zg2 ?_ ?_|refine zln fun _=>?_|refine zop ?_|fail)
   show AWp _ _ _ _
   refine Qav 3 rfl ?_
   show AWp _ _ _ _
   refine Qac ?_
   apply Qab
   exact zm () [12,16,38] trivial zae zae zae
theorem Qh3 {s:State} (hs:Small 100000000 s):MCalls Tryz.prog 78 [QaA s] [] (fun _:Unit=>True) (fun _=>[.agg (Qsb s (.d (.sl (Qaw s.up))) (.row 0) 1)]) (fun _=>[]) (fun _=>[(0,.row 78 (jobE s.queue) true),(1,.row 150 (endE s.ends) true)]):=by
 refine Qag tt Tryz.func78 rfl rfl rfl trivial (fun _ _=>⟨trivial,trivial⟩) (fun w0 Z O=>?_)
 have hl:=Qah s.runs
 have h1:=hs.par;have h2:=hs.nod;have h3:=hs.up;have h4:=hs.que;have h5:=hs.run;have h6:=hs.end'
 repeat' (first|(refine Qaj 3 12 rfl ?_)|refine zst ?_|(refine zhm fun hb=>?_;try exact zab)|refine zg2 ?_ ?_|refine zln fun _=>?_|refine zop ?_|(refine km [] (Qe6 (t:=s.topo) (by omega) (by omega)) rfl rfl (fun i hi=>?_);(try dsimp only at hi))|fail)
 refine QdW 3 3 148 rfl rfl rfl ?_
 refine Qae (fun (k:Nat)=>⟨41,[(1,.ptr 1 0),(2,.ptr 2 0),(3,.row 3),(19,.d (.sl (runE s.runs))),(20,.d (.n .i64 (s.runs.length:Nat))),(21,.d (.n .i64 k))],[(3,.row 148 (runE (s.runs.take k)) true),(16,.row 78 (jobE s.queue) true),(1,.box 43 (QvZ s (.d (.sl (Qaw s.up))) (.row 16))),(2,.box 43 [.nil,.nil,.nil,.d (.n .i64 0),.d (.n .i64 0),.d (.n .i64 0),.d (.n .i64 0),.d (.n .i64 0),.nil,.nil,.nil])]⟩) (fun k=>k≤s.runs.length) (fun k=>s.runs.length - k) 0 (by exact Nat.zero_le _) ?_ ?_
 ·exact ⟨rfl,zae,zae,rfl⟩
 ·intro k hk
  have hd2:(runE (s.runs.take k)).length=k:=by rw [Qah,List.length_take];omega
  by_cases hk':k<s.runs.length
  ·have hn:=hs.rno k hk'
   repeat' (first|refine zst ?_|(refine zhm fun hb=>?_;try exact zab)|refine zg2 ?_ ?_|(apply Qcj;first|(refine Qdr rfl rfl rfl ⟨rfl,rfl,rfl⟩ rfl rfl rfl rfl rfl rfl rfl rfl (QaG fun _=>rfl) rfl rfl rfl rfl rfl ?_)|(refine QbC rfl rfl rfl rfl rfl rfl rfl rfl ⟨rfl,rfl,rfl⟩ hd2 (rfl:_=1) (by omega) rfl rfl ?_))|refine zln fun _=>?_|refine zop ?_|refine kc (QdY (l:=(nth s.runs k).nodes) (by omega)) rfl rfl ?_|fail)
   refine ⟨k+1,by omega,by omega,?_⟩
   refine ⟨rfl,?_,?_,rfl⟩
   repeat'(first|apply And.intro|exact ze0|refine ze1 ?_|refine zei ?_ ?_|exact rfl|trivial)
   all_goals exact Stop.mk (by first|rfl|exact Qdd hk')
  ·obtain rfl:k=s.runs.length:=by omega
   rw [List.take_length]
   repeat' (first|refine zsr ?_|(refine zhm fun hb=>?_;try exact zab)|refine zg2 ?_ ?_|refine zln fun _=>?_|refine zop ?_|fail)
   show AWp _ _ _ _
   refine Qav 3 rfl ?_
   show AWp _ _ _ _
   refine Qac ?_
   apply Qab
   exact zm () [16,38] trivial zae zae zae
end Go.Proofs.YtelbahebpmkfjaaGreat
