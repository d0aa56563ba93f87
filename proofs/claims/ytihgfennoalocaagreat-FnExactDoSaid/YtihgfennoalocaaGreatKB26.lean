/-
  Copies of states of which only some rows are the caller's own.
-/
import Derived.Test.YtihgfennoalocaaGreatKB24
import Derived.Test.YtihgfennoalocaaGreatKB28
set_option maxRecDepth 100000
set_option maxHeartbeats 16000000
namespace Go.Proofs.YtihgfennoalocaaGreat
open Go Go.RowKit Tryz
section
attribute [local irreducible] AWp QJ OpOk ACalls ChA QsOk MCalls NCalls EnC PY
theorem Qdh{s:Qd}(hs:Ql 100000000 s):DC Tryz.prog 89 [Qx s] [Qx s]:=dc_a (Jr hs)
theorem QgN{s:Qd}(hs:Ql 100000000 s):DC Tryz.prog 82 [Qx s] [Qx s]:=dc_a (Qhr hs)
theorem Qdn{s:Qd}(hs:Ql 100000000 s):MCalls Tryz.prog 82 [Qx s] [] (fun _:Unit=>True) (fun _=>[.agg (Wu s 0 1)]) (fun _=>[]) (fun _=>[(0,.row 170 (runE s.runs) false),(1,.row 172 (endE s.ends) true)]):=by
 refine zMC func82 fun w0 Z O=>?_
 have hl:=Qf s.runs
 have h1:=hs.par;have h2:=hs.nod;have h3:=hs.up;have h4:=hs.que;have h5:=hs.run;have h6:=hs.end'
 repeat'(first|(refine zhm fun hb=>?_;try exact zab)|(refine Qi 2 6 rfl ?_)|(refine Qi 2 11 rfl ?_)|(refine Qi 3 18 rfl ?_)|(refine Qi 4 23 rfl ?_)|refine Qe ?_|(apply zch;exact zcg)|exact zhk|refine zg3 ?_ ?_|intro _|fail)
 refine Qa (fun(k:Nat)=>⟨54,[(1,.ptr 1 0),(2,.ptr 2 0),(3,.row 28),(30,zL (runE s.runs)),(31,zI (s.runs.length:Nat)),(32,zI k)],[(28,.row 170 (runE (s.runs.take k)) true),(1,.box 49 (JB s)),(2,.box 49 [.nil,.nil,.nil,zI 0,zI 0,zI 0,zI 0,zI 0,.nil,.nil,.nil])]⟩) (fun k=>k<=s.runs.length) (fun k=>s.runs.length-k) 0 (by exact Xab _) ?_ ?_
 ·exact zll
 ·intro k hk
  have hd2:(runE (s.runs.take k)).length=k:=by rw[Qf,Xai];omega
  by_cases hk':k<s.runs.length
  ·have hn:=hs.rno k hk'
   repeat'(first|(refine zhm fun hb=>?_;try exact zab)|refine zUtd ?_|(apply zch;exact zcg)|exact zhk|refine zg3 ?_ ?_|(apply YE;first|(refine Vd rfl rfl rfl ⟨rfl,rfl,rfl⟩ rfl rfl rfl rfl rfl rfl rfl rfl (QN fun _=>rfl) rfl rfl rfl rfl rfl ?_)|(refine JX rfl rfl rfl rfl rfl rfl rfl rfl ⟨rfl,rfl,rfl⟩ hd2 (rfl:_=1) (by omega) rfl rfl ?_))|refine zln fun _=>?_|refine zop ?_|intro _|fail)
   refine⟨k+1,by omega,by omega,?_⟩
   refine⟨rfl,?_,?_,rfl⟩
   repeat'(first|exact ze3|refine ze2 ?_ ?_|refine ze4 ?_|exact ze5|fail)
   all_goals exact zp (by first|rfl|exact Ww hk')
  ·obtain rfl:k=s.runs.length:=by omega
   repeat'(first|(refine zhm fun hb=>?_;try exact zab)|refine Q7 ?_|(apply zch;exact zcg)|exact zhk|refine zg3 ?_ ?_|intro _|fail)
   show AWp _ _ _ _
   refine Wm 28 rfl ?_
   show AWp _ _ _ _
   refine QD ?_
   apply Qt
   refine zm () [28,48] trivial ?_ ?_ ?_
   repeat'(first|exact ze3|refine ze2 ?_ ?_|refine ze4 ?_|exact ze5|fail)
   all_goals exact zp (by first|rfl|rw[Xap])
@[reducible] def Qst (s:Qd) (q0 q1 q2:Nat):List AV:=[zL (intE s.topo.parents),zL (Qz s.topo.nodes),zL (Qq s.up),zI s.lic.a,zI s.lic.b,zI s.lic.c,zI s.depth,zI s.now,.row q0,.row q1,.row q2]
@[reducible] def Qsq (s:Qd) (q0:Nat):List AV:=[zL (intE s.topo.parents),zL (Qz s.topo.nodes),zL (Qq s.up),zI s.lic.a,zI s.lic.b,zI s.lic.c,zI s.depth,zI s.now,.row q0,zL (runE s.runs),zL (endE s.ends)]
theorem QmE{s:Qd}(hs:Ql 100000000 s):MCalls Tryz.prog 82 [Qx s] [] (fun _:Unit=>True) (fun _=>[.agg (Qst s 0 1 2)]) (fun _=>[]) (fun _=>[(0,.row 72 (jobE s.queue) true),(1,.row 170 (runE s.runs) false),(2,.row 172 (endE s.ends) true)]):=by
 refine zMC func82 fun w0 Z O=>?_
 have hl:=Qf s.runs
 have h1:=hs.par;have h2:=hs.nod;have h3:=hs.up;have h4:=hs.que;have h5:=hs.run;have h6:=hs.end'
 repeat'(first|(refine zhm fun hb=>?_;try exact zab)|(refine Qi 2 6 rfl ?_)|(refine Qi 2 11 rfl ?_)|(refine Qi 3 18 rfl ?_)|refine Qe ?_|(apply zch;exact zcg)|exact zhk|refine zg3 ?_ ?_|intro _|fail)
 refine Qa (fun(k:Nat)=>⟨54,[(1,.ptr 1 0),(2,.ptr 2 0),(3,.row 28),(30,zL (runE s.runs)),(31,zI (s.runs.length:Nat)),(32,zI k)],[(28,.row 170 (runE (s.runs.take k)) true),(23,.row 72 (jobE s.queue) true),(1,.box 49 (Qsq s 23)),(2,.box 49 [.nil,.nil,.nil,zI 0,zI 0,zI 0,zI 0,zI 0,.nil,.nil,.nil])]⟩) (fun k=>k<=s.runs.length) (fun k=>s.runs.length-k) 0 (by exact Xab _) ?_ ?_
 ·exact zll
 ·intro k hk
  have hd2:(runE (s.runs.take k)).length=k:=by rw[Qf,Xai];omega
  by_cases hk':k<s.runs.length
  ·have hn:=hs.rno k hk'
   repeat'(first|(refine zhm fun hb=>?_;try exact zab)|refine zUtd ?_|(apply zch;exact zcg)|exact zhk|refine zg3 ?_ ?_|(apply YE;first|(refine Vd rfl rfl rfl ⟨rfl,rfl,rfl⟩ rfl rfl rfl rfl rfl rfl rfl rfl (QN fun _=>rfl) rfl rfl rfl rfl rfl ?_)|(refine JX rfl rfl rfl rfl rfl rfl rfl rfl ⟨rfl,rfl,rfl⟩ hd2 (rfl:_=1) (by omega) rfl rfl ?_))|refine zln fun _=>?_|refine zop ?_|intro _|fail)
   refine⟨k+1,by omega,by omega,?_⟩
   refine⟨rfl,?_,?_,rfl⟩
   repeat'(first|exact ze3|refine ze2 ?_ ?_|refine ze4 ?_|exact ze5|fail)
   all_goals exact zp (by first|rfl|exact Ww hk')
  ·obtain rfl:k=s.runs.length:=by omega
   repeat'(first|(refine zhm fun hb=>?_;try exact zab)|refine Q7 ?_|(apply zch;exact zcg)|exact zhk|refine zg3 ?_ ?_|intro _|fail)
   show AWp _ _ _ _
   refine Wm 28 rfl ?_
   show AWp _ _ _ _
   refine QD ?_
   apply Qt
   refine zm () [23,28,48] trivial ?_ ?_ ?_
   repeat'(first|exact ze3|refine ze2 ?_ ?_|refine ze4 ?_|exact ze5|fail)
   all_goals exact zp (by first|rfl|rw[Xap])
@[reducible] def QoD (s:Qd) (u q:AV) (q2:Nat):List AV:=[zL (intE s.topo.parents),zL (Qz s.topo.nodes),u,zI s.lic.a,zI s.lic.b,zI s.lic.c,zI s.depth,zI s.now,q,zL (runE s.runs),.row q2]
@[reducible] def QtI (s:Qd) (u q:AV):List AV:=[zL (intE s.topo.parents),zL (Qz s.topo.nodes),u,zI s.lic.a,zI s.lic.b,zI s.lic.c,zI s.depth,zI s.now,q,zL (runE s.runs),zL (endE s.ends)]
theorem Qm8{s:Qd}(hs:Ql 100000000 s):MCalls Tryz.prog 82 [Qx s] [] (fun _:Unit=>True) (fun _=>[.agg (QoD s (.row 0) (.row 1) 2)]) (fun _=>[]) (fun _=>[(0,.row 4 (Qq s.up) true),(1,.row 72 (jobE s.queue) true),(2,.row 172 (endE s.ends) true)]):=by
 refine zMC func82 fun w0 Z O=>?_
 have hl:=Qf s.runs
 have h1:=hs.par;have h2:=hs.nod;have h3:=hs.up;have h4:=hs.que;have h5:=hs.run;have h6:=hs.end'
 repeat'(first|(refine zhm fun hb=>?_;try exact zab)|(refine Qi 2 6 rfl ?_)|(refine Qi 2 11 rfl ?_)|refine Qe ?_|(apply zch;exact zcg)|exact zhk|refine zg3 ?_ ?_|intro _|fail)
 refine Qa (fun(k:Nat)=>⟨54,[(1,.ptr 1 0),(2,.ptr 2 0),(3,.row 28),(30,zL (runE s.runs)),(31,zI (s.runs.length:Nat)),(32,zI k)],[(28,.row 170 (runE (s.runs.take k)) true),(18,.row 4 (Qq s.up) true),(23,.row 72 (jobE s.queue) true),(1,.box 49 (QtI s (.row 18) (.row 23))),(2,.box 49 [.nil,.nil,.nil,zI 0,zI 0,zI 0,zI 0,zI 0,.nil,.nil,.nil])]⟩) (fun k=>k<=s.runs.length) (fun k=>s.runs.length-k) 0 (by exact Xab _) ?_ ?_
 ·exact zll
 ·intro k hk
  have hd2:(runE (s.runs.take k)).length=k:=by rw[Qf,Xai];omega
  by_cases hk':k<s.runs.length
  ·have hn:=hs.rno k hk'
   repeat'(first|(refine zhm fun hb=>?_;try exact zab)|refine zUtd ?_|(apply zch;exact zcg)|exact zhk|refine zg3 ?_ ?_|(apply YE;first|(refine Vd rfl rfl rfl ⟨rfl,rfl,rfl⟩ rfl rfl rfl rfl rfl rfl rfl rfl (QN fun _=>rfl) rfl rfl rfl rfl rfl ?_)|(refine JX rfl rfl rfl rfl rfl rfl rfl rfl ⟨rfl,rfl,rfl⟩ hd2 (rfl:_=1) (by omega) rfl rfl ?_))|refine zln fun _=>?_|refine zop ?_|intro _|fail)
   refine⟨k+1,by omega,by omega,?_⟩
   refine⟨rfl,?_,?_,rfl⟩
   repeat'(first|exact ze3|refine ze2 ?_ ?_|refine ze4 ?_|exact ze5|fail)
   all_goals exact zp (by first|rfl|exact Ww hk')
  ·obtain rfl:k=s.runs.length:=by omega
   rw[Xap]
   repeat'(first|(refine zhm fun hb=>?_;try exact zab)|refine Q7 ?_|(apply zch;exact zcg)|exact zhk|refine zg3 ?_ ?_|intro _|fail)
   show AWp _ _ _ _
   refine Qs 28 rfl ?_
   show AWp _ _ _ _
   refine QD ?_
   apply Qt
   exact zm () [18,23,48] trivial zae zae zae
theorem QhM{s:Qd}(hs:Ql 100000000 s):MCalls Tryz.prog 82 [Qx s] [] (fun _:Unit=>True) (fun _=>[.agg (QoD s (zL (Qq s.up)) (zL (jobE s.queue)) 0)]) (fun _=>[]) (fun _=>[(0,.row 172 (endE s.ends) true)]):=by
 refine zMC func82 fun w0 Z O=>?_
 have hl:=Qf s.runs
 have h1:=hs.par;have h2:=hs.nod;have h3:=hs.up;have h4:=hs.que;have h5:=hs.run;have h6:=hs.end'
 repeat'(first|(refine zhm fun hb=>?_;try exact zab)|(refine Qi 2 6 rfl ?_)|(refine Qi 2 11 rfl ?_)|(refine Qi 3 18 rfl ?_)|(refine Qi 4 23 rfl ?_)|refine Qe ?_|(apply zch;exact zcg)|exact zhk|refine zg3 ?_ ?_|intro _|fail)
 refine Qa (fun(k:Nat)=>⟨54,[(1,.ptr 1 0),(2,.ptr 2 0),(3,.row 28),(30,zL (runE s.runs)),(31,zI (s.runs.length:Nat)),(32,zI k)],[(28,.row 170 (runE (s.runs.take k)) true),(1,.box 49 (JB s)),(2,.box 49 [.nil,.nil,.nil,zI 0,zI 0,zI 0,zI 0,zI 0,.nil,.nil,.nil])]⟩) (fun k=>k<=s.runs.length) (fun k=>s.runs.length-k) 0 (by exact Xab _) ?_ ?_
 ·exact zll
 ·intro k hk
  have hd2:(runE (s.runs.take k)).length=k:=by rw[Qf,Xai];omega
  by_cases hk':k<s.runs.length
  ·have hn:=hs.rno k hk'
   repeat'(first|(refine zhm fun hb=>?_;try exact zab)|refine zUtd ?_|(apply zch;exact zcg)|exact zhk|refine zg3 ?_ ?_|(apply YE;first|(refine Vd rfl rfl rfl ⟨rfl,rfl,rfl⟩ rfl rfl rfl rfl rfl rfl rfl rfl (QN fun _=>rfl) rfl rfl rfl rfl rfl ?_)|(refine JX rfl rfl rfl rfl rfl rfl rfl rfl ⟨rfl,rfl,rfl⟩ hd2 (rfl:_=1) (by omega) rfl rfl ?_))|refine zln fun _=>?_|refine zop ?_|intro _|fail)
   refine⟨k+1,by omega,by omega,?_⟩
   refine⟨rfl,?_,?_,rfl⟩
   repeat'(first|exact ze3|refine ze2 ?_ ?_|refine ze4 ?_|exact ze5|fail)
   all_goals exact zp (by first|rfl|exact Ww hk')
  ·obtain rfl:k=s.runs.length:=by omega
   rw[Xap]
   repeat'(first|(refine zhm fun hb=>?_;try exact zab)|refine Q7 ?_|(apply zch;exact zcg)|exact zhk|refine zg3 ?_ ?_|intro _|fail)
   show AWp _ _ _ _
   refine Qs 28 rfl ?_
   show AWp _ _ _ _
   refine QD ?_
   apply Qt
   exact zm () [48] trivial zae zae zae
theorem QdT{s:Qd}(hs:Ql 100000000 s):MCalls Tryz.prog 89 [Qx s] [] (fun _:Unit=>True) (fun _=>[.agg (QoD s (.row 0) (.row 1) 2)]) (fun _=>[]) (fun _=>[(0,.row 4 (Qq s.up) true),(1,.row 72 (jobE s.queue) true),(2,.row 172 (endE s.ends) true)]):=by
 refine zMC func89 fun w0 Z O=>?_
 have hl:=Qf s.runs
 have h1:=hs.par;have h2:=hs.nod;have h3:=hs.up;have h4:=hs.que;have h5:=hs.run;have h6:=hs.end'
 repeat'(first|(refine zhm fun hb=>?_;try exact zab)|refine zUtp ?_|refine zg2 ?_ ?_|refine kmu (Xj (t:=s.topo) (by omega) (by omega)) ?_|intro _|fail)
 refine Vz 3 3 170 rfl rfl rfl ?_
 refine Qa (fun(k:Nat)=>⟨41,[(1,.ptr 1 0),(2,.ptr 2 0),(3,.row 3),(19,zL (runE s.runs)),(20,zI (s.runs.length:Nat)),(21,zI k)],[(3,.row 170 (runE (s.runs.take k)) true),(12,.row 4 (Qq s.up) true),(16,.row 72 (jobE s.queue) true),(1,.box 49 (QtI s (.row 12) (.row 16))),(2,.box 49 [.nil,.nil,.nil,zI 0,zI 0,zI 0,zI 0,zI 0,.nil,.nil,.nil])]⟩) (fun k=>k<=s.runs.length) (fun k=>s.runs.length-k) 0 (by exact Xab _) ?_ ?_
 ·exact zll
 ·intro k hk
  have hd2:(runE (s.runs.take k)).length=k:=by rw[Qf,Xai];omega
  by_cases hk':k<s.runs.length
  ·have hn:=hs.rno k hk'
   repeat'(first|(refine zhm fun hb=>?_;try exact zab)|refine zUt ?_|refine zg2 ?_ ?_|(apply YE;first|(refine Vd rfl rfl rfl ⟨rfl,rfl,rfl⟩ rfl rfl rfl rfl rfl rfl rfl rfl (QN fun _=>rfl) rfl rfl rfl rfl rfl ?_)|(refine JX rfl rfl rfl rfl rfl rfl rfl rfl ⟨rfl,rfl,rfl⟩ hd2 (rfl:_=1) (by omega) rfl rfl ?_))|refine zln fun _=>?_|refine zop ?_|refine kc (VJ (l:=(nth s.runs k).nodes) (by omega)) rfl rfl ?_|fail)
   refine⟨k+1,by omega,by omega,?_⟩
   refine⟨rfl,?_,?_,rfl⟩
   repeat'(first|exact ze3|refine ze2 ?_ ?_|refine ze4 ?_|exact ze5|fail)
   all_goals exact zp (by first|rfl|exact Ww hk')
  ·obtain rfl:k=s.runs.length:=by omega
   rw[Xap]
   repeat'(first|(refine zhm fun hb=>?_;try exact zab)|refine zUrp ?_|refine zg2 ?_ ?_|intro _|fail)
   show AWp _ _ _ _
   refine Qs 3 rfl ?_
   show AWp _ _ _ _
   refine QD ?_
   apply Qt
   exact zm () [12,16,38] trivial zae zae zae
theorem QcG{s:Qd}(hs:Ql 100000000 s):MCalls Tryz.prog 89 [Qx s] [] (fun _:Unit=>True) (fun _=>[.agg (QoD s (zL (Qq s.up)) (.row 0) 1)]) (fun _=>[]) (fun _=>[(0,.row 72 (jobE s.queue) true),(1,.row 172 (endE s.ends) true)]):=by
 refine zMC func89 fun w0 Z O=>?_
 have hl:=Qf s.runs
 have h1:=hs.par;have h2:=hs.nod;have h3:=hs.up;have h4:=hs.que;have h5:=hs.run;have h6:=hs.end'
 repeat'(first|(refine zhm fun hb=>?_;try exact zab)|(refine Qi 3 12 rfl ?_)|refine zUtp ?_|refine zg2 ?_ ?_|refine kmu (Xj (t:=s.topo) (by omega) (by omega)) ?_|intro _|fail)
 refine Vz 3 3 170 rfl rfl rfl ?_
 refine Qa (fun(k:Nat)=>⟨41,[(1,.ptr 1 0),(2,.ptr 2 0),(3,.row 3),(19,zL (runE s.runs)),(20,zI (s.runs.length:Nat)),(21,zI k)],[(3,.row 170 (runE (s.runs.take k)) true),(16,.row 72 (jobE s.queue) true),(1,.box 49 (QtI s (zL (Qq s.up)) (.row 16))),(2,.box 49 [.nil,.nil,.nil,zI 0,zI 0,zI 0,zI 0,zI 0,.nil,.nil,.nil])]⟩) (fun k=>k<=s.runs.length) (fun k=>s.runs.length-k) 0 (by exact Xab _) ?_ ?_
 ·exact zll
 ·intro k hk
  have hd2:(runE (s.runs.take k)).length=k:=by rw[Qf,Xai];omega
  by_cases hk':k<s.runs.length
  ·have hn:=hs.rno k hk'
   repeat'(first|(refine zhm fun hb=>?_;try exact zab)|refine zUt ?_|refine zg2 ?_ ?_|(apply YE;first|(refine Vd rfl rfl rfl ⟨rfl,rfl,rfl⟩ rfl rfl rfl rfl rfl rfl rfl rfl (QN fun _=>rfl) rfl rfl rfl rfl rfl ?_)|(refine JX rfl rfl rfl rfl rfl rfl rfl rfl ⟨rfl,rfl,rfl⟩ hd2 (rfl:_=1) (by omega) rfl rfl ?_))|refine zln fun _=>?_|refine zop ?_|refine kc (VJ (l:=(nth s.runs k).nodes) (by omega)) rfl rfl ?_|fail)
   refine⟨k+1,by omega,by omega,?_⟩
   refine⟨rfl,?_,?_,rfl⟩
   repeat'(first|exact ze3|refine ze2 ?_ ?_|refine ze4 ?_|exact ze5|fail)
   all_goals exact zp (by first|rfl|exact Ww hk')
  ·obtain rfl:k=s.runs.length:=by omega
   rw[Xap]
   repeat'(first|(refine zhm fun hb=>?_;try exact zab)|refine zUrp ?_|refine zg2 ?_ ?_|intro _|fail)
   show AWp _ _ _ _
   refine Qs 3 rfl ?_
   show AWp _ _ _ _
   refine QD ?_
   apply Qt
   exact zm () [16,38] trivial zae zae zae
end
end Go.Proofs.YtihgfennoalocaaGreat
