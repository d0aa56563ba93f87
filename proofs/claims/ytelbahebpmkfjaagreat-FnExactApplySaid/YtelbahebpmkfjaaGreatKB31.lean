/-
  What starts, where there is no room; then for any state; both.
-/
import Derived.Test.YtelbahebpmkfjaaGreatKB7
import Derived.Test.YtelbahebpmkfjaaGreatKB30
import Derived.Test.YtelbahebpmkfjaaGreatKB21
import Derived.Test.YtelbahebpmkfjaaGreatKB26
set_option maxRecDepth 100000
set_option maxHeartbeats 16000000
namespace Go.Proofs.YtelbahebpmkfjaaGreat
open Go Go.RowKit
attribute [local irreducible] AWp Qat OpOk ACalls ChA QsOk MCalls NCalls EnC PY

theorem QuJ:Qbl ⟨[],[]⟩=false:=by
 cases h:Qbl ⟨[],[]⟩ with
 | false=>rfl
 | true=>
  have:=(Qbz.1 h).len
  simp at this
theorem QqI:ACalls Tryz.prog 248 [QcC zR] [.d (.b false)] []:=by
 refine Qaa tt Tryz.func248 rfl rfl rfl (fun w0 Z=>?_)
 have c1:=Qhu (t:=⟨[],[]⟩) (by simp) (by simp)
 rw [QuJ] at c1
 repeat' (first|refine zst ?_|(refine zhm fun hb=>?_;try exact zab)|refine zg2 ?_ ?_|refine zln fun _=>?_|refine zop ?_|refine kc (c1) rfl rfl ?_|fail)
 exact zr [] zae zae
theorem Qq5:ACalls Tryz.prog 242 [QcC zR] [.d (.b false)] []:=by
 refine Qaa tt Tryz.func242 rfl rfl rfl (fun w0 Z=>?_)
 have c1:=Qe1 (t:=⟨[],[]⟩) (by simp) (by simp)
 rw [QuJ] at c1
 repeat' (first|refine zst ?_|(refine zhm fun hb=>?_;try exact zab)|refine zg2 ?_ ?_|refine zln fun _=>?_|refine zop ?_|refine kc (c1) rfl rfl ?_|fail)
 exact zr [] zae zae
theorem QwA {now depth:Int} {l:List Job}:DC Tryz.prog 180 [QcC zR,.d (.n .i64 now),.d (.sl (jobE l)),.d (.n .i64 depth)] [.d (.sl []),.d (.sl []),.d (.b false)]:=by
 refine Qag tt Tryz.func180 rfl rfl rfl trivial (fun _ _=>⟨trivial,trivial⟩) (fun w0 Z O=>?_)
 repeat' (first|refine zsr ?_|(refine zhm fun hb=>?_;try exact zab)|refine zg2 ?_ ?_|refine zln fun _=>?_|refine zop ?_|refine kc (QqI) rfl rfl ?_|fail)
 show AWp _ _ _ _
 refine Qac ?_
 apply Qab
 exact zm () [] trivial zae zae zae
theorem Qwn {now depth:Int} {l:List Job}:DC Tryz.prog 177 [QcC zR,.d (.n .i64 now),.d (.sl (jobE l)),.d (.n .i64 depth)] [.d (.sl []),.d (.sl []),.d (.b false)]:=by
 refine Qag tt Tryz.func177 rfl rfl rfl trivial (fun _ _=>⟨trivial,trivial⟩) (fun w0 Z O=>?_)
 repeat' (first|refine zsr ?_|(refine zhm fun hb=>?_;try exact zab)|refine zg2 ?_ ?_|refine zln fun _=>?_|refine zop ?_|refine kc (Qq5) rfl rfl ?_|fail)
 show AWp _ _ _ _
 refine Qac ?_
 apply Qab
 exact zm () [] trivial zae zae zae
theorem Qgm {s:State} (h:Qbu s=none):Qbq s=s:=by
 have:QcO s=([],[]):=by unfold QcO;rw [h]
 unfold Qbq
 rw [this]
 rfl
theorem Qrk {s:State} (hs:Small 100000000 s) (h:Qbu s=none):ACalls Tryz.prog 109 [QaA s] [Qgp s 0 1 2 3 4 5] (Qgc s):=by
 refine Qaa tt Tryz.func109 rfl rfl rfl (fun w0 Z=>?_)
 have c1:=Qgh (hs.mono (m:=1000000000) (by omega))
 rw [h] at c1
 have c3:=Qbv hs
 repeat' (first|refine zst ?_|(refine zhm fun hb=>?_;try exact zab)|refine zdr ?_|(apply zch;exact zcg)|refine HopS.mk fun w0 Z O=>?_|exact zhk|refine zg3 ?_ ?_|refine zln fun _=>?_|refine zop ?_|refine kc (c3) rfl rfl ?_|(refine km [] (c1) rfl rfl (fun i hi=>?_);(try dsimp only at hi))|(refine km [] (QwA) rfl rfl (fun i hi=>?_);(try dsimp only at hi))|refine kq (c3) rfl rfl ?_|fail)
 refine Qae (fun (_:Unit)=>⟨66,[(1,.ptr 1 0),(2,.ptr 2 0),(8,.ptr 8 0),(31,.d (.sl [])),(32,.d (.n .i64 0)),(33,.d (.n .i64 0))],[(1,.box 43 (Qbw s)),(2,.box 43 ctl0),(8,.box 43 (stC s 30 1030 2030 3030 4030 5030)),(30,.row 3 (intE s.topo.parents) true),(1030,.row 255 (QaD s.topo.nodes) true),(2030,.row 4 (Qaw s.up) true),(3030,.row 78 (jobE s.queue) true),(4030,.row 148 (runE s.runs) true),(5030,.row 150 (endE s.ends) true)]⟩) (fun _=>True) (fun _=>0) () trivial ?_ ?_
 ·exact ⟨rfl,zae,zae,rfl⟩
 intro _ _
 repeat' (first|refine zst ?_|(refine zhm fun hb=>?_;try exact zab)|refine zdr ?_|(apply zch;exact zcg)|refine HopS.mk fun w0 Z O=>?_|exact zhk|refine zg3 ?_ ?_|refine zln fun _=>?_|refine zop ?_|fail)
 exact zr [30,1030,2030,3030,4030,5030] zae zae
theorem QpE {s:State} (hs:Small 100000000 s) (h:Qbu s=none):NCalls Tryz.prog 103 [.agg (Qdc s 500000 500001)] [(500000,.row 148 (runE s.runs) false),(500001,.row 150 (endE s.ends) true)] (fun _:Unit=>True) (fun _=>[.agg (Qdc s 0 1)]) (fun _=>[(0,.row 148 (runE s.runs) false),(1,.row 150 (endE s.ends) true)]):=by
 refine Qdo tt Tryz.func103 rfl rfl rfl (fun _ _=>rfl) (fun w0 Z O=>?_)
 have c1:=QkE (hs.mono (m:=1000000000) (by omega))
 rw [h] at c1
 repeat' (first|refine zst ?_|(refine zhm fun hb=>?_;try exact zab)|refine zg2 ?_ ?_|refine zln fun _=>?_|refine zop ?_|(refine km [500000,500001] (c1) rfl rfl (fun i hi=>?_);(try dsimp only at hi))|(refine km [] (Qwn) rfl rfl (fun i hi=>?_);(try dsimp only at hi))|fail)
 refine Qae (fun (_:Unit)=>⟨62,[(1,.ptr 1 0),(2,.ptr 2 0),(29,.d (.sl [])),(30,.d (.n .i64 0)),(31,.d (.n .i64 0))],[(1,.box 43 (Qdc s 500000 500001)),(2,.box 43 ctl0),(500000,.row 148 (runE s.runs) false),(500001,.row 150 (endE s.ends) true)]⟩) (fun _=>True) (fun _=>0) () trivial ?_ ?_
 ·exact ⟨rfl,zae,zae,rfl⟩
 intro _ _
 repeat' (first|refine zsr ?_|(refine zhm fun hb=>?_;try exact zab)|refine zg2 ?_ ?_|refine zln fun _=>?_|refine zop ?_|fail)
 show AWp _ _ _ _
 apply Qab
 refine zn () [500000,500001] (by exact trivial) ?_ ?_
 all_goals exact zae
structure StartQ (s:State):Prop where
 queue:QueueP s.queue
 depth:0≤s.depth∧s.depth≤60
theorem Qdu {s:State} (hs:Small 100000000 s) (h:StartQ s):ACalls Tryz.prog 109 [QaA s] [Qgp (Qbq s) 0 1 2 3 4 5] (Qgc (Qbq s)):=by
 cases hr:Qbu s with
 | some r=>exact QqA hs ⟨hr,h.queue,h.depth⟩
 | none=>rw [Qgm hr];exact Qrk hs hr
theorem Qc1 {s:State} (hs:Small 100000000 s) (h:StartQ s):NCalls Tryz.prog 103 [.agg (Qdc s 500000 500001)] [(500000,.row 148 (runE s.runs) false),(500001,.row 150 (endE s.ends) true)] (fun _:Unit=>True) (fun _=>[.agg (Qdc (Qbq s) 0 1)]) (fun _=>[(0,.row 148 (runE (Qbq s).runs) false),(1,.row 150 (endE s.ends) true)]):=by
 cases hr:Qbu s with
 | some r=>exact Qo9 hs ⟨hr,h.queue,h.depth⟩
 | none=>rw [Qgm hr];exact QpE hs hr
theorem Qdw {s:State} (h:StartQ s) (hs:Small 1048576 s) (hr:s.runs.length≤1000000):Small 1048576 (Qbq s):=by
 cases hq:Qbu s with
 | some r=>exact Qk9 ⟨hq,h.queue,h.depth⟩ hs hr
 | none=>rw [Qgm hq];exact hs
theorem Qeg {s:State} (h:Qap s=true):StartQ s:=⟨(pB_t.1 h).jobs.left,(pB_t.1 h).depth⟩
@[reducible] def stR (o:Option State) (c:Int):List AV:=match o with
 | none=>[.agg ctl0,.d (.n .i64 c)]
 | some s=>[Qgp s 0 1 2 3 4 5,.d (.n .i64 c)]
@[reducible] def stB (o:Option State):List (Nat×AO):=match o with
 | none=>[]
 | some s=>Qgc s
abbrev SO (f:FuncId) (args:List AV) (o:Option State) (c:Int):Prop:=ACalls Tryz.prog f args (stR o c) (stB o)
abbrev SS (f:FuncId) (args:List AV) (o:Option State) (c:Int):Prop:=DC Tryz.prog f args [QaA (o.getD zS),.d (.n .i64 c)]
def resu (s:State) (n:Int):State:={ s with up:=s.up.set n.toNat true }
noncomputable def QcK (s:State) (n:Int):Option State×Int:=
 if Qap s=true then if 0≤n∧n<s.topo.nodes.length∧nth s.up n.toNat=false then (some (Qbq (resu s n)),0) else (none,8) else (none,1)
theorem Qgb (l:List Bool) (k:Nat) (x:Bool):(Qaw l).set k [.b x]=Qaw (l.set k x):=by simp [Qaw,List.map_set]
@[reducible] def QxN (s:State) (u:List (List D)):AV:=.agg [.d (.sl (intE s.topo.parents)),.d (.sl (QaD s.topo.nodes)),.d (.sl u),.d (.n .i64 s.lic.a),.d (.n .i64 s.lic.b),.d (.n .i64 s.lic.c),.d (.n .i64 s.depth),.d (.n .i64 s.now),.d (.sl (jobE s.queue)),.d (.sl (runE s.runs)),.d (.sl (endE s.ends))]
@[reducible] def Qwf (s:State) (u:List (List D)) (q1 q2:Nat):List AV:=[.d (.sl (intE s.topo.parents)),.d (.sl (QaD s.topo.nodes)),.d (.sl u),.d (.n .i64 s.lic.a),.d (.n .i64 s.lic.b),.d (.n .i64 s.lic.c),.d (.n .i64 s.depth),.d (.n .i64 s.now),.d (.sl (jobE s.queue)),.row q1,.row q2]
theorem Qxx {s:State} {n:Int}:QaA (resu s n)=QxN s ((Qaw s.up).set n.toNat [.b true]):=by rw [Qgb];rfl
theorem QxE {s:State} {n:Int} {q1 q2:Nat}:Qdc (resu s n) q1 q2=Qwf s ((Qaw s.up).set n.toNat [.b true]) q1 q2:=by rw [Qgb];rfl
theorem Qxf {s:State} (h:Qap s=true):s.up.length=s.topo.nodes.length:=(Qhb h).up
theorem QsW {s:State} {n:Int} (hs:Small 1048576 s):SO 126 [QaA s,.d (.n .i64 n)] (QcK s n).1 (QcK s n).2:=by
 refine Qaa tt Tryz.func126 rfl rfl rfl (fun w0 Z=>?_)
 have hm:Small 100000000 s:=hs.mono (by omega)
 have c1:=Qca hm
 unfold QcK
 cases h:Qap s with
 | false=>
  rw [h] at c1
  rw [if_neg (by decide)]
  repeat' (first|refine zst ?_|(refine zhm fun hb=>?_;try exact zab)|refine zg2 ?_ ?_|refine zln fun _=>?_|refine zop ?_|refine kc (c1) rfl rfl ?_|fail)
  exact zr [] zae zae
 | true=>
  rw [h] at c1
  rw [if_pos rfl]
  have hup:=Qxf h
  have hbl:=Qaq s.up
  have hbl2:=hs.up
  have hq:=Qeg h
  by_cases hn:0≤n∧n<s.topo.nodes.length∧nth s.up n.toNat=false
  ·rw [if_pos hn]
   obtain ⟨h1,h2,h3⟩:=hn
   have hnn:n=(n.toNat:Int):=by omega
   have hR:Small 100000000 (resu s n):=⟨hm.par,hm.nod,by rw [resu,List.length_set];exact hm.up,hm.que,hm.run,hm.end',hm.rno⟩
   have c2:=Qdu hR ⟨hq.queue,hq.depth⟩
   rw [Qxx] at c2
   repeat' (first|refine zst ?_|(refine zhm fun hb=>?_;try exact zab)|refine zg2 ?_ ?_|refine zln fun _=>?_|refine zop ?_|refine kc (c1) rfl rfl ?_|refine kc (QaX) rfl rfl ?_|refine kc (Qbv hm) rfl rfl ?_|refine kc (c2) rfl rfl ?_|fail)
   all_goals first
    | (exfalso;omega)
    | (exfalso;rw [h3] at hb;cases hb;done)
    | skip
   exact zr [32,1032,2032,3032,4032,5032] zae zae
  ·rw [if_neg hn]
   repeat' (first|refine zst ?_|(refine zhm fun hb=>?_;try exact zab)|refine zg2 ?_ ?_|refine zln fun _=>?_|refine zop ?_|refine kc (c1) rfl rfl ?_|refine kc (QaX) rfl rfl ?_|fail)
   all_goals first
    | (exfalso;exact hn ⟨by omega,by omega,by assumption⟩)
    | skip
   any_goals
    refine zr [] ?_ ?_
    repeat'(first|apply And.intro|exact ze0|refine ze1 ?_|refine zei ?_ ?_|exact rfl|trivial)
    all_goals exact Stop.mk rfl
theorem QtB {s:State} {n:Int} (hs:Small 1048576 s):SS 119 [QaA s,.d (.n .i64 n)] (QcK s n).1 (QcK s n).2:=by
 refine Qag tt Tryz.func119 rfl rfl rfl trivial (fun _ _=>⟨trivial,trivial⟩) (fun w0 Z O=>?_)
 have hm:Small 100000000 s:=hs.mono (by omega)
 have c1:=QcD hm
 unfold QcK
 cases h:Qap s with
 | false=>
  rw [h] at c1
  rw [if_neg (by decide)]
  repeat' (first|refine zsr ?_|(refine zhm fun hb=>?_;try exact zab)|refine zg2 ?_ ?_|refine zop ?_|refine kc (c1) rfl rfl ?_|fail)
  show AWp _ _ _ _
  refine Qac ?_
  apply Qab
  exact zm () [] trivial zae zae zae
 | true=>
  rw [h] at c1
  rw [if_pos rfl]
  have hup:=Qxf h
  have hbl:=Qaq s.up
  have hbl2:=hs.up
  have hq:=Qeg h
  have c3:=QlW (s:=s) (n:=n)
  by_cases hn0:0≤n∧n<s.topo.nodes.length
  ·rw [decide_eq_true hn0.1,decide_eq_true hn0.2] at c3
   cases h3:nth s.up n.toNat with
   | false=>
    rw [if_pos ⟨hn0.1,hn0.2,rfl⟩]
    obtain ⟨h1,h2⟩:=hn0
    have hnn:n=(n.toNat:Int):=by omega
    have hR:Small 100000000 (resu s n):=⟨hm.par,hm.nod,by rw [resu,List.length_set];exact hm.up,hm.que,hm.run,hm.end',hm.rno⟩
    have c2:=Qc1 hR ⟨hq.queue,hq.depth⟩
    rw [QxE] at c2
    repeat' (first|(refine Qaj 7 23 rfl ?_)|(refine Qaj 7 1023 rfl ?_)|(refine Qaj 7 2023 rfl ?_)|(refine Qaj 7 3023 rfl ?_)|(refine QuF 7 4023 rfl ?_)|refine zsr ?_|(refine zhm fun hb=>?_;try exact zab)|refine zg2 ?_ ?_|refine zop ?_|refine kc (c1) rfl rfl ?_|refine kc (c3) rfl rfl ?_|refine kc (Ql0 hm) rfl rfl ?_|(refine kn [4023,5023] (c2) rfl rfl (fun i hi=>?_);(try dsimp only at hi))|fail)
    all_goals first
     | (exfalso;rw [h3] at hb;cases hb;done)
     | skip
    show AWp _ _ _ _
    refine Qav 29 rfl ?_
    show AWp _ _ _ _
    refine Qav 1029 rfl ?_
    refine Qac ?_
    apply Qab
    exact zm () [] trivial zae zae zae
   | true=>
    rw [if_neg (fun h=>by cases h.2.2)]
    obtain ⟨h1,h2⟩:=hn0
    have hnn:n=(n.toNat:Int):=by omega
    repeat' (first|refine zsr ?_|(refine zhm fun hb=>?_;try exact zab)|refine zg2 ?_ ?_|refine zop ?_|refine kc (c1) rfl rfl ?_|refine kc (c3) rfl rfl ?_|fail)
    all_goals first
     | (exfalso;rw [h3] at hb;cases hb;done)
     | skip
    show AWp _ _ _ _
    refine Qac ?_
    apply Qab
    exact zm () [] trivial zae zae zae
  ·rw [show (decide (0≤n)&&decide (n<s.topo.nodes.length))=false by simp;omega] at c3
   rw [if_neg (fun h=>hn0 ⟨h.1,h.2.1⟩)]
   repeat' (first|refine zsr ?_|(refine zhm fun hb=>?_;try exact zab)|refine zg2 ?_ ?_|refine zop ?_|refine kc (c1) rfl rfl ?_|refine kc (c3) rfl rfl ?_|fail)
   show AWp _ _ _ _
   refine Qac ?_
   apply Qab
   exact zm () [] trivial zae zae zae
end Go.Proofs.YtelbahebpmkfjaaGreat
namespace Go.Proofs.YtelbahebpmkfjaaGreat
open Go Go.RowKit
attribute [local irreducible] AWp Qat OpOk ACalls ChA QsOk MCalls NCalls EnC PY

def resz (s:State) (v:V3):State:={ s with lic:=v }
noncomputable def QcH (s:State) (v:V3):Option State×Int:=
 if Qap s=true∧Qal v=true then if (Qbu (resz s v)).isSome=true then (some (Qbq (resz s v)),0) else (none,9) else (none,1)
theorem Qgy {n:Nat} {s:State} {v:V3} (h:Small n s):Small n (resz s v):=⟨h.par,h.nod,h.up,h.que,h.run,h.end',h.rno⟩
theorem Qtk {s:State} {v:V3} (hs:Small 1048576 s):SO 127 [QaA s,vecA v] (QcH s v).1 (QcH s v).2:=by
 refine Qaa tt Tryz.func127 rfl rfl rfl (fun w0 Z=>?_)
 have hm:Small 100000000 s:=hs.mono (by omega)
 have hR:=Qgy (v:=v) hm
 have c1:=Qca hm
 have c2:=Qct (v:=v)
 have c3:=Qgh (hR.mono (m:=1000000000) (by omega))
 unfold QcH
 cases h:Qap s with
 | false=>
  rw [h] at c1
  rw [if_neg (fun h=>by cases h.1)]
  repeat' (first|refine zst ?_|(refine zhm fun hb=>?_;try exact zab)|refine zg2 ?_ ?_|refine zop ?_|refine kc (c1) rfl rfl ?_|fail)
  exact zr [] zae zae
 | true=>
  rw [h] at c1
  cases hv:Qal v with
  | false=>
   rw [hv] at c2
   rw [if_neg (fun h=>by cases h.2)]
   repeat' (first|refine zst ?_|(refine zhm fun hb=>?_;try exact zab)|refine zg2 ?_ ?_|refine zop ?_|refine kc (c1) rfl rfl ?_|refine kc (c2) rfl rfl ?_|fail)
   exact zr [] zae zae
  | true=>
   rw [hv] at c2
   rw [if_pos ⟨rfl,rfl⟩]
   have hq:=Qeg h
   have c4:=Qdu hR ⟨hq.queue,hq.depth⟩
   cases hr:Qbu (resz s v) with
   | none=>
    rw [hr] at c3
    rw [if_neg (show ¬((none:Option Room).isSome=true) by decide)]
    repeat' (first|refine zst ?_|(refine zhm fun hb=>?_;try exact zab)|refine zg2 ?_ ?_|refine zop ?_|refine kc (c1) rfl rfl ?_|refine kc (c2) rfl rfl ?_|(refine km [] (Qi3 hm) rfl rfl (fun i hi=>?_);(try dsimp only at hi))|(refine km [] (c3) rfl rfl (fun i hi=>?_);(try dsimp only at hi))|fail)
    exact zr [] zae zae
   | some r=>
    rw [hr] at c3
    rw [if_pos (show (some r).isSome=true from rfl)]
    repeat' (first|refine zst ?_|(refine zhm fun hb=>?_;try exact zab)|refine zg2 ?_ ?_|refine zop ?_|refine kc (c1) rfl rfl ?_|refine kc (c2) rfl rfl ?_|refine kc (c4) rfl rfl ?_|(refine km [] (Qi3 hm) rfl rfl (fun i hi=>?_);(try dsimp only at hi))|(refine km [] (c3) rfl rfl (fun i hi=>?_);(try dsimp only at hi))|fail)
    exact zr [30,1030,2030,3030,4030,5030] zae zae
theorem Qtv {s:State} {v:V3} (hs:Small 1048576 s):SS 120 [QaA s,vecA v] (QcH s v).1 (QcH s v).2:=by
 refine Qag tt Tryz.func120 rfl rfl rfl trivial (fun _ _=>⟨trivial,trivial⟩) (fun w0 Z O=>?_)
 have hm:Small 100000000 s:=hs.mono (by omega)
 have hR:=Qgy (v:=v) hm
 have c1:=QcD hm
 have c2:=Qb8 (v:=v)
 have c3:=QkE (hR.mono (m:=1000000000) (by omega))
 unfold QcH
 cases h:Qap s with
 | false=>
  rw [h] at c1
  rw [if_neg (fun h=>by cases h.1)]
  repeat' (first|refine zsr ?_|(refine zhm fun hb=>?_;try exact zab)|refine zg2 ?_ ?_|refine zop ?_|refine kc (c1) rfl rfl ?_|fail)
  show AWp _ _ _ _
  refine Qac ?_
  apply Qab
  exact zm () [] trivial zae zae zae
 | true=>
  rw [h] at c1
  cases hv:Qal v with
  | false=>
   rw [hv] at c2
   rw [if_neg (fun h=>by cases h.2)]
   repeat' (first|refine zsr ?_|(refine zhm fun hb=>?_;try exact zab)|refine zg2 ?_ ?_|refine zop ?_|refine kc (c1) rfl rfl ?_|refine kc (c2) rfl rfl ?_|fail)
   show AWp _ _ _ _
   refine Qac ?_
   apply Qab
   exact zm () [] trivial zae zae zae
  | true=>
   rw [hv] at c2
   rw [if_pos ⟨rfl,rfl⟩]
   have hq:=Qeg h
   have c4:=Qc1 hR ⟨hq.queue,hq.depth⟩
   cases hr:Qbu (resz s v) with
   | none=>
    rw [hr] at c3
    rw [if_neg (show ¬((none:Option Room).isSome=true) by decide)]
    repeat' (first|refine zsr ?_|(refine zhm fun hb=>?_;try exact zab)|refine zg2 ?_ ?_|refine zop ?_|refine kc (c1) rfl rfl ?_|refine kc (c2) rfl rfl ?_|(refine km [] (QiQ hm) rfl rfl (fun i hi=>?_);(try dsimp only at hi))|(refine km [18,1018] (c3) rfl rfl (fun i hi=>?_);(try dsimp only at hi))|fail)
    show AWp _ _ _ _
    refine Qac ?_
    apply Qab
    exact zm () [] trivial zae zae zae
   | some r=>
    rw [hr] at c3
    rw [if_pos (show (some r).isSome=true from rfl)]
    repeat' (first|refine zsr ?_|(refine zhm fun hb=>?_;try exact zab)|refine zg2 ?_ ?_|refine zop ?_|refine kc (c1) rfl rfl ?_|refine kc (c2) rfl rfl ?_|(refine km [] (QiQ hm) rfl rfl (fun i hi=>?_);(try dsimp only at hi))|(refine km [18,1018] (c3) rfl rfl (fun i hi=>?_);(try dsimp only at hi))|(refine kn [18,1018] (c4) rfl rfl (fun i hi=>?_);(try dsimp only at hi))|fail)
    show AWp _ _ _ _
    refine Qav 30 rfl ?_
    show AWp _ _ _ _
    refine Qav 1030 rfl ?_
    refine Qac ?_
    apply Qab
    exact zm () [] trivial zae zae zae
theorem QkT {s:State} {v:V3} (hs:Small 1048576 s):∀s',(QcH s v).1=some s'→Small 1048576 s':=fun s' h=>by
 unfold QcH at h
 split at h
 ·rename_i h1
  split at h
  ·cases h
   have hq:=Qeg h1.1
   exact Qdw ⟨hq.queue,hq.depth⟩ (Qgy hs) (by have:=QfI h1.1;simp only [resz];omega)
  ·cases h
 ·cases h
theorem Qkc {s:State} {n:Int} (hs:Small 1048576 s):∀s',(QcK s n).1=some s'→Small 1048576 s':=fun s' h=>by
 unfold QcK at h
 split at h
 ·rename_i h1
  split at h
  ·cases h
   have hq:=Qeg h1
   exact Qdw ⟨hq.queue,hq.depth⟩ ⟨hs.par,hs.nod,by rw [resu,List.length_set];exact hs.up,hs.que,hs.run,hs.end',hs.rno⟩ (by have:=QfI h1;simp only [resu];omega)
  ·cases h
 ·cases h
end Go.Proofs.YtelbahebpmkfjaaGreat
