/-
  Copies of states as rows of the caller's own; CtlNew, both.
-/
import Derived.Test.YtkdniahincpmaaaGreatQB12
import Derived.Test.YtkdniahincpmaaaGreatQB20
set_option maxRecDepth 100000
set_option maxHeartbeats 16000000
namespace Go.Proofs.YtkdniahincpmaaaGreat
open Go Go.RowKit Tryz
section
attribute [local irreducible] AWp QM OpOk ACalls ChA QsOk MCalls EnC PY
theorem WM{l:List Int}(h:l.length<=1000000000):zAc 109 [zL (intE l)] [.row 0] [(0,.row 3 (intE l) true)]:=by
 refine zAC func109 fun w0 Z=>?_
 repeat'(first|(refine zhm fun hb=>?_;try exact zab)|refine zUto ?_|refine zg2 ?_ ?_|intro _)
 exact zr [4] zae zae
theorem Qm2{t:QX}(h1:t.parents.length<=1000000000)(h2:t.nodes.length<=1000000000):zAc 108 [YW t] [.agg [.row 0,.row 1]] [(0,.row 3 (intE t.parents) true),(1,.row 62 (Qr t.nodes) true)]:=by
 refine zAC func108 fun w0 Z=>?_
 repeat'(first|(refine zhm fun hb=>?_;try exact zab)|refine QcZ ?_|(apply zch;exact zcg)|exact zhk|refine zg3 ?_ ?_|refine kc (WM (l:=t.parents) h1) rfl rfl ?_|refine kq (WM (l:=t.parents) h1) rfl rfl ?_|intro _)
 exact zr [5,8] zae zae
theorem Vd{l:List Run}{i:Nat}(h:i<l.length):runE (l.take i)++[runD (nth l i)]=runE (l.take (i+1)):=by
 rw[XaA h,runE,runE,XaG]
 have e:nth l i=l[i]:=by simp[nth,h]
 rw[e]
 rfl
theorem Q4{s:Qb}(hs:Qo 100000000 s):zAc 46 [Qz s] [Xo s 0 1 2 3 4 5] (QcO s):=by
 refine zAC func46 fun w0 Z=>?_
 have hl:=Qe s.runs
 have h1:=hs.par;have h2:=hs.nod;have h3:=hs.up;have h4:=hs.que;have h5:=hs.run;have h6:=hs.end'
 repeat'(first|(refine zhm fun hb=>?_;try exact zab)|refine zUtp ?_|refine zg2 ?_ ?_|refine kc (Qm2 (t:=s.topo) (by omega) (by omega)) rfl rfl ?_|intro _)
 refine Zn 3 3 66 rfl rfl rfl ?_
 refine Qa (fun(k:Nat)=>⟨41,[(1,.ptr 1 0),(2,.ptr 2 0),(3,.row 3),(19,zL (runE s.runs)),(20,zI (s.runs.length:Nat)),(21,zI k)],[(3,.row 66 (runE (s.runs.take k)) true),(8,.row 3 (intE s.topo.parents) true),(1008,.row 62 (Qr s.topo.nodes) true),(12,.row 4 (Qk s.up) true),(16,.row 40 (jobE s.queue) true),(1,.box 34 [.row 8,.row 1008,.row 12,zI s.lic.a,zI s.lic.b,zI s.lic.c,zI s.depth,zI s.now,.row 16,zL (runE s.runs),zL (endE s.ends)]),(2,.box 34 [.nil,.nil,.nil,zI 0,zI 0,zI 0,zI 0,zI 0,.nil,.nil,.nil])]⟩) (fun k=>k<=s.runs.length) (fun k=>s.runs.length-k) 0 (by exact Xae _) ?_ ?_
 ·exact zll
 ·intro k hk
  have e:(runE (s.runs.take k)).length=k:=by rw[Qe,Xah];omega
  by_cases d:k<s.runs.length
  ·have hn:=hs.rno k d
   repeat'(first|(refine zhm fun hb=>?_;try exact zab)|refine zUt ?_|refine zg2 ?_ ?_|(apply YV;first|(refine VI rfl rfl rfl ⟨rfl,rfl,rfl⟩ rfl rfl rfl rfl rfl rfl rfl rfl (QV fun _=>rfl) rfl rfl rfl rfl rfl ?_)|(refine Yb rfl rfl rfl rfl rfl rfl rfl rfl ⟨rfl,rfl,rfl⟩ e (rfl:_=1) (by omega) rfl rfl ?_))|refine zln fun _=>?_|refine zop ?_|refine kc (WM (l:=(nth s.runs k).nodes) (by omega)) rfl rfl ?_|fail)
   refine⟨k+1,by omega,by omega,?_⟩
   refine zag ?_;exact zp (Vd d)
  ·obtain rfl:k=s.runs.length:=by omega
   repeat'(first|(refine zhm fun hb=>?_;try exact zab)|refine zUtp ?_|refine zg2 ?_ ?_|intro _)
   refine zr [8,1008,12,16,3,38] ?_ ?_
   repeat'(first|exact ze3|refine ze2 ?_ ?_|refine ze4 ?_|exact ze5|fail)
   all_goals exact zp (by first|rfl|rw[Xal])
theorem QjA{s:Qb}(hs:Qo 100000000 s):zAc 127 [Qz s] [Xo s 0 1 2 3 4 5] (QcO s):=by
 refine zAC func127 fun w0 Z=>?_
 have hl:=Qe s.runs
 have h1:=hs.par;have h2:=hs.nod;have h3:=hs.up;have h4:=hs.que;have h5:=hs.run;have h6:=hs.end'
 repeat'(first|(refine zhm fun hb=>?_;try exact zab)|refine Qd ?_|(apply zch;exact zcg)|exact zhk|refine zg3 ?_ ?_|intro _)
 refine Qa (fun(k:Nat)=>⟨54,[(1,.ptr 1 0),(2,.ptr 2 0),(3,.row 28),(30,zL (runE s.runs)),(31,zI (s.runs.length:Nat)),(32,zI k)],[(28,.row 66 (runE (s.runs.take k)) true),(6,.row 3 (intE s.topo.parents) true),(11,.row 62 (Qr s.topo.nodes) true),(18,.row 4 (Qk s.up) true),(23,.row 40 (jobE s.queue) true),(1,.box 34 [.row 6,.row 11,.row 18,zI s.lic.a,zI s.lic.b,zI s.lic.c,zI s.depth,zI s.now,.row 23,zL (runE s.runs),zL (endE s.ends)]),(2,.box 34 [.nil,.nil,.nil,zI 0,zI 0,zI 0,zI 0,zI 0,.nil,.nil,.nil])]⟩) (fun k=>k<=s.runs.length) (fun k=>s.runs.length-k) 0 (by exact Xae _) ?_ ?_
 ·exact zll
 ·intro k hk
  have e:(runE (s.runs.take k)).length=k:=by rw[Qe,Xah];omega
  by_cases d:k<s.runs.length
  ·have hn:=hs.rno k d
   repeat'(first|(refine zhm fun hb=>?_;try exact zab)|refine zUtd ?_|(apply zch;exact zcg)|exact zhk|refine zg3 ?_ ?_|(apply YV;first|(refine VI rfl rfl rfl ⟨rfl,rfl,rfl⟩ rfl rfl rfl rfl rfl rfl rfl rfl (QV fun _=>rfl) rfl rfl rfl rfl rfl ?_)|(refine Yb rfl rfl rfl rfl rfl rfl rfl rfl ⟨rfl,rfl,rfl⟩ e (rfl:_=1) (by omega) rfl rfl ?_))|refine zln fun _=>?_|refine zop ?_|intro _)
   refine⟨k+1,by omega,by omega,?_⟩
   refine zag ?_;exact zp (Vd d)
  ·obtain rfl:k=s.runs.length:=by omega
   repeat'(first|(refine zhm fun hb=>?_;try exact zab)|refine Qd ?_|(apply zch;exact zcg)|exact zhk|refine zg3 ?_ ?_|intro _)
   refine zr [6,11,18,23,28,48] ?_ ?_
   repeat'(first|exact ze3|refine ze2 ?_ ?_|refine ze4 ?_|exact ze5|fail)
   all_goals exact zp (by first|rfl|rw[Xal])
structure QrM (s:Qb):Prop where
 ok:Qf s=true
 que:s.queue.length=0
 run:s.runs.length=0
 end':s.ends.length=0
@[reducible] def stC (s:Qb) (q0 q1 q2 q3 q4 q5:Nat):List AV:=[.row q0,.row q1,.row q2,zI s.lic.a,zI s.lic.b,zI s.lic.c,zI s.depth,zI s.now,.row q3,.row q4,.row q5]
@[reducible] def ctl0:List AV:=[.nil,.nil,.nil,zI 0,zI 0,zI 0,zI 0,zI 0,.nil,.nil,.nil]
@[reducible] def ctlR (s:Qb):List (Nat×AO):=[(0,.row 3 (intE s.topo.parents) true),(1,.row 62 (Qr s.topo.nodes) true),(2,.row 4 (Qk s.up) true),(3,.row 40 (jobE s.queue) true),(4,.row 66 (runE s.runs) true),(5,.row 123 (endE s.ends) true),(6,.row 3 (intE s.topo.parents) true),(7,.row 62 (Qr s.topo.nodes) true),(8,.row 4 (Qk s.up) true),(9,.row 40 (jobE s.queue) true),(10,.row 66 (runE s.runs) true),(11,.row 123 (endE s.ends) true)]
theorem Qc2{s:Qb}(hs:Qo 100000000 s)(hf:QrM s):zAc 42 [Qz s] [.agg (stC s 0 1 2 3 4 5++stC s 6 7 8 9 10 11++[.nil,zI 0,zI 0]),.d (.b true)] (ctlR s):=by
 refine zAC func42 fun w0 Z=>?_
 have a:=YI hs
 rw[hf.ok]at a
 have h4:=hf.que;have h5:=hf.run;have h6:=hf.end'
 repeat'(first|(refine zhm fun hb=>?_;try exact zab)|refine Qd ?_|(apply zch;exact zcg)|exact zhk|refine zg3 ?_ ?_|refine kc (Q4 hs) rfl rfl ?_|refine kq (Q4 hs) rfl rfl ?_|intro _)
 exact zr [23,1023,2023,3023,4023,5023,25,1025,2025,3025,4025,5025] zae zae
theorem Qhc{s:Qb}(hs:Qo 100000000 s)(hf:¬QrM s):zAc 42 [Qz s] [.agg (ctl0++ctl0++[.nil,zI 0,zI 0]),.d (.b false)] []:=by
 refine zAC func42 fun w0 Z=>?_
 have c:=YI hs
 have h4:=hs.que;have h5:=hs.run;have h6:=hs.end'
 cases a:Qf s with
 | true=>
  rw[a]at c
  have hn:0<s.queue.length+s.runs.length+s.ends.length:=by
   refine Nat.pos_of_ne_zero fun e=>hf ⟨a,by omega,by omega,by omega⟩
  repeat'(first|(refine zhm fun hb=>?_;try exact zab)|refine Qd ?_|(apply zch;exact zcg)|exact zhk|refine zg3 ?_ ?_|intro _)
  exact zrr
 | false=>
  rw[a]at c
  repeat'(first|(refine zhm fun hb=>?_;try exact zab)|refine Qd ?_|(apply zch;exact zcg)|exact zhk|refine zg3 ?_ ?_|intro _)
  exact zrr
noncomputable def YN (s:Qb):Bool:=pB (QrM s)
theorem X5{s:Qb}(hs:Qo 100000000 s):zAc 169 [Qz s] [.d (.b (YN s))] []:=by
 refine zAC func169 fun w0 Z=>?_
 have e:=Y3 hs
 have h4:=hs.que;have h5:=hs.run;have h6:=hs.end'
 cases a:Qf s with
 | false=>
  rw[a]at e
  rw[show YN s=false from pB_f.2 fun h=>by rw[h.ok]at a;cases a]
  repeat'(first|(refine zhm fun hb=>?_;try exact zab)|refine zUtp ?_|refine zg2 ?_ ?_|intro _)
  exact zrr
 | true=>
  rw[a]at e
  by_cases f:s.queue.length=0
  ·by_cases g:s.runs.length=0
   ·by_cases c:s.ends.length=0
    ·rw[show YN s=true from pB_t.2 ⟨a,f,g,c⟩]
     repeat'(first|(refine zhm fun hb=>?_;try exact zab)|refine zUtp ?_|refine zg2 ?_ ?_|intro _)
     refine zr [] ?_ ?_
     repeat'(first|exact ze3|refine ze2 ?_ ?_|refine ze4 ?_|exact ze5|fail)
     all_goals exact zp (by first|rfl|(rw[c];rfl)|exact beq_eq_false_iff_ne.2 (by omega))
    ·rw[show YN s=false from pB_f.2 fun h=>c h.end']
     repeat'(first|(refine zhm fun hb=>?_;try exact zab)|refine zUtp ?_|refine zg2 ?_ ?_|intro _)
     refine zr [] ?_ ?_
     repeat'(first|exact ze3|refine ze2 ?_ ?_|refine ze4 ?_|exact ze5|fail)
     all_goals exact zp (by first|rfl|(rw[c];rfl)|exact beq_eq_false_iff_ne.2 (by omega))
   ·rw[show YN s=false from pB_f.2 fun h=>g h.run]
    repeat'(first|(refine zhm fun hb=>?_;try exact zab)|refine zUtp ?_|refine zg2 ?_ ?_|intro _)
    exact zrr
  ·rw[show YN s=false from pB_f.2 fun h=>f h.que]
   repeat'(first|(refine zhm fun hb=>?_;try exact zab)|refine zUtp ?_|refine zg2 ?_ ?_|intro _)
   exact zrr
theorem QkI{k:Nat}:zAc 233 [zL [],zI k] [zI k] []:=by
 refine zAC func233 fun w0 Z=>?_
 repeat'(first|(refine zhm fun hb=>?_;try exact zab)|refine zUtp ?_|refine zg2 ?_ ?_|intro _)
 refine Qa (fun(_:Unit)=>⟨44,[(0,zL []),(1,zI k),(5,zI 0)],[]⟩) (fun _=>True) (fun _=>0) () trivial ?_ ?_
 ·exact zll
 ·intro i hi
  repeat'(first|(refine zhm fun hb=>?_;try exact zab)|refine zUtp ?_|refine zg2 ?_ ?_|intro _)
  exact zrr
theorem QjZ{k:Nat}:zAc 158 [zL [],zI k] [zI k] []:=by
 refine zAC func158 fun w0 Z=>?_
 repeat'(first|(refine zhm fun hb=>?_;try exact zab)|refine zUtp ?_|refine zg2 ?_ ?_|intro _)
 refine Qa (fun(_:Unit)=>⟨21,[(0,zL []),(1,zI k),(5,zI 0)],[]⟩) (fun _=>True) (fun _=>0) () trivial ?_ ?_
 ·exact zll
 ·intro i hi
  repeat'(first|(refine zhm fun hb=>?_;try exact zab)|refine zUtp ?_|refine zg2 ?_ ?_|intro _)
  exact zrr
theorem QnO{k:Nat}:zAc 159 [zL [],zI k] [zI k] []:=by
 refine zAC func159 fun w0 Z=>?_
 repeat'(first|(refine zhm fun hb=>?_;try exact zab)|refine zUtp ?_|refine zg2 ?_ ?_|intro _)
 refine Qa (fun(_:Unit)=>⟨96,[(0,zL []),(1,zI k),(5,zI 0)],[]⟩) (fun _=>True) (fun _=>0) () trivial ?_ ?_
 ·exact zll
 ·intro i hi
  repeat'(first|(refine zhm fun hb=>?_;try exact zab)|refine zUtp ?_|refine zg2 ?_ ?_|intro _)
  exact zrr
theorem Qm3{k:Nat}:zAc 160 [zL [],zI k] [zI k] []:=by
 refine zAC func160 fun w0 Z=>?_
 repeat'(first|(refine zhm fun hb=>?_;try exact zab)|refine zUtp ?_|refine zg2 ?_ ?_|intro _)
 refine Qa (fun(_:Unit)=>⟨121,[(0,zL []),(1,zI k),(5,zI 0)],[]⟩) (fun _=>True) (fun _=>0) () trivial ?_ ?_
 ·exact zll
 ·intro i hi
  repeat'(first|(refine zhm fun hb=>?_;try exact zab)|refine zUtp ?_|refine zg2 ?_ ?_|intro _)
  exact zrr
theorem QnQ{k:Nat}:zAc 161 [zL [],zI k] [zI k] []:=by
 refine zAC func161 fun w0 Z=>?_
 repeat'(first|(refine zhm fun hb=>?_;try exact zab)|refine zUtp ?_|refine zg2 ?_ ?_|intro _)
 refine Qa (fun(_:Unit)=>⟨34,[(0,zL []),(1,zI k),(5,zI 0)],[]⟩) (fun _=>True) (fun _=>0) () trivial ?_ ?_
 ·exact zll
 ·intro i hi
  repeat'(first|(refine zhm fun hb=>?_;try exact zab)|refine zUtp ?_|refine zg2 ?_ ?_|intro _)
  exact zrr
theorem QaB{k:Nat}:zAc 85 [zL [],zI k] [zI k] []:=by
 refine zAC func85 fun w0 Z=>?_
 repeat'(first|(refine zhm fun hb=>?_;try exact zab)|refine zUtp ?_|refine zg2 ?_ ?_|intro _)
 refine Qa (fun(_:Unit)=>⟨20,[(0,zL []),(1,zI k),(5,zI 0)],[]⟩) (fun _=>True) (fun _=>0) () trivial ?_ ?_
 ·exact zll
 ·intro i hi
  repeat'(first|(refine zhm fun hb=>?_;try exact zab)|refine zUtp ?_|refine zg2 ?_ ?_|intro _)
  exact zrr
@[reducible] def jn0:AV:=.agg [zL [],zI 0,zI 0]
theorem Qgk{k:Nat}:zAc 162 [jn0,zI k] [zI k] []:=by
 refine zAC func162 fun w0 Z=>?_
 repeat'(first|(refine zhm fun hb=>?_;try exact zab)|refine zUto ?_|refine zg2 ?_ ?_|refine zqj QaB ?_|intro _)
 exact zrr
theorem Qnk{k:Nat}:zAc 157 [.agg [zL [],zL []],zI k] [zI k] []:=by
 refine zAC func157 fun w0 Z=>?_
 repeat'(first|(refine zhm fun hb=>?_;try exact zab)|refine zUto ?_|refine zg2 ?_ ?_|refine zqj QbU ?_|refine zqj QkI ?_|intro _)
 exact zrr
@[reducible] def st0:List AV:=[zL [],zL [],zL [],zI 0,zI 0,zI 0,zI 0,zI 0,zL [],zL [],zL []]
theorem Qe9{k:Nat}:zAc 83 [.agg st0,zI k] [zI k] []:=by
 refine zAC func83 fun w0 Z=>?_
 repeat'(first|(refine zhm fun hb=>?_;try exact zab)|refine zUto ?_|refine zg2 ?_ ?_|refine zqj Qnk ?_|refine zqj QjZ ?_|refine zqj QnO ?_|refine zqj Qm3 ?_|refine zqj QnQ ?_|intro _)
 exact zrr
theorem QhX{k:Nat}:zAc 84 [.agg (st0++st0++[zL [],zI 0,zI 0]),zI k] [zI k] []:=by
 refine zAC func84 fun w0 Z=>?_
 repeat'(first|(refine zhm fun hb=>?_;try exact zab)|refine zUto ?_|refine zg2 ?_ ?_|refine zqj Qe9 ?_|refine zqj Qgk ?_|intro _)
 exact zrr
@[reducible] def ctlD (a b:Qb):AV:=.agg (JI a++JI b++[zL [],zI 0,zI 0])
@[reducible] def ctlM (s t:Qb):List (Nat×AO):=[(1000000,.row 3 (intE s.topo.parents) true),(1000001,.row 62 (Qr s.topo.nodes) true),(1000002,.row 4 (Qk s.up) true),(1000003,.row 40 (jobE s.queue) true),(1000004,.row 66 (runE s.runs) true),(1000005,.row 123 (endE s.ends) true),(1000006,.row 3 (intE t.topo.parents) true),(1000007,.row 62 (Qr t.topo.nodes) true),(1000008,.row 4 (Qk t.up) true),(1000009,.row 40 (jobE t.queue) true),(1000010,.row 66 (runE t.runs) true),(1000011,.row 123 (endE t.ends) true)]
def zS:Qb:=⟨⟨[],[]⟩,[],zV,0,0,[],[],[]⟩
theorem Qbf(n:Nat):Qo n zS:=⟨Xae _,Xae _,Xae _,Xae _,Xae _,Xae _,fun _ hj=>absurd hj (Xaq _)⟩
end
end Go.Proofs.YtkdniahincpmaaaGreat
