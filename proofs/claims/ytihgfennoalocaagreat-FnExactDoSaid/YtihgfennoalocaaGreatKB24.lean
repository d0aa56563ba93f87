/-
  Copies of states as rows of the caller's own; CtlNew, both.
-/
import Derived.Test.YtihgfennoalocaaGreatKB12
import Derived.Test.YtihgfennoalocaaGreatKB21
set_option maxRecDepth 100000
set_option maxHeartbeats 16000000
namespace Go.Proofs.YtihgfennoalocaaGreat
open Go Go.RowKit Tryz
section
attribute [local irreducible] AWp QJ OpOk ACalls ChA QsOk MCalls EnC PY
theorem VJ{l:List Int}(h:l.length<=1000000000):zAc 145 [zL (intE l)] [.row 0] [(0,.row 3 (intE l) true)]:=by
 refine zAC func145 fun w0 Z=>?_
 repeat'(first|(refine zhm fun hb=>?_;try exact zab)|refine zUto ?_|refine zg2 ?_ ?_|intro _|fail)
 exact zr [4] zae zae
theorem Qlh{t:QW}(h1:t.parents.length<=1000000000)(h2:t.nodes.length<=1000000000):zAc 144 [Yy t] [.agg [.row 0,.row 1]] [(0,.row 3 (intE t.parents) true),(1,.row 225 (Qz t.nodes) true)]:=by
 refine zAC func144 fun w0 Z=>?_
 repeat'(first|(refine zhm fun hb=>?_;try exact zab)|refine Qb2 ?_|(apply zch;exact zcg)|exact zhk|refine zg3 ?_ ?_|refine kc (VJ (l:=t.parents) h1) rfl rfl ?_|refine kq (VJ (l:=t.parents) h1) rfl rfl ?_|intro _|fail)
 exact zr [5,8] zae zae
theorem Ww{l:List Run}{i:Nat}(h:i<l.length):runE (l.take i)++[runD (nth l i)]=runE (l.take (i+1)):=by
 rw[XaB h,runE,runE,XaI]
 have e:nth l i=l[i]:=by simp[nth,h]
 rw[e]
 rfl
theorem Jr{s:Qd}(hs:Ql 100000000 s):zAc 89 [Qx s] [ZL s 0 1 2 3 4 5] (QbO s):=by
 refine zAC func89 fun w0 Z=>?_
 have hl:=Qf s.runs
 have h1:=hs.par;have h2:=hs.nod;have h3:=hs.up;have h4:=hs.que;have h5:=hs.run;have h6:=hs.end'
 repeat'(first|(refine zhm fun hb=>?_;try exact zab)|refine zUtp ?_|refine zg2 ?_ ?_|refine kc (Qlh (t:=s.topo) (by omega) (by omega)) rfl rfl ?_|intro _|fail)
 refine Vz 3 3 170 rfl rfl rfl ?_
 refine Qa (fun(k:Nat)=>⟨41,[(1,.ptr 1 0),(2,.ptr 2 0),(3,.row 3),(19,zL (runE s.runs)),(20,zI (s.runs.length:Nat)),(21,zI k)],[(3,.row 170 (runE (s.runs.take k)) true),(8,.row 3 (intE s.topo.parents) true),(1008,.row 225 (Qz s.topo.nodes) true),(12,.row 4 (Qq s.up) true),(16,.row 72 (jobE s.queue) true),(1,.box 49 [.row 8,.row 1008,.row 12,zI s.lic.a,zI s.lic.b,zI s.lic.c,zI s.depth,zI s.now,.row 16,zL (runE s.runs),zL (endE s.ends)]),(2,.box 49 [.nil,.nil,.nil,zI 0,zI 0,zI 0,zI 0,zI 0,.nil,.nil,.nil])]⟩) (fun k=>k<=s.runs.length) (fun k=>s.runs.length-k) 0 (by exact Xab _) ?_ ?_
 ·exact zll
 ·intro k hk
  have hd2:(runE (s.runs.take k)).length=k:=by rw[Qf,Xai];omega
  by_cases hk':k<s.runs.length
  ·have hn:=hs.rno k hk'
   repeat'(first|(refine zhm fun hb=>?_;try exact zab)|refine zUt ?_|refine zg2 ?_ ?_|(apply YE;first|(refine Vd rfl rfl rfl ⟨rfl,rfl,rfl⟩ rfl rfl rfl rfl rfl rfl rfl rfl (QN fun _=>rfl) rfl rfl rfl rfl rfl ?_)|(refine JX rfl rfl rfl rfl rfl rfl rfl rfl ⟨rfl,rfl,rfl⟩ hd2 (rfl:_=1) (by omega) rfl rfl ?_))|refine zln fun _=>?_|refine zop ?_|refine kc (VJ (l:=(nth s.runs k).nodes) (by omega)) rfl rfl ?_|fail)
   refine⟨k+1,by omega,by omega,?_⟩
   refine zag ?_;exact zp (Ww hk')
  ·obtain rfl:k=s.runs.length:=by omega
   repeat'(first|(refine zhm fun hb=>?_;try exact zab)|refine zUtp ?_|refine zg2 ?_ ?_|intro _|fail)
   refine zr [8,1008,12,16,3,38] ?_ ?_
   repeat'(first|exact ze3|refine ze2 ?_ ?_|refine ze4 ?_|exact ze5|fail)
   all_goals exact zp (by first|rfl|rw[Xap])
theorem Qhr{s:Qd}(hs:Ql 100000000 s):zAc 82 [Qx s] [ZL s 0 1 2 3 4 5] (QbO s):=by
 refine zAC func82 fun w0 Z=>?_
 have hl:=Qf s.runs
 have h1:=hs.par;have h2:=hs.nod;have h3:=hs.up;have h4:=hs.que;have h5:=hs.run;have h6:=hs.end'
 repeat'(first|(refine zhm fun hb=>?_;try exact zab)|refine Qe ?_|(apply zch;exact zcg)|exact zhk|refine zg3 ?_ ?_|intro _|fail)
 refine Qa (fun(k:Nat)=>⟨54,[(1,.ptr 1 0),(2,.ptr 2 0),(3,.row 28),(30,zL (runE s.runs)),(31,zI (s.runs.length:Nat)),(32,zI k)],[(28,.row 170 (runE (s.runs.take k)) true),(6,.row 3 (intE s.topo.parents) true),(11,.row 225 (Qz s.topo.nodes) true),(18,.row 4 (Qq s.up) true),(23,.row 72 (jobE s.queue) true),(1,.box 49 [.row 6,.row 11,.row 18,zI s.lic.a,zI s.lic.b,zI s.lic.c,zI s.depth,zI s.now,.row 23,zL (runE s.runs),zL (endE s.ends)]),(2,.box 49 [.nil,.nil,.nil,zI 0,zI 0,zI 0,zI 0,zI 0,.nil,.nil,.nil])]⟩) (fun k=>k<=s.runs.length) (fun k=>s.runs.length-k) 0 (by exact Xab _) ?_ ?_
 ·exact zll
 ·intro k hk
  have hd2:(runE (s.runs.take k)).length=k:=by rw[Qf,Xai];omega
  by_cases hk':k<s.runs.length
  ·have hn:=hs.rno k hk'
   repeat'(first|(refine zhm fun hb=>?_;try exact zab)|refine zUtd ?_|(apply zch;exact zcg)|exact zhk|refine zg3 ?_ ?_|(apply YE;first|(refine Vd rfl rfl rfl ⟨rfl,rfl,rfl⟩ rfl rfl rfl rfl rfl rfl rfl rfl (QN fun _=>rfl) rfl rfl rfl rfl rfl ?_)|(refine JX rfl rfl rfl rfl rfl rfl rfl rfl ⟨rfl,rfl,rfl⟩ hd2 (rfl:_=1) (by omega) rfl rfl ?_))|refine zln fun _=>?_|refine zop ?_|intro _|fail)
   refine⟨k+1,by omega,by omega,?_⟩
   refine zag ?_;exact zp (Ww hk')
  ·obtain rfl:k=s.runs.length:=by omega
   repeat'(first|(refine zhm fun hb=>?_;try exact zab)|refine Qe ?_|(apply zch;exact zcg)|exact zhk|refine zg3 ?_ ?_|intro _|fail)
   refine zr [6,11,18,23,28,48] ?_ ?_
   repeat'(first|exact ze3|refine ze2 ?_ ?_|refine ze4 ?_|exact ze5|fail)
   all_goals exact zp (by first|rfl|rw[Xap])
structure Qpw (s:Qd):Prop where
 ok:Qp s=true
 que:s.queue.length=0
 run:s.runs.length=0
 end':s.ends.length=0
@[reducible] def stC (s:Qd) (q0 q1 q2 q3 q4 q5:Nat):List AV:=[.row q0,.row q1,.row q2,zI s.lic.a,zI s.lic.b,zI s.lic.c,zI s.depth,zI s.now,.row q3,.row q4,.row q5]
@[reducible] def ctl0:List AV:=[.nil,.nil,.nil,zI 0,zI 0,zI 0,zI 0,zI 0,.nil,.nil,.nil]
@[reducible] def ctlR (s:Qd):List (Nat×AO):=[(0,.row 3 (intE s.topo.parents) true),(1,.row 225 (Qz s.topo.nodes) true),(2,.row 4 (Qq s.up) true),(3,.row 72 (jobE s.queue) true),(4,.row 170 (runE s.runs) true),(5,.row 172 (endE s.ends) true),(6,.row 3 (intE s.topo.parents) true),(7,.row 225 (Qz s.topo.nodes) true),(8,.row 4 (Qq s.up) true),(9,.row 72 (jobE s.queue) true),(10,.row 170 (runE s.runs) true),(11,.row 172 (endE s.ends) true)]
theorem Qcn{s:Qd}(hs:Ql 100000000 s)(hf:Qpw s):zAc 57 [Qx s] [.agg (stC s 0 1 2 3 4 5++stC s 6 7 8 9 10 11++[.nil,zI 0,zI 0]),.d (.b true)] (ctlR s):=by
 refine zAC func57 fun w0 Z=>?_
 have c1:=Yo hs
 rw[hf.ok]at c1
 have h4:=hf.que;have h5:=hf.run;have h6:=hf.end'
 repeat'(first|(refine zhm fun hb=>?_;try exact zab)|refine Qe ?_|(apply zch;exact zcg)|exact zhk|refine zg3 ?_ ?_|refine kc (Jr hs) rfl rfl ?_|refine kq (Jr hs) rfl rfl ?_|intro _|fail)
 exact zr [23,1023,2023,3023,4023,5023,25,1025,2025,3025,4025,5025] zae zae
theorem Qfj{s:Qd}(hs:Ql 100000000 s)(hf:¬Qpw s):zAc 57 [Qx s] [.agg (ctl0++ctl0++[.nil,zI 0,zI 0]),.d (.b false)] []:=by
 refine zAC func57 fun w0 Z=>?_
 have c1:=Yo hs
 have h4:=hs.que;have h5:=hs.run;have h6:=hs.end'
 cases hok:Qp s with
 | true=>
  rw[hok]at c1
  have hn:0<s.queue.length+s.runs.length+s.ends.length:=by
   refine Nat.pos_of_ne_zero fun e=>hf ⟨hok,by omega,by omega,by omega⟩
  repeat'(first|(refine zhm fun hb=>?_;try exact zab)|refine Qe ?_|(apply zch;exact zcg)|exact zhk|refine zg3 ?_ ?_|intro _|fail)
  exact zrr
 | false=>
  rw[hok]at c1
  repeat'(first|(refine zhm fun hb=>?_;try exact zab)|refine Qe ?_|(apply zch;exact zcg)|exact zhk|refine zg3 ?_ ?_|intro _|fail)
  exact zrr
noncomputable def WP (s:Qd):Bool:=pB (Qpw s)
theorem Xt{s:Qd}(hs:Ql 100000000 s):zAc 52 [Qx s] [.d (.b (WP s))] []:=by
 refine zAC func52 fun w0 Z=>?_
 have c1:=YL hs
 have h4:=hs.que;have h5:=hs.run;have h6:=hs.end'
 cases hok:Qp s with
 | false=>
  rw[hok]at c1
  rw[show WP s=false from pB_f.2 fun h=>by rw[h.ok]at hok;cases hok]
  repeat'(first|(refine zhm fun hb=>?_;try exact zab)|refine zUtp ?_|refine zg2 ?_ ?_|intro _|fail)
  exact zrr
 | true=>
  rw[hok]at c1
  by_cases hq:s.queue.length=0
  ·by_cases hr:s.runs.length=0
   ·by_cases he:s.ends.length=0
    ·rw[show WP s=true from pB_t.2 ⟨hok,hq,hr,he⟩]
     repeat'(first|(refine zhm fun hb=>?_;try exact zab)|refine zUtp ?_|refine zg2 ?_ ?_|intro _|fail)
     refine zr [] ?_ ?_
     repeat'(first|exact ze3|refine ze2 ?_ ?_|refine ze4 ?_|exact ze5|fail)
     all_goals exact zp (by first|rfl|(rw[he];rfl)|exact beq_eq_false_iff_ne.2 (by omega))
    ·rw[show WP s=false from pB_f.2 fun h=>he h.end']
     repeat'(first|(refine zhm fun hb=>?_;try exact zab)|refine zUtp ?_|refine zg2 ?_ ?_|intro _|fail)
     refine zr [] ?_ ?_
     repeat'(first|exact ze3|refine ze2 ?_ ?_|refine ze4 ?_|exact ze5|fail)
     all_goals exact zp (by first|rfl|(rw[he];rfl)|exact beq_eq_false_iff_ne.2 (by omega))
   ·rw[show WP s=false from pB_f.2 fun h=>hr h.run]
    repeat'(first|(refine zhm fun hb=>?_;try exact zab)|refine zUtp ?_|refine zg2 ?_ ?_|intro _|fail)
    exact zrr
  ·rw[show WP s=false from pB_f.2 fun h=>hq h.que]
   repeat'(first|(refine zhm fun hb=>?_;try exact zab)|refine zUtp ?_|refine zg2 ?_ ?_|intro _|fail)
   exact zrr
theorem Qju{k:Nat}:zAc 150 [zL [],zI k] [zI k] []:=by
 refine zAC func150 fun w0 Z=>?_
 repeat'(first|(refine zhm fun hb=>?_;try exact zab)|refine zUtp ?_|refine zg2 ?_ ?_|intro _|fail)
 refine Qa (fun(_:Unit)=>⟨44,[(0,zL []),(1,zI k),(5,zI 0)],[]⟩) (fun _=>True) (fun _=>0) () trivial ?_ ?_
 ·exact zll
 ·intro i hi
  repeat'(first|(refine zhm fun hb=>?_;try exact zab)|refine zUtp ?_|refine zg2 ?_ ?_|intro _|fail)
  exact zrr
theorem Qja{k:Nat}:zAc 97 [zL [],zI k] [zI k] []:=by
 refine zAC func97 fun w0 Z=>?_
 repeat'(first|(refine zhm fun hb=>?_;try exact zab)|refine zUtp ?_|refine zg2 ?_ ?_|intro _|fail)
 refine Qa (fun(_:Unit)=>⟨21,[(0,zL []),(1,zI k),(5,zI 0)],[]⟩) (fun _=>True) (fun _=>0) () trivial ?_ ?_
 ·exact zll
 ·intro i hi
  repeat'(first|(refine zhm fun hb=>?_;try exact zab)|refine zUtp ?_|refine zg2 ?_ ?_|intro _|fail)
  exact zrr
theorem Qli{k:Nat}:zAc 98 [zL [],zI k] [zI k] []:=by
 refine zAC func98 fun w0 Z=>?_
 repeat'(first|(refine zhm fun hb=>?_;try exact zab)|refine zUtp ?_|refine zg2 ?_ ?_|intro _|fail)
 refine Qa (fun(_:Unit)=>⟨96,[(0,zL []),(1,zI k),(5,zI 0)],[]⟩) (fun _=>True) (fun _=>0) () trivial ?_ ?_
 ·exact zll
 ·intro i hi
  repeat'(first|(refine zhm fun hb=>?_;try exact zab)|refine zUtp ?_|refine zg2 ?_ ?_|intro _|fail)
  exact zrr
theorem QlW{k:Nat}:zAc 99 [zL [],zI k] [zI k] []:=by
 refine zAC func99 fun w0 Z=>?_
 repeat'(first|(refine zhm fun hb=>?_;try exact zab)|refine zUtp ?_|refine zg2 ?_ ?_|intro _|fail)
 refine Qa (fun(_:Unit)=>⟨121,[(0,zL []),(1,zI k),(5,zI 0)],[]⟩) (fun _=>True) (fun _=>0) () trivial ?_ ?_
 ·exact zll
 ·intro i hi
  repeat'(first|(refine zhm fun hb=>?_;try exact zab)|refine zUtp ?_|refine zg2 ?_ ?_|intro _|fail)
  exact zrr
theorem Qmg{k:Nat}:zAc 100 [zL [],zI k] [zI k] []:=by
 refine zAC func100 fun w0 Z=>?_
 repeat'(first|(refine zhm fun hb=>?_;try exact zab)|refine zUtp ?_|refine zg2 ?_ ?_|intro _|fail)
 refine Qa (fun(_:Unit)=>⟨34,[(0,zL []),(1,zI k),(5,zI 0)],[]⟩) (fun _=>True) (fun _=>0) () trivial ?_ ?_
 ·exact zll
 ·intro i hi
  repeat'(first|(refine zhm fun hb=>?_;try exact zab)|refine zUtp ?_|refine zg2 ?_ ?_|intro _|fail)
  exact zrr
theorem XZ{k:Nat}:zAc 26 [zL [],zI k] [zI k] []:=by
 refine zAC func26 fun w0 Z=>?_
 repeat'(first|(refine zhm fun hb=>?_;try exact zab)|refine zUtp ?_|refine zg2 ?_ ?_|intro _|fail)
 refine Qa (fun(_:Unit)=>⟨20,[(0,zL []),(1,zI k),(5,zI 0)],[]⟩) (fun _=>True) (fun _=>0) () trivial ?_ ?_
 ·exact zll
 ·intro i hi
  repeat'(first|(refine zhm fun hb=>?_;try exact zab)|refine zUtp ?_|refine zg2 ?_ ?_|intro _|fail)
  exact zrr
@[reducible] def jn0:AV:=.agg [zL [],zI 0,zI 0]
theorem Qfm{k:Nat}:zAc 75 [jn0,zI k] [zI k] []:=by
 refine zAC func75 fun w0 Z=>?_
 repeat'(first|(refine zhm fun hb=>?_;try exact zab)|refine zUto ?_|refine zg2 ?_ ?_|refine zqj XZ ?_|intro _|fail)
 exact zrr
theorem QlN{k:Nat}:zAc 96 [.agg [zL [],zL []],zI k] [zI k] []:=by
 refine zAC func96 fun w0 Z=>?_
 repeat'(first|(refine zhm fun hb=>?_;try exact zab)|refine zUto ?_|refine zg2 ?_ ?_|refine zqj Qey ?_|refine zqj Qju ?_|intro _|fail)
 exact zrr
@[reducible] def st0:List AV:=[zL [],zL [],zL [],zI 0,zI 0,zI 0,zI 0,zI 0,zL [],zL [],zL []]
theorem Qi2{k:Nat}:zAc 34 [.agg st0,zI k] [zI k] []:=by
 refine zAC func34 fun w0 Z=>?_
 repeat'(first|(refine zhm fun hb=>?_;try exact zab)|refine zUto ?_|refine zg2 ?_ ?_|refine zqj QlN ?_|refine zqj Qja ?_|refine zqj Qli ?_|refine zqj QlW ?_|refine zqj Qmg ?_|intro _|fail)
 exact zrr
theorem QgF{k:Nat}:zAc 25 [.agg (st0++st0++[zL [],zI 0,zI 0]),zI k] [zI k] []:=by
 refine zAC func25 fun w0 Z=>?_
 repeat'(first|(refine zhm fun hb=>?_;try exact zab)|refine zUto ?_|refine zg2 ?_ ?_|refine zqj Qi2 ?_|refine zqj Qfm ?_|intro _|fail)
 exact zrr
@[reducible] def ctlD (a b:Qd):AV:=.agg (JB a++JB b++[zL [],zI 0,zI 0])
@[reducible] def ctlM (s t:Qd):List (Nat×AO):=[(1000000,.row 3 (intE s.topo.parents) true),(1000001,.row 225 (Qz s.topo.nodes) true),(1000002,.row 4 (Qq s.up) true),(1000003,.row 72 (jobE s.queue) true),(1000004,.row 170 (runE s.runs) true),(1000005,.row 172 (endE s.ends) true),(1000006,.row 3 (intE t.topo.parents) true),(1000007,.row 225 (Qz t.topo.nodes) true),(1000008,.row 4 (Qq t.up) true),(1000009,.row 72 (jobE t.queue) true),(1000010,.row 170 (runE t.runs) true),(1000011,.row 172 (endE t.ends) true)]
def zS:Qd:=⟨⟨[],[]⟩,[],zV,0,0,[],[],[]⟩
theorem QjN(n:Nat):Ql n zS:=⟨Xab _,Xab _,Xab _,Xab _,Xab _,Xab _,fun _ hj=>absurd hj (Xas _)⟩
end
end Go.Proofs.YtihgfennoalocaaGreat
