/-
  Fail, both.
-/
import Derived.Test.YtihgfennoalocaaGreatKB32
import Derived.Test.YtihgfennoalocaaGreatKB25
set_option maxRecDepth 100000
set_option maxHeartbeats 16000000
namespace Go.Proofs.YtihgfennoalocaaGreat
open Go Go.RowKit Tryz
section
attribute [local irreducible] AWp QJ OpOk ACalls ChA QsOk MCalls NCalls EnC PY

theorem Qhe{l:List Job}(h1:l.length<=60)(h2:∀x∈l,Qu x=true)(h3:(l.map Job.id).Nodup):Jm l:=by
 refine⟨h1,fun i hi=>h2 _ (QO hi),fun i hi k hk e=>?_⟩
 have:=Xbm.1 h3 k i (by rw[Xah];omega) (by rw[Xah];exact hi) hk
 apply this
 rw[Xca,Xca,<-Ja hi,<-Ja (by omega)]
 exact e
theorem Jm.sub{l l':List Job}(h:Jm l)(hs:l'.Sublist l):Jm l':=Qhe (Xao hs.length_le h.len) (fun x hx=>h.ok x (hs.subset hx)) ((hs.map Job.id).nodup h.nodup)
theorem Qcc{s:Qd}{p:Run->Bool}:(s.queue++YO p s.runs).Sublist (allJ s):=List.Sublist.append (XcD _) ((XaE).map _)
theorem Qgq{p:Run->Bool}{l:List Run}{j:Nat}(hj:j<(JS p l).length):nth (JS p l) j∈l:=(XaF.1 (QO hj)).1
theorem QaO{p:Run->Bool}{l:List Run}:(JS p l).length<=l.length:=Xa1 _ _
theorem Qqg{p:Run->Bool}{l:List Run}:(YO p l).length<=l.length:=by rw[YO,Xah];exact Xa1 _ _
theorem Xg{now why:Int}{p:Run->Bool}{l:List Run}:(QS now why p l).length<=l.length:=by rw[QS,Xah];exact Xa1 _ _
def Yb(n:Int)(r:Run):Bool:=hasI r.nodes n
def fail1(s:Qd)(n:Int):Qd:={ s with up:=s.up.set n.toNat false,queue:=s.queue++YO (Yb n) s.runs,runs:=JS (Yb n) s.runs,ends:=s.ends++QS s.now 4 (Yb n) s.runs }
noncomputable def XC (s:Qd) (n:Int):Option Qd×Int:=
 if Qp s=true then
  if 0<=n/\n<s.up.length/\nth s.up n.toNat=true then
   if 300<(s.ends++QS s.now 4 (Yb n) s.runs).length then(none,6) else(some (JH (fail1 s n)),0)
  else(none,7)
 else(none,1)
theorem Quy{s:Qd}(h:Jm (allJ s)){r:Run}(hr:r∈s.runs):Qu r.job=true:=h.ok _ (Xav _ (Xad.2 ⟨r,hr,rfl⟩))
theorem Qt6{j:Job}(h:Qu j=true):1<=j.id/\j.id<=999:=by
 simp only[Qu,Xaf,Yr]at h;omega
theorem Qhx{s:Qd}{n:Int}(h:Jm (allJ s)):∀r∈s.runs,Ys 0 n r=Yb n r:=fun r hr=>by
 have:=Qt6 (Quy h hr)
 unfold Ys Yb
 rw[show(r.job.id==0)=false by rw[beq_eq_false_iff_ne];omega,Bool.false_or]
theorem Qpg{p q:Run->Bool}{l:List Run}(h:∀r∈l,p r=q r):l.filter p=l.filter q:=Xb0 h
theorem QmH{p q:Run->Bool}{l:List Run}(h:∀r∈l,p r=q r):JS p l=JS q l:=Xb0 fun r hr=>by rw[h r hr]
theorem Qkt{now why:Int}{p q:Run->Bool}{l:List Run}(h:∀r∈l,p r=q r):QS now why p l=QS now why q l:=by unfold QS;rw[Qpg h]
theorem Qbe{n:Nat}{s:Qd}{x:Int}(h:Ql 1048576 s)(hk:Jm (allJ s))(he:¬300<(s.ends++QS s.now 4 (Yb x) s.runs).length)(hn:1048576<=n):Ql n (fail1 s x):=by
 have h1:=(hk.sub (Qcc (s:=s) (p:=Yb x))).len
 have h2:=QaO (p:=Yb x) (l:=s.runs)
 have h3:=h.run
 refine⟨Xao h.par hn,Xao h.nod hn,by rw[fail1,Xak];exact Xao h.up hn,by simp only[fail1];omega,by simp only[fail1];omega,by simp only[fail1];omega,fun j hj=>?_⟩
 obtain⟨i,hi,e⟩:=J1 (Qgq hj)
 rw[show(fail1 s x).runs=JS (Yb x) s.runs from rfl,<-e]
 exact Xao (h.rno i hi) hn
@[reducible] def Qn9 (s:Qd) (u q r e:List (List D)):AV:=.agg [zL (intE s.topo.parents),zL (Qz s.topo.nodes),zL u,zI s.lic.a,zI s.lic.b,zI s.lic.c,zI s.depth,zI s.now,zL q,zL r,zL e]
@[reducible] def Qsh (s:Qd) (u q:List (List D)) (q1 q2:Nat):List AV:=[zL (intE s.topo.parents),zL (Qz s.topo.nodes),zL u,zI s.lic.a,zI s.lic.b,zI s.lic.c,zI s.depth,zI s.now,zL q,.row q1,.row q2]
theorem Qu1{s:Qd}{n:Int}:Qx (fail1 s n)=Qn9 s ((Qq s.up).set n.toNat [.b false]) (jobE s.queue++jobE (YO (Yb n) s.runs)) (runE (JS (Yb n) s.runs)) (endE (s.ends++QS s.now 4 (Yb n) s.runs)):=by rw[QaT,Qqs];rfl
theorem QtU{s:Qd}{n:Int}{q1 q2:Nat}:Wu (fail1 s n) q1 q2=Qsh s ((Qq s.up).set n.toNat [.b false]) (jobE (s.queue++YO (Yb n) s.runs)) q1 q2:=by rw[QaT];rfl
theorem Qo4{n:Int}{r:Run}(h:r.nodes.length<=1000000000):zAc 258 [runA r,.pd [.n .i64 n] 0] [.d (.b (Yb n r))] []:=by
 refine zAC func258 fun w0 Z=>?_
 repeat'(first|(refine zhm fun hb=>?_;try exact zab)|refine zUto ?_|refine zg2 ?_ ?_|refine kc (WM (l:=r.nodes) (x:=n) h) rfl rfl ?_|intro _|fail)
 exact zrr
theorem QuE{s:Qd}{n:Int}(hs:Ql 1048576 s):SO 202 [Qx s,zI n] (XC s n).1 (XC s n).2:=by
 refine zAC func202 fun w0 Z=>?_
 have hm:Ql 100000000 s:=hs.mono (by omega)
 have c1:=Yo hm
 unfold XC
 cases h:Qp s with
 | false=>
  rw[h]at c1
  rw[if_neg (by decide)]
  repeat'(first|(refine zhm fun hb=>?_;try exact zab)|refine zUtp ?_|refine zg2 ?_ ?_|intro _|fail)
  exact zrr
 | true=>
  rw[h]at c1
  rw[if_pos rfl]
  have hk:=Qar h
  have hbl:=Qo s.up
  have hbl2:=hs.up
  by_cases hn:0<=n/\n<s.up.length/\nth s.up n.toNat=true
  ·rw[if_pos hn]
   obtain⟨h1,h2,h3⟩:=hn
   have hnn:n=(n.toNat:Int):=by omega
   have hql:=hk.jobs.left.len
   have hqe:=Qk s.queue
   have hgl:=Qqg (p:=Yb n) (l:=s.runs)
   have hge:=Qk (YO (Yb n) s.runs)
   have hrl:=hs.run
   have hel:=QC (s.ends++QS s.now 4 (Yb n) s.runs)
   have hle:(s.ends++QS s.now 4 (Yb n) s.runs).length=s.ends.length+(QS s.now 4 (Yb n) s.runs).length:=Xac
   have hle2:=Xg (now:=s.now) (why:=4) (p:=Yb n) (l:=s.runs)
   have hle3:=hs.end'
   have c3:=Qol (s:=s) (why:=4) (p:=Yb n) (g:=258) (ds:=[.n .i64 n]) (u:=(Qq s.up).set n.toNat [.b false]) hm (fun r hr=>by
    obtain⟨i,hi,e⟩:=J1 hr
    exact Qo4 (by rw[<-e];have:=hs.rno i hi;omega))
   by_cases h6:300<(s.ends++QS s.now 4 (Yb n) s.runs).length
   ·rw[if_pos h6]
    repeat'(first|(refine zhm fun hb=>?_;try exact zab)|(refine Qi 7 28 rfl ?_)|(refine Y9 7 3 rfl rfl ?_)|refine zUtp ?_|refine zg2 ?_ ?_|refine zqj QX ?_|refine kmu (QdT hm) ?_|(refine kn2 [2,1028,2028] (c3) rfl rfl (fun i hi=>?_);try dsimp only at hi)|intro _|fail)
    all_goals first
     | (exfalso;omega)
     | (exfalso;rw[h3]at hb;cases hb;done)
     | skip
    exact zrr
   ·rw[if_neg h6]
    have hsm:=Qbe (n:=100000000) hs hk.jobs h6 (by omega)
    have c7:=W7 (s:=fail1 s n) hsm ⟨hk.jobs.sub Qcc,hk.depth⟩
    rw[Qu1]at c7
    repeat'(first|(refine zhm fun hb=>?_;try exact zab)|(refine Qi 7 28 rfl ?_)|(refine Y9 7 3 rfl rfl ?_)|refine zUtp ?_|refine zg2 ?_ ?_|refine zqj QX ?_|refine kmu (QdT hm) ?_|(refine kn2 [2,1028,2028] (c3) rfl rfl (fun i hi=>?_);try dsimp only at hi)|intro _|fail)
    all_goals first
     | (exfalso;omega)
     | (exfalso;rw[h3]at hb;cases hb;done)
     | skip
    exact zr [46,1046,2046,3046,4046,5046] zae zae
  ·rw[if_neg hn]
   repeat'(first|(refine zhm fun hb=>?_;try exact zab)|refine zUtp ?_|refine zg2 ?_ ?_|refine zqj QX ?_|intro _|fail)
   all_goals first
    | (exfalso;exact hn ⟨by omega,by omega,by assumption⟩)
    | skip
   any_goals
    refine zr [] ?_ ?_
    repeat'(first|exact ze3|refine ze2 ?_ ?_|refine ze4 ?_|exact ze5|fail)
    all_goals exact zp rfl
theorem Que{s:Qd}{n:Int}(hs:Ql 1048576 s):SS 184 [Qx s,zI n] (XC s n).1 (XC s n).2:=by
 refine zMC func184 fun w0 Z O=>?_
 have hm:Ql 100000000 s:=hs.mono (by omega)
 have c1:=YL hm
 unfold XC
 cases h:Qp s with
 | false=>
  rw[h]at c1
  rw[if_neg (by decide)]
  repeat'(first|(refine zhm fun hb=>?_;try exact zab)|refine zUrp ?_|refine zg2 ?_ ?_|intro _|fail)
  exact zDR
 | true=>
  rw[h]at c1
  rw[if_pos rfl]
  have hk:=Qar h
  have hup:=hk.up
  have hbl:=Qo s.up
  have hbl2:=hs.up
  have c3:=Qg9 (s:=s) (n:=n)
  by_cases hn0:0<=n/\n<s.up.length
  ·rw[decide_eq_true hn0.1,decide_eq_true (show n<s.topo.nodes.length by omega)]at c3
   obtain⟨h1,h2⟩:=hn0
   have hnn:n=(n.toNat:Int):=by omega
   cases h3:nth s.up n.toNat with
   | false=>
    rw[if_neg (fun h=>by cases h.2.2)]
    repeat'(first|(refine zhm fun hb=>?_;try exact zab)|refine zUrp ?_|refine zg2 ?_ ?_|intro _|fail)
    all_goals first
     | (exfalso;rw[h3]at hb;cases hb;done)
     | skip
    exact zDR
   | true=>
    rw[if_pos ⟨h1,h2,rfl⟩]
    have hql:=hk.jobs.left.len
    have hrl:=hs.run
    have hrl2:=Qf s.runs
    have hel:=QC (s.ends++QS s.now 4 (Yb n) s.runs)
    have hle:(s.ends++QS s.now 4 (Yb n) s.runs).length=s.ends.length+(QS s.now 4 (Yb n) s.runs).length:=Xac
    have hle2:=Xg (now:=s.now) (why:=4) (p:=Yb n) (l:=s.runs)
    have hle3:=hs.end'
    repeat'(first|(refine zhm fun hb=>?_;try exact zab)|refine zUrp ?_|refine zg2 ?_ ?_|refine kmu (Qm8 hm) ?_|intro _|fail)
    all_goals first
     | (exfalso;rw[h3]at hb;cases hb;done)
     | skip
    refine Qa (fun(k:Nat)=>⟨60,[(1,zI n),(2,.ptr 2 0),(4,.ptr 4 0),(28,zL (runE s.runs)),(29,zI (s.runs.length:Nat)),(30,zI k)],[(2,.box 49 (QoD s (.row 26) (.row 1026) 2026)),(4,.box 49 ctl0),(26,.row 4 (Qq s.up) true),(1026,.row 72 (jobE (s.queue++YO (Yb n) (s.runs.take k))) true),(2026,.row 172 (endE s.ends) true)]⟩) (fun k=>k<=s.runs.length) (fun k=>s.runs.length-k) 0 (by exact Xab _) ?_ ?_
    ·refine⟨rfl,?_,?_,rfl⟩
     repeat'(first|exact ze3|refine ze2 ?_ ?_|refine ze4 ?_|exact ze5|fail)
     all_goals exact zp (by first|rfl|exact Qf _|(simp[YO];done))
    intro k hk'
    have hd1:=Qk (s.queue++YO (Yb n) (s.runs.take k))
    have hd2:(s.queue++YO (Yb n) (s.runs.take k)).length=s.queue.length+(YO (Yb n) (s.runs.take k)).length:=Xac
    have hd3:=Qdu (p:=Yb n) (l:=s.runs) (i:=k)
    by_cases hk2:k<s.runs.length
    ·have hno:=hs.rno k hk2
     have c4:=Wp (l:=(nth s.runs k).nodes) (x:=n) (by omega)
     cases hp:hasI (nth s.runs k).nodes n with
     | true=>
      rw[hp]at c4
      have e1:=Qdy (p:=Yb n) hk2 hp
      generalize YO (Yb n) (s.runs.take k)=gj at *
      repeat'(first|(refine zhm fun hb=>?_;try exact zab)|refine zUrp ?_|refine zg2 ?_ ?_|intro _|fail)
      refine⟨k+1,by omega,by omega,?_⟩
      refine zag ?_;exact zp (by(rw[e1,<-Xaq];exact Yw _ _))
     | false=>
      rw[hp]at c4
      have e1:=Qgk (p:=Yb n) hk2 hp
      repeat'(first|(refine zhm fun hb=>?_;try exact zab)|refine zUrp ?_|refine zg2 ?_ ?_|intro _|fail)
      refine⟨k+1,by omega,by omega,?_⟩
      refine zag ?_;exact zp (by(rw[e1];done))
    ·obtain rfl:k=s.runs.length:=by omega
     rw[Xap]at *
     have c5:=Qpe (s:={ s with queue:=s.queue++YO (Yb n) s.runs }) (why:=4) (id:=0) (node:=n) ⟨hm.par,hm.nod,hm.up,by dsimp only;omega,hm.run,hm.end',hm.rno⟩
     dsimp only[QbY]at c5
     rw[QmH (Qhx hk.jobs),Qkt (Qhx hk.jobs)]at c5
     by_cases h6:300<(s.ends++QS s.now 4 (Yb n) s.runs).length
     ·rw[if_pos h6]
      repeat'(first|(refine zhm fun hb=>?_;try exact zab)|(refine Qi 12 1026 rfl ?_)|refine zUrp ?_|refine zg2 ?_ ?_|(refine kn [26,2026] (c5) rfl rfl (fun i hi=>?_);try dsimp only at hi)|intro _|fail)
      exact zDR
     ·rw[if_neg h6]
      have hsm:=Qbe (n:=100000000) hs hk.jobs h6 (by omega)
      have c7:=Wi (s:=fail1 s n) hsm ⟨hk.jobs.sub Qcc,hk.depth⟩
      rw[QtU]at c7
      repeat'(first|(refine zhm fun hb=>?_;try exact zab)|(refine Qi 12 1026 rfl ?_)|(refine Qi 16 2048 rfl ?_)|refine zUrp ?_|refine zg2 ?_ ?_|(refine kn [26,2026] (c5) rfl rfl (fun i hi=>?_);try dsimp only at hi)|(refine kn [48,1048] (c7) rfl rfl (fun i hi=>?_);try dsimp only at hi)|intro _|fail)
      show AWp _ _ _ _
      refine Qs 59 rfl ?_
      show AWp _ _ _ _
      refine Qs 1059 rfl ?_
      exact zDR
  ·rw[show(decide (0<=n)&&decide (n<s.topo.nodes.length))=false by simp;omega]at c3
   rw[if_neg (fun h=>hn0 ⟨h.1,h.2.1⟩)]
   repeat'(first|(refine zhm fun hb=>?_;try exact zab)|refine zUrp ?_|refine zg2 ?_ ?_|intro _|fail)
   exact zDR
theorem Qjm{s:Qd}{n:Int}(hs:Ql 1048576 s):∀s',(XC s n).1=some s'->Ql 1048576 s':=fun s' h=>by
 unfold XC at h
 split at h
 ·rename_i h1
  have hk:=Qar h1
  split at h
  ·split at h
   ·cases h
   ·rename_i h3
    cases h
    exact W8 ⟨hk.jobs.sub Qcc,hk.depth⟩ (Qbe hs hk.jobs h3 (Xam _)) (by have:=XR h1;have:=QaO (p:=Yb n) (l:=s.runs);simp only[fail1];omega)
  ·cases h
 ·cases h

theorem QiK{l:List Run}{p:Run->Bool}{g:FuncId}{ds:List D}(h:l.length<=1000000000)(hg:∀j,zAc g [runA j,.pd ds 0] [.d (.b (p j))] []):zAc 290 [zL (runE l),.clo g [.pd ds 0]] [zI (idxF l p)] []:=by
 refine zAC func290 fun w0 Z=>?_
 have hl:=Qf l
 repeat'(first|(refine zhm fun hb=>?_;try exact zab)|refine zUtp ?_|refine zg2 ?_ ?_|intro _|fail)
 refine Qa (fun(i:Nat)=>⟨19,[(0,zL (runE l)),(1,.clo g [.pd ds 0]),(7,zI (l.length:Nat)),(8,zI i)],[]⟩) (fun i=>i<=l.length/\∀j,j<i->p (nth l j)=false) (fun i=>l.length-i) 0 (by exact⟨Xab _,fun j hj=>absurd hj (Xas _)⟩) ?_ ?_
 ·exact zll
 ·rintro i ⟨hi,hp⟩
  by_cases hi':i<l.length
  ·repeat'(first|(refine zhm fun hb=>?_;try exact zab)|refine zUtp ?_|refine zg2 ?_ ?_|refine kv (hg (nth l i)) rfl rfl rfl rfl rfl ?_|intro _|fail)
   ·rw[Qfq hi' (by assumption) hp]
    exact zrr
   ·refine⟨i+1,⟨by omega,fun j hj=>?_⟩,by omega,?_⟩
    ·by_cases e:j=i
     ·subst e;assumption
     ·exact hp j (by omega)
    exact zll
  ·rw[Qpc (fun j hj=>hp j (by omega))]
   repeat'(first|(refine zhm fun hb=>?_;try exact zab)|refine zUtp ?_|refine zg2 ?_ ?_|intro _|fail)
   exact zrr
theorem Qep{l:List Run}{p:Run->Bool}{g:FuncId}{ds:List D}(h:l.length<=1000000000)(hg:∀j,zAc g [runA j,.pd ds 0] [.d (.b (p j))] []):zAc 253 [zL (runE l),.clo g [.pd ds 0]] [.d (.b (l.any p))] []:=by
 refine zAC func253 fun w0 Z=>?_
 repeat'(first|(refine zhm fun hb=>?_;try exact zab)|refine zUto ?_|refine zg2 ?_ ?_|refine kc (QiK h hg) rfl rfl ?_|intro _|fail)
 refine zr [] ?_ ?_
 repeat'(first|exact ze3|refine ze2 ?_ ?_|refine ze4 ?_|exact ze5|fail)
 all_goals exact zp (Qci l p)
def finP(id:Int)(r:Run):Bool:=r.job.id==id
theorem QmC{id:Int}(r:Run):zAc 254 [runA r,.pd [.n .i64 id] 0] [.d (.b (finP id r))] []:=by
 refine zAC func254 fun w0 Z=>?_
 repeat'(first|(refine zhm fun hb=>?_;try exact zab)|refine zUto ?_|refine zg2 ?_ ?_|intro _|fail)
 exact zrr
theorem Qpb{id:Int}(r:Run):zAc 256 [runA r,.pd [.n .i64 id] 0] [.d (.b (finP id r))] []:=by
 refine zAC func256 fun w0 Z=>?_
 repeat'(first|(refine zhm fun hb=>?_;try exact zab)|refine zUto ?_|refine zg2 ?_ ?_|intro _|fail)
 exact zrr
def finR(s:Qd)(id why:Int):Qd:={ s with runs:=JS (finP id) s.runs,ends:=s.ends++QS s.now why (finP id) s.runs }
def finQ(s:Qd)(id why:Int):Qd:={ s with queue:=outJ s.queue id,ends:=s.ends++[⟨id,s.now,why⟩] }
noncomputable def fnsO (s:Qd) (id why:Int):Option Qd×Int:=
 if Qp s=true/\(why=2\/why=3) then
  if s.runs.any (finP id)=true then
   if 300<=s.ends.length then(none,6) else(some (JH (finR s id why)),0)
  else if s.queue.any (fun x=>x.id==id)=true/\why=3 then
   if 300<=s.ends.length then(none,6) else(some (JH (finQ s id why)),0)
  else(none,5)
 else(none,1)
theorem QfE{l:List Job}{id:Int}:(outJ l id).Sublist l:=XaE
theorem Qbf{s:Qd}{id why:Int}{n:Nat}(h:Ql 1048576 s)(he:¬300<=s.ends.length)(hr:s.runs.length<=60)(hn:1048576<=n):Ql n (finR s id why):=by
 have h1:=QaO (p:=finP id) (l:=s.runs)
 have h2:=Xg (now:=s.now) (why:=why) (p:=finP id) (l:=s.runs)
 have h3:=h.que
 have hl:(s.ends++QS s.now why (finP id) s.runs).length=s.ends.length+(QS s.now why (finP id) s.runs).length:=Xac
 refine⟨Xao h.par hn,Xao h.nod hn,Xao h.up hn,Xao h.que hn,by simp only[finR];omega,by simp only[finR];omega,fun j hj=>?_⟩
 obtain⟨i,hi,e⟩:=J1 (Qgq hj)
 rw[show(finR s id why).runs=JS (finP id) s.runs from rfl,<-e]
 exact Xao (h.rno i hi) hn
theorem Z9{s:Qd}{id why:Int}{n:Nat}(h:Ql 1048576 s)(he:¬300<=s.ends.length)(hn:1048576<=n):Ql n (finQ s id why):=by
 have h1:=(QfE (l:=s.queue) (id:=id)).length_le
 have h3:=h.que
 exact⟨Xao h.par hn,Xao h.nod hn,Xao h.up hn,by simp only[finQ];omega,Xao h.run hn,by simp only[finQ,Xac,XaG];omega,fun j hj=>Xao (h.rno j hj) hn⟩
theorem Quv{s:Qd}{id why:Int}:Qx (finR s id why)=Qn9 s (Qq s.up) (jobE s.queue) (runE (JS (finP id) s.runs)) (endE (s.ends++QS s.now why (finP id) s.runs)):=rfl
theorem Qud{s:Qd}{id why:Int}:Qx (finQ s id why)=Qn9 s (Qq s.up) (jobE (outJ s.queue id)) (runE s.runs) (endE s.ends++[[.n .i64 id,.n .i64 s.now,.n .i64 why]]):=by
 rw[show endE s.ends++[[.n .i64 id,.n .i64 s.now,.n .i64 why]]=endE (s.ends++[⟨id,s.now,why⟩]) from YJ _ ⟨_,_,_⟩];rfl
theorem QuO{s:Qd}(h:Qp s=true){r:Run}(hr:r∈s.runs):hasI r.nodes (-1)=false:=by
 obtain⟨i,hi,rfl⟩:=J1 hr
 have hd:=((QbS h).runs i hi).2.nodes
 cases hh:hasI (nth s.runs i).nodes (-1) with
 | false=>rfl
 | true=>
  have:(-1:Int)∈(nth s.runs i).nodes:=by simpa [hasI] using hh
  obtain⟨k,hk,e⟩:=J1 this
  have:=(hd k hk).1
  omega
theorem QfP{s:Qd}{id:Int}(h:Qp s=true):∀r∈s.runs,Ys id (-1) r=finP id r:=fun r hr=>by
 unfold Ys finP
 rw[QuO h hr,Bool.or_false]
theorem Qpo{s:Qd}{id:Int}(h:Qp s=true)(hn:s.runs.any (finP id)=false):∀r∈s.runs,Ys id (-1) r=false:=fun r hr=>by
 rw[QfP h r hr]
 cases hh:finP id r with
 | false=>rfl
 | true=>rw[XaX.2 ⟨r,hr,hh⟩]at hn;cases hn
theorem Qpp{p:Run->Bool}{l:List Run}(h:∀r∈l,p r=false):JS p l=l:=by
 unfold JS
 rw[Xcy]
 intro r hr
 rw[h r hr];rfl
theorem Qmh{now why:Int}{p:Run->Bool}{l:List Run}(h:∀r∈l,p r=false):QS now why p l=[]:=by
 unfold QS
 rw[Xch.2 (fun r hr=>by rw[h r hr];decide)]
 rfl
theorem QqM{s:Qd}{id:Int}(hk:Jm (allJ s))(h:s.runs.any (finP id)=true):s.queue.any (fun x=>x.id==id)=false:=by
 cases hh:s.queue.any (fun x=>x.id==id) with
 | false=>rfl
 | true=>
  exfalso
  obtain⟨x,hx,e1⟩:=XaX.1 hh
  obtain⟨r,hr,e2⟩:=XaX.1 h
  have hn:=hk.nodup
  rw[allJ,XaI,Xbe]at hn
  refine hn.2.2 x.id (Xad.2 ⟨x,hx,rfl⟩) r.job.id (Xad.2 ⟨r.job,Xad.2 ⟨r,hr,rfl⟩,rfl⟩) ?_
  rw[beq_iff_eq.1 e1]
  exact(beq_iff_eq.1 e2).symm
theorem QsU{s:Qd}{id:Int}:(allJ s).any (fun x=>x.id==id)=(s.queue.any (fun x=>x.id==id)||s.runs.any (finP id)):=by
 rw[allJ,List.any_append,List.any_map]
 rfl
theorem Qk5{s:Qd}{id why:Int}(hs:Ql 1048576 s):SO 201 [Qx s,zI id,zI why] (fnsO s id why).1 (fnsO s id why).2:=by
 refine zAC func201 fun w0 Z=>?_
 have hm:Ql 100000000 s:=hs.mono (by omega)
 have c1:=Yo hm
 unfold fnsO
 cases h:Qp s with
 | false=>
  rw[h]at c1
  rw[if_neg (fun h=>by cases h.1)]
  repeat'(first|(refine zhm fun hb=>?_;try exact zab)|refine zUtp ?_|refine zg2 ?_ ?_|intro _|fail)
  all_goals
   exact zrr
 | true=>
  rw[h]at c1
  by_cases hw:why=2\/why=3
  ·rw[if_pos ⟨rfl,hw⟩]
   have hk:=Qar h
   have hrl:=XR h
   have hrm:=hs.run
   have hqm:=hs.que
   have hem:=hs.end'
   have hql:=hk.jobs.left.len
   have hqe:=Qk s.queue
   have hee:=QC s.ends
   have c2:=Qep (l:=s.runs) (p:=finP id) (g:=254) (ds:=[.n .i64 id]) (by omega) QmC
   have c3:=QiH (l:=s.queue) (id:=id) (by omega)
   have hix:=Qci s.queue fun x=>x.id==id
   cases hr:s.runs.any (finP id) with
   | true=>
    rw[hr]at c2
    rw[if_pos rfl]
    by_cases h6:300<=s.ends.length
    ·rw[if_pos h6]
     repeat'(first|(refine zhm fun hb=>?_;try exact zab)|(refine Y9 3 4 rfl rfl ?_)|refine zUtp ?_|refine zg2 ?_ ?_|intro _|fail)
     all_goals
      exact zrr
    ·rw[if_neg h6]
     have c4:=Qol (s:=s) (why:=why) (p:=finP id) (g:=256) (ds:=[.n .i64 id]) (u:=Qq s.up) hm (fun r _=>Qpb r)
     have c7:=W7 (s:=finR s id why) (Qbf hs h6 hrl (by omega)) ⟨hk.jobs.left,hk.depth⟩
     rw[Quv]at c7
     repeat'(first|(refine zhm fun hb=>?_;try exact zab)|(refine Y9 3 4 rfl rfl ?_)|refine zUtp ?_|refine zg2 ?_ ?_|refine kmu (QcG hm) ?_|(refine kn2 [3,47,1047] (c4) rfl rfl (fun i hi=>?_);try dsimp only at hi)|intro _|fail)
     all_goals first
      | (exfalso;omega)
      | skip
     all_goals
      exact zr [70,1070,2070,3070,4070,5070] zae zae
   | false=>
    rw[hr]at c2
    rw[if_neg (show ¬(false=true) by decide)]
    cases hq:s.queue.any (fun x=>x.id==id) with
    | false=>
     rw[hq,decide_eq_false_iff_not]at hix
     rw[if_neg (fun h=>by cases h.1)]
     repeat'(first|(refine zhm fun hb=>?_;try exact zab)|(refine Y9 3 4 rfl rfl ?_)|refine zUtp ?_|refine zg2 ?_ ?_|intro _|fail)
     all_goals
      exact zrr
    | true=>
     rw[hq,decide_eq_true_eq]at hix
     by_cases h3:why=3
     ·rw[if_pos ⟨rfl,h3⟩]
      by_cases h6:300<=s.ends.length
      ·rw[if_pos h6]
       repeat'(first|(refine zhm fun hb=>?_;try exact zab)|(refine Y9 3 4 rfl rfl ?_)|refine zUtp ?_|refine zg2 ?_ ?_|intro _|fail)
       all_goals
        exact zrr
      ·rw[if_neg h6]
       have hfi:idxF s.queue (fun x=>x.id==id)=((s.queue.findIdx (fun x=>x.id==id):Nat):Int):=if_pos hq
       have hlt:s.queue.findIdx (fun x=>x.id==id)<s.queue.length:=List.findIdx_lt_length.2 (by simpa using XaX.1 hq)
       have hid:(nth s.queue (s.queue.findIdx (fun x=>x.id==id))).id=id:=by
        rw[Ja hlt]
        exact beq_iff_eq.1 (List.findIdx_getElem (w:=hlt))
       rw[hfi]at c3
       generalize s.queue.findIdx (fun x=>x.id==id)=k at *
       have c4:=Qkh (l:=s.queue) (k:=k) hlt (by omega)
       rw[Xm hk.jobs.left.nodup hlt,hid]at c4
       have c7:=W7 (s:=finQ s id why) (Z9 hs h6 (by omega)) ⟨hk.jobs.left.sub QfE,hk.depth⟩
       rw[Qud]at c7
       repeat'(first|(refine zhm fun hb=>?_;try exact zab)|(refine Y9 3 4 rfl rfl ?_)|refine zUtp ?_|refine zg2 ?_ ?_|refine kmu (QcG hm) ?_|(refine kn [47] (c4) rfl rfl (fun i hi=>?_);try dsimp only at hi)|intro _|fail)
       all_goals first
        | (exfalso;omega)
        | skip
       all_goals
        exact zr [70,1070,2070,3070,4070,5070] zae zae
     ·rw[if_neg (fun h=>h3 h.2)]
      repeat'(first|(refine zhm fun hb=>?_;try exact zab)|(refine Y9 3 4 rfl rfl ?_)|refine zUtp ?_|refine zg2 ?_ ?_|intro _|fail)
      all_goals
       exact zrr
  ·rw[if_neg (fun h=>hw h.2)]
   repeat'(first|(refine zhm fun hb=>?_;try exact zab)|refine zUtp ?_|refine zg2 ?_ ?_|intro _|fail)
   all_goals first
    | (exfalso;omega)
    | skip
   all_goals
    exact zrr
theorem Qk0{s:Qd}{id why:Int}(hs:Ql 1048576 s):SS 183 [Qx s,zI id,zI why] (fnsO s id why).1 (fnsO s id why).2:=by
 refine zMC func183 fun w0 Z O=>?_
 have hm:Ql 100000000 s:=hs.mono (by omega)
 have c1:=YL hm
 unfold fnsO
 cases h:Qp s with
 | false=>
  rw[h]at c1
  rw[if_neg (fun h=>by cases h.1)]
  repeat'(first|(refine zhm fun hb=>?_;try exact zab)|refine zUrp ?_|refine zg2 ?_ ?_|intro _|fail)
  all_goals
   exact zDR
 | true=>
  rw[h]at c1
  by_cases hw:why=2\/why=3
  ·rw[if_pos ⟨rfl,hw⟩]
   have hk:=Qar h
   have hrl:=XR h
   have hal:=hk.jobs.len
   have hrm:=hs.run
   have hqm:=hs.que
   have hem:=hs.end'
   have hee:=QC s.ends
   have c2:=Qad (l:=s.queue) (id:=id) (by omega)
   have c3:=Qad (l:=allJ s) (id:=id) (by omega)
   have c6:=Qat (hm.mono (m:=1000000000) (by omega))
   rw[QjZ]at c2 c3
   rw[QsU]at c3
   cases hr:s.runs.any (finP id) with
   | true=>
    have hq:=QqM hk.jobs hr
    rw[hr,hq]at c3
    rw[hq]at c2
    rw[if_pos rfl]
    by_cases h6:300<=s.ends.length
    ·rw[if_pos h6]
     repeat'(first|(refine zhm fun hb=>?_;try exact zab)|refine zUrp ?_|refine zg2 ?_ ?_|refine kmu c6 ?_|intro _|fail)
     all_goals
      exact zDR
    ·rw[if_neg h6]
     have c5:=Qhk (s:=s) (why:=why) (id:=id) (node:=-1) hm
     rw[QmH (QfP h),Qkt (QfP h)]at c5
     have c7:=Wi (s:=finR s id why) (Qbf hs h6 hrl (by omega)) ⟨hk.jobs.left,hk.depth⟩
     repeat'(first|(refine zhm fun hb=>?_;try exact zab)|refine zUrp ?_|refine zg2 ?_ ?_|refine kmu c6 ?_|refine kmu (QhM hm) ?_|(refine kn [54] (c5) rfl rfl (fun i hi=>?_);try dsimp only at hi)|(refine kn [74,1074] (c7) rfl rfl (fun i hi=>?_);try dsimp only at hi)|intro _|fail)
     all_goals first
      | (exfalso;omega)
      | skip
     all_goals
      show AWp _ _ _ _
      refine Qs 76 rfl ?_
      show AWp _ _ _ _
      refine Qs 1076 rfl ?_
      exact zDR
   | false=>
    rw[hr]at c3
    rw[if_neg (show ¬(false=true) by decide)]
    cases hq:s.queue.any (fun x=>x.id==id) with
    | false=>
     rw[hq]at c2 c3
     rw[if_neg (fun h=>by cases h.1)]
     repeat'(first|(refine zhm fun hb=>?_;try exact zab)|refine zUrp ?_|refine zg2 ?_ ?_|refine kmu c6 ?_|intro _|fail)
     all_goals
      exact zDR
    | true=>
     rw[hq]at c2 c3
     by_cases h3:why=3
     ·rw[if_pos ⟨rfl,h3⟩]
      by_cases h6:300<=s.ends.length
      ·rw[if_pos h6]
       repeat'(first|(refine zhm fun hb=>?_;try exact zab)|refine zUrp ?_|refine zg2 ?_ ?_|refine kmu c6 ?_|intro _|fail)
       all_goals
        exact zDR
      ·rw[if_neg h6]
       have c5:=Qhk (s:=finQ s id why) (why:=why) (id:=id) (node:=-1) (Z9 hs h6 (by omega))
       have hno:=Qpo (id:=id) h hr
       dsimp only[QbY,finQ]at c5
       rw[Qpp hno,Qmh hno,Xa2,<-YJ]at c5
       have c7:=Wi (s:=finQ s id why) (Z9 hs h6 (by omega)) ⟨hk.jobs.left.sub QfE,hk.depth⟩
       have hep:endE (finQ s id why).ends=endE s.ends++[[.n .i64 id,.n .i64 s.now,.n .i64 why]]:=(YJ s.ends ⟨id,s.now,why⟩).symm
       rw[hep]at c7
       repeat'(first|(refine zhm fun hb=>?_;try exact zab)|refine zUrp ?_|refine zg2 ?_ ?_|refine kmu c6 ?_|refine kmu (QhM hm) ?_|refine kmu (Qka (l:=s.queue) (id:=id) (by omega)) ?_|(refine kn [54] (c5) rfl rfl (fun i hi=>?_);try dsimp only at hi)|(refine kn [74,1074] (c7) rfl rfl (fun i hi=>?_);try dsimp only at hi)|intro _|fail)
       all_goals first
        | (exfalso;omega)
        | skip
       all_goals
        show AWp _ _ _ _
        refine Qs 76 rfl ?_
        show AWp _ _ _ _
        refine Qs 1076 rfl ?_
        refine QD ?_
        apply Qt
        refine zm () [] trivial ?_ ?_ ?_
        repeat'(first|exact ze3|refine ze2 ?_ ?_|refine ze4 ?_|exact ze5|fail)
        all_goals exact zp (by first|rfl|exact hep.symm)
     ·rw[if_neg (fun h=>h3 h.2)]
      repeat'(first|(refine zhm fun hb=>?_;try exact zab)|refine zUrp ?_|refine zg2 ?_ ?_|refine kmu c6 ?_|intro _|fail)
      all_goals first
       | (exfalso;omega)
       | skip
      all_goals
       exact zDR
  ·rw[if_neg (fun h=>hw h.2)]
   repeat'(first|(refine zhm fun hb=>?_;try exact zab)|refine zUrp ?_|refine zg2 ?_ ?_|intro _|fail)
   all_goals first
    | (exfalso;omega)
    | skip
   all_goals
    exact zDR
theorem QeS{s:Qd}{id why:Int}(hs:Ql 1048576 s):∀s',(fnsO s id why).1=some s'->Ql 1048576 s':=fun s' h=>by
 unfold fnsO at h
 split at h
 ·rename_i h1
  have hk:=Qar h1.1
  have hrl:=XR h1.1
  split at h
  ·split at h
   ·cases h
   ·rename_i h3
    cases h
    exact W8 ⟨hk.jobs.left,hk.depth⟩ (Qbf hs h3 hrl (Xam _)) (by have:=QaO (p:=finP id) (l:=s.runs);simp only[finR];omega)
  ·split at h
   ·split at h
    ·cases h
    ·rename_i h3
     cases h
     exact W8 ⟨hk.jobs.left.sub QfE,hk.depth⟩ (Z9 hs h3 (Xam _)) (by simp only[finQ];omega)
   ·cases h
 ·cases h
end
end Go.Proofs.YtihgfennoalocaaGreat
