/-
  Fail, both.
-/
import Derived.Test.YtkdniahincpmaaaGreatKB29
import Derived.Test.YtkdniahincpmaaaGreatKB24
set_option maxRecDepth 100000
set_option maxHeartbeats 16000000
namespace Go.Proofs.YtkdniahincpmaaaGreat
open Go Go.RowKit Tryz
section
attribute [local irreducible] AWp QI OpOk ACalls ChA QsOk MCalls NCalls EnC PY

theorem QdV{l:List Job}(h1:l.length<=60)(h2:∀x∈l,Qk x=true)(h3:(l.map Job.id).Nodup):Je l:=by
 refine⟨h1,fun i hi=>h2 _ (QC hi),fun i hi k hk e=>?_⟩
 have:=Xbc.1 h3 k i (by rw[XaB];omega) (by rw[XaB];exact hi) hk
 apply this
 rw[Xca,Xca,<-Jb hi,<-Jb (by omega)]
 exact e
theorem Je.sub{l l':List Job}(h:Je l)(hs:l'.Sublist l):Je l':=QdV (Xal hs.length_le h.len) (fun x hx=>h.ok x (hs.subset hx)) ((hs.map Job.id).nodup h.nodup)
theorem QdI{s:Qb}{p:Run->Bool}:(s.queue++YM p s.runs).Sublist (allJ s):=XbV (Xbt _) ((XaE).map _)
theorem Qhs{p:Run->Bool}{l:List Run}{j:Nat}(hj:j<(JP p l).length):nth (JP p l) j∈l:=(Xay.1 (QC hj)).1
theorem QbC{p:Run->Bool}{l:List Run}:(JP p l).length<=l.length:=Xa7 _ _
theorem Qsv{p:Run->Bool}{l:List Run}:(YM p l).length<=l.length:=by rw[YM,XaB];exact Xa7 _ _
theorem X7{now why:Int}{p:Run->Bool}{l:List Run}:(QN now why p l).length<=l.length:=by rw[QN,XaB];exact Xa7 _ _
def J1(n:Int)(r:Run):Bool:=hasI r.nodes n
def fail1(s:Qb)(n:Int):Qb:={ s with up:=s.up.set n.toNat false,queue:=s.queue++YM (J1 n) s.runs,runs:=JP (J1 n) s.runs,ends:=s.ends++QN s.now 4 (J1 n) s.runs }
noncomputable def Xe (s:Qb) (n:Int):Option Qb×Int:=
 if Qe s=true then
  if 0<=n/\n<s.up.length/\nth s.up n.toNat=true then
   if 300<(s.ends++QN s.now 4 (J1 n) s.runs).length then(none,6) else(some (Jr (fail1 s n)),0)
  else(none,7)
 else(none,1)
theorem QyN{s:Qb}(h:Je (allJ s)){r:Run}(hr:r∈s.runs):Qk r.job=true:=h.ok _ (Xax _ (Xaf.2 ⟨r,hr,rfl⟩))
theorem QyB{j:Job}(h:Qk j=true):1<=j.id/\j.id<=999:=by
 simp only[Qk,Xab,JA]at h;omega
theorem QjB{s:Qb}{n:Int}(h:Je (allJ s)):∀r∈s.runs,YI 0 n r=J1 n r:=fun r hr=>by
 have:=QyB (QyN h hr)
 unfold YI J1
 rw[show(r.job.id==0)=false by rw[beq_eq_false_iff_ne];omega,XcF]
theorem QqJ{p q:Run->Bool}{l:List Run}(h:∀r∈l,p r=q r):l.filter p=l.filter q:=XbR h
theorem QrS{p q:Run->Bool}{l:List Run}(h:∀r∈l,p r=q r):JP p l=JP q l:=XbR fun r hr=>by rw[h r hr]
theorem QlK{now why:Int}{p q:Run->Bool}{l:List Run}(h:∀r∈l,p r=q r):QN now why p l=QN now why q l:=by unfold QN;rw[QqJ h]
theorem Qcz{n:Nat}{s:Qb}{x:Int}(h:Qj 1048576 s)(hk:Je (allJ s))(he:¬300<(s.ends++QN s.now 4 (J1 x) s.runs).length)(hn:1048576<=n):Qj n (fail1 s x):=by
 have h1:=(hk.sub (QdI (s:=s) (p:=J1 x))).len
 have h2:=QbC (p:=J1 x) (l:=s.runs)
 have h3:=h.run
 refine⟨Xal h.par hn,Xal h.nod hn,by rw[fail1,XaM];exact Xal h.up hn,by simp only[fail1];omega,by simp only[fail1];omega,by simp only[fail1];omega,fun j hj=>?_⟩
 obtain⟨i,d,e⟩:=Jo (Qhs hj)
 rw[show(fail1 s x).runs=JP (J1 x) s.runs from rfl,<-e]
 exact Xal (h.rno i d) hn
@[reducible] def Qri (s:Qb) (u q r e:List (List D)):AV:=.agg [zL (intE s.topo.parents),zL (Qw s.topo.nodes),zL u,zI s.lic.a,zI s.lic.b,zI s.lic.c,zI s.depth,zI s.now,zL q,zL r,zL e]
@[reducible] def Qwq (s:Qb) (u q:List (List D)) (q1 q2:Nat):List AV:=[zL (intE s.topo.parents),zL (Qw s.topo.nodes),zL u,zI s.lic.a,zI s.lic.b,zI s.lic.c,zI s.depth,zI s.now,zL q,.row q1,.row q2]
theorem Qx4{s:Qb}{n:Int}:Qt (fail1 s n)=Qri s ((Qp s.up).set n.toNat [.b false]) (jobE s.queue++jobE (YM (J1 n) s.runs)) (runE (JP (J1 n) s.runs)) (endE (s.ends++QN s.now 4 (J1 n) s.runs)):=by rw[Qa6,Qsa];rfl
theorem Qxw{s:Qb}{n:Int}{q1 q2:Nat}:W9 (fail1 s n) q1 q2=Qwq s ((Qp s.up).set n.toNat [.b false]) (jobE (s.queue++YM (J1 n) s.runs)) q1 q2:=by rw[Qa6];rfl
theorem Qrb{n:Int}{r:Run}(h:r.nodes.length<=1000000000):zAc 247 [runA r,.pd [.n .i64 n] 0] [.d (.b (J1 n r))] []:=by
 refine zAC func247 fun w0 Z=>?_
 repeat'(first|(refine zhm fun hb=>?_;try exact zab)|refine zUto ?_|refine zg2 ?_ ?_|refine kc (Vz (l:=r.nodes) (x:=n) h) rfl rfl ?_|intro _)
 exact zrr
theorem Qyz{s:Qb}{n:Int}(hs:Qj 1048576 s):SO 181 [Qt s,zI n] (Xe s n).1 (Xe s n).2:=by
 refine zAC func181 fun w0 Z=>?_
 have d:Qj 100000000 s:=hs.mono (by omega)
 have m:=JX d
 unfold Xe
 cases h:Qe s with
 | false=>
  rw[h]at m
  rw[if_neg (by decide)]
  repeat'(first|(refine zhm fun hb=>?_;try exact zab)|refine zUtp ?_|refine zg2 ?_ ?_|intro _)
  exact zrr
 | true=>
  rw[h]at m
  rw[if_pos rfl]
  have c:=Zl h
  have y:=Qx s.up
  have t:=hs.up
  by_cases f:0<=n/\n<s.up.length/\nth s.up n.toNat=true
  ·rw[if_pos f]
   obtain⟨h1,h2,q⟩:=f
   have ad:n=(n.toNat:Int):=by omega
   have af:=c.jobs.left.len
   have ae:=Ql s.queue
   have ab:=Qsv (p:=J1 n) (l:=s.runs)
   have aa:=Ql (YM (J1 n) s.runs)
   have ag:=hs.run
   have z:=QO (s.ends++QN s.now 4 (J1 n) s.runs)
   have ac:(s.ends++QN s.now 4 (J1 n) s.runs).length=s.ends.length+(QN s.now 4 (J1 n) s.runs).length:=Xaa
   have v:=X7 (now:=s.now) (why:=4) (p:=J1 n) (l:=s.runs)
   have w:=hs.end'
   have o:=Qpk (s:=s) (why:=4) (p:=J1 n) (g:=247) (ds:=[.n .i64 n]) (u:=(Qp s.up).set n.toNat [.b false]) d (fun r hr=>by
    obtain⟨i,a,e⟩:=Jo hr
    exact Qrb (by rw[<-e];have:=hs.rno i a;omega))
   by_cases j:300<(s.ends++QN s.now 4 (J1 n) s.runs).length
   ·rw[if_pos j]
    repeat'(first|(refine zhm fun hb=>?_;try exact zab)|(refine Qh 7 28 rfl ?_)|(refine Wp 7 3 rfl rfl ?_)|refine zUtp ?_|refine zg2 ?_ ?_|refine zqj QV ?_|refine kmu (Qfm d) ?_|(refine kn2 [2,1028,2028] (o) rfl rfl (fun i a=>?_);try dsimp only at a)|intro _)
    all_goals first
     | (exfalso;omega)
     | (exfalso;rw[q]at hb;cases hb;done)
     | skip
    exact zrr
   ·rw[if_neg j]
    have k:=Qcz (n:=100000000) hs c.jobs j (by omega)
    have x:=VR (s:=fail1 s n) k ⟨c.jobs.sub QdI,c.depth⟩
    rw[Qx4]at x
    repeat'(first|(refine zhm fun hb=>?_;try exact zab)|(refine Qh 7 28 rfl ?_)|(refine Wp 7 3 rfl rfl ?_)|refine zUtp ?_|refine zg2 ?_ ?_|refine zqj QV ?_|refine kmu (Qfm d) ?_|(refine kn2 [2,1028,2028] (o) rfl rfl (fun i a=>?_);try dsimp only at a)|intro _)
    all_goals first
     | (exfalso;omega)
     | (exfalso;rw[q]at hb;cases hb;done)
     | skip
    exact zr [46,1046,2046,3046,4046,5046] zae zae
  ·rw[if_neg f]
   repeat'(first|(refine zhm fun hb=>?_;try exact zab)|refine zUtp ?_|refine zg2 ?_ ?_|refine zqj QV ?_|intro _)
   all_goals first
    | (exfalso;exact f ⟨by omega,by omega,by assumption⟩)
    | skip
   any_goals
    refine zr [] ?_ ?_
    repeat'(first|exact ze3|refine ze2 ?_ ?_|refine ze4 ?_|exact ze5|fail)
    all_goals exact zp rfl
theorem QyM{s:Qb}{n:Int}(hs:Qj 1048576 s):SS 286 [Qt s,zI n] (Xe s n).1 (Xe s n).2:=by
 refine zMC func286 fun w0 Z O=>?_
 have a:Qj 100000000 s:=hs.mono (by omega)
 have o:=Yl a
 unfold Xe
 cases h:Qe s with
 | false=>
  rw[h]at o
  rw[if_neg (by decide)]
  repeat'(first|(refine zhm fun hb=>?_;try exact zab)|refine zUrp ?_|refine zg2 ?_ ?_|intro _)
  exact zDR
 | true=>
  rw[h]at o
  rw[if_pos rfl]
  have b:=Zl h
  have an:=b.up
  have ac:=Qx s.up
  have v:=hs.up
  have q:=QiX (s:=s) (n:=n)
  by_cases d:0<=n/\n<s.up.length
  ·rw[decide_eq_true d.1,decide_eq_true (show n<s.topo.nodes.length by omega)]at q
   obtain⟨h1,h2⟩:=d
   have aj:n=(n.toNat:Int):=by omega
   cases u:nth s.up n.toNat with
   | false=>
    rw[if_neg (fun h=>by cases h.2.2)]
    repeat'(first|(refine zhm fun hb=>?_;try exact zab)|refine zUrp ?_|refine zg2 ?_ ?_|intro _)
    all_goals first
     | (exfalso;rw[u]at hb;cases hb;done)
     | skip
    exact zDR
   | true=>
    rw[if_pos ⟨h1,h2,rfl⟩]
    have al:=b.jobs.left.len
    have am:=hs.run
    have z:=Qg s.runs
    have ag:=QO (s.ends++QN s.now 4 (J1 n) s.runs)
    have ai:(s.ends++QN s.now 4 (J1 n) s.runs).length=s.ends.length+(QN s.now 4 (J1 n) s.runs).length:=Xaa
    have w:=X7 (now:=s.now) (why:=4) (p:=J1 n) (l:=s.runs)
    have y:=hs.end'
    repeat'(first|(refine zhm fun hb=>?_;try exact zab)|refine zUrp ?_|refine zg2 ?_ ?_|refine kmu (Qq8 a) ?_|intro _)
    all_goals first
     | (exfalso;rw[u]at hb;cases hb;done)
     | skip
    refine Qa (fun(k:Nat)=>⟨60,[(1,zI n),(2,.ptr 2 0),(4,.ptr 4 0),(28,zL (runE s.runs)),(29,zI (s.runs.length:Nat)),(30,zI k)],[(2,.box 34 (QrP s (.row 26) (.row 1026) 2026)),(4,.box 34 ctl0),(26,.row 4 (Qp s.up) true),(1026,.row 40 (jobE (s.queue++YM (J1 n) (s.runs.take k))) true),(2026,.row 123 (endE s.ends) true)]⟩) (fun k=>k<=s.runs.length) (fun k=>s.runs.length-k) 0 (by exact Xad _) ?_ ?_
    ·refine⟨rfl,?_,?_,rfl⟩
     repeat'(first|exact ze3|refine ze2 ?_ ?_|refine ze4 ?_|exact ze5|fail)
     all_goals exact zp (by first|rfl|exact Qg _|(simp[YM];done))
    intro k ah
    have ad:=Ql (s.queue++YM (J1 n) (s.runs.take k))
    have ae:(s.queue++YM (J1 n) (s.runs.take k)).length=s.queue.length+(YM (J1 n) (s.runs.take k)).length:=Xaa
    have af:=Qft (p:=J1 n) (l:=s.runs) (i:=k)
    by_cases c:k<s.runs.length
    ·have ak:=hs.rno k c
     have r:=WY (l:=(nth s.runs k).nodes) (x:=n) (by omega)
     cases f:hasI (nth s.runs k).nodes n with
     | true=>
      rw[f]at r
      have g:=Qfk (p:=J1 n) c f
      generalize YM (J1 n) (s.runs.take k)=gj at *
      repeat'(first|(refine zhm fun hb=>?_;try exact zab)|refine zUrp ?_|refine zg2 ?_ ?_|intro _)
      refine⟨k+1,by omega,by omega,?_⟩
      refine zag ?_;exact zp (by(rw[g,<-Xaq];exact YF _ _))
     | false=>
      rw[f]at r
      have g:=Qgx (p:=J1 n) c f
      repeat'(first|(refine zhm fun hb=>?_;try exact zab)|refine zUrp ?_|refine zg2 ?_ ?_|intro _)
      refine⟨k+1,by omega,by omega,?_⟩
      refine zag ?_;exact zp (by(rw[g];done))
    ·obtain rfl:k=s.runs.length:=by omega
     rw[Xak]at *
     have e:=QpH (s:={ s with queue:=s.queue++YM (J1 n) s.runs }) (why:=4) (id:=0) (node:=n) ⟨a.par,a.nod,a.up,by dsimp only;omega,a.run,a.end',a.rno⟩
     dsimp only[QcX]at e
     rw[QrS (QjB b.jobs),QlK (QjB b.jobs)]at e
     by_cases j:300<(s.ends++QN s.now 4 (J1 n) s.runs).length
     ·rw[if_pos j]
      repeat'(first|(refine zhm fun hb=>?_;try exact zab)|(refine Qh 12 1026 rfl ?_)|refine zUrp ?_|refine zg2 ?_ ?_|(refine kn [26,2026] (e) rfl rfl (fun i hi=>?_);try dsimp only at hi)|intro _)
      exact zDR
     ·rw[if_neg j]
      have m:=Qcz (n:=100000000) hs b.jobs j (by omega)
      have t:=WH (s:=fail1 s n) m ⟨b.jobs.sub QdI,b.depth⟩
      rw[Qxw]at t
      repeat'(first|(refine zhm fun hb=>?_;try exact zab)|(refine Qh 12 1026 rfl ?_)|(refine Qh 16 2048 rfl ?_)|refine zUrp ?_|refine zg2 ?_ ?_|(refine kn [26,2026] (e) rfl rfl (fun i hi=>?_);try dsimp only at hi)|(refine kn [48,1048] (t) rfl rfl (fun i hi=>?_);try dsimp only at hi)|intro _)
      show AWp _ _ _ _
      refine Qr 59 rfl ?_
      show AWp _ _ _ _
      refine Qr 1059 rfl ?_
      exact zDR
  ·rw[show(decide (0<=n)&&decide (n<s.topo.nodes.length))=false by simp;omega]at q
   rw[if_neg (fun h=>d ⟨h.1,h.2.1⟩)]
   repeat'(first|(refine zhm fun hb=>?_;try exact zab)|refine zUrp ?_|refine zg2 ?_ ?_|intro _)
   exact zDR
theorem QkQ{s:Qb}{n:Int}(hs:Qj 1048576 s):∀s',(Xe s n).1=some s'->Qj 1048576 s':=fun s' h=>by
 unfold Xe at h
 split at h
 ·rename_i b
  have a:=Zl b
  split at h
  ·split at h
   ·cases h
   ·rename_i c
    cases h
    exact VZ ⟨a.jobs.sub QdI,a.depth⟩ (Qcz hs a.jobs c (Xaj _)) (by have:=QaP b;have:=QbC (p:=J1 n) (l:=s.runs);simp only[fail1];omega)
  ·cases h
 ·cases h

theorem QkK{l:List Run}{p:Run->Bool}{g:FuncId}{ds:List D}(h:l.length<=1000000000)(hg:∀j,zAc g [runA j,.pd ds 0] [.d (.b (p j))] []):zAc 292 [zL (runE l),.clo g [.pd ds 0]] [zI (idxF l p)] []:=by
 refine zAC func292 fun w0 Z=>?_
 have hl:=Qg l
 repeat'(first|(refine zhm fun hb=>?_;try exact zab)|refine zUtp ?_|refine zg2 ?_ ?_|intro _)
 refine Qa (fun(i:Nat)=>⟨19,[(0,zL (runE l)),(1,.clo g [.pd ds 0]),(7,zI (l.length:Nat)),(8,zI i)],[]⟩) (fun i=>i<=l.length/\∀j,j<i->p (nth l j)=false) (fun i=>l.length-i) 0 (by exact⟨Xad _,fun j hj=>absurd hj (Xar _)⟩) ?_ ?_
 ·exact zll
 ·rintro i ⟨hi,c⟩
  by_cases a:i<l.length
  ·repeat'(first|(refine zhm fun hb=>?_;try exact zab)|refine zUtp ?_|refine zg2 ?_ ?_|refine kv (hg (nth l i)) rfl rfl rfl rfl rfl ?_|intro _)
   ·rw[QhQ a (by assumption) c]
    exact zrr
   ·refine⟨i+1,⟨by omega,fun j hj=>?_⟩,by omega,?_⟩
    ·by_cases e:j=i
     ·subst e;assumption
     ·exact c j (by omega)
    exact zll
  ·rw[Qr3 (fun j hj=>c j (by omega))]
   repeat'(first|(refine zhm fun hb=>?_;try exact zab)|refine zUtp ?_|refine zg2 ?_ ?_|intro _)
   exact zrr
theorem QfF{l:List Run}{p:Run->Bool}{g:FuncId}{ds:List D}(h:l.length<=1000000000)(hg:∀j,zAc g [runA j,.pd ds 0] [.d (.b (p j))] []):zAc 242 [zL (runE l),.clo g [.pd ds 0]] [.d (.b (l.any p))] []:=by
 refine zAC func242 fun w0 Z=>?_
 repeat'(first|(refine zhm fun hb=>?_;try exact zab)|refine zUto ?_|refine zg2 ?_ ?_|refine kc (QkK h hg) rfl rfl ?_|intro _)
 refine zr [] ?_ ?_
 repeat'(first|exact ze3|refine ze2 ?_ ?_|refine ze4 ?_|exact ze5|fail)
 all_goals exact zp (Qdp l p)
def finP(id:Int)(r:Run):Bool:=r.job.id==id
theorem QoV{id:Int}(r:Run):zAc 243 [runA r,.pd [.n .i64 id] 0] [.d (.b (finP id r))] []:=by
 refine zAC func243 fun w0 Z=>?_
 repeat'(first|(refine zhm fun hb=>?_;try exact zab)|refine zUto ?_|refine zg2 ?_ ?_|intro _)
 exact zrr
theorem Qow{id:Int}(r:Run):zAc 245 [runA r,.pd [.n .i64 id] 0] [.d (.b (finP id r))] []:=by
 refine zAC func245 fun w0 Z=>?_
 repeat'(first|(refine zhm fun hb=>?_;try exact zab)|refine zUto ?_|refine zg2 ?_ ?_|intro _)
 exact zrr
def finR(s:Qb)(id why:Int):Qb:={ s with runs:=JP (finP id) s.runs,ends:=s.ends++QN s.now why (finP id) s.runs }
def finQ(s:Qb)(id why:Int):Qb:={ s with queue:=outJ s.queue id,ends:=s.ends++[⟨id,s.now,why⟩] }
noncomputable def fnsO (s:Qb) (id why:Int):Option Qb×Int:=
 if Qe s=true/\(why=2\/why=3) then
  if s.runs.any (finP id)=true then
   if 300<=s.ends.length then(none,6) else(some (Jr (finR s id why)),0)
  else if s.queue.any (fun x=>x.id==id)=true/\why=3 then
   if 300<=s.ends.length then(none,6) else(some (Jr (finQ s id why)),0)
  else(none,5)
 else(none,1)
theorem QhH{l:List Job}{id:Int}:(outJ l id).Sublist l:=XaE
theorem Qco{s:Qb}{id why:Int}{n:Nat}(h:Qj 1048576 s)(he:¬300<=s.ends.length)(hr:s.runs.length<=60)(hn:1048576<=n):Qj n (finR s id why):=by
 have h1:=QbC (p:=finP id) (l:=s.runs)
 have h2:=X7 (now:=s.now) (why:=why) (p:=finP id) (l:=s.runs)
 have h3:=h.que
 have hl:(s.ends++QN s.now why (finP id) s.runs).length=s.ends.length+(QN s.now why (finP id) s.runs).length:=Xaa
 refine⟨Xal h.par hn,Xal h.nod hn,Xal h.up hn,Xal h.que hn,by simp only[finR];omega,by simp only[finR];omega,fun j hj=>?_⟩
 obtain⟨i,a,e⟩:=Jo (Qhs hj)
 rw[show(finR s id why).runs=JP (finP id) s.runs from rfl,<-e]
 exact Xal (h.rno i a) hn
theorem Qat{s:Qb}{id why:Int}{n:Nat}(h:Qj 1048576 s)(he:¬300<=s.ends.length)(hn:1048576<=n):Qj n (finQ s id why):=by
 have h1:=(QhH (l:=s.queue) (id:=id)).length_le
 have h3:=h.que
 exact⟨Xal h.par hn,Xal h.nod hn,Xal h.up hn,by simp only[finQ];omega,Xal h.run hn,by simp only[finQ,Xaa,Xap];omega,fun j hj=>Xal (h.rno j hj) hn⟩
theorem Qx2{s:Qb}{id why:Int}:Qt (finR s id why)=Qri s (Qp s.up) (jobE s.queue) (runE (JP (finP id) s.runs)) (endE (s.ends++QN s.now why (finP id) s.runs)):=rfl
theorem QyK{s:Qb}{id why:Int}:Qt (finQ s id why)=Qri s (Qp s.up) (jobE (outJ s.queue id)) (runE s.runs) (endE s.ends++[[.n .i64 id,.n .i64 s.now,.n .i64 why]]):=by
 rw[show endE s.ends++[[.n .i64 id,.n .i64 s.now,.n .i64 why]]=endE (s.ends++[⟨id,s.now,why⟩]) from Y1 _ ⟨_,_,_⟩];rfl
theorem Qxv{s:Qb}(h:Qe s=true){r:Run}(hr:r∈s.runs):hasI r.nodes (-1)=false:=by
 obtain⟨i,c,rfl⟩:=Jo hr
 have a:=((Xu h).runs i c).2.nodes
 cases b:hasI (nth s.runs i).nodes (-1) with
 | false=>rfl
 | true=>
  have:(-1:Int)∈(nth s.runs i).nodes:=by simpa [hasI] using b
  obtain⟨k,d,e⟩:=Jo this
  have:=(a k d).1
  omega
theorem QgC{s:Qb}{id:Int}(h:Qe s=true):∀r∈s.runs,YI id (-1) r=finP id r:=fun r hr=>by
 unfold YI finP
 rw[Qxv h hr,Bool.or_false]
theorem Qp0{s:Qb}{id:Int}(h:Qe s=true)(hn:s.runs.any (finP id)=false):∀r∈s.runs,YI id (-1) r=false:=fun r hr=>by
 rw[QgC h r hr]
 cases a:finP id r with
 | false=>rfl
 | true=>rw[XaX.2 ⟨r,hr,a⟩]at hn;cases hn
theorem Qo1{p:Run->Bool}{l:List Run}(h:∀r∈l,p r=false):JP p l=l:=by
 unfold JP
 rw[Xcd]
 intro r a
 rw[h r a];rfl
theorem QnA{now why:Int}{p:Run->Bool}{l:List Run}(h:∀r∈l,p r=false):QN now why p l=[]:=by
 unfold QN
 rw[XbW.2 (fun r hr=>by rw[h r hr];decide)]
 rfl
theorem Qsn{s:Qb}{id:Int}(hk:Je (allJ s))(h:s.runs.any (finP id)=true):s.queue.any (fun x=>x.id==id)=false:=by
 cases d:s.queue.any (fun x=>x.id==id) with
 | false=>rfl
 | true=>
  exfalso
  obtain⟨x,f,b⟩:=XaX.1 d
  obtain⟨r,e,c⟩:=XaX.1 h
  have a:=hk.nodup
  rw[allJ,XaG,Xbs]at a
  refine a.2.2 x.id (Xaf.2 ⟨x,f,rfl⟩) r.job.id (Xaf.2 ⟨r.job,Xaf.2 ⟨r,e,rfl⟩,rfl⟩) ?_
  rw[beq_iff_eq.1 b]
  exact(beq_iff_eq.1 c).symm
theorem QvH{s:Qb}{id:Int}:(allJ s).any (fun x=>x.id==id)=(s.queue.any (fun x=>x.id==id)||s.runs.any (finP id)):=by
 rw[allJ,List.any_append,List.any_map]
 rfl
theorem Qla{s:Qb}{id why:Int}(hs:Qj 1048576 s):SO 180 [Qt s,zI id,zI why] (fnsO s id why).1 (fnsO s id why).2:=by
 refine zAC func180 fun w0 Z=>?_
 have f:Qj 100000000 s:=hs.mono (by omega)
 have v:=JX f
 unfold fnsO
 cases h:Qe s with
 | false=>
  rw[h]at v
  rw[if_neg (fun h=>by cases h.1)]
  repeat'(first|(refine zhm fun hb=>?_;try exact zab)|refine zUtp ?_|refine zg2 ?_ ?_|intro _)
  all_goals
   exact zrr
 | true=>
  rw[h]at v
  by_cases hw:why=2\/why=3
  ·rw[if_pos ⟨rfl,hw⟩]
   have c:=Zl h
   have t:=QaP h
   have ai:=hs.run
   have ah:=hs.que
   have ae:=hs.end'
   have ag:=c.jobs.left.len
   have af:=Ql s.queue
   have ad:=QO s.ends
   have y:=QfF (l:=s.runs) (p:=finP id) (g:=243) (ds:=[.n .i64 id]) (by omega) QoV
   have c3:=Qkf (l:=s.queue) (id:=id) (by omega)
   have d:=Qdp s.queue fun x=>x.id==id
   cases hr:s.runs.any (finP id) with
   | true=>
    rw[hr]at y
    rw[if_pos rfl]
    by_cases b:300<=s.ends.length
    ·rw[if_pos b]
     repeat'(first|(refine zhm fun hb=>?_;try exact zab)|(refine Wp 3 4 rfl rfl ?_)|refine zUtp ?_|refine zg2 ?_ ?_|intro _)
     all_goals
      exact zrr
    ·rw[if_neg b]
     have e:=Qpk (s:=s) (why:=why) (p:=finP id) (g:=245) (ds:=[.n .i64 id]) (u:=Qp s.up) f (fun r _=>Qow r)
     have m:=VR (s:=finR s id why) (Qco hs b t (by omega)) ⟨c.jobs.left,c.depth⟩
     rw[Qx2]at m
     repeat'(first|(refine zhm fun hb=>?_;try exact zab)|(refine Wp 3 4 rfl rfl ?_)|refine zUtp ?_|refine zg2 ?_ ?_|refine kmu (QeH f) ?_|(refine kn2 [3,47,1047] (e) rfl rfl (fun i hi=>?_);try dsimp only at hi)|intro _)
     all_goals first
      | (exfalso;omega)
      | skip
     all_goals
      exact zr [70,1070,2070,3070,4070,5070] zae zae
   | false=>
    rw[hr]at y
    rw[if_neg (show ¬(false=true) by decide)]
    cases j:s.queue.any (fun x=>x.id==id) with
    | false=>
     rw[j,decide_eq_false_iff_not]at d
     rw[if_neg (fun h=>by cases h.1)]
     repeat'(first|(refine zhm fun hb=>?_;try exact zab)|(refine Wp 3 4 rfl rfl ?_)|refine zUtp ?_|refine zg2 ?_ ?_|intro _)
     all_goals
      exact zrr
    | true=>
     rw[j,decide_eq_true_eq]at d
     by_cases z:why=3
     ·rw[if_pos ⟨rfl,z⟩]
      by_cases b:300<=s.ends.length
      ·rw[if_pos b]
       repeat'(first|(refine zhm fun hb=>?_;try exact zab)|(refine Wp 3 4 rfl rfl ?_)|refine zUtp ?_|refine zg2 ?_ ?_|intro _)
       all_goals
        exact zrr
      ·rw[if_neg b]
       have o:idxF s.queue (fun x=>x.id==id)=((s.queue.findIdx (fun x=>x.id==id):Nat):Int):=if_pos j
       have a:s.queue.findIdx (fun x=>x.id==id)<s.queue.length:=List.findIdx_lt_length.2 (by simpa using XaX.1 j)
       have q:(nth s.queue (s.queue.findIdx (fun x=>x.id==id))).id=id:=by
        rw[Jb a]
        exact beq_iff_eq.1 (List.findIdx_getElem (w:=a))
       rw[o]at c3
       generalize s.queue.findIdx (fun x=>x.id==id)=k at *
       have e:=QmX (l:=s.queue) (k:=k) a (by omega)
       rw[X2 c.jobs.left.nodup a,q]at e
       have m:=VR (s:=finQ s id why) (Qat hs b (by omega)) ⟨c.jobs.left.sub QhH,c.depth⟩
       rw[QyK]at m
       repeat'(first|(refine zhm fun hb=>?_;try exact zab)|(refine Wp 3 4 rfl rfl ?_)|refine zUtp ?_|refine zg2 ?_ ?_|refine kmu (QeH f) ?_|(refine kn [47] (e) rfl rfl (fun i hi=>?_);try dsimp only at hi)|intro _)
       all_goals first
        | (exfalso;omega)
        | skip
       all_goals
        exact zr [70,1070,2070,3070,4070,5070] zae zae
     ·rw[if_neg (fun h=>z h.2)]
      repeat'(first|(refine zhm fun hb=>?_;try exact zab)|(refine Wp 3 4 rfl rfl ?_)|refine zUtp ?_|refine zg2 ?_ ?_|intro _)
      all_goals
       exact zrr
  ·rw[if_neg (fun h=>hw h.2)]
   repeat'(first|(refine zhm fun hb=>?_;try exact zab)|refine zUtp ?_|refine zg2 ?_ ?_|intro _)
   all_goals first
    | (exfalso;omega)
    | skip
   all_goals
    exact zrr
theorem Qlf{s:Qb}{id why:Int}(hs:Qj 1048576 s):SS 285 [Qt s,zI id,zI why] (fnsO s id why).1 (fnsO s id why).2:=by
 refine zMC func285 fun w0 Z O=>?_
 have g:Qj 100000000 s:=hs.mono (by omega)
 have t:=Yl g
 unfold fnsO
 cases h:Qe s with
 | false=>
  rw[h]at t
  rw[if_neg (fun h=>by cases h.1)]
  repeat'(first|(refine zhm fun hb=>?_;try exact zab)|refine zUrp ?_|refine zg2 ?_ ?_|intro _)
  all_goals
   exact zDR
 | true=>
  rw[h]at t
  by_cases v:why=2\/why=3
  ·rw[if_pos ⟨rfl,v⟩]
   have e:=Zl h
   have r:=QaP h
   have w:=e.jobs.len
   have ab:=hs.run
   have aa:=hs.que
   have z:=hs.end'
   have y:=QO s.ends
   have o:=Qbw (l:=s.queue) (id:=id) (by omega)
   have b:=Qbw (l:=allJ s) (id:=id) (by omega)
   have d:=XZ (g.mono (m:=1000000000) (by omega))
   rw[Qmg]at o b
   rw[QvH]at b
   cases q:s.runs.any (finP id) with
   | true=>
    have k:=Qsn e.jobs q
    rw[q,k]at b
    rw[k]at o
    rw[if_pos rfl]
    by_cases a:300<=s.ends.length
    ·rw[if_pos a]
     repeat'(first|(refine zhm fun hb=>?_;try exact zab)|refine zUrp ?_|refine zg2 ?_ ?_|refine kmu d ?_|intro _)
     all_goals
      exact zDR
    ·rw[if_neg a]
     have c:=Qh8 (s:=s) (why:=why) (id:=id) (node:=-1) g
     rw[QrS (QgC h),QlK (QgC h)]at c
     have p:=WH (s:=finR s id why) (Qco hs a r (by omega)) ⟨e.jobs.left,e.depth⟩
     repeat'(first|(refine zhm fun hb=>?_;try exact zab)|refine zUrp ?_|refine zg2 ?_ ?_|refine kmu d ?_|refine kmu (Qjw g) ?_|(refine kn [54] (c) rfl rfl (fun i hi=>?_);try dsimp only at hi)|(refine kn [74,1074] (p) rfl rfl (fun i hi=>?_);try dsimp only at hi)|intro _)
     all_goals first
      | (exfalso;omega)
      | skip
     all_goals
      show AWp _ _ _ _
      refine Qr 76 rfl ?_
      show AWp _ _ _ _
      refine Qr 1076 rfl ?_
      exact zDR
   | false=>
    rw[q]at b
    rw[if_neg (show ¬(false=true) by decide)]
    cases k:s.queue.any (fun x=>x.id==id) with
    | false=>
     rw[k]at o b
     rw[if_neg (fun h=>by cases h.1)]
     repeat'(first|(refine zhm fun hb=>?_;try exact zab)|refine zUrp ?_|refine zg2 ?_ ?_|refine kmu d ?_|intro _)
     all_goals
      exact zDR
    | true=>
     rw[k]at o b
     by_cases u:why=3
     ·rw[if_pos ⟨rfl,u⟩]
      by_cases a:300<=s.ends.length
      ·rw[if_pos a]
       repeat'(first|(refine zhm fun hb=>?_;try exact zab)|refine zUrp ?_|refine zg2 ?_ ?_|refine kmu d ?_|intro _)
       all_goals
        exact zDR
      ·rw[if_neg a]
       have c:=Qh8 (s:=finQ s id why) (why:=why) (id:=id) (node:=-1) (Qat hs a (by omega))
       have j:=Qp0 (id:=id) h q
       dsimp only[QcX,finQ]at c
       rw[Qo1 j,QnA j,XaS,<-Y1]at c
       have p:=WH (s:=finQ s id why) (Qat hs a (by omega)) ⟨e.jobs.left.sub QhH,e.depth⟩
       have f:endE (finQ s id why).ends=endE s.ends++[[.n .i64 id,.n .i64 s.now,.n .i64 why]]:=(Y1 s.ends ⟨id,s.now,why⟩).symm
       rw[f]at p
       repeat'(first|(refine zhm fun hb=>?_;try exact zab)|refine zUrp ?_|refine zg2 ?_ ?_|refine kmu d ?_|refine kmu (Qjw g) ?_|refine kmu (QmJ (l:=s.queue) (id:=id) (by omega)) ?_|(refine kn [54] (c) rfl rfl (fun i hi=>?_);try dsimp only at hi)|(refine kn [74,1074] (p) rfl rfl (fun i hi=>?_);try dsimp only at hi)|intro _)
       all_goals first
        | (exfalso;omega)
        | skip
       all_goals
        show AWp _ _ _ _
        refine Qr 76 rfl ?_
        show AWp _ _ _ _
        refine Qr 1076 rfl ?_
        refine QA ?_
        apply Qu
        refine zm () [] trivial ?_ ?_ ?_
        repeat'(first|exact ze3|refine ze2 ?_ ?_|refine ze4 ?_|exact ze5|fail)
        all_goals exact zp (by first|rfl|exact f.symm)
     ·rw[if_neg (fun h=>u h.2)]
      repeat'(first|(refine zhm fun hb=>?_;try exact zab)|refine zUrp ?_|refine zg2 ?_ ?_|refine kmu d ?_|intro _)
      all_goals first
       | (exfalso;omega)
       | skip
      all_goals
       exact zDR
  ·rw[if_neg (fun h=>v h.2)]
   repeat'(first|(refine zhm fun hb=>?_;try exact zab)|refine zUrp ?_|refine zg2 ?_ ?_|intro _)
   all_goals first
    | (exfalso;omega)
    | skip
   all_goals
    exact zDR
theorem Qgm{s:Qb}{id why:Int}(hs:Qj 1048576 s):∀s',(fnsO s id why).1=some s'->Qj 1048576 s':=fun s' h=>by
 unfold fnsO at h
 split at h
 ·rename_i d
  have a:=Zl d.1
  have c:=QaP d.1
  split at h
  ·split at h
   ·cases h
   ·rename_i b
    cases h
    exact VZ ⟨a.jobs.left,a.depth⟩ (Qco hs b c (Xaj _)) (by have:=QbC (p:=finP id) (l:=s.runs);simp only[finR];omega)
  ·split at h
   ·split at h
    ·cases h
    ·rename_i b
     cases h
     exact VZ ⟨a.jobs.left.sub QhH,a.depth⟩ (Qat hs b (Xaj _)) (by simp only[finQ];omega)
   ·cases h
 ·cases h
end
end Go.Proofs.YtkdniahincpmaaaGreat
