/-
  Fail, both.
-/
import Derived.Test.YtkdniahincpmaaaGreatQB28
import Derived.Test.YtkdniahincpmaaaGreatQB23
set_option maxRecDepth 100000
set_option maxHeartbeats 16000000
namespace Go.Proofs.YtkdniahincpmaaaGreat
open Go Go.RowKit Tryz
section
attribute [local irreducible] AWp QM OpOk ACalls ChA QsOk MCalls NCalls EnC PY

theorem QeV{l:List Job}(h1:l.length<=60)(h2:∀x∈l,Qm x=true)(h3:(l.map Job.id).Nodup):Jg l:=by
 refine⟨h1,fun i hi=>h2 _ (QE hi),fun i hi k hk e=>?_⟩
 have:=Xa9.1 h3 k i (by rw[Xar];omega) (by rw[Xar];exact hi) hk
 apply this
 rw[Xcg,Xcg,<-Jd hi,<-Jd (by omega)]
 exact e
theorem Jg.sub{l l':List Job}(h:Jg l)(hs:l'.Sublist l):Jg l':=QeV (Xam hs.length_le h.len) (fun x hx=>h.ok x (hs.subset hx)) ((hs.map Job.id).nodup h.nodup)
theorem Qdn{s:Qb}{p:Run->Bool}:(s.queue++YR p s.runs).Sublist (allJ s):=XbY (Xbv _) ((XaC).map _)
theorem Qhx{p:Run->Bool}{l:List Run}{j:Nat}(hj:j<(JU p l).length):nth (JU p l) j∈l:=(XaB.1 (QE hj)).1
theorem Qa5{p:Run->Bool}{l:List Run}:(JU p l).length<=l.length:=Xa2 _ _
theorem Qr3{p:Run->Bool}{l:List Run}:(YR p l).length<=l.length:=by rw[YR,Xar];exact Xa2 _ _
theorem XO{now why:Int}{p:Run->Bool}{l:List Run}:(QR now why p l).length<=l.length:=by rw[QR,Xar];exact Xa2 _ _
def J7(n:Int)(r:Run):Bool:=hasI r.nodes n
def fail1(s:Qb)(n:Int):Qb:={ s with up:=s.up.set n.toNat false,queue:=s.queue++YR (J7 n) s.runs,runs:=JU (J7 n) s.runs,ends:=s.ends++QR s.now 4 (J7 n) s.runs }
noncomputable def Z3 (s:Qb) (n:Int):Option Qb×Int:=
 if Qf s=true then
  if 0<=n/\n<s.up.length/\nth s.up n.toNat=true then
   if 300<(s.ends++QR s.now 4 (J7 n) s.runs).length then(none,6) else(some (Js (fail1 s n)),0)
  else(none,7)
 else(none,1)
theorem Qx3{s:Qb}(h:Jg (allJ s)){r:Run}(hr:r∈s.runs):Qm r.job=true:=h.ok _ (Xav _ (Xaf.2 ⟨r,hr,rfl⟩))
theorem Qxe{j:Job}(h:Qm j=true):1<=j.id/\j.id<=999:=by
 simp only[Qm,Xac,J4]at h;omega
theorem Qip{s:Qb}{n:Int}(h:Jg (allJ s)):∀r∈s.runs,YQ 0 n r=J7 n r:=fun r hr=>by
 have:=Qxe (Qx3 h hr)
 unfold YQ J7
 rw[show(r.job.id==0)=false by rw[beq_eq_false_iff_ne];omega,Bool.false_or]
theorem QqQ{p q:Run->Bool}{l:List Run}(h:∀r∈l,p r=q r):l.filter p=l.filter q:=Xb7 h
theorem Qqe{p q:Run->Bool}{l:List Run}(h:∀r∈l,p r=q r):JU p l=JU q l:=Xb7 fun r hr=>by rw[h r hr]
theorem Qmc{now why:Int}{p q:Run->Bool}{l:List Run}(h:∀r∈l,p r=q r):QR now why p l=QR now why q l:=by unfold QR;rw[QqQ h]
theorem Qcb{n:Nat}{s:Qb}{x:Int}(h:Qo 1048576 s)(hk:Jg (allJ s))(he:¬300<(s.ends++QR s.now 4 (J7 x) s.runs).length)(hn:1048576<=n):Qo n (fail1 s x):=by
 have h1:=(hk.sub (Qdn (s:=s) (p:=J7 x))).len
 have h2:=Qa5 (p:=J7 x) (l:=s.runs)
 have h3:=h.run
 refine⟨Xam h.par hn,Xam h.nod hn,by rw[fail1,Xaw];exact Xam h.up hn,by simp only[fail1];omega,by simp only[fail1];omega,by simp only[fail1];omega,fun j hj=>?_⟩
 obtain⟨i,d,e⟩:=Jt (Qhx hj)
 rw[show(fail1 s x).runs=JU (J7 x) s.runs from rfl,<-e]
 exact Xam (h.rno i d) hn
@[reducible] def QrI (s:Qb) (u q r e:List (List D)):AV:=.agg [zL (intE s.topo.parents),zL (Qr s.topo.nodes),zL u,zI s.lic.a,zI s.lic.b,zI s.lic.c,zI s.depth,zI s.now,zL q,zL r,zL e]
@[reducible] def QwB (s:Qb) (u q:List (List D)) (q1 q2:Nat):List AV:=[zL (intE s.topo.parents),zL (Qr s.topo.nodes),zL u,zI s.lic.a,zI s.lic.b,zI s.lic.c,zI s.depth,zI s.now,zL q,.row q1,.row q2]
theorem Qxz{s:Qb}{n:Int}:Qz (fail1 s n)=QrI s ((Qk s.up).set n.toNat [.b false]) (jobE s.queue++jobE (YR (J7 n) s.runs)) (runE (JU (J7 n) s.runs)) (endE (s.ends++QR s.now 4 (J7 n) s.runs)):=by rw[QbE,QtW];rfl
theorem QxI{s:Qb}{n:Int}{q1 q2:Nat}:W5 (fail1 s n) q1 q2=QwB s ((Qk s.up).set n.toNat [.b false]) (jobE (s.queue++YR (J7 n) s.runs)) q1 q2:=by rw[QbE];rfl
theorem Qps{n:Int}{r:Run}(h:r.nodes.length<=1000000000):zAc 247 [runA r,.pd [.n .i64 n] 0] [.d (.b (J7 n r))] []:=by
 refine zAC func247 fun w0 Z=>?_
 repeat'(first|(refine zhm fun hb=>?_;try exact zab)|refine zUto ?_|refine zg2 ?_ ?_|refine kc (Vt (l:=r.nodes) (x:=n) h) rfl rfl ?_|intro _)
 exact zrr
theorem Qx8{s:Qb}{n:Int}(hs:Qo 1048576 s):SO 181 [Qz s,zI n] (Z3 s n).1 (Z3 s n).2:=by
 refine zAC func181 fun w0 Z=>?_
 have d:Qo 100000000 s:=hs.mono (by omega)
 have m:=YI d
 unfold Z3
 cases h:Qf s with
 | false=>
  rw[h]at m
  rw[if_neg (by decide)]
  repeat'(first|(refine zhm fun hb=>?_;try exact zab)|refine zUtp ?_|refine zg2 ?_ ?_|intro _)
  exact zrr
 | true=>
  rw[h]at m
  rw[if_pos rfl]
  have c:=Qaj h
  have y:=Qq s.up
  have t:=hs.up
  by_cases f:0<=n/\n<s.up.length/\nth s.up n.toNat=true
  ·rw[if_pos f]
   obtain⟨h1,h2,q⟩:=f
   have ad:n=(n.toNat:Int):=by omega
   have af:=c.jobs.left.len
   have ae:=Qj s.queue
   have ab:=Qr3 (p:=J7 n) (l:=s.runs)
   have aa:=Qj (YR (J7 n) s.runs)
   have ag:=hs.run
   have z:=QJ (s.ends++QR s.now 4 (J7 n) s.runs)
   have ac:(s.ends++QR s.now 4 (J7 n) s.runs).length=s.ends.length+(QR s.now 4 (J7 n) s.runs).length:=Xab
   have v:=XO (now:=s.now) (why:=4) (p:=J7 n) (l:=s.runs)
   have w:=hs.end'
   have o:=Qpd (s:=s) (why:=4) (p:=J7 n) (g:=247) (ds:=[.n .i64 n]) (u:=(Qk s.up).set n.toNat [.b false]) d (fun r hr=>by
    obtain⟨i,a,e⟩:=Jt hr
    exact Qps (by rw[<-e];have:=hs.rno i a;omega))
   by_cases j:300<(s.ends++QR s.now 4 (J7 n) s.runs).length
   ·rw[if_pos j]
    repeat'(first|(refine zhm fun hb=>?_;try exact zab)|(refine Qi 7 28 rfl ?_)|(refine Wr 7 3 rfl rfl ?_)|refine zUtp ?_|refine zg2 ?_ ?_|refine zqj Q5 ?_|refine kmu (Qe4 d) ?_|(refine kn2 [2,1028,2028] (o) rfl rfl (fun i a=>?_);try dsimp only at a)|intro _)
    all_goals first
     | (exfalso;omega)
     | (exfalso;rw[q]at hb;cases hb;done)
     | skip
    exact zrr
   ·rw[if_neg j]
    have k:=Qcb (n:=100000000) hs c.jobs j (by omega)
    have x:=VD (s:=fail1 s n) k ⟨c.jobs.sub Qdn,c.depth⟩
    rw[Qxz]at x
    repeat'(first|(refine zhm fun hb=>?_;try exact zab)|(refine Qi 7 28 rfl ?_)|(refine Wr 7 3 rfl rfl ?_)|refine zUtp ?_|refine zg2 ?_ ?_|refine zqj Q5 ?_|refine kmu (Qe4 d) ?_|(refine kn2 [2,1028,2028] (o) rfl rfl (fun i a=>?_);try dsimp only at a)|intro _)
    all_goals first
     | (exfalso;omega)
     | (exfalso;rw[q]at hb;cases hb;done)
     | skip
    exact zr [46,1046,2046,3046,4046,5046] zae zae
  ·rw[if_neg f]
   repeat'(first|(refine zhm fun hb=>?_;try exact zab)|refine zUtp ?_|refine zg2 ?_ ?_|refine zqj Q5 ?_|intro _)
   all_goals first
    | (exfalso;exact f ⟨by omega,by omega,by assumption⟩)
    | skip
   any_goals
    refine zr [] ?_ ?_
    repeat'(first|exact ze3|refine ze2 ?_ ?_|refine ze4 ?_|exact ze5|fail)
    all_goals exact zp rfl
theorem Qxg{s:Qb}{n:Int}(hs:Qo 1048576 s):SS 286 [Qz s,zI n] (Z3 s n).1 (Z3 s n).2:=by
 refine zMC func286 fun w0 Z O=>?_
 have a:Qo 100000000 s:=hs.mono (by omega)
 have o:=Y3 a
 unfold Z3
 cases h:Qf s with
 | false=>
  rw[h]at o
  rw[if_neg (by decide)]
  repeat'(first|(refine zhm fun hb=>?_;try exact zab)|refine zUrp ?_|refine zg2 ?_ ?_|intro _)
  exact zDR
 | true=>
  rw[h]at o
  rw[if_pos rfl]
  have b:=Qaj h
  have an:=b.up
  have ac:=Qq s.up
  have v:=hs.up
  have q:=QiD (s:=s) (n:=n)
  by_cases d:0<=n/\n<s.up.length
  ·rw[decide_eq_true d.1,decide_eq_true (show n<s.topo.nodes.length by omega)]at q
   obtain⟨h1,h2⟩:=d
   have aj:n=(n.toNat:Int):=by omega
   cases u:nth s.up n.toNat with
   | false=>
    rw[if_neg (fun h=>by cases h.2.2)]
    repeat'(first|(refine zhm fun hb=>?_;try exact zab)|refine zUrp ?_|refine zg2 ?_ ?_|intro _)
    all_goals first
     | (exfalso;rw[u]at hb;cases hb;done)
     | skip
    exact zDR
   | true=>
    rw[if_pos ⟨h1,h2,rfl⟩]
    have al:=b.jobs.left.len
    have am:=hs.run
    have z:=Qe s.runs
    have ag:=QJ (s.ends++QR s.now 4 (J7 n) s.runs)
    have ai:(s.ends++QR s.now 4 (J7 n) s.runs).length=s.ends.length+(QR s.now 4 (J7 n) s.runs).length:=Xab
    have w:=XO (now:=s.now) (why:=4) (p:=J7 n) (l:=s.runs)
    have y:=hs.end'
    repeat'(first|(refine zhm fun hb=>?_;try exact zab)|refine zUrp ?_|refine zg2 ?_ ?_|refine kmu (Qp3 a) ?_|intro _)
    all_goals first
     | (exfalso;rw[u]at hb;cases hb;done)
     | skip
    refine Qa (fun(k:Nat)=>⟨60,[(1,zI n),(2,.ptr 2 0),(4,.ptr 4 0),(28,zL (runE s.runs)),(29,zI (s.runs.length:Nat)),(30,zI k)],[(2,.box 34 (QqG s (.row 26) (.row 1026) 2026)),(4,.box 34 ctl0),(26,.row 4 (Qk s.up) true),(1026,.row 40 (jobE (s.queue++YR (J7 n) (s.runs.take k))) true),(2026,.row 123 (endE s.ends) true)]⟩) (fun k=>k<=s.runs.length) (fun k=>s.runs.length-k) 0 (by exact Xae _) ?_ ?_
    ·refine⟨rfl,?_,?_,rfl⟩
     repeat'(first|exact ze3|refine ze2 ?_ ?_|refine ze4 ?_|exact ze5|fail)
     all_goals exact zp (by first|rfl|exact Qe _|(simp[YR];done))
    intro k ah
    have ad:=Qj (s.queue++YR (J7 n) (s.runs.take k))
    have ae:(s.queue++YR (J7 n) (s.runs.take k)).length=s.queue.length+(YR (J7 n) (s.runs.take k)).length:=Xab
    have af:=QeC (p:=J7 n) (l:=s.runs) (i:=k)
    by_cases c:k<s.runs.length
    ·have ak:=hs.rno k c
     have r:=WX (l:=(nth s.runs k).nodes) (x:=n) (by omega)
     cases f:hasI (nth s.runs k).nodes n with
     | true=>
      rw[f]at r
      have g:=Qey (p:=J7 n) c f
      generalize YR (J7 n) (s.runs.take k)=gj at *
      repeat'(first|(refine zhm fun hb=>?_;try exact zab)|refine zUrp ?_|refine zg2 ?_ ?_|intro _)
      refine⟨k+1,by omega,by omega,?_⟩
      refine zag ?_;exact zp (by(rw[g,<-Xao];exact YF _ _))
     | false=>
      rw[f]at r
      have g:=Qg3 (p:=J7 n) c f
      repeat'(first|(refine zhm fun hb=>?_;try exact zab)|refine zUrp ?_|refine zg2 ?_ ?_|intro _)
      refine⟨k+1,by omega,by omega,?_⟩
      refine zag ?_;exact zp (by(rw[g];done))
    ·obtain rfl:k=s.runs.length:=by omega
     rw[Xal]at *
     have e:=Qqv (s:={ s with queue:=s.queue++YR (J7 n) s.runs }) (why:=4) (id:=0) (node:=n) ⟨a.par,a.nod,a.up,by dsimp only;omega,a.run,a.end',a.rno⟩
     dsimp only[QcF]at e
     rw[Qqe (Qip b.jobs),Qmc (Qip b.jobs)]at e
     by_cases j:300<(s.ends++QR s.now 4 (J7 n) s.runs).length
     ·rw[if_pos j]
      repeat'(first|(refine zhm fun hb=>?_;try exact zab)|(refine Qi 12 1026 rfl ?_)|refine zUrp ?_|refine zg2 ?_ ?_|(refine kn [26,2026] (e) rfl rfl (fun i hi=>?_);try dsimp only at hi)|intro _)
      exact zDR
     ·rw[if_neg j]
      have m:=Qcb (n:=100000000) hs b.jobs j (by omega)
      have t:=Wz (s:=fail1 s n) m ⟨b.jobs.sub Qdn,b.depth⟩
      rw[QxI]at t
      repeat'(first|(refine zhm fun hb=>?_;try exact zab)|(refine Qi 12 1026 rfl ?_)|(refine Qi 16 2048 rfl ?_)|refine zUrp ?_|refine zg2 ?_ ?_|(refine kn [26,2026] (e) rfl rfl (fun i hi=>?_);try dsimp only at hi)|(refine kn [48,1048] (t) rfl rfl (fun i hi=>?_);try dsimp only at hi)|intro _)
      show AWp _ _ _ _
      refine Qp 59 rfl ?_
      show AWp _ _ _ _
      refine Qp 1059 rfl ?_
      exact zDR
  ·rw[show(decide (0<=n)&&decide (n<s.topo.nodes.length))=false by simp;omega]at q
   rw[if_neg (fun h=>d ⟨h.1,h.2.1⟩)]
   repeat'(first|(refine zhm fun hb=>?_;try exact zab)|refine zUrp ?_|refine zg2 ?_ ?_|intro _)
   exact zDR
theorem Qkv{s:Qb}{n:Int}(hs:Qo 1048576 s):∀s',(Z3 s n).1=some s'->Qo 1048576 s':=fun s' h=>by
 unfold Z3 at h
 split at h
 ·rename_i b
  have a:=Qaj b
  split at h
  ·split at h
   ·cases h
   ·rename_i c
    cases h
    exact VA ⟨a.jobs.sub Qdn,a.depth⟩ (Qcb hs a.jobs c (Xaj _)) (by have:=Qax b;have:=Qa5 (p:=J7 n) (l:=s.runs);simp only[fail1];omega)
  ·cases h
 ·cases h

theorem Qj2{l:List Run}{p:Run->Bool}{g:FuncId}{ds:List D}(h:l.length<=1000000000)(hg:∀j,zAc g [runA j,.pd ds 0] [.d (.b (p j))] []):zAc 292 [zL (runE l),.clo g [.pd ds 0]] [zI (idxF l p)] []:=by
 refine zAC func292 fun w0 Z=>?_
 have hl:=Qe l
 repeat'(first|(refine zhm fun hb=>?_;try exact zab)|refine zUtp ?_|refine zg2 ?_ ?_|intro _)
 refine Qa (fun(i:Nat)=>⟨19,[(0,zL (runE l)),(1,.clo g [.pd ds 0]),(7,zI (l.length:Nat)),(8,zI i)],[]⟩) (fun i=>i<=l.length/\∀j,j<i->p (nth l j)=false) (fun i=>l.length-i) 0 (by exact⟨Xae _,fun j hj=>absurd hj (Xaq _)⟩) ?_ ?_
 ·exact zll
 ·rintro i ⟨hi,c⟩
  by_cases a:i<l.length
  ·repeat'(first|(refine zhm fun hb=>?_;try exact zab)|refine zUtp ?_|refine zg2 ?_ ?_|refine kv (hg (nth l i)) rfl rfl rfl rfl rfl ?_|intro _)
   ·rw[QgQ a (by assumption) c]
    exact zrr
   ·refine⟨i+1,⟨by omega,fun j hj=>?_⟩,by omega,?_⟩
    ·by_cases e:j=i
     ·subst e;assumption
     ·exact c j (by omega)
    exact zll
  ·rw[Qql (fun j hj=>c j (by omega))]
   repeat'(first|(refine zhm fun hb=>?_;try exact zab)|refine zUtp ?_|refine zg2 ?_ ?_|intro _)
   exact zrr
theorem Qfj{l:List Run}{p:Run->Bool}{g:FuncId}{ds:List D}(h:l.length<=1000000000)(hg:∀j,zAc g [runA j,.pd ds 0] [.d (.b (p j))] []):zAc 242 [zL (runE l),.clo g [.pd ds 0]] [.d (.b (l.any p))] []:=by
 refine zAC func242 fun w0 Z=>?_
 repeat'(first|(refine zhm fun hb=>?_;try exact zab)|refine zUto ?_|refine zg2 ?_ ?_|refine kc (Qj2 h hg) rfl rfl ?_|intro _)
 refine zr [] ?_ ?_
 repeat'(first|exact ze3|refine ze2 ?_ ?_|refine ze4 ?_|exact ze5|fail)
 all_goals exact zp (Qdi l p)
def finP(id:Int)(r:Run):Bool:=r.job.id==id
theorem QrB{id:Int}(r:Run):zAc 243 [runA r,.pd [.n .i64 id] 0] [.d (.b (finP id r))] []:=by
 refine zAC func243 fun w0 Z=>?_
 repeat'(first|(refine zhm fun hb=>?_;try exact zab)|refine zUto ?_|refine zg2 ?_ ?_|intro _)
 exact zrr
theorem Qo1{id:Int}(r:Run):zAc 245 [runA r,.pd [.n .i64 id] 0] [.d (.b (finP id r))] []:=by
 refine zAC func245 fun w0 Z=>?_
 repeat'(first|(refine zhm fun hb=>?_;try exact zab)|refine zUto ?_|refine zg2 ?_ ?_|intro _)
 exact zrr
def finR(s:Qb)(id why:Int):Qb:={ s with runs:=JU (finP id) s.runs,ends:=s.ends++QR s.now why (finP id) s.runs }
def finQ(s:Qb)(id why:Int):Qb:={ s with queue:=outJ s.queue id,ends:=s.ends++[⟨id,s.now,why⟩] }
noncomputable def fnsO (s:Qb) (id why:Int):Option Qb×Int:=
 if Qf s=true/\(why=2\/why=3) then
  if s.runs.any (finP id)=true then
   if 300<=s.ends.length then(none,6) else(some (Js (finR s id why)),0)
  else if s.queue.any (fun x=>x.id==id)=true/\why=3 then
   if 300<=s.ends.length then(none,6) else(some (Js (finQ s id why)),0)
  else(none,5)
 else(none,1)
theorem Qgq{l:List Job}{id:Int}:(outJ l id).Sublist l:=XaC
theorem Qcs{s:Qb}{id why:Int}{n:Nat}(h:Qo 1048576 s)(he:¬300<=s.ends.length)(hr:s.runs.length<=60)(hn:1048576<=n):Qo n (finR s id why):=by
 have h1:=Qa5 (p:=finP id) (l:=s.runs)
 have h2:=XO (now:=s.now) (why:=why) (p:=finP id) (l:=s.runs)
 have h3:=h.que
 have hl:(s.ends++QR s.now why (finP id) s.runs).length=s.ends.length+(QR s.now why (finP id) s.runs).length:=Xab
 refine⟨Xam h.par hn,Xam h.nod hn,Xam h.up hn,Xam h.que hn,by simp only[finR];omega,by simp only[finR];omega,fun j hj=>?_⟩
 obtain⟨i,a,e⟩:=Jt (Qhx hj)
 rw[show(finR s id why).runs=JU (finP id) s.runs from rfl,<-e]
 exact Xam (h.rno i a) hn
theorem X3{s:Qb}{id why:Int}{n:Nat}(h:Qo 1048576 s)(he:¬300<=s.ends.length)(hn:1048576<=n):Qo n (finQ s id why):=by
 have h1:=(Qgq (l:=s.queue) (id:=id)).length_le
 have h3:=h.que
 exact⟨Xam h.par hn,Xam h.nod hn,Xam h.up hn,by simp only[finQ];omega,Xam h.run hn,by simp only[finQ,Xab,XaF];omega,fun j hj=>Xam (h.rno j hj) hn⟩
theorem Qw1{s:Qb}{id why:Int}:Qz (finR s id why)=QrI s (Qk s.up) (jobE s.queue) (runE (JU (finP id) s.runs)) (endE (s.ends++QR s.now why (finP id) s.runs)):=rfl
theorem QxT{s:Qb}{id why:Int}:Qz (finQ s id why)=QrI s (Qk s.up) (jobE (outJ s.queue id)) (runE s.runs) (endE s.ends++[[.n .i64 id,.n .i64 s.now,.n .i64 why]]):=by
 rw[show endE s.ends++[[.n .i64 id,.n .i64 s.now,.n .i64 why]]=endE (s.ends++[⟨id,s.now,why⟩]) from Y5 _ ⟨_,_,_⟩];rfl
theorem Qxh{s:Qb}(h:Qf s=true){r:Run}(hr:r∈s.runs):hasI r.nodes (-1)=false:=by
 obtain⟨i,c,rfl⟩:=Jt hr
 have a:=((QcU h).runs i c).2.nodes
 cases b:hasI (nth s.runs i).nodes (-1) with
 | false=>rfl
 | true=>
  have:(-1:Int)∈(nth s.runs i).nodes:=by simpa [hasI] using b
  obtain⟨k,d,e⟩:=Jt this
  have:=(a k d).1
  omega
theorem Qgr{s:Qb}{id:Int}(h:Qf s=true):∀r∈s.runs,YQ id (-1) r=finP id r:=fun r hr=>by
 unfold YQ finP
 rw[Qxh h hr,Bool.or_false]
theorem Qqo{s:Qb}{id:Int}(h:Qf s=true)(hn:s.runs.any (finP id)=false):∀r∈s.runs,YQ id (-1) r=false:=fun r hr=>by
 rw[Qgr h r hr]
 cases a:finP id r with
 | false=>rfl
 | true=>rw[XaV.2 ⟨r,hr,a⟩]at hn;cases hn
theorem Qo8{p:Run->Bool}{l:List Run}(h:∀r∈l,p r=false):JU p l=l:=by
 unfold JU
 rw[XcC]
 intro r a
 rw[h r a];rfl
theorem Qn1{now why:Int}{p:Run->Bool}{l:List Run}(h:∀r∈l,p r=false):QR now why p l=[]:=by
 unfold QR
 rw[Xb0.2 (fun r hr=>by rw[h r hr];decide)]
 rfl
theorem Qsf{s:Qb}{id:Int}(hk:Jg (allJ s))(h:s.runs.any (finP id)=true):s.queue.any (fun x=>x.id==id)=false:=by
 cases d:s.queue.any (fun x=>x.id==id) with
 | false=>rfl
 | true=>
  exfalso
  obtain⟨x,f,b⟩:=XaV.1 d
  obtain⟨r,e,c⟩:=XaV.1 h
  have a:=hk.nodup
  rw[allJ,XaG,Xbg]at a
  refine a.2.2 x.id (Xaf.2 ⟨x,f,rfl⟩) r.job.id (Xaf.2 ⟨r.job,Xaf.2 ⟨r,e,rfl⟩,rfl⟩) ?_
  rw[beq_iff_eq.1 b]
  exact(beq_iff_eq.1 c).symm
theorem QvU{s:Qb}{id:Int}:(allJ s).any (fun x=>x.id==id)=(s.queue.any (fun x=>x.id==id)||s.runs.any (finP id)):=by
 rw[allJ,List.any_append,List.any_map]
 rfl
theorem Qk5{s:Qb}{id why:Int}(hs:Qo 1048576 s):SO 180 [Qz s,zI id,zI why] (fnsO s id why).1 (fnsO s id why).2:=by
 refine zAC func180 fun w0 Z=>?_
 have f:Qo 100000000 s:=hs.mono (by omega)
 have v:=YI f
 unfold fnsO
 cases h:Qf s with
 | false=>
  rw[h]at v
  rw[if_neg (fun h=>by cases h.1)]
  repeat'(first|(refine zhm fun hb=>?_;try exact zab)|refine zUtp ?_|refine zg2 ?_ ?_|intro _)
  all_goals
   exact zrr
 | true=>
  rw[h]at v
  by_cases hw:why=2\/why=3
  ·rw[if_pos ⟨rfl,hw⟩]
   have c:=Qaj h
   have t:=Qax h
   have ai:=hs.run
   have ah:=hs.que
   have ae:=hs.end'
   have ag:=c.jobs.left.len
   have af:=Qj s.queue
   have ad:=QJ s.ends
   have y:=Qfj (l:=s.runs) (p:=finP id) (g:=243) (ds:=[.n .i64 id]) (by omega) QrB
   have c3:=Qkf (l:=s.queue) (id:=id) (by omega)
   have d:=Qdi s.queue fun x=>x.id==id
   cases hr:s.runs.any (finP id) with
   | true=>
    rw[hr]at y
    rw[if_pos rfl]
    by_cases b:300<=s.ends.length
    ·rw[if_pos b]
     repeat'(first|(refine zhm fun hb=>?_;try exact zab)|(refine Wr 3 4 rfl rfl ?_)|refine zUtp ?_|refine zg2 ?_ ?_|intro _)
     all_goals
      exact zrr
    ·rw[if_neg b]
     have e:=Qpd (s:=s) (why:=why) (p:=finP id) (g:=245) (ds:=[.n .i64 id]) (u:=Qk s.up) f (fun r _=>Qo1 r)
     have m:=VD (s:=finR s id why) (Qcs hs b t (by omega)) ⟨c.jobs.left,c.depth⟩
     rw[Qw1]at m
     repeat'(first|(refine zhm fun hb=>?_;try exact zab)|(refine Wr 3 4 rfl rfl ?_)|refine zUtp ?_|refine zg2 ?_ ?_|refine kmu (Qe2 f) ?_|(refine kn2 [3,47,1047] (e) rfl rfl (fun i hi=>?_);try dsimp only at hi)|intro _)
     all_goals first
      | (exfalso;omega)
      | skip
     all_goals
      exact zr [70,1070,2070,3070,4070,5070] zae zae
   | false=>
    rw[hr]at y
    rw[if_neg (show ¬(false=true) by decide)]
    cases j:s.queue.any (fun x=>x.id==id) with
    | false=>
     rw[j,decide_eq_false_iff_not]at d
     rw[if_neg (fun h=>by cases h.1)]
     repeat'(first|(refine zhm fun hb=>?_;try exact zab)|(refine Wr 3 4 rfl rfl ?_)|refine zUtp ?_|refine zg2 ?_ ?_|intro _)
     all_goals
      exact zrr
    | true=>
     rw[j,decide_eq_true_eq]at d
     by_cases z:why=3
     ·rw[if_pos ⟨rfl,z⟩]
      by_cases b:300<=s.ends.length
      ·rw[if_pos b]
       repeat'(first|(refine zhm fun hb=>?_;try exact zab)|(refine Wr 3 4 rfl rfl ?_)|refine zUtp ?_|refine zg2 ?_ ?_|intro _)
       all_goals
        exact zrr
      ·rw[if_neg b]
       have o:idxF s.queue (fun x=>x.id==id)=((s.queue.findIdx (fun x=>x.id==id):Nat):Int):=if_pos j
       have a:s.queue.findIdx (fun x=>x.id==id)<s.queue.length:=List.findIdx_lt_length.2 (by simpa using XaV.1 j)
       have q:(nth s.queue (s.queue.findIdx (fun x=>x.id==id))).id=id:=by
        rw[Jd a]
        exact beq_iff_eq.1 (List.findIdx_getElem (w:=a))
       rw[o]at c3
       generalize s.queue.findIdx (fun x=>x.id==id)=k at *
       have e:=Ql1 (l:=s.queue) (k:=k) a (by omega)
       rw[XW c.jobs.left.nodup a,q]at e
       have m:=VD (s:=finQ s id why) (X3 hs b (by omega)) ⟨c.jobs.left.sub Qgq,c.depth⟩
       rw[QxT]at m
       repeat'(first|(refine zhm fun hb=>?_;try exact zab)|(refine Wr 3 4 rfl rfl ?_)|refine zUtp ?_|refine zg2 ?_ ?_|refine kmu (Qe2 f) ?_|(refine kn [47] (e) rfl rfl (fun i hi=>?_);try dsimp only at hi)|intro _)
       all_goals first
        | (exfalso;omega)
        | skip
       all_goals
        exact zr [70,1070,2070,3070,4070,5070] zae zae
     ·rw[if_neg (fun h=>z h.2)]
      repeat'(first|(refine zhm fun hb=>?_;try exact zab)|(refine Wr 3 4 rfl rfl ?_)|refine zUtp ?_|refine zg2 ?_ ?_|intro _)
      all_goals
       exact zrr
  ·rw[if_neg (fun h=>hw h.2)]
   repeat'(first|(refine zhm fun hb=>?_;try exact zab)|refine zUtp ?_|refine zg2 ?_ ?_|intro _)
   all_goals first
    | (exfalso;omega)
    | skip
   all_goals
    exact zrr
theorem QlU{s:Qb}{id why:Int}(hs:Qo 1048576 s):SS 285 [Qz s,zI id,zI why] (fnsO s id why).1 (fnsO s id why).2:=by
 refine zMC func285 fun w0 Z O=>?_
 have g:Qo 100000000 s:=hs.mono (by omega)
 have t:=Y3 g
 unfold fnsO
 cases h:Qf s with
 | false=>
  rw[h]at t
  rw[if_neg (fun h=>by cases h.1)]
  repeat'(first|(refine zhm fun hb=>?_;try exact zab)|refine zUrp ?_|refine zg2 ?_ ?_|intro _)
  all_goals
   exact zDR
 | true=>
  rw[h]at t
  by_cases v:why=2\/why=3
  ·rw[if_pos ⟨rfl,v⟩]
   have e:=Qaj h
   have r:=Qax h
   have w:=e.jobs.len
   have ab:=hs.run
   have aa:=hs.que
   have z:=hs.end'
   have y:=QJ s.ends
   have o:=Qa8 (l:=s.queue) (id:=id) (by omega)
   have b:=Qa8 (l:=allJ s) (id:=id) (by omega)
   have d:=QbJ (g.mono (m:=1000000000) (by omega))
   rw[Qlb]at o b
   rw[QvU]at b
   cases q:s.runs.any (finP id) with
   | true=>
    have k:=Qsf e.jobs q
    rw[q,k]at b
    rw[k]at o
    rw[if_pos rfl]
    by_cases a:300<=s.ends.length
    ·rw[if_pos a]
     repeat'(first|(refine zhm fun hb=>?_;try exact zab)|refine zUrp ?_|refine zg2 ?_ ?_|refine kmu d ?_|intro _)
     all_goals
      exact zDR
    ·rw[if_neg a]
     have c:=Qjq (s:=s) (why:=why) (id:=id) (node:=-1) g
     rw[Qqe (Qgr h),Qmc (Qgr h)]at c
     have p:=Wz (s:=finR s id why) (Qcs hs a r (by omega)) ⟨e.jobs.left,e.depth⟩
     repeat'(first|(refine zhm fun hb=>?_;try exact zab)|refine zUrp ?_|refine zg2 ?_ ?_|refine kmu d ?_|refine kmu (Qi7 g) ?_|(refine kn [54] (c) rfl rfl (fun i hi=>?_);try dsimp only at hi)|(refine kn [74,1074] (p) rfl rfl (fun i hi=>?_);try dsimp only at hi)|intro _)
     all_goals first
      | (exfalso;omega)
      | skip
     all_goals
      show AWp _ _ _ _
      refine Qp 76 rfl ?_
      show AWp _ _ _ _
      refine Qp 1076 rfl ?_
      exact zDR
   | false=>
    rw[q]at b
    rw[if_neg (show ¬(false=true) by decide)]
    cases k:s.queue.any (fun x=>x.id==id) with
    | false=>
     rw[k]at o b
     rw[if_neg (fun h=>by cases h.1)]
     repeat'(first|(refine zhm fun hb=>?_;try exact zab)|refine zUrp ?_|refine zg2 ?_ ?_|refine kmu d ?_|intro _)
     all_goals
      exact zDR
    | true=>
     rw[k]at o b
     by_cases u:why=3
     ·rw[if_pos ⟨rfl,u⟩]
      by_cases a:300<=s.ends.length
      ·rw[if_pos a]
       repeat'(first|(refine zhm fun hb=>?_;try exact zab)|refine zUrp ?_|refine zg2 ?_ ?_|refine kmu d ?_|intro _)
       all_goals
        exact zDR
      ·rw[if_neg a]
       have c:=Qjq (s:=finQ s id why) (why:=why) (id:=id) (node:=-1) (X3 hs a (by omega))
       have j:=Qqo (id:=id) h q
       dsimp only[QcF,finQ]at c
       rw[Qo8 j,Qn1 j,Xa3,<-Y5]at c
       have p:=Wz (s:=finQ s id why) (X3 hs a (by omega)) ⟨e.jobs.left.sub Qgq,e.depth⟩
       have f:endE (finQ s id why).ends=endE s.ends++[[.n .i64 id,.n .i64 s.now,.n .i64 why]]:=(Y5 s.ends ⟨id,s.now,why⟩).symm
       rw[f]at p
       repeat'(first|(refine zhm fun hb=>?_;try exact zab)|refine zUrp ?_|refine zg2 ?_ ?_|refine kmu d ?_|refine kmu (Qi7 g) ?_|refine kmu (QlJ (l:=s.queue) (id:=id) (by omega)) ?_|(refine kn [54] (c) rfl rfl (fun i hi=>?_);try dsimp only at hi)|(refine kn [74,1074] (p) rfl rfl (fun i hi=>?_);try dsimp only at hi)|intro _)
       all_goals first
        | (exfalso;omega)
        | skip
       all_goals
        show AWp _ _ _ _
        refine Qp 76 rfl ?_
        show AWp _ _ _ _
        refine Qp 1076 rfl ?_
        refine QA ?_
        apply Qs
        refine zm () [] trivial ?_ ?_ ?_
        repeat'(first|exact ze3|refine ze2 ?_ ?_|refine ze4 ?_|exact ze5|fail)
        all_goals exact zp (by first|rfl|exact f.symm)
     ·rw[if_neg (fun h=>u h.2)]
      repeat'(first|(refine zhm fun hb=>?_;try exact zab)|refine zUrp ?_|refine zg2 ?_ ?_|refine kmu d ?_|intro _)
      all_goals first
       | (exfalso;omega)
       | skip
      all_goals
       exact zDR
  ·rw[if_neg (fun h=>v h.2)]
   repeat'(first|(refine zhm fun hb=>?_;try exact zab)|refine zUrp ?_|refine zg2 ?_ ?_|intro _)
   all_goals first
    | (exfalso;omega)
    | skip
   all_goals
    exact zDR
theorem Qf1{s:Qb}{id why:Int}(hs:Qo 1048576 s):∀s',(fnsO s id why).1=some s'->Qo 1048576 s':=fun s' h=>by
 unfold fnsO at h
 split at h
 ·rename_i d
  have a:=Qaj d.1
  have c:=Qax d.1
  split at h
  ·split at h
   ·cases h
   ·rename_i b
    cases h
    exact VA ⟨a.jobs.left,a.depth⟩ (Qcs hs b c (Xaj _)) (by have:=Qa5 (p:=finP id) (l:=s.runs);simp only[finR];omega)
  ·split at h
   ·split at h
    ·cases h
    ·rename_i b
     cases h
     exact VA ⟨a.jobs.left.sub Qgq,a.depth⟩ (X3 hs b (Xaj _)) (by simp only[finQ];omega)
   ·cases h
 ·cases h
end
end Go.Proofs.YtkdniahincpmaaaGreat
