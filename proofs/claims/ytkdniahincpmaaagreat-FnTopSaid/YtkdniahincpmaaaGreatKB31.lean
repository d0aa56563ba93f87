/-
  Until: what it answers; starting keeps the jobs; the next end, both.
-/
import Derived.Test.YtkdniahincpmaaaGreatKB30
import Derived.Test.YtkdniahincpmaaaGreatKStV
set_option maxRecDepth 100000
set_option maxHeartbeats 16000000
namespace Go.Proofs.YtkdniahincpmaaaGreat
open Go Go.RowKit Tryz
section
attribute [local irreducible] AWp QI OpOk ACalls ChA QsOk MCalls NCalls EnC PY

def endP(t:Int)(r:Run):Bool:=r.at'+r.job.wall==t
def V4(m:Int)(r:Run):Int:=if m<0\/r.at'+r.job.wall<m then r.at'+r.job.wall else m
def QH(l:List Run):Int:=l.foldl V4 (-1)
structure Qxj (l:List Run):Prop where
 tim:∀r∈l,(0<=r.at'/\r.at'<=1000000000)/\1<=r.job.wall/\r.job.wall<=1000000
theorem Qch{l:List Run}{i:Nat}(h:i<l.length):QH (l.take (i+1))=V4 (QH (l.take i)) (nth l i):=by
 rw[QH,Qo h,XaJ];rfl
theorem Zm{l:List Run}(h:Qxj l):∀(i:Nat),i<=l.length->(-1<=QH (l.take i)/\QH (l.take i)<=1001000000)/\(0<=QH (l.take i)->∃r∈l,r.at'+r.job.wall=QH (l.take i))
 | 0,_=>⟨by simp[QH],fun h=>by simp[QH]at h⟩
 | i+1,hi=>by
  obtain⟨h1,h2⟩:=Zm h i (by omega)
  have hr:=h.tim _ (QC (show i<l.length by omega))
  rw[Qch (by omega)]
  unfold V4
  split
  ·exact⟨by omega,fun _=>⟨_,QC (by omega),rfl⟩⟩
  ·exact⟨h1,h2⟩
theorem Qvx{p:Run->Bool}{l:List Run}(h:∃r∈l,p r=true):(JP p l).length<l.length:=by
 obtain⟨r,c,b⟩:=h
 unfold JP
 rw[Xb1]
 exact⟨r,c,by rw[b];decide⟩
def unt1(s:Qb)(t:Int):Qb:={ s with now:=t,runs:=JP (endP t) s.runs,ends:=s.ends++QN t 1 (endP t) s.runs }
noncomputable def untG:Nat->Qb->Int->Option Qb
 | 0,_,_=>none
 | f+1,s,t=>if QH s.runs<0\/t<QH s.runs then some { s with now:=t } else if 300<(unt1 s (QH s.runs)).ends.length then none else untG f (Jr (unt1 s (QH s.runs))) t
noncomputable def untO (s:Qb) (t:Int):Option Qb:=if Qe s=true/\s.now<=t/\t<=1000000000 then untG ((allJ s).length+1) s t else none
theorem Qge{α:Type}:∀{l:List α} {i:Nat} (h:i<l.length),(l[i]::l.eraseIdx i).Perm l
 | [],i,h=>absurd h (Xar _)
 | x::l,0,_=>Xbv _
 | x::l,i+1,h=>(List.Perm.swap x _ _).trans ((Qge (l:=l) (i:=i) (by simpa using h)).cons x)
theorem Qid{now:Int}{qs:List Job}{rs:List Run}{hs:List JD}(hq:(qs.map Job.id).Nodup)(hn:(hs.map JD.id).Nodup)(hsub:∀h∈hs,h.id∈qs.map Job.id):∀(i:Nat),i<=hs.length->((runF now qs rs (hs.take i)).1++(runF now qs rs (hs.take i)).2.map Run.job).Perm (qs++rs.map Run.job)
 | 0,_=>by simp[runF]
 | i+1,hi=>by
  refine List.Perm.trans ?_ (Qid (now:=now) (rs:=rs) hq hn hsub i (by omega))
  obtain⟨hP,hin⟩:=strP (now:=now) (rs:=rs) hn hsub i (by omega)
  have hin:=hin (by omega)
  have hnd:((runF now qs rs (hs.take i)).1.map Job.id).Nodup:=(hP.sub.map Job.id).nodup hq
  rw[Vg (by omega)]
  generalize runF now qs rs (hs.take i)=q at hin hnd ⊢
  obtain⟨k,hk1,_,hk3,hk4⟩:=Qu6 hin
  unfold runH
  rw[hk4,XaI,XaG,<-hk3,<-X2 hnd hk1]
  dsimp only[List.map_cons,List.map_nil]
  refine(Xck _ List.perm_append_comm).trans ?_
  rw[<-Xaq]
  refine List.Perm.append_right _ ?_
  refine(List.perm_append_singleton _ _).trans ?_
  rw[Jb hk1]
  exact Qge hk1
theorem QeN{s:Qb}(h:Je s.queue):(allJ (Jr s)).Perm (allJ s):=by
 cases c:Jg s with
 | none=>rw[QbW c]
 | some r=>
  have a:=Qcf c
  have b:((ordJ s.queue).map Job.id).Perm (s.queue.map Job.id):=(Xbx _ _).map _
  have:=Qid (now:=s.now) (rs:=s.runs) h.nodup (a.sub.nodup (b.nodup_iff.2 h.nodup)) (fun x hx=>b.mem_iff.1 (a.sub.subset (Xaf.2 ⟨x,hx,rfl⟩))) (Ww s).1.length (Xaj _)
  rw[Xak]at this
  exact this
theorem Je.perm{l l':List Job}(h:Je l)(hp:l'.Perm l):Je l':=QdV (by rw[hp.length_eq];exact h.len) (fun x hx=>h.ok x (hp.mem_iff.1 hx)) ((hp.map Job.id).nodup_iff.2 h.nodup)
theorem Qnc{s:Qb}(hd:0<=s.depth/\s.depth<=60)(h:Je s.queue)(ht:Qxj s.runs):Qxj (Jr s).runs:=by
 cases d:Jg s with
 | none=>rw[QbW d];exact ht
 | some r=>
  have c:QbX s r:=⟨d,h,hd⟩
  obtain⟨e,_⟩:=c.strP (Ww s).1.length (Xaj _)
  have a:=c.now
  refine⟨fun y hy=>?_⟩
  have b:y∈(runF s.now s.queue s.runs ((Ww s).1.take (Ww s).1.length)).2:=by rw[Xak];exact hy
  rcases e.new y b with h1|⟨x,_,e1,_,e3,_⟩
  ·exact ht.tim y h1
  ·obtain⟨_,f⟩:=YB (h.ok _ e3)
   exact⟨by rw[e1];exact a,f⟩
structure Qus (s:Qb):Prop where
 jobs:Je (allJ s)
 depth:0<=s.depth/\s.depth<=60
 small:Qj 1048576 s
 ends:s.ends.length<=300
 tim:Qxj s.runs
theorem Qus.runs{s:Qb}(h:Qus s):s.runs.length<=60:=by
 have:=h.jobs.len
 simp only[allJ,Xaa,XaB]at this
 omega
theorem Qhg{s:Qb}{t:Int}:(allJ (unt1 s t)).Sublist (allJ s):=XbV (Xbt _) ((XaE).map _)
theorem Qb3{s:Qb}{t:Int}{n:Nat}(h:Qus s)(hn:1048576<=n):Qj n (unt1 s t):=by
 have h1:=QbC (p:=endP t) (l:=s.runs)
 have h2:=X7 (now:=t) (why:=1) (p:=endP t) (l:=s.runs)
 have h3:=h.runs
 have h4:=h.ends
 have hl:(s.ends++QN t 1 (endP t) s.runs).length=s.ends.length+(QN t 1 (endP t) s.runs).length:=Xaa
 have a:=h.small
 refine⟨Xal a.par hn,Xal a.nod hn,Xal a.up hn,Xal a.que hn,by simp only[unt1];omega,by simp only[unt1];omega,fun j hj=>?_⟩
 obtain⟨i,b,e⟩:=Jo (Qhs hj)
 rw[show(unt1 s t).runs=JP (endP t) s.runs from rfl,<-e]
 exact Xal (a.rno i b) hn
theorem QkY{s:Qb}(h:Qe s=true)(hs:Qj 1048576 s):Qus s:=by
 have a:=pB_t.1 h
 obtain⟨r,b⟩:=XaO.1 a.room
 obtain⟨_,_,_,hb,c⟩:=Yo b
 refine⟨a.jobs,a.depth,hs,a.ends,⟨fun y hy=>?_⟩⟩
 obtain⟨d,k2,_⟩:=Zc.1 (c y hy).1
 have:=hb.now
 exact⟨by omega,(YB d).2⟩
theorem Qe5{s:Qb}(h:Qus s)(hn:0<=QH s.runs)(he:¬300<(unt1 s (QH s.runs)).ends.length):Qus (Jr (unt1 s (QH s.runs)))/\(allJ (Jr (unt1 s (QH s.runs)))).length<(allJ s).length:=by
 have d:=h.jobs.sub (Qhg (s:=s) (t:=QH s.runs))
 have a:Je (unt1 s (QH s.runs)).queue:=d.left
 have c:=QeN a
 have b:=Zm h.tim s.runs.length (Xaj _)
 rw[Xak]at b
 obtain⟨r,f,e⟩:=b.2 hn
 have hk:=Qvx (p:=endP (QH s.runs)) ⟨r,f,by unfold endP;rw[e];exact beq_self_eq_true _⟩
 have g:Qxj (unt1 s (QH s.runs)).runs:=⟨fun y hy=>h.tim.tim y (Xay.1 hy).1⟩
 refine⟨⟨d.perm c,h.depth,VZ ⟨a,h.depth⟩ (Qb3 h (Xaj _)) ?_,Xcp he,Qnc h.depth a g⟩,?_⟩
 ·have:=h.runs
  show(JP _ _).length<=_
  omega
 ·rw[c.length_eq]
  simp only[allJ,Xaa,XaB,unt1]
  omega
theorem Qpq{s:Qb}(hs:Qj 100000000 s)(ht:Qxj s.runs):zAc 248 [Qt s] [zI (QH s.runs)] []:=by
 refine zAC func248 fun w0 Z=>?_
 have hl:=Qg s.runs
 have h5:=hs.run
 repeat'(first|(refine zhm fun hb=>?_;try exact zab)|refine zUtp ?_|refine zg2 ?_ ?_|intro _)
 refine Qa (fun(k:Nat)=>⟨30,[(3,zI (QH (s.runs.take k))),(8,zL (runE s.runs)),(9,zI (s.runs.length:Nat)),(10,zI k)],[]⟩) (fun k=>k<=s.runs.length) (fun k=>s.runs.length-k) 0 (by exact Xad _) ?_ ?_
 ·exact zll
 ·intro k d
  have hb:=(Zm ht k d).1
  by_cases b:k<s.runs.length
  ·have hr:=ht.tim _ (QC b)
   have a:=Qch b
   generalize QH (s.runs.take k)=m at *
   unfold V4 at a
   by_cases c:m<0\/(nth s.runs k).at'+(nth s.runs k).job.wall<m
   ·rw[if_pos c]at a
    repeat'(first|(refine zhm fun hb=>?_;try exact zab)|refine zUtp ?_|refine zg2 ?_ ?_|intro _)
    all_goals first|(exfalso;omega)|skip
    all_goals
     refine⟨k+1,by omega,by omega,?_⟩
     exact zll
   ·rw[if_neg c]at a
    repeat'(first|(refine zhm fun hb=>?_;try exact zab)|refine zUtp ?_|refine zg2 ?_ ?_|intro _)
    all_goals first|(exfalso;omega)|skip
    all_goals
     refine⟨k+1,by omega,by omega,?_⟩
     exact zll
  ·obtain rfl:k=s.runs.length:=by omega
   rw[Xak]at *
   repeat'(first|(refine zhm fun hb=>?_;try exact zab)|refine zUtp ?_|refine zg2 ?_ ?_|intro _)
   exact zrr
theorem Qjt{s:Qb}(hs:Qj 100000000 s)(ht:Qxj s.runs):zAc 319 [Qt s] [zI (QH s.runs)] []:=by
 refine zAC func319 fun w0 Z=>?_
 have hl:=Qg s.runs
 have h5:=hs.run
 repeat'(first|(refine zhm fun hb=>?_;try exact zab)|refine zUtp ?_|refine zg2 ?_ ?_|intro _)
 refine Qa (fun(k:Nat)=>⟨33,[(3,zI (QH (s.runs.take k))),(7,zL (runE s.runs)),(8,zI (s.runs.length:Nat)),(9,zI k)],[]⟩) (fun k=>k<=s.runs.length) (fun k=>s.runs.length-k) 0 (by exact Xad _) ?_ ?_
 ·exact zll
 ·intro k d
  have hb:=(Zm ht k d).1
  by_cases b:k<s.runs.length
  ·have hr:=ht.tim _ (QC b)
   have a:=Qch b
   generalize QH (s.runs.take k)=m at *
   unfold V4 at a
   by_cases c:m<0\/(nth s.runs k).at'+(nth s.runs k).job.wall<m
   ·rw[if_pos c]at a
    repeat'(first|(refine zhm fun hb=>?_;try exact zab)|refine zUtp ?_|refine zg2 ?_ ?_|intro _)
    all_goals first|(exfalso;omega)|skip
    all_goals
     refine⟨k+1,by omega,by omega,?_⟩
     exact zll
   ·rw[if_neg c]at a
    repeat'(first|(refine zhm fun hb=>?_;try exact zab)|refine zUtp ?_|refine zg2 ?_ ?_|intro _)
    all_goals first|(exfalso;omega)|skip
    all_goals
     refine⟨k+1,by omega,by omega,?_⟩
     exact zll
  ·obtain rfl:k=s.runs.length:=by omega
   rw[Xak]at *
   repeat'(first|(refine zhm fun hb=>?_;try exact zab)|refine zUtp ?_|refine zg2 ?_ ?_|intro _)
   exact zrr

@[reducible] def unR (o:Option Qb):List AV:=match o with
 | none=>[.agg ctl0,.d (.b false)]
 | some s=>[QaX s 0 1 2 3 4 5,.d (.b true)]
theorem Qtt{t:Int}{r:Run}(h:(0<=r.at'/\r.at'<=1000000000)/\1<=r.job.wall/\r.job.wall<=1000000):zAc 249 [runA r,.pd [.n .i64 t] 0] [.d (.b (endP t r))] []:=by
 refine zAC func249 fun w0 Z=>?_
 repeat'(first|(refine zhm fun hb=>?_;try exact zab)|refine zUtn ?_|refine zg2 ?_ ?_|intro _)
 exact zrr
theorem Qwg{s:Qb}{t:Int}(hs:Qj 1048576 s):zAc 184 [Qt s,zI t] (unR (untO s t)) (stB (untO s t)):=by
 refine zAC func184 fun w0 Z=>?_
 have hm:Qj 100000000 s:=hs.mono (by omega)
 have o:=JX hm
 by_cases e:Qe s=true/\s.now<=t/\t<=1000000000
 ·obtain⟨h,v,w⟩:=e
  rw[h]at o
  have x:untG ((allJ s).length+1) s t=untO s t:=(if_pos ⟨h,v,w⟩).symm
  have hU:=QkY h hs
  generalize untO s t=R at x ⊢
  repeat'(first|(refine zhm fun hb=>?_;try exact zab)|refine zUtp ?_|refine zg2 ?_ ?_|refine zqj QV ?_|refine kc (Q2 hm) rfl rfl ?_|intro _)
  all_goals first|(exfalso;omega)|skip
  refine Yd 19 39 rfl ?_
  refine Yd 1019 1039 rfl ?_
  refine Yd 2019 2039 rfl ?_
  refine Yd 3019 3039 rfl ?_
  refine Yd 4019 4039 rfl ?_
  refine Yd 5019 5039 rfl ?_
  refine Qa (fun(k:Qb×Nat)=>⟨43,[(1,zI t),(2,.ptr 2 0),(4,.ptr 4 0)],[(2,.box 34 (stC k.1 39 1039 2039 3039 4039 5039)),(4,.box 34 ctl0),(39,.row 3 (intE k.1.topo.parents) true),(1039,.row 62 (Qw k.1.topo.nodes) true),(2039,.row 4 (Qp k.1.up) true),(3039,.row 40 (jobE k.1.queue) true),(4039,.row 66 (runE k.1.runs) true),(5039,.row 123 (endE k.1.ends) true)]⟩) (fun k=>Qus k.1/\(allJ k.1).length<k.2/\untG k.2 k.1 t=R) (fun k=>k.2) (s,(allJ s).length+1) (by exact⟨hU,Nat.lt_succ_self _,x⟩) ?_ ?_
  ·exact zll
  rintro ⟨a,f⟩ ⟨b,m,d⟩
  dsimp only at b m d ⊢
  have c:Qj 100000000 a:=b.small.mono (by omega)
  have c2:=Qpq c b.tim
  have hb:=Zm b.tim a.runs.length (Xaj _)
  rw[Xak]at hb
  have hb:=hb.1
  cases f with
  | zero=>exact absurd m (Xar _)
  | succ f=>
   unfold untG at d
   by_cases y:QH a.runs<0\/t<QH a.runs
   ·rw[if_pos y]at d
    subst d
    repeat'(first|(refine zhm fun hb=>?_;try exact zab)|refine zUtp ?_|refine zg2 ?_ ?_|intro _)
    all_goals first|(exfalso;omega)|skip
    all_goals
     exact zr [39,1039,2039,3039,4039,5039] zae zae
   ·rw[if_neg y]at d
    have ae:=QO (a.ends++QN (QH a.runs) 1 (endP (QH a.runs)) a.runs)
    have af:(a.ends++QN (QH a.runs) 1 (endP (QH a.runs)) a.runs).length=a.ends.length+(QN (QH a.runs) 1 (endP (QH a.runs)) a.runs).length:=Xaa
    have z:=X7 (now:=QH a.runs) (why:=1) (p:=endP (QH a.runs)) (l:=a.runs)
    have aa:=b.ends
    have ab:=b.runs
    have q:=Qw2 (s:={ a with now:=QH a.runs }) (why:=1) (p:=endP (QH a.runs)) (g:=249) (ds:=[.n .i64 (QH a.runs)]) ⟨c.par,c.nod,c.up,c.que,c.run,c.end',c.rno⟩ (fun r hr=>Qtt (b.tim.tim r hr))
    dsimp only[stEw]at q
    by_cases j:300<(unt1 a (QH a.runs)).ends.length
    ·rw[if_pos j]at d
     subst d
     have u:300<(a.ends++QN (QH a.runs) 1 (endP (QH a.runs)) a.runs).length:=j
     repeat'(first|(refine zhm fun hb=>?_;try exact zab)|(refine Qh 7 4039 rfl ?_)|(refine Wp 7 6 rfl rfl ?_)|refine zUtp ?_|refine zg2 ?_ ?_|(refine kn2 [2,39,1039,2039,3039,5039] (q) rfl rfl (fun i hi=>?_);try dsimp only at hi)|intro _)
     all_goals first|(exfalso;omega)|skip
     all_goals
      exact zrr
    ·rw[if_neg j]at d
     have u:¬300<(a.ends++QN (QH a.runs) 1 (endP (QH a.runs)) a.runs).length:=j
     obtain⟨k1,k2⟩:=Qe5 b (by omega) j
     have c7:=VR (s:=unt1 a (QH a.runs)) (Qb3 b (by omega)) ⟨(b.jobs.sub Qhg).left,b.depth⟩
     repeat'(first|(refine zhm fun hb=>?_;try exact zab)|(refine Qh 7 4039 rfl ?_)|(refine Wp 7 6 rfl rfl ?_)|refine zUtp ?_|refine zg2 ?_ ?_|(refine kn2 [2,39,1039,2039,3039,5039] (q) rfl rfl (fun i hi=>?_);try dsimp only at hi)|intro _)
     all_goals first|(exfalso;omega)|skip
     all_goals
      refine⟨(Jr (unt1 a (QH a.runs)),f),⟨k1,by dsimp only;omega,d⟩,by dsimp only;omega,?_⟩
      exact zll
 ·rw[show untO s t=none from if_neg e]
  cases h:Qe s with
  | false=>
   rw[h]at o
   repeat'(first|(refine zhm fun hb=>?_;try exact zab)|refine zUtp ?_|refine zg2 ?_ ?_|intro _)
   exact zrr
  | true=>
   rw[h]at o
   repeat'(first|(refine zhm fun hb=>?_;try exact zab)|refine zUtp ?_|refine zg2 ?_ ?_|refine zqj QV ?_|intro _)
   all_goals first|(exfalso;exact e ⟨h,by omega,by omega⟩)|skip
   all_goals
    exact zrr

@[reducible] def stUn (s:Qb) (n:Int) (v:AV) (q:Nat):List AV:=[zL (intE s.topo.parents),zL (Qw s.topo.nodes),zL (Qp s.up),zI s.lic.a,zI s.lic.b,zI s.lic.c,zI s.depth,zI n,zL (jobE s.queue),v,.row q]
theorem Qv3{s:Qb}{t:Int}(hs:Qj 1048576 s):DC Tryz.prog 289 [Qt s,zI t] [Qt ((untO s t).getD zS),.d (.b (untO s t).isSome)]:=by
 refine zMC func289 fun w0 Z O=>?_
 have hm:Qj 100000000 s:=hs.mono (by omega)
 have v:=Yl hm
 have w:=Wl (x:=t)
 by_cases j:Qe s=true/\s.now<=t/\t<=1000000000
 ·obtain⟨h,ac,ad⟩:=j
  rw[h]at v
  have aj:0<=s.now:=by
   obtain⟨r,hr⟩:=XaO.1 (pB_t.1 h).room
   exact(Yo hr).2.2.2.1.now.1
  rw[show inB t 0 1000000000=true by rw[JA];omega]at w
  have hR:untG ((allJ s).length+1) s t=untO s t:=(if_pos ⟨h,ac,ad⟩).symm
  have hU:=QkY h hs
  have c2:=Qjt hm hU.tim
  generalize untO s t=R at hR ⊢
  repeat'(first|(refine zhm fun hb=>?_;try exact zab)|refine zUrp ?_|refine zg2 ?_ ?_|refine kmu (Qe9 hm) ?_|intro _)
  all_goals first|(exfalso;omega)|skip
  refine Yd 26 79 rfl ?_
  refine Yd 1026 1079 rfl ?_
  refine Qa (fun(k:Qb×Nat)=>⟨83,[(1,zI t),(2,.ptr 2 0),(4,.ptr 4 0),(6,zI (QH k.1.runs))],[(2,.box 34 (W9 k.1 79 1079)),(4,.box 34 ctl0),(79,.row 66 (runE k.1.runs) false),(1079,.row 123 (endE k.1.ends) true)]⟩) (fun k=>Qus k.1/\(allJ k.1).length<k.2/\untG k.2 k.1 t=R) (fun k=>k.2) (s,(allJ s).length+1) (by exact⟨hU,Nat.lt_succ_self _,hR⟩) ?_ ?_
  ·exact zll
  rintro ⟨a,f⟩ ⟨c,o,g⟩
  dsimp only at c o g ⊢
  have au:Qj 100000000 a:=c.small.mono (by omega)
  have hb:=Zm c.tim a.runs.length (Xaj _)
  rw[Xak]at hb
  have hb:=hb.1
  cases f with
  | zero=>exact absurd o (Xar _)
  | succ f=>
   unfold untG at g
   by_cases hc:QH a.runs<0\/t<QH a.runs
   ·rw[if_pos hc]at g
    subst g
    repeat'(first|(refine zhm fun hb=>?_;try exact zab)|refine zUrp ?_|refine zg2 ?_ ?_|intro _)
    all_goals first|(exfalso;omega)|skip
    all_goals
     show AWp _ _ _ _
     refine Qr 79 rfl ?_
     show AWp _ _ _ _
     refine Qr 1079 rfl ?_
     exact zDR
   ·rw[if_neg hc]at g
    have av:=Qg a.runs
    have aw:=c.runs
    have ar:=c.ends
    have ai:=X7 (now:=QH a.runs) (why:=1) (p:=endP (QH a.runs)) (l:=a.runs)
    repeat'(first|(refine zhm fun hb=>?_;try exact zab)|(refine Qh 9 79 rfl ?_)|refine zUrp ?_|refine zg2 ?_ ?_|intro _)
    all_goals first|(exfalso;omega)|skip
    refine Vp 40 rfl ?_
    refine Yd 1079 62 rfl ?_
    refine Qa (fun(k:Nat)=>⟨83,[(1,zI t),(2,.ptr 2 0),(4,.ptr 4 0),(6,zI (QH a.runs)),(7,.row 40),(42,zL (runE a.runs)),(43,zI (a.runs.length:Nat)),(44,zI k)],[(2,.box 34 (stUn a (QH a.runs) (zL (runE a.runs)) 62)),(4,.box 34 ctl0),(62,.row 123 (endE (a.ends++QN (QH a.runs) 1 (endP (QH a.runs)) (a.runs.take k))) true),(40,.row 66 (runE (JP (endP (QH a.runs)) (a.runs.take k))) false)]⟩) (fun k=>k<=a.runs.length) (fun k=>a.runs.length-k) 0 (by exact Xad _) ?_ ?_
    ·refine⟨rfl,?_,?_,rfl⟩
     repeat'(first|exact ze3|refine ze2 ?_ ?_|refine ze4 ?_|exact ze5|fail)
     all_goals exact zp (by first|rfl|exact Qg _|(simp[QN];done))
    intro k hk
    have am:=Qg (JP (endP (QH a.runs)) (a.runs.take k))
    have an:=QO (a.ends++QN (QH a.runs) 1 (endP (QH a.runs)) (a.runs.take k))
    have aq:(a.ends++QN (QH a.runs) 1 (endP (QH a.runs)) (a.runs.take k)).length=a.ends.length+(QN (QH a.runs) 1 (endP (QH a.runs)) (a.runs.take k)).length:=Xaa
    have ao:=XN (p:=endP (QH a.runs)) (l:=a.runs) (i:=k)
    have ap:=Xx (now:=QH a.runs) (why:=1) (p:=endP (QH a.runs)) (l:=a.runs) (i:=k)
    by_cases e:k<a.runs.length
    ·have hr:=c.tim.tim _ (QC e)
     by_cases u:(nth a.runs k).at'+(nth a.runs k).job.wall=QH a.runs
     ·have q:endP (QH a.runs) (nth a.runs k)=true:=by unfold endP;rw[u];exact beq_self_eq_true _
      have y:=VY e q
      have z:=VW (now:=QH a.runs) (why:=1) e q
      generalize QN (QH a.runs) 1 (endP (QH a.runs)) (a.runs.take k)=ge at *
      repeat'(first|(refine zhm fun hb=>?_;try exact zab)|refine zUrp ?_|refine zg2 ?_ ?_|intro _)
      all_goals first|(exfalso;omega)|skip
      refine⟨k+1,by omega,by omega,?_⟩
      refine⟨rfl,?_,?_,rfl⟩
      repeat'(first|exact ze3|refine ze2 ?_ ?_|refine ze4 ?_|exact ze5|fail)
      all_goals exact zp (by first|rfl|(rw[y];done)|(rw[z,<-Xaq];exact Y1 _ ⟨_,_,_⟩))
     ·have q:endP (QH a.runs) (nth a.runs k)=false:=by unfold endP;rw[beq_eq_false_iff_ne];exact u
      have y:=QbD e q
      have z:=Qa9 (now:=QH a.runs) (why:=1) e q
      repeat'(first|(refine zhm fun hb=>?_;try exact zab)|refine zUrp ?_|refine zg2 ?_ ?_|intro _)
      all_goals first|(exfalso;omega)|skip
      refine⟨k+1,by omega,by omega,?_⟩
      refine⟨rfl,?_,?_,rfl⟩
      repeat'(first|exact ze3|refine ze2 ?_ ?_|refine ze4 ?_|exact ze5|fail)
      all_goals exact zp (by first|rfl|(rw[z];done)|(rw[y];exact XL _ _))
    ·obtain rfl:k=a.runs.length:=by omega
     rw[Xak]at *
     by_cases m:300<(unt1 a (QH a.runs)).ends.length
     ·rw[if_pos m]at g
      subst g
      have aa:300<(a.ends++QN (QH a.runs) 1 (endP (QH a.runs)) a.runs).length:=m
      repeat'(first|(refine zhm fun hb=>?_;try exact zab)|refine zUrp ?_|refine zg2 ?_ ?_|intro _)
      all_goals first|(exfalso;omega)|skip
      all_goals
       exact zDR
     ·rw[if_neg m]at g
      have aa:¬300<(a.ends++QN (QH a.runs) 1 (endP (QH a.runs)) a.runs).length:=m
      obtain⟨k1,k2⟩:=Qe5 c (by omega) m
      have c7:=WH (s:=unt1 a (QH a.runs)) (Qb3 c (by omega)) ⟨(c.jobs.sub Qhg).left,c.depth⟩
      have c8:=Qjt (s:=Jr (unt1 a (QH a.runs))) (k1.small.mono (by omega)) k1.tim
      repeat'(first|(refine zhm fun hb=>?_;try exact zab)|refine zUrp ?_|refine zg2 ?_ ?_|(refine kn [40,62] (c7) rfl rfl (fun i n=>?_);try dsimp only at n)|intro _)
      all_goals first|(exfalso;omega)|skip
      all_goals
       refine⟨(Jr (unt1 a (QH a.runs)),f),⟨k1,by dsimp only;omega,g⟩,by dsimp only;omega,?_⟩
       exact zll
 ·rw[show untO s t=none from if_neg j]
  cases h:Qe s with
  | false=>
   rw[h]at v
   repeat'(first|(refine zhm fun hb=>?_;try exact zab)|refine zUrp ?_|refine zg2 ?_ ?_|intro _)
   exact zDR
  | true=>
   rw[h]at v
   cases n:inB t 0 1000000000 with
   | false=>
    rw[n]at w
    repeat'(first|(refine zhm fun hb=>?_;try exact zab)|refine zUrp ?_|refine zg2 ?_ ?_|intro _)
    all_goals
     exact zDR
   | true=>
    rw[n]at w
    rw[JA]at n
    repeat'(first|(refine zhm fun hb=>?_;try exact zab)|refine zUrp ?_|refine zg2 ?_ ?_|intro _)
    all_goals first|(exfalso;exact j ⟨h,by omega,by omega⟩)|skip
    all_goals
     exact zDR

theorem Qf3:∀(f:Nat) (s:Qb) (t:Int),Qus s->∀s',untG f s t=some s'->Qj 1048576 s'
 | 0,_,_,_,_,h=>by cases h
 | f+1,s,t,hU,s',h=>by
  unfold untG at h
  split at h
  ·cases h
   exact⟨hU.small.par,hU.small.nod,hU.small.up,hU.small.que,hU.small.run,hU.small.end',hU.small.rno⟩
  ·rename_i hc
   split at h
   ·cases h
   ·rename_i h6
    exact Qf3 f _ t (Qe5 hU (by omega) h6).1 s' h
theorem Qgu{s:Qb}{t:Int}(hs:Qj 1048576 s):∀s',untO s t=some s'->Qj 1048576 s':=fun s' h=>by
 unfold untO at h
 split at h
 ·rename_i a
  exact Qf3 _ s t (QkY a.1 hs) s' h
 ·cases h
end
end Go.Proofs.YtkdniahincpmaaaGreat
