/-
  Until: what it answers; starting keeps the jobs; the next end, both.
-/
import Derived.Test.YtkdniahincpmaaaGreatQB29
import Derived.Test.YtkdniahincpmaaaGreatQStV
set_option maxRecDepth 100000
set_option maxHeartbeats 16000000
namespace Go.Proofs.YtkdniahincpmaaaGreat
open Go Go.RowKit Tryz
section
attribute [local irreducible] AWp QM OpOk ACalls ChA QsOk MCalls NCalls EnC PY

def endP(t:Int)(r:Run):Bool:=r.at'+r.job.wall==t
def VU(m:Int)(r:Run):Int:=if m<0\/r.at'+r.job.wall<m then r.at'+r.job.wall else m
def QH(l:List Run):Int:=l.foldl VU (-1)
structure QwP (l:List Run):Prop where
 tim:∀r∈l,(0<=r.at'/\r.at'<=1000000000)/\1<=r.job.wall/\r.job.wall<=1000000
theorem QbZ{l:List Run}{i:Nat}(h:i<l.length):QH (l.take (i+1))=VU (QH (l.take i)) (nth l i):=by
 rw[QH,QF h,XaN];rfl
theorem Zu{l:List Run}(h:QwP l):∀(i:Nat),i<=l.length->(-1<=QH (l.take i)/\QH (l.take i)<=1001000000)/\(0<=QH (l.take i)->∃r∈l,r.at'+r.job.wall=QH (l.take i))
 | 0,_=>⟨by simp[QH],fun h=>by simp[QH]at h⟩
 | i+1,hi=>by
  obtain⟨h1,h2⟩:=Zu h i (by omega)
  have hr:=h.tim _ (QE (show i<l.length by omega))
  rw[QbZ (by omega)]
  unfold VU
  split
  ·exact⟨by omega,fun _=>⟨_,QE (by omega),rfl⟩⟩
  ·exact⟨h1,h2⟩
theorem Qww{p:Run->Bool}{l:List Run}(h:∃r∈l,p r=true):(JU p l).length<l.length:=by
 obtain⟨r,c,b⟩:=h
 unfold JU
 rw[Xb5]
 exact⟨r,c,by rw[b];decide⟩
def unt1(s:Qb)(t:Int):Qb:={ s with now:=t,runs:=JU (endP t) s.runs,ends:=s.ends++QR t 1 (endP t) s.runs }
noncomputable def untG:Nat->Qb->Int->Option Qb
 | 0,_,_=>none
 | f+1,s,t=>if QH s.runs<0\/t<QH s.runs then some { s with now:=t } else if 300<(unt1 s (QH s.runs)).ends.length then none else untG f (Js (unt1 s (QH s.runs))) t
noncomputable def untO (s:Qb) (t:Int):Option Qb:=if Qf s=true/\s.now<=t/\t<=1000000000 then untG ((allJ s).length+1) s t else none
theorem QfU{α:Type}:∀{l:List α} {i:Nat} (h:i<l.length),(l[i]::l.eraseIdx i).Perm l
 | [],i,h=>absurd h (Xaq _)
 | x::l,0,_=>Xby _
 | x::l,i+1,h=>(List.Perm.swap x _ _).trans ((QfU (l:=l) (i:=i) (by simpa using h)).cons x)
theorem Qik{now:Int}{qs:List Job}{rs:List Run}{hs:List JL}(hq:(qs.map Job.id).Nodup)(hn:(hs.map JL.id).Nodup)(hsub:∀h∈hs,h.id∈qs.map Job.id):∀(i:Nat),i<=hs.length->((runF now qs rs (hs.take i)).1++(runF now qs rs (hs.take i)).2.map Run.job).Perm (qs++rs.map Run.job)
 | 0,_=>by simp[runF]
 | i+1,hi=>by
  refine List.Perm.trans ?_ (Qik (now:=now) (rs:=rs) hq hn hsub i (by omega))
  obtain⟨hP,hin⟩:=strP (now:=now) (rs:=rs) hn hsub i (by omega)
  have hin:=hin (by omega)
  have hnd:((runF now qs rs (hs.take i)).1.map Job.id).Nodup:=(hP.sub.map Job.id).nodup hq
  rw[W3 (by omega)]
  generalize runF now qs rs (hs.take i)=q at hin hnd ⊢
  obtain⟨k,hk1,_,hk3,hk4⟩:=QuA hin
  unfold runH
  rw[hk4,XaJ,XaG,<-hk3,<-XW hnd hk1]
  dsimp only[List.map_cons,List.map_nil]
  refine(Xco _ List.perm_append_comm).trans ?_
  rw[<-Xao]
  refine List.Perm.append_right _ ?_
  refine(List.perm_append_singleton _ _).trans ?_
  rw[Jd hk1]
  exact QfU hk1
theorem Qd3{s:Qb}(h:Jg s.queue):(allJ (Js s)).Perm (allJ s):=by
 cases c:Jr s with
 | none=>rw[Qa4 c]
 | some r=>
  have a:=QeU c
  have b:((ordJ s.queue).map Job.id).Perm (s.queue.map Job.id):=(Xbz _ _).map _
  have:=Qik (now:=s.now) (rs:=s.runs) h.nodup (a.sub.nodup (b.nodup_iff.2 h.nodup)) (fun x hx=>b.mem_iff.1 (a.sub.subset (Xaf.2 ⟨x,hx,rfl⟩))) (Vh s).1.length (Xaj _)
  rw[Xal]at this
  exact this
theorem Jg.perm{l l':List Job}(h:Jg l)(hp:l'.Perm l):Jg l':=QeV (by rw[hp.length_eq];exact h.len) (fun x hx=>h.ok x (hp.mem_iff.1 hx)) ((hp.map Job.id).nodup_iff.2 h.nodup)
theorem Qnn{s:Qb}(hd:0<=s.depth/\s.depth<=60)(h:Jg s.queue)(ht:QwP s.runs):QwP (Js s).runs:=by
 cases d:Jr s with
 | none=>rw[Qa4 d];exact ht
 | some r=>
  have c:QcV s r:=⟨d,h,hd⟩
  obtain⟨e,_⟩:=c.strP (Vh s).1.length (Xaj _)
  have a:=c.now
  refine⟨fun y hy=>?_⟩
  have b:y∈(runF s.now s.queue s.runs ((Vh s).1.take (Vh s).1.length)).2:=by rw[Xal];exact hy
  rcases e.new y b with h1|⟨x,_,e1,_,e3,_⟩
  ·exact ht.tim y h1
  ·obtain⟨_,f⟩:=YA (h.ok _ e3)
   exact⟨by rw[e1];exact a,f⟩
structure Qua (s:Qb):Prop where
 jobs:Jg (allJ s)
 depth:0<=s.depth/\s.depth<=60
 small:Qo 1048576 s
 ends:s.ends.length<=300
 tim:QwP s.runs
theorem Qua.runs{s:Qb}(h:Qua s):s.runs.length<=60:=by
 have:=h.jobs.len
 simp only[allJ,Xab,Xar]at this
 omega
theorem Qhh{s:Qb}{t:Int}:(allJ (unt1 s t)).Sublist (allJ s):=XbY (Xbv _) ((XaC).map _)
theorem QcC{s:Qb}{t:Int}{n:Nat}(h:Qua s)(hn:1048576<=n):Qo n (unt1 s t):=by
 have h1:=Qa5 (p:=endP t) (l:=s.runs)
 have h2:=XO (now:=t) (why:=1) (p:=endP t) (l:=s.runs)
 have h3:=h.runs
 have h4:=h.ends
 have hl:(s.ends++QR t 1 (endP t) s.runs).length=s.ends.length+(QR t 1 (endP t) s.runs).length:=Xab
 have a:=h.small
 refine⟨Xam a.par hn,Xam a.nod hn,Xam a.up hn,Xam a.que hn,by simp only[unt1];omega,by simp only[unt1];omega,fun j hj=>?_⟩
 obtain⟨i,b,e⟩:=Jt (Qhx hj)
 rw[show(unt1 s t).runs=JU (endP t) s.runs from rfl,<-e]
 exact Xam (a.rno i b) hn
theorem QkL{s:Qb}(h:Qf s=true)(hs:Qo 1048576 s):Qua s:=by
 have a:=pB_t.1 h
 obtain⟨r,b⟩:=XaY.1 a.room
 obtain⟨_,_,_,hb,c⟩:=YO b
 refine⟨a.jobs,a.depth,hs,a.ends,⟨fun y hy=>?_⟩⟩
 obtain⟨d,k2,_⟩:=VZ.1 (c y hy).1
 have:=hb.now
 exact⟨by omega,(YA d).2⟩
theorem QdC{s:Qb}(h:Qua s)(hn:0<=QH s.runs)(he:¬300<(unt1 s (QH s.runs)).ends.length):Qua (Js (unt1 s (QH s.runs)))/\(allJ (Js (unt1 s (QH s.runs)))).length<(allJ s).length:=by
 have d:=h.jobs.sub (Qhh (s:=s) (t:=QH s.runs))
 have a:Jg (unt1 s (QH s.runs)).queue:=d.left
 have c:=Qd3 a
 have b:=Zu h.tim s.runs.length (Xaj _)
 rw[Xal]at b
 obtain⟨r,f,e⟩:=b.2 hn
 have hk:=Qww (p:=endP (QH s.runs)) ⟨r,f,by unfold endP;rw[e];exact beq_self_eq_true _⟩
 have g:QwP (unt1 s (QH s.runs)).runs:=⟨fun y hy=>h.tim.tim y (XaB.1 hy).1⟩
 refine⟨⟨d.perm c,h.depth,VA ⟨a,h.depth⟩ (QcC h (Xaj _)) ?_,Xct he,Qnn h.depth a g⟩,?_⟩
 ·have:=h.runs
  show(JU _ _).length<=_
  omega
 ·rw[c.length_eq]
  simp only[allJ,Xab,Xar,unt1]
  omega
theorem QrJ{s:Qb}(hs:Qo 100000000 s)(ht:QwP s.runs):zAc 248 [Qz s] [zI (QH s.runs)] []:=by
 refine zAC func248 fun w0 Z=>?_
 have hl:=Qe s.runs
 have h5:=hs.run
 repeat'(first|(refine zhm fun hb=>?_;try exact zab)|refine zUtp ?_|refine zg2 ?_ ?_|intro _)
 refine Qa (fun(k:Nat)=>⟨30,[(3,zI (QH (s.runs.take k))),(8,zL (runE s.runs)),(9,zI (s.runs.length:Nat)),(10,zI k)],[]⟩) (fun k=>k<=s.runs.length) (fun k=>s.runs.length-k) 0 (by exact Xae _) ?_ ?_
 ·exact zll
 ·intro k d
  have hb:=(Zu ht k d).1
  by_cases b:k<s.runs.length
  ·have hr:=ht.tim _ (QE b)
   have a:=QbZ b
   generalize QH (s.runs.take k)=m at *
   unfold VU at a
   by_cases c:m<0\/(nth s.runs k).at'+(nth s.runs k).job.wall<m
   ·rw[if_pos c]at a
    repeat'(first|(refine zhm fun hb=>?_;try exact zab)|refine zUtp ?_|refine zg2 ?_ ?_|intro _)
    all_goals first|(exfalso;omega)|skip
    all_goals
     refine⟨k+1,by omega,by omega,?_⟩
     exact zll
   ·rw[if_neg c]at a
    repeat'(first|(refine zhm fun hb=>?_;try exact zab)|refine zUtp ?_|refine zg2 ?_ ?_|intro _)
    all_goals first|(exfalso;omega)|skip
    all_goals
     refine⟨k+1,by omega,by omega,?_⟩
     exact zll
  ·obtain rfl:k=s.runs.length:=by omega
   rw[Xal]at *
   repeat'(first|(refine zhm fun hb=>?_;try exact zab)|refine zUtp ?_|refine zg2 ?_ ?_|intro _)
   exact zrr
theorem Qij{s:Qb}(hs:Qo 100000000 s)(ht:QwP s.runs):zAc 319 [Qz s] [zI (QH s.runs)] []:=by
 refine zAC func319 fun w0 Z=>?_
 have hl:=Qe s.runs
 have h5:=hs.run
 repeat'(first|(refine zhm fun hb=>?_;try exact zab)|refine zUtp ?_|refine zg2 ?_ ?_|intro _)
 refine Qa (fun(k:Nat)=>⟨33,[(3,zI (QH (s.runs.take k))),(7,zL (runE s.runs)),(8,zI (s.runs.length:Nat)),(9,zI k)],[]⟩) (fun k=>k<=s.runs.length) (fun k=>s.runs.length-k) 0 (by exact Xae _) ?_ ?_
 ·exact zll
 ·intro k d
  have hb:=(Zu ht k d).1
  by_cases b:k<s.runs.length
  ·have hr:=ht.tim _ (QE b)
   have a:=QbZ b
   generalize QH (s.runs.take k)=m at *
   unfold VU at a
   by_cases c:m<0\/(nth s.runs k).at'+(nth s.runs k).job.wall<m
   ·rw[if_pos c]at a
    repeat'(first|(refine zhm fun hb=>?_;try exact zab)|refine zUtp ?_|refine zg2 ?_ ?_|intro _)
    all_goals first|(exfalso;omega)|skip
    all_goals
     refine⟨k+1,by omega,by omega,?_⟩
     exact zll
   ·rw[if_neg c]at a
    repeat'(first|(refine zhm fun hb=>?_;try exact zab)|refine zUtp ?_|refine zg2 ?_ ?_|intro _)
    all_goals first|(exfalso;omega)|skip
    all_goals
     refine⟨k+1,by omega,by omega,?_⟩
     exact zll
  ·obtain rfl:k=s.runs.length:=by omega
   rw[Xal]at *
   repeat'(first|(refine zhm fun hb=>?_;try exact zab)|refine zUtp ?_|refine zg2 ?_ ?_|intro _)
   exact zrr

@[reducible] def unR (o:Option Qb):List AV:=match o with
 | none=>[.agg ctl0,.d (.b false)]
 | some s=>[Xo s 0 1 2 3 4 5,.d (.b true)]
theorem Qr1{t:Int}{r:Run}(h:(0<=r.at'/\r.at'<=1000000000)/\1<=r.job.wall/\r.job.wall<=1000000):zAc 249 [runA r,.pd [.n .i64 t] 0] [.d (.b (endP t r))] []:=by
 refine zAC func249 fun w0 Z=>?_
 repeat'(first|(refine zhm fun hb=>?_;try exact zab)|refine zUtn ?_|refine zg2 ?_ ?_|intro _)
 exact zrr
theorem QvW{s:Qb}{t:Int}(hs:Qo 1048576 s):zAc 184 [Qz s,zI t] (unR (untO s t)) (stB (untO s t)):=by
 refine zAC func184 fun w0 Z=>?_
 have hm:Qo 100000000 s:=hs.mono (by omega)
 have o:=YI hm
 by_cases e:Qf s=true/\s.now<=t/\t<=1000000000
 ·obtain⟨h,v,w⟩:=e
  rw[h]at o
  have x:untG ((allJ s).length+1) s t=untO s t:=(if_pos ⟨h,v,w⟩).symm
  have hU:=QkL h hs
  generalize untO s t=R at x ⊢
  repeat'(first|(refine zhm fun hb=>?_;try exact zab)|refine zUtp ?_|refine zg2 ?_ ?_|refine zqj Q5 ?_|refine kc (Q4 hm) rfl rfl ?_|intro _)
  all_goals first|(exfalso;omega)|skip
  refine Yh 19 39 rfl ?_
  refine Yh 1019 1039 rfl ?_
  refine Yh 2019 2039 rfl ?_
  refine Yh 3019 3039 rfl ?_
  refine Yh 4019 4039 rfl ?_
  refine Yh 5019 5039 rfl ?_
  refine Qa (fun(k:Qb×Nat)=>⟨43,[(1,zI t),(2,.ptr 2 0),(4,.ptr 4 0)],[(2,.box 34 (stC k.1 39 1039 2039 3039 4039 5039)),(4,.box 34 ctl0),(39,.row 3 (intE k.1.topo.parents) true),(1039,.row 62 (Qr k.1.topo.nodes) true),(2039,.row 4 (Qk k.1.up) true),(3039,.row 40 (jobE k.1.queue) true),(4039,.row 66 (runE k.1.runs) true),(5039,.row 123 (endE k.1.ends) true)]⟩) (fun k=>Qua k.1/\(allJ k.1).length<k.2/\untG k.2 k.1 t=R) (fun k=>k.2) (s,(allJ s).length+1) (by exact⟨hU,Nat.lt_succ_self _,x⟩) ?_ ?_
  ·exact zll
  rintro ⟨a,f⟩ ⟨b,m,d⟩
  dsimp only at b m d ⊢
  have c:Qo 100000000 a:=b.small.mono (by omega)
  have c2:=QrJ c b.tim
  have hb:=Zu b.tim a.runs.length (Xaj _)
  rw[Xal]at hb
  have hb:=hb.1
  cases f with
  | zero=>exact absurd m (Xaq _)
  | succ f=>
   unfold untG at d
   by_cases y:QH a.runs<0\/t<QH a.runs
   ·rw[if_pos y]at d
    subst d
    repeat'(first|(refine zhm fun hb=>?_;try exact zab)|refine zUtp ?_|refine zg2 ?_ ?_|intro _)
    all_goals first|(exfalso;omega)|skip
    all_goals
     exact zr [39,1039,2039,3039,4039,5039] zae zae
   ·rw[if_neg y]at d
    have ae:=QJ (a.ends++QR (QH a.runs) 1 (endP (QH a.runs)) a.runs)
    have af:(a.ends++QR (QH a.runs) 1 (endP (QH a.runs)) a.runs).length=a.ends.length+(QR (QH a.runs) 1 (endP (QH a.runs)) a.runs).length:=Xab
    have z:=XO (now:=QH a.runs) (why:=1) (p:=endP (QH a.runs)) (l:=a.runs)
    have aa:=b.ends
    have ab:=b.runs
    have q:=QuY (s:={ a with now:=QH a.runs }) (why:=1) (p:=endP (QH a.runs)) (g:=249) (ds:=[.n .i64 (QH a.runs)]) ⟨c.par,c.nod,c.up,c.que,c.run,c.end',c.rno⟩ (fun r hr=>Qr1 (b.tim.tim r hr))
    dsimp only[stEw]at q
    by_cases j:300<(unt1 a (QH a.runs)).ends.length
    ·rw[if_pos j]at d
     subst d
     have u:300<(a.ends++QR (QH a.runs) 1 (endP (QH a.runs)) a.runs).length:=j
     repeat'(first|(refine zhm fun hb=>?_;try exact zab)|(refine Qi 7 4039 rfl ?_)|(refine Wr 7 6 rfl rfl ?_)|refine zUtp ?_|refine zg2 ?_ ?_|(refine kn2 [2,39,1039,2039,3039,5039] (q) rfl rfl (fun i hi=>?_);try dsimp only at hi)|intro _)
     all_goals first|(exfalso;omega)|skip
     all_goals
      exact zrr
    ·rw[if_neg j]at d
     have u:¬300<(a.ends++QR (QH a.runs) 1 (endP (QH a.runs)) a.runs).length:=j
     obtain⟨k1,k2⟩:=QdC b (by omega) j
     have c7:=VD (s:=unt1 a (QH a.runs)) (QcC b (by omega)) ⟨(b.jobs.sub Qhh).left,b.depth⟩
     repeat'(first|(refine zhm fun hb=>?_;try exact zab)|(refine Qi 7 4039 rfl ?_)|(refine Wr 7 6 rfl rfl ?_)|refine zUtp ?_|refine zg2 ?_ ?_|(refine kn2 [2,39,1039,2039,3039,5039] (q) rfl rfl (fun i hi=>?_);try dsimp only at hi)|intro _)
     all_goals first|(exfalso;omega)|skip
     all_goals
      refine⟨(Js (unt1 a (QH a.runs)),f),⟨k1,by dsimp only;omega,d⟩,by dsimp only;omega,?_⟩
      exact zll
 ·rw[show untO s t=none from if_neg e]
  cases h:Qf s with
  | false=>
   rw[h]at o
   repeat'(first|(refine zhm fun hb=>?_;try exact zab)|refine zUtp ?_|refine zg2 ?_ ?_|intro _)
   exact zrr
  | true=>
   rw[h]at o
   repeat'(first|(refine zhm fun hb=>?_;try exact zab)|refine zUtp ?_|refine zg2 ?_ ?_|refine zqj Q5 ?_|intro _)
   all_goals first|(exfalso;exact e ⟨h,by omega,by omega⟩)|skip
   all_goals
    exact zrr

@[reducible] def stUn (s:Qb) (n:Int) (v:AV) (q:Nat):List AV:=[zL (intE s.topo.parents),zL (Qr s.topo.nodes),zL (Qk s.up),zI s.lic.a,zI s.lic.b,zI s.lic.c,zI s.depth,zI n,zL (jobE s.queue),v,.row q]
theorem QwN{s:Qb}{t:Int}(hs:Qo 1048576 s):DC Tryz.prog 289 [Qz s,zI t] [Qz ((untO s t).getD zS),.d (.b (untO s t).isSome)]:=by
 refine zMC func289 fun w0 Z O=>?_
 have hm:Qo 100000000 s:=hs.mono (by omega)
 have v:=Y3 hm
 have w:=Wh (x:=t)
 by_cases j:Qf s=true/\s.now<=t/\t<=1000000000
 ·obtain⟨h,ac,ad⟩:=j
  rw[h]at v
  have aj:0<=s.now:=by
   obtain⟨r,hr⟩:=XaY.1 (pB_t.1 h).room
   exact(YO hr).2.2.2.1.now.1
  rw[show inB t 0 1000000000=true by rw[J4];omega]at w
  have hR:untG ((allJ s).length+1) s t=untO s t:=(if_pos ⟨h,ac,ad⟩).symm
  have hU:=QkL h hs
  have c2:=Qij hm hU.tim
  generalize untO s t=R at hR ⊢
  repeat'(first|(refine zhm fun hb=>?_;try exact zab)|refine zUrp ?_|refine zg2 ?_ ?_|refine kmu (QeN hm) ?_|intro _)
  all_goals first|(exfalso;omega)|skip
  refine Yh 26 79 rfl ?_
  refine Yh 1026 1079 rfl ?_
  refine Qa (fun(k:Qb×Nat)=>⟨83,[(1,zI t),(2,.ptr 2 0),(4,.ptr 4 0),(6,zI (QH k.1.runs))],[(2,.box 34 (W5 k.1 79 1079)),(4,.box 34 ctl0),(79,.row 66 (runE k.1.runs) false),(1079,.row 123 (endE k.1.ends) true)]⟩) (fun k=>Qua k.1/\(allJ k.1).length<k.2/\untG k.2 k.1 t=R) (fun k=>k.2) (s,(allJ s).length+1) (by exact⟨hU,Nat.lt_succ_self _,hR⟩) ?_ ?_
  ·exact zll
  rintro ⟨a,f⟩ ⟨c,o,g⟩
  dsimp only at c o g ⊢
  have au:Qo 100000000 a:=c.small.mono (by omega)
  have hb:=Zu c.tim a.runs.length (Xaj _)
  rw[Xal]at hb
  have hb:=hb.1
  cases f with
  | zero=>exact absurd o (Xaq _)
  | succ f=>
   unfold untG at g
   by_cases hc:QH a.runs<0\/t<QH a.runs
   ·rw[if_pos hc]at g
    subst g
    repeat'(first|(refine zhm fun hb=>?_;try exact zab)|refine zUrp ?_|refine zg2 ?_ ?_|intro _)
    all_goals first|(exfalso;omega)|skip
    all_goals
     show AWp _ _ _ _
     refine Qp 79 rfl ?_
     show AWp _ _ _ _
     refine Qp 1079 rfl ?_
     exact zDR
   ·rw[if_neg hc]at g
    have av:=Qe a.runs
    have aw:=c.runs
    have ar:=c.ends
    have ai:=XO (now:=QH a.runs) (why:=1) (p:=endP (QH a.runs)) (l:=a.runs)
    repeat'(first|(refine zhm fun hb=>?_;try exact zab)|(refine Qi 9 79 rfl ?_)|refine zUrp ?_|refine zg2 ?_ ?_|intro _)
    all_goals first|(exfalso;omega)|skip
    refine WW 40 rfl ?_
    refine Yh 1079 62 rfl ?_
    refine Qa (fun(k:Nat)=>⟨83,[(1,zI t),(2,.ptr 2 0),(4,.ptr 4 0),(6,zI (QH a.runs)),(7,.row 40),(42,zL (runE a.runs)),(43,zI (a.runs.length:Nat)),(44,zI k)],[(2,.box 34 (stUn a (QH a.runs) (zL (runE a.runs)) 62)),(4,.box 34 ctl0),(62,.row 123 (endE (a.ends++QR (QH a.runs) 1 (endP (QH a.runs)) (a.runs.take k))) true),(40,.row 66 (runE (JU (endP (QH a.runs)) (a.runs.take k))) false)]⟩) (fun k=>k<=a.runs.length) (fun k=>a.runs.length-k) 0 (by exact Xae _) ?_ ?_
    ·refine⟨rfl,?_,?_,rfl⟩
     repeat'(first|exact ze3|refine ze2 ?_ ?_|refine ze4 ?_|exact ze5|fail)
     all_goals exact zp (by first|rfl|exact Qe _|(simp[QR];done))
    intro k hk
    have am:=Qe (JU (endP (QH a.runs)) (a.runs.take k))
    have an:=QJ (a.ends++QR (QH a.runs) 1 (endP (QH a.runs)) (a.runs.take k))
    have aq:(a.ends++QR (QH a.runs) 1 (endP (QH a.runs)) (a.runs.take k)).length=a.ends.length+(QR (QH a.runs) 1 (endP (QH a.runs)) (a.runs.take k)).length:=Xab
    have ao:=Xl (p:=endP (QH a.runs)) (l:=a.runs) (i:=k)
    have ap:=Z8 (now:=QH a.runs) (why:=1) (p:=endP (QH a.runs)) (l:=a.runs) (i:=k)
    by_cases e:k<a.runs.length
    ·have hr:=c.tim.tim _ (QE e)
     by_cases u:(nth a.runs k).at'+(nth a.runs k).job.wall=QH a.runs
     ·have q:endP (QH a.runs) (nth a.runs k)=true:=by unfold endP;rw[u];exact beq_self_eq_true _
      have y:=VE e q
      have z:=VF (now:=QH a.runs) (why:=1) e q
      generalize QR (QH a.runs) 1 (endP (QH a.runs)) (a.runs.take k)=ge at *
      repeat'(first|(refine zhm fun hb=>?_;try exact zab)|refine zUrp ?_|refine zg2 ?_ ?_|intro _)
      all_goals first|(exfalso;omega)|skip
      refine⟨k+1,by omega,by omega,?_⟩
      refine⟨rfl,?_,?_,rfl⟩
      repeat'(first|exact ze3|refine ze2 ?_ ?_|refine ze4 ?_|exact ze5|fail)
      all_goals exact zp (by first|rfl|(rw[y];done)|(rw[z,<-Xao];exact Y5 _ ⟨_,_,_⟩))
     ·have q:endP (QH a.runs) (nth a.runs k)=false:=by unfold endP;rw[beq_eq_false_iff_ne];exact u
      have y:=Qbn e q
      have z:=QaX (now:=QH a.runs) (why:=1) e q
      repeat'(first|(refine zhm fun hb=>?_;try exact zab)|refine zUrp ?_|refine zg2 ?_ ?_|intro _)
      all_goals first|(exfalso;omega)|skip
      refine⟨k+1,by omega,by omega,?_⟩
      refine⟨rfl,?_,?_,rfl⟩
      repeat'(first|exact ze3|refine ze2 ?_ ?_|refine ze4 ?_|exact ze5|fail)
      all_goals exact zp (by first|rfl|(rw[z];done)|(rw[y];exact Z7 _ _))
    ·obtain rfl:k=a.runs.length:=by omega
     rw[Xal]at *
     by_cases m:300<(unt1 a (QH a.runs)).ends.length
     ·rw[if_pos m]at g
      subst g
      have aa:300<(a.ends++QR (QH a.runs) 1 (endP (QH a.runs)) a.runs).length:=m
      repeat'(first|(refine zhm fun hb=>?_;try exact zab)|refine zUrp ?_|refine zg2 ?_ ?_|intro _)
      all_goals first|(exfalso;omega)|skip
      all_goals
       exact zDR
     ·rw[if_neg m]at g
      have aa:¬300<(a.ends++QR (QH a.runs) 1 (endP (QH a.runs)) a.runs).length:=m
      obtain⟨k1,k2⟩:=QdC c (by omega) m
      have c7:=Wz (s:=unt1 a (QH a.runs)) (QcC c (by omega)) ⟨(c.jobs.sub Qhh).left,c.depth⟩
      have c8:=Qij (s:=Js (unt1 a (QH a.runs))) (k1.small.mono (by omega)) k1.tim
      repeat'(first|(refine zhm fun hb=>?_;try exact zab)|refine zUrp ?_|refine zg2 ?_ ?_|(refine kn [40,62] (c7) rfl rfl (fun i n=>?_);try dsimp only at n)|intro _)
      all_goals first|(exfalso;omega)|skip
      all_goals
       refine⟨(Js (unt1 a (QH a.runs)),f),⟨k1,by dsimp only;omega,g⟩,by dsimp only;omega,?_⟩
       exact zll
 ·rw[show untO s t=none from if_neg j]
  cases h:Qf s with
  | false=>
   rw[h]at v
   repeat'(first|(refine zhm fun hb=>?_;try exact zab)|refine zUrp ?_|refine zg2 ?_ ?_|intro _)
   exact zDR
  | true=>
   rw[h]at v
   cases n:inB t 0 1000000000 with
   | false=>
    rw[n]at w
    repeat'(first|(refine zhm fun hb=>?_;try exact zab)|refine zUrp ?_|refine zg2 ?_ ?_|intro _)
    all_goals
     exact zDR
   | true=>
    rw[n]at w
    rw[J4]at n
    repeat'(first|(refine zhm fun hb=>?_;try exact zab)|refine zUrp ?_|refine zg2 ?_ ?_|intro _)
    all_goals first|(exfalso;exact j ⟨h,by omega,by omega⟩)|skip
    all_goals
     exact zDR

theorem Qgb:∀(f:Nat) (s:Qb) (t:Int),Qua s->∀s',untG f s t=some s'->Qo 1048576 s'
 | 0,_,_,_,_,h=>by cases h
 | f+1,s,t,hU,s',h=>by
  unfold untG at h
  split at h
  ·cases h
   exact⟨hU.small.par,hU.small.nod,hU.small.up,hU.small.que,hU.small.run,hU.small.end',hU.small.rno⟩
  ·rename_i hc
   split at h
   ·cases h
   ·rename_i h6
    exact Qgb f _ t (QdC hU (by omega) h6).1 s' h
theorem QfR{s:Qb}{t:Int}(hs:Qo 1048576 s):∀s',untO s t=some s'->Qo 1048576 s':=fun s' h=>by
 unfold untO at h
 split at h
 ·rename_i a
  exact Qgb _ s t (QkL a.1 hs) s' h
 ·cases h
end
end Go.Proofs.YtkdniahincpmaaaGreat
