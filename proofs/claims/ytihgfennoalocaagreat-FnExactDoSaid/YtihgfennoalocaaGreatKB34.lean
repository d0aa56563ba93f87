/-
  Until: what it answers; starting keeps the jobs; the next end, both.
-/
import Derived.Test.YtihgfennoalocaaGreatKB33
import Derived.Test.YtihgfennoalocaaGreatKStV
set_option maxRecDepth 100000
set_option maxHeartbeats 16000000
namespace Go.Proofs.YtihgfennoalocaaGreat
open Go Go.RowKit Tryz
section
attribute [local irreducible] AWp QJ OpOk ACalls ChA QsOk MCalls NCalls EnC PY

def endP(t:Int)(r:Run):Bool:=r.at'+r.job.wall==t
def QnU(m:Int)(r:Run):Int:=if m<0\/r.at'+r.job.wall<m then r.at'+r.job.wall else m
def QR(l:List Run):Int:=l.foldl QnU (-1)
structure QtR (l:List Run):Prop where
 tim:∀r∈l,(0<=r.at'/\r.at'<=1000000000)/\1<=r.job.wall/\r.job.wall<=1000000
theorem QaX{l:List Run}{i:Nat}(h:i<l.length):QR (l.take (i+1))=QnU (QR (l.take i)) (nth l i):=by
 rw[QR,QI h,XaQ];rfl
theorem Vy{l:List Run}(h:QtR l):∀(i:Nat),i<=l.length->(-1<=QR (l.take i)/\QR (l.take i)<=1001000000)/\(0<=QR (l.take i)->∃r∈l,r.at'+r.job.wall=QR (l.take i))
 | 0,_=>⟨by simp[QR],fun h=>by simp[QR]at h⟩
 | i+1,hi=>by
  obtain⟨h1,h2⟩:=Vy h i (by omega)
  have hr:=h.tim _ (QO (show i<l.length by omega))
  rw[QaX (by omega)]
  unfold QnU
  split
  ·exact⟨by omega,fun _=>⟨_,QO (by omega),rfl⟩⟩
  ·exact⟨h1,h2⟩
theorem Qso{p:Run->Bool}{l:List Run}(h:∃r∈l,p r=true):(JS p l).length<l.length:=by
 obtain⟨r,hr,hp⟩:=h
 unfold JS
 rw[XbY]
 exact⟨r,hr,by rw[hp];decide⟩
def unt1(s:Qd)(t:Int):Qd:={ s with now:=t,runs:=JS (endP t) s.runs,ends:=s.ends++QS t 1 (endP t) s.runs }
noncomputable def untG:Nat->Qd->Int->Option Qd
 | 0,_,_=>none
 | f+1,s,t=>if QR s.runs<0\/t<QR s.runs then some { s with now:=t } else if 300<(unt1 s (QR s.runs)).ends.length then none else untG f (JH (unt1 s (QR s.runs))) t
noncomputable def untO (s:Qd) (t:Int):Option Qd:=if Qp s=true/\s.now<=t/\t<=1000000000 then untG ((allJ s).length+1) s t else none
theorem QeC{α:Type}:∀{l:List α} {i:Nat} (h:i<l.length),(l[i]::l.eraseIdx i).Perm l
 | [],i,h=>absurd h (Xas _)
 | x::l,0,_=>Xbv _
 | x::l,i+1,h=>(List.Perm.swap x _ _).trans ((QeC (l:=l) (i:=i) (by simpa using h)).cons x)
theorem Qia{now:Int}{qs:List Job}{rs:List Run}{hs:List JY}(hq:(qs.map Job.id).Nodup)(hn:(hs.map JY.id).Nodup)(hsub:∀h∈hs,h.id∈qs.map Job.id):∀(i:Nat),i<=hs.length->((runF now qs rs (hs.take i)).1++(runF now qs rs (hs.take i)).2.map Run.job).Perm (qs++rs.map Run.job)
 | 0,_=>by simp[runF]
 | i+1,hi=>by
  refine List.Perm.trans ?_ (Qia (now:=now) (rs:=rs) hq hn hsub i (by omega))
  obtain⟨hP,hin⟩:=strP (now:=now) (rs:=rs) hn hsub i (by omega)
  have hin:=hin (by omega)
  have hnd:((runF now qs rs (hs.take i)).1.map Job.id).Nodup:=(hP.sub.map Job.id).nodup hq
  rw[Wx (by omega)]
  generalize runF now qs rs (hs.take i)=q at hin hnd ⊢
  obtain⟨k,hk1,_,hk3,hk4⟩:=Qr6 hin
  unfold runH
  rw[hk4,XaP,XaI,<-hk3,<-Xm hnd hk1]
  dsimp only[List.map_cons,List.map_nil]
  refine(Xck _ List.perm_append_comm).trans ?_
  rw[<-Xaq]
  refine List.Perm.append_right _ ?_
  refine(List.perm_append_singleton _ _).trans ?_
  rw[Ja hk1]
  exact QeC hk1
theorem Qiq{s:Qd}(h:Jm s.queue):(allJ (JH s)).Perm (allJ s):=by
 cases hr:JG s with
 | none=>rw[QaL hr]
 | some r=>
  have hI:=Qdp hr
  have hp:((ordJ s.queue).map Job.id).Perm (s.queue.map Job.id):=(XbC _ _).map _
  have:=Qia (now:=s.now) (rs:=s.runs) h.nodup (hI.sub.nodup (hp.nodup_iff.2 h.nodup)) (fun x hx=>hp.mem_iff.1 (hI.sub.subset (Xad.2 ⟨x,hx,rfl⟩))) (WH s).1.length (Xam _)
  rw[Xap]at this
  exact this
theorem Jm.perm{l l':List Job}(h:Jm l)(hp:l'.Perm l):Jm l':=Qhe (by rw[hp.length_eq];exact h.len) (fun x hx=>h.ok x (hp.mem_iff.1 hx)) ((hp.map Job.id).nodup_iff.2 h.nodup)
theorem QlG{s:Qd}(hd:0<=s.depth/\s.depth<=60)(h:Jm s.queue)(ht:QtR s.runs):QtR (JH s).runs:=by
 cases hr:JG s with
 | none=>rw[QaL hr];exact ht
 | some r=>
  have hP:QbZ s r:=⟨hr,h,hd⟩
  obtain⟨hS,_⟩:=hP.strP (WH s).1.length (Xam _)
  have hnow:=hP.now
  refine⟨fun y hy=>?_⟩
  have hy':y∈(runF s.now s.queue s.runs ((WH s).1.take (WH s).1.length)).2:=by rw[Xap];exact hy
  rcases hS.new y hy' with h1|⟨x,_,e1,_,e3,_⟩
  ·exact ht.tim y h1
  ·obtain⟨_,k2⟩:=YA (h.ok _ e3)
   exact⟨by rw[e1];exact hnow,k2⟩
structure QrB (s:Qd):Prop where
 jobs:Jm (allJ s)
 depth:0<=s.depth/\s.depth<=60
 small:Ql 1048576 s
 ends:s.ends.length<=300
 tim:QtR s.runs
theorem QrB.runs{s:Qd}(h:QrB s):s.runs.length<=60:=by
 have:=h.jobs.len
 simp only[allJ,Xac,Xah]at this
 omega
theorem QfD{s:Qd}{t:Int}:(allJ (unt1 s t)).Sublist (allJ s):=List.Sublist.append (XcD _) ((XaE).map _)
theorem QbB{s:Qd}{t:Int}{n:Nat}(h:QrB s)(hn:1048576<=n):Ql n (unt1 s t):=by
 have h1:=QaO (p:=endP t) (l:=s.runs)
 have h2:=Xg (now:=t) (why:=1) (p:=endP t) (l:=s.runs)
 have h3:=h.runs
 have h4:=h.ends
 have hl:(s.ends++QS t 1 (endP t) s.runs).length=s.ends.length+(QS t 1 (endP t) s.runs).length:=Xac
 have hs:=h.small
 refine⟨Xao hs.par hn,Xao hs.nod hn,Xao hs.up hn,Xao hs.que hn,by simp only[unt1];omega,by simp only[unt1];omega,fun j hj=>?_⟩
 obtain⟨i,hi,e⟩:=J1 (Qgq hj)
 rw[show(unt1 s t).runs=JS (endP t) s.runs from rfl,<-e]
 exact Xao (hs.rno i hi) hn
theorem Qir{s:Qd}(h:Qp s=true)(hs:Ql 1048576 s):QrB s:=by
 have h':=pB_t.1 h
 obtain⟨r,hr⟩:=Xbo.1 h'.room
 obtain⟨_,_,_,hb,hx⟩:=W1 hr
 refine⟨h'.jobs,h'.depth,hs,h'.ends,⟨fun y hy=>?_⟩⟩
 obtain⟨k1,k2,_⟩:=Vn.1 (hx y hy).1
 have:=hb.now
 exact⟨by omega,(YA k1).2⟩
theorem QcJ{s:Qd}(h:QrB s)(hn:0<=QR s.runs)(he:¬300<(unt1 s (QR s.runs)).ends.length):QrB (JH (unt1 s (QR s.runs)))/\(allJ (JH (unt1 s (QR s.runs)))).length<(allJ s).length:=by
 have hu:=h.jobs.sub (QfD (s:=s) (t:=QR s.runs))
 have hq:Jm (unt1 s (QR s.runs)).queue:=hu.left
 have hp:=Qiq hq
 have hm:=Vy h.tim s.runs.length (Xam _)
 rw[Xap]at hm
 obtain⟨r,hr,e⟩:=hm.2 hn
 have hk:=Qso (p:=endP (QR s.runs)) ⟨r,hr,by unfold endP;rw[e];exact beq_self_eq_true _⟩
 have ht:QtR (unt1 s (QR s.runs)).runs:=⟨fun y hy=>h.tim.tim y (XaF.1 hy).1⟩
 refine⟨⟨hu.perm hp,h.depth,W8 ⟨hq,h.depth⟩ (QbB h (Xam _)) ?_,Xcp he,QlG h.depth hq ht⟩,?_⟩
 ·have:=h.runs
  show(JS _ _).length<=_
  omega
 ·rw[hp.length_eq]
  simp only[allJ,Xac,Xah,unt1]
  omega
theorem QnQ{s:Qd}(hs:Ql 100000000 s)(ht:QtR s.runs):zAc 259 [Qx s] [zI (QR s.runs)] []:=by
 refine zAC func259 fun w0 Z=>?_
 have hl:=Qf s.runs
 have h5:=hs.run
 repeat'(first|(refine zhm fun hb=>?_;try exact zab)|refine zUtp ?_|refine zg2 ?_ ?_|intro _|fail)
 refine Qa (fun(k:Nat)=>⟨30,[(3,zI (QR (s.runs.take k))),(8,zL (runE s.runs)),(9,zI (s.runs.length:Nat)),(10,zI k)],[]⟩) (fun k=>k<=s.runs.length) (fun k=>s.runs.length-k) 0 (by exact Xab _) ?_ ?_
 ·exact zll
 ·intro k hk
  have hb:=(Vy ht k hk).1
  by_cases hk':k<s.runs.length
  ·have hr:=ht.tim _ (QO hk')
   have hst:=QaX hk'
   generalize QR (s.runs.take k)=m at *
   unfold QnU at hst
   by_cases hc:m<0\/(nth s.runs k).at'+(nth s.runs k).job.wall<m
   ·rw[if_pos hc]at hst
    repeat'(first|(refine zhm fun hb=>?_;try exact zab)|refine zUtp ?_|refine zg2 ?_ ?_|intro _|fail)
    all_goals first|(exfalso;omega)|skip
    all_goals
     refine⟨k+1,by omega,by omega,?_⟩
     exact zll
   ·rw[if_neg hc]at hst
    repeat'(first|(refine zhm fun hb=>?_;try exact zab)|refine zUtp ?_|refine zg2 ?_ ?_|intro _|fail)
    all_goals first|(exfalso;omega)|skip
    all_goals
     refine⟨k+1,by omega,by omega,?_⟩
     exact zll
  ·obtain rfl:k=s.runs.length:=by omega
   rw[Xap]at *
   repeat'(first|(refine zhm fun hb=>?_;try exact zab)|refine zUtp ?_|refine zg2 ?_ ?_|intro _|fail)
   exact zrr
theorem Qhp{s:Qd}(hs:Ql 100000000 s)(ht:QtR s.runs):zAc 238 [Qx s] [zI (QR s.runs)] []:=by
 refine zAC func238 fun w0 Z=>?_
 have hl:=Qf s.runs
 have h5:=hs.run
 repeat'(first|(refine zhm fun hb=>?_;try exact zab)|refine zUtp ?_|refine zg2 ?_ ?_|intro _|fail)
 refine Qa (fun(k:Nat)=>⟨33,[(3,zI (QR (s.runs.take k))),(7,zL (runE s.runs)),(8,zI (s.runs.length:Nat)),(9,zI k)],[]⟩) (fun k=>k<=s.runs.length) (fun k=>s.runs.length-k) 0 (by exact Xab _) ?_ ?_
 ·exact zll
 ·intro k hk
  have hb:=(Vy ht k hk).1
  by_cases hk':k<s.runs.length
  ·have hr:=ht.tim _ (QO hk')
   have hst:=QaX hk'
   generalize QR (s.runs.take k)=m at *
   unfold QnU at hst
   by_cases hc:m<0\/(nth s.runs k).at'+(nth s.runs k).job.wall<m
   ·rw[if_pos hc]at hst
    repeat'(first|(refine zhm fun hb=>?_;try exact zab)|refine zUtp ?_|refine zg2 ?_ ?_|intro _|fail)
    all_goals first|(exfalso;omega)|skip
    all_goals
     refine⟨k+1,by omega,by omega,?_⟩
     exact zll
   ·rw[if_neg hc]at hst
    repeat'(first|(refine zhm fun hb=>?_;try exact zab)|refine zUtp ?_|refine zg2 ?_ ?_|intro _|fail)
    all_goals first|(exfalso;omega)|skip
    all_goals
     refine⟨k+1,by omega,by omega,?_⟩
     exact zll
  ·obtain rfl:k=s.runs.length:=by omega
   rw[Xap]at *
   repeat'(first|(refine zhm fun hb=>?_;try exact zab)|refine zUtp ?_|refine zg2 ?_ ?_|intro _|fail)
   exact zrr

@[reducible] def unR (o:Option Qd):List AV:=match o with
 | none=>[.agg ctl0,.d (.b false)]
 | some s=>[ZL s 0 1 2 3 4 5,.d (.b true)]
theorem QqQ{t:Int}{r:Run}(h:(0<=r.at'/\r.at'<=1000000000)/\1<=r.job.wall/\r.job.wall<=1000000):zAc 260 [runA r,.pd [.n .i64 t] 0] [.d (.b (endP t r))] []:=by
 refine zAC func260 fun w0 Z=>?_
 repeat'(first|(refine zhm fun hb=>?_;try exact zab)|refine zUtn ?_|refine zg2 ?_ ?_|intro _|fail)
 exact zrr
theorem Qtv{s:Qd}{t:Int}(hs:Ql 1048576 s):zAc 205 [Qx s,zI t] (unR (untO s t)) (stB (untO s t)):=by
 refine zAC func205 fun w0 Z=>?_
 have hm:Ql 100000000 s:=hs.mono (by omega)
 have c1:=Yo hm
 by_cases hok:Qp s=true/\s.now<=t/\t<=1000000000
 ·obtain⟨h,ht1,ht2⟩:=hok
  rw[h]at c1
  have hR:untG ((allJ s).length+1) s t=untO s t:=(if_pos ⟨h,ht1,ht2⟩).symm
  have hU:=Qir h hs
  generalize untO s t=R at hR ⊢
  repeat'(first|(refine zhm fun hb=>?_;try exact zab)|refine zUtp ?_|refine zg2 ?_ ?_|refine zqj QX ?_|refine kc (Jr hm) rfl rfl ?_|intro _|fail)
  all_goals first|(exfalso;omega)|skip
  refine J8 19 39 rfl ?_
  refine J8 1019 1039 rfl ?_
  refine J8 2019 2039 rfl ?_
  refine J8 3019 3039 rfl ?_
  refine J8 4019 4039 rfl ?_
  refine J8 5019 5039 rfl ?_
  refine Qa (fun(k:Qd×Nat)=>⟨43,[(1,zI t),(2,.ptr 2 0),(4,.ptr 4 0)],[(2,.box 49 (stC k.1 39 1039 2039 3039 4039 5039)),(4,.box 49 ctl0),(39,.row 3 (intE k.1.topo.parents) true),(1039,.row 225 (Qz k.1.topo.nodes) true),(2039,.row 4 (Qq k.1.up) true),(3039,.row 72 (jobE k.1.queue) true),(4039,.row 170 (runE k.1.runs) true),(5039,.row 172 (endE k.1.ends) true)]⟩) (fun k=>QrB k.1/\(allJ k.1).length<k.2/\untG k.2 k.1 t=R) (fun k=>k.2) (s,(allJ s).length+1) (by exact⟨hU,Nat.lt_succ_self _,hR⟩) ?_ ?_
  ·exact zll
  rintro ⟨s',f⟩ ⟨hU',hlt,hG⟩
  dsimp only at hU' hlt hG ⊢
  have hm':Ql 100000000 s':=hU'.small.mono (by omega)
  have c2:=QnQ hm' hU'.tim
  have hb:=Vy hU'.tim s'.runs.length (Xam _)
  rw[Xap]at hb
  have hb:=hb.1
  cases f with
  | zero=>exact absurd hlt (Xas _)
  | succ f=>
   unfold untG at hG
   by_cases hc:QR s'.runs<0\/t<QR s'.runs
   ·rw[if_pos hc]at hG
    subst hG
    repeat'(first|(refine zhm fun hb=>?_;try exact zab)|refine zUtp ?_|refine zg2 ?_ ?_|intro _|fail)
    all_goals first|(exfalso;omega)|skip
    all_goals
     exact zr [39,1039,2039,3039,4039,5039] zae zae
   ·rw[if_neg hc]at hG
    have hel:=QC (s'.ends++QS (QR s'.runs) 1 (endP (QR s'.runs)) s'.runs)
    have hle:(s'.ends++QS (QR s'.runs) 1 (endP (QR s'.runs)) s'.runs).length=s'.ends.length+(QS (QR s'.runs) 1 (endP (QR s'.runs)) s'.runs).length:=Xac
    have hle2:=Xg (now:=QR s'.runs) (why:=1) (p:=endP (QR s'.runs)) (l:=s'.runs)
    have hle3:=hU'.ends
    have hle4:=hU'.runs
    have c4:=QsE (s:={ s' with now:=QR s'.runs }) (why:=1) (p:=endP (QR s'.runs)) (g:=260) (ds:=[.n .i64 (QR s'.runs)]) ⟨hm'.par,hm'.nod,hm'.up,hm'.que,hm'.run,hm'.end',hm'.rno⟩ (fun r hr=>QqQ (hU'.tim.tim r hr))
    dsimp only[stEw]at c4
    by_cases h6:300<(unt1 s' (QR s'.runs)).ends.length
    ·rw[if_pos h6]at hG
     subst hG
     have h6':300<(s'.ends++QS (QR s'.runs) 1 (endP (QR s'.runs)) s'.runs).length:=h6
     repeat'(first|(refine zhm fun hb=>?_;try exact zab)|(refine Qi 7 4039 rfl ?_)|(refine Y9 7 6 rfl rfl ?_)|refine zUtp ?_|refine zg2 ?_ ?_|(refine kn2 [2,39,1039,2039,3039,5039] (c4) rfl rfl (fun i hi=>?_);try dsimp only at hi)|intro _|fail)
     all_goals first|(exfalso;omega)|skip
     all_goals
      exact zrr
    ·rw[if_neg h6]at hG
     have h6':¬300<(s'.ends++QS (QR s'.runs) 1 (endP (QR s'.runs)) s'.runs).length:=h6
     obtain⟨k1,k2⟩:=QcJ hU' (by omega) h6
     have c7:=W7 (s:=unt1 s' (QR s'.runs)) (QbB hU' (by omega)) ⟨(hU'.jobs.sub QfD).left,hU'.depth⟩
     repeat'(first|(refine zhm fun hb=>?_;try exact zab)|(refine Qi 7 4039 rfl ?_)|(refine Y9 7 6 rfl rfl ?_)|refine zUtp ?_|refine zg2 ?_ ?_|(refine kn2 [2,39,1039,2039,3039,5039] (c4) rfl rfl (fun i hi=>?_);try dsimp only at hi)|intro _|fail)
     all_goals first|(exfalso;omega)|skip
     all_goals
      refine⟨(JH (unt1 s' (QR s'.runs)),f),⟨k1,by dsimp only;omega,hG⟩,by dsimp only;omega,?_⟩
      exact zll
 ·rw[show untO s t=none from if_neg hok]
  cases h:Qp s with
  | false=>
   rw[h]at c1
   repeat'(first|(refine zhm fun hb=>?_;try exact zab)|refine zUtp ?_|refine zg2 ?_ ?_|intro _|fail)
   exact zrr
  | true=>
   rw[h]at c1
   repeat'(first|(refine zhm fun hb=>?_;try exact zab)|refine zUtp ?_|refine zg2 ?_ ?_|refine zqj QX ?_|intro _|fail)
   all_goals first|(exfalso;exact hok ⟨h,by omega,by omega⟩)|skip
   all_goals
    exact zrr

@[reducible] def stUn (s:Qd) (n:Int) (v:AV) (q:Nat):List AV:=[zL (intE s.topo.parents),zL (Qz s.topo.nodes),zL (Qq s.up),zI s.lic.a,zI s.lic.b,zI s.lic.c,zI s.depth,zI n,zL (jobE s.queue),v,.row q]
theorem Qtm{s:Qd}{t:Int}(hs:Ql 1048576 s):DC Tryz.prog 187 [Qx s,zI t] [Qx ((untO s t).getD zS),.d (.b (untO s t).isSome)]:=by
 refine zMC func187 fun w0 Z O=>?_
 have hm:Ql 100000000 s:=hs.mono (by omega)
 have c1:=YL hm
 have ct:=Y1 (x:=t)
 by_cases hok:Qp s=true/\s.now<=t/\t<=1000000000
 ·obtain⟨h,ht1,ht2⟩:=hok
  rw[h]at c1
  have hnow:0<=s.now:=by
   obtain⟨r,hr⟩:=Xbo.1 (pB_t.1 h).room
   exact(W1 hr).2.2.2.1.now.1
  rw[show inB t 0 1000000000=true by rw[Yr];omega]at ct
  have hR:untG ((allJ s).length+1) s t=untO s t:=(if_pos ⟨h,ht1,ht2⟩).symm
  have hU:=Qir h hs
  have c2:=Qhp hm hU.tim
  generalize untO s t=R at hR ⊢
  repeat'(first|(refine zhm fun hb=>?_;try exact zab)|refine zUrp ?_|refine zg2 ?_ ?_|refine kmu (Qdn hm) ?_|intro _|fail)
  all_goals first|(exfalso;omega)|skip
  refine J8 26 79 rfl ?_
  refine J8 1026 1079 rfl ?_
  refine Qa (fun(k:Qd×Nat)=>⟨83,[(1,zI t),(2,.ptr 2 0),(4,.ptr 4 0),(6,zI (QR k.1.runs))],[(2,.box 49 (Wu k.1 79 1079)),(4,.box 49 ctl0),(79,.row 170 (runE k.1.runs) false),(1079,.row 172 (endE k.1.ends) true)]⟩) (fun k=>QrB k.1/\(allJ k.1).length<k.2/\untG k.2 k.1 t=R) (fun k=>k.2) (s,(allJ s).length+1) (by exact⟨hU,Nat.lt_succ_self _,hR⟩) ?_ ?_
  ·exact zll
  rintro ⟨s',f⟩ ⟨hU',hlt,hG⟩
  dsimp only at hU' hlt hG ⊢
  have hm':Ql 100000000 s':=hU'.small.mono (by omega)
  have hb:=Vy hU'.tim s'.runs.length (Xam _)
  rw[Xap]at hb
  have hb:=hb.1
  cases f with
  | zero=>exact absurd hlt (Xas _)
  | succ f=>
   unfold untG at hG
   by_cases hc:QR s'.runs<0\/t<QR s'.runs
   ·rw[if_pos hc]at hG
    subst hG
    repeat'(first|(refine zhm fun hb=>?_;try exact zab)|refine zUrp ?_|refine zg2 ?_ ?_|intro _|fail)
    all_goals first|(exfalso;omega)|skip
    all_goals
     show AWp _ _ _ _
     refine Qs 79 rfl ?_
     show AWp _ _ _ _
     refine Qs 1079 rfl ?_
     exact zDR
   ·rw[if_neg hc]at hG
    have hrl:=Qf s'.runs
    have hrn:=hU'.runs
    have hen:=hU'.ends
    have hle2:=Xg (now:=QR s'.runs) (why:=1) (p:=endP (QR s'.runs)) (l:=s'.runs)
    repeat'(first|(refine zhm fun hb=>?_;try exact zab)|(refine Qi 9 79 rfl ?_)|refine zUrp ?_|refine zg2 ?_ ?_|intro _|fail)
    all_goals first|(exfalso;omega)|skip
    refine Wm 40 rfl ?_
    refine J8 1079 62 rfl ?_
    refine Qa (fun(k:Nat)=>⟨83,[(1,zI t),(2,.ptr 2 0),(4,.ptr 4 0),(6,zI (QR s'.runs)),(7,.row 40),(42,zL (runE s'.runs)),(43,zI (s'.runs.length:Nat)),(44,zI k)],[(2,.box 49 (stUn s' (QR s'.runs) (zL (runE s'.runs)) 62)),(4,.box 49 ctl0),(62,.row 172 (endE (s'.ends++QS (QR s'.runs) 1 (endP (QR s'.runs)) (s'.runs.take k))) true),(40,.row 170 (runE (JS (endP (QR s'.runs)) (s'.runs.take k))) false)]⟩) (fun k=>k<=s'.runs.length) (fun k=>s'.runs.length-k) 0 (by exact Xab _) ?_ ?_
    ·refine⟨rfl,?_,?_,rfl⟩
     repeat'(first|exact ze3|refine ze2 ?_ ?_|refine ze4 ?_|exact ze5|fail)
     all_goals exact zp (by first|rfl|exact Qf _|(simp[QS];done))
    intro k hk
    have hd2:=Qf (JS (endP (QR s'.runs)) (s'.runs.take k))
    have hd3:=QC (s'.ends++QS (QR s'.runs) 1 (endP (QR s'.runs)) (s'.runs.take k))
    have hd7:(s'.ends++QS (QR s'.runs) 1 (endP (QR s'.runs)) (s'.runs.take k)).length=s'.ends.length+(QS (QR s'.runs) 1 (endP (QR s'.runs)) (s'.runs.take k)).length:=Xac
    have hd5:=ZA (p:=endP (QR s'.runs)) (l:=s'.runs) (i:=k)
    have hd6:=Z8 (now:=QR s'.runs) (why:=1) (p:=endP (QR s'.runs)) (l:=s'.runs) (i:=k)
    by_cases hk':k<s'.runs.length
    ·have hr:=hU'.tim.tim _ (QO hk')
     by_cases hp0:(nth s'.runs k).at'+(nth s'.runs k).job.wall=QR s'.runs
     ·have hp:endP (QR s'.runs) (nth s'.runs k)=true:=by unfold endP;rw[hp0];exact beq_self_eq_true _
      have e2:=Va hk' hp
      have e3:=Vf (now:=QR s'.runs) (why:=1) hk' hp
      generalize QS (QR s'.runs) 1 (endP (QR s'.runs)) (s'.runs.take k)=ge at *
      repeat'(first|(refine zhm fun hb=>?_;try exact zab)|refine zUrp ?_|refine zg2 ?_ ?_|intro _|fail)
      all_goals first|(exfalso;omega)|skip
      refine⟨k+1,by omega,by omega,?_⟩
      refine⟨rfl,?_,?_,rfl⟩
      repeat'(first|exact ze3|refine ze2 ?_ ?_|refine ze4 ?_|exact ze5|fail)
      all_goals exact zp (by first|rfl|(rw[e2];done)|(rw[e3,<-Xaq];exact YJ _ ⟨_,_,_⟩))
     ·have hp:endP (QR s'.runs) (nth s'.runs k)=false:=by unfold endP;rw[beq_eq_false_iff_ne];exact hp0
      have e2:=QaE hk' hp
      have e3:=Qaj (now:=QR s'.runs) (why:=1) hk' hp
      repeat'(first|(refine zhm fun hb=>?_;try exact zab)|refine zUrp ?_|refine zg2 ?_ ?_|intro _|fail)
      all_goals first|(exfalso;omega)|skip
      refine⟨k+1,by omega,by omega,?_⟩
      refine⟨rfl,?_,?_,rfl⟩
      repeat'(first|exact ze3|refine ze2 ?_ ?_|refine ze4 ?_|exact ze5|fail)
      all_goals exact zp (by first|rfl|(rw[e3];done)|(rw[e2];exact ZR _ _))
    ·obtain rfl:k=s'.runs.length:=by omega
     rw[Xap]at *
     by_cases h6:300<(unt1 s' (QR s'.runs)).ends.length
     ·rw[if_pos h6]at hG
      subst hG
      have h6':300<(s'.ends++QS (QR s'.runs) 1 (endP (QR s'.runs)) s'.runs).length:=h6
      repeat'(first|(refine zhm fun hb=>?_;try exact zab)|refine zUrp ?_|refine zg2 ?_ ?_|intro _|fail)
      all_goals first|(exfalso;omega)|skip
      all_goals
       exact zDR
     ·rw[if_neg h6]at hG
      have h6':¬300<(s'.ends++QS (QR s'.runs) 1 (endP (QR s'.runs)) s'.runs).length:=h6
      obtain⟨k1,k2⟩:=QcJ hU' (by omega) h6
      have c7:=Wi (s:=unt1 s' (QR s'.runs)) (QbB hU' (by omega)) ⟨(hU'.jobs.sub QfD).left,hU'.depth⟩
      have c8:=Qhp (s:=JH (unt1 s' (QR s'.runs))) (k1.small.mono (by omega)) k1.tim
      repeat'(first|(refine zhm fun hb=>?_;try exact zab)|refine zUrp ?_|refine zg2 ?_ ?_|(refine kn [40,62] (c7) rfl rfl (fun i hi=>?_);try dsimp only at hi)|intro _|fail)
      all_goals first|(exfalso;omega)|skip
      all_goals
       refine⟨(JH (unt1 s' (QR s'.runs)),f),⟨k1,by dsimp only;omega,hG⟩,by dsimp only;omega,?_⟩
       exact zll
 ·rw[show untO s t=none from if_neg hok]
  cases h:Qp s with
  | false=>
   rw[h]at c1
   repeat'(first|(refine zhm fun hb=>?_;try exact zab)|refine zUrp ?_|refine zg2 ?_ ?_|intro _|fail)
   exact zDR
  | true=>
   rw[h]at c1
   cases hi:inB t 0 1000000000 with
   | false=>
    rw[hi]at ct
    repeat'(first|(refine zhm fun hb=>?_;try exact zab)|refine zUrp ?_|refine zg2 ?_ ?_|intro _|fail)
    all_goals
     exact zDR
   | true=>
    rw[hi]at ct
    rw[Yr]at hi
    repeat'(first|(refine zhm fun hb=>?_;try exact zab)|refine zUrp ?_|refine zg2 ?_ ?_|intro _|fail)
    all_goals first|(exfalso;exact hok ⟨h,by omega,by omega⟩)|skip
    all_goals
     exact zDR

theorem Qer:∀(f:Nat) (s:Qd) (t:Int),QrB s->∀s',untG f s t=some s'->Ql 1048576 s'
 | 0,_,_,_,_,h=>by cases h
 | f+1,s,t,hU,s',h=>by
  unfold untG at h
  split at h
  ·cases h
   exact⟨hU.small.par,hU.small.nod,hU.small.up,hU.small.que,hU.small.run,hU.small.end',hU.small.rno⟩
  ·rename_i hc
   split at h
   ·cases h
   ·rename_i h6
    exact Qer f _ t (QcJ hU (by omega) h6).1 s' h
theorem Qez{s:Qd}{t:Int}(hs:Ql 1048576 s):∀s',untO s t=some s'->Ql 1048576 s':=fun s' h=>by
 unfold untO at h
 split at h
 ·rename_i h1
  exact Qer _ s t (Qir h1.1 hs) s' h
 ·cases h
end
end Go.Proofs.YtihgfennoalocaaGreat
