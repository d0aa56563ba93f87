/-
  Until: what it answers; starting keeps the jobs; the next end, both.
-/
import Derived.Test.YtelbahebpmkfjaaGreatKB7
import Derived.Test.YtelbahebpmkfjaaGreatKB33
import Derived.Test.YtelbahebpmkfjaaGreatKStV
import Derived.Test.YtelbahebpmkfjaaGreatKB25
import Derived.Test.YtelbahebpmkfjaaGreatKB24
set_option maxRecDepth 100000
set_option maxHeartbeats 16000000
namespace Go.Proofs.YtelbahebpmkfjaaGreat
open Go Go.RowKit
attribute [local irreducible] AWp Qat OpOk ACalls ChA QsOk MCalls NCalls EnC PY

def endP (t:Int) (r:Run):Bool:=r.at'+r.job.wall==t
def QpV (m:Int) (r:Run):Int:=if m<0∨r.at'+r.job.wall<m then r.at'+r.job.wall else m
def QaJ (l:List Run):Int:=l.foldl QpV (-1)
structure TimP (l:List Run):Prop where
 tim:∀r∈l,(0≤r.at'∧r.at'≤1000000000)∧1≤r.job.wall∧r.job.wall≤1000000
theorem Qgu {l:List Run} {i:Nat} (h:i<l.length):QaJ (l.take (i+1))=QpV (QaJ (l.take i)) (nth l i):=by
 rw [QaJ,Qas h,List.foldl_append];rfl
theorem Qej {l:List Run} (h:TimP l):∀(i:Nat),i≤l.length→(-1≤QaJ (l.take i)∧QaJ (l.take i)≤1001000000)∧(0≤QaJ (l.take i)→∃r∈l,r.at'+r.job.wall=QaJ (l.take i))
 | 0,_=>⟨by simp [QaJ],fun h=>by simp [QaJ] at h⟩
 | i+1,hi=>by
  obtain ⟨h1,h2⟩:=Qej h i (by omega)
  have hr:=h.tim _ (QaO (show i<l.length by omega))
  rw [Qgu (by omega)]
  unfold QpV
  split
  ·exact ⟨by omega,fun _=>⟨_,QaO (by omega),rfl⟩⟩
  ·exact ⟨h1,h2⟩
theorem QwI {p:Run→Bool} {l:List Run} (h:∃r∈l,p r=true):(Qbx p l).length<l.length:=by
 obtain ⟨r,hr,hp⟩:=h
 unfold Qbx
 rw [List.length_filter_lt_length_iff_exists]
 exact ⟨r,hr,by rw [hp];decide⟩
def unt1 (s:State) (t:Int):State:={ s with now:=t,runs:=Qbx (endP t) s.runs,ends:=s.ends++QaM t 1 (endP t) s.runs }
noncomputable def untG:Nat→State→Int→Option State
 | 0,_,_=>none
 | f+1,s,t=>if QaJ s.runs<0∨t<QaJ s.runs then some { s with now:=t } else if 300<(unt1 s (QaJ s.runs)).ends.length then none else untG f (Qbq (unt1 s (QaJ s.runs))) t
noncomputable def untO (s:State) (t:Int):Option State:=if Qap s=true∧s.now≤t∧t≤1000000000 then untG ((allJ s).length+1) s t else none
theorem Qjn {α:Type}:∀{l:List α} {i:Nat} (h:i<l.length),(l[i]::l.eraseIdx i).Perm l
 | [],i,h=>absurd h (Nat.not_lt_zero _)
 | x::l,0,_=>List.Perm.refl _
 | x::l,i+1,h=>(List.Perm.swap x _ _).trans ((Qjn (l:=l) (i:=i) (by simpa using h)).cons x)
theorem QlT {now:Int} {qs:List Job} {rs:List Run} {hs:List HeldS} (hq:(qs.map Job.id).Nodup) (hn:(hs.map HeldS.id).Nodup) (hsub:∀h∈hs,h.id∈qs.map Job.id):∀(i:Nat),i≤hs.length→((runF now qs rs (hs.take i)).1++(runF now qs rs (hs.take i)).2.map Run.job).Perm (qs++rs.map Run.job)
 | 0,_=>by simp [runF]
 | i+1,hi=>by
  refine List.Perm.trans ?_ (QlT (now:=now) (rs:=rs) hq hn hsub i (by omega))
  obtain ⟨hP,hin⟩:=strP (now:=now) (rs:=rs) hn hsub i (by omega)
  have hin:=hin (by omega)
  have hnd:((runF now qs rs (hs.take i)).1.map Job.id).Nodup:=(hP.sub.map Job.id).nodup hq
  rw [Qda (by omega)]
  generalize runF now qs rs (hs.take i)=q at hin hnd ⊢
  obtain ⟨k,hk1,_,hk3,hk4⟩:=Qu1 hin
  unfold runH
  rw [hk4,Option.getD_some,List.map_append,←hk3,←Qfe hnd hk1]
  dsimp only [List.map_cons,List.map_nil]
  refine (List.Perm.append_left _ List.perm_append_comm).trans ?_
  rw [←List.append_assoc]
  refine List.Perm.append_right _ ?_
  refine (List.perm_append_singleton _ _).trans ?_
  rw [Qa8 hk1]
  exact Qjn hk1
theorem Qnj {s:State} (h:QueueP s.queue):(allJ (Qbq s)).Perm (allJ s):=by
 cases hr:Qbu s with
 | none=>rw [Qgm hr]
 | some r=>
  have hI:=QgH hr
  have hp:((ordJ s.queue).map Job.id).Perm (s.queue.map Job.id):=(List.mergeSort_perm _ _).map _
  have:=QlT (now:=s.now) (rs:=s.runs) h.nodup (hI.sub.nodup (hp.nodup_iff.2 h.nodup)) (fun x hx=>hp.mem_iff.1 (hI.sub.subset (List.mem_map.2 ⟨x,hx,rfl⟩))) (QcO s).1.length (Nat.le_refl _)
  rw [List.take_length] at this
  exact this
theorem QueueP.perm {l l':List Job} (h:QueueP l) (hp:l'.Perm l):QueueP l':=QlJ (by rw [hp.length_eq];exact h.len) (fun x hx=>h.ok x (hp.mem_iff.1 hx)) ((hp.map Job.id).nodup_iff.2 h.nodup)
theorem Qpx {s:State} (hd:0≤s.depth∧s.depth≤60) (h:QueueP s.queue) (ht:TimP s.runs):TimP (Qbq s).runs:=by
 cases hr:Qbu s with
 | none=>rw [Qgm hr];exact ht
 | some r=>
  have hP:StartP s r:=⟨hr,h,hd⟩
  obtain ⟨hS,_⟩:=hP.strP (QcO s).1.length (Nat.le_refl _)
  have hnow:=hP.now
  refine ⟨fun y hy=>?_⟩
  have hy':y∈(runF s.now s.queue s.runs ((QcO s).1.take (QcO s).1.length)).2:=by rw [List.take_length];exact hy
  rcases hS.new y hy' with h1|⟨x,_,e1,_,e3,_⟩
  ·exact ht.tim y h1
  ·obtain ⟨_,k2⟩:=Qcg (h.ok _ e3)
   exact ⟨by rw [e1];exact hnow,k2⟩
structure UntI (s:State):Prop where
 jobs:QueueP (allJ s)
 depth:0≤s.depth∧s.depth≤60
 small:Small 1048576 s
 ends:s.ends.length≤300
 tim:TimP s.runs
theorem UntI.runs {s:State} (h:UntI s):s.runs.length≤60:=by
 have:=h.jobs.len
 simp only [allJ,List.length_append,List.length_map] at this
 omega
theorem Qkw {s:State} {t:Int}:(allJ (unt1 s t)).Sublist (allJ s):=List.Sublist.append (List.Sublist.refl _) ((List.filter_sublist).map _)
theorem QgA {s:State} {t:Int} {n:Nat} (h:UntI s) (hn:1048576≤n):Small n (unt1 s t):=by
 have h1:=Qgt (p:=endP t) (l:=s.runs)
 have h2:=Qfd (now:=t) (why:=1) (p:=endP t) (l:=s.runs)
 have h3:=h.runs
 have h4:=h.ends
 have hl:(s.ends++QaM t 1 (endP t) s.runs).length=s.ends.length+(QaM t 1 (endP t) s.runs).length:=List.length_append
 have hs:=h.small
 refine ⟨Nat.le_trans hs.par hn,Nat.le_trans hs.nod hn,Nat.le_trans hs.up hn,Nat.le_trans hs.que hn,by simp only [unt1];omega,by simp only [unt1];omega,fun j hj=>?_⟩
 obtain ⟨i,hi,e⟩:=QbB (Qkx hj)
 rw [show (unt1 s t).runs=Qbx (endP t) s.runs from rfl,←e]
 exact Nat.le_trans (hs.rno i hi) hn
theorem QmW {s:State} (h:Qap s=true) (hs:Small 1048576 s):UntI s:=by
 have h':=pB_t.1 h
 obtain ⟨r,hr⟩:=Option.isSome_iff_exists.1 h'.room
 obtain ⟨_,_,_,hb,hx⟩:=Qed hr
 refine ⟨h'.jobs,h'.depth,hs,h'.ends,⟨fun y hy=>?_⟩⟩
 obtain ⟨k1,k2,_⟩:=QdN.1 (hx y hy).1
 have:=hb.now
 exact ⟨by omega,(Qcg k1).2⟩
theorem Qi7 {s:State} (h:UntI s) (hn:0≤QaJ s.runs) (he:¬300<(unt1 s (QaJ s.runs)).ends.length):UntI (Qbq (unt1 s (QaJ s.runs)))∧(allJ (Qbq (unt1 s (QaJ s.runs)))).length<(allJ s).length:=by
 have hu:=h.jobs.sub (Qkw (s:=s) (t:=QaJ s.runs))
 have hq:QueueP (unt1 s (QaJ s.runs)).queue:=hu.left
 have hp:=Qnj hq
 have hm:=Qej h.tim s.runs.length (Nat.le_refl _)
 rw [List.take_length] at hm
 obtain ⟨r,hr,e⟩:=hm.2 hn
 have hk:=QwI (p:=endP (QaJ s.runs)) ⟨r,hr,by unfold endP;rw [e];exact beq_self_eq_true _⟩
 have ht:TimP (unt1 s (QaJ s.runs)).runs:=⟨fun y hy=>h.tim.tim y (List.mem_filter.1 hy).1⟩
 refine ⟨⟨hu.perm hp,h.depth,Qdw ⟨hq,h.depth⟩ (QgA h (Nat.le_refl _)) ?_,Nat.le_of_not_lt he,Qpx h.depth hq ht⟩,?_⟩
 ·have:=h.runs
  show (Qbx _ _).length≤_
  omega
 ·rw [hp.length_eq]
  simp only [allJ,List.length_append,List.length_map,unt1]
  omega
theorem Qrt {s:State} (hs:Small 100000000 s) (ht:TimP s.runs):ACalls Tryz.prog 106 [QaA s] [.d (.n .i64 (QaJ s.runs))] []:=by
 refine Qaa tt Tryz.func106 rfl rfl rfl (fun w0 Z=>?_)
 have hl:=Qah s.runs
 have h5:=hs.run
 repeat' (first|refine zst ?_|(refine zhm fun hb=>?_;try exact zab)|refine zg2 ?_ ?_|refine zln fun _=>?_|refine zop ?_|fail)
 refine Qae (fun (k:Nat)=>⟨30,[(3,.d (.n .i64 (QaJ (s.runs.take k)))),(8,.d (.sl (runE s.runs))),(9,.d (.n .i64 (s.runs.length:Nat))),(10,.d (.n .i64 k))],[]⟩) (fun k=>k≤s.runs.length) (fun k=>s.runs.length - k) 0 (by exact Nat.zero_le _) ?_ ?_
 ·exact ⟨rfl,zae,zae,rfl⟩
 ·intro k hk
  have hb:=(Qej ht k hk).1
  by_cases hk':k<s.runs.length
  ·have hr:=ht.tim _ (QaO hk')
   have hst:=Qgu hk'
   generalize QaJ (s.runs.take k)=m at *
   unfold QpV at hst
   by_cases hc:m<0∨(nth s.runs k).at'+(nth s.runs k).job.wall<m
   ·rw [if_pos hc] at hst
    repeat' (first|refine zst ?_|(refine zhm fun hb=>?_;try exact zab)|refine zg2 ?_ ?_|refine zln fun _=>?_|refine zop ?_|fail)
    all_goals first|(exfalso;omega)|skip
    all_goals
     refine ⟨k+1,by omega,by omega,?_⟩
     refine ⟨rfl,?_,?_,rfl⟩
     repeat'(first|apply And.intro|exact ze0|refine ze1 ?_|refine zei ?_ ?_|exact rfl|trivial)
     all_goals exact Stop.mk (by first|rfl|(rw [hst];done))
   ·rw [if_neg hc] at hst
    repeat' (first|refine zst ?_|(refine zhm fun hb=>?_;try exact zab)|refine zg2 ?_ ?_|refine zln fun _=>?_|refine zop ?_|fail)
    all_goals first|(exfalso;omega)|skip
    all_goals
     refine ⟨k+1,by omega,by omega,?_⟩
     refine ⟨rfl,?_,?_,rfl⟩
     repeat'(first|apply And.intro|exact ze0|refine ze1 ?_|refine zei ?_ ?_|exact rfl|trivial)
     all_goals exact Stop.mk (by first|rfl|(rw [hst];done))
  ·obtain rfl:k=s.runs.length:=by omega
   rw [List.take_length] at *
   repeat' (first|refine zst ?_|(refine zhm fun hb=>?_;try exact zab)|refine zg2 ?_ ?_|refine zln fun _=>?_|refine zop ?_|fail)
   exact zr [] zae zae
theorem Qmh {s:State} (hs:Small 100000000 s) (ht:TimP s.runs):ACalls Tryz.prog 102 [QaA s] [.d (.n .i64 (QaJ s.runs))] []:=by
 refine Qaa tt Tryz.func102 rfl rfl rfl (fun w0 Z=>?_)
 have hl:=Qah s.runs
 have h5:=hs.run
 repeat' (first|refine zst ?_|(refine zhm fun hb=>?_;try exact zab)|refine zg2 ?_ ?_|refine zln fun _=>?_|refine zop ?_|fail)
 refine Qae (fun (k:Nat)=>⟨33,[(3,.d (.n .i64 (QaJ (s.runs.take k)))),(7,.d (.sl (runE s.runs))),(8,.d (.n .i64 (s.runs.length:Nat))),(9,.d (.n .i64 k))],[]⟩) (fun k=>k≤s.runs.length) (fun k=>s.runs.length - k) 0 (by exact Nat.zero_le _) ?_ ?_
 ·exact ⟨rfl,zae,zae,rfl⟩
 ·intro k hk
  have hb:=(Qej ht k hk).1
  by_cases hk':k<s.runs.length
  ·have hr:=ht.tim _ (QaO hk')
   have hst:=Qgu hk'
   generalize QaJ (s.runs.take k)=m at *
   unfold QpV at hst
   by_cases hc:m<0∨(nth s.runs k).at'+(nth s.runs k).job.wall<m
   ·rw [if_pos hc] at hst
    repeat' (first|refine zst ?_|(refine zhm fun hb=>?_;try exact zab)|refine zg2 ?_ ?_|refine zln fun _=>?_|refine zop ?_|fail)
    all_goals first|(exfalso;omega)|skip
    all_goals
     refine ⟨k+1,by omega,by omega,?_⟩
     refine ⟨rfl,?_,?_,rfl⟩
     repeat'(first|apply And.intro|exact ze0|refine ze1 ?_|refine zei ?_ ?_|exact rfl|trivial)
     all_goals exact Stop.mk (by first|rfl|(rw [hst];done))
   ·rw [if_neg hc] at hst
    repeat' (first|refine zst ?_|(refine zhm fun hb=>?_;try exact zab)|refine zg2 ?_ ?_|refine zln fun _=>?_|refine zop ?_|fail)
    all_goals first|(exfalso;omega)|skip
    all_goals
     refine ⟨k+1,by omega,by omega,?_⟩
     refine ⟨rfl,?_,?_,rfl⟩
     repeat'(first|apply And.intro|exact ze0|refine ze1 ?_|refine zei ?_ ?_|exact rfl|trivial)
     all_goals exact Stop.mk (by first|rfl|(rw [hst];done))
  ·obtain rfl:k=s.runs.length:=by omega
   rw [List.take_length] at *
   repeat' (first|refine zst ?_|(refine zhm fun hb=>?_;try exact zab)|refine zg2 ?_ ?_|refine zln fun _=>?_|refine zop ?_|fail)
   exact zr [] zae zae
end Go.Proofs.YtelbahebpmkfjaaGreat
namespace Go.Proofs.YtelbahebpmkfjaaGreat
open Go Go.RowKit
attribute [local irreducible] AWp Qat OpOk ACalls ChA QsOk MCalls NCalls EnC PY

@[reducible] def unR (o:Option State):List AV:=match o with
 | none=>[.agg ctl0,.d (.b false)]
 | some s=>[Qgp s 0 1 2 3 4 5,.d (.b true)]
theorem Qs4 {t:Int} {r:Run} (h:(0≤r.at'∧r.at'≤1000000000)∧1≤r.job.wall∧r.job.wall≤1000000):ACalls Tryz.prog 108 [runA r,.pd [.n .i64 t] 0] [.d (.b (endP t r))] []:=by
 refine Qaa tt Tryz.func108 rfl rfl rfl (fun w0 Z=>?_)
 repeat' (first|refine zst ?_|(refine zhm fun hb=>?_;try exact zab)|refine zg2 ?_ ?_|refine zon ?_|fail)
 exact zr [] zae zae
theorem Qr3 {s:State} {t:Int} (hs:Small 1048576 s):ACalls Tryz.prog 29 [QaA s,.d (.n .i64 t)] (unR (untO s t)) (stB (untO s t)):=by
 refine Qaa tt Tryz.func29 rfl rfl rfl (fun w0 Z=>?_)
 have hm:Small 100000000 s:=hs.mono (by omega)
 have c1:=Qca hm
 by_cases hok:Qap s=true∧s.now≤t∧t≤1000000000
 ·obtain ⟨h,ht1,ht2⟩:=hok
  rw [h] at c1
  have hR:untG ((allJ s).length+1) s t=untO s t:=(if_pos ⟨h,ht1,ht2⟩).symm
  have hU:=QmW h hs
  generalize untO s t=R at hR ⊢
  repeat' (first|refine zst ?_|(refine zhm fun hb=>?_;try exact zab)|refine zg2 ?_ ?_|refine zln fun _=>?_|refine zop ?_|refine kc (c1) rfl rfl ?_|refine kc (QaX) rfl rfl ?_|refine kc (Qbv hm) rfl rfl ?_|fail)
  all_goals first|(exfalso;omega)|skip
  refine QcR 19 39 rfl ?_
  refine QcR 1019 1039 rfl ?_
  refine QcR 2019 2039 rfl ?_
  refine QcR 3019 3039 rfl ?_
  refine QcR 4019 4039 rfl ?_
  refine QcR 5019 5039 rfl ?_
  refine Qae (fun (k:State×Nat)=>⟨43,[(1,.d (.n .i64 t)),(2,.ptr 2 0),(4,.ptr 4 0)],[(2,.box 43 (stC k.1 39 1039 2039 3039 4039 5039)),(4,.box 43 ctl0),(39,.row 3 (intE k.1.topo.parents) true),(1039,.row 255 (QaD k.1.topo.nodes) true),(2039,.row 4 (Qaw k.1.up) true),(3039,.row 78 (jobE k.1.queue) true),(4039,.row 148 (runE k.1.runs) true),(5039,.row 150 (endE k.1.ends) true)]⟩) (fun k=>UntI k.1∧(allJ k.1).length<k.2∧untG k.2 k.1 t=R) (fun k=>k.2) (s,(allJ s).length+1) (by exact ⟨hU,Nat.lt_succ_self _,hR⟩) ?_ ?_
  ·exact ⟨rfl,zae,zae,rfl⟩
  rintro ⟨s',f⟩ ⟨hU',hlt,hG⟩
  dsimp only at hU' hlt hG ⊢
  have hm':Small 100000000 s':=hU'.small.mono (by omega)
  have c2:=Qrt hm' hU'.tim
  have hb:=Qej hU'.tim s'.runs.length (Nat.le_refl _)
  rw [List.take_length] at hb
  have hb:=hb.1
  cases f with
  | zero=>exact absurd hlt (Nat.not_lt_zero _)
  | succ f=>
   unfold untG at hG
   by_cases hc:QaJ s'.runs<0∨t<QaJ s'.runs
   ·rw [if_pos hc] at hG
    subst hG
    repeat' (first|refine zst ?_|(refine zhm fun hb=>?_;try exact zab)|refine zg2 ?_ ?_|refine zln fun _=>?_|refine zop ?_|refine kc (c2) rfl rfl ?_|fail)
    all_goals first|(exfalso;omega)|skip
    all_goals
     exact zr [39,1039,2039,3039,4039,5039] zae zae
   ·rw [if_neg hc] at hG
    have hel:=QaC (s'.ends++QaM (QaJ s'.runs) 1 (endP (QaJ s'.runs)) s'.runs)
    have hle:(s'.ends++QaM (QaJ s'.runs) 1 (endP (QaJ s'.runs)) s'.runs).length=s'.ends.length+(QaM (QaJ s'.runs) 1 (endP (QaJ s'.runs)) s'.runs).length:=List.length_append
    have hle2:=Qfd (now:=QaJ s'.runs) (why:=1) (p:=endP (QaJ s'.runs)) (l:=s'.runs)
    have hle3:=hU'.ends
    have hle4:=hU'.runs
    have c4:=Qwy (s:={ s' with now:=QaJ s'.runs }) (why:=1) (p:=endP (QaJ s'.runs)) (g:=108) (ds:=[.n .i64 (QaJ s'.runs)]) ⟨hm'.par,hm'.nod,hm'.up,hm'.que,hm'.run,hm'.end',hm'.rno⟩ (fun r hr=>Qs4 (hU'.tim.tim r hr))
    dsimp only [stEw] at c4
    by_cases h6:300<(unt1 s' (QaJ s'.runs)).ends.length
    ·rw [if_pos h6] at hG
     subst hG
     have h6':300<(s'.ends++QaM (QaJ s'.runs) 1 (endP (QaJ s'.runs)) s'.runs).length:=h6
     repeat' (first|(refine Qaj 7 4039 rfl ?_)|(refine QcN 7 6 rfl rfl ?_)|refine zst ?_|(refine zhm fun hb=>?_;try exact zab)|refine zg2 ?_ ?_|refine zln fun _=>?_|refine zop ?_|refine kc (c2) rfl rfl ?_|(refine kn2 [2,39,1039,2039,3039,5039] (c4) rfl rfl (fun i hi=>?_);(try dsimp only at hi))|fail)
     all_goals first|(exfalso;omega)|skip
     all_goals
      exact zr [] zae zae
    ·rw [if_neg h6] at hG
     have h6':¬300<(s'.ends++QaM (QaJ s'.runs) 1 (endP (QaJ s'.runs)) s'.runs).length:=h6
     obtain ⟨k1,k2⟩:=Qi7 hU' (by omega) h6
     have c7:=Qdu (s:=unt1 s' (QaJ s'.runs)) (QgA hU' (by omega)) ⟨(hU'.jobs.sub Qkw).left,hU'.depth⟩
     repeat' (first|(refine Qaj 7 4039 rfl ?_)|(refine QcN 7 6 rfl rfl ?_)|refine zst ?_|(refine zhm fun hb=>?_;try exact zab)|refine zg2 ?_ ?_|refine zln fun _=>?_|refine zop ?_|refine kc (c2) rfl rfl ?_|refine kc (c7) rfl rfl ?_|(refine kn2 [2,39,1039,2039,3039,5039] (c4) rfl rfl (fun i hi=>?_);(try dsimp only at hi))|fail)
     all_goals first|(exfalso;omega)|skip
     all_goals
      refine ⟨(Qbq (unt1 s' (QaJ s'.runs)),f),⟨k1,by dsimp only;omega,hG⟩,by dsimp only;omega,?_⟩
      exact ⟨rfl,zae,zae,rfl⟩
 ·rw [show untO s t=none from if_neg hok]
  cases h:Qap s with
  | false=>
   rw [h] at c1
   repeat' (first|refine zst ?_|(refine zhm fun hb=>?_;try exact zab)|refine zg2 ?_ ?_|refine zln fun _=>?_|refine zop ?_|refine kc (c1) rfl rfl ?_|fail)
   exact zr [] zae zae
  | true=>
   rw [h] at c1
   repeat' (first|refine zst ?_|(refine zhm fun hb=>?_;try exact zab)|refine zg2 ?_ ?_|refine zln fun _=>?_|refine zop ?_|refine kc (c1) rfl rfl ?_|refine kc (QaX) rfl rfl ?_|fail)
   all_goals first|(exfalso;exact hok ⟨h,by omega,by omega⟩)|skip
   all_goals
    exact zr [] zae zae
end Go.Proofs.YtelbahebpmkfjaaGreat
namespace Go.Proofs.YtelbahebpmkfjaaGreat
open Go Go.RowKit
attribute [local irreducible] AWp Qat OpOk ACalls ChA QsOk MCalls NCalls EnC PY

@[reducible] def stUn (s:State) (n:Int) (v:AV) (q:Nat):List AV:=[.d (.sl (intE s.topo.parents)),.d (.sl (QaD s.topo.nodes)),.d (.sl (Qaw s.up)),.d (.n .i64 s.lic.a),.d (.n .i64 s.lic.b),.d (.n .i64 s.lic.c),.d (.n .i64 s.depth),.d (.n .i64 n),.d (.sl (jobE s.queue)),v,.row q]
theorem Qqy {s:State} {t:Int} (hs:Small 1048576 s):DC Tryz.prog 28 [QaA s,.d (.n .i64 t)] [QaA ((untO s t).getD zS),.d (.b (untO s t).isSome)]:=by
 refine Qag tt Tryz.func28 rfl rfl rfl trivial (fun _ _=>⟨trivial,trivial⟩) (fun w0 Z O=>?_)
 have hm:Small 100000000 s:=hs.mono (by omega)
 have c1:=QcD hm
 have ct:=Qce (x:=t)
 by_cases hok:Qap s=true∧s.now≤t∧t≤1000000000
 ·obtain ⟨h,ht1,ht2⟩:=hok
  rw [h] at c1
  have hnow:0≤s.now:=by
   obtain ⟨r,hr⟩:=Option.isSome_iff_exists.1 (pB_t.1 h).room
   exact (Qed hr).2.2.2.1.now.1
  rw [show inB t 0 1000000000=true by rw [QcM];omega] at ct
  have hR:untG ((allJ s).length+1) s t=untO s t:=(if_pos ⟨h,ht1,ht2⟩).symm
  have hU:=QmW h hs
  have c2:=Qmh hm hU.tim
  generalize untO s t=R at hR ⊢
  repeat' (first|refine zsr ?_|(refine zhm fun hb=>?_;try exact zab)|refine zg2 ?_ ?_|refine zln fun _=>?_|refine zop ?_|refine kc (c1) rfl rfl ?_|refine kc (ct) rfl rfl ?_|refine kc (c2) rfl rfl ?_|(refine km [] (QiQ hm) rfl rfl (fun i hi=>?_);(try dsimp only at hi))|fail)
  all_goals first|(exfalso;omega)|skip
  refine QcR 26 79 rfl ?_
  refine QcR 1026 1079 rfl ?_
  refine Qae (fun (k:State×Nat)=>⟨83,[(1,.d (.n .i64 t)),(2,.ptr 2 0),(4,.ptr 4 0),(6,.d (.n .i64 (QaJ k.1.runs)))],[(2,.box 43 (Qdc k.1 79 1079)),(4,.box 43 ctl0),(79,.row 148 (runE k.1.runs) false),(1079,.row 150 (endE k.1.ends) true)]⟩) (fun k=>UntI k.1∧(allJ k.1).length<k.2∧untG k.2 k.1 t=R) (fun k=>k.2) (s,(allJ s).length+1) (by exact ⟨hU,Nat.lt_succ_self _,hR⟩) ?_ ?_
  ·exact ⟨rfl,zae,zae,rfl⟩
  rintro ⟨s',f⟩ ⟨hU',hlt,hG⟩
  dsimp only at hU' hlt hG ⊢
  have hm':Small 100000000 s':=hU'.small.mono (by omega)
  have hb:=Qej hU'.tim s'.runs.length (Nat.le_refl _)
  rw [List.take_length] at hb
  have hb:=hb.1
  cases f with
  | zero=>exact absurd hlt (Nat.not_lt_zero _)
  | succ f=>
   unfold untG at hG
   by_cases hc:QaJ s'.runs<0∨t<QaJ s'.runs
   ·rw [if_pos hc] at hG
    subst hG
    repeat' (first|refine zsr ?_|(refine zhm fun hb=>?_;try exact zab)|refine zg2 ?_ ?_|refine zln fun _=>?_|refine zop ?_|fail)
    all_goals first|(exfalso;omega)|skip
    all_goals
     show AWp _ _ _ _
     refine Qav 79 rfl ?_
     show AWp _ _ _ _
     refine Qav 1079 rfl ?_
     refine Qac ?_
     apply Qab
     exact zm () [] trivial zae zae zae
   ·rw [if_neg hc] at hG
    have hrl:=Qah s'.runs
    have hrn:=hU'.runs
    have hen:=hU'.ends
    have hle2:=Qfd (now:=QaJ s'.runs) (why:=1) (p:=endP (QaJ s'.runs)) (l:=s'.runs)
    repeat' (first|(refine Qaj 9 79 rfl ?_)|refine zsr ?_|(refine zhm fun hb=>?_;try exact zab)|refine zg2 ?_ ?_|refine zln fun _=>?_|refine zop ?_|fail)
    all_goals first|(exfalso;omega)|skip
    refine Qc5 40 rfl ?_
    refine QcR 1079 62 rfl ?_
    refine Qae (fun (k:Nat)=>⟨83,[(1,.d (.n .i64 t)),(2,.ptr 2 0),(4,.ptr 4 0),(6,.d (.n .i64 (QaJ s'.runs))),(7,.row 40),(42,.d (.sl (runE s'.runs))),(43,.d (.n .i64 (s'.runs.length:Nat))),(44,.d (.n .i64 k))],[(2,.box 43 (stUn s' (QaJ s'.runs) (.d (.sl (runE s'.runs))) 62)),(4,.box 43 ctl0),(62,.row 150 (endE (s'.ends++QaM (QaJ s'.runs) 1 (endP (QaJ s'.runs)) (s'.runs.take k))) true),(40,.row 148 (runE (Qbx (endP (QaJ s'.runs)) (s'.runs.take k))) false)]⟩) (fun k=>k≤s'.runs.length) (fun k=>s'.runs.length - k) 0 (by exact Nat.zero_le _) ?_ ?_
    ·refine ⟨rfl,?_,?_,rfl⟩
     repeat'(first|apply And.intro|exact ze0|refine ze1 ?_|refine zei ?_ ?_|exact rfl|trivial)
     all_goals exact Stop.mk (by first|rfl|exact Qah _|(simp [QaM];done))
    intro k hk
    have hd2:=Qah (Qbx (endP (QaJ s'.runs)) (s'.runs.take k))
    have hd3:=QaC (s'.ends++QaM (QaJ s'.runs) 1 (endP (QaJ s'.runs)) (s'.runs.take k))
    have hd7:(s'.ends++QaM (QaJ s'.runs) 1 (endP (QaJ s'.runs)) (s'.runs.take k)).length=s'.ends.length+(QaM (QaJ s'.runs) 1 (endP (QaJ s'.runs)) (s'.runs.take k)).length:=List.length_append
    have hd5:=QeB (p:=endP (QaJ s'.runs)) (l:=s'.runs) (i:=k)
    have hd6:=QeH (now:=QaJ s'.runs) (why:=1) (p:=endP (QaJ s'.runs)) (l:=s'.runs) (i:=k)
    by_cases hk':k<s'.runs.length
    ·have hr:=hU'.tim.tim _ (QaO hk')
     by_cases hp0:(nth s'.runs k).at'+(nth s'.runs k).job.wall=QaJ s'.runs
     ·have hp:endP (QaJ s'.runs) (nth s'.runs k)=true:=by unfold endP;rw [hp0];exact beq_self_eq_true _
      have e2:=QdD hk' hp
      have e3:=Qdq (now:=QaJ s'.runs) (why:=1) hk' hp
      generalize QaM (QaJ s'.runs) 1 (endP (QaJ s'.runs)) (s'.runs.take k)=ge at *
      repeat' (first|refine zsr ?_|(refine zhm fun hb=>?_;try exact zab)|refine zg2 ?_ ?_|refine zln fun _=>?_|refine zop ?_|fail)
      all_goals first|(exfalso;omega)|skip
      refine ⟨k+1,by omega,by omega,?_⟩
      refine ⟨rfl,?_,?_,rfl⟩
      repeat'(first|apply And.intro|exact ze0|refine ze1 ?_|refine zei ?_ ?_|exact rfl|trivial)
      all_goals exact Stop.mk (by first|rfl|(rw [e2];done)|(rw [e3,←List.append_assoc];exact Qcm _ ⟨_,_,_⟩))
     ·have hp:endP (QaJ s'.runs) (nth s'.runs k)=false:=by unfold endP;rw [beq_eq_false_iff_ne];exact hp0
      have e2:=QfO hk' hp
      have e3:=QfR (now:=QaJ s'.runs) (why:=1) hk' hp
      repeat' (first|refine zsr ?_|(refine zhm fun hb=>?_;try exact zab)|refine zg2 ?_ ?_|refine zln fun _=>?_|refine zop ?_|fail)
      all_goals first|(exfalso;omega)|skip
      refine ⟨k+1,by omega,by omega,?_⟩
      refine ⟨rfl,?_,?_,rfl⟩
      repeat'(first|apply And.intro|exact ze0|refine ze1 ?_|refine zei ?_ ?_|exact rfl|trivial)
      all_goals exact Stop.mk (by first|rfl|(rw [e3];done)|(rw [e2];exact QeN _ _))
    ·obtain rfl:k=s'.runs.length:=by omega
     rw [List.take_length] at *
     by_cases h6:300<(unt1 s' (QaJ s'.runs)).ends.length
     ·rw [if_pos h6] at hG
      subst hG
      have h6':300<(s'.ends++QaM (QaJ s'.runs) 1 (endP (QaJ s'.runs)) s'.runs).length:=h6
      repeat' (first|refine zsr ?_|(refine zhm fun hb=>?_;try exact zab)|refine zg2 ?_ ?_|refine zln fun _=>?_|refine zop ?_|fail)
      all_goals first|(exfalso;omega)|skip
      all_goals
       show AWp _ _ _ _
       refine Qac ?_
       apply Qab
       exact zm () [] trivial zae zae zae
     ·rw [if_neg h6] at hG
      have h6':¬300<(s'.ends++QaM (QaJ s'.runs) 1 (endP (QaJ s'.runs)) s'.runs).length:=h6
      obtain ⟨k1,k2⟩:=Qi7 hU' (by omega) h6
      have c7:=Qc1 (s:=unt1 s' (QaJ s'.runs)) (QgA hU' (by omega)) ⟨(hU'.jobs.sub Qkw).left,hU'.depth⟩
      have c8:=Qmh (s:=Qbq (unt1 s' (QaJ s'.runs))) (k1.small.mono (by omega)) k1.tim
      repeat' (first|refine zsr ?_|(refine zhm fun hb=>?_;try exact zab)|refine zg2 ?_ ?_|refine zln fun _=>?_|refine zop ?_|refine kc (c8) rfl rfl ?_|(refine kn [40,62] (c7) rfl rfl (fun i hi=>?_);(try dsimp only at hi))|fail)
      all_goals first|(exfalso;omega)|skip
      all_goals
       refine ⟨(Qbq (unt1 s' (QaJ s'.runs)),f),⟨k1,by dsimp only;omega,hG⟩,by dsimp only;omega,?_⟩
       exact ⟨rfl,zae,zae,rfl⟩
 ·rw [show untO s t=none from if_neg hok]
  cases h:Qap s with
  | false=>
   rw [h] at c1
   repeat' (first|refine zsr ?_|(refine zhm fun hb=>?_;try exact zab)|refine zg2 ?_ ?_|refine zln fun _=>?_|refine zop ?_|refine kc (c1) rfl rfl ?_|fail)
   show AWp _ _ _ _
   refine Qac ?_
   apply Qab
   exact zm () [] trivial zae zae zae
  | true=>
   rw [h] at c1
   cases hi:inB t 0 1000000000 with
   | false=>
    rw [hi] at ct
    repeat' (first|refine zsr ?_|(refine zhm fun hb=>?_;try exact zab)|refine zg2 ?_ ?_|refine zln fun _=>?_|refine zop ?_|refine kc (c1) rfl rfl ?_|refine kc (ct) rfl rfl ?_|fail)
    all_goals
     show AWp _ _ _ _
     refine Qac ?_
     apply Qab
     exact zm () [] trivial zae zae zae
   | true=>
    rw [hi] at ct
    rw [QcM] at hi
    repeat' (first|refine zsr ?_|(refine zhm fun hb=>?_;try exact zab)|refine zg2 ?_ ?_|refine zln fun _=>?_|refine zop ?_|refine kc (c1) rfl rfl ?_|refine kc (ct) rfl rfl ?_|fail)
    all_goals first|(exfalso;exact hok ⟨h,by omega,by omega⟩)|skip
    all_goals
     show AWp _ _ _ _
     refine Qac ?_
     apply Qab
     exact zm () [] trivial zae zae zae
end Go.Proofs.YtelbahebpmkfjaaGreat
namespace Go.Proofs.YtelbahebpmkfjaaGreat
open Go Go.RowKit
attribute [local irreducible] AWp Qat OpOk ACalls ChA QsOk MCalls NCalls EnC PY

theorem Qjs:∀(f:Nat) (s:State) (t:Int),UntI s→∀s',untG f s t=some s'→Small 1048576 s'
 | 0,_,_,_,_,h=>by cases h
 | f+1,s,t,hU,s',h=>by
  unfold untG at h
  split at h
  ·cases h
   exact ⟨hU.small.par,hU.small.nod,hU.small.up,hU.small.que,hU.small.run,hU.small.end',hU.small.rno⟩
  ·rename_i hc
   split at h
   ·cases h
   ·rename_i h6
    exact Qjs f _ t (Qi7 hU (by omega) h6).1 s' h
theorem Qg2 {s:State} {t:Int} (hs:Small 1048576 s):∀s',untO s t=some s'→Small 1048576 s':=fun s' h=>by
 unfold untO at h
 split at h
 ·rename_i h1
  exact Qjs _ s t (QmW h1.1 hs) s' h
 ·cases h
theorem lawUntil_e {s:State} {t:Int} (h:Small 9223372036854775807 s):ACalls Tryz.prog 5 [QaA s,.d (.n .i64 t)] [.d (.b true)] []:=by
 refine Qaa tt Tryz.func5 rfl rfl rfl (fun w0 Z=>?_)
 by_cases hS:Small 1048576 s
 ·have c1:=Qqy (t:=t) hS
  have c2:=Qr3 (t:=t) hS
  have hO:=Qg2 (t:=t) hS
  generalize untO s t=o at c1 c2 hO
  rcases o with _|s'
  ·dsimp only [unR,stB,Option.getD,Option.isSome] at c1 c2
   repeat' (first|refine zst ?_|(refine zhm fun hb=>?_;try exact zab)|(apply QaT 10;kernel_rfl;exact rfl)|refine zdr ?_|(apply zch;exact zcg)|refine HopS.mk fun w0 Z O=>?_|exact zhk|refine zg3 ?_ ?_|(apply Qcj;first|(refine km (t:=23) [] (QbD hS) rfl rfl (fun i hi=>?_)))|refine zop ?_|refine kc (QbO hS) rfl rfl ?_|refine kc (c2) rfl rfl ?_|refine kc (QaQ (s:=zS) (QbY _)) rfl rfl ?_|refine kc (QaQ (s:=s) (hS.mono (by omega))) rfl rfl ?_|refine kc (QcV (k:=1)) rfl rfl ?_|refine kc (Qbm (s:=zS) (k:=1) (QbY _) (by omega)) rfl rfl ?_|(refine km [] (Qc7 h) rfl rfl (fun i hi=>?_);(try dsimp only at hi))|(refine km [] (QbD hS) rfl rfl (fun i hi=>?_);(try dsimp only at hi))|(refine km [] (c1) rfl rfl (fun i hi=>?_);(try dsimp only at hi))|(refine km [29,1029,2029,3029,4029,5029] (QbH (k:=1) hS (by omega)) rfl rfl (fun i hi=>?_);(try dsimp only at hi))|refine kq (QbO hS) rfl rfl ?_|refine kq (c2) rfl rfl ?_|refine kq (QaQ (s:=zS) (QbY _)) rfl rfl ?_|refine kq (QaQ (s:=s) (hS.mono (by omega))) rfl rfl ?_|refine kq (QcV (k:=1)) rfl rfl ?_|refine kq (Qbm (s:=zS) (k:=1) (QbY _) (by omega)) rfl rfl ?_|fail)
   all_goals
    exact zr [] zae zae
  ·dsimp only [unR,stB,Option.getD,Option.isSome] at c1 c2
   have hO:=hO s' rfl
   repeat' (first|refine zst ?_|(refine zhm fun hb=>?_;try exact zab)|(apply QaT 10;kernel_rfl;exact rfl)|refine zdr ?_|(apply zch;exact zcg)|refine HopS.mk fun w0 Z O=>?_|exact zhk|refine zg3 ?_ ?_|(apply Qcj;first|(refine km (t:=23) [] (QbD hS) rfl rfl (fun i hi=>?_)))|refine zop ?_|refine kc (QbO hS) rfl rfl ?_|refine kc (c2) rfl rfl ?_|refine kc (QaQ (s:=s') (hO.mono (by omega))) rfl rfl ?_|refine kc (QaQ (s:=s) (hS.mono (by omega))) rfl rfl ?_|refine kc (Qbm (s:=s') (k:=1) hO (by omega)) rfl rfl ?_|(refine km [] (Qc7 h) rfl rfl (fun i hi=>?_);(try dsimp only at hi))|(refine km [] (QbD hS) rfl rfl (fun i hi=>?_);(try dsimp only at hi))|(refine km [] (c1) rfl rfl (fun i hi=>?_);(try dsimp only at hi))|(refine km [29,1029,2029,3029,4029,5029] (QbH (k:=1) hS (by omega)) rfl rfl (fun i hi=>?_);(try dsimp only at hi))|(refine km [33,1033,2033,3033,4033,5033] (QbH (k:=1) hO (by omega)) rfl rfl (fun i hi=>?_);(try dsimp only at hi))|refine kq (QbO hS) rfl rfl ?_|refine kq (c2) rfl rfl ?_|refine kq (QaQ (s:=s') (hO.mono (by omega))) rfl rfl ?_|refine kq (QaQ (s:=s) (hS.mono (by omega))) rfl rfl ?_|refine kq (Qbm (s:=s') (k:=1) hO (by omega)) rfl rfl ?_|fail)
   all_goals
    exact zr [] zae zae
 ·repeat' (first|refine zst ?_|(refine zhm fun hb=>?_;try exact zab)|refine zdr ?_|(apply zch;exact zcg)|refine HopS.mk fun w0 Z O=>?_|exact zhk|refine zg3 ?_ ?_|refine zop ?_|(refine km [] (QuX h hS) rfl rfl (fun i hi=>?_);(try dsimp only at hi))|fail)
  exact zr [] zae zae
end Go.Proofs.YtelbahebpmkfjaaGreat
