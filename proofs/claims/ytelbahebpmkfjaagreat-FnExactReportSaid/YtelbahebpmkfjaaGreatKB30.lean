/-
  What starts, of the program.
-/
import Derived.Test.YtelbahebpmkfjaaGreatKB7
import Derived.Test.YtelbahebpmkfjaaGreatKB16
import Derived.Test.YtelbahebpmkfjaaGreatKB28
import Derived.Test.YtelbahebpmkfjaaGreatKB24
import Derived.Test.YtelbahebpmkfjaaGreatKB12
set_option maxRecDepth 100000
set_option maxHeartbeats 16000000
namespace Go.Proofs.YtelbahebpmkfjaaGreat
open Go Go.RowKit
theorem QtF (id p q:Nat) {X:Cx} {Q:Exit→AS→Prop} {σ:AS} {ops:Array Oper} {dr:Bool} (hf:QbG X.fre q σ.ob=true) (h:AWp X (.region id ops dr) Q ⟨σ.nt,σ.sl.map fun y=>(y.1,y.2.mapN (renN p q)),σ.ob.map fun y=>(renN p q y.1,y.2.mapN (renN p q))⟩):AWp X (.region id ops dr) Q σ:=QcR p q hf h
attribute [local irreducible] AWp Qat OpOk ACalls ChA QsOk MCalls NCalls EnC PY

def Quo (h:HeldS):List D:=[.n .i64 h.id,.n .i64 h.at',.un]
def Ql6 (hs:List HeldS) (i:Nat):List (List D):=(hs.take i).map Quo++(hs.drop i).map QxC
theorem QlG {hs:List HeldS} {i:Nat} (h:i≤hs.length):(Ql6 hs i).length=hs.length:=by simp [Ql6];omega
theorem QsT {hs:List HeldS} {i:Nat} (h:i<hs.length):(Ql6 hs i)[i]?=some (QxC (nth hs i)):=by
 unfold Ql6
 rw [List.getElem?_append_right (by simp;omega),List.getElem?_map,List.getElem?_drop]
 have:i+(i - ((hs.take i).map Quo).length)=i:=by simp;omega
 rw [this,Qw1 h]
 rfl
theorem Qsw {hs:List HeldS} {i:Nat} (h:i<hs.length):(Ql6 hs i).set i (Quo (nth hs i))=Ql6 hs (i+1):=by
 unfold Ql6
 rw [List.set_append_right _ _ (by simp;omega),QdI h,Qas h]
 have:i - ((hs.take i).map Quo).length=0:=by simp;omega
 rw [this]
 simp
theorem Qmb (l:List Run) (x:Run):runE l++[runD x]=runE (l++[x]):=by simp [runE,runD]
theorem Qu1 {l:List Job} {id:Int} (h:id∈l.map Job.id):∃k,k<l.length∧idxF l (fun j=>j.id==id)=(k:Nat)∧(nth l k).id=id∧Qg3 l id=some (nth l k):=by
 obtain ⟨x,hx,e⟩:=List.mem_map.1 h
 obtain ⟨i,hi,rfl⟩:=QbB hx
 obtain ⟨k,⟨h1,h2⟩,h3⟩:=least (p:=fun k=>k<l.length∧(nth l k).id=id) ⟨i,hi,e⟩
 have h4:∀j,j<k→(nth l j).id≠id:=fun j hj e=>by
  have:=h3 j ⟨by omega,e⟩
  omega
 exact ⟨k,h1,QkJ h1 (by simp [h2]) (fun j hj=>by simpa using h4 j hj),h2,Qno h1 h2 h4⟩
structure PlanJ (s:State) (p:List HeldS×List HeldS):Prop where
 len:p.1.length+p.2.length≤(ordJ s.queue).length
 sub:(p.1.map HeldS.id).Sublist ((ordJ s.queue).map Job.id)
 st:∀h∈p.1,h.at'=s.now∧1≤h.nodes.length∧h.nodes.length≤24
 lt:∀h∈p.2,1≤h.nodes.length∧h.nodes.length≤24
theorem QgH {s:State} {r:Room} (h:Qbu s=some r):PlanJ s (QcO s):=by
 have hI:=QwL h
 rw [Qeb h]
 exact ⟨hI.len,hI.sub,hI.st,hI.lt⟩
structure StartP (s:State) (r:Room):Prop where
 room:Qbu s=some r
 queue:QueueP s.queue
 depth:0≤s.depth∧s.depth≤60
theorem StartP.now {s:State} {r:Room} (h:StartP s r):0≤s.now∧s.now≤1000000000:=(Qed h.room).2.2.2.1.now
theorem StartP.strP {s:State} {r:Room} (h:StartP s r) (i:Nat) (hi:i≤(QcO s).1.length):StrP s.now s.queue s.runs (QcO s).1 i∧(i<(QcO s).1.length→(nth (QcO s).1 i).id∈(runF s.now s.queue s.runs ((QcO s).1.take i)).1.map Job.id):=by
 have hI:=QgH h.room
 have hp:((ordJ s.queue).map Job.id).Perm (s.queue.map Job.id):=(List.mergeSort_perm _ _).map _
 exact Proofs.YtelbahebpmkfjaaGreat.strP (hI.sub.nodup (hp.nodup_iff.2 h.queue.nodup)) (fun x hx=>hp.mem_iff.1 (hI.sub.subset (List.mem_map.2 ⟨x,hx,rfl⟩))) i hi
theorem QqA {s:State} {r:Room} (hs:Small 100000000 s) (h:StartP s r):ACalls Tryz.prog 109 [QaA s] [Qgp (Qbq s) 0 1 2 3 4 5] (Qgc (Qbq s)):=by
 refine Qaa tt Tryz.func109 rfl rfl rfl (fun w0 Z=>?_)
 have c1:=Qgh (hs.mono (m:=1000000000) (by omega))
 rw [h.room] at c1
 have c2:=QuN (depth:=s.depth) (Qdx h.room) h.queue h.now h.depth
 have c3:=Qbv hs
 have hI:=QgH h.room
 have hS:=h.strP
 unfold Qbq
 rw [←Qeb h.room] at c2
 generalize QcO s=pl at c2 hI hS ⊢
 obtain ⟨hl,lt⟩:=pl
 dsimp only at c2 hI hS ⊢
 have hql:=h.queue.len
 have hrl:=hs.run
 have hil:=hI.len
 dsimp only at hil
 have hol:=Qb3 s.queue
 have hle:=Qa3 hl
 repeat' (first|refine zst ?_|(refine zhm fun hb=>?_;try exact zab)|refine zdr ?_|(apply zch;exact zcg)|refine HopS.mk fun w0 Z O=>?_|exact zhk|refine zg3 ?_ ?_|refine zln fun _=>?_|refine zop ?_|refine kc (c3) rfl rfl ?_|(refine km [] (c1) rfl rfl (fun i hi=>?_);(try dsimp only at hi))|(refine km [] (c2) rfl rfl (fun i hi=>?_);(try dsimp only at hi))|refine kq (c3) rfl rfl ?_|fail)
 refine QcR 3030 63 rfl ?_
 refine Qae (fun (n:Nat)=>⟨66,[(1,.ptr 1 0),(2,.ptr 2 0),(8,.ptr 8 0),(31,.row 25),(32,.d (.n .i64 (hl.length:Nat))),(33,.d (.n .i64 n))],[(1,.box 43 (Qbw s)),(2,.box 43 ctl0),(8,.box 43 (stC s 30 1030 2030 63 4030 5030)),(25,.row 154 (Ql6 hl n) true),(30,.row 3 (intE s.topo.parents) true),(1030,.row 255 (QaD s.topo.nodes) true),(2030,.row 4 (Qaw s.up) true),(63,.row 78 (jobE (runF s.now s.queue s.runs (hl.take n)).1) true),(4030,.row 148 (runE (runF s.now s.queue s.runs (hl.take n)).2) true),(5030,.row 150 (endE s.ends) true)]⟩) (fun n=>n≤hl.length) (fun n=>hl.length - n) 0 (by exact Nat.zero_le _) ?_ ?_
 ·refine ⟨rfl,?_,?_,rfl⟩
  repeat'(first|apply And.intro|exact ze0|refine ze1 ?_|refine zei ?_ ?_|exact rfl|trivial)
  all_goals exact Stop.mk (by first|rfl|exact hle)
 intro n hn
 obtain ⟨hP,hin⟩:=hS n hn
 have hpl:=hP.len
 have hpq:=hP.que
 by_cases hn':n<hl.length
 ·have hst:=Qda (now:=s.now) (qs:=s.queue) (rs:=s.runs) hn'
  obtain ⟨k,hk1,hk2,hk3,hk4⟩:=Qu1 (hin hn')
  have hnd:((runF s.now s.queue s.runs (hl.take n)).1.map Job.id).Nodup:=(hP.sub.map Job.id).nodup h.queue.nodup
  have hx:=hI.st _ (QaO hn')
  have hat:=QsT hn'
  have hset:=Qsw hn'
  have hlen:=QlG hn
  generalize nth hl n=x at hst hk1 hk2 hk3 hk4 hx hat hset
  generalize runF s.now s.queue s.runs (hl.take n)=q at hst hk1 hk2 hk3 hk4 hnd hpl hpq ⊢
  unfold runH at hst
  rw [hk4,Option.getD_some] at hst
  have hq1:=Qak q.1
  have hq2:=Qah q.2
  have hne:intE x.nodes≠[]:=fun e=>by
   have:=congrArg List.length e
   rw [Qad] at this
   simp at this
   rw [this] at hx
   simp at hx
  have c4:=Qm2 (l:=q.1) (id:=x.id) (by omega)
  rw [hk2] at c4
  repeat' (first|(refine QtF 10 62 63 rfl ?_)|refine zst ?_|(refine zhm fun hb=>?_;try exact zab)|refine zdr ?_|(apply zchE;exact zcg)|(apply zch;exact zcg)|refine HopS.mk fun w0 Z O=>?_|exact zhk|refine zg3 ?_ ?_|(apply Qcj;first|(refine QtS rfl rfl rfl rfl hat rfl hne QnZ (QaG fun _=>rfl) rfl rfl rfl rfl rfl rfl (fun e1 he1=>?_))|(refine Qvb rfl rfl rfl ⟨rfl,rfl,rfl⟩ rfl rfl rfl rfl rfl rfl rfl rfl (QaG fun _=>rfl) rfl rfl rfl rfl rfl he1 rfl rfl ?_)|(refine Qpv rfl rfl rfl rfl rfl rfl rfl rfl ⟨rfl,rfl,rfl⟩ (Qah _) (rfl:_=1) (by omega) rfl rfl rfl ?_))|refine zln fun _=>?_|refine zop ?_|refine kc (c4) rfl rfl ?_|(refine kn [63] (Qoh hk1 (by omega)) rfl rfl (fun i hi=>?_);(try dsimp only at hi))|refine kq (c4) rfl rfl ?_|fail)
  refine ⟨n+1,by omega,by omega,?_⟩
  refine ⟨rfl,?_,?_,rfl⟩
  repeat'(first|apply And.intro|exact ze0|refine ze1 ?_|refine zei ?_ ?_|exact rfl|trivial)
  all_goals exact Stop.mk (by first|rfl|exact hset|(rw [hst,Qfe hnd hk1,hk3];done)|(rw [hst];exact Qmb _ ⟨nth q.1 k,_,_⟩))
 ·obtain rfl:n=hl.length:=by omega
  rw [List.take_length] at *
  repeat' (first|refine zst ?_|(refine zhm fun hb=>?_;try exact zab)|refine zdr ?_|(apply zch;exact zcg)|refine HopS.mk fun w0 Z O=>?_|exact zhk|refine zg3 ?_ ?_|refine zln fun _=>?_|refine zop ?_|fail)
  exact zr [30,1030,2030,63,4030,5030] zae zae
end Go.Proofs.YtelbahebpmkfjaaGreat
namespace Go.Proofs.YtelbahebpmkfjaaGreat
open Go Go.RowKit
theorem Rel1.shal {X:Cx} {σ:AS} {a:Act} {w:World} {en:List Ent} (h1:Rel1 X σ a w en) {p:Nat} {e:TypeId} {es:List (List D)} (hp:Qam σ.ob p=some (.row e es true)):Rel X ⟨σ.nt,σ.sl,(p,.row e es false)::QbA p σ.ob⟩ a w:=by
 obtain ⟨y,hy,hyn,hya⟩:=h1.ent hp
 have hok:=h1.mem.ok y hy
 unfold EntOk at hok
 rw [hya] at hok
 obtain ⟨z,us,k0,k1,k2,k3,k4,k5,k6,k7⟩:=hok
 have hs:Swap X.P X.w0 X.Z X.O en w w p ⟨p,.row e es false,y.val,y.fs⟩ (fun _=>true):=
  ⟨h1.mem,fun _ _=>rfl,fun _ x hx e=>by
    have:=h1.mem.ent_unique hx hy (e.trans hyn.symm)
    subst this
    exact ⟨e.symm,rfl,by rw [hya];rfl,by rw [hya];rfl⟩,rfl,rfl,rfl,Nat.le_refl _,
   fun b hb hno=>rfl,fun b hb=>.inr ⟨y,hy,hyn,by
   rcases hb with hb|⟨hd,_⟩
   ·exact .inl hb
   ·cases hd⟩,rfl,hyn▸h1.mem.fix y hy⟩
 exact ⟨_,h1.swap_keep hs (by
  unfold EntOk
  exact ⟨z,us,k0,k1,k2,k3,k4,fun _ b hb=>hs.imm_fs hy hyn (by rw [hya];rfl) k5 (fun hd=>(k7 hd).2.1) (fun hd b hb hq=>by
   rcases hq with hq|⟨hq,_⟩
   ·exact ((k7 hd).2.1 b hb).2.2 hq
   ·cases hq) b hb,k6,fun h=>by cases h⟩) (fun hd=>by cases hd)⟩
theorem QuF (id p:Nat) {X:Cx} {Q:Exit→AS→Prop} {σ:AS} {ops:Array Oper} {dr:Bool} {e:TypeId} {es:List (List D)} (hp:Qam σ.ob p=some (.row e es true)) (h:AWp X (.region id ops dr) Q ⟨σ.nt,σ.sl,(p,.row e es false)::QbA p σ.ob⟩):AWp X (.region id ops dr) Q σ:=fun a w ⟨_,hr⟩=>h a w (hr.shal hp)
attribute [local irreducible] AWp Qat OpOk ACalls ChA QsOk MCalls NCalls EnC PY

theorem Qo9 {s:State} {r:Room} (hs:Small 100000000 s) (h:StartP s r):NCalls Tryz.prog 103 [.agg (Qdc s 500000 500001)] [(500000,.row 148 (runE s.runs) false),(500001,.row 150 (endE s.ends) true)] (fun _:Unit=>True) (fun _=>[.agg (Qdc (Qbq s) 0 1)]) (fun _=>[(0,.row 148 (runE (Qbq s).runs) false),(1,.row 150 (endE s.ends) true)]):=by
 refine Qdo tt Tryz.func103 rfl rfl rfl (fun _ _=>rfl) (fun w0 Z O=>?_)
 have c1:=QkE (hs.mono (m:=1000000000) (by omega))
 rw [h.room] at c1
 have c2:=QuL (depth:=s.depth) (Qdx h.room) h.queue h.now h.depth
 have hI:=QgH h.room
 have hS:=h.strP
 unfold Qbq
 rw [←Qeb h.room] at c2
 generalize QcO s=pl at c2 hI hS ⊢
 obtain ⟨hl,lt⟩:=pl
 dsimp only at c2 hI hS ⊢
 have hql:=h.queue.len
 have hrl:=hs.run
 have hil:=hI.len
 dsimp only at hil
 have hol:=Qb3 s.queue
 have hle:=Qa3 hl
 repeat' (first|refine zst ?_|(refine zhm fun hb=>?_;try exact zab)|refine zg2 ?_ ?_|refine zln fun _=>?_|refine zop ?_|(refine km [500000,500001] (c1) rfl rfl (fun i hi=>?_);(try dsimp only at hi))|(refine km [] (c2) rfl rfl (fun i hi=>?_);(try dsimp only at hi))|fail)
 refine Qae (fun (n:Nat)=>⟨62,[(1,.ptr 1 0),(2,.ptr 2 0),(29,.d (.sl (Qel hl))),(30,.d (.n .i64 (hl.length:Nat))),(31,.d (.n .i64 n))],[(1,.box 43 (Qdc { s with queue:=(runF s.now s.queue s.runs (hl.take n)).1 } 500000 500001)),(2,.box 43 ctl0),(500000,.row 148 (runE (runF s.now s.queue s.runs (hl.take n)).2) false),(500001,.row 150 (endE s.ends) true)]⟩) (fun n=>n≤hl.length) (fun n=>hl.length - n) 0 (by exact Nat.zero_le _) ?_ ?_
 ·refine ⟨rfl,?_,?_,rfl⟩
  repeat'(first|apply And.intro|exact ze0|refine ze1 ?_|refine zei ?_ ?_|exact rfl|trivial)
  all_goals exact Stop.mk (by first|rfl|exact hle)
 intro n hn
 obtain ⟨hP,hin⟩:=hS n hn
 have hpl:=hP.len
 have hpq:=hP.que
 by_cases hn':n<hl.length
 ·have hst:=Qda (now:=s.now) (qs:=s.queue) (rs:=s.runs) hn'
  generalize runF s.now s.queue s.runs (hl.take n)=q at hst hpl hpq ⊢
  unfold runH at hst
  have hq2:=Qah q.2
  repeat' (first|refine zst ?_|(refine zhm fun hb=>?_;try exact zab)|refine zg2 ?_ ?_|refine zln fun _=>?_|refine zop ?_|refine kc (QfT (l:=q.1) (id:=(nth hl n).id) (by omega)) rfl rfl ?_|(refine km [] (Qop (l:=q.1) (id:=(nth hl n).id) (by omega)) rfl rfl (fun i hi=>?_);(try dsimp only at hi))|fail)
  refine ⟨n+1,by omega,by omega,?_⟩
  refine ⟨rfl,?_,?_,rfl⟩
  repeat'(first|apply And.intro|exact ze0|refine ze1 ?_|refine zei ?_ ?_|exact rfl|trivial)
  all_goals exact Stop.mk (by first|rfl|(rw [hst];done)|(rw [hst];exact Qmb _ ⟨_,_,_⟩))
 ·obtain rfl:n=hl.length:=by omega
  rw [List.take_length] at *
  repeat' (first|refine zsr ?_|(refine zhm fun hb=>?_;try exact zab)|refine zg2 ?_ ?_|refine zln fun _=>?_|refine zop ?_|fail)
  show AWp _ _ _ _
  apply Qab
  refine zn () [500000,500001] (by exact trivial) ?_ ?_
  all_goals exact zae
theorem QueueP.left {a b:List Job} (h:QueueP (a++b)):QueueP a:=by
 have e:∀i,i<a.length→nth (a++b) i=nth a i:=fun i hi=>by
  rw [Qa8 (by simp;omega),Qa8 hi,List.getElem_append_left hi]
 have hl:=h.len
 rw [List.length_append] at hl
 refine ⟨by omega,fun i hi=>by rw [←e i hi];exact h.jobs i (by simp;omega),fun i hi k hk=>?_⟩
 rw [←e i hi,←e k (by omega)]
 exact h.diff i (by simp;omega) k hk
theorem Qit {s:State} (h:Qap s=true):∃r,StartP s r:=by
 have h':=pB_t.1 h
 obtain ⟨r,hr⟩:=Option.isSome_iff_exists.1 h'.room
 exact ⟨r,hr,h'.jobs.left,h'.depth⟩

noncomputable def Qx9 (s:State):State:=if Qap s=true then Qbq s else zS
end Go.Proofs.YtelbahebpmkfjaaGreat
namespace Go.Proofs.YtelbahebpmkfjaaGreat
open Go Go.RowKit
attribute [local irreducible] AWp Qat OpOk ACalls ChA QsOk MCalls EnC PY
def mH (k:Nat) (r:HeldS):HeldS:=⟨(k:Int),((k+1:Nat):Int),QbV (gI (k+2)) r.nodes.length⟩
@[reducible] def wH (r:HeldS):Nat:=2+r.nodes.length
end Go.Proofs.YtelbahebpmkfjaaGreat
namespace Go.Proofs.YtelbahebpmkfjaaGreat
open Go Go.RowKit
attribute [local irreducible] AWp Qat OpOk ACalls ChA QsOk MCalls NCalls EnC PY

theorem Qk9 {s:State} {r:Room} (h:StartP s r) (hs:Small 1048576 s) (hr:s.runs.length≤1000000):Small 1048576 (Qbq s):=by
 have hI:=QgH h.room
 obtain ⟨hP,_⟩:=h.strP (QcO s).1.length (Nat.le_refl _)
 rw [show Qbq s={ s with queue:=(runF s.now s.queue s.runs ((QcO s).1.take (QcO s).1.length)).1,runs:=(runF s.now s.queue s.runs ((QcO s).1.take (QcO s).1.length)).2 } by rw [List.take_length];rfl]
 have h1:=hP.len
 have h2:=hP.que
 have h3:=hI.len
 have h4:=Qb3 s.queue
 have h5:=h.queue.len
 refine ⟨hs.par,hs.nod,hs.up,by dsimp only;omega,by dsimp only;omega,hs.end',fun j hj=>?_⟩
 dsimp only at hj ⊢
 rcases hP.new _ (QaO hj) with h6|⟨x,hx,_,h6,_⟩
 ·obtain ⟨i,hi,e⟩:=QbB h6
  rw [←e]
  exact hs.rno i hi
 ·rw [h6]
  have:=(hI.st x (List.mem_of_mem_take hx)).2.2
  omega
theorem QfI {s:State} (h:Qap s=true):s.runs.length≤60:=by
 have:=(pB_t.1 h).jobs.len
 simp only [allJ,List.length_append,List.length_map] at this
 omega
theorem QvN {s:State} (hs:Small 100000000 s) (h:Qap s=true):ACalls Tryz.prog 99 [QaA s] [.row 0] [(0,.row 154 (Qel (QcO s).2) true)]:=by
 refine Qaa tt Tryz.func99 rfl rfl rfl (fun w0 Z=>?_)
 have c1:=Qca hs
 rw [h] at c1
 obtain ⟨r,hP⟩:=Qit h
 have c2:=Qgh (hs.mono (m:=1000000000) (by omega))
 rw [hP.room] at c2
 have c3:=QuN (depth:=s.depth) (Qdx hP.room) hP.queue hP.now hP.depth
 rw [←Qeb hP.room] at c3
 repeat' (first|refine zst ?_|(refine zhm fun hb=>?_;try exact zab)|refine zg2 ?_ ?_|refine zop ?_|refine kc (c1) rfl rfl ?_|(refine km [] (c2) rfl rfl (fun i hi=>?_);(try dsimp only at hi))|(refine km [] (c3) rfl rfl (fun i hi=>?_);(try dsimp only at hi))|fail)
 exact zr [1024] zae zae
noncomputable def Qaz (s:State):List HeldS:=if Qap s=true then (QcO s).2 else []
theorem QwN {s:State} (hs:Small 100000000 s):DC Tryz.prog 96 [QaA s] [.d (.sl (Qel (Qaz s)))]:=by
 refine Qag tt Tryz.func96 rfl rfl rfl trivial (fun _ _=>⟨trivial,trivial⟩) (fun w0 Z O=>?_)
 have c1:=QcD hs
 cases h:Qap s with
 | false=>
  rw [h] at c1
  rw [show Qaz s=[] from if_neg (by rw [h];decide)]
  repeat' (first|refine zsr ?_|(refine zhm fun hb=>?_;try exact zab)|refine zg2 ?_ ?_|refine zop ?_|refine kc (c1) rfl rfl ?_|fail)
  show AWp _ _ _ _
  refine Qac ?_
  apply Qab
  exact zm () [] trivial zae zae zae
 | true=>
  rw [h] at c1
  rw [show Qaz s=(QcO s).2 from if_pos h]
  obtain ⟨r,hP⟩:=Qit h
  have c2:=Qoi (hs.mono (m:=1000000000) (by omega))
  rw [hP.room] at c2
  have c3:=QuL (depth:=s.depth) (Qdx hP.room) hP.queue hP.now hP.depth
  rw [←Qeb hP.room] at c3
  repeat' (first|refine zsr ?_|(refine zhm fun hb=>?_;try exact zab)|refine zg2 ?_ ?_|refine zop ?_|refine kc (c1) rfl rfl ?_|(refine km [] (c2) rfl rfl (fun i hi=>?_);(try dsimp only at hi))|(refine km [] (c3) rfl rfl (fun i hi=>?_);(try dsimp only at hi))|fail)
  show AWp _ _ _ _
  refine Qac ?_
  apply Qab
  exact zm () [] trivial zae zae zae
end Go.Proofs.YtelbahebpmkfjaaGreat
