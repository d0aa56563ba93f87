/-
  A change of a profile is a profile; taking.
-/
import Derived.Test.YtelbahebpmkfjaaGreatKB10
set_option maxRecDepth 100000
set_option maxHeartbeats 16000000
namespace Go.Proofs.YtelbahebpmkfjaaGreat
open Go Go.RowKit

theorem Qe8 {l:List Pt} (h:ProfOk l) (t:Int):Qal (Qbo l t)=true:=by
 have key:∀n,n≤l.length→Qal (Qbo (l.take n) t)=true:=by
  intro n
  induction n with
  | zero=>intro _;rfl
  | succ n ih=>
   intro hn
   rw [Qc2 (by omega)]
   split
   ·exact (h.pts n (by omega)).2
   ·exact ih (by omega)
 have:=key l.length (Nat.le_refl _)
 rwa [List.take_length] at this
structure OutOk (out:List Pt) (ts:List Int):Prop where
 pts:∀j,j<out.length→(0≤(nth out j).at'∧(nth out j).at'≤1000000000)∧Qal (nth out j).free=true
 steps:∀j,j+1<out.length→(nth out j).at'<(nth out (j+1)).at'∧(nth out j).free≠(nth out (j+1)).free
 last:∀t∈ts,0<out.length→(nth out (out.length - 1)).at'<t
theorem QcI {α:Type} [Inhabited α] {l r:List α} {j:Nat} (h:j<l.length):nth (l++r) j=nth l j:=by
 simp [nth,List.getD,List.getElem?_append_left h]
theorem QdP {α:Type} [Inhabited α] {l:List α} {x:α}:nth (l++[x]) l.length=x:=by
 simp [nth,List.getD]
theorem Qn1 {out:List Pt} {t:Int} {ts:List Int} {v:V3} (h:OutOk out (t::ts)) (hr:risI (t::ts)) (ht:0≤t∧t≤1000000000) (hv:Qal v=true):OutOk (Qfy out t v) ts:=by
 unfold risI at hr
 rw [List.pairwise_cons] at hr
 unfold Qfy
 split
 ·rename_i hc
  refine ⟨fun j hj=>?_,fun j hj=>?_,fun u hu _=>?_⟩
  ·rw [List.length_append] at hj
   simp only [List.length_cons,List.length_nil] at hj
   by_cases e:j=out.length
   ·subst e;rw [QdP];exact ⟨ht,hv⟩
   ·rw [QcI (by omega)];exact h.pts j (by omega)
  ·rw [List.length_append] at hj
   simp only [List.length_cons,List.length_nil] at hj
   by_cases e:j+1=out.length
   ·rw [e,QdP,QcI (by omega)]
    have e2:j=out.length - 1:=by omega
    rw [e2]
    refine ⟨h.last t List.mem_cons_self (by omega),?_⟩
    rcases hc with rfl|hc
    ·simp at e
    ·exact hc
   ·rw [QcI (by omega),QcI (by omega)];exact h.steps j (by omega)
  ·rw [List.length_append]
   simp only [List.length_cons,List.length_nil,Nat.zero_add,Nat.add_sub_cancel]
   rw [QdP]
   exact hr.1 u hu
 ·exact ⟨h.pts,h.steps,fun u hu=>h.last u (List.mem_cons_of_mem _ hu)⟩
theorem Qsh (out:List Pt) (t:Int) (v:V3):∃s,Qfy out t v=out++s:=by
 unfold Qfy
 split
 ·exact ⟨_,rfl⟩
 ·exact ⟨[],by simp⟩
theorem QeW (out:List Pt) (t:Int) (v:V3):(Qfy out t v).length≤out.length+1:=by
 unfold Qfy;split <;> simp
theorem QiT {l:List Pt} {a b:Int} {by':V3→Option V3} (hp:ProfOk l) (hby:∀v u,Qal v=true→by' v=some u→Qal u=true):∀{ts:List Int} {out q:List Pt},risI ts→(∀t∈ts,0≤t∧t≤1000000000)→OutOk out ts→QdR l a b by' ts out=some q→
  OutOk q []∧(∃s,q=out++s)∧q.length≤out.length+ts.length
 | [],out,q,_,_,h,e=>by
  injection e with e
  subst e
  exact ⟨h,⟨[],by simp⟩,Nat.le_refl _⟩
 | t::ts,out,q,hr,ht,h,e=>by
  unfold QdR at e
  split at e
  ·cases e
  ·rename_i v hv
   have hvo:Qal v=true:=by
    unfold chgV at hv
    split at hv
    ·exact hby _ _ (Qe8 hp t) hv
    ·injection hv with hv;rw [←hv];exact Qe8 hp t
   have hr':=hr
   unfold risI at hr'
   rw [List.pairwise_cons] at hr'
   obtain ⟨g1,⟨s,g2⟩,g3⟩:=QiT hp hby hr'.2 (fun u hu=>ht u (List.mem_cons_of_mem _ hu)) (Qn1 h hr (ht t List.mem_cons_self) hvo) e
   obtain ⟨s',g4⟩:=Qsh out t v
   refine ⟨g1,⟨s'++s,by rw [g2,g4,List.append_assoc]⟩,?_⟩
   have:=QeW out t v
   rw [List.length_cons]
   omega
theorem Qoy {l:List Pt} {a b:Int} (hp:ProfOk l) (hs:QdT a b=true):(∀t∈QaI l a b,0≤t∧t≤1000000000)∧∃ts,QaI l a b=0::ts:=by
 obtain ⟨h1,h2,h3⟩:=QdC.1 hs
 obtain ⟨r1,r2⟩:=Qf4 hp a b
 have hin:∀t∈QaI l a b,0≤t∧t≤1000000000:=by
  intro t ht
  rcases (r2 t).1 ht with rfl|rfl|ht
  ·exact h2
  ·exact h1
  ·obtain ⟨p,hp',rfl⟩:=List.mem_map.1 ht
   obtain ⟨j,hj,rfl⟩:=QbB hp'
   exact (hp.pts j hj).1
 refine ⟨hin,?_⟩
 have h0:(0:Int)∈QaI l a b:=(r2 0).2 (.inr (.inr (List.mem_map.2 ⟨nth l 0,QaO (by have:=hp.len;omega),hp.zero⟩)))
 cases e:QaI l a b with
 | nil=>rw [e] at h0;cases h0
 | cons t ts=>
  refine ⟨ts,?_⟩
  rw [e] at h0 r1 hin
  unfold risI at r1
  rw [List.pairwise_cons] at r1
  rcases List.mem_cons.1 h0 with h0|h0
  ·rw [←h0]
  ·have:=r1.1 0 h0
   have:=(hin t List.mem_cons_self).1
   omega
theorem Qhz {t:Int}:∀{l:List Int},(insI t false l).length≤l.length+1∧(insI t true l).length≤l.length
 | []=>by simp [insI]
 | x::l=>by
  obtain ⟨h1,h2⟩:=Qhz (t:=t) (l:=l)
  simp only [insI,Bool.true_or,Bool.false_or]
  by_cases hx:t≤x <;> by_cases hy:x=t <;> simp [hx,hy] <;> omega
theorem Qiu {l:List Pt} {a b:Int}:(QaI l a b).length≤l.length+2:=by
 have h1:=(Qhz (t:=a) (l:=atsI l)).1
 have h2:=(Qhz (t:=b) (l:=insI a false (atsI l))).1
 have h3:(atsI l).length=l.length:=by simp [atsI]
 unfold QaI
 omega
theorem Qwd {l:List Pt} {a b:Int} {by':V3→Option V3} {q:List Pt} (hp:ProfOk l) (hs:QdT a b=true) (hby:∀v u,Qal v=true→by' v=some u→Qal u=true) (h:QdR l a b by' (QaI l a b) []=some q):q.length≤202:=by
 have:=(QiT hp hby (Qf4 hp a b).1 (Qoy hp hs).1 ⟨fun j hj=>absurd hj (Nat.not_lt_zero _),fun j hj=>absurd hj (Nat.not_lt_zero _),fun _ _ hj=>absurd hj (Nat.lt_irrefl _)⟩ h).2.2
 have h2:=Qiu (l:=l) (a:=a) (b:=b)
 have:=hp.len
 simp only [List.length_nil] at *
 omega
theorem Qu6 {l:List Pt} {a b:Int} {by':V3→Option V3} {q:List Pt} (hp:ProfOk l) (hs:QdT a b=true) (hby:∀v u,Qal v=true→by' v=some u→Qal u=true) (h:QdR l a b by' (QaI l a b) []=some q):Qbr q=decide (q.length≤200):=by
 obtain ⟨h1,ts,h2⟩:=Qoy hp hs
 have h3:=(Qf4 hp a b).1
 rw [h2] at h h1 h3
 unfold QdR at h
 split at h
 ·cases h
 ·rename_i v hv
  have hvo:Qal v=true:=by
   unfold chgV at hv
   split at hv
   ·exact hby _ _ (Qe8 hp 0) hv
   ·injection hv with hv;rw [←hv];exact Qe8 hp 0
  have h0:OutOk [] ((0:Int)::ts):=⟨fun j hj=>absurd hj (Nat.not_lt_zero _),fun j hj=>absurd hj (Nat.not_lt_zero _),fun _ _ hj=>absurd hj (Nat.lt_irrefl _)⟩
  have h3':=h3
  unfold risI at h3'
  rw [List.pairwise_cons] at h3'
  obtain ⟨g1,⟨s,g2⟩,_⟩:=QiT hp hby h3'.2 (fun u hu=>h1 u (List.mem_cons_of_mem _ hu)) (Qn1 h0 h3 (h1 0 List.mem_cons_self) hvo) h
  have g3:q=⟨0,v⟩::s:=by rw [g2];unfold Qfy;rw [if_pos (.inl rfl)];rfl
  rw [Bool.eq_iff_iff,Qbt,decide_eq_true_eq]
  constructor
  ·exact fun h=>h.len.2
  ·intro hl
   exact ⟨⟨by rw [g3];simp,hl⟩,by rw [g3];rfl,g1.pts,g1.steps⟩
theorem Qvs {l:List Pt} {a b:Int} {by':V3→Option V3} {q:List Pt} (hp:ProfOk l) (hs:QdT a b=true) (hby:∀v u,Qal v=true→by' v=some u→Qal u=true) (h:chgP l a b by'=some q):ProfOk q:=by
 unfold chgP at h
 cases e:QdR l a b by' (QaI l a b) [] with
 | none=>rw [e] at h;cases h
 | some r=>
  rw [e] at h
  simp only [Option.bind_some] at h
  split at h
  ·rename_i hl
   injection h with h
   subst h
   refine Qbt.1 ?_
   rw [Qu6 hp hs hby e,decide_eq_true_eq]
   exact hl
  ·cases h
theorem QjM {l:List Pt} {a b:Int} {by':V3→Option V3} {t:Int} (hv:chgV l a b by' t=none):∀{ts:List Int} {out:List Pt},t∈ts→QdR l a b by' ts out=none
 | u::ts,out,h=>by
  unfold QdR
  split
  ·rfl
  ·rename_i v hv'
   rcases List.mem_cons.1 h with rfl|h
   ·rw [hv] at hv';cases hv'
   ·exact QjM hv h
theorem Qnn {x v u:V3} (h:subO x v=some u):Qal u=true:=by
 unfold subO valO at h
 split at h
 ·rename_i hc
  injection h with h
  subst h
  simp only [Bool.and_eq_true] at hc
  exact hc.2.2
 ·cases h
noncomputable def Qd1 (l:List Pt) (a b:Int) (v:V3):Option (List Pt):=if (Qbr l&&QdT a b&&Qal v)=true then chgP l a b (fun x=>subO x v) else none
theorem QkN {l:List Pt} {a b:Int} {v:V3} {q:List Pt} (h:Qd1 l a b v=some q):ProfOk q:=by
 unfold Qd1 at h
 split at h
 ·rename_i hc
  simp only [Bool.and_eq_true] at hc
  exact Qvs (Qbt.1 hc.1.1) hc.1.2 (fun _ _ _=>Qnn) h
 ·cases h
theorem Qte {l:List Pt} {a b:Int} {v:V3} (hp:ProfOk l) (hs:QdT a b=true) (hv:Qal v=false):QdR l a b (fun x=>subO x v) (QaI l a b) []=none:=by
 refine QjM (t:=a) ?_ (((Qf4 hp a b).2 a).2 (.inr (.inl rfl)))
 unfold chgV
 rw [if_pos ⟨Int.le_refl _,(QdC.1 hs).2.2⟩]
 refine QuP ?_
 unfold Qem
 rw [hv]
 rfl
end Go.Proofs.YtelbahebpmkfjaaGreat
namespace Go.Proofs.YtelbahebpmkfjaaGreat
open Go Go.RowKit

abbrev DC (P:Program) (f:FuncId) (args rs:List AV):Prop:=MCalls P f args [] (fun _:Unit=>True) (fun _=>rs) (fun _=>[]) (fun _=>[])
abbrev SC (P:Program) (f:FuncId) (arg:AV) (x:Int) (p:Prop):Prop:=MCalls P f [arg,.d (.n .i64 x)] [] (fun y:Int=>(-1≤y∧y≤x)∧(0≤y→p)) (fun y=>[.d (.n .i64 y)]) (fun _=>[]) (fun _=>[])
theorem QhL (d:Nat) {X:Cx} {Q:Exit→AS→Prop} {σ:AS} {ι:Type} {r x y z:Code} (S:ι→AS) (ok:ι→Prop) (h1:AWp X (.seq r (.cond (.tmp d) x y)) (Qs2 (fun σ'=>∃j,ok j∧σ'.le (S j)) Q) σ) (h2:∀j,ok j→AWp X z Q (S j)):AWp X (.seq (.seq r (.cond (.tmp d) x y)) z) Q σ:=QvE S ok h1 h2
theorem Qaj (id p:Nat) {X:Cx} {Q:Exit→AS→Prop} {σ:AS} {ops:Array Oper} {dr:Bool} {e:TypeId} {es:List (List D)} {dp:Bool} (hp:Qam σ.ob p=some (.row e es dp)) (h:AWp X (.region id ops dr) Q (σ.frz p es)):AWp X (.region id ops dr) Q σ:=Qav p hp h
theorem QcN (id p:Nat) {X:Cx} {Q:Exit→AS→Prop} {σ:AS} {ops:Array Oper} {dr:Bool} {e:TypeId} {cs:List AV} {ds:List D} (hp:Qam σ.ob p=some (.box e cs)) (hds:QbX cs=some ds) (h:AWp X (.region id ops dr) Q (σ.fzb p ds)):AWp X (.region id ops dr) Q σ:=Qvh p hp hds h
end Go.Proofs.YtelbahebpmkfjaaGreat
namespace Go.Proofs.YtelbahebpmkfjaaGreat
open Go Go.RowKit

structure Room where
 topo:Topo
 up:List Bool
 profs:List (List Pt)
 lics:List Pt
def zR:Room:=⟨⟨[],[]⟩,[],[],[]⟩
def Qaw (l:List Bool):List (List D):=l.map fun b=>[.b b]
def QaU (l:List (List Pt)):List (List D):=l.map fun p=>[.sl (ptE p)]
theorem Qaq (l:List Bool):(Qaw l).length=l.length:=by simp [Qaw]
theorem Qan (l:List (List Pt)):(QaU l).length=l.length:=by simp [QaU]
@[reducible] def QgP (r:Room):List AV:=[.d (.sl (intE r.topo.parents)),.d (.sl (QaD r.topo.nodes)),.d (.sl (Qaw r.up)),.d (.sl (QaU r.profs)),.d (.sl (ptE r.lics))]
@[reducible] def QcC (r:Room):AV:=.agg (QgP r)
structure RoomOk (r:Room):Prop where
 topo:TopoOk r.topo
 up:r.up.length=r.topo.nodes.length
 num:r.profs.length=r.topo.nodes.length
 profs:∀j,j<r.profs.length→ProfOk (nth r.profs j)
 lics:ProfOk r.lics
noncomputable def Qsa (r:Room):Bool:=pB (RoomOk r)
structure DiffP (t:Topo) (j:Job) (l:List Int):Prop where
 nodes:Qbj t l
 diff:∀i,i<l.length→hasI (l.take i) (nth l i)=false
 num:(l.length:Int)=j.nodes
noncomputable def QeS (t:Topo) (j:Job) (l:List Int):Bool:=pB (DiffP t j l)
noncomputable def QiB (a b:Int) (v:V3):List Int→List (List Pt)→Option (List (List Pt))
 | [],ps=>some ps
 | n::ns,ps=>match Qd1 (nth ps n.toNat) a b v with
  | none=>none
  | some q=>QiB a b v ns (ps.set n.toNat q)
noncomputable def resO (r:Room) (j:Job) (a b:Int) (l:List Int):Option Room:=
 if (Qsa r&&Qau j&&QeS r.topo j l)=true then
  match QiB a b j.need l r.profs with
  | none=>none
  | some ps=>match Qd1 r.lics a b j.lic with
   | none=>none
   | some q=>some ⟨r.topo,r.up,ps,q⟩
 else none
theorem QsA {α:Type} [Inhabited α] {l:List α} {i j:Nat} {x:α} (h:i<l.length):nth (l.set i x) j=if i=j then x else nth l j:=by
 simp only [nth,List.getD,List.getElem?_set]
 by_cases e:i=j
 ·subst e;simp [h]
 ·simp [e]
theorem QoD {a b:Int} {v:V3}:∀{ns:List Int} {ps qs:List (List Pt)},(∀n∈ns,n.toNat<ps.length)→(∀j,j<ps.length→ProfOk (nth ps j))→QiB a b v ns ps=some qs→qs.length=ps.length∧∀j,j<qs.length→ProfOk (nth qs j)
 | [],ps,qs,_,h,e=>by injection e with e;subst e;exact ⟨rfl,h⟩
 | n::ns,ps,qs,hn,h,e=>by
  unfold QiB at e
  split at e
  ·cases e
  ·rename_i q hq
   have h1:=hn n List.mem_cons_self
   obtain ⟨g1,g2⟩:=QoD (ns:=ns) (ps:=ps.set n.toNat q) (qs:=qs) (fun m hm=>by rw [List.length_set];exact hn m (List.mem_cons_of_mem _ hm)) (fun j hj=>by
    rw [List.length_set] at hj
    rw [QsA h1]
    split
    ·exact QkN hq
    ·exact h j hj) e
   rw [List.length_set] at g1
   exact ⟨g1,g2⟩
theorem Qwb {t:Topo} {j:Job} {l:List Int} (h:DiffP t j l) {n:Int} (hn:n∈l):n.toNat<t.nodes.length:=by
 obtain ⟨i,hi,e⟩:=QbB hn
 have:=h.nodes i hi
 omega
theorem Qnf {r r':Room} {j:Job} {a b:Int} {l:List Int} (h:resO r j a b l=some r'):RoomOk r'∧r'.topo=r.topo∧r'.up=r.up∧DiffP r.topo j l∧Qau j=true:=by
 unfold resO at h
 split at h
 ·rename_i hc
  simp only [Bool.and_eq_true] at hc
  obtain ⟨⟨h1,h2⟩,h3⟩:=hc
  have h1:=pB_t.1 h1
  have h3:=pB_t.1 h3
  split at h
  ·cases h
  ·rename_i ps hps
   split at h
   ·cases h
   ·rename_i q hq
    injection h with h
    subst h
    obtain ⟨g1,g2⟩:=QoD (fun n hn=>by rw [h1.num];exact Qwb h3 hn) h1.profs hps
    exact ⟨⟨h1.topo,h1.up,by rw [g1];exact h1.num,g2,QkN hq⟩,rfl,rfl,h3,h2⟩
 ·cases h
structure Run where
 job:Job
 at':Int
 nodes:List Int
structure EndS where
 id:Int
 at':Int
 why:Int
structure State where
 topo:Topo
 up:List Bool
 lic:V3
 depth:Int
 now:Int
 queue:List Job
 runs:List Run
 ends:List EndS
instance:Inhabited Job:=⟨⟨0,0,0,zV,zV,0,0⟩⟩
instance:Inhabited Run:=⟨⟨default,0,[]⟩⟩
instance:Inhabited EndS:=⟨⟨0,0,0⟩⟩
@[reducible] def jobD (j:Job):List D:=[.n .i64 j.id,.n .i64 j.prio,.n .i64 j.nodes,.n .i64 j.need.a,.n .i64 j.need.b,.n .i64 j.need.c,.n .i64 j.lic.a,.n .i64 j.lic.b,.n .i64 j.lic.c,.n .i64 j.wall,.n .i64 j.level]
def jobE (l:List Job):List (List D):=l.map fun j=>[.n .i64 j.id,.n .i64 j.prio,.n .i64 j.nodes,.n .i64 j.need.a,.n .i64 j.need.b,.n .i64 j.need.c,.n .i64 j.lic.a,.n .i64 j.lic.b,.n .i64 j.lic.c,.n .i64 j.wall,.n .i64 j.level]
def runE (l:List Run):List (List D):=l.map fun r=>[.n .i64 r.job.id,.n .i64 r.job.prio,.n .i64 r.job.nodes,.n .i64 r.job.need.a,.n .i64 r.job.need.b,.n .i64 r.job.need.c,.n .i64 r.job.lic.a,.n .i64 r.job.lic.b,.n .i64 r.job.lic.c,.n .i64 r.job.wall,.n .i64 r.job.level,.n .i64 r.at',.sl (intE r.nodes)]
def endE (l:List EndS):List (List D):=l.map fun e=>[.n .i64 e.id,.n .i64 e.at',.n .i64 e.why]
theorem Qak (l:List Job):(jobE l).length=l.length:=by simp [jobE]
theorem Qah (l:List Run):(runE l).length=l.length:=by simp [runE]
theorem QaC (l:List EndS):(endE l).length=l.length:=by simp [endE]
@[reducible] def Qbw (s:State):List AV:=[.d (.sl (intE s.topo.parents)),.d (.sl (QaD s.topo.nodes)),.d (.sl (Qaw s.up)),.d (.n .i64 s.lic.a),.d (.n .i64 s.lic.b),.d (.n .i64 s.lic.c),.d (.n .i64 s.depth),.d (.n .i64 s.now),.d (.sl (jobE s.queue)),.d (.sl (runE s.runs)),.d (.sl (endE s.ends))]
@[reducible] def QaA (s:State):AV:=.agg (Qbw s)
structure Small (n:Nat) (s:State):Prop where
 par:s.topo.parents.length≤n
 nod:s.topo.nodes.length≤n
 up:s.up.length≤n
 que:s.queue.length≤n
 run:s.runs.length≤n
 end':s.ends.length≤n
 rno:∀j,j<s.runs.length→(nth s.runs j).nodes.length≤n
def Qa5 (t:Topo) (up:List Bool) (lic:V3):Room:=⟨t,up,t.nodes.map fun n=>[⟨0,n.cap⟩],[⟨0,lic⟩]⟩
def runB (now:Int) (x:Run):Bool:=Qau x.job&&inB x.at' 0 now&&inB (x.at'+x.job.wall) (now+1) 1000000000
noncomputable def Qdp (now:Int):List Run→Room→Option Room
 | [],r=>some r
 | x::xs,r=>if runB now x=true then match resO r x.job now (x.at'+x.job.wall) x.nodes with
  | none=>none
  | some r'=>Qdp now xs r'
  else none
structure BaseP (s:State):Prop where
 topo:TopoOk s.topo
 up:s.up.length=s.topo.nodes.length
 lic:Qal s.lic=true
 now:0≤s.now∧s.now≤1000000000
noncomputable def Qbu (s:State):Option Room:=if pB (BaseP s)=true then Qdp s.now s.runs (Qa5 s.topo s.up s.lic) else none
theorem QuV {v:V3} (h:Qal v=true):ProfOk [⟨0,v⟩]:=by
 refine ⟨⟨Nat.le_refl _,by simp⟩,rfl,fun j hj=>?_,fun j hj=>?_⟩
 ·have:j=0:=by simpa using hj
  subst this
  exact ⟨⟨Int.le_refl _,(by decide:(0:Int)≤1000000000)⟩,h⟩
 ·simp at hj
theorem QdM {t:Topo} {up:List Bool} {lic:V3} (h:TopoOk t) (hu:up.length=t.nodes.length) (hl:Qal lic=true):RoomOk (Qa5 t up lic):=by
 refine ⟨h,hu,by simp [Qa5],fun j hj=>?_,QuV hl⟩
 simp only [Qa5,List.length_map] at hj
 have e:nth (Qa5 t up lic).profs j=[⟨0,(nth t.nodes j).cap⟩]:=by
  simp [Qa5,nth,List.getD,hj]
 rw [e]
 exact QuV (h.nodes j hj).2.2
theorem Qlm {now:Int}:∀{xs:List Run} {r r':Room},RoomOk r→Qdp now xs r=some r'→RoomOk r'∧r'.topo=r.topo∧r'.up=r.up∧∀x∈xs,runB now x=true∧DiffP r.topo x.job x.nodes
 | [],r,r',h,e=>by injection e with e;subst e;exact ⟨h,rfl,rfl,fun x hx=>by cases hx⟩
 | x::xs,r,r',h,e=>by
  unfold Qdp at e
  split at e
  ·rename_i hb
   split at e
   ·cases e
   ·rename_i r1 h1
    obtain ⟨g1,g2,g3,g4,g5⟩:=Qnf h1
    obtain ⟨k1,k2,k3,k4⟩:=Qlm g1 e
    rw [g2] at k2 k4
    rw [g3] at k3
    refine ⟨k1,k2,k3,fun y hy=>?_⟩
    rcases List.mem_cons.1 hy with rfl|hy
    ·exact ⟨hb,g4⟩
    ·exact k4 y hy
  ·cases e
theorem Qed {s:State} {r:Room} (h:Qbu s=some r):RoomOk r∧r.topo=s.topo∧r.up=s.up∧BaseP s∧∀x∈s.runs,runB s.now x=true∧DiffP s.topo x.job x.nodes:=by
 unfold Qbu at h
 split at h
 ·rename_i hb
  have hb:=pB_t.1 hb
  obtain ⟨k1,k2,k3,k4⟩:=Qlm (QdM hb.topo hb.up hb.lic) h
  exact ⟨k1,k2,k3,hb,k4⟩
 ·cases h
structure QueueP (l:List Job):Prop where
 len:l.length≤60
 jobs:∀i,i<l.length→Qau (nth l i)=true
 diff:∀i,i<l.length→∀k,k<i→(nth l k).id≠(nth l i).id
noncomputable def Qb1 (l:List Job):Bool:=pB (QueueP l)
def allJ (s:State):List Job:=s.queue++s.runs.map Run.job
structure RunP (s:State) (x:Run):Prop where
 up:∀i,i<x.nodes.length→nth s.up (nth x.nodes i).toNat=true
 asc:ascP x.nodes
 level:lvl s.topo.parents (lowI s.topo x.nodes).toNat≤x.job.level
def endB (now:Int) (e:EndS):Bool:=inB e.id 1 999&&inB e.at' 0 now&&inB e.why 1 4
structure StateP (s:State):Prop where
 room:(Qbu s).isSome=true
 depth:0≤s.depth∧s.depth≤60
 jobs:QueueP (allJ s)
 ends:s.ends.length≤300
 runs:∀j,j<s.runs.length→RunP s (nth s.runs j)
 endsOk:∀j,j<s.ends.length→endB s.now (nth s.ends j)=true
noncomputable def Qap (s:State):Bool:=pB (StateP s)
end Go.Proofs.YtelbahebpmkfjaaGreat
