/-
  A change of a profile is a profile; taking.
-/
import Derived.Test.YtkdniahincpmaaaGreatKB10
set_option maxRecDepth 100000
set_option maxHeartbeats 16000000
namespace Go.Proofs.YtkdniahincpmaaaGreat
open Go Go.RowKit Tryz
section

theorem Y3{l:List Pt}(h:Jy l)(t:Int):Qf (QL l t)=true:=by
 have b:∀n,n<=l.length->Qf (QL (l.take n) t)=true:=by
  intro n
  induction n with
  | zero=>intro _;rfl
  | succ n ih=>
   intro hn
   rw[WV (by omega)]
   split
   ·exact(h.pts n (by omega)).2
   ·exact ih (by omega)
 have:=b l.length (Xaj _)
 rwa [Xak]at this
structure Qr4 (out:List Pt) (ts:List Int):Prop where
 pts:∀j,j<out.length->(0<=(nth out j).at'/\(nth out j).at'<=1000000000)/\Qf (nth out j).free=true
 steps:∀j,j+1<out.length->(nth out j).at'<(nth out (j+1)).at'/\(nth out j).free≠(nth out (j+1)).free
 last:∀t∈ts,0<out.length->(nth out (out.length-1)).at'<t
theorem Wy{α:Type}[Inhabited α]{l r:List α}{j:Nat}(h:j<l.length):nth (l++r) j=nth l j:=by
 simp[nth,List.getD,List.getElem?_append_left h]
theorem W2{α:Type}[Inhabited α]{l:List α}{x:α}:nth (l++[x]) l.length=x:=by
 simp[nth,List.getD]
theorem Ql8{out:List Pt}{t:Int}{ts:List Int}{v:V3}(h:Qr4 out (t::ts))(hr:risI (t::ts))(ht:0<=t/\t<=1000000000)(hv:Qf v=true):Qr4 (V1 out t v) ts:=by
 unfold risI at hr
 rw[Xav]at hr
 unfold V1
 split
 ·rename_i a
  refine⟨fun j hj=>?_,fun j hj=>?_,fun u hu _=>?_⟩
  ·rw[Xaa]at hj
   simp only[Xao,XaA]at hj
   by_cases e:j=out.length
   ·subst e;rw[W2];exact⟨ht,hv⟩
   ·rw[Wy (by omega)];exact h.pts j (by omega)
  ·rw[Xaa]at hj
   simp only[Xao,XaA]at hj
   by_cases e:j+1=out.length
   ·rw[e,W2,Wy (by omega)]
    have b:j=out.length-1:=by omega
    rw[b]
    refine⟨h.last t Xac (by omega),?_⟩
    rcases a with rfl|a
    ·simp at e
    ·exact a
   ·rw[Wy (by omega),Wy (by omega)];exact h.steps j (by omega)
  ·rw[Xaa]
   simp only[Xao,XaA,Xa8,XbX]
   rw[W2]
   exact hr.1 u hu
 ·exact⟨h.pts,h.steps,fun u hu=>h.last u (Xae _ hu)⟩
theorem QpZ(out:List Pt)(t:Int)(v:V3):∃s,V1 out t v=out++s:=by
 unfold V1
 split
 ·exact⟨_,rfl⟩
 ·exact⟨[],by simp⟩
theorem V7(out:List Pt)(t:Int)(v:V3):(V1 out t v).length<=out.length+1:=by
 unfold V1;split <;> simp
theorem Qe6{l:List Pt}{a b:Int}{by':V3->Option V3}(hp:Jy l)(hby:∀v u,Qf v=true->by' v=some u->Qf u=true):∀{ts:List Int} {out q:List Pt},risI ts->(∀t∈ts,0<=t/\t<=1000000000)->Qr4 out ts->Vf l a b by' ts out=some q->
  Qr4 q []/\(∃s,q=out++s)/\q.length<=out.length+ts.length
 | [],out,q,_,_,h,e=>by
  injection e with e
  subst e
  exact⟨h,⟨[],by simp⟩,Xaj _⟩
 | t::ts,out,q,hr,ht,h,e=>by
  unfold Vf at e
  split at e
  ·cases e
  ·rename_i v hv
   have hvo:Qf v=true:=by
    unfold chgV at hv
    split at hv
    ·exact hby _ _ (Y3 hp t) hv
    ·injection hv with hv;rw[<-hv];exact Y3 hp t
   have hr':=hr
   unfold risI at hr'
   rw[Xav]at hr'
   obtain⟨g1,⟨s,g2⟩,g3⟩:=Qe6 hp hby hr'.2 (fun u hu=>ht u (Xae _ hu)) (Ql8 h hr (ht t Xac) hvo) e
   obtain⟨s',g4⟩:=QpZ out t v
   refine⟨g1,⟨s'++s,by rw[g2,g4,Xaq]⟩,?_⟩
   have:=V7 out t v
   rw[Xao]
   omega
theorem Qg0{l:List Pt}{a b:Int}(hp:Jy l)(hs:Vx a b=true):(∀t∈QM l a b,0<=t/\t<=1000000000)/\∃ts,QM l a b=0::ts:=by
 obtain⟨k,m,h3⟩:=W4.1 hs
 obtain⟨f,i⟩:=XI hp a b
 have d:∀t∈QM l a b,0<=t/\t<=1000000000:=by
  intro t h
  rcases(i t).1 h with rfl|rfl|h
  ·exact m
  ·exact k
  ·obtain⟨p,g,rfl⟩:=Xaf.1 h
   obtain⟨j,n,rfl⟩:=Jo g
   exact(hp.pts j n).1
 refine⟨d,?_⟩
 have c:(0:Int)∈QM l a b:=(i 0).2 (.inr (.inr (Xaf.2 ⟨nth l 0,QC (by have:=hp.len;omega),hp.zero⟩)))
 cases e:QM l a b with
 | nil=>rw[e]at c;cases c
 | cons t ts=>
  refine⟨ts,?_⟩
  rw[e]at c f d
  unfold risI at f
  rw[Xav]at f
  rcases Xai.1 c with c|c
  ·rw[<-c]
  ·have:=f.1 0 c
   have:=(d t Xac).1
   omega
theorem QdC{t:Int}:∀{l:List Int},(insI t false l).length<=l.length+1/\(insI t true l).length<=l.length
 | []=>by simp[insI]
 | x::l=>by
  obtain⟨h1,h2⟩:=QdC (t:=t) (l:=l)
  simp only[insI,XcQ,XcF]
  by_cases hx:t<=x <;> by_cases hy:x=t <;> simp[hx,hy] <;> omega
theorem Qbc{l:List Pt}{a b:Int}:(QM l a b).length<=l.length+2:=by
 have h1:=(QdC (t:=a) (l:=atsI l)).1
 have h2:=(QdC (t:=b) (l:=insI a false (atsI l))).1
 have h3:(atsI l).length=l.length:=by simp[atsI]
 unfold QM
 omega
theorem QvG{l:List Pt}{a b:Int}{by':V3->Option V3}{q:List Pt}(hp:Jy l)(hs:Vx a b=true)(hby:∀v u,Qf v=true->by' v=some u->Qf u=true)(h:Vf l a b by' (QM l a b) []=some q):q.length<=202:=by
 have:=(Qe6 hp hby (XI hp a b).1 (Qg0 hp hs).1 ⟨fun j hj=>absurd hj (Xar _),fun j hj=>absurd hj (Xar _),fun _ _ hj=>absurd hj (Nat.lt_irrefl _)⟩ h).2.2
 have h2:=Qbc (l:=l) (a:=a) (b:=b)
 have:=hp.len
 simp only[XaA]at *
 omega
theorem QuK{l:List Pt}{a b:Int}{by':V3->Option V3}{q:List Pt}(hp:Jy l)(hs:Vx a b=true)(hby:∀v u,Qf v=true->by' v=some u->Qf u=true)(h:Vf l a b by' (QM l a b) []=some q):JS q=decide (q.length<=200):=by
 obtain⟨e,r,o⟩:=Qg0 hp hs
 have f:=(XI hp a b).1
 rw[o]at h e f
 unfold Vf at h
 split at h
 ·cases h
 ·rename_i v d
  have g:Qf v=true:=by
   unfold chgV at d
   split at d
   ·exact hby _ _ (Y3 hp 0) d
   ·injection d with d;rw[<-d];exact Y3 hp 0
  have n:Qr4 [] ((0:Int)::r):=⟨fun j hj=>absurd hj (Xar _),fun j hj=>absurd hj (Xar _),fun _ _ hj=>absurd hj (Nat.lt_irrefl _)⟩
  have c:=f
  unfold risI at c
  rw[Xav]at c
  obtain⟨i,⟨s,m⟩,_⟩:=Qe6 hp hby c.2 (fun u hu=>e u (Xae _ hu)) (Ql8 n f (e 0 Xac) g) h
  have k:q=⟨0,v⟩::s:=by rw[m];unfold V1;rw[if_pos (.inl rfl)];rfl
  rw[Xam,JH,decide_eq_true_eq]
  constructor
  ·exact fun h=>h.len.2
  ·intro p
   exact⟨⟨by rw[k];simp,p⟩,by rw[k];rfl,i.pts,i.steps⟩
theorem QwH{l:List Pt}{a b:Int}{by':V3->Option V3}{q:List Pt}(hp:Jy l)(hs:Vx a b=true)(hby:∀v u,Qf v=true->by' v=some u->Qf u=true)(h:chgP l a b by'=some q):Jy q:=by
 unfold chgP at h
 cases e:Vf l a b by' (QM l a b) [] with
 | none=>rw[e]at h;cases h
 | some r=>
  rw[e]at h
  simp only[Xbi]at h
  split at h
  ·rename_i c
   injection h with h
   subst h
   refine JH.1 ?_
   rw[QuK hp hs hby e,decide_eq_true_eq]
   exact c
  ·cases h
theorem QfY{l:List Pt}{a b:Int}{by':V3->Option V3}{t:Int}(hv:chgV l a b by' t=none):∀{ts:List Int} {out:List Pt},t∈ts->Vf l a b by' ts out=none
 | u::ts,out,h=>by
  unfold Vf
  split
  ·rfl
  ·rename_i v hv'
   rcases Xai.1 h with rfl|h
   ·rw[hv]at hv';cases hv'
   ·exact QfY hv h
theorem QkO{x v u:V3}(h:subO x v=some u):Qf u=true:=by
 unfold subO valO at h
 split at h
 ·rename_i c
  injection h with h
  subst h
  simp only[Xab]at c
  exact c.2.2
 ·cases h
noncomputable def Vn (l:List Pt) (a b:Int) (v:V3):Option (List Pt):=if(JS l&&Vx a b&&Qf v)=true then chgP l a b (fun x=>subO x v)else none
theorem QgW{l:List Pt}{a b:Int}{v:V3}{q:List Pt}(h:Vn l a b v=some q):Jy q:=by
 unfold Vn at h
 split at h
 ·rename_i c
  simp only[Xab]at c
  exact QwH (JH.1 c.1.1) c.1.2 (fun _ _ _=>QkO) h
 ·cases h
theorem Qs1{l:List Pt}{a b:Int}{v:V3}(hp:Jy l)(hs:Vx a b=true)(hv:Qf v=false):Vf l a b (fun x=>subO x v) (QM l a b) []=none:=by
 refine QfY (t:=a) ?_ (((XI hp a b).2 a).2 (.inr (.inl rfl)))
 unfold chgV
 rw[if_pos ⟨Xbe _,(W4.1 hs).2.2⟩]
 refine Quu ?_
 unfold Vk
 rw[hv]
 rfl

abbrev DC(P:Program)(f:FuncId)(args rs:List AV):Prop:=MCalls P f args [] (fun _:Unit=>True) (fun _=>rs) (fun _=>[]) (fun _=>[])
abbrev SC(P:Program)(f:FuncId)(arg:AV)(x:Int)(p:Prop):Prop:=MCalls P f [arg,zI x] [] (fun y:Int=>(-1<=y/\y<=x)/\(0<=y->p)) (fun y=>[zI y]) (fun _=>[]) (fun _=>[])
theorem Qdk(d:Nat){X:Cx}{Q:Exit->AS->Prop}{σ:AS}{ι:Type}{r x y z:Code}(S:ι->AS)(ok:ι->Prop)(h1:AWp X (.seq r (.cond (.tmp d) x y)) (Qst (fun σ'=>∃j,ok j/\σ'.le (S j)) Q) σ)(h2:∀j,ok j->AWp X z Q (S j)):AWp X (.seq (.seq r (.cond (.tmp d) x y)) z) Q σ:=Qvo S ok h1 h2
theorem Qh(id p:Nat){X:Cx}{Q:Exit->AS->Prop}{σ:AS}{ops:Array Oper}{dr:Bool}{e:TypeId}{es:List (List D)}{dp:Bool}(hp:Qn σ.ob p=some (.row e es dp))(h:AWp X (.region id ops dr) Q (σ.frz p es)):AWp X (.region id ops dr) Q σ:=Qr p hp h
theorem Wp(id p:Nat){X:Cx}{Q:Exit->AS->Prop}{σ:AS}{ops:Array Oper}{dr:Bool}{e:TypeId}{cs:List AV}{ds:List D}(hp:Qn σ.ob p=some (.box e cs))(hds:WU cs=some ds)(h:AWp X (.region id ops dr) Q (σ.fzb p ds)):AWp X (.region id ops dr) Q σ:=Qwu p hp hds h

structure Jm where
 topo:QT
 up:List Bool
 profs:List (List Pt)
 lics:List Pt
def zR:Jm:=⟨⟨[],[]⟩,[],[],[]⟩
def Qp(l:List Bool):List (List D):=l.map fun b=>[.b b]
def Q8(l:List (List Pt)):List (List D):=l.map fun p=>[.sl (ptE p)]
theorem Qx(l:List Bool):(Qp l).length=l.length:=by simp[Qp]
theorem QB(l:List (List Pt)):(Q8 l).length=l.length:=by simp[Q8]
@[reducible] def Qb5 (r:Jm):List AV:=[zL (intE r.topo.parents),zL (Qw r.topo.nodes),zL (Qp r.up),zL (Q8 r.profs),zL (ptE r.lics)]
@[reducible] def Wq (r:Jm):AV:=.agg (Qb5 r)
structure Q4 (r:Jm):Prop where
 topo:QW r.topo
 up:r.up.length=r.topo.nodes.length
 num:r.profs.length=r.topo.nodes.length
 profs:∀j,j<r.profs.length->Jy (nth r.profs j)
 lics:Jy r.lics
noncomputable def Qj9 (r:Jm):Bool:=pB (Q4 r)
structure Qc9 (t:QT) (j:Job) (l:List Int):Prop where
 nodes:Jp t l
 diff:∀i,i<l.length->hasI (l.take i) (nth l i)=false
 num:(l.length:Int)=j.nodes
noncomputable def Xc (t:QT) (j:Job) (l:List Int):Bool:=pB (Qc9 t j l)
noncomputable def QaM (a b:Int) (v:V3):List Int->List (List Pt)->Option (List (List Pt))
 | [],ps=>some ps
 | n::ns,ps=>match Vn (nth ps n.toNat) a b v with
  | none=>none
  | some q=>QaM a b v ns (ps.set n.toNat q)
noncomputable def resO (r:Jm) (j:Job) (a b:Int) (l:List Int):Option Jm:=
 if(Qj9 r&&Qk j&&Xc r.topo j l)=true then
  match QaM a b j.need l r.profs with
  | none=>none
  | some ps=>match Vn r.lics a b j.lic with
   | none=>none
   | some q=>some ⟨r.topo,r.up,ps,q⟩
 else none
theorem Qcx{α:Type}[Inhabited α]{l:List α}{i j:Nat}{x:α}(h:i<l.length):nth (l.set i x) j=if i=j then x else nth l j:=by
 simp only[nth,List.getD,List.getElem?_set]
 by_cases e:i=j
 ·subst e;simp[h]
 ·simp[e]
theorem Qm0{a b:Int}{v:V3}:∀{ns:List Int} {ps qs:List (List Pt)},(∀n∈ns,n.toNat<ps.length)->(∀j,j<ps.length->Jy (nth ps j))->QaM a b v ns ps=some qs->qs.length=ps.length/\∀j,j<qs.length->Jy (nth qs j)
 | [],ps,qs,_,h,e=>by injection e with e;subst e;exact⟨rfl,h⟩
 | n::ns,ps,qs,hn,h,e=>by
  unfold QaM at e
  split at e
  ·cases e
  ·rename_i q hq
   have h1:=hn n Xac
   obtain⟨g1,g2⟩:=Qm0 (ns:=ns) (ps:=ps.set n.toNat q) (qs:=qs) (fun m hm=>by rw[XaM];exact hn m (Xae _ hm)) (fun j hj=>by
    rw[XaM]at hj
    rw[Qcx h1]
    split
    ·exact QgW hq
    ·exact h j hj) e
   rw[XaM]at g1
   exact⟨g1,g2⟩
theorem Qvn{t:QT}{j:Job}{l:List Int}(h:Qc9 t j l){n:Int}(hn:n∈l):n.toNat<t.nodes.length:=by
 obtain⟨i,a,e⟩:=Jo hn
 have:=h.nodes i a
 omega
theorem XM{r r':Jm}{j:Job}{a b:Int}{l:List Int}(h:resO r j a b l=some r'):Q4 r'/\r'.topo=r.topo/\r'.up=r.up/\Qc9 r.topo j l/\Qk j=true:=by
 unfold resO at h
 split at h
 ·rename_i i
  simp only[Xab]at i
  obtain⟨⟨d,o⟩,f⟩:=i
  have d:=pB_t.1 d
  have f:=pB_t.1 f
  split at h
  ·cases h
  ·rename_i ps g
   split at h
   ·cases h
   ·rename_i q p
    injection h with h
    subst h
    obtain⟨k,m⟩:=Qm0 (fun n hn=>by rw[d.num];exact Qvn f hn) d.profs g
    exact⟨⟨d.topo,d.up,by rw[k];exact d.num,m,QgW p⟩,rfl,rfl,f,o⟩
 ·cases h
structure Run where
 job:Job
 at':Int
 nodes:List Int
structure QjS where
 id:Int
 at':Int
 why:Int
structure Qb where
 topo:QT
 up:List Bool
 lic:V3
 depth:Int
 now:Int
 queue:List Job
 runs:List Run
 ends:List QjS
instance:Inhabited Job:=⟨⟨0,0,0,zV,zV,0,0⟩⟩
instance:Inhabited Run:=⟨⟨default,0,[]⟩⟩
instance:Inhabited QjS:=⟨⟨0,0,0⟩⟩
@[reducible] def jobD (j:Job):List D:=[.n .i64 j.id,.n .i64 j.prio,.n .i64 j.nodes,.n .i64 j.need.a,.n .i64 j.need.b,.n .i64 j.need.c,.n .i64 j.lic.a,.n .i64 j.lic.b,.n .i64 j.lic.c,.n .i64 j.wall,.n .i64 j.level]
def jobE(l:List Job):List (List D):=l.map fun j=>[.n .i64 j.id,.n .i64 j.prio,.n .i64 j.nodes,.n .i64 j.need.a,.n .i64 j.need.b,.n .i64 j.need.c,.n .i64 j.lic.a,.n .i64 j.lic.b,.n .i64 j.lic.c,.n .i64 j.wall,.n .i64 j.level]
def runE(l:List Run):List (List D):=l.map fun r=>[.n .i64 r.job.id,.n .i64 r.job.prio,.n .i64 r.job.nodes,.n .i64 r.job.need.a,.n .i64 r.job.need.b,.n .i64 r.job.need.c,.n .i64 r.job.lic.a,.n .i64 r.job.lic.b,.n .i64 r.job.lic.c,.n .i64 r.job.wall,.n .i64 r.job.level,.n .i64 r.at',.sl (intE r.nodes)]
def endE(l:List QjS):List (List D):=l.map fun e=>[.n .i64 e.id,.n .i64 e.at',.n .i64 e.why]
theorem Ql(l:List Job):(jobE l).length=l.length:=by simp[jobE]
theorem Qg(l:List Run):(runE l).length=l.length:=by simp[runE]
theorem QO(l:List QjS):(endE l).length=l.length:=by simp[endE]
@[reducible] def Q3 (s:Qb):List AV:=[zL (intE s.topo.parents),zL (Qw s.topo.nodes),zL (Qp s.up),zI s.lic.a,zI s.lic.b,zI s.lic.c,zI s.depth,zI s.now,zL (jobE s.queue),zL (runE s.runs),zL (endE s.ends)]
@[reducible] def Qt (s:Qb):AV:=.agg (Q3 s)
structure Qj (n:Nat) (s:Qb):Prop where
 par:s.topo.parents.length<=n
 nod:s.topo.nodes.length<=n
 up:s.up.length<=n
 que:s.queue.length<=n
 run:s.runs.length<=n
 end':s.ends.length<=n
 rno:∀j,j<s.runs.length->(nth s.runs j).nodes.length<=n
def Jd(t:QT)(up:List Bool)(lic:V3):Jm:=⟨t,up,t.nodes.map fun n=>[⟨0,n.cap⟩],[⟨0,lic⟩]⟩
def runB(now:Int)(x:Run):Bool:=Qk x.job&&inB x.at' 0 now&&inB (x.at'+x.job.wall) (now+1) 1000000000
noncomputable def Wt (now:Int):List Run->Jm->Option Jm
 | [],r=>some r
 | x::xs,r=>if runB now x=true then match resO r x.job now (x.at'+x.job.wall) x.nodes with
  | none=>none
  | some r'=>Wt now xs r'
  else none
structure Qda (s:Qb):Prop where
 topo:QW s.topo
 up:s.up.length=s.topo.nodes.length
 lic:Qf s.lic=true
 now:0<=s.now/\s.now<=1000000000
noncomputable def Jg (s:Qb):Option Jm:=if pB (Qda s)=true then Wt s.now s.runs (Jd s.topo s.up s.lic)else none
theorem QuG{v:V3}(h:Qf v=true):Jy [⟨0,v⟩]:=by
 refine⟨⟨Xaj _,by simp⟩,rfl,fun j hj=>?_,fun j hj=>?_⟩
 ·have:j=0:=by simpa using hj
  subst this
  exact⟨⟨Xbe _,(by decide:(0:Int)<=1000000000)⟩,h⟩
 ·simp at hj
theorem W3{t:QT}{up:List Bool}{lic:V3}(h:QW t)(hu:up.length=t.nodes.length)(hl:Qf lic=true):Q4 (Jd t up lic):=by
 refine⟨h,hu,by simp[Jd],fun j hj=>?_,QuG hl⟩
 simp only[Jd,XaB]at hj
 have e:nth (Jd t up lic).profs j=[⟨0,(nth t.nodes j).cap⟩]:=by
  simp[Jd,nth,List.getD,hj]
 rw[e]
 exact QuG (h.nodes j hj).2.2
theorem Qju{now:Int}:∀{xs:List Run} {r r':Jm},Q4 r->Wt now xs r=some r'->Q4 r'/\r'.topo=r.topo/\r'.up=r.up/\∀x∈xs,runB now x=true/\Qc9 r.topo x.job x.nodes
 | [],r,r',h,e=>by injection e with e;subst e;exact⟨h,rfl,rfl,fun x hx=>by cases hx⟩
 | x::xs,r,r',h,e=>by
  unfold Wt at e
  split at e
  ·rename_i hb
   split at e
   ·cases e
   ·rename_i r1 h1
    obtain⟨g1,g2,g3,g4,g5⟩:=XM h1
    obtain⟨k1,k2,k3,k4⟩:=Qju g1 e
    rw[g2]at k2 k4
    rw[g3]at k3
    refine⟨k1,k2,k3,fun y hy=>?_⟩
    rcases Xai.1 hy with rfl|hy
    ·exact⟨hb,g4⟩
    ·exact k4 y hy
  ·cases e
theorem Yo{s:Qb}{r:Jm}(h:Jg s=some r):Q4 r/\r.topo=s.topo/\r.up=s.up/\Qda s/\∀x∈s.runs,runB s.now x=true/\Qc9 s.topo x.job x.nodes:=by
 unfold Jg at h
 split at h
 ·rename_i hb
  have hb:=pB_t.1 hb
  obtain⟨b,c,d,f⟩:=Qju (W3 hb.topo hb.up hb.lic) h
  exact⟨b,c,d,hb,f⟩
 ·cases h
structure Je (l:List Job):Prop where
 len:l.length<=60
 jobs:∀i,i<l.length->Qk (nth l i)=true
 diff:∀i,i<l.length->∀k,k<i->(nth l k).id≠(nth l i).id
noncomputable def YC (l:List Job):Bool:=pB (Je l)
def allJ(s:Qb):List Job:=s.queue++s.runs.map Run.job
structure RunP (s:Qb) (x:Run):Prop where
 up:∀i,i<x.nodes.length->nth s.up (nth x.nodes i).toNat=true
 asc:ascP x.nodes
 level:lvl s.topo.parents (lowI s.topo x.nodes).toNat<=x.job.level
def endB(now:Int)(e:QjS):Bool:=inB e.id 1 999&&inB e.at' 0 now&&inB e.why 1 4
structure StateP (s:Qb):Prop where
 room:(Jg s).isSome=true
 depth:0<=s.depth/\s.depth<=60
 jobs:Je (allJ s)
 ends:s.ends.length<=300
 runs:∀j,j<s.runs.length->RunP s (nth s.runs j)
 endsOk:∀j,j<s.ends.length->endB s.now (nth s.ends j)=true
noncomputable def Qe (s:Qb):Bool:=pB (StateP s)
end
end Go.Proofs.YtkdniahincpmaaaGreat
