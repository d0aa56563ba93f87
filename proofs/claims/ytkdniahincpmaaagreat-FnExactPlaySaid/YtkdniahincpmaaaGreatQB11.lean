/-
  A change of a profile is a profile; taking.
-/
import Derived.Test.YtkdniahincpmaaaGreatQB10
set_option maxRecDepth 100000
set_option maxHeartbeats 16000000
namespace Go.Proofs.YtkdniahincpmaaaGreat
open Go Go.RowKit Tryz
section

theorem Wa{l:List Pt}(h:Jx l)(t:Int):Qh (QN l t)=true:=by
 have b:∀n,n<=l.length->Qh (QN (l.take n) t)=true:=by
  intro n
  induction n with
  | zero=>intro _;rfl
  | succ n ih=>
   intro hn
   rw[WK (by omega)]
   split
   ·exact(h.pts n (by omega)).2
   ·exact ih (by omega)
 have:=b l.length (Xaj _)
 rwa [Xal]at this
structure QrN (out:List Pt) (ts:List Int):Prop where
 pts:∀j,j<out.length->(0<=(nth out j).at'/\(nth out j).at'<=1000000000)/\Qh (nth out j).free=true
 steps:∀j,j+1<out.length->(nth out j).at'<(nth out (j+1)).at'/\(nth out j).free≠(nth out (j+1)).free
 last:∀t∈ts,0<out.length->(nth out (out.length-1)).at'<t
theorem Wt{α:Type}[Inhabited α]{l r:List α}{j:Nat}(h:j<l.length):nth (l++r) j=nth l j:=by
 simp[nth,List.getD,List.getElem?_append_left h]
theorem WU{α:Type}[Inhabited α]{l:List α}{x:α}:nth (l++[x]) l.length=x:=by
 simp[nth,List.getD]
theorem Qk8{out:List Pt}{t:Int}{ts:List Int}{v:V3}(h:QrN out (t::ts))(hr:risI (t::ts))(ht:0<=t/\t<=1000000000)(hv:Qh v=true):QrN (VT out t v) ts:=by
 unfold risI at hr
 rw[Xau]at hr
 unfold VT
 split
 ·rename_i a
  refine⟨fun j hj=>?_,fun j hj=>?_,fun u hu _=>?_⟩
  ·rw[Xab]at hj
   simp only[Xap,XaS]at hj
   by_cases e:j=out.length
   ·subst e;rw[WU];exact⟨ht,hv⟩
   ·rw[Wt (by omega)];exact h.pts j (by omega)
  ·rw[Xab]at hj
   simp only[Xap,XaS]at hj
   by_cases e:j+1=out.length
   ·rw[e,WU,Wt (by omega)]
    have b:j=out.length-1:=by omega
    rw[b]
    refine⟨h.last t Xaa (by omega),?_⟩
    rcases a with rfl|a
    ·simp at e
    ·exact a
   ·rw[Wt (by omega),Wt (by omega)];exact h.steps j (by omega)
  ·rw[Xab]
   simp only[Xap,XaS,XaZ,Xb1]
   rw[WU]
   exact hr.1 u hu
 ·exact⟨h.pts,h.steps,fun u hu=>h.last u (Xad _ hu)⟩
theorem QqU(out:List Pt)(t:Int)(v:V3):∃s,VT out t v=out++s:=by
 unfold VT
 split
 ·exact⟨_,rfl⟩
 ·exact⟨[],by simp⟩
theorem V0(out:List Pt)(t:Int)(v:V3):(VT out t v).length<=out.length+1:=by
 unfold VT;split <;> simp
theorem Qfh{l:List Pt}{a b:Int}{by':V3->Option V3}(hp:Jx l)(hby:∀v u,Qh v=true->by' v=some u->Qh u=true):∀{ts:List Int} {out q:List Pt},risI ts->(∀t∈ts,0<=t/\t<=1000000000)->QrN out ts->W6 l a b by' ts out=some q->
  QrN q []/\(∃s,q=out++s)/\q.length<=out.length+ts.length
 | [],out,q,_,_,h,e=>by
  injection e with e
  subst e
  exact⟨h,⟨[],by simp⟩,Xaj _⟩
 | t::ts,out,q,hr,ht,h,e=>by
  unfold W6 at e
  split at e
  ·cases e
  ·rename_i v hv
   have hvo:Qh v=true:=by
    unfold chgV at hv
    split at hv
    ·exact hby _ _ (Wa hp t) hv
    ·injection hv with hv;rw[<-hv];exact Wa hp t
   have hr':=hr
   unfold risI at hr'
   rw[Xau]at hr'
   obtain⟨g1,⟨s,g2⟩,g3⟩:=Qfh hp hby hr'.2 (fun u hu=>ht u (Xad _ hu)) (Qk8 h hr (ht t Xaa) hvo) e
   obtain⟨s',g4⟩:=QqU out t v
   refine⟨g1,⟨s'++s,by rw[g2,g4,Xao]⟩,?_⟩
   have:=V0 out t v
   rw[Xap]
   omega
theorem Qhv{l:List Pt}{a b:Int}(hp:Jx l)(hs:Vm a b=true):(∀t∈QP l a b,0<=t/\t<=1000000000)/\∃ts,QP l a b=0::ts:=by
 obtain⟨k,m,h3⟩:=Vc.1 hs
 obtain⟨f,i⟩:=XK hp a b
 have d:∀t∈QP l a b,0<=t/\t<=1000000000:=by
  intro t h
  rcases(i t).1 h with rfl|rfl|h
  ·exact m
  ·exact k
  ·obtain⟨p,g,rfl⟩:=Xaf.1 h
   obtain⟨j,n,rfl⟩:=Jt g
   exact(hp.pts j n).1
 refine⟨d,?_⟩
 have c:(0:Int)∈QP l a b:=(i 0).2 (.inr (.inr (Xaf.2 ⟨nth l 0,QE (by have:=hp.len;omega),hp.zero⟩)))
 cases e:QP l a b with
 | nil=>rw[e]at c;cases c
 | cons t ts=>
  refine⟨ts,?_⟩
  rw[e]at c f d
  unfold risI at f
  rw[Xau]at f
  rcases Xai.1 c with c|c
  ·rw[<-c]
  ·have:=f.1 0 c
   have:=(d t Xaa).1
   omega
theorem Qc1{t:Int}:∀{l:List Int},(insI t false l).length<=l.length+1/\(insI t true l).length<=l.length
 | []=>by simp[insI]
 | x::l=>by
  obtain⟨h1,h2⟩:=Qc1 (t:=t) (l:=l)
  simp only[insI,Bool.true_or,Bool.false_or]
  by_cases hx:t<=x <;> by_cases hy:x=t <;> simp[hx,hy] <;> omega
theorem Qby{l:List Pt}{a b:Int}:(QP l a b).length<=l.length+2:=by
 have h1:=(Qc1 (t:=a) (l:=atsI l)).1
 have h2:=(Qc1 (t:=b) (l:=insI a false (atsI l))).1
 have h3:(atsI l).length=l.length:=by simp[atsI]
 unfold QP
 omega
theorem Qwc{l:List Pt}{a b:Int}{by':V3->Option V3}{q:List Pt}(hp:Jx l)(hs:Vm a b=true)(hby:∀v u,Qh v=true->by' v=some u->Qh u=true)(h:W6 l a b by' (QP l a b) []=some q):q.length<=202:=by
 have:=(Qfh hp hby (XK hp a b).1 (Qhv hp hs).1 ⟨fun j hj=>absurd hj (Xaq _),fun j hj=>absurd hj (Xaq _),fun _ _ hj=>absurd hj (Nat.lt_irrefl _)⟩ h).2.2
 have h2:=Qby (l:=l) (a:=a) (b:=b)
 have:=hp.len
 simp only[XaS]at *
 omega
theorem QuO{l:List Pt}{a b:Int}{by':V3->Option V3}{q:List Pt}(hp:Jx l)(hs:Vm a b=true)(hby:∀v u,Qh v=true->by' v=some u->Qh u=true)(h:W6 l a b by' (QP l a b) []=some q):JW q=decide (q.length<=200):=by
 obtain⟨e,r,o⟩:=Qhv hp hs
 have f:=(XK hp a b).1
 rw[o]at h e f
 unfold W6 at h
 split at h
 ·cases h
 ·rename_i v d
  have g:Qh v=true:=by
   unfold chgV at d
   split at d
   ·exact hby _ _ (Wa hp 0) d
   ·injection d with d;rw[<-d];exact Wa hp 0
  have n:QrN [] ((0:Int)::r):=⟨fun j hj=>absurd hj (Xaq _),fun j hj=>absurd hj (Xaq _),fun _ _ hj=>absurd hj (Nat.lt_irrefl _)⟩
  have c:=f
  unfold risI at c
  rw[Xau]at c
  obtain⟨i,⟨s,m⟩,_⟩:=Qfh hp hby c.2 (fun u hu=>e u (Xad _ hu)) (Qk8 n f (e 0 Xaa) g) h
  have k:q=⟨0,v⟩::s:=by rw[m];unfold VT;rw[if_pos (.inl rfl)];rfl
  rw[Xan,JE,decide_eq_true_eq]
  constructor
  ·exact fun h=>h.len.2
  ·intro p
   exact⟨⟨by rw[k];simp,p⟩,by rw[k];rfl,i.pts,i.steps⟩
theorem Qvb{l:List Pt}{a b:Int}{by':V3->Option V3}{q:List Pt}(hp:Jx l)(hs:Vm a b=true)(hby:∀v u,Qh v=true->by' v=some u->Qh u=true)(h:chgP l a b by'=some q):Jx q:=by
 unfold chgP at h
 cases e:W6 l a b by' (QP l a b) [] with
 | none=>rw[e]at h;cases h
 | some r=>
  rw[e]at h
  simp only[Xbc]at h
  split at h
  ·rename_i c
   injection h with h
   subst h
   refine JE.1 ?_
   rw[QuO hp hs hby e,decide_eq_true_eq]
   exact c
  ·cases h
theorem Qft{l:List Pt}{a b:Int}{by':V3->Option V3}{t:Int}(hv:chgV l a b by' t=none):∀{ts:List Int} {out:List Pt},t∈ts->W6 l a b by' ts out=none
 | u::ts,out,h=>by
  unfold W6
  split
  ·rfl
  ·rename_i v hv'
   rcases Xai.1 h with rfl|h
   ·rw[hv]at hv';cases hv'
   ·exact Qft hv h
theorem Qkh{x v u:V3}(h:subO x v=some u):Qh u=true:=by
 unfold subO valO at h
 split at h
 ·rename_i c
  injection h with h
  subst h
  simp only[Xac]at c
  exact c.2.2
 ·cases h
noncomputable def Vo (l:List Pt) (a b:Int) (v:V3):Option (List Pt):=if(JW l&&Vm a b&&Qh v)=true then chgP l a b (fun x=>subO x v)else none
theorem QhE{l:List Pt}{a b:Int}{v:V3}{q:List Pt}(h:Vo l a b v=some q):Jx q:=by
 unfold Vo at h
 split at h
 ·rename_i c
  simp only[Xac]at c
  exact Qvb (JE.1 c.1.1) c.1.2 (fun _ _ _=>Qkh) h
 ·cases h
theorem Qsl{l:List Pt}{a b:Int}{v:V3}(hp:Jx l)(hs:Vm a b=true)(hv:Qh v=false):W6 l a b (fun x=>subO x v) (QP l a b) []=none:=by
 refine Qft (t:=a) ?_ (((XK hp a b).2 a).2 (.inr (.inl rfl)))
 unfold chgV
 rw[if_pos ⟨Xbf _,(Vc.1 hs).2.2⟩]
 refine Qui ?_
 unfold Za
 rw[hv]
 rfl

abbrev DC(P:Program)(f:FuncId)(args rs:List AV):Prop:=MCalls P f args [] (fun _:Unit=>True) (fun _=>rs) (fun _=>[]) (fun _=>[])
abbrev SC(P:Program)(f:FuncId)(arg:AV)(x:Int)(p:Prop):Prop:=MCalls P f [arg,zI x] [] (fun y:Int=>(-1<=y/\y<=x)/\(0<=y->p)) (fun y=>[zI y]) (fun _=>[]) (fun _=>[])
theorem Qdz(d:Nat){X:Cx}{Q:Exit->AS->Prop}{σ:AS}{ι:Type}{r x y z:Code}(S:ι->AS)(ok:ι->Prop)(h1:AWp X (.seq r (.cond (.tmp d) x y)) (QtT (fun σ'=>∃j,ok j/\σ'.le (S j)) Q) σ)(h2:∀j,ok j->AWp X z Q (S j)):AWp X (.seq (.seq r (.cond (.tmp d) x y)) z) Q σ:=Qwe S ok h1 h2
theorem Qi(id p:Nat){X:Cx}{Q:Exit->AS->Prop}{σ:AS}{ops:Array Oper}{dr:Bool}{e:TypeId}{es:List (List D)}{dp:Bool}(hp:Ql σ.ob p=some (.row e es dp))(h:AWp X (.region id ops dr) Q (σ.frz p es)):AWp X (.region id ops dr) Q σ:=Qp p hp h
theorem Wr(id p:Nat){X:Cx}{Q:Exit->AS->Prop}{σ:AS}{ops:Array Oper}{dr:Bool}{e:TypeId}{cs:List AV}{ds:List D}(hp:Ql σ.ob p=some (.box e cs))(hds:YY cs=some ds)(h:AWp X (.region id ops dr) Q (σ.fzb p ds)):AWp X (.region id ops dr) Q σ:=QwG p hp hds h

structure Jn where
 topo:QX
 up:List Bool
 profs:List (List Pt)
 lics:List Pt
def zR:Jn:=⟨⟨[],[]⟩,[],[],[]⟩
def Qk(l:List Bool):List (List D):=l.map fun b=>[.b b]
def Q7(l:List (List Pt)):List (List D):=l.map fun p=>[.sl (ptE p)]
theorem Qq(l:List Bool):(Qk l).length=l.length:=by simp[Qk]
theorem QB(l:List (List Pt)):(Q7 l).length=l.length:=by simp[Q7]
@[reducible] def QbV (r:Jn):List AV:=[zL (intE r.topo.parents),zL (Qr r.topo.nodes),zL (Qk r.up),zL (Q7 r.profs),zL (ptE r.lics)]
@[reducible] def Ws (r:Jn):AV:=.agg (QbV r)
structure Q6 (r:Jn):Prop where
 topo:Q3 r.topo
 up:r.up.length=r.topo.nodes.length
 num:r.profs.length=r.topo.nodes.length
 profs:∀j,j<r.profs.length->Jx (nth r.profs j)
 lics:Jx r.lics
noncomputable def QjW (r:Jn):Bool:=pB (Q6 r)
structure Qc0 (t:QX) (j:Job) (l:List Int):Prop where
 nodes:Jo t l
 diff:∀i,i<l.length->hasI (l.take i) (nth l i)=false
 num:(l.length:Int)=j.nodes
noncomputable def Z4 (t:QX) (j:Job) (l:List Int):Bool:=pB (Qc0 t j l)
noncomputable def QaM (a b:Int) (v:V3):List Int->List (List Pt)->Option (List (List Pt))
 | [],ps=>some ps
 | n::ns,ps=>match Vo (nth ps n.toNat) a b v with
  | none=>none
  | some q=>QaM a b v ns (ps.set n.toNat q)
noncomputable def resO (r:Jn) (j:Job) (a b:Int) (l:List Int):Option Jn:=
 if(QjW r&&Qm j&&Z4 r.topo j l)=true then
  match QaM a b j.need l r.profs with
  | none=>none
  | some ps=>match Vo r.lics a b j.lic with
   | none=>none
   | some q=>some ⟨r.topo,r.up,ps,q⟩
 else none
theorem Qb0{α:Type}[Inhabited α]{l:List α}{i j:Nat}{x:α}(h:i<l.length):nth (l.set i x) j=if i=j then x else nth l j:=by
 simp only[nth,List.getD,List.getElem?_set]
 by_cases e:i=j
 ·subst e;simp[h]
 ·simp[e]
theorem Ql6{a b:Int}{v:V3}:∀{ns:List Int} {ps qs:List (List Pt)},(∀n∈ns,n.toNat<ps.length)->(∀j,j<ps.length->Jx (nth ps j))->QaM a b v ns ps=some qs->qs.length=ps.length/\∀j,j<qs.length->Jx (nth qs j)
 | [],ps,qs,_,h,e=>by injection e with e;subst e;exact⟨rfl,h⟩
 | n::ns,ps,qs,hn,h,e=>by
  unfold QaM at e
  split at e
  ·cases e
  ·rename_i q hq
   have h1:=hn n Xaa
   obtain⟨g1,g2⟩:=Ql6 (ns:=ns) (ps:=ps.set n.toNat q) (qs:=qs) (fun m hm=>by rw[Xaw];exact hn m (Xad _ hm)) (fun j hj=>by
    rw[Xaw]at hj
    rw[Qb0 h1]
    split
    ·exact QhE hq
    ·exact h j hj) e
   rw[Xaw]at g1
   exact⟨g1,g2⟩
theorem QvD{t:QX}{j:Job}{l:List Int}(h:Qc0 t j l){n:Int}(hn:n∈l):n.toNat<t.nodes.length:=by
 obtain⟨i,a,e⟩:=Jt hn
 have:=h.nodes i a
 omega
theorem Xr{r r':Jn}{j:Job}{a b:Int}{l:List Int}(h:resO r j a b l=some r'):Q6 r'/\r'.topo=r.topo/\r'.up=r.up/\Qc0 r.topo j l/\Qm j=true:=by
 unfold resO at h
 split at h
 ·rename_i i
  simp only[Xac]at i
  obtain⟨⟨d,o⟩,f⟩:=i
  have d:=pB_t.1 d
  have f:=pB_t.1 f
  split at h
  ·cases h
  ·rename_i ps g
   split at h
   ·cases h
   ·rename_i q p
    injection h with h
    subst h
    obtain⟨k,m⟩:=Ql6 (fun n hn=>by rw[d.num];exact QvD f hn) d.profs g
    exact⟨⟨d.topo,d.up,by rw[k];exact d.num,m,QhE p⟩,rfl,rfl,f,o⟩
 ·cases h
structure Run where
 job:Job
 at':Int
 nodes:List Int
structure QbO where
 id:Int
 at':Int
 why:Int
structure Qb where
 topo:QX
 up:List Bool
 lic:V3
 depth:Int
 now:Int
 queue:List Job
 runs:List Run
 ends:List QbO
instance:Inhabited Job:=⟨⟨0,0,0,zV,zV,0,0⟩⟩
instance:Inhabited Run:=⟨⟨default,0,[]⟩⟩
instance:Inhabited QbO:=⟨⟨0,0,0⟩⟩
@[reducible] def jobD (j:Job):List D:=[.n .i64 j.id,.n .i64 j.prio,.n .i64 j.nodes,.n .i64 j.need.a,.n .i64 j.need.b,.n .i64 j.need.c,.n .i64 j.lic.a,.n .i64 j.lic.b,.n .i64 j.lic.c,.n .i64 j.wall,.n .i64 j.level]
def jobE(l:List Job):List (List D):=l.map fun j=>[.n .i64 j.id,.n .i64 j.prio,.n .i64 j.nodes,.n .i64 j.need.a,.n .i64 j.need.b,.n .i64 j.need.c,.n .i64 j.lic.a,.n .i64 j.lic.b,.n .i64 j.lic.c,.n .i64 j.wall,.n .i64 j.level]
def runE(l:List Run):List (List D):=l.map fun r=>[.n .i64 r.job.id,.n .i64 r.job.prio,.n .i64 r.job.nodes,.n .i64 r.job.need.a,.n .i64 r.job.need.b,.n .i64 r.job.need.c,.n .i64 r.job.lic.a,.n .i64 r.job.lic.b,.n .i64 r.job.lic.c,.n .i64 r.job.wall,.n .i64 r.job.level,.n .i64 r.at',.sl (intE r.nodes)]
def endE(l:List QbO):List (List D):=l.map fun e=>[.n .i64 e.id,.n .i64 e.at',.n .i64 e.why]
theorem Qj(l:List Job):(jobE l).length=l.length:=by simp[jobE]
theorem Qe(l:List Run):(runE l).length=l.length:=by simp[runE]
theorem QJ(l:List QbO):(endE l).length=l.length:=by simp[endE]
@[reducible] def JI (s:Qb):List AV:=[zL (intE s.topo.parents),zL (Qr s.topo.nodes),zL (Qk s.up),zI s.lic.a,zI s.lic.b,zI s.lic.c,zI s.depth,zI s.now,zL (jobE s.queue),zL (runE s.runs),zL (endE s.ends)]
@[reducible] def Qz (s:Qb):AV:=.agg (JI s)
structure Qo (n:Nat) (s:Qb):Prop where
 par:s.topo.parents.length<=n
 nod:s.topo.nodes.length<=n
 up:s.up.length<=n
 que:s.queue.length<=n
 run:s.runs.length<=n
 end':s.ends.length<=n
 rno:∀j,j<s.runs.length->(nth s.runs j).nodes.length<=n
def Jf(t:QX)(up:List Bool)(lic:V3):Jn:=⟨t,up,t.nodes.map fun n=>[⟨0,n.cap⟩],[⟨0,lic⟩]⟩
def runB(now:Int)(x:Run):Bool:=Qm x.job&&inB x.at' 0 now&&inB (x.at'+x.job.wall) (now+1) 1000000000
noncomputable def Ww (now:Int):List Run->Jn->Option Jn
 | [],r=>some r
 | x::xs,r=>if runB now x=true then match resO r x.job now (x.at'+x.job.wall) x.nodes with
  | none=>none
  | some r'=>Ww now xs r'
  else none
structure Qfs (s:Qb):Prop where
 topo:Q3 s.topo
 up:s.up.length=s.topo.nodes.length
 lic:Qh s.lic=true
 now:0<=s.now/\s.now<=1000000000
noncomputable def Jr (s:Qb):Option Jn:=if pB (Qfs s)=true then Ww s.now s.runs (Jf s.topo s.up s.lic)else none
theorem QuC{v:V3}(h:Qh v=true):Jx [⟨0,v⟩]:=by
 refine⟨⟨Xaj _,by simp⟩,rfl,fun j hj=>?_,fun j hj=>?_⟩
 ·have:j=0:=by simpa using hj
  subst this
  exact⟨⟨Xbf _,(by decide:(0:Int)<=1000000000)⟩,h⟩
 ·simp at hj
theorem WS{t:QX}{up:List Bool}{lic:V3}(h:Q3 t)(hu:up.length=t.nodes.length)(hl:Qh lic=true):Q6 (Jf t up lic):=by
 refine⟨h,hu,by simp[Jf],fun j hj=>?_,QuC hl⟩
 simp only[Jf,Xar]at hj
 have e:nth (Jf t up lic).profs j=[⟨0,(nth t.nodes j).cap⟩]:=by
  simp[Jf,nth,List.getD,hj]
 rw[e]
 exact QuC (h.nodes j hj).2.2
theorem Qi6{now:Int}:∀{xs:List Run} {r r':Jn},Q6 r->Ww now xs r=some r'->Q6 r'/\r'.topo=r.topo/\r'.up=r.up/\∀x∈xs,runB now x=true/\Qc0 r.topo x.job x.nodes
 | [],r,r',h,e=>by injection e with e;subst e;exact⟨h,rfl,rfl,fun x hx=>by cases hx⟩
 | x::xs,r,r',h,e=>by
  unfold Ww at e
  split at e
  ·rename_i hb
   split at e
   ·cases e
   ·rename_i r1 h1
    obtain⟨g1,g2,g3,g4,g5⟩:=Xr h1
    obtain⟨k1,k2,k3,k4⟩:=Qi6 g1 e
    rw[g2]at k2 k4
    rw[g3]at k3
    refine⟨k1,k2,k3,fun y hy=>?_⟩
    rcases Xai.1 hy with rfl|hy
    ·exact⟨hb,g4⟩
    ·exact k4 y hy
  ·cases e
theorem YO{s:Qb}{r:Jn}(h:Jr s=some r):Q6 r/\r.topo=s.topo/\r.up=s.up/\Qfs s/\∀x∈s.runs,runB s.now x=true/\Qc0 s.topo x.job x.nodes:=by
 unfold Jr at h
 split at h
 ·rename_i hb
  have hb:=pB_t.1 hb
  obtain⟨b,c,d,f⟩:=Qi6 (WS hb.topo hb.up hb.lic) h
  exact⟨b,c,d,hb,f⟩
 ·cases h
structure Jg (l:List Job):Prop where
 len:l.length<=60
 jobs:∀i,i<l.length->Qm (nth l i)=true
 diff:∀i,i<l.length->∀k,k<i->(nth l k).id≠(nth l i).id
noncomputable def Yz (l:List Job):Bool:=pB (Jg l)
def allJ(s:Qb):List Job:=s.queue++s.runs.map Run.job
structure RunP (s:Qb) (x:Run):Prop where
 up:∀i,i<x.nodes.length->nth s.up (nth x.nodes i).toNat=true
 asc:ascP x.nodes
 level:lvl s.topo.parents (lowI s.topo x.nodes).toNat<=x.job.level
def endB(now:Int)(e:QbO):Bool:=inB e.id 1 999&&inB e.at' 0 now&&inB e.why 1 4
structure StateP (s:Qb):Prop where
 room:(Jr s).isSome=true
 depth:0<=s.depth/\s.depth<=60
 jobs:Jg (allJ s)
 ends:s.ends.length<=300
 runs:∀j,j<s.runs.length->RunP s (nth s.runs j)
 endsOk:∀j,j<s.ends.length->endB s.now (nth s.ends j)=true
noncomputable def Qf (s:Qb):Bool:=pB (StateP s)
end
end Go.Proofs.YtkdniahincpmaaaGreat
