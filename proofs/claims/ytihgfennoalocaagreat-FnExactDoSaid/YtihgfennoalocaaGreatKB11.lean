/-
  A change of a profile is a profile; taking.
-/
import Derived.Test.YtihgfennoalocaaGreatKB10
set_option maxRecDepth 100000
set_option maxHeartbeats 16000000
namespace Go.Proofs.YtihgfennoalocaaGreat
open Go Go.RowKit Tryz
section

theorem Xv{l:List Pt}(h:Jp l)(t:Int):Qh (JF l t)=true:=by
 have key:∀n,n<=l.length->Qh (JF (l.take n) t)=true:=by
  intro n
  induction n with
  | zero=>intro _;rfl
  | succ n ih=>
   intro hn
   rw[Wg (by omega)]
   split
   ·exact(h.pts n (by omega)).2
   ·exact ih (by omega)
 have:=key l.length (Xam _)
 rwa [Xap]at this
structure Qpy (out:List Pt) (ts:List Int):Prop where
 pts:∀j,j<out.length->(0<=(nth out j).at'/\(nth out j).at'<=1000000000)/\Qh (nth out j).free=true
 steps:∀j,j+1<out.length->(nth out j).at'<(nth out (j+1)).at'/\(nth out j).free≠(nth out (j+1)).free
 last:∀t∈ts,0<out.length->(nth out (out.length-1)).at'<t
theorem Y6{α:Type}[Inhabited α]{l r:List α}{j:Nat}(h:j<l.length):nth (l++r) j=nth l j:=by
 simp[nth,List.getD,List.getElem?_append_left h]
theorem Vu{α:Type}[Inhabited α]{l:List α}{x:α}:nth (l++[x]) l.length=x:=by
 simp[nth,List.getD]
theorem Qkv{out:List Pt}{t:Int}{ts:List Int}{v:V3}(h:Qpy out (t::ts))(hr:risI (t::ts))(ht:0<=t/\t<=1000000000)(hv:Qh v=true):Qpy (XQ out t v) ts:=by
 unfold risI at hr
 rw[Xau]at hr
 unfold XQ
 split
 ·rename_i hc
  refine⟨fun j hj=>?_,fun j hj=>?_,fun u hu _=>?_⟩
  ·rw[Xac]at hj
   simp only[Xar,XaU]at hj
   by_cases e:j=out.length
   ·subst e;rw[Vu];exact⟨ht,hv⟩
   ·rw[Y6 (by omega)];exact h.pts j (by omega)
  ·rw[Xac]at hj
   simp only[Xar,XaU]at hj
   by_cases e:j+1=out.length
   ·rw[e,Vu,Y6 (by omega)]
    have e2:j=out.length-1:=by omega
    rw[e2]
    refine⟨h.last t Xaa (by omega),?_⟩
    rcases hc with rfl|hc
    ·simp at e
    ·exact hc
   ·rw[Y6 (by omega),Y6 (by omega)];exact h.steps j (by omega)
  ·rw[Xac]
   simp only[Xar,XaU,XaZ,Xcc]
   rw[Vu]
   exact hr.1 u hu
 ·exact⟨h.pts,h.steps,fun u hu=>h.last u (Xae _ hu)⟩
theorem Qop(out:List Pt)(t:Int)(v:V3):∃s,XQ out t v=out++s:=by
 unfold XQ
 split
 ·exact⟨_,rfl⟩
 ·exact⟨[],by simp⟩
theorem Z1(out:List Pt)(t:Int)(v:V3):(XQ out t v).length<=out.length+1:=by
 unfold XQ;split <;> simp
theorem QcL{l:List Pt}{a b:Int}{by':V3->Option V3}(hp:Jp l)(hby:∀v u,Qh v=true->by' v=some u->Qh u=true):∀{ts:List Int} {out q:List Pt},risI ts->(∀t∈ts,0<=t/\t<=1000000000)->Qpy out ts->Vs l a b by' ts out=some q->
  Qpy q []/\(∃s,q=out++s)/\q.length<=out.length+ts.length
 | [],out,q,_,_,h,e=>by
  injection e with e
  subst e
  exact⟨h,⟨[],by simp⟩,Xam _⟩
 | t::ts,out,q,hr,ht,h,e=>by
  unfold Vs at e
  split at e
  ·cases e
  ·rename_i v hv
   have hvo:Qh v=true:=by
    unfold chgV at hv
    split at hv
    ·exact hby _ _ (Xv hp t) hv
    ·injection hv with hv;rw[<-hv];exact Xv hp t
   have hr':=hr
   unfold risI at hr'
   rw[Xau]at hr'
   obtain⟨g1,⟨s,g2⟩,g3⟩:=QcL hp hby hr'.2 (fun u hu=>ht u (Xae _ hu)) (Qkv h hr (ht t Xaa) hvo) e
   obtain⟨s',g4⟩:=Qop out t v
   refine⟨g1,⟨s'++s,by rw[g2,g4,Xaq]⟩,?_⟩
   have:=Z1 out t v
   rw[Xar]
   omega
theorem Qk3{l:List Pt}{a b:Int}(hp:Jp l)(hs:VE a b=true):(∀t∈QQ l a b,0<=t/\t<=1000000000)/\∃ts,QQ l a b=0::ts:=by
 obtain⟨h1,h2,h3⟩:=W5.1 hs
 obtain⟨r1,r2⟩:=Qan hp a b
 have hin:∀t∈QQ l a b,0<=t/\t<=1000000000:=by
  intro t ht
  rcases(r2 t).1 ht with rfl|rfl|ht
  ·exact h2
  ·exact h1
  ·obtain⟨p,hp',rfl⟩:=Xad.1 ht
   obtain⟨j,hj,rfl⟩:=J1 hp'
   exact(hp.pts j hj).1
 refine⟨hin,?_⟩
 have h0:(0:Int)∈QQ l a b:=(r2 0).2 (.inr (.inr (Xad.2 ⟨nth l 0,QO (by have:=hp.len;omega),hp.zero⟩)))
 cases e:QQ l a b with
 | nil=>rw[e]at h0;cases h0
 | cons t ts=>
  refine⟨ts,?_⟩
  rw[e]at h0 r1 hin
  unfold risI at r1
  rw[Xau]at r1
  rcases Xaj.1 h0 with h0|h0
  ·rw[<-h0]
  ·have:=r1.1 0 h0
   have:=(hin t Xaa).1
   omega
theorem Qcs{t:Int}:∀{l:List Int},(insI t false l).length<=l.length+1/\(insI t true l).length<=l.length
 | []=>by simp[insI]
 | x::l=>by
  obtain⟨h1,h2⟩:=Qcs (t:=t) (l:=l)
  simp only[insI,Bool.true_or,Bool.false_or]
  by_cases hx:t<=x <;> by_cases hy:x=t <;> simp[hx,hy] <;> omega
theorem QdC{l:List Pt}{a b:Int}:(QQ l a b).length<=l.length+2:=by
 have h1:=(Qcs (t:=a) (l:=atsI l)).1
 have h2:=(Qcs (t:=b) (l:=insI a false (atsI l))).1
 have h3:(atsI l).length=l.length:=by simp[atsI]
 unfold QQ
 omega
theorem Qtb{l:List Pt}{a b:Int}{by':V3->Option V3}{q:List Pt}(hp:Jp l)(hs:VE a b=true)(hby:∀v u,Qh v=true->by' v=some u->Qh u=true)(h:Vs l a b by' (QQ l a b) []=some q):q.length<=202:=by
 have:=(QcL hp hby (Qan hp a b).1 (Qk3 hp hs).1 ⟨fun j hj=>absurd hj (Xas _),fun j hj=>absurd hj (Xas _),fun _ _ hj=>absurd hj (Nat.lt_irrefl _)⟩ h).2.2
 have h2:=QdC (l:=l) (a:=a) (b:=b)
 have:=hp.len
 simp only[XaU]at *
 omega
theorem Qsb{l:List Pt}{a b:Int}{by':V3->Option V3}{q:List Pt}(hp:Jp l)(hs:VE a b=true)(hby:∀v u,Qh v=true->by' v=some u->Qh u=true)(h:Vs l a b by' (QQ l a b) []=some q):JJ q=decide (q.length<=200):=by
 obtain⟨h1,ts,h2⟩:=Qk3 hp hs
 have h3:=(Qan hp a b).1
 rw[h2]at h h1 h3
 unfold Vs at h
 split at h
 ·cases h
 ·rename_i v hv
  have hvo:Qh v=true:=by
   unfold chgV at hv
   split at hv
   ·exact hby _ _ (Xv hp 0) hv
   ·injection hv with hv;rw[<-hv];exact Xv hp 0
  have h0:Qpy [] ((0:Int)::ts):=⟨fun j hj=>absurd hj (Xas _),fun j hj=>absurd hj (Xas _),fun _ _ hj=>absurd hj (Nat.lt_irrefl _)⟩
  have h3':=h3
  unfold risI at h3'
  rw[Xau]at h3'
  obtain⟨g1,⟨s,g2⟩,_⟩:=QcL hp hby h3'.2 (fun u hu=>h1 u (Xae _ hu)) (Qkv h0 h3 (h1 0 Xaa) hvo) h
  have g3:q=⟨0,v⟩::s:=by rw[g2];unfold XQ;rw[if_pos (.inl rfl)];rfl
  rw[Xan,JK,decide_eq_true_eq]
  constructor
  ·exact fun h=>h.len.2
  ·intro hl
   exact⟨⟨by rw[g3];simp,hl⟩,by rw[g3];rfl,g1.pts,g1.steps⟩
theorem Qsp{l:List Pt}{a b:Int}{by':V3->Option V3}{q:List Pt}(hp:Jp l)(hs:VE a b=true)(hby:∀v u,Qh v=true->by' v=some u->Qh u=true)(h:chgP l a b by'=some q):Jp q:=by
 unfold chgP at h
 cases e:Vs l a b by' (QQ l a b) [] with
 | none=>rw[e]at h;cases h
 | some r=>
  rw[e]at h
  simp only[Xbd]at h
  split at h
  ·rename_i hl
   injection h with h
   subst h
   refine JK.1 ?_
   rw[Qsb hp hs hby e,decide_eq_true_eq]
   exact hl
  ·cases h
theorem QeI{l:List Pt}{a b:Int}{by':V3->Option V3}{t:Int}(hv:chgV l a b by' t=none):∀{ts:List Int} {out:List Pt},t∈ts->Vs l a b by' ts out=none
 | u::ts,out,h=>by
  unfold Vs
  split
  ·rfl
  ·rename_i v hv'
   rcases Xaj.1 h with rfl|h
   ·rw[hv]at hv';cases hv'
   ·exact QeI hv h
theorem QiZ{x v u:V3}(h:subO x v=some u):Qh u=true:=by
 unfold subO valO at h
 split at h
 ·rename_i hc
  injection h with h
  subst h
  simp only[Xaf]at hc
  exact hc.2.2
 ·cases h
noncomputable def VB (l:List Pt) (a b:Int) (v:V3):Option (List Pt):=if(JJ l&&VE a b&&Qh v)=true then chgP l a b (fun x=>subO x v)else none
theorem QfJ{l:List Pt}{a b:Int}{v:V3}{q:List Pt}(h:VB l a b v=some q):Jp q:=by
 unfold VB at h
 split at h
 ·rename_i hc
  simp only[Xaf]at hc
  exact Qsp (JK.1 hc.1.1) hc.1.2 (fun _ _ _=>QiZ) h
 ·cases h
theorem Qq1{l:List Pt}{a b:Int}{v:V3}(hp:Jp l)(hs:VE a b=true)(hv:Qh v=false):Vs l a b (fun x=>subO x v) (QQ l a b) []=none:=by
 refine QeI (t:=a) ?_ (((Qan hp a b).2 a).2 (.inr (.inl rfl)))
 unfold chgV
 rw[if_pos ⟨XcG _,(W5.1 hs).2.2⟩]
 refine QrM ?_
 unfold V9
 rw[hv]
 rfl

abbrev DC(P:Program)(f:FuncId)(args rs:List AV):Prop:=MCalls P f args [] (fun _:Unit=>True) (fun _=>rs) (fun _=>[]) (fun _=>[])
abbrev SC(P:Program)(f:FuncId)(arg:AV)(x:Int)(p:Prop):Prop:=MCalls P f [arg,zI x] [] (fun y:Int=>(-1<=y/\y<=x)/\(0<=y->p)) (fun y=>[zI y]) (fun _=>[]) (fun _=>[])
theorem Qcd(d:Nat){X:Cx}{Q:Exit->AS->Prop}{σ:AS}{ι:Type}{r x y z:Code}(S:ι->AS)(ok:ι->Prop)(h1:AWp X (.seq r (.cond (.tmp d) x y)) (QpE (fun σ'=>∃j,ok j/\σ'.le (S j)) Q) σ)(h2:∀j,ok j->AWp X z Q (S j)):AWp X (.seq (.seq r (.cond (.tmp d) x y)) z) Q σ:=Qs0 S ok h1 h2
theorem Qi(id p:Nat){X:Cx}{Q:Exit->AS->Prop}{σ:AS}{ops:Array Oper}{dr:Bool}{e:TypeId}{es:List (List D)}{dp:Bool}(hp:Qm σ.ob p=some (.row e es dp))(h:AWp X (.region id ops dr) Q (σ.frz p es)):AWp X (.region id ops dr) Q σ:=Qs p hp h
theorem Y9(id p:Nat){X:Cx}{Q:Exit->AS->Prop}{σ:AS}{ops:Array Oper}{dr:Bool}{e:TypeId}{cs:List AV}{ds:List D}(hp:Qm σ.ob p=some (.box e cs))(hds:YP cs=some ds)(h:AWp X (.region id ops dr) Q (σ.fzb p ds)):AWp X (.region id ops dr) Q σ:=Qsc p hp hds h

structure Jy where
 topo:QW
 up:List Bool
 profs:List (List Pt)
 lics:List Pt
def zR:Jy:=⟨⟨[],[]⟩,[],[],[]⟩
def Qq(l:List Bool):List (List D):=l.map fun b=>[.b b]
def QZ(l:List (List Pt)):List (List D):=l.map fun p=>[.sl (ptE p)]
theorem Qo(l:List Bool):(Qq l).length=l.length:=by simp[Qq]
theorem Qy(l:List (List Pt)):(QZ l).length=l.length:=by simp[QZ]
@[reducible] def Qa9 (r:Jy):List AV:=[zL (intE r.topo.parents),zL (Qz r.topo.nodes),zL (Qq r.up),zL (QZ r.profs),zL (ptE r.lics)]
@[reducible] def Y7 (r:Jy):AV:=.agg (Qa9 r)
structure Q5 (r:Jy):Prop where
 topo:QY r.topo
 up:r.up.length=r.topo.nodes.length
 num:r.profs.length=r.topo.nodes.length
 profs:∀j,j<r.profs.length->Jp (nth r.profs j)
 lics:Jp r.lics
noncomputable def QnF (r:Jy):Bool:=pB (Q5 r)
structure Qmi (t:QW) (j:Job) (l:List Int):Prop where
 nodes:Jz t l
 diff:∀i,i<l.length->hasI (l.take i) (nth l i)=false
 num:(l.length:Int)=j.nodes
noncomputable def Zn (t:QW) (j:Job) (l:List Int):Bool:=pB (Qmi t j l)
noncomputable def Qdq (a b:Int) (v:V3):List Int->List (List Pt)->Option (List (List Pt))
 | [],ps=>some ps
 | n::ns,ps=>match VB (nth ps n.toNat) a b v with
  | none=>none
  | some q=>Qdq a b v ns (ps.set n.toNat q)
noncomputable def resO (r:Jy) (j:Job) (a b:Int) (l:List Int):Option Jy:=
 if(QnF r&&Qu j&&Zn r.topo j l)=true then
  match Qdq a b j.need l r.profs with
  | none=>none
  | some ps=>match VB r.lics a b j.lic with
   | none=>none
   | some q=>some ⟨r.topo,r.up,ps,q⟩
 else none
theorem QoO{α:Type}[Inhabited α]{l:List α}{i j:Nat}{x:α}(h:i<l.length):nth (l.set i x) j=if i=j then x else nth l j:=by
 simp only[nth,List.getD,List.getElem?_set]
 by_cases e:i=j
 ·subst e;simp[h]
 ·simp[e]
theorem Qkk{a b:Int}{v:V3}:∀{ns:List Int} {ps qs:List (List Pt)},(∀n∈ns,n.toNat<ps.length)->(∀j,j<ps.length->Jp (nth ps j))->Qdq a b v ns ps=some qs->qs.length=ps.length/\∀j,j<qs.length->Jp (nth qs j)
 | [],ps,qs,_,h,e=>by injection e with e;subst e;exact⟨rfl,h⟩
 | n::ns,ps,qs,hn,h,e=>by
  unfold Qdq at e
  split at e
  ·cases e
  ·rename_i q hq
   have h1:=hn n Xaa
   obtain⟨g1,g2⟩:=Qkk (ns:=ns) (ps:=ps.set n.toNat q) (qs:=qs) (fun m hm=>by rw[Xak];exact hn m (Xae _ hm)) (fun j hj=>by
    rw[Xak]at hj
    rw[QoO h1]
    split
    ·exact QfJ hq
    ·exact h j hj) e
   rw[Xak]at g1
   exact⟨g1,g2⟩
theorem QsJ{t:QW}{j:Job}{l:List Int}(h:Qmi t j l){n:Int}(hn:n∈l):n.toNat<t.nodes.length:=by
 obtain⟨i,hi,e⟩:=J1 hn
 have:=h.nodes i hi
 omega
theorem Qjw{r r':Jy}{j:Job}{a b:Int}{l:List Int}(h:resO r j a b l=some r'):Q5 r'/\r'.topo=r.topo/\r'.up=r.up/\Qmi r.topo j l/\Qu j=true:=by
 unfold resO at h
 split at h
 ·rename_i hc
  simp only[Xaf]at hc
  obtain⟨⟨h1,h2⟩,h3⟩:=hc
  have h1:=pB_t.1 h1
  have h3:=pB_t.1 h3
  split at h
  ·cases h
  ·rename_i ps hps
   split at h
   ·cases h
   ·rename_i q hq
    injection h with h
    subst h
    obtain⟨g1,g2⟩:=Qkk (fun n hn=>by rw[h1.num];exact QsJ h3 hn) h1.profs hps
    exact⟨⟨h1.topo,h1.up,by rw[g1];exact h1.num,g2,QfJ hq⟩,rfl,rfl,h3,h2⟩
 ·cases h
structure Run where
 job:Job
 at':Int
 nodes:List Int
structure Qb5 where
 id:Int
 at':Int
 why:Int
structure Qd where
 topo:QW
 up:List Bool
 lic:V3
 depth:Int
 now:Int
 queue:List Job
 runs:List Run
 ends:List Qb5
instance:Inhabited Job:=⟨⟨0,0,0,zV,zV,0,0⟩⟩
instance:Inhabited Run:=⟨⟨default,0,[]⟩⟩
instance:Inhabited Qb5:=⟨⟨0,0,0⟩⟩
@[reducible] def jobD (j:Job):List D:=[.n .i64 j.id,.n .i64 j.prio,.n .i64 j.nodes,.n .i64 j.need.a,.n .i64 j.need.b,.n .i64 j.need.c,.n .i64 j.lic.a,.n .i64 j.lic.b,.n .i64 j.lic.c,.n .i64 j.wall,.n .i64 j.level]
def jobE(l:List Job):List (List D):=l.map fun j=>[.n .i64 j.id,.n .i64 j.prio,.n .i64 j.nodes,.n .i64 j.need.a,.n .i64 j.need.b,.n .i64 j.need.c,.n .i64 j.lic.a,.n .i64 j.lic.b,.n .i64 j.lic.c,.n .i64 j.wall,.n .i64 j.level]
def runE(l:List Run):List (List D):=l.map fun r=>[.n .i64 r.job.id,.n .i64 r.job.prio,.n .i64 r.job.nodes,.n .i64 r.job.need.a,.n .i64 r.job.need.b,.n .i64 r.job.need.c,.n .i64 r.job.lic.a,.n .i64 r.job.lic.b,.n .i64 r.job.lic.c,.n .i64 r.job.wall,.n .i64 r.job.level,.n .i64 r.at',.sl (intE r.nodes)]
def endE(l:List Qb5):List (List D):=l.map fun e=>[.n .i64 e.id,.n .i64 e.at',.n .i64 e.why]
theorem Qk(l:List Job):(jobE l).length=l.length:=by simp[jobE]
theorem Qf(l:List Run):(runE l).length=l.length:=by simp[runE]
theorem QC(l:List Qb5):(endE l).length=l.length:=by simp[endE]
@[reducible] def JB (s:Qd):List AV:=[zL (intE s.topo.parents),zL (Qz s.topo.nodes),zL (Qq s.up),zI s.lic.a,zI s.lic.b,zI s.lic.c,zI s.depth,zI s.now,zL (jobE s.queue),zL (runE s.runs),zL (endE s.ends)]
@[reducible] def Qx (s:Qd):AV:=.agg (JB s)
structure Ql (n:Nat) (s:Qd):Prop where
 par:s.topo.parents.length<=n
 nod:s.topo.nodes.length<=n
 up:s.up.length<=n
 que:s.queue.length<=n
 run:s.runs.length<=n
 end':s.ends.length<=n
 rno:∀j,j<s.runs.length->(nth s.runs j).nodes.length<=n
def Jf(t:QW)(up:List Bool)(lic:V3):Jy:=⟨t,up,t.nodes.map fun n=>[⟨0,n.cap⟩],[⟨0,lic⟩]⟩
def runB(now:Int)(x:Run):Bool:=Qu x.job&&inB x.at' 0 now&&inB (x.at'+x.job.wall) (now+1) 1000000000
noncomputable def W4 (now:Int):List Run->Jy->Option Jy
 | [],r=>some r
 | x::xs,r=>if runB now x=true then match resO r x.job now (x.at'+x.job.wall) x.nodes with
  | none=>none
  | some r'=>W4 now xs r'
  else none
structure QgC (s:Qd):Prop where
 topo:QY s.topo
 up:s.up.length=s.topo.nodes.length
 lic:Qh s.lic=true
 now:0<=s.now/\s.now<=1000000000
noncomputable def JG (s:Qd):Option Jy:=if pB (QgC s)=true then W4 s.now s.runs (Jf s.topo s.up s.lic)else none
theorem Qr4{v:V3}(h:Qh v=true):Jp [⟨0,v⟩]:=by
 refine⟨⟨Xam _,by simp⟩,rfl,fun j hj=>?_,fun j hj=>?_⟩
 ·have:j=0:=by simpa using hj
  subst this
  exact⟨⟨XcG _,(by decide:(0:Int)<=1000000000)⟩,h⟩
 ·simp at hj
theorem Vi{t:QW}{up:List Bool}{lic:V3}(h:QY t)(hu:up.length=t.nodes.length)(hl:Qh lic=true):Q5 (Jf t up lic):=by
 refine⟨h,hu,by simp[Jf],fun j hj=>?_,Qr4 hl⟩
 simp only[Jf,Xah]at hj
 have e:nth (Jf t up lic).profs j=[⟨0,(nth t.nodes j).cap⟩]:=by
  simp[Jf,nth,List.getD,hj]
 rw[e]
 exact Qr4 (h.nodes j hj).2.2
theorem QhP{now:Int}:∀{xs:List Run} {r r':Jy},Q5 r->W4 now xs r=some r'->Q5 r'/\r'.topo=r.topo/\r'.up=r.up/\∀x∈xs,runB now x=true/\Qmi r.topo x.job x.nodes
 | [],r,r',h,e=>by injection e with e;subst e;exact⟨h,rfl,rfl,fun x hx=>by cases hx⟩
 | x::xs,r,r',h,e=>by
  unfold W4 at e
  split at e
  ·rename_i hb
   split at e
   ·cases e
   ·rename_i r1 h1
    obtain⟨g1,g2,g3,g4,g5⟩:=Qjw h1
    obtain⟨k1,k2,k3,k4⟩:=QhP g1 e
    rw[g2]at k2 k4
    rw[g3]at k3
    refine⟨k1,k2,k3,fun y hy=>?_⟩
    rcases Xaj.1 hy with rfl|hy
    ·exact⟨hb,g4⟩
    ·exact k4 y hy
  ·cases e
theorem W1{s:Qd}{r:Jy}(h:JG s=some r):Q5 r/\r.topo=s.topo/\r.up=s.up/\QgC s/\∀x∈s.runs,runB s.now x=true/\Qmi s.topo x.job x.nodes:=by
 unfold JG at h
 split at h
 ·rename_i hb
  have hb:=pB_t.1 hb
  obtain⟨k1,k2,k3,k4⟩:=QhP (Vi hb.topo hb.up hb.lic) h
  exact⟨k1,k2,k3,hb,k4⟩
 ·cases h
structure Jm (l:List Job):Prop where
 len:l.length<=60
 jobs:∀i,i<l.length->Qu (nth l i)=true
 diff:∀i,i<l.length->∀k,k<i->(nth l k).id≠(nth l i).id
noncomputable def Yk (l:List Job):Bool:=pB (Jm l)
def allJ(s:Qd):List Job:=s.queue++s.runs.map Run.job
structure RunP (s:Qd) (x:Run):Prop where
 up:∀i,i<x.nodes.length->nth s.up (nth x.nodes i).toNat=true
 asc:ascP x.nodes
 level:lvl s.topo.parents (lowI s.topo x.nodes).toNat<=x.job.level
def endB(now:Int)(e:Qb5):Bool:=inB e.id 1 999&&inB e.at' 0 now&&inB e.why 1 4
structure StateP (s:Qd):Prop where
 room:(JG s).isSome=true
 depth:0<=s.depth/\s.depth<=60
 jobs:Jm (allJ s)
 ends:s.ends.length<=300
 runs:∀j,j<s.runs.length->RunP s (nth s.runs j)
 endsOk:∀j,j<s.ends.length->endB s.now (nth s.ends j)=true
noncomputable def Qp (s:Qd):Bool:=pB (StateP s)
end
end Go.Proofs.YtihgfennoalocaaGreat
