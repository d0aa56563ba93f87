/-
  The empty room of the reference with a row of its own of the nodes that are up; whether a job could start alone.
-/
import Derived.Test.YtkdniahincpmaaaGreatQB27
set_option maxRecDepth 100000
set_option maxHeartbeats 16000000
namespace Go.Proofs.YtkdniahincpmaaaGreat
open Go Go.RowKit Tryz
section
attribute [local irreducible] AWp QM OpOk ACalls ChA QsOk MCalls NCalls EnC PY

@[reducible] def Qvu (r:Jn) (q:Nat):AV:=.agg [zL (intE r.topo.parents),zL (Qr r.topo.nodes),.row q,zL (Q7 r.profs),zL (ptE r.lics)]
theorem QpE{r:Jn}(h:Q6 r)(h0:0<r.profs.length):MCalls Tryz.prog 271 [Ws r] [] (fun _:Unit=>True) (fun _=>[Qvu r 0]) (fun _=>[]) (fun _=>[(0,.row 4 (Qk r.up) true)]):=by
 refine zMC func271 fun w0 Z O=>?_
 have hs:=h.small
 have i:=Qq r.up
 have o:=Qw r.topo.nodes
 have s:=QB r.profs
 have j:=Qc r.topo.parents
 repeat'(first|(refine zhm fun hb=>?_;try exact zab)|(refine Qi 3 14 rfl ?_)|(refine Qi 3 19 rfl ?_)|refine Qd ?_|(apply zch;exact zcg)|exact zhk|refine zg3 ?_ ?_|refine kmu (WZ (l:=r.lics) (by omega)) ?_|intro _)
 refine Qa (fun(k:Nat×List (List Pt))=>⟨42,[(2,.ptr 2 0),(3,.ptr 3 0),(27,zL (Q7 r.profs)),(28,zI (r.profs.length:Nat)),(29,zI k.1)],[(2,.box 180 [.nil,.nil,.nil,.nil,.nil]),(3,.box 180 [zL (intE r.topo.parents),zL (Qr r.topo.nodes),.row 6,slN 38 (Q7 k.2),zL (ptE r.lics)]),(6,.row 4 (Qk r.up) true)]++slO 38 178 (Q7 k.2)⟩) (fun k=>k.1<=r.profs.length/\k.2=r.profs.take k.1) (fun k=>r.profs.length-k.1) (0,[]) (by exact⟨Xae _,rfl⟩) ?_ ?_
 ·exact zll
 ·rintro ⟨n,a⟩ ⟨m,e⟩
  dsimp only at m e ⊢
  have p:a.length=n:=by rw[e,Xah];omega
  have f:=QB a
  by_cases d:n<r.profs.length
  ·have q:=h.profs n d
   have g:=q.len
   have c:=QF d
   rw[<-e]at c
   cases a with
   | nil=>
    repeat'(first|(refine zhm fun hb=>?_;try exact zab)|refine Qd ?_|(apply zch;exact zcg)|exact zhk|refine zg3 ?_ ?_|refine kmu (WZ (l:=nth r.profs n) (by omega)) ?_|intro _)
    refine⟨(n+1,[]++[nth r.profs n]),⟨by omega,c.symm⟩,by omega,?_⟩
    exact zll
   | cons p0 o0=>
    repeat'(first|(refine zhm fun hb=>?_;try exact zab)|refine Qd ?_|(apply zch;exact zcg)|exact zhk|refine zg3 ?_ ?_|refine kmu (WZ (l:=nth r.profs n) (by omega)) ?_|intro _)
    refine⟨(n+1,(p0::o0)++[nth r.profs n]),⟨by omega,c.symm⟩,by omega,?_⟩
    refine zag ?_;exact zp (Wd (p0::o0) _)
  ·have b:a=r.profs:=by rw[e,Xay (by omega)]
   cases a with
   | nil=>rw[<-b]at h0;cases h0
   | cons p0 o0=>
    repeat'(first|(refine zhm fun hb=>?_;try exact zab)|refine Q2 ?_|(apply zch;exact zcg)|exact zhk|refine zg3 ?_ ?_|intro _)
    show AWp _ _ _ _
    refine Qp 38 rfl ?_
    show AWp _ _ _ _
    refine QA ?_
    apply Qs
    refine zm () [6] trivial ?_ ?_ ?_
    repeat'(first|exact ze3|refine ze2 ?_ ?_|refine ze4 ?_|exact ze5|fail)
    all_goals exact zp (by first|rfl|rw[b])
theorem QnZ{tp:QX}{up:List Bool}{li:List Pt}(h:Q6 ⟨tp,up,[],li⟩):MCalls Tryz.prog 271 [.agg [zL (intE tp.parents),zL (Qr tp.nodes),zL (Qk up),.nil,zL (ptE li)]] [] (fun _:Unit=>True) (fun _=>[Qvu ⟨tp,up,[],li⟩ 0]) (fun _=>[]) (fun _=>[(0,.row 4 (Qk up) true)]):=by
 refine zMC func271 fun w0 Z O=>?_
 have d:=h.small
 dsimp only at d
 have a:=Qq up
 have c:=Qw tp.nodes
 have b:=Qc tp.parents
 repeat'(first|(refine zhm fun hb=>?_;try exact zab)|(refine Qi 3 14 rfl ?_)|(refine Qi 3 19 rfl ?_)|refine Qd ?_|(apply zch;exact zcg)|exact zhk|refine zg3 ?_ ?_|refine kmu (WZ (l:=li) (by omega)) ?_|intro _)
 refine Qa (fun(_:Unit)=>⟨42,[(2,.ptr 2 0),(3,.ptr 3 0),(27,.nil),(28,zI 0),(29,zI 0)],[(2,.box 180 [.nil,.nil,.nil,.nil,.nil]),(3,.box 180 [zL (intE tp.parents),zL (Qr tp.nodes),.row 6,.nil,zL (ptE li)]),(6,.row 4 (Qk up) true)]⟩) (fun _=>True) (fun _=>0) () trivial ?_ ?_
 ·exact zll
 ·intro _ _
  repeat'(first|(refine zhm fun hb=>?_;try exact zab)|refine Q2 ?_|(apply zch;exact zcg)|exact zhk|refine zg3 ?_ ?_|intro _)
  show AWp _ _ _ _
  refine QA ?_
  apply Qs
  exact zm () [6] trivial zae zae zae
theorem Qni{s:Qb}(ht:Q3 s.topo)(h2:s.up.length=s.topo.nodes.length)(h3:Qh s.lic=true)(hs:Qo 1000000000 s):MCalls Tryz.prog 210 [Qz s] [] (fun _:Unit=>True) (fun _=>[Qvu (Jf s.topo s.up s.lic) 0,.d (.b true)]) (fun _=>[]) (fun _=>[(0,.row 4 (Qk s.up) true)]):=by
 refine zMC func210 fun w0 Z O=>?_
 have x:=Qq s.up
 have z:=Qw s.topo.nodes
 have ac:=hs.up
 have aa:=hs.nod
 have r:=ZW (t:=s.topo) hs.par hs.nod
 have u:=J9 (v:=s.lic)
 have w:=J8.2 ht
 rw[w]at r
 rw[h3]at u
 have h4:=ht.len
 have h5:=ht.nlen
 have h:=WS ht h2 h3
 have o:(Jf s.topo s.up s.lic).profs=XI s.topo.nodes:=rfl
 repeat'(first|(refine zhm fun hb=>?_;try exact zab)|refine zUtp ?_|refine zg2 ?_ ?_|intro _)
 refine Qa (fun(k:Nat×List (List Pt))=>⟨65,[(1,.ptr 1 0),(2,.ptr 2 0),(4,.ptr 4 0),(37,zL (Qr s.topo.nodes)),(38,zI (s.topo.nodes.length:Nat)),(39,zI k.1)],[(1,.box 34 (JI s)),(2,.box 180 [.nil,.nil,.nil,.nil,.nil]),(4,.box 180 [zL (intE s.topo.parents),zL (Qr s.topo.nodes),zL (Qk s.up),slN 53 (Q7 k.2),.nil])]++slO 53 178 (Q7 k.2)⟩) (fun k=>k.1<=s.topo.nodes.length/\k.2=XI (s.topo.nodes.take k.1)) (fun k=>s.topo.nodes.length-k.1) (0,[]) (by exact⟨Xae _,rfl⟩) ?_ ?_
 ·exact zll
 ·rintro ⟨n,g⟩ ⟨y,m⟩
  dsimp only at y m ⊢
  have ab:g.length=n:=by rw[m,XI,Xar,Xah];omega
  have q:=QB g
  by_cases l:n<s.topo.nodes.length
  ·have i:=XY l
   rw[<-m]at i
   have p:=ht.nodes n l
   cases g with
   | nil=>
    repeat'(first|(refine zhm fun hb=>?_;try exact zab)|(refine Qi 8 46 rfl ?_)|refine zUtp ?_|refine zg2 ?_ ?_|refine kc (Yn (v:=(nth s.topo.nodes n).cap) p.2.2) rfl rfl ?_|intro _)
    refine⟨(n+1,[]++[[⟨0,(nth s.topo.nodes n).cap⟩]]),⟨by omega,i.symm⟩,by omega,?_⟩
    exact zll
   | cons p0 o0=>
    repeat'(first|(refine zhm fun hb=>?_;try exact zab)|(refine Qi 8 46 rfl ?_)|refine zUtp ?_|refine zg2 ?_ ?_|refine kc (Yn (v:=(nth s.topo.nodes n).cap) p.2.2) rfl rfl ?_|intro _)
    refine⟨(n+1,(p0::o0)++[[⟨0,(nth s.topo.nodes n).cap⟩]]),⟨by omega,i.symm⟩,by omega,?_⟩
    refine zag ?_;exact zp (Wd (p0::o0) _)
  ·have e:XI s.topo.nodes=g:=by rw[m,Xay (by omega)]
   cases g with
   | nil=>
    have f:=QnZ (tp:=s.topo) (up:=s.up) (li:=[⟨0,s.lic⟩]) (by unfold Jf at h;rw[show(s.topo.nodes.map fun n=>[(⟨0,n.cap⟩:Pt)])=[] from e]at h;exact h)
    unfold Jf
    rw[show(s.topo.nodes.map fun n=>[(⟨0,n.cap⟩:Pt)])=[] from e]
    repeat'(first|(refine zhm fun hb=>?_;try exact zab)|(refine Qi 11 59 rfl ?_)|refine zUrp ?_|refine zg2 ?_ ?_|refine kc (Yn (v:=s.lic) h3) rfl rfl ?_|refine kmu f ?_|intro _)
    show AWp _ _ _ _
    refine QA ?_
    apply Qs
    exact zm () [64] trivial zae zae zae
   | cons p0 o0=>
    have f:=QpE h (by rw[o,e];exact Xcq _)
    unfold Jf at f
    rw[show(s.topo.nodes.map fun n=>[(⟨0,n.cap⟩:Pt)])=p0::o0 from e]at f
    unfold Jf
    rw[show(s.topo.nodes.map fun n=>[(⟨0,n.cap⟩:Pt)])=p0::o0 from e]
    repeat'(first|(refine zhm fun hb=>?_;try exact zab)|(refine Qi 11 59 rfl ?_)|(refine Qi 11 53 rfl ?_)|refine zUrp ?_|refine zg2 ?_ ?_|refine kc (Yn (v:=s.lic) h3) rfl rfl ?_|refine kmu f ?_|intro _)
    show AWp _ _ _ _
    refine QA ?_
    apply Qs
    exact zm () [64] trivial zae zae zae
@[reducible] def jobC (j:Job):List AV:=[zI j.id,zI j.prio,zI j.nodes,zI j.need.a,zI j.need.b,zI j.need.c,zI j.lic.a,zI j.lic.b,zI j.lic.c,zI j.wall,zI j.level]
def Qir(s:Qb):List Bool:=List.replicate s.topo.nodes.length true
def QcW(s:Qb):Jn:=Jf s.topo (Qir s) s.lic
theorem Qpx{s:Qb}(ht:Q3 s.topo)(h3:Qh s.lic=true):Q6 (QcW s):=WS ht (by simp[Qir]) h3
def upTo(s:Qb)(i:Nat):List Bool:=List.replicate i true++s.up.drop i
theorem Qlg{s:Qb}{i:Nat}(h:i<=s.up.length):(upTo s i).length=s.up.length:=by simp[upTo];omega
theorem Qoe{s:Qb}{i:Nat}(h:i<s.up.length):(Qk (upTo s i)).set i [.b true]=Qk (upTo s (i+1)):=by
 rw[show(Qk (upTo s i)).set i [.b true]=Qk ((upTo s i).set i true) by simp[Qk,List.map_set]]
 congr 1
 unfold upTo
 rw[XbA _ _ (by simp),Xa8 h,Xbt,Xb4,Xbx,List.replicate_succ',Xao]
 rfl
theorem Qtp{s:Qb}(h:s.up.length=s.topo.nodes.length):upTo s s.up.length=Qir s:=by
 unfold upTo Qir
 rw[h,List.drop_of_length_le (by omega),Xa3]
theorem QnF{s:Qb}{j:Job}(ht:Q3 s.topo)(h2:s.up.length=s.topo.nodes.length)(h3:Qh s.lic=true)(hj:Qm j=true)(hs:Qo 1000000000 s):zAc 314 [Qz s,jobA j] [.d (.b (earO (QcW s) j 0).isSome)] []:=by
 refine zAC func314 fun w0 Z=>?_
 have h:=Qni ht h2 h3 hs
 have i:=Qcf (r:=QcW s) (j:=j) (a:=0) (Qpx ht h3) hj (by omega)
 have e:∀n,n<=s.up.length->(Qk (upTo s n)).length=s.up.length:=fun n c=>by rw[Qq,Qlg c]
 have o:=hs.up
 have l:=ht.nlen
 repeat'(first|(refine zhm fun hb=>?_;try exact zab)|refine zUtp ?_|refine zg2 ?_ ?_|refine kmu h ?_|intro _)
 refine Qa (fun(n:Nat)=>⟨38,[(3,.ptr 3 0),(5,.ptr 5 0),(6,.d (.b true)),(18,zI (s.up.length:Nat)),(19,zI n)],[(3,.box 40 (jobC j)),(5,.box 180 [zL (intE s.topo.parents),zL (Qr s.topo.nodes),.row 13,zL (Q7 (QcW s).profs),zL (ptE [⟨0,s.lic⟩])]),(13,.row 4 (Qk (upTo s n)) true)]⟩) (fun n=>n<=s.up.length) (fun n=>s.up.length-n) 0 (by exact Xae _) ?_ ?_
 ·exact zll
 intro n c
 have k:=e n c
 have m:=Qlg c
 by_cases f:n<s.up.length
 ·have g:=Qoe f
  repeat'(first|(refine zhm fun hb=>?_;try exact zab)|refine zUtp ?_|refine zg2 ?_ ?_|intro _)
  refine⟨n+1,by omega,by omega,?_⟩
  refine zag ?_;exact zp g
 ·obtain rfl:n=s.up.length:=by omega
  rw[Qtp h2]
  repeat'(first|(refine zhm fun hb=>?_;try exact zab)|(refine Qi 7 13 rfl ?_)|refine zUtp ?_|refine zg2 ?_ ?_|refine kmu i ?_|intro _)
  exact zrr

def subm(s:Qb)(j:Job):Qb:={ s with queue:=s.queue++[j] }
noncomputable def Yy (s:Qb) (j:Job):Option Qb×Int:=
 if Qf s=true/\Qm j=true then
  if(allJ s).any (fun x=>x.id==j.id)=true then(none,2)
  else if 60<=(allJ s).length then(none,3)
  else if(earO (QcW s) j 0).isSome=true then(some (Js (subm s j)),0) else(none,4)
 else(none,1)
theorem QpW{s:Qb}{j:Job}(h:Jg (allJ s))(hj:Qm j=true)(hn:¬(allJ s).any (fun x=>x.id==j.id)=true)(hl:¬60<=(allJ s).length):Jg (s.queue++[j]):=by
 have l:=h.left
 have g:s.queue.length<=(allJ s).length:=by simp[allJ]
 have c:∀i,i<s.queue.length->(nth s.queue i).id≠j.id:=fun i hi e=>by
  apply hn
  refine XaV.2 ⟨nth s.queue i,?_,by rw[e];exact beq_self_eq_true _⟩
  exact Xat _ (QE hi)
 have d:nth (s.queue++[j]) s.queue.length=j:=by rw[Jd (by simp)];simp
 have b:∀i,i<s.queue.length->nth (s.queue++[j]) i=nth s.queue i:=fun i hi=>by
  rw[Jd (by simp;omega),Jd hi,List.getElem_append_left hi]
 have el:(s.queue++[j]).length=s.queue.length+1:=by simp
 refine⟨by omega,fun i hi=>?_,fun i hi k hk=>?_⟩
 ·by_cases a:i<s.queue.length
  ·rw[b i a];exact l.jobs i a
  ·obtain rfl:i=s.queue.length:=by omega
   rw[d];exact hj
 ·have f:k<s.queue.length:=by omega
  rw[b k f]
  by_cases a:i<s.queue.length
  ·rw[b i a];exact l.diff i a k hk
  ·obtain rfl:i=s.queue.length:=by omega
   rw[d];exact c k f
theorem Qcg{n:Nat}{s:Qb}{j:Job}(h:Qo n s)(hq:s.queue.length+1<=n):Qo n (subm s j):=⟨h.par,h.nod,h.up,by simp only[subm,Xab,XaF];exact hq,h.run,h.end',h.rno⟩
@[reducible] def Qxq (s:Qb) (q:List (List D)):AV:=.agg [zL (intE s.topo.parents),zL (Qr s.topo.nodes),zL (Qk s.up),zI s.lic.a,zI s.lic.b,zI s.lic.c,zI s.depth,zI s.now,zL q,zL (runE s.runs),zL (endE s.ends)]
@[reducible] def Qwn (s:Qb) (q:List (List D)) (q1 q2:Nat):List AV:=[zL (intE s.topo.parents),zL (Qr s.topo.nodes),zL (Qk s.up),zI s.lic.a,zI s.lic.b,zI s.lic.c,zI s.depth,zI s.now,zL q,.row q1,.row q2]
theorem QxG{s:Qb}{j:Job}:Qz (subm s j)=Qxq s (jobE s.queue++[[.n .i64 j.id,.n .i64 j.prio,.n .i64 j.nodes,.n .i64 j.need.a,.n .i64 j.need.b,.n .i64 j.need.c,.n .i64 j.lic.a,.n .i64 j.lic.b,.n .i64 j.lic.c,.n .i64 j.wall,.n .i64 j.level]]):=by rw[YF];rfl
theorem QwU{s:Qb}{j:Job}{q1 q2:Nat}:W5 (subm s j) q1 q2=Qwn s (jobE s.queue++[[.n .i64 j.id,.n .i64 j.prio,.n .i64 j.nodes,.n .i64 j.need.a,.n .i64 j.need.b,.n .i64 j.need.c,.n .i64 j.lic.a,.n .i64 j.lic.b,.n .i64 j.lic.c,.n .i64 j.wall,.n .i64 j.level]]) q1 q2:=by rw[YF];rfl
structure OkP (s:Qb):Prop where
 topo:Q3 s.topo
 up:s.up.length=s.topo.nodes.length
 lic:Qh s.lic=true
 jobs:Jg (allJ s)
 depth:0<=s.depth/\s.depth<=60
theorem Qaj{s:Qb}(h:Qf s=true):OkP s:=by
 have a:=pB_t.1 h
 obtain⟨r,b⟩:=XaY.1 a.room
 have hb:=(YO b).2.2.2.1
 exact⟨hb.topo,hb.up,hb.lic,a.jobs,a.depth⟩
theorem Qlb(l:List Job)(id:Int):(VH l id).isSome=l.any (fun x=>x.id==id):=by
 unfold VH
 rw[Xan,List.find?_isSome,XaV]
theorem QsG{s:Qb}{j:Job}(hs:Qo 1048576 s):SO 179 [Qz s,jobA j] (Yy s j).1 (Yy s j).2:=by
 refine QeZ tt func179 rfl rfl rfl (fun w0 Z=>?_)
 have o:Qo 100000000 s:=hs.mono (by omega)
 have c:=YI o
 have d:=Xf (j:=j)
 unfold Yy
 cases h:Qf s with
 | false=>
  rw[h]at c
  rw[if_neg (fun h=>by cases h.1)]
  repeat'(first|refine zst ?_|(refine zhm fun hb=>?_;try exact zab)|refine zdr ?_|(apply zch;exact zcg)|refine QaP.mk fun w0 Z O=>?_|exact zhk|refine zg3 ?_ ?_|refine zln fun _=>?_|refine zop ?_|refine kc (c) rfl rfl ?_|refine kq (c) rfl rfl ?_|fail)
  exact zr [] zae zae
 | true=>
  rw[h]at c
  cases q:Qm j with
  | false=>
   rw[q]at d
   rw[if_neg (fun h=>by cases h.2)]
   repeat'(first|refine zst ?_|(refine zhm fun hb=>?_;try exact zab)|refine zdr ?_|(apply zch;exact zcg)|refine QaP.mk fun w0 Z O=>?_|exact zhk|refine zg3 ?_ ?_|refine zln fun _=>?_|refine zop ?_|refine kc (c) rfl rfl ?_|refine kc (d) rfl rfl ?_|refine kq (c) rfl rfl ?_|refine kq (d) rfl rfl ?_|fail)
   exact zr [] zae zae
  | true=>
   rw[q]at d
   rw[if_pos ⟨rfl,rfl⟩]
   have e:=Qaj h
   have ab:=e.jobs.len
   have ae:=Qj (allJ s)
   have t:=Qwy (o.mono (m:=1000000000) (by omega))
   have f:=Qkf (l:=allJ s) (id:=j.id) (by omega)
   have k:=Qdi (allJ s) fun x=>x.id==j.id
   cases w:(allJ s).any (fun x=>x.id==j.id) with
   | true=>
    rw[w,decide_eq_true_eq]at k
    rw[if_pos rfl]
    repeat'(first|refine zst ?_|(refine zhm fun hb=>?_;try exact zab)|refine zdr ?_|(apply zch;exact zcg)|refine QaP.mk fun w0 Z O=>?_|exact zhk|refine zg3 ?_ ?_|refine zln fun _=>?_|refine zop ?_|refine kc (c) rfl rfl ?_|refine kc (d) rfl rfl ?_|refine kc (f) rfl rfl ?_|(refine km [] (t) rfl rfl (fun i hi=>?_);(try dsimp only at hi))|refine kq (c) rfl rfl ?_|refine kq (d) rfl rfl ?_|refine kq (f) rfl rfl ?_|fail)
    exact zr [] zae zae
   | false=>
    rw[w,decide_eq_false_iff_not]at k
    rw[if_neg (show ¬(false=true) by decide)]
    by_cases v:60<=(allJ s).length
    ·rw[if_pos v]
     repeat'(first|refine zst ?_|(refine zhm fun hb=>?_;try exact zab)|refine zdr ?_|(apply zch;exact zcg)|refine QaP.mk fun w0 Z O=>?_|exact zhk|refine zg3 ?_ ?_|refine zln fun _=>?_|refine zop ?_|refine kc (c) rfl rfl ?_|refine kc (d) rfl rfl ?_|refine kc (f) rfl rfl ?_|(refine km [] (t) rfl rfl (fun i hi=>?_);(try dsimp only at hi))|refine kq (c) rfl rfl ?_|refine kq (d) rfl rfl ?_|refine kq (f) rfl rfl ?_|fail)
     exact zr [] zae zae
    ·rw[if_neg v]
     have hn:=e.topo.nlen
     have ai:s.queue.length<=(allJ s).length:=by simp[allJ]
     have ah:=Qj s.queue
     repeat'(first|refine zst ?_|(refine zhm fun hb=>?_;try exact zab)|refine zdr ?_|(apply zch;exact zcg)|refine QaP.mk fun w0 Z O=>?_|exact zhk|refine zg3 ?_ ?_|refine zln fun _=>?_|refine zop ?_|refine kc (c) rfl rfl ?_|refine kc (d) rfl rfl ?_|refine kc (f) rfl rfl ?_|(refine km [] (t) rfl rfl (fun i hi=>?_);(try dsimp only at hi))|refine kq (c) rfl rfl ?_|refine kq (d) rfl rfl ?_|refine kq (f) rfl rfl ?_|fail)
     refine Qa (fun(n:Nat)=>⟨68,[(2,.ptr 2 0),(3,.ptr 3 0),(4,.ptr 4 0),(7,.row 32),(36,zI (s.topo.nodes.length:Nat)),(37,zI n)],[(2,.box 34 (JI s)),(3,.box 40 (jobC j)),(4,.box 34 ctl0),(32,.row 4 (Qk (List.replicate n true)) true)]⟩) (fun n=>n<=s.topo.nodes.length) (fun n=>s.topo.nodes.length-n) 0 (by exact Xae _) ?_ ?_
     ·refine⟨rfl,?_,?_,rfl⟩
      repeat'(first|apply And.intro|exact ze0|refine ze1 ?_|refine zei ?_ ?_|exact rfl|trivial)
      all_goals exact zp (by first|rfl|exact Qw _)
     intro n ag
     have ac:(Qk (List.replicate n true)).length=n:=by rw[Qq,Xbt]
     have ad:(List.replicate n true).length=n:=Xbt
     by_cases af:n<s.topo.nodes.length
     ·have z:Qk (List.replicate n true)++[[.b true]]=Qk (List.replicate (n+1) true):=by rw[List.replicate_succ'];simp[Qk]
      repeat'(first|refine zst ?_|(refine zhm fun hb=>?_;try exact zab)|refine zdr ?_|(apply zch;exact zcg)|refine QaP.mk fun w0 Z O=>?_|exact zhk|refine zg3 ?_ ?_|refine zln fun _=>?_|refine zop ?_|fail)
      refine⟨n+1,by omega,by omega,?_⟩
      refine⟨rfl,?_,?_,rfl⟩
      repeat'(first|apply And.intro|exact ze0|refine ze1 ?_|refine zei ?_ ?_|exact rfl|trivial)
      all_goals exact zp (by first|rfl|exact z)
     ·obtain rfl:n=s.topo.nodes.length:=by omega
      rw[show List.replicate s.topo.nodes.length true=Qir s from rfl]
      have c5:=QpH (up:=Qir s) e.topo (by simp[Qir]) e.lic
      have g:=QnK (r:=QcW s) (j:=j) (a:=0) (Qpx e.topo e.lic) q (by omega)
      unfold QcW at g
      cases p:earO (Jf s.topo (Qir s) s.lic) j 0 with
      | none=>
       rw[p]at g
       rw[if_neg (show ¬((earO (QcW s) j 0).isSome=true) by rw[QcW,p];decide)]
       repeat'(first|(refine Qi 13 32 rfl ?_)|refine zst ?_|(refine zhm fun hb=>?_;try exact zab)|(apply QY 13;kernel_rfl;exact rfl)|refine zdr ?_|(apply zch;exact zcg)|refine QaP.mk fun w0 Z O=>?_|exact zhk|refine zg3 ?_ ?_|refine zln fun _=>?_|refine zop ?_|(refine km [] (c5) rfl rfl (fun i hi=>?_);(try dsimp only at hi))|(refine km [] (g) rfl rfl (fun i hi=>?_);(try dsimp only at hi))|fail)
       exact zr [] zae zae
      | some x=>
       rw[p]at g
       rw[if_pos (show(earO (QcW s) j 0).isSome=true by rw[QcW,p];rfl)]
       have y:=Qcg (j:=j) o (by omega)
       have u:=VD (s:=subm s j) y ⟨QpW e.jobs q (by rw[w];decide) v,e.depth⟩
       rw[QxG]at u
       repeat'(first|(refine Qi 13 32 rfl ?_)|refine zst ?_|(refine zhm fun hb=>?_;try exact zab)|(apply QY 13;kernel_rfl;exact rfl)|refine zdr ?_|(apply zch;exact zcg)|refine QaP.mk fun w0 Z O=>?_|exact zhk|refine zg3 ?_ ?_|refine zln fun _=>?_|refine zop ?_|refine kc (Q4 o) rfl rfl ?_|refine kc (u) rfl rfl ?_|(refine km [] (c5) rfl rfl (fun i hi=>?_);(try dsimp only at hi))|(refine km [] (g) rfl rfl (fun i hi=>?_);(try dsimp only at hi))|refine kq (Q4 o) rfl rfl ?_|refine kq (u) rfl rfl ?_|fail)
       exact zr [67,1067,2067,3067,4067,5067] zae zae
theorem Qth{s:Qb}{j:Job}(hs:Qo 1048576 s):SS 284 [Qz s,jobA j] (Yy s j).1 (Yy s j).2:=by
 refine zMC func284 fun w0 Z O=>?_
 have c:Qo 100000000 s:=hs.mono (by omega)
 have n:=Y3 c
 have o:=Qe6 (j:=j)
 unfold Yy
 cases h:Qf s with
 | false=>
  rw[h]at n
  rw[if_neg (fun h=>by cases h.1)]
  repeat'(first|(refine zhm fun hb=>?_;try exact zab)|refine zUrp ?_|refine zg2 ?_ ?_|intro _)
  exact zDR
 | true=>
  rw[h]at n
  cases e:Qm j with
  | false=>
   rw[e]at o
   rw[if_neg (fun h=>by cases h.2)]
   repeat'(first|(refine zhm fun hb=>?_;try exact zab)|refine zUrp ?_|refine zg2 ?_ ?_|intro _)
   exact zDR
  | true=>
   rw[e]at o
   rw[if_pos ⟨rfl,rfl⟩]
   have b:=Qaj h
   have u:=b.jobs.len
   have v:=Qj (allJ s)
   have d:=QbJ (c.mono (m:=1000000000) (by omega))
   have p:=Qa8 (l:=allJ s) (id:=j.id) (by omega)
   have a:=Qlb (allJ s) j.id
   cases g:(allJ s).any (fun x=>x.id==j.id) with
   | true=>
    rw[g]at a
    rw[a]at p
    rw[if_pos rfl]
    repeat'(first|(refine zhm fun hb=>?_;try exact zab)|refine zUrp ?_|refine zg2 ?_ ?_|refine kmu d ?_|intro _)
    exact zDR
   | false=>
    rw[g]at a
    rw[a]at p
    rw[if_neg (show ¬(false=true) by decide)]
    by_cases f:60<=(allJ s).length
    ·rw[if_pos f]
     repeat'(first|(refine zhm fun hb=>?_;try exact zab)|refine zUrp ?_|refine zg2 ?_ ?_|refine kmu d ?_|intro _)
     exact zDR
    ·rw[if_neg f]
     have y:s.queue.length<=(allJ s).length:=by simp[allJ]
     have w:=Qj s.queue
     have q:=QnF (j:=j) b.topo b.up b.lic e (c.mono (m:=1000000000) (by omega))
     cases t:(earO (QcW s) j 0).isSome with
     | false=>
      rw[t]at q
      rw[if_neg (show ¬(false=true) by decide)]
      repeat'(first|(refine zhm fun hb=>?_;try exact zab)|refine zUrp ?_|refine zg2 ?_ ?_|refine kmu d ?_|intro _)
      exact zDR
     | true=>
      rw[t]at q
      rw[if_pos rfl]
      have k:=Qcg (j:=j) c (by omega)
      have r:=Wz (s:=subm s j) k ⟨QpW b.jobs e (by rw[g];decide) f,b.depth⟩
      rw[QwU]at r
      repeat'(first|(refine zhm fun hb=>?_;try exact zab)|(refine Qi 13 39 rfl ?_)|refine zUrp ?_|refine zg2 ?_ ?_|refine kmu d ?_|refine kmu (QpC c) ?_|(refine kn [1039,2039] (r) rfl rfl (fun i hi=>?_);try dsimp only at hi)|intro _)
      show AWp _ _ _ _
      refine Qp 47 rfl ?_
      show AWp _ _ _ _
      refine Qp 1047 rfl ?_
      exact zDR
theorem QgP{s:Qb}{j:Job}(hs:Qo 1048576 s):∀s',(Yy s j).1=some s'->Qo 1048576 s':=fun s' h=>by
 unfold Yy at h
 split at h
 ·rename_i a
  have b:=Qaj a.1
  have e:=b.jobs.len
  have f:s.queue.length<=(allJ s).length:=by simp[allJ]
  split at h
  ·cases h
  ·rename_i c
   split at h
   ·cases h
   ·rename_i d
    split at h
    ·cases h
     exact VA ⟨QpW b.jobs a.2 c d,b.depth⟩ (Qcg hs (by omega)) (by have:=Qax a.1;simp only[subm];omega)
    ·cases h
 ·cases h
end
end Go.Proofs.YtkdniahincpmaaaGreat
