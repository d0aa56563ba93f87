/-
  The empty room of the reference with a row of its own of the nodes that are up; whether a job could start alone.
-/
import Derived.Test.YtkdniahincpmaaaGreatKB28
set_option maxRecDepth 100000
set_option maxHeartbeats 16000000
namespace Go.Proofs.YtkdniahincpmaaaGreat
open Go Go.RowKit Tryz
section
attribute [local irreducible] AWp QI OpOk ACalls ChA QsOk MCalls NCalls EnC PY

@[reducible] def QwP (r:Jm) (q:Nat):AV:=.agg [zL (intE r.topo.parents),zL (Qw r.topo.nodes),.row q,zL (Q8 r.profs),zL (ptE r.lics)]
theorem QoZ{r:Jm}(h:Q4 r)(h0:0<r.profs.length):MCalls Tryz.prog 271 [Wq r] [] (fun _:Unit=>True) (fun _=>[QwP r 0]) (fun _=>[]) (fun _=>[(0,.row 4 (Qp r.up) true)]):=by
 refine zMC func271 fun w0 Z O=>?_
 have hs:=h.small
 have i:=Qx r.up
 have o:=Qz r.topo.nodes
 have s:=QB r.profs
 have j:=Qc r.topo.parents
 repeat'(first|(refine zhm fun hb=>?_;try exact zab)|(refine Qh 3 14 rfl ?_)|(refine Qh 3 19 rfl ?_)|refine Qd ?_|(apply zch;exact zcg)|exact zhk|refine zg3 ?_ ?_|refine kmu (Vd (l:=r.lics) (by omega)) ?_|intro _)
 refine Qa (fun(k:Nat×List (List Pt))=>⟨42,[(2,.ptr 2 0),(3,.ptr 3 0),(27,zL (Q8 r.profs)),(28,zI (r.profs.length:Nat)),(29,zI k.1)],[(2,.box 180 [.nil,.nil,.nil,.nil,.nil]),(3,.box 180 [zL (intE r.topo.parents),zL (Qw r.topo.nodes),.row 6,slN 38 (Q8 k.2),zL (ptE r.lics)]),(6,.row 4 (Qp r.up) true)]++slO 38 178 (Q8 k.2)⟩) (fun k=>k.1<=r.profs.length/\k.2=r.profs.take k.1) (fun k=>r.profs.length-k.1) (0,[]) (by exact⟨Xad _,rfl⟩) ?_ ?_
 ·exact zll
 ·rintro ⟨n,a⟩ ⟨m,e⟩
  dsimp only at m e ⊢
  have p:a.length=n:=by rw[e,Xah];omega
  have f:=QB a
  by_cases d:n<r.profs.length
  ·have q:=h.profs n d
   have g:=q.len
   have c:=Qo d
   rw[<-e]at c
   cases a with
   | nil=>
    repeat'(first|(refine zhm fun hb=>?_;try exact zab)|refine Qd ?_|(apply zch;exact zcg)|exact zhk|refine zg3 ?_ ?_|refine kmu (Vd (l:=nth r.profs n) (by omega)) ?_|intro _)
    refine⟨(n+1,[]++[nth r.profs n]),⟨by omega,c.symm⟩,by omega,?_⟩
    exact zll
   | cons p0 o0=>
    repeat'(first|(refine zhm fun hb=>?_;try exact zab)|refine Qd ?_|(apply zch;exact zcg)|exact zhk|refine zg3 ?_ ?_|refine kmu (Vd (l:=nth r.profs n) (by omega)) ?_|intro _)
    refine⟨(n+1,(p0::o0)++[nth r.profs n]),⟨by omega,c.symm⟩,by omega,?_⟩
    refine zag ?_;exact zp (Wa (p0::o0) _)
  ·have b:a=r.profs:=by rw[e,Xas (by omega)]
   cases a with
   | nil=>rw[<-b]at h0;cases h0
   | cons p0 o0=>
    repeat'(first|(refine zhm fun hb=>?_;try exact zab)|refine QR ?_|(apply zch;exact zcg)|exact zhk|refine zg3 ?_ ?_|intro _)
    show AWp _ _ _ _
    refine Qr 38 rfl ?_
    show AWp _ _ _ _
    refine QA ?_
    apply Qu
    refine zm () [6] trivial ?_ ?_ ?_
    repeat'(first|exact ze3|refine ze2 ?_ ?_|refine ze4 ?_|exact ze5|fail)
    all_goals exact zp (by first|rfl|rw[b])
theorem Qnx{tp:QT}{up:List Bool}{li:List Pt}(h:Q4 ⟨tp,up,[],li⟩):MCalls Tryz.prog 271 [.agg [zL (intE tp.parents),zL (Qw tp.nodes),zL (Qp up),.nil,zL (ptE li)]] [] (fun _:Unit=>True) (fun _=>[QwP ⟨tp,up,[],li⟩ 0]) (fun _=>[]) (fun _=>[(0,.row 4 (Qp up) true)]):=by
 refine zMC func271 fun w0 Z O=>?_
 have d:=h.small
 dsimp only at d
 have a:=Qx up
 have c:=Qz tp.nodes
 have b:=Qc tp.parents
 repeat'(first|(refine zhm fun hb=>?_;try exact zab)|(refine Qh 3 14 rfl ?_)|(refine Qh 3 19 rfl ?_)|refine Qd ?_|(apply zch;exact zcg)|exact zhk|refine zg3 ?_ ?_|refine kmu (Vd (l:=li) (by omega)) ?_|intro _)
 refine Qa (fun(_:Unit)=>⟨42,[(2,.ptr 2 0),(3,.ptr 3 0),(27,.nil),(28,zI 0),(29,zI 0)],[(2,.box 180 [.nil,.nil,.nil,.nil,.nil]),(3,.box 180 [zL (intE tp.parents),zL (Qw tp.nodes),.row 6,.nil,zL (ptE li)]),(6,.row 4 (Qp up) true)]⟩) (fun _=>True) (fun _=>0) () trivial ?_ ?_
 ·exact zll
 ·intro _ _
  repeat'(first|(refine zhm fun hb=>?_;try exact zab)|refine QR ?_|(apply zch;exact zcg)|exact zhk|refine zg3 ?_ ?_|intro _)
  show AWp _ _ _ _
  refine QA ?_
  apply Qu
  exact zm () [6] trivial zae zae zae
theorem Qob{s:Qb}(ht:QW s.topo)(h2:s.up.length=s.topo.nodes.length)(h3:Qf s.lic=true)(hs:Qj 1000000000 s):MCalls Tryz.prog 210 [Qt s] [] (fun _:Unit=>True) (fun _=>[QwP (Jd s.topo s.up s.lic) 0,.d (.b true)]) (fun _=>[]) (fun _=>[(0,.row 4 (Qp s.up) true)]):=by
 refine zMC func210 fun w0 Z O=>?_
 have x:=Qx s.up
 have z:=Qz s.topo.nodes
 have ac:=hs.up
 have aa:=hs.nod
 have r:=ZU (t:=s.topo) hs.par hs.nod
 have u:=J5 (v:=s.lic)
 have w:=JY.2 ht
 rw[w]at r
 rw[h3]at u
 have h4:=ht.len
 have h5:=ht.nlen
 have h:=W3 ht h2 h3
 have o:(Jd s.topo s.up s.lic).profs=XV s.topo.nodes:=rfl
 repeat'(first|(refine zhm fun hb=>?_;try exact zab)|refine zUtp ?_|refine zg2 ?_ ?_|intro _)
 refine Qa (fun(k:Nat×List (List Pt))=>⟨65,[(1,.ptr 1 0),(2,.ptr 2 0),(4,.ptr 4 0),(37,zL (Qw s.topo.nodes)),(38,zI (s.topo.nodes.length:Nat)),(39,zI k.1)],[(1,.box 34 (Q3 s)),(2,.box 180 [.nil,.nil,.nil,.nil,.nil]),(4,.box 180 [zL (intE s.topo.parents),zL (Qw s.topo.nodes),zL (Qp s.up),slN 53 (Q8 k.2),.nil])]++slO 53 178 (Q8 k.2)⟩) (fun k=>k.1<=s.topo.nodes.length/\k.2=XV (s.topo.nodes.take k.1)) (fun k=>s.topo.nodes.length-k.1) (0,[]) (by exact⟨Xad _,rfl⟩) ?_ ?_
 ·exact zll
 ·rintro ⟨n,g⟩ ⟨y,m⟩
  dsimp only at y m ⊢
  have ab:g.length=n:=by rw[m,XV,XaB,Xah];omega
  have q:=QB g
  by_cases l:n<s.topo.nodes.length
  ·have i:=Qal l
   rw[<-m]at i
   have p:=ht.nodes n l
   cases g with
   | nil=>
    repeat'(first|(refine zhm fun hb=>?_;try exact zab)|(refine Qh 8 46 rfl ?_)|refine zUtp ?_|refine zg2 ?_ ?_|refine kc (Yn (v:=(nth s.topo.nodes n).cap) p.2.2) rfl rfl ?_|intro _)
    refine⟨(n+1,[]++[[⟨0,(nth s.topo.nodes n).cap⟩]]),⟨by omega,i.symm⟩,by omega,?_⟩
    exact zll
   | cons p0 o0=>
    repeat'(first|(refine zhm fun hb=>?_;try exact zab)|(refine Qh 8 46 rfl ?_)|refine zUtp ?_|refine zg2 ?_ ?_|refine kc (Yn (v:=(nth s.topo.nodes n).cap) p.2.2) rfl rfl ?_|intro _)
    refine⟨(n+1,(p0::o0)++[[⟨0,(nth s.topo.nodes n).cap⟩]]),⟨by omega,i.symm⟩,by omega,?_⟩
    refine zag ?_;exact zp (Wa (p0::o0) _)
  ·have e:XV s.topo.nodes=g:=by rw[m,Xas (by omega)]
   cases g with
   | nil=>
    have f:=Qnx (tp:=s.topo) (up:=s.up) (li:=[⟨0,s.lic⟩]) (by unfold Jd at h;rw[show(s.topo.nodes.map fun n=>[(⟨0,n.cap⟩:Pt)])=[] from e]at h;exact h)
    unfold Jd
    rw[show(s.topo.nodes.map fun n=>[(⟨0,n.cap⟩:Pt)])=[] from e]
    repeat'(first|(refine zhm fun hb=>?_;try exact zab)|(refine Qh 11 59 rfl ?_)|refine zUrp ?_|refine zg2 ?_ ?_|refine kc (Yn (v:=s.lic) h3) rfl rfl ?_|refine kmu f ?_|intro _)
    show AWp _ _ _ _
    refine QA ?_
    apply Qu
    exact zm () [64] trivial zae zae zae
   | cons p0 o0=>
    have f:=QoZ h (by rw[o,e];exact Xco _)
    unfold Jd at f
    rw[show(s.topo.nodes.map fun n=>[(⟨0,n.cap⟩:Pt)])=p0::o0 from e]at f
    unfold Jd
    rw[show(s.topo.nodes.map fun n=>[(⟨0,n.cap⟩:Pt)])=p0::o0 from e]
    repeat'(first|(refine zhm fun hb=>?_;try exact zab)|(refine Qh 11 59 rfl ?_)|(refine Qh 11 53 rfl ?_)|refine zUrp ?_|refine zg2 ?_ ?_|refine kc (Yn (v:=s.lic) h3) rfl rfl ?_|refine kmu f ?_|intro _)
    show AWp _ _ _ _
    refine QA ?_
    apply Qu
    exact zm () [64] trivial zae zae zae
@[reducible] def jobC (j:Job):List AV:=[zI j.id,zI j.prio,zI j.nodes,zI j.need.a,zI j.need.b,zI j.need.c,zI j.lic.a,zI j.lic.b,zI j.lic.c,zI j.wall,zI j.level]
def Qjz(s:Qb):List Bool:=List.replicate s.topo.nodes.length true
def Qc7(s:Qb):Jm:=Jd s.topo (Qjz s) s.lic
theorem QrJ{s:Qb}(ht:QW s.topo)(h3:Qf s.lic=true):Q4 (Qc7 s):=W3 ht (by simp[Qjz]) h3
def upTo(s:Qb)(i:Nat):List Bool:=List.replicate i true++s.up.drop i
theorem Qm3{s:Qb}{i:Nat}(h:i<=s.up.length):(upTo s i).length=s.up.length:=by simp[upTo];omega
theorem Qqo{s:Qb}{i:Nat}(h:i<s.up.length):(Qp (upTo s i)).set i [.b true]=Qp (upTo s (i+1)):=by
 rw[show(Qp (upTo s i)).set i [.b true]=Qp ((upTo s i).set i true) by simp[Qp,List.map_set]]
 congr 1
 unfold upTo
 rw[Xcm _ _ (by simp),Xbm h,Xbd,XcA,Xcf,Xcs,Xaq]
 rfl
theorem Qsm{s:Qb}(h:s.up.length=s.topo.nodes.length):upTo s s.up.length=Qjz s:=by
 unfold upTo Qjz
 rw[h,List.drop_of_length_le (by omega),XaS]
theorem QnC{s:Qb}{j:Job}(ht:QW s.topo)(h2:s.up.length=s.topo.nodes.length)(h3:Qf s.lic=true)(hj:Qk j=true)(hs:Qj 1000000000 s):zAc 314 [Qt s,jobA j] [.d (.b (earO (Qc7 s) j 0).isSome)] []:=by
 refine zAC func314 fun w0 Z=>?_
 have h:=Qob ht h2 h3 hs
 have i:=QcD (r:=Qc7 s) (j:=j) (a:=0) (QrJ ht h3) hj (by omega)
 have e:∀n,n<=s.up.length->(Qp (upTo s n)).length=s.up.length:=fun n c=>by rw[Qx,Qm3 c]
 have o:=hs.up
 have l:=ht.nlen
 repeat'(first|(refine zhm fun hb=>?_;try exact zab)|refine zUtp ?_|refine zg2 ?_ ?_|refine kmu h ?_|intro _)
 refine Qa (fun(n:Nat)=>⟨38,[(3,.ptr 3 0),(5,.ptr 5 0),(6,.d (.b true)),(18,zI (s.up.length:Nat)),(19,zI n)],[(3,.box 40 (jobC j)),(5,.box 180 [zL (intE s.topo.parents),zL (Qw s.topo.nodes),.row 13,zL (Q8 (Qc7 s).profs),zL (ptE [⟨0,s.lic⟩])]),(13,.row 4 (Qp (upTo s n)) true)]⟩) (fun n=>n<=s.up.length) (fun n=>s.up.length-n) 0 (by exact Xad _) ?_ ?_
 ·exact zll
 intro n c
 have k:=e n c
 have m:=Qm3 c
 by_cases f:n<s.up.length
 ·have g:=Qqo f
  repeat'(first|(refine zhm fun hb=>?_;try exact zab)|refine zUtp ?_|refine zg2 ?_ ?_|intro _)
  refine⟨n+1,by omega,by omega,?_⟩
  refine zag ?_;exact zp g
 ·obtain rfl:n=s.up.length:=by omega
  rw[Qsm h2]
  repeat'(first|(refine zhm fun hb=>?_;try exact zab)|(refine Qh 7 13 rfl ?_)|refine zUtp ?_|refine zg2 ?_ ?_|refine kmu i ?_|intro _)
  exact zrr

def subm(s:Qb)(j:Job):Qb:={ s with queue:=s.queue++[j] }
noncomputable def Yx (s:Qb) (j:Job):Option Qb×Int:=
 if Qe s=true/\Qk j=true then
  if(allJ s).any (fun x=>x.id==j.id)=true then(none,2)
  else if 60<=(allJ s).length then(none,3)
  else if(earO (Qc7 s) j 0).isSome=true then(some (Jr (subm s j)),0) else(none,4)
 else(none,1)
theorem Qoz{s:Qb}{j:Job}(h:Je (allJ s))(hj:Qk j=true)(hn:¬(allJ s).any (fun x=>x.id==j.id)=true)(hl:¬60<=(allJ s).length):Je (s.queue++[j]):=by
 have l:=h.left
 have g:s.queue.length<=(allJ s).length:=by simp[allJ]
 have c:∀i,i<s.queue.length->(nth s.queue i).id≠j.id:=fun i hi e=>by
  apply hn
  refine XaX.2 ⟨nth s.queue i,?_,by rw[e];exact beq_self_eq_true _⟩
  exact Xau _ (QC hi)
 have d:nth (s.queue++[j]) s.queue.length=j:=by rw[Jb (by simp)];simp
 have b:∀i,i<s.queue.length->nth (s.queue++[j]) i=nth s.queue i:=fun i hi=>by
  rw[Jb (by simp;omega),Jb hi,List.getElem_append_left hi]
 have el:(s.queue++[j]).length=s.queue.length+1:=by simp
 refine⟨by omega,fun i hi=>?_,fun i hi k hk=>?_⟩
 ·by_cases a:i<s.queue.length
  ·rw[b i a];exact l.jobs i a
  ·obtain rfl:i=s.queue.length:=by omega
   rw[d];exact hj
 ·have f:k<s.queue.length:=by omega
  rw[b k f]
  by_cases a:i<s.queue.length
  ·rw[b i a];exact l.diff i a k hk
  ·obtain rfl:i=s.queue.length:=by omega
   rw[d];exact c k f
theorem Qce{n:Nat}{s:Qb}{j:Job}(h:Qj n s)(hq:s.queue.length+1<=n):Qj n (subm s j):=⟨h.par,h.nod,h.up,by simp only[subm,Xaa,Xap];exact hq,h.run,h.end',h.rno⟩
@[reducible] def Qyb (s:Qb) (q:List (List D)):AV:=.agg [zL (intE s.topo.parents),zL (Qw s.topo.nodes),zL (Qp s.up),zI s.lic.a,zI s.lic.b,zI s.lic.c,zI s.depth,zI s.now,zL q,zL (runE s.runs),zL (endE s.ends)]
@[reducible] def Qwr (s:Qb) (q:List (List D)) (q1 q2:Nat):List AV:=[zL (intE s.topo.parents),zL (Qw s.topo.nodes),zL (Qp s.up),zI s.lic.a,zI s.lic.b,zI s.lic.c,zI s.depth,zI s.now,zL q,.row q1,.row q2]
theorem QxH{s:Qb}{j:Job}:Qt (subm s j)=Qyb s (jobE s.queue++[[.n .i64 j.id,.n .i64 j.prio,.n .i64 j.nodes,.n .i64 j.need.a,.n .i64 j.need.b,.n .i64 j.need.c,.n .i64 j.lic.a,.n .i64 j.lic.b,.n .i64 j.lic.c,.n .i64 j.wall,.n .i64 j.level]]):=by rw[YF];rfl
theorem Qyg{s:Qb}{j:Job}{q1 q2:Nat}:W9 (subm s j) q1 q2=Qwr s (jobE s.queue++[[.n .i64 j.id,.n .i64 j.prio,.n .i64 j.nodes,.n .i64 j.need.a,.n .i64 j.need.b,.n .i64 j.need.c,.n .i64 j.lic.a,.n .i64 j.lic.b,.n .i64 j.lic.c,.n .i64 j.wall,.n .i64 j.level]]) q1 q2:=by rw[YF];rfl
structure OkP (s:Qb):Prop where
 topo:QW s.topo
 up:s.up.length=s.topo.nodes.length
 lic:Qf s.lic=true
 jobs:Je (allJ s)
 depth:0<=s.depth/\s.depth<=60
theorem Zl{s:Qb}(h:Qe s=true):OkP s:=by
 have a:=pB_t.1 h
 obtain⟨r,b⟩:=XaO.1 a.room
 have hb:=(Yo b).2.2.2.1
 exact⟨hb.topo,hb.up,hb.lic,a.jobs,a.depth⟩
theorem Qmg(l:List Job)(id:Int):(VD l id).isSome=l.any (fun x=>x.id==id):=by
 unfold VD
 rw[Xam,List.find?_isSome,XaX]
theorem Qsw{s:Qb}{j:Job}(hs:Qj 1048576 s):SO 179 [Qt s,jobA j] (Yx s j).1 (Yx s j).2:=by
 refine Qbf tt func179 rfl rfl rfl (fun w0 Z=>?_)
 have o:Qj 100000000 s:=hs.mono (by omega)
 have c:=JX o
 have d:=XT (j:=j)
 unfold Yx
 cases h:Qe s with
 | false=>
  rw[h]at c
  rw[if_neg (fun h=>by cases h.1)]
  repeat'(first|refine zst ?_|(refine zhm fun hb=>?_;try exact zab)|refine zdr ?_|(apply zch;exact zcg)|refine VC.mk fun w0 Z O=>?_|exact zhk|refine zg3 ?_ ?_|refine zln fun _=>?_|refine zop ?_|refine kc (c) rfl rfl ?_|refine kq (c) rfl rfl ?_|fail)
  exact zr [] zae zae
 | true=>
  rw[h]at c
  cases q:Qk j with
  | false=>
   rw[q]at d
   rw[if_neg (fun h=>by cases h.2)]
   repeat'(first|refine zst ?_|(refine zhm fun hb=>?_;try exact zab)|refine zdr ?_|(apply zch;exact zcg)|refine VC.mk fun w0 Z O=>?_|exact zhk|refine zg3 ?_ ?_|refine zln fun _=>?_|refine zop ?_|refine kc (c) rfl rfl ?_|refine kc (d) rfl rfl ?_|refine kq (c) rfl rfl ?_|refine kq (d) rfl rfl ?_|fail)
   exact zr [] zae zae
  | true=>
   rw[q]at d
   rw[if_pos ⟨rfl,rfl⟩]
   have e:=Zl h
   have ab:=e.jobs.len
   have ae:=Ql (allJ s)
   have t:=Qvl (o.mono (m:=1000000000) (by omega))
   have f:=Qkf (l:=allJ s) (id:=j.id) (by omega)
   have k:=Qdp (allJ s) fun x=>x.id==j.id
   cases w:(allJ s).any (fun x=>x.id==j.id) with
   | true=>
    rw[w,decide_eq_true_eq]at k
    rw[if_pos rfl]
    repeat'(first|refine zst ?_|(refine zhm fun hb=>?_;try exact zab)|refine zdr ?_|(apply zch;exact zcg)|refine VC.mk fun w0 Z O=>?_|exact zhk|refine zg3 ?_ ?_|refine zln fun _=>?_|refine zop ?_|refine kc (c) rfl rfl ?_|refine kc (d) rfl rfl ?_|refine kc (f) rfl rfl ?_|(refine km [] (t) rfl rfl (fun i hi=>?_);(try dsimp only at hi))|refine kq (c) rfl rfl ?_|refine kq (d) rfl rfl ?_|refine kq (f) rfl rfl ?_|fail)
    exact zr [] zae zae
   | false=>
    rw[w,decide_eq_false_iff_not]at k
    rw[if_neg (show ¬(false=true) by decide)]
    by_cases v:60<=(allJ s).length
    ·rw[if_pos v]
     repeat'(first|refine zst ?_|(refine zhm fun hb=>?_;try exact zab)|refine zdr ?_|(apply zch;exact zcg)|refine VC.mk fun w0 Z O=>?_|exact zhk|refine zg3 ?_ ?_|refine zln fun _=>?_|refine zop ?_|refine kc (c) rfl rfl ?_|refine kc (d) rfl rfl ?_|refine kc (f) rfl rfl ?_|(refine km [] (t) rfl rfl (fun i hi=>?_);(try dsimp only at hi))|refine kq (c) rfl rfl ?_|refine kq (d) rfl rfl ?_|refine kq (f) rfl rfl ?_|fail)
     exact zr [] zae zae
    ·rw[if_neg v]
     have hn:=e.topo.nlen
     have ai:s.queue.length<=(allJ s).length:=by simp[allJ]
     have ah:=Ql s.queue
     repeat'(first|refine zst ?_|(refine zhm fun hb=>?_;try exact zab)|refine zdr ?_|(apply zch;exact zcg)|refine VC.mk fun w0 Z O=>?_|exact zhk|refine zg3 ?_ ?_|refine zln fun _=>?_|refine zop ?_|refine kc (c) rfl rfl ?_|refine kc (d) rfl rfl ?_|refine kc (f) rfl rfl ?_|(refine km [] (t) rfl rfl (fun i hi=>?_);(try dsimp only at hi))|refine kq (c) rfl rfl ?_|refine kq (d) rfl rfl ?_|refine kq (f) rfl rfl ?_|fail)
     refine Qa (fun(n:Nat)=>⟨68,[(2,.ptr 2 0),(3,.ptr 3 0),(4,.ptr 4 0),(7,.row 32),(36,zI (s.topo.nodes.length:Nat)),(37,zI n)],[(2,.box 34 (Q3 s)),(3,.box 40 (jobC j)),(4,.box 34 ctl0),(32,.row 4 (Qp (List.replicate n true)) true)]⟩) (fun n=>n<=s.topo.nodes.length) (fun n=>s.topo.nodes.length-n) 0 (by exact Xad _) ?_ ?_
     ·refine⟨rfl,?_,?_,rfl⟩
      repeat'(first|apply And.intro|exact ze0|refine ze1 ?_|refine zei ?_ ?_|exact rfl|trivial)
      all_goals exact zp (by first|rfl|exact Qz _)
     intro n ag
     have ac:(Qp (List.replicate n true)).length=n:=by rw[Qx,Xbd]
     have ad:(List.replicate n true).length=n:=Xbd
     by_cases af:n<s.topo.nodes.length
     ·have z:Qp (List.replicate n true)++[[.b true]]=Qp (List.replicate (n+1) true):=by rw[List.replicate_succ'];simp[Qp]
      repeat'(first|refine zst ?_|(refine zhm fun hb=>?_;try exact zab)|refine zdr ?_|(apply zch;exact zcg)|refine VC.mk fun w0 Z O=>?_|exact zhk|refine zg3 ?_ ?_|refine zln fun _=>?_|refine zop ?_|fail)
      refine⟨n+1,by omega,by omega,?_⟩
      refine⟨rfl,?_,?_,rfl⟩
      repeat'(first|apply And.intro|exact ze0|refine ze1 ?_|refine zei ?_ ?_|exact rfl|trivial)
      all_goals exact zp (by first|rfl|exact z)
     ·obtain rfl:n=s.topo.nodes.length:=by omega
      rw[show List.replicate s.topo.nodes.length true=Qjz s from rfl]
      have c5:=Qpu (up:=Qjz s) e.topo (by simp[Qjz]) e.lic
      have g:=QnI (r:=Qc7 s) (j:=j) (a:=0) (QrJ e.topo e.lic) q (by omega)
      unfold Qc7 at g
      cases p:earO (Jd s.topo (Qjz s) s.lic) j 0 with
      | none=>
       rw[p]at g
       rw[if_neg (show ¬((earO (Qc7 s) j 0).isSome=true) by rw[Qc7,p];decide)]
       repeat'(first|(refine Qh 13 32 rfl ?_)|refine zst ?_|(refine zhm fun hb=>?_;try exact zab)|(apply QP 13;kernel_rfl;exact rfl)|refine zdr ?_|(apply zch;exact zcg)|refine VC.mk fun w0 Z O=>?_|exact zhk|refine zg3 ?_ ?_|refine zln fun _=>?_|refine zop ?_|(refine km [] (c5) rfl rfl (fun i hi=>?_);(try dsimp only at hi))|(refine km [] (g) rfl rfl (fun i hi=>?_);(try dsimp only at hi))|fail)
       exact zr [] zae zae
      | some x=>
       rw[p]at g
       rw[if_pos (show(earO (Qc7 s) j 0).isSome=true by rw[Qc7,p];rfl)]
       have y:=Qce (j:=j) o (by omega)
       have u:=VR (s:=subm s j) y ⟨Qoz e.jobs q (by rw[w];decide) v,e.depth⟩
       rw[QxH]at u
       repeat'(first|(refine Qh 13 32 rfl ?_)|refine zst ?_|(refine zhm fun hb=>?_;try exact zab)|(apply QP 13;kernel_rfl;exact rfl)|refine zdr ?_|(apply zch;exact zcg)|refine VC.mk fun w0 Z O=>?_|exact zhk|refine zg3 ?_ ?_|refine zln fun _=>?_|refine zop ?_|refine kc (Q2 o) rfl rfl ?_|refine kc (u) rfl rfl ?_|(refine km [] (c5) rfl rfl (fun i hi=>?_);(try dsimp only at hi))|(refine km [] (g) rfl rfl (fun i hi=>?_);(try dsimp only at hi))|refine kq (Q2 o) rfl rfl ?_|refine kq (u) rfl rfl ?_|fail)
       exact zr [67,1067,2067,3067,4067,5067] zae zae
theorem Qtj{s:Qb}{j:Job}(hs:Qj 1048576 s):SS 284 [Qt s,jobA j] (Yx s j).1 (Yx s j).2:=by
 refine zMC func284 fun w0 Z O=>?_
 have c:Qj 100000000 s:=hs.mono (by omega)
 have n:=Yl c
 have o:=Qeg (j:=j)
 unfold Yx
 cases h:Qe s with
 | false=>
  rw[h]at n
  rw[if_neg (fun h=>by cases h.1)]
  repeat'(first|(refine zhm fun hb=>?_;try exact zab)|refine zUrp ?_|refine zg2 ?_ ?_|intro _)
  exact zDR
 | true=>
  rw[h]at n
  cases e:Qk j with
  | false=>
   rw[e]at o
   rw[if_neg (fun h=>by cases h.2)]
   repeat'(first|(refine zhm fun hb=>?_;try exact zab)|refine zUrp ?_|refine zg2 ?_ ?_|intro _)
   exact zDR
  | true=>
   rw[e]at o
   rw[if_pos ⟨rfl,rfl⟩]
   have b:=Zl h
   have u:=b.jobs.len
   have v:=Ql (allJ s)
   have d:=XZ (c.mono (m:=1000000000) (by omega))
   have p:=Qbw (l:=allJ s) (id:=j.id) (by omega)
   have a:=Qmg (allJ s) j.id
   cases g:(allJ s).any (fun x=>x.id==j.id) with
   | true=>
    rw[g]at a
    rw[a]at p
    rw[if_pos rfl]
    repeat'(first|(refine zhm fun hb=>?_;try exact zab)|refine zUrp ?_|refine zg2 ?_ ?_|refine kmu d ?_|intro _)
    exact zDR
   | false=>
    rw[g]at a
    rw[a]at p
    rw[if_neg (show ¬(false=true) by decide)]
    by_cases f:60<=(allJ s).length
    ·rw[if_pos f]
     repeat'(first|(refine zhm fun hb=>?_;try exact zab)|refine zUrp ?_|refine zg2 ?_ ?_|refine kmu d ?_|intro _)
     exact zDR
    ·rw[if_neg f]
     have y:s.queue.length<=(allJ s).length:=by simp[allJ]
     have w:=Ql s.queue
     have q:=QnC (j:=j) b.topo b.up b.lic e (c.mono (m:=1000000000) (by omega))
     cases t:(earO (Qc7 s) j 0).isSome with
     | false=>
      rw[t]at q
      rw[if_neg (show ¬(false=true) by decide)]
      repeat'(first|(refine zhm fun hb=>?_;try exact zab)|refine zUrp ?_|refine zg2 ?_ ?_|refine kmu d ?_|intro _)
      exact zDR
     | true=>
      rw[t]at q
      rw[if_pos rfl]
      have k:=Qce (j:=j) c (by omega)
      have r:=WH (s:=subm s j) k ⟨Qoz b.jobs e (by rw[g];decide) f,b.depth⟩
      rw[Qyg]at r
      repeat'(first|(refine zhm fun hb=>?_;try exact zab)|(refine Qh 13 39 rfl ?_)|refine zUrp ?_|refine zg2 ?_ ?_|refine kmu d ?_|refine kmu (Qq7 c) ?_|(refine kn [1039,2039] (r) rfl rfl (fun i hi=>?_);try dsimp only at hi)|intro _)
      show AWp _ _ _ _
      refine Qr 47 rfl ?_
      show AWp _ _ _ _
      refine Qr 1047 rfl ?_
      exact zDR
theorem QgP{s:Qb}{j:Job}(hs:Qj 1048576 s):∀s',(Yx s j).1=some s'->Qj 1048576 s':=fun s' h=>by
 unfold Yx at h
 split at h
 ·rename_i a
  have b:=Zl a.1
  have e:=b.jobs.len
  have f:s.queue.length<=(allJ s).length:=by simp[allJ]
  split at h
  ·cases h
  ·rename_i c
   split at h
   ·cases h
   ·rename_i d
    split at h
    ·cases h
     exact VZ ⟨Qoz b.jobs a.2 c d,b.depth⟩ (Qce hs (by omega)) (by have:=QaP a.1;simp only[subm];omega)
    ·cases h
 ·cases h
end
end Go.Proofs.YtkdniahincpmaaaGreat
