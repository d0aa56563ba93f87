/-
  The empty room of the reference with a row of its own of the nodes that are up; whether a job could start alone.
-/
import Derived.Test.YtihgfennoalocaaGreatKB7
import Derived.Test.YtihgfennoalocaaGreatKB20
import Derived.Test.YtihgfennoalocaaGreatKB15
import Derived.Test.YtihgfennoalocaaGreatKB21
import Derived.Test.YtihgfennoalocaaGreatKB31
import Derived.Test.YtihgfennoalocaaGreatKB19
set_option maxRecDepth 100000
set_option maxHeartbeats 16000000
namespace Go.Proofs.YtihgfennoalocaaGreat
open Go Go.RowKit Tryz
section
attribute [local irreducible] AWp QJ OpOk ACalls ChA QsOk MCalls NCalls EnC PY

@[reducible] def QsN (r:Jy) (q:Nat):AV:=.agg [zL (intE r.topo.parents),zL (Qz r.topo.nodes),.row q,zL (QZ r.profs),zL (ptE r.lics)]
theorem Qms{r:Jy}(h:Q5 r)(h0:0<r.profs.length):MCalls Tryz.prog 265 [Y7 r] [] (fun _:Unit=>True) (fun _=>[QsN r 0]) (fun _=>[]) (fun _=>[(0,.row 4 (Qq r.up) true)]):=by
 refine zMC func265 fun w0 Z O=>?_
 have hs:=h.small
 have hbl:=Qo r.up
 have hnl:=Qr r.topo.nodes
 have hpl:=Qy r.profs
 have hil:=Qb r.topo.parents
 repeat'(first|(refine zhm fun hb=>?_;try exact zab)|(refine Qi 3 14 rfl ?_)|(refine Qi 3 19 rfl ?_)|refine Qe ?_|(apply zch;exact zcg)|exact zhk|refine zg3 ?_ ?_|refine kmu (Wt (l:=r.lics) (by omega)) ?_|intro _|fail)
 refine Qa (fun(k:Nat×List (List Pt))=>⟨42,[(2,.ptr 2 0),(3,.ptr 3 0),(27,zL (QZ r.profs)),(28,zI (r.profs.length:Nat)),(29,zI k.1)],[(2,.box 209 [.nil,.nil,.nil,.nil,.nil]),(3,.box 209 [zL (intE r.topo.parents),zL (Qz r.topo.nodes),.row 6,slN 38 (QZ k.2),zL (ptE r.lics)]),(6,.row 4 (Qq r.up) true)]++slO 38 207 (QZ k.2)⟩) (fun k=>k.1<=r.profs.length/\k.2=r.profs.take k.1) (fun k=>r.profs.length-k.1) (0,[]) (by exact⟨Xab _,rfl⟩) ?_ ?_
 ·refine⟨rfl,?_,?_,rfl⟩
  repeat'(first|exact ze3|refine ze2 ?_ ?_|refine ze4 ?_|exact ze5|fail)
  all_goals exact zp (by first|rfl|exact Qy _)
 ·rintro ⟨n,out⟩ ⟨hn,ho⟩
  dsimp only at hn ho ⊢
  have hol:out.length=n:=by rw[ho,Xai];omega
  have hol2:=Qy out
  by_cases hn':n<r.profs.length
  ·have hp:=h.profs n hn'
   have hpl2:=hp.len
   have hnx:=QI hn'
   rw[<-ho]at hnx
   cases out with
   | nil=>
    repeat'(first|(refine zhm fun hb=>?_;try exact zab)|refine Qe ?_|(apply zch;exact zcg)|exact zhk|refine zg3 ?_ ?_|refine kmu (Wt (l:=nth r.profs n) (by omega)) ?_|intro _|fail)
    refine⟨(n+1,[]++[nth r.profs n]),⟨by omega,hnx.symm⟩,by omega,?_⟩
    exact zll
   | cons p0 o0=>
    repeat'(first|(refine zhm fun hb=>?_;try exact zab)|refine Qe ?_|(apply zch;exact zcg)|exact zhk|refine zg3 ?_ ?_|refine kmu (Wt (l:=nth r.profs n) (by omega)) ?_|intro _|fail)
    refine⟨(n+1,(p0::o0)++[nth r.profs n]),⟨by omega,hnx.symm⟩,by omega,?_⟩
    refine⟨rfl,?_,?_,rfl⟩
    repeat'(first|exact ze3|refine ze2 ?_ ?_|refine ze4 ?_|exact ze5|fail)
    all_goals exact zp (by first|rfl|exact YV (p0::o0) _)
  ·have hall:out=r.profs:=by rw[ho,Xaz (by omega)]
   cases out with
   | nil=>rw[<-hall]at h0;cases h0
   | cons p0 o0=>
    repeat'(first|(refine zhm fun hb=>?_;try exact zab)|refine Q7 ?_|(apply zch;exact zcg)|exact zhk|refine zg3 ?_ ?_|intro _|fail)
    show AWp _ _ _ _
    refine Qs 38 rfl ?_
    show AWp _ _ _ _
    refine QD ?_
    apply Qt
    refine zm () [6] trivial ?_ ?_ ?_
    repeat'(first|exact ze3|refine ze2 ?_ ?_|refine ze4 ?_|exact ze5|fail)
    all_goals exact zp (by first|rfl|rw[hall])
theorem Qmb{tp:QW}{up:List Bool}{li:List Pt}(h:Q5 ⟨tp,up,[],li⟩):MCalls Tryz.prog 265 [.agg [zL (intE tp.parents),zL (Qz tp.nodes),zL (Qq up),.nil,zL (ptE li)]] [] (fun _:Unit=>True) (fun _=>[QsN ⟨tp,up,[],li⟩ 0]) (fun _=>[]) (fun _=>[(0,.row 4 (Qq up) true)]):=by
 refine zMC func265 fun w0 Z O=>?_
 have hs:=h.small
 dsimp only at hs
 have hbl:=Qo up
 have hnl:=Qr tp.nodes
 have hil:=Qb tp.parents
 repeat'(first|(refine zhm fun hb=>?_;try exact zab)|(refine Qi 3 14 rfl ?_)|(refine Qi 3 19 rfl ?_)|refine Qe ?_|(apply zch;exact zcg)|exact zhk|refine zg3 ?_ ?_|refine kmu (Wt (l:=li) (by omega)) ?_|intro _|fail)
 refine Qa (fun(_:Unit)=>⟨42,[(2,.ptr 2 0),(3,.ptr 3 0),(27,.nil),(28,zI 0),(29,zI 0)],[(2,.box 209 [.nil,.nil,.nil,.nil,.nil]),(3,.box 209 [zL (intE tp.parents),zL (Qz tp.nodes),.row 6,.nil,zL (ptE li)]),(6,.row 4 (Qq up) true)]⟩) (fun _=>True) (fun _=>0) () trivial ?_ ?_
 ·exact zll
 ·intro _ _
  repeat'(first|(refine zhm fun hb=>?_;try exact zab)|refine Q7 ?_|(apply zch;exact zcg)|exact zhk|refine zg3 ?_ ?_|intro _|fail)
  show AWp _ _ _ _
  refine QD ?_
  apply Qt
  exact zm () [6] trivial zae zae zae
theorem QlV{s:Qd}(ht:QY s.topo)(h2:s.up.length=s.topo.nodes.length)(h3:Qh s.lic=true)(hs:Ql 1000000000 s):MCalls Tryz.prog 223 [Qx s] [] (fun _:Unit=>True) (fun _=>[QsN (Jf s.topo s.up s.lic) 0,.d (.b true)]) (fun _=>[]) (fun _=>[(0,.row 4 (Qq s.up) true)]):=by
 refine zMC func223 fun w0 Z O=>?_
 have hbl:=Qo s.up
 have hnl:=Qr s.topo.nodes
 have hup:=hs.up
 have hno:=hs.nod
 have c1:=Zb (t:=s.topo) hs.par hs.nod
 have c2:=JV (v:=s.lic)
 have h1:=JT.2 ht
 rw[h1]at c1
 rw[h3]at c2
 have h4:=ht.len
 have h5:=ht.nlen
 have hok:=Vi ht h2 h3
 have hen:(Jf s.topo s.up s.lic).profs=ZO s.topo.nodes:=rfl
 repeat'(first|(refine zhm fun hb=>?_;try exact zab)|refine zUtp ?_|refine zg2 ?_ ?_|intro _|fail)
 refine Qa (fun(k:Nat×List (List Pt))=>⟨65,[(1,.ptr 1 0),(2,.ptr 2 0),(4,.ptr 4 0),(37,zL (Qz s.topo.nodes)),(38,zI (s.topo.nodes.length:Nat)),(39,zI k.1)],[(1,.box 49 (JB s)),(2,.box 209 [.nil,.nil,.nil,.nil,.nil]),(4,.box 209 [zL (intE s.topo.parents),zL (Qz s.topo.nodes),zL (Qq s.up),slN 53 (QZ k.2),.nil])]++slO 53 207 (QZ k.2)⟩) (fun k=>k.1<=s.topo.nodes.length/\k.2=ZO (s.topo.nodes.take k.1)) (fun k=>s.topo.nodes.length-k.1) (0,[]) (by exact⟨Xab _,rfl⟩) ?_ ?_
 ·refine⟨rfl,?_,?_,rfl⟩
  repeat'(first|exact ze3|refine ze2 ?_ ?_|refine ze4 ?_|exact ze5|fail)
  all_goals exact zp (by first|rfl|exact Qr _)
 ·rintro ⟨n,out⟩ ⟨hn,ho⟩
  dsimp only at hn ho ⊢
  have hol:out.length=n:=by rw[ho,ZO,Xah,Xai];omega
  have hol2:=Qy out
  by_cases hn':n<s.topo.nodes.length
  ·have hnx:=Xc hn'
   rw[<-ho]at hnx
   have hc:=ht.nodes n hn'
   cases out with
   | nil=>
    repeat'(first|(refine zhm fun hb=>?_;try exact zab)|(refine Qi 8 46 rfl ?_)|refine zUtp ?_|refine zg2 ?_ ?_|refine kc (J9 (v:=(nth s.topo.nodes n).cap) hc.2.2) rfl rfl ?_|intro _|fail)
    refine⟨(n+1,[]++[[⟨0,(nth s.topo.nodes n).cap⟩]]),⟨by omega,hnx.symm⟩,by omega,?_⟩
    exact zll
   | cons p0 o0=>
    repeat'(first|(refine zhm fun hb=>?_;try exact zab)|(refine Qi 8 46 rfl ?_)|refine zUtp ?_|refine zg2 ?_ ?_|refine kc (J9 (v:=(nth s.topo.nodes n).cap) hc.2.2) rfl rfl ?_|intro _|fail)
    refine⟨(n+1,(p0::o0)++[[⟨0,(nth s.topo.nodes n).cap⟩]]),⟨by omega,hnx.symm⟩,by omega,?_⟩
    refine⟨rfl,?_,?_,rfl⟩
    repeat'(first|exact ze3|refine ze2 ?_ ?_|refine ze4 ?_|exact ze5|fail)
    all_goals exact zp (by first|rfl|exact YV (p0::o0) _)
  ·have hall:ZO s.topo.nodes=out:=by rw[ho,Xaz (by omega)]
   cases out with
   | nil=>
    have hcp:=Qmb (tp:=s.topo) (up:=s.up) (li:=[⟨0,s.lic⟩]) (by unfold Jf at hok;rw[show(s.topo.nodes.map fun n=>[(⟨0,n.cap⟩:Pt)])=[] from hall]at hok;exact hok)
    unfold Jf
    rw[show(s.topo.nodes.map fun n=>[(⟨0,n.cap⟩:Pt)])=[] from hall]
    repeat'(first|(refine zhm fun hb=>?_;try exact zab)|(refine Qi 11 59 rfl ?_)|refine zUrp ?_|refine zg2 ?_ ?_|refine kc (J9 (v:=s.lic) h3) rfl rfl ?_|refine kmu hcp ?_|intro _|fail)
    show AWp _ _ _ _
    refine QD ?_
    apply Qt
    exact zm () [64] trivial zae zae zae
   | cons p0 o0=>
    have hcp:=Qms hok (by rw[hen,hall];exact Xcm _)
    unfold Jf at hcp
    rw[show(s.topo.nodes.map fun n=>[(⟨0,n.cap⟩:Pt)])=p0::o0 from hall]at hcp
    unfold Jf
    rw[show(s.topo.nodes.map fun n=>[(⟨0,n.cap⟩:Pt)])=p0::o0 from hall]
    repeat'(first|(refine zhm fun hb=>?_;try exact zab)|(refine Qi 11 59 rfl ?_)|(refine Qi 11 53 rfl ?_)|refine zUrp ?_|refine zg2 ?_ ?_|refine kc (J9 (v:=s.lic) h3) rfl rfl ?_|refine kmu hcp ?_|intro _|fail)
    show AWp _ _ _ _
    refine QD ?_
    apply Qt
    exact zm () [64] trivial zae zae zae
@[reducible] def jobC (j:Job):List AV:=[zI j.id,zI j.prio,zI j.nodes,zI j.need.a,zI j.need.b,zI j.need.c,zI j.lic.a,zI j.lic.b,zI j.lic.c,zI j.wall,zI j.level]
def QgR(s:Qd):List Bool:=List.replicate s.topo.nodes.length true
def Qb4(s:Qd):Jy:=Jf s.topo (QgR s) s.lic
theorem QmT{s:Qd}(ht:QY s.topo)(h3:Qh s.lic=true):Q5 (Qb4 s):=Vi ht (by simp[QgR]) h3
def upTo(s:Qd)(i:Nat):List Bool:=List.replicate i true++s.up.drop i
theorem Qkn{s:Qd}{i:Nat}(h:i<=s.up.length):(upTo s i).length=s.up.length:=by simp[upTo];omega
theorem Qo3{s:Qd}{i:Nat}(h:i<s.up.length):(Qq (upTo s i)).set i [.b true]=Qq (upTo s (i+1)):=by
 rw[show(Qq (upTo s i)).set i [.b true]=Qq ((upTo s i).set i true) by simp[Qq,List.map_set]]
 congr 1
 unfold upTo
 rw[Xbu _ _ (by simp),Xa4 h,Xbq,XbX,Xbt,List.replicate_succ',Xaq]
 rfl
theorem Qql{s:Qd}(h:s.up.length=s.topo.nodes.length):upTo s s.up.length=QgR s:=by
 unfold upTo QgR
 rw[h,List.drop_of_length_le (by omega),Xa2]
theorem Qmd{s:Qd}{j:Job}(ht:QY s.topo)(h2:s.up.length=s.topo.nodes.length)(h3:Qh s.lic=true)(hj:Qu j=true)(hs:Ql 1000000000 s):zAc 233 [Qx s,jobA j] [.d (.b (earO (Qb4 s) j 0).isSome)] []:=by
 refine zAC func233 fun w0 Z=>?_
 have c1:=QlV ht h2 h3 hs
 have c2:=Qbj (r:=Qb4 s) (j:=j) (a:=0) (QmT ht h3) hj (by omega)
 have hbl:∀n,n<=s.up.length->(Qq (upTo s n)).length=s.up.length:=fun n hn=>by rw[Qo,Qkn hn]
 have hup:=hs.up
 have hno:=ht.nlen
 repeat'(first|(refine zhm fun hb=>?_;try exact zab)|refine zUtp ?_|refine zg2 ?_ ?_|refine kmu c1 ?_|intro _|fail)
 refine Qa (fun(n:Nat)=>⟨38,[(3,.ptr 3 0),(5,.ptr 5 0),(6,.d (.b true)),(18,zI (s.up.length:Nat)),(19,zI n)],[(3,.box 72 (jobC j)),(5,.box 209 [zL (intE s.topo.parents),zL (Qz s.topo.nodes),.row 13,zL (QZ (Qb4 s).profs),zL (ptE [⟨0,s.lic⟩])]),(13,.row 4 (Qq (upTo s n)) true)]⟩) (fun n=>n<=s.up.length) (fun n=>s.up.length-n) 0 (by exact Xab _) ?_ ?_
 ·refine⟨rfl,?_,?_,rfl⟩
  repeat'(first|exact ze3|refine ze2 ?_ ?_|refine ze4 ?_|exact ze5|fail)
  all_goals exact zp (by first|rfl|exact Qo _)
 intro n hn
 have hbn:=hbl n hn
 have hul:=Qkn hn
 by_cases hn':n<s.up.length
 ·have hst:=Qo3 hn'
  repeat'(first|(refine zhm fun hb=>?_;try exact zab)|refine zUtp ?_|refine zg2 ?_ ?_|intro _|fail)
  refine⟨n+1,by omega,by omega,?_⟩
  refine⟨rfl,?_,?_,rfl⟩
  repeat'(first|exact ze3|refine ze2 ?_ ?_|refine ze4 ?_|exact ze5|fail)
  all_goals exact zp (by first|rfl|exact hst)
 ·obtain rfl:n=s.up.length:=by omega
  rw[Qql h2]
  repeat'(first|(refine zhm fun hb=>?_;try exact zab)|(refine Qi 7 13 rfl ?_)|refine zUtp ?_|refine zg2 ?_ ?_|refine kmu c2 ?_|intro _|fail)
  exact zrr

def subm(s:Qd)(j:Job):Qd:={ s with queue:=s.queue++[j] }
noncomputable def YD (s:Qd) (j:Job):Option Qd×Int:=
 if Qp s=true/\Qu j=true then
  if(allJ s).any (fun x=>x.id==j.id)=true then(none,2)
  else if 60<=(allJ s).length then(none,3)
  else if(earO (Qb4 s) j 0).isSome=true then(some (JH (subm s j)),0) else(none,4)
 else(none,1)
theorem Qoi{s:Qd}{j:Job}(h:Jm (allJ s))(hj:Qu j=true)(hn:¬(allJ s).any (fun x=>x.id==j.id)=true)(hl:¬60<=(allJ s).length):Jm (s.queue++[j]):=by
 have hq:=h.left
 have hlen:s.queue.length<=(allJ s).length:=by simp[allJ]
 have hnx:∀i,i<s.queue.length->(nth s.queue i).id≠j.id:=fun i hi e=>by
  apply hn
  refine XaX.2 ⟨nth s.queue i,?_,by rw[e];exact beq_self_eq_true _⟩
  exact Xat _ (QO hi)
 have ex:nth (s.queue++[j]) s.queue.length=j:=by rw[Ja (by simp)];simp
 have ei:∀i,i<s.queue.length->nth (s.queue++[j]) i=nth s.queue i:=fun i hi=>by
  rw[Ja (by simp;omega),Ja hi,List.getElem_append_left hi]
 have el:(s.queue++[j]).length=s.queue.length+1:=by simp
 refine⟨by omega,fun i hi=>?_,fun i hi k hk=>?_⟩
 ·by_cases h1:i<s.queue.length
  ·rw[ei i h1];exact hq.jobs i h1
  ·obtain rfl:i=s.queue.length:=by omega
   rw[ex];exact hj
 ·have h2:k<s.queue.length:=by omega
  rw[ei k h2]
  by_cases h1:i<s.queue.length
  ·rw[ei i h1];exact hq.diff i h1 k hk
  ·obtain rfl:i=s.queue.length:=by omega
   rw[ex];exact hnx k h2
theorem Qbn{n:Nat}{s:Qd}{j:Job}(h:Ql n s)(hq:s.queue.length+1<=n):Ql n (subm s j):=⟨h.par,h.nod,h.up,by simp only[subm,Xac,XaG];exact hq,h.run,h.end',h.rno⟩
@[reducible] def Qu2 (s:Qd) (q:List (List D)):AV:=.agg [zL (intE s.topo.parents),zL (Qz s.topo.nodes),zL (Qq s.up),zI s.lic.a,zI s.lic.b,zI s.lic.c,zI s.depth,zI s.now,zL q,zL (runE s.runs),zL (endE s.ends)]
@[reducible] def QtJ (s:Qd) (q:List (List D)) (q1 q2:Nat):List AV:=[zL (intE s.topo.parents),zL (Qz s.topo.nodes),zL (Qq s.up),zI s.lic.a,zI s.lic.b,zI s.lic.c,zI s.depth,zI s.now,zL q,.row q1,.row q2]
theorem Qt8{s:Qd}{j:Job}:Qx (subm s j)=Qu2 s (jobE s.queue++[[.n .i64 j.id,.n .i64 j.prio,.n .i64 j.nodes,.n .i64 j.need.a,.n .i64 j.need.b,.n .i64 j.need.c,.n .i64 j.lic.a,.n .i64 j.lic.b,.n .i64 j.lic.c,.n .i64 j.wall,.n .i64 j.level]]):=by rw[Yw];rfl
theorem Qvb{s:Qd}{j:Job}{q1 q2:Nat}:Wu (subm s j) q1 q2=QtJ s (jobE s.queue++[[.n .i64 j.id,.n .i64 j.prio,.n .i64 j.nodes,.n .i64 j.need.a,.n .i64 j.need.b,.n .i64 j.need.c,.n .i64 j.lic.a,.n .i64 j.lic.b,.n .i64 j.lic.c,.n .i64 j.wall,.n .i64 j.level]]) q1 q2:=by rw[Yw];rfl
structure OkP (s:Qd):Prop where
 topo:QY s.topo
 up:s.up.length=s.topo.nodes.length
 lic:Qh s.lic=true
 jobs:Jm (allJ s)
 depth:0<=s.depth/\s.depth<=60
theorem Qar{s:Qd}(h:Qp s=true):OkP s:=by
 have h':=pB_t.1 h
 obtain⟨r,hr⟩:=Xbo.1 h'.room
 have hb:=(W1 hr).2.2.2.1
 exact⟨hb.topo,hb.up,hb.lic,h'.jobs,h'.depth⟩
theorem QjZ(l:List Job)(id:Int):(Qba l id).isSome=l.any (fun x=>x.id==id):=by
 unfold Qba
 rw[Xan,List.find?_isSome,XaX]
theorem QpU{s:Qd}{j:Job}(hs:Ql 1048576 s):SO 200 [Qx s,jobA j] (YD s j).1 (YD s j).2:=by
 refine Qmu tt func200 rfl rfl rfl (fun w0 Z=>?_)
 have hm:Ql 100000000 s:=hs.mono (by omega)
 have c1:=Yo hm
 have c2:=ZM (j:=j)
 unfold YD
 cases h:Qp s with
 | false=>
  rw[h]at c1
  rw[if_neg (fun h=>by cases h.1)]
  repeat'(first|refine zst ?_|(refine zhm fun hb=>?_;try exact zab)|refine zdr ?_|(apply zch;exact zcg)|refine Qmj.mk fun w0 Z O=>?_|exact zhk|refine zg3 ?_ ?_|refine zln fun _=>?_|refine zop ?_|refine kc (c1) rfl rfl ?_|refine kq (c1) rfl rfl ?_|fail)
  exact zr [] zae zae
 | true=>
  rw[h]at c1
  cases hv:Qu j with
  | false=>
   rw[hv]at c2
   rw[if_neg (fun h=>by cases h.2)]
   repeat'(first|refine zst ?_|(refine zhm fun hb=>?_;try exact zab)|refine zdr ?_|(apply zch;exact zcg)|refine Qmj.mk fun w0 Z O=>?_|exact zhk|refine zg3 ?_ ?_|refine zln fun _=>?_|refine zop ?_|refine kc (c1) rfl rfl ?_|refine kc (c2) rfl rfl ?_|refine kq (c1) rfl rfl ?_|refine kq (c2) rfl rfl ?_|fail)
   exact zr [] zae zae
  | true=>
   rw[hv]at c2
   rw[if_pos ⟨rfl,rfl⟩]
   have hk:=Qar h
   have hal:=hk.jobs.len
   have hjl:=Qk (allJ s)
   have c3:=Qtp (hm.mono (m:=1000000000) (by omega))
   have c4:=QiH (l:=allJ s) (id:=j.id) (by omega)
   have hix:=Qci (allJ s) fun x=>x.id==j.id
   cases ha:(allJ s).any (fun x=>x.id==j.id) with
   | true=>
    rw[ha,decide_eq_true_eq]at hix
    rw[if_pos rfl]
    repeat'(first|refine zst ?_|(refine zhm fun hb=>?_;try exact zab)|refine zdr ?_|(apply zch;exact zcg)|refine Qmj.mk fun w0 Z O=>?_|exact zhk|refine zg3 ?_ ?_|refine zln fun _=>?_|refine zop ?_|refine kc (c1) rfl rfl ?_|refine kc (c2) rfl rfl ?_|refine kc (c4) rfl rfl ?_|(refine km [] (c3) rfl rfl (fun i hi=>?_);(try dsimp only at hi))|refine kq (c1) rfl rfl ?_|refine kq (c2) rfl rfl ?_|refine kq (c4) rfl rfl ?_|fail)
    exact zr [] zae zae
   | false=>
    rw[ha,decide_eq_false_iff_not]at hix
    rw[if_neg (show ¬(false=true) by decide)]
    by_cases h6:60<=(allJ s).length
    ·rw[if_pos h6]
     repeat'(first|refine zst ?_|(refine zhm fun hb=>?_;try exact zab)|refine zdr ?_|(apply zch;exact zcg)|refine Qmj.mk fun w0 Z O=>?_|exact zhk|refine zg3 ?_ ?_|refine zln fun _=>?_|refine zop ?_|refine kc (c1) rfl rfl ?_|refine kc (c2) rfl rfl ?_|refine kc (c4) rfl rfl ?_|(refine km [] (c3) rfl rfl (fun i hi=>?_);(try dsimp only at hi))|refine kq (c1) rfl rfl ?_|refine kq (c2) rfl rfl ?_|refine kq (c4) rfl rfl ?_|fail)
     exact zr [] zae zae
    ·rw[if_neg h6]
     have hn:=hk.topo.nlen
     have hql:s.queue.length<=(allJ s).length:=by simp[allJ]
     have hqe:=Qk s.queue
     repeat'(first|refine zst ?_|(refine zhm fun hb=>?_;try exact zab)|refine zdr ?_|(apply zch;exact zcg)|refine Qmj.mk fun w0 Z O=>?_|exact zhk|refine zg3 ?_ ?_|refine zln fun _=>?_|refine zop ?_|refine kc (c1) rfl rfl ?_|refine kc (c2) rfl rfl ?_|refine kc (c4) rfl rfl ?_|(refine km [] (c3) rfl rfl (fun i hi=>?_);(try dsimp only at hi))|refine kq (c1) rfl rfl ?_|refine kq (c2) rfl rfl ?_|refine kq (c4) rfl rfl ?_|fail)
     refine Qa (fun(n:Nat)=>⟨68,[(2,.ptr 2 0),(3,.ptr 3 0),(4,.ptr 4 0),(7,.row 32),(36,zI (s.topo.nodes.length:Nat)),(37,zI n)],[(2,.box 49 (JB s)),(3,.box 72 (jobC j)),(4,.box 49 ctl0),(32,.row 4 (Qq (List.replicate n true)) true)]⟩) (fun n=>n<=s.topo.nodes.length) (fun n=>s.topo.nodes.length-n) 0 (by exact Xab _) ?_ ?_
     ·refine⟨rfl,?_,?_,rfl⟩
      repeat'(first|apply And.intro|exact ze0|refine ze1 ?_|refine zei ?_ ?_|exact rfl|trivial)
      all_goals exact zp (by first|rfl|exact Qr _)
     intro n hn1
     have hbn:(Qq (List.replicate n true)).length=n:=by rw[Qo,Xbq]
     have hbr:(List.replicate n true).length=n:=Xbq
     by_cases hn':n<s.topo.nodes.length
     ·have hst:Qq (List.replicate n true)++[[.b true]]=Qq (List.replicate (n+1) true):=by rw[List.replicate_succ'];simp[Qq]
      repeat'(first|refine zst ?_|(refine zhm fun hb=>?_;try exact zab)|refine zdr ?_|(apply zch;exact zcg)|refine Qmj.mk fun w0 Z O=>?_|exact zhk|refine zg3 ?_ ?_|refine zln fun _=>?_|refine zop ?_|fail)
      refine⟨n+1,by omega,by omega,?_⟩
      refine⟨rfl,?_,?_,rfl⟩
      repeat'(first|apply And.intro|exact ze0|refine ze1 ?_|refine zei ?_ ?_|exact rfl|trivial)
      all_goals exact zp (by first|rfl|exact hst)
     ·obtain rfl:n=s.topo.nodes.length:=by omega
      rw[show List.replicate s.topo.nodes.length true=QgR s from rfl]
      have c5:=QoP (up:=QgR s) hk.topo (by simp[QgR]) hk.lic
      have c6:=Qme (r:=Qb4 s) (j:=j) (a:=0) (QmT hk.topo hk.lic) hv (by omega)
      unfold Qb4 at c6
      cases he:earO (Jf s.topo (QgR s) s.lic) j 0 with
      | none=>
       rw[he]at c6
       rw[if_neg (show ¬((earO (Qb4 s) j 0).isSome=true) by rw[Qb4,he];decide)]
       repeat'(first|(refine Qi 13 32 rfl ?_)|refine zst ?_|(refine zhm fun hb=>?_;try exact zab)|(apply QB 13;kernel_rfl;exact rfl)|refine zdr ?_|(apply zch;exact zcg)|refine Qmj.mk fun w0 Z O=>?_|exact zhk|refine zg3 ?_ ?_|refine zln fun _=>?_|refine zop ?_|(refine km [] (c5) rfl rfl (fun i hi=>?_);(try dsimp only at hi))|(refine km [] (c6) rfl rfl (fun i hi=>?_);(try dsimp only at hi))|fail)
       exact zr [] zae zae
      | some x=>
       rw[he]at c6
       rw[if_pos (show(earO (Qb4 s) j 0).isSome=true by rw[Qb4,he];rfl)]
       have hsm:=Qbn (j:=j) hm (by omega)
       have c7:=W7 (s:=subm s j) hsm ⟨Qoi hk.jobs hv (by rw[ha];decide) h6,hk.depth⟩
       rw[Qt8]at c7
       repeat'(first|(refine Qi 13 32 rfl ?_)|refine zst ?_|(refine zhm fun hb=>?_;try exact zab)|(apply QB 13;kernel_rfl;exact rfl)|refine zdr ?_|(apply zch;exact zcg)|refine Qmj.mk fun w0 Z O=>?_|exact zhk|refine zg3 ?_ ?_|refine zln fun _=>?_|refine zop ?_|refine kc (Jr hm) rfl rfl ?_|refine kc (c7) rfl rfl ?_|(refine km [] (c5) rfl rfl (fun i hi=>?_);(try dsimp only at hi))|(refine km [] (c6) rfl rfl (fun i hi=>?_);(try dsimp only at hi))|refine kq (Jr hm) rfl rfl ?_|refine kq (c7) rfl rfl ?_|fail)
       exact zr [67,1067,2067,3067,4067,5067] zae zae
theorem QpO{s:Qd}{j:Job}(hs:Ql 1048576 s):SS 182 [Qx s,jobA j] (YD s j).1 (YD s j).2:=by
 refine zMC func182 fun w0 Z O=>?_
 have hm:Ql 100000000 s:=hs.mono (by omega)
 have c1:=YL hm
 have c2:=QcT (j:=j)
 unfold YD
 cases h:Qp s with
 | false=>
  rw[h]at c1
  rw[if_neg (fun h=>by cases h.1)]
  repeat'(first|(refine zhm fun hb=>?_;try exact zab)|refine zUrp ?_|refine zg2 ?_ ?_|intro _|fail)
  exact zDR
 | true=>
  rw[h]at c1
  cases hv:Qu j with
  | false=>
   rw[hv]at c2
   rw[if_neg (fun h=>by cases h.2)]
   repeat'(first|(refine zhm fun hb=>?_;try exact zab)|refine zUrp ?_|refine zg2 ?_ ?_|intro _|fail)
   exact zDR
  | true=>
   rw[hv]at c2
   rw[if_pos ⟨rfl,rfl⟩]
   have hk:=Qar h
   have hal:=hk.jobs.len
   have hjl:=Qk (allJ s)
   have c3:=Qat (hm.mono (m:=1000000000) (by omega))
   have c4:=Qad (l:=allJ s) (id:=j.id) (by omega)
   have hfa:=QjZ (allJ s) j.id
   cases ha:(allJ s).any (fun x=>x.id==j.id) with
   | true=>
    rw[ha]at hfa
    rw[hfa]at c4
    rw[if_pos rfl]
    repeat'(first|(refine zhm fun hb=>?_;try exact zab)|refine zUrp ?_|refine zg2 ?_ ?_|refine kmu c3 ?_|intro _|fail)
    exact zDR
   | false=>
    rw[ha]at hfa
    rw[hfa]at c4
    rw[if_neg (show ¬(false=true) by decide)]
    by_cases h6:60<=(allJ s).length
    ·rw[if_pos h6]
     repeat'(first|(refine zhm fun hb=>?_;try exact zab)|refine zUrp ?_|refine zg2 ?_ ?_|refine kmu c3 ?_|intro _|fail)
     exact zDR
    ·rw[if_neg h6]
     have hql:s.queue.length<=(allJ s).length:=by simp[allJ]
     have hqe:=Qk s.queue
     have c5:=Qmd (j:=j) hk.topo hk.up hk.lic hv (hm.mono (m:=1000000000) (by omega))
     cases he:(earO (Qb4 s) j 0).isSome with
     | false=>
      rw[he]at c5
      rw[if_neg (show ¬(false=true) by decide)]
      repeat'(first|(refine zhm fun hb=>?_;try exact zab)|refine zUrp ?_|refine zg2 ?_ ?_|refine kmu c3 ?_|intro _|fail)
      exact zDR
     | true=>
      rw[he]at c5
      rw[if_pos rfl]
      have hsm:=Qbn (j:=j) hm (by omega)
      have c7:=Wi (s:=subm s j) hsm ⟨Qoi hk.jobs hv (by rw[ha];decide) h6,hk.depth⟩
      rw[Qvb]at c7
      repeat'(first|(refine zhm fun hb=>?_;try exact zab)|(refine Qi 13 39 rfl ?_)|refine zUrp ?_|refine zg2 ?_ ?_|refine kmu c3 ?_|refine kmu (QmE hm) ?_|(refine kn [1039,2039] (c7) rfl rfl (fun i hi=>?_);try dsimp only at hi)|intro _|fail)
      show AWp _ _ _ _
      refine Qs 47 rfl ?_
      show AWp _ _ _ _
      refine Qs 1047 rfl ?_
      exact zDR
theorem Qf0{s:Qd}{j:Job}(hs:Ql 1048576 s):∀s',(YD s j).1=some s'->Ql 1048576 s':=fun s' h=>by
 unfold YD at h
 split at h
 ·rename_i h1
  have hk:=Qar h1.1
  have hal:=hk.jobs.len
  have hql:s.queue.length<=(allJ s).length:=by simp[allJ]
  split at h
  ·cases h
  ·rename_i h2
   split at h
   ·cases h
   ·rename_i h3
    split at h
    ·cases h
     exact W8 ⟨Qoi hk.jobs h1.2 h2 h3,hk.depth⟩ (Qbn hs (by omega)) (by have:=XR h1.1;simp only[subm];omega)
    ·cases h
 ·cases h
end
end Go.Proofs.YtihgfennoalocaaGreat
