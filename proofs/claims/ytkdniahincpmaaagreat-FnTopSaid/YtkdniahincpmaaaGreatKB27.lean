/-
  What starts, of the program.
-/
import Derived.Test.YtkdniahincpmaaaGreatKB16
import Derived.Test.YtkdniahincpmaaaGreatKB25
set_option maxRecDepth 100000
set_option maxHeartbeats 16000000
namespace Go.Proofs.YtkdniahincpmaaaGreat
open Go Go.RowKit Tryz
section
theorem Qtn(id p q:Nat){X:Cx}{Q:Exit->AS->Prop}{σ:AS}{ops:Array Oper}{dr:Bool}(hf:YR X.fre q σ.ob=true)(h:AWp X (.region id ops dr) Q ⟨σ.nt,σ.sl.map fun y=>(y.1,y.2.mapN (renN p q)),σ.ob.map fun y=>(renN p q y.1,y.2.mapN (renN p q))⟩):AWp X (.region id ops dr) Q σ:=Yd p q hf h
attribute [local irreducible] AWp QI OpOk ACalls ChA QsOk MCalls NCalls EnC PY

def Qsu(h:JD):List D:=[.n .i64 h.id,.n .i64 h.at',.un]
def QiJ(hs:List JD)(i:Nat):List (List D):=(hs.take i).map Qsu++(hs.drop i).map QyO
theorem Qh3{hs:List JD}{i:Nat}(h:i<=hs.length):(QiJ hs i).length=hs.length:=by simp[QiJ];omega
theorem QsM{hs:List JD}{i:Nat}(h:i<hs.length):(QiJ hs i)[i]?=some (QyO (nth hs i)):=by
 unfold QiJ
 rw[List.getElem?_append_right (by simp;omega),List.getElem?_map,List.getElem?_drop]
 have:i+(i-((hs.take i).map Qsu).length)=i:=by simp;omega
 rw[this,QxR h]
 rfl
theorem QrK{hs:List JD}{i:Nat}(h:i<hs.length):(QiJ hs i).set i (Qsu (nth hs i))=QiJ hs (i+1):=by
 unfold QiJ
 rw[Xcm _ _ (by simp;omega),Vo h,Qo h]
 have:i-((hs.take i).map Qsu).length=0:=by simp;omega
 rw[this]
 simp
theorem QiA(l:List Run)(x:Run):runE l++[runD x]=runE (l++[x]):=by simp[runE,runD]
theorem Qu6{l:List Job}{id:Int}(h:id∈l.map Job.id):∃k,k<l.length/\idxF l (fun j=>j.id==id)=(k:Nat)/\(nth l k).id=id/\VD l id=some (nth l k):=by
 obtain⟨x,g,e⟩:=Xaf.1 h
 obtain⟨i,f,rfl⟩:=Jo g
 obtain⟨k,⟨a,b⟩,d⟩:=least (p:=fun k=>k<l.length/\(nth l k).id=id) ⟨i,f,e⟩
 have c:∀j,j<k->(nth l j).id≠id:=fun j hj e=>by
  have:=d j ⟨by omega,e⟩
  omega
 exact⟨k,a,QhQ a (by simp[b]) (fun j hj=>by simpa using c j hj),b,Ql6 a b c⟩
structure PlanJ (s:Qb) (p:List JD×List JD):Prop where
 len:p.1.length+p.2.length<=(ordJ s.queue).length
 sub:(p.1.map JD.id).Sublist ((ordJ s.queue).map Job.id)
 st:∀h∈p.1,h.at'=s.now/\1<=h.nodes.length/\h.nodes.length<=24
 lt:∀h∈p.2,1<=h.nodes.length/\h.nodes.length<=24
theorem Qcf{s:Qb}{r:Jm}(h:Jg s=some r):PlanJ s (Ww s):=by
 have b:=Qk7 h
 rw[WR h]
 exact⟨b.len,b.sub,b.st,b.lt⟩
structure QbX (s:Qb) (r:Jm):Prop where
 room:Jg s=some r
 queue:Je s.queue
 depth:0<=s.depth/\s.depth<=60
theorem QbX.now{s:Qb}{r:Jm}(h:QbX s r):0<=s.now/\s.now<=1000000000:=(Yo h.room).2.2.2.1.now
theorem QbX.strP{s:Qb}{r:Jm}(h:QbX s r)(i:Nat)(hi:i<=(Ww s).1.length):StrP s.now s.queue s.runs (Ww s).1 i/\(i<(Ww s).1.length->(nth (Ww s).1 i).id∈(runF s.now s.queue s.runs ((Ww s).1.take i)).1.map Job.id):=by
 have a:=Qcf h.room
 have b:((ordJ s.queue).map Job.id).Perm (s.queue.map Job.id):=(Xbx _ _).map _
 exact Proofs.YtkdniahincpmaaaGreat.strP (a.sub.nodup (b.nodup_iff.2 h.queue.nodup)) (fun x hx=>b.mem_iff.1 (a.sub.subset (Xaf.2 ⟨x,hx,rfl⟩))) i hi
theorem Qrj{s:Qb}{r:Jm}(hs:Qj 100000000 s)(h:QbX s r):zAc 241 [Qt s] [QaX (Jr s) 0 1 2 3 4 5] (QcT (Jr s)):=by
 refine zAC func241 fun w0 Z=>?_
 have c1:=QbA (hs.mono (m:=1000000000) (by omega))
 rw[h.room]at c1
 have u:=QuB (depth:=s.depth) (VQ h.room) h.queue h.now h.depth
 have c3:=Q2 hs
 have v:=Qcf h.room
 have y:=h.strP
 unfold Jr
 rw[<-WR h.room]at u
 generalize Ww s=pl at u v y ⊢
 obtain⟨b,lt⟩:=pl
 dsimp only at u v y ⊢
 have an:=h.queue.len
 have ao:=hs.run
 have z:=v.len
 dsimp only at z
 have ak:=YL s.queue
 have aj:=Jn b
 repeat'(first|(refine zhm fun hb=>?_;try exact zab)|refine Qd ?_|(apply zch;exact zcg)|exact zhk|refine zg3 ?_ ?_|refine kmu c1 ?_|refine kmu u ?_|intro _)
 refine Yd 3030 63 rfl ?_
 refine Qa (fun(n:Nat)=>⟨66,[(1,.ptr 1 0),(2,.ptr 2 0),(8,.ptr 8 0),(31,.row 25),(32,zI (b.length:Nat)),(33,zI n)],[(1,.box 34 (Q3 s)),(2,.box 34 ctl0),(8,.box 34 (stC s 30 1030 2030 63 4030 5030)),(25,.row 127 (QiJ b n) true),(30,.row 3 (intE s.topo.parents) true),(1030,.row 62 (Qw s.topo.nodes) true),(2030,.row 4 (Qp s.up) true),(63,.row 40 (jobE (runF s.now s.queue s.runs (b.take n)).1) true),(4030,.row 66 (runE (runF s.now s.queue s.runs (b.take n)).2) true),(5030,.row 123 (endE s.ends) true)]⟩) (fun n=>n<=b.length) (fun n=>b.length-n) 0 (by exact Xad _) ?_ ?_
 ·exact zll
 intro n hn
 obtain⟨w,aa⟩:=y n hn
 have ac:=w.len
 have ad:=w.que
 by_cases c:n<b.length
 ·have a:=Vg (now:=s.now) (qs:=s.queue) (rs:=s.runs) c
  obtain⟨k,d,g,j,o⟩:=Qu6 (aa c)
  have t:((runF s.now s.queue s.runs (b.take n)).1.map Job.id).Nodup:=(w.sub.map Job.id).nodup h.queue.nodup
  have hx:=v.st _ (QC c)
  have p:=QsM c
  have f:=QrK c
  have ah:=Qh3 hn
  generalize nth b n=x at a d g j o hx p f
  generalize runF s.now s.queue s.runs (b.take n)=q at a d g j o t ac ad ⊢
  unfold runH at a
  rw[o,XaI]at a
  have al:=Ql q.1
  have am:=Qg q.2
  have ab:intE x.nodes≠[]:=fun e=>by
   have:=congrArg List.length e
   rw[Qc]at this
   simp at this
   rw[this]at hx
   simp at hx
  have c4:=Qkf (l:=q.1) (id:=x.id) (by omega)
  rw[g]at c4
  repeat'(first|(refine zhm fun hb=>?_;try exact zab)|(refine Qtn 10 62 63 rfl ?_)|refine zUtd ?_|(apply zchE;exact zcg)|(apply zch;exact zcg)|exact zhk|refine zg3 ?_ ?_|(apply VS;first|(refine Qui rfl rfl rfl rfl p rfl ab QtB (Q6 fun _=>rfl) rfl rfl rfl rfl rfl rfl (fun e1 he1=>?_))|(refine Qw1 rfl rfl rfl ⟨rfl,rfl,rfl⟩ rfl rfl rfl rfl rfl rfl rfl rfl (Q6 fun _=>rfl) rfl rfl rfl rfl rfl he1 rfl rfl ?_)|(refine Qnr rfl rfl rfl rfl rfl rfl rfl rfl ⟨rfl,rfl,rfl⟩ (Qg _) (rfl:_=1) (by omega) rfl rfl rfl ?_))|refine zln fun _=>?_|refine zop ?_|refine zqd c4 ?_|(refine kn [63] (QmX d (by omega)) rfl rfl (fun i hi=>?_);try dsimp only at hi)|intro _)
  refine⟨n+1,by omega,by omega,?_⟩
  refine⟨rfl,?_,?_,rfl⟩
  repeat'(first|exact ze3|refine ze2 ?_ ?_|refine ze4 ?_|exact ze5|fail)
  all_goals exact zp (by first|rfl|exact f|(rw[a,X2 t d,j];done)|(rw[a];exact QiA _ ⟨nth q.1 k,_,_⟩))
 ·obtain rfl:n=b.length:=by omega
  rw[Xak]at *
  repeat'(first|(refine zhm fun hb=>?_;try exact zab)|refine Qd ?_|(apply zch;exact zcg)|exact zhk|refine zg3 ?_ ?_|intro _)
  exact zr [30,1030,2030,63,4030,5030] zae zae
end
section
theorem J2.shal{X:Cx}{σ:AS}{a:Act}{w:World}{en:List Ent}(h1:J2 X σ a w en){p:Nat}{e:TypeId}{es:List (List D)}(hp:Qn σ.ob p=some (.row e es true)):Rel X ⟨σ.nt,σ.sl,(p,.row e es false)::Y5 p σ.ob⟩ a w:=by
 obtain⟨y,g,d,c⟩:=h1.ent hp
 have f:=h1.mem.ok y g
 unfold EntOk at f
 rw[c]at f
 obtain⟨z,s,k,l,m,n,o,q,r,j⟩:=f
 have i:Qfw X.P X.w0 X.Z X.O en w w p ⟨p,.row e es false,y.val,y.fs⟩ (fun _=>true):=
  ⟨h1.mem,fun _ _=>rfl,fun _ x hx e=>by
    have:=h1.mem.ent_unique hx g (e.trans d.symm)
    subst this
    exact⟨e.symm,rfl,by rw[c];rfl,by rw[c];rfl⟩,rfl,rfl,rfl,Xaj _,
   fun b hb hno=>rfl,fun b hb=>.inr ⟨y,g,d,by
   rcases hb with hb|⟨hd,_⟩
   ·exact .inl hb
   ·cases hd⟩,rfl,d▸h1.mem.fix y g⟩
 exact⟨_,h1.swap_keep i (by
  unfold EntOk
  exact⟨z,s,k,l,m,n,o,fun _ b hb=>i.imm_fs g d (by rw[c];rfl) q (fun hd=>(j hd).2.1) (fun hd b hb hq=>by
   rcases hq with hq|⟨hq,_⟩
   ·exact((j hd).2.1 b hb).2.2 hq
   ·cases hq) b hb,r,fun h=>by cases h⟩) (fun hd=>by cases hd)⟩
theorem Qth(id p:Nat){X:Cx}{Q:Exit->AS->Prop}{σ:AS}{ops:Array Oper}{dr:Bool}{e:TypeId}{es:List (List D)}(hp:Qn σ.ob p=some (.row e es true))(h:AWp X (.region id ops dr) Q ⟨σ.nt,σ.sl,(p,.row e es false)::Y5 p σ.ob⟩):AWp X (.region id ops dr) Q σ:=fun a w ⟨_,hr⟩=>h a w (hr.shal hp)
attribute [local irreducible] AWp QI OpOk ACalls ChA QsOk MCalls NCalls EnC PY

theorem Qnu{s:Qb}{r:Jm}(hs:Qj 100000000 s)(h:QbX s r):NCalls Tryz.prog 315 [.agg (W9 s 500000 500001)] [(500000,.row 66 (runE s.runs) false),(500001,.row 123 (endE s.ends) true)] (fun _:Unit=>True) (fun _=>[.agg (W9 (Jr s) 0 1)]) (fun _=>[(0,.row 66 (runE (Jr s).runs) false),(1,.row 123 (endE s.ends) true)]):=by
 refine W8 tt func315 rfl rfl rfl (fun _ _=>rfl) (fun w0 Z O=>?_)
 have p:=Qhr (hs.mono (m:=1000000000) (by omega))
 rw[h.room]at p
 have d:=Quz (depth:=s.depth) (VQ h.room) h.queue h.now h.depth
 have e:=Qcf h.room
 have f:=h.strP
 unfold Jr
 rw[<-WR h.room]at d
 generalize Ww s=pl at d e f ⊢
 obtain⟨b,lt⟩:=pl
 dsimp only at d e f ⊢
 have z:=h.queue.len
 have aa:=hs.run
 have g:=e.len
 dsimp only at g
 have x:=YL s.queue
 have v:=Jn b
 repeat'(first|(refine zhm fun hb=>?_;try exact zab)|refine zUtp ?_|refine zg2 ?_ ?_|(refine km [500000,500001] (p) rfl rfl (fun i hi=>?_);try dsimp only at hi)|refine kmu d ?_|intro _)
 refine Qa (fun(n:Nat)=>⟨62,[(1,.ptr 1 0),(2,.ptr 2 0),(29,zL (Z4 b)),(30,zI (b.length:Nat)),(31,zI n)],[(1,.box 34 (W9 { s with queue:=(runF s.now s.queue s.runs (b.take n)).1 } 500000 500001)),(2,.box 34 ctl0),(500000,.row 66 (runE (runF s.now s.queue s.runs (b.take n)).2) false),(500001,.row 123 (endE s.ends) true)]⟩) (fun n=>n<=b.length) (fun n=>b.length-n) 0 (by exact Xad _) ?_ ?_
 ·exact zll
 intro n w
 obtain⟨t,u⟩:=f n w
 have k:=t.len
 have o:=t.que
 by_cases j:n<b.length
 ·have c:=Vg (now:=s.now) (qs:=s.queue) (rs:=s.runs) j
  generalize runF s.now s.queue s.runs (b.take n)=q at c k o ⊢
  unfold runH at c
  have y:=Qg q.2
  repeat'(first|(refine zhm fun hb=>?_;try exact zab)|refine zUtp ?_|refine zg2 ?_ ?_|refine kc (Qbw (l:=q.1) (id:=(nth b n).id) (by omega)) rfl rfl ?_|(refine km [] (QmJ (l:=q.1) (id:=(nth b n).id) (by omega)) rfl rfl (fun i hi=>?_);try dsimp only at hi)|intro _)
  refine⟨n+1,by omega,by omega,?_⟩
  refine⟨rfl,?_,?_,rfl⟩
  repeat'(first|exact ze3|refine ze2 ?_ ?_|refine ze4 ?_|exact ze5|fail)
  all_goals exact zp (by first|rfl|(rw[c];done)|(rw[c];exact QiA _ ⟨_,_,_⟩))
 ·obtain rfl:n=b.length:=by omega
  rw[Xak]at *
  repeat'(first|(refine zhm fun hb=>?_;try exact zab)|refine zUrp ?_|refine zg2 ?_ ?_|intro _)
  show AWp _ _ _ _
  apply Qu
  refine zn () [500000,500001] (by exact trivial) ?_ ?_
  all_goals exact zae
theorem Je.left{a b:List Job}(h:Je (a++b)):Je a:=by
 have e:∀i,i<a.length->nth (a++b) i=nth a i:=fun i hi=>by
  rw[Jb (by simp;omega),Jb hi,List.getElem_append_left hi]
 have c:=h.len
 rw[Xaa]at c
 refine⟨by omega,fun i hi=>by rw[<-e i hi];exact h.jobs i (by simp;omega),fun i hi k hk=>?_⟩
 rw[<-e i hi,<-e k (by omega)]
 exact h.diff i (by simp;omega) k hk
theorem Qfn{s:Qb}(h:Qe s=true):∃r,QbX s r:=by
 have a:=pB_t.1 h
 obtain⟨r,b⟩:=XaO.1 a.room
 exact⟨r,b,a.jobs.left,a.depth⟩

noncomputable def Qzy (s:Qb):Qb:=if Qe s=true then Jr s else zS
end
section
attribute [local irreducible] AWp QI OpOk ACalls ChA QsOk MCalls EnC PY
def mH(k:Nat)(r:JD):JD:=⟨(k:Int),((k+1:Nat):Int),QeZ (gI (k+2)) r.nodes.length⟩
@[reducible] def wH (r:JD):Nat:=2+r.nodes.length
end
section
attribute [local irreducible] AWp QI OpOk ACalls ChA QsOk MCalls NCalls EnC PY

theorem QjM{s:Qb}{r:Jm}(h:QbX s r)(hs:Qj 1048576 s)(hr:s.runs.length<=1000000):Qj 1048576 (Jr s):=by
 have b:=Qcf h.room
 obtain⟨a,_⟩:=h.strP (Ww s).1.length (Xaj _)
 rw[show Jr s={ s with queue:=(runF s.now s.queue s.runs ((Ww s).1.take (Ww s).1.length)).1,runs:=(runF s.now s.queue s.runs ((Ww s).1.take (Ww s).1.length)).2 } by rw[Xak];rfl]
 have h1:=a.len
 have h2:=a.que
 have h3:=b.len
 have h4:=YL s.queue
 have h5:=h.queue.len
 refine⟨hs.par,hs.nod,hs.up,by dsimp only;omega,by dsimp only;omega,hs.end',fun j hj=>?_⟩
 dsimp only at hj ⊢
 rcases a.new _ (QC hj)with h6|⟨x,hx,_,h6,_⟩
 ·obtain⟨i,c,e⟩:=Jo h6
  rw[<-e]
  exact hs.rno i c
 ·rw[h6]
  have:=(b.st x (XaC hx)).2.2
  omega
theorem QaP{s:Qb}(h:Qe s=true):s.runs.length<=60:=by
 have:=(pB_t.1 h).jobs.len
 simp only[allJ,Xaa,XaB]at this
 omega
theorem Qvw{s:Qb}(hs:Qj 100000000 s)(h:Qe s=true):zAc 56 [Qt s] [.row 0] [(0,.row 127 (Z4 (Ww s).2) true)]:=by
 refine zAC func56 fun w0 Z=>?_
 have d:=JX hs
 rw[h]at d
 obtain⟨r,a⟩:=Qfn h
 have b:=QbA (hs.mono (m:=1000000000) (by omega))
 rw[a.room]at b
 have c:=QuB (depth:=s.depth) (VQ a.room) a.queue a.now a.depth
 rw[<-WR a.room]at c
 repeat'(first|(refine zhm fun hb=>?_;try exact zab)|refine zUto ?_|refine zg2 ?_ ?_|refine kmu b ?_|refine kmu c ?_|intro _)
 exact zr [1024] zae zae
noncomputable def QD (s:Qb):List JD:=if Qe s=true then(Ww s).2 else[]
theorem QwX{s:Qb}(hs:Qj 100000000 s):DC Tryz.prog 58 [Qt s] [zL (Z4 (QD s))]:=by
 refine zMC func58 fun w0 Z O=>?_
 have b:=Yl hs
 cases h:Qe s with
 | false=>
  rw[h]at b
  rw[show QD s=[] from if_neg (by rw[h];decide)]
  repeat'(first|(refine zhm fun hb=>?_;try exact zab)|refine zUro ?_|refine zg2 ?_ ?_|intro _)
  exact zDR
 | true=>
  rw[h]at b
  rw[show QD s=(Ww s).2 from if_pos h]
  obtain⟨r,a⟩:=Qfn h
  have c:=Qmj (hs.mono (m:=1000000000) (by omega))
  rw[a.room]at c
  have d:=Quz (depth:=s.depth) (VQ a.room) a.queue a.now a.depth
  rw[<-WR a.room]at d
  repeat'(first|(refine zhm fun hb=>?_;try exact zab)|refine zUro ?_|refine zg2 ?_ ?_|refine kmu c ?_|refine kmu d ?_|intro _)
  exact zDR
end
end Go.Proofs.YtkdniahincpmaaaGreat
