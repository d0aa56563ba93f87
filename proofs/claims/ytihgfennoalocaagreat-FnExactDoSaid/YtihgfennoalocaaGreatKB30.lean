/-
  What starts, of the program.
-/
import Derived.Test.YtihgfennoalocaaGreatKB16
import Derived.Test.YtihgfennoalocaaGreatKB28
import Derived.Test.YtihgfennoalocaaGreatKB24
set_option maxRecDepth 100000
set_option maxHeartbeats 16000000
namespace Go.Proofs.YtihgfennoalocaaGreat
open Go Go.RowKit Tryz
section
theorem Qrq(id p q:Nat){X:Cx}{Q:Exit->AS->Prop}{σ:AS}{ops:Array Oper}{dr:Bool}(hf:Yz X.fre q σ.ob=true)(h:AWp X (.region id ops dr) Q ⟨σ.nt,σ.sl.map fun y=>(y.1,y.2.mapN (renN p q)),σ.ob.map fun y=>(renN p q y.1,y.2.mapN (renN p q))⟩):AWp X (.region id ops dr) Q σ:=J8 p q hf h
attribute [local irreducible] AWp QJ OpOk ACalls ChA QsOk MCalls NCalls EnC PY

def QpK(h:JY):List D:=[.n .i64 h.id,.n .i64 h.at',.un]
def Qg7(hs:List JY)(i:Nat):List (List D):=(hs.take i).map QpK++(hs.drop i).map QuJ
theorem Qh9{hs:List JY}{i:Nat}(h:i<=hs.length):(Qg7 hs i).length=hs.length:=by simp[Qg7];omega
theorem Qrr{hs:List JY}{i:Nat}(h:i<hs.length):(Qg7 hs i)[i]?=some (QuJ (nth hs i)):=by
 unfold Qg7
 rw[List.getElem?_append_right (by simp;omega),List.getElem?_map,List.getElem?_drop]
 have:i+(i-((hs.take i).map QpK).length)=i:=by simp;omega
 rw[this,QuN h]
 rfl
theorem Qpd{hs:List JY}{i:Nat}(h:i<hs.length):(Qg7 hs i).set i (QpK (nth hs i))=Qg7 hs (i+1):=by
 unfold Qg7
 rw[Xbu _ _ (by simp;omega),Vh h,QI h]
 have:i-((hs.take i).map QpK).length=0:=by simp;omega
 rw[this]
 simp
theorem QhE(l:List Run)(x:Run):runE l++[runD x]=runE (l++[x]):=by simp[runE,runD]
theorem Qr6{l:List Job}{id:Int}(h:id∈l.map Job.id):∃k,k<l.length/\idxF l (fun j=>j.id==id)=(k:Nat)/\(nth l k).id=id/\Qba l id=some (nth l k):=by
 obtain⟨x,hx,e⟩:=Xad.1 h
 obtain⟨i,hi,rfl⟩:=J1 hx
 obtain⟨k,⟨h1,h2⟩,h3⟩:=least (p:=fun k=>k<l.length/\(nth l k).id=id) ⟨i,hi,e⟩
 have h4:∀j,j<k->(nth l j).id≠id:=fun j hj e=>by
  have:=h3 j ⟨by omega,e⟩
  omega
 exact⟨k,h1,Qfq h1 (by simp[h2]) (fun j hj=>by simpa using h4 j hj),h2,Qk7 h1 h2 h4⟩
structure PlanJ (s:Qd) (p:List JY×List JY):Prop where
 len:p.1.length+p.2.length<=(ordJ s.queue).length
 sub:(p.1.map JY.id).Sublist ((ordJ s.queue).map Job.id)
 st:∀h∈p.1,h.at'=s.now/\1<=h.nodes.length/\h.nodes.length<=24
 lt:∀h∈p.2,1<=h.nodes.length/\h.nodes.length<=24
theorem Qdp{s:Qd}{r:Jy}(h:JG s=some r):PlanJ s (WH s):=by
 have hI:=QsF h
 rw[Qbb h]
 exact⟨hI.len,hI.sub,hI.st,hI.lt⟩
structure QbZ (s:Qd) (r:Jy):Prop where
 room:JG s=some r
 queue:Jm s.queue
 depth:0<=s.depth/\s.depth<=60
theorem QbZ.now{s:Qd}{r:Jy}(h:QbZ s r):0<=s.now/\s.now<=1000000000:=(W1 h.room).2.2.2.1.now
theorem QbZ.strP{s:Qd}{r:Jy}(h:QbZ s r)(i:Nat)(hi:i<=(WH s).1.length):StrP s.now s.queue s.runs (WH s).1 i/\(i<(WH s).1.length->(nth (WH s).1 i).id∈(runF s.now s.queue s.runs ((WH s).1.take i)).1.map Job.id):=by
 have hI:=Qdp h.room
 have hp:((ordJ s.queue).map Job.id).Perm (s.queue.map Job.id):=(XbC _ _).map _
 exact Proofs.YtihgfennoalocaaGreat.strP (hI.sub.nodup (hp.nodup_iff.2 h.queue.nodup)) (fun x hx=>hp.mem_iff.1 (hI.sub.subset (Xad.2 ⟨x,hx,rfl⟩))) i hi
theorem Qow{s:Qd}{r:Jy}(hs:Ql 100000000 s)(h:QbZ s r):zAc 252 [Qx s] [ZL (JH s) 0 1 2 3 4 5] (QbO (JH s)):=by
 refine zAC func252 fun w0 Z=>?_
 have c1:=Qcv (hs.mono (m:=1000000000) (by omega))
 rw[h.room]at c1
 have c2:=QuC (depth:=s.depth) (XI h.room) h.queue h.now h.depth
 have c3:=Jr hs
 have hI:=Qdp h.room
 have hS:=h.strP
 unfold JH
 rw[<-Qbb h.room]at c2
 generalize WH s=pl at c2 hI hS ⊢
 obtain⟨hl,lt⟩:=pl
 dsimp only at c2 hI hS ⊢
 have hql:=h.queue.len
 have hrl:=hs.run
 have hil:=hI.len
 dsimp only at hil
 have hol:=YU s.queue
 have hle:=J0 hl
 repeat'(first|(refine zhm fun hb=>?_;try exact zab)|refine Qe ?_|(apply zch;exact zcg)|exact zhk|refine zg3 ?_ ?_|refine kmu c1 ?_|refine kmu c2 ?_|intro _|fail)
 refine J8 3030 63 rfl ?_
 refine Qa (fun(n:Nat)=>⟨66,[(1,.ptr 1 0),(2,.ptr 2 0),(8,.ptr 8 0),(31,.row 25),(32,zI (hl.length:Nat)),(33,zI n)],[(1,.box 49 (JB s)),(2,.box 49 ctl0),(8,.box 49 (stC s 30 1030 2030 63 4030 5030)),(25,.row 271 (Qg7 hl n) true),(30,.row 3 (intE s.topo.parents) true),(1030,.row 225 (Qz s.topo.nodes) true),(2030,.row 4 (Qq s.up) true),(63,.row 72 (jobE (runF s.now s.queue s.runs (hl.take n)).1) true),(4030,.row 170 (runE (runF s.now s.queue s.runs (hl.take n)).2) true),(5030,.row 172 (endE s.ends) true)]⟩) (fun n=>n<=hl.length) (fun n=>hl.length-n) 0 (by exact Xab _) ?_ ?_
 ·exact zll
 intro n hn
 obtain⟨hP,hin⟩:=hS n hn
 have hpl:=hP.len
 have hpq:=hP.que
 by_cases hn':n<hl.length
 ·have hst:=Wx (now:=s.now) (qs:=s.queue) (rs:=s.runs) hn'
  obtain⟨k,hk1,hk2,hk3,hk4⟩:=Qr6 (hin hn')
  have hnd:((runF s.now s.queue s.runs (hl.take n)).1.map Job.id).Nodup:=(hP.sub.map Job.id).nodup h.queue.nodup
  have hx:=hI.st _ (QO hn')
  have hat:=Qrr hn'
  have hset:=Qpd hn'
  have hlen:=Qh9 hn
  generalize nth hl n=x at hst hk1 hk2 hk3 hk4 hx hat hset
  generalize runF s.now s.queue s.runs (hl.take n)=q at hst hk1 hk2 hk3 hk4 hnd hpl hpq ⊢
  unfold runH at hst
  rw[hk4,XaP]at hst
  have hq1:=Qk q.1
  have hq2:=Qf q.2
  have hne:intE x.nodes≠[]:=fun e=>by
   have:=congrArg List.length e
   rw[Qb]at this
   simp at this
   rw[this]at hx
   simp at hx
  have c4:=QiH (l:=q.1) (id:=x.id) (by omega)
  rw[hk2]at c4
  repeat'(first|(refine zhm fun hb=>?_;try exact zab)|(refine Qrq 10 62 63 rfl ?_)|refine zUtd ?_|(apply zchE;exact zcg)|(apply zch;exact zcg)|exact zhk|refine zg3 ?_ ?_|(apply YE;first|(refine QqA rfl rfl rfl rfl hat rfl hne QkQ (QN fun _=>rfl) rfl rfl rfl rfl rfl rfl (fun e1 he1=>?_))|(refine Qs8 rfl rfl rfl ⟨rfl,rfl,rfl⟩ rfl rfl rfl rfl rfl rfl rfl rfl (QN fun _=>rfl) rfl rfl rfl rfl rfl he1 rfl rfl ?_)|(refine Qlm rfl rfl rfl rfl rfl rfl rfl rfl ⟨rfl,rfl,rfl⟩ (Qf _) (rfl:_=1) (by omega) rfl rfl rfl ?_))|refine zln fun _=>?_|refine zop ?_|refine zqd c4 ?_|(refine kn [63] (Qkh hk1 (by omega)) rfl rfl (fun i hi=>?_);try dsimp only at hi)|intro _|fail)
  refine⟨n+1,by omega,by omega,?_⟩
  refine⟨rfl,?_,?_,rfl⟩
  repeat'(first|exact ze3|refine ze2 ?_ ?_|refine ze4 ?_|exact ze5|fail)
  all_goals exact zp (by first|rfl|exact hset|(rw[hst,Xm hnd hk1,hk3];done)|(rw[hst];exact QhE _ ⟨nth q.1 k,_,_⟩))
 ·obtain rfl:n=hl.length:=by omega
  rw[Xap]at *
  repeat'(first|(refine zhm fun hb=>?_;try exact zab)|refine Qe ?_|(apply zch;exact zcg)|exact zhk|refine zg3 ?_ ?_|intro _|fail)
  exact zr [30,1030,2030,63,4030,5030] zae zae
end
section
theorem JO.shal{X:Cx}{σ:AS}{a:Act}{w:World}{en:List Ent}(h1:JO X σ a w en){p:Nat}{e:TypeId}{es:List (List D)}(hp:Qm σ.ob p=some (.row e es true)):Rel X ⟨σ.nt,σ.sl,(p,.row e es false)::YB p σ.ob⟩ a w:=by
 obtain⟨y,hy,hyn,hya⟩:=h1.ent hp
 have hok:=h1.mem.ok y hy
 unfold EntOk at hok
 rw[hya]at hok
 obtain⟨z,us,k0,k1,k2,k3,k4,k5,k6,k7⟩:=hok
 have hs:Qef X.P X.w0 X.Z X.O en w w p ⟨p,.row e es false,y.val,y.fs⟩ (fun _=>true):=
  ⟨h1.mem,fun _ _=>rfl,fun _ x hx e=>by
    have:=h1.mem.ent_unique hx hy (e.trans hyn.symm)
    subst this
    exact⟨e.symm,rfl,by rw[hya];rfl,by rw[hya];rfl⟩,rfl,rfl,rfl,Xam _,
   fun b hb hno=>rfl,fun b hb=>.inr ⟨y,hy,hyn,by
   rcases hb with hb|⟨hd,_⟩
   ·exact .inl hb
   ·cases hd⟩,rfl,hyn▸h1.mem.fix y hy⟩
 exact⟨_,h1.swap_keep hs (by
  unfold EntOk
  exact⟨z,us,k0,k1,k2,k3,k4,fun _ b hb=>hs.imm_fs hy hyn (by rw[hya];rfl) k5 (fun hd=>(k7 hd).2.1) (fun hd b hb hq=>by
   rcases hq with hq|⟨hq,_⟩
   ·exact((k7 hd).2.1 b hb).2.2 hq
   ·cases hq) b hb,k6,fun h=>by cases h⟩) (fun hd=>by cases hd)⟩
theorem Qqy(id p:Nat){X:Cx}{Q:Exit->AS->Prop}{σ:AS}{ops:Array Oper}{dr:Bool}{e:TypeId}{es:List (List D)}(hp:Qm σ.ob p=some (.row e es true))(h:AWp X (.region id ops dr) Q ⟨σ.nt,σ.sl,(p,.row e es false)::YB p σ.ob⟩):AWp X (.region id ops dr) Q σ:=fun a w ⟨_,hr⟩=>h a w (hr.shal hp)
attribute [local irreducible] AWp QJ OpOk ACalls ChA QsOk MCalls NCalls EnC PY

theorem Qlv{s:Qd}{r:Jy}(hs:Ql 100000000 s)(h:QbZ s r):NCalls Tryz.prog 234 [.agg (Wu s 500000 500001)] [(500000,.row 170 (runE s.runs) false),(500001,.row 172 (endE s.ends) true)] (fun _:Unit=>True) (fun _=>[.agg (Wu (JH s) 0 1)]) (fun _=>[(0,.row 170 (runE (JH s).runs) false),(1,.row 172 (endE s.ends) true)]):=by
 refine Ve tt func234 rfl rfl rfl (fun _ _=>rfl) (fun w0 Z O=>?_)
 have c1:=Qf5 (hs.mono (m:=1000000000) (by omega))
 rw[h.room]at c1
 have c2:=QuF (depth:=s.depth) (XI h.room) h.queue h.now h.depth
 have hI:=Qdp h.room
 have hS:=h.strP
 unfold JH
 rw[<-Qbb h.room]at c2
 generalize WH s=pl at c2 hI hS ⊢
 obtain⟨hl,lt⟩:=pl
 dsimp only at c2 hI hS ⊢
 have hql:=h.queue.len
 have hrl:=hs.run
 have hil:=hI.len
 dsimp only at hil
 have hol:=YU s.queue
 have hle:=J0 hl
 repeat'(first|(refine zhm fun hb=>?_;try exact zab)|refine zUtp ?_|refine zg2 ?_ ?_|(refine km [500000,500001] (c1) rfl rfl (fun i hi=>?_);try dsimp only at hi)|refine kmu c2 ?_|intro _|fail)
 refine Qa (fun(n:Nat)=>⟨62,[(1,.ptr 1 0),(2,.ptr 2 0),(29,zL (QaV hl)),(30,zI (hl.length:Nat)),(31,zI n)],[(1,.box 49 (Wu { s with queue:=(runF s.now s.queue s.runs (hl.take n)).1 } 500000 500001)),(2,.box 49 ctl0),(500000,.row 170 (runE (runF s.now s.queue s.runs (hl.take n)).2) false),(500001,.row 172 (endE s.ends) true)]⟩) (fun n=>n<=hl.length) (fun n=>hl.length-n) 0 (by exact Xab _) ?_ ?_
 ·exact zll
 intro n hn
 obtain⟨hP,hin⟩:=hS n hn
 have hpl:=hP.len
 have hpq:=hP.que
 by_cases hn':n<hl.length
 ·have hst:=Wx (now:=s.now) (qs:=s.queue) (rs:=s.runs) hn'
  generalize runF s.now s.queue s.runs (hl.take n)=q at hst hpl hpq ⊢
  unfold runH at hst
  have hq2:=Qf q.2
  repeat'(first|(refine zhm fun hb=>?_;try exact zab)|refine zUtp ?_|refine zg2 ?_ ?_|refine kc (Qad (l:=q.1) (id:=(nth hl n).id) (by omega)) rfl rfl ?_|(refine km [] (Qka (l:=q.1) (id:=(nth hl n).id) (by omega)) rfl rfl (fun i hi=>?_);try dsimp only at hi)|intro _|fail)
  refine⟨n+1,by omega,by omega,?_⟩
  refine⟨rfl,?_,?_,rfl⟩
  repeat'(first|exact ze3|refine ze2 ?_ ?_|refine ze4 ?_|exact ze5|fail)
  all_goals exact zp (by first|rfl|(rw[hst];done)|(rw[hst];exact QhE _ ⟨_,_,_⟩))
 ·obtain rfl:n=hl.length:=by omega
  rw[Xap]at *
  repeat'(first|(refine zhm fun hb=>?_;try exact zab)|refine zUrp ?_|refine zg2 ?_ ?_|intro _|fail)
  show AWp _ _ _ _
  apply Qt
  refine zn () [500000,500001] (by exact trivial) ?_ ?_
  all_goals exact zae
theorem Jm.left{a b:List Job}(h:Jm (a++b)):Jm a:=by
 have e:∀i,i<a.length->nth (a++b) i=nth a i:=fun i hi=>by
  rw[Ja (by simp;omega),Ja hi,List.getElem_append_left hi]
 have hl:=h.len
 rw[Xac]at hl
 refine⟨by omega,fun i hi=>by rw[<-e i hi];exact h.jobs i (by simp;omega),fun i hi k hk=>?_⟩
 rw[<-e i hi,<-e k (by omega)]
 exact h.diff i (by simp;omega) k hk
noncomputable def Qvy (s:Qd):Qd:=if Qp s=true then JH s else zS
end
section
attribute [local irreducible] AWp QJ OpOk ACalls ChA QsOk MCalls EnC PY
def mH(k:Nat)(r:JY):JY:=⟨(k:Int),((k+1:Nat):Int),JM (gI (k+2)) r.nodes.length⟩
@[reducible] def wH (r:JY):Nat:=2+r.nodes.length
end
section
attribute [local irreducible] AWp QJ OpOk ACalls ChA QsOk MCalls NCalls EnC PY

theorem QhI{s:Qd}{r:Jy}(h:QbZ s r)(hs:Ql 1048576 s)(hr:s.runs.length<=1000000):Ql 1048576 (JH s):=by
 have hI:=Qdp h.room
 obtain⟨hP,_⟩:=h.strP (WH s).1.length (Xam _)
 rw[show JH s={ s with queue:=(runF s.now s.queue s.runs ((WH s).1.take (WH s).1.length)).1,runs:=(runF s.now s.queue s.runs ((WH s).1.take (WH s).1.length)).2 } by rw[Xap];rfl]
 have h1:=hP.len
 have h2:=hP.que
 have h3:=hI.len
 have h4:=YU s.queue
 have h5:=h.queue.len
 refine⟨hs.par,hs.nod,hs.up,by dsimp only;omega,by dsimp only;omega,hs.end',fun j hj=>?_⟩
 dsimp only at hj ⊢
 rcases hP.new _ (QO hj)with h6|⟨x,hx,_,h6,_⟩
 ·obtain⟨i,hi,e⟩:=J1 h6
  rw[<-e]
  exact hs.rno i hi
 ·rw[h6]
  have:=(hI.st x (XaC hx)).2.2
  omega
theorem XR{s:Qd}(h:Qp s=true):s.runs.length<=60:=by
 have:=(pB_t.1 h).jobs.len
 simp only[allJ,Xac,Xah]at this
 omega
noncomputable def Qvw (s:Qd):List JY:=if Qp s=true then(WH s).2 else[]
end
end Go.Proofs.YtihgfennoalocaaGreat
