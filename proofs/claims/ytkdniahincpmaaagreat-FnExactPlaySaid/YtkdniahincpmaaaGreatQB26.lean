/-
  What starts, of the program.
-/
import Derived.Test.YtkdniahincpmaaaGreatQB16
import Derived.Test.YtkdniahincpmaaaGreatQB24
set_option maxRecDepth 100000
set_option maxHeartbeats 16000000
namespace Go.Proofs.YtkdniahincpmaaaGreat
open Go Go.RowKit Tryz
section
theorem Qt3(id p q:Nat){X:Cx}{Q:Exit->AS->Prop}{σ:AS}{ops:Array Oper}{dr:Bool}(hf:YU X.fre q σ.ob=true)(h:AWp X (.region id ops dr) Q ⟨σ.nt,σ.sl.map fun y=>(y.1,y.2.mapN (renN p q)),σ.ob.map fun y=>(renN p q y.1,y.2.mapN (renN p q))⟩):AWp X (.region id ops dr) Q σ:=Yh p q hf h
attribute [local irreducible] AWp QM OpOk ACalls ChA QsOk MCalls NCalls EnC PY

def Qst(h:JL):List D:=[.n .i64 h.id,.n .i64 h.at',.un]
def Qh2(hs:List JL)(i:Nat):List (List D):=(hs.take i).map Qst++(hs.drop i).map QxP
theorem Qin{hs:List JL}{i:Nat}(h:i<=hs.length):(Qh2 hs i).length=hs.length:=by simp[Qh2];omega
theorem QrV{hs:List JL}{i:Nat}(h:i<hs.length):(Qh2 hs i)[i]?=some (QxP (nth hs i)):=by
 unfold Qh2
 rw[List.getElem?_append_right (by simp;omega),List.getElem?_map,List.getElem?_drop]
 have:i+(i-((hs.take i).map Qst).length)=i:=by simp;omega
 rw[this,QxR h]
 rfl
theorem Qrp{hs:List JL}{i:Nat}(h:i<hs.length):(Qh2 hs i).set i (Qst (nth hs i))=Qh2 hs (i+1):=by
 unfold Qh2
 rw[XbA _ _ (by simp;omega),VW h,QF h]
 have:i-((hs.take i).map Qst).length=0:=by simp;omega
 rw[this]
 simp
theorem Qim(l:List Run)(x:Run):runE l++[runD x]=runE (l++[x]):=by simp[runE,runD]
theorem QuA{l:List Job}{id:Int}(h:id∈l.map Job.id):∃k,k<l.length/\idxF l (fun j=>j.id==id)=(k:Nat)/\(nth l k).id=id/\VH l id=some (nth l k):=by
 obtain⟨x,g,e⟩:=Xaf.1 h
 obtain⟨i,f,rfl⟩:=Jt g
 obtain⟨k,⟨a,b⟩,d⟩:=least (p:=fun k=>k<l.length/\(nth l k).id=id) ⟨i,f,e⟩
 have c:∀j,j<k->(nth l j).id≠id:=fun j hj e=>by
  have:=d j ⟨by omega,e⟩
  omega
 exact⟨k,a,QgQ a (by simp[b]) (fun j hj=>by simpa using c j hj),b,QlM a b c⟩
structure PlanJ (s:Qb) (p:List JL×List JL):Prop where
 len:p.1.length+p.2.length<=(ordJ s.queue).length
 sub:(p.1.map JL.id).Sublist ((ordJ s.queue).map Job.id)
 st:∀h∈p.1,h.at'=s.now/\1<=h.nodes.length/\h.nodes.length<=24
 lt:∀h∈p.2,1<=h.nodes.length/\h.nodes.length<=24
theorem QeU{s:Qb}{r:Jn}(h:Jr s=some r):PlanJ s (Vh s):=by
 have b:=Qk0 h
 rw[Zk h]
 exact⟨b.len,b.sub,b.st,b.lt⟩
structure QcV (s:Qb) (r:Jn):Prop where
 room:Jr s=some r
 queue:Jg s.queue
 depth:0<=s.depth/\s.depth<=60
theorem QcV.now{s:Qb}{r:Jn}(h:QcV s r):0<=s.now/\s.now<=1000000000:=(YO h.room).2.2.2.1.now
theorem QcV.strP{s:Qb}{r:Jn}(h:QcV s r)(i:Nat)(hi:i<=(Vh s).1.length):StrP s.now s.queue s.runs (Vh s).1 i/\(i<(Vh s).1.length->(nth (Vh s).1 i).id∈(runF s.now s.queue s.runs ((Vh s).1.take i)).1.map Job.id):=by
 have a:=QeU h.room
 have b:((ordJ s.queue).map Job.id).Perm (s.queue.map Job.id):=(Xbz _ _).map _
 exact Proofs.YtkdniahincpmaaaGreat.strP (a.sub.nodup (b.nodup_iff.2 h.queue.nodup)) (fun x hx=>b.mem_iff.1 (a.sub.subset (Xaf.2 ⟨x,hx,rfl⟩))) i hi
theorem QpA{s:Qb}{r:Jn}(hs:Qo 100000000 s)(h:QcV s r):zAc 241 [Qz s] [Xo (Js s) 0 1 2 3 4 5] (QcO (Js s)):=by
 refine zAC func241 fun w0 Z=>?_
 have c1:=Qdy (hs.mono (m:=1000000000) (by omega))
 rw[h.room]at c1
 have u:=QwS (depth:=s.depth) (QaF h.room) h.queue h.now h.depth
 have c3:=Q4 hs
 have v:=QeU h.room
 have y:=h.strP
 unfold Js
 rw[<-Zk h.room]at u
 generalize Vh s=pl at u v y ⊢
 obtain⟨b,lt⟩:=pl
 dsimp only at u v y ⊢
 have an:=h.queue.len
 have ao:=hs.run
 have z:=v.len
 dsimp only at z
 have ak:=Wb s.queue
 have aj:=Yd b
 repeat'(first|(refine zhm fun hb=>?_;try exact zab)|refine Qd ?_|(apply zch;exact zcg)|exact zhk|refine zg3 ?_ ?_|refine kmu c1 ?_|refine kmu u ?_|intro _)
 refine Yh 3030 63 rfl ?_
 refine Qa (fun(n:Nat)=>⟨66,[(1,.ptr 1 0),(2,.ptr 2 0),(8,.ptr 8 0),(31,.row 25),(32,zI (b.length:Nat)),(33,zI n)],[(1,.box 34 (JI s)),(2,.box 34 ctl0),(8,.box 34 (stC s 30 1030 2030 63 4030 5030)),(25,.row 127 (Qh2 b n) true),(30,.row 3 (intE s.topo.parents) true),(1030,.row 62 (Qr s.topo.nodes) true),(2030,.row 4 (Qk s.up) true),(63,.row 40 (jobE (runF s.now s.queue s.runs (b.take n)).1) true),(4030,.row 66 (runE (runF s.now s.queue s.runs (b.take n)).2) true),(5030,.row 123 (endE s.ends) true)]⟩) (fun n=>n<=b.length) (fun n=>b.length-n) 0 (by exact Xae _) ?_ ?_
 ·exact zll
 intro n hn
 obtain⟨w,aa⟩:=y n hn
 have ac:=w.len
 have ad:=w.que
 by_cases c:n<b.length
 ·have a:=W3 (now:=s.now) (qs:=s.queue) (rs:=s.runs) c
  obtain⟨k,d,g,j,o⟩:=QuA (aa c)
  have t:((runF s.now s.queue s.runs (b.take n)).1.map Job.id).Nodup:=(w.sub.map Job.id).nodup h.queue.nodup
  have hx:=v.st _ (QE c)
  have p:=QrV c
  have f:=Qrp c
  have ah:=Qin hn
  generalize nth b n=x at a d g j o hx p f
  generalize runF s.now s.queue s.runs (b.take n)=q at a d g j o t ac ad ⊢
  unfold runH at a
  rw[o,XaJ]at a
  have al:=Qj q.1
  have am:=Qe q.2
  have ab:intE x.nodes≠[]:=fun e=>by
   have:=congrArg List.length e
   rw[Qc]at this
   simp at this
   rw[this]at hx
   simp at hx
  have c4:=Qkf (l:=q.1) (id:=x.id) (by omega)
  rw[g]at c4
  repeat'(first|(refine zhm fun hb=>?_;try exact zab)|(refine Qt3 10 62 63 rfl ?_)|refine zUtd ?_|(apply zchE;exact zcg)|(apply zch;exact zcg)|exact zhk|refine zg3 ?_ ?_|(apply YV;first|(refine Qtd rfl rfl rfl rfl p rfl ab QmM (QV fun _=>rfl) rfl rfl rfl rfl rfl rfl (fun e1 he1=>?_))|(refine QvI rfl rfl rfl ⟨rfl,rfl,rfl⟩ rfl rfl rfl rfl rfl rfl rfl rfl (QV fun _=>rfl) rfl rfl rfl rfl rfl he1 rfl rfl ?_)|(refine Qnf rfl rfl rfl rfl rfl rfl rfl rfl ⟨rfl,rfl,rfl⟩ (Qe _) (rfl:_=1) (by omega) rfl rfl rfl ?_))|refine zln fun _=>?_|refine zop ?_|refine zqd c4 ?_|(refine kn [63] (Ql1 d (by omega)) rfl rfl (fun i hi=>?_);try dsimp only at hi)|intro _)
  refine⟨n+1,by omega,by omega,?_⟩
  refine⟨rfl,?_,?_,rfl⟩
  repeat'(first|exact ze3|refine ze2 ?_ ?_|refine ze4 ?_|exact ze5|fail)
  all_goals exact zp (by first|rfl|exact f|(rw[a,XW t d,j];done)|(rw[a];exact Qim _ ⟨nth q.1 k,_,_⟩))
 ·obtain rfl:n=b.length:=by omega
  rw[Xal]at *
  repeat'(first|(refine zhm fun hb=>?_;try exact zab)|refine Qd ?_|(apply zch;exact zcg)|exact zhk|refine zg3 ?_ ?_|intro _)
  exact zr [30,1030,2030,63,4030,5030] zae zae
end
section
theorem J2.shal{X:Cx}{σ:AS}{a:Act}{w:World}{en:List Ent}(h1:J2 X σ a w en){p:Nat}{e:TypeId}{es:List (List D)}(hp:Ql σ.ob p=some (.row e es true)):Rel X ⟨σ.nt,σ.sl,(p,.row e es false)::YT p σ.ob⟩ a w:=by
 obtain⟨y,g,d,c⟩:=h1.ent hp
 have f:=h1.mem.ok y g
 unfold EntOk at f
 rw[c]at f
 obtain⟨z,s,k,l,m,n,o,q,r,j⟩:=f
 have i:Qfi X.P X.w0 X.Z X.O en w w p ⟨p,.row e es false,y.val,y.fs⟩ (fun _=>true):=
  ⟨h1.mem,fun _ _=>rfl,fun _ x hx e=>by
    have:=h1.mem.ent_unique hx g (e.trans d.symm)
    subst this
    exact⟨e.symm,rfl,by rw[c];rfl,by rw[c];rfl⟩,rfl,rfl,rfl,Xaj _,
   fun b hb hno=>rfl,fun b hb=>.inr ⟨y,g,d,by
   rcases hb with hb|⟨hd,_⟩
   ·exact .inl hb
   ·cases hd⟩,rfl,d▸h1.mem.fix y g⟩
 exact⟨_,h1.swap_keep i (by
  unfold EntOk
  exact⟨z,s,k,l,m,n,o,fun _ b hb=>i.imm_fs g d (by rw[c];rfl) q (fun hd=>(j hd).2.1) (fun hd b hb hq=>by
   rcases hq with hq|⟨hq,_⟩
   ·exact((j hd).2.1 b hb).2.2 hq
   ·cases hq) b hb,r,fun h=>by cases h⟩) (fun hd=>by cases hd)⟩
theorem QsA(id p:Nat){X:Cx}{Q:Exit->AS->Prop}{σ:AS}{ops:Array Oper}{dr:Bool}{e:TypeId}{es:List (List D)}(hp:Ql σ.ob p=some (.row e es true))(h:AWp X (.region id ops dr) Q ⟨σ.nt,σ.sl,(p,.row e es false)::YT p σ.ob⟩):AWp X (.region id ops dr) Q σ:=fun a w ⟨_,hr⟩=>h a w (hr.shal hp)
attribute [local irreducible] AWp QM OpOk ACalls ChA QsOk MCalls NCalls EnC PY

theorem Qn9{s:Qb}{r:Jn}(hs:Qo 100000000 s)(h:QcV s r):NCalls Tryz.prog 315 [.agg (W5 s 500000 500001)] [(500000,.row 66 (runE s.runs) false),(500001,.row 123 (endE s.ends) true)] (fun _:Unit=>True) (fun _=>[.agg (W5 (Js s) 0 1)]) (fun _=>[(0,.row 66 (runE (Js s).runs) false),(1,.row 123 (endE s.ends) true)]):=by
 refine Ve tt func315 rfl rfl rfl (fun _ _=>rfl) (fun w0 Z O=>?_)
 have p:=Qhp (hs.mono (m:=1000000000) (by omega))
 rw[h.room]at p
 have d:=Qxd (depth:=s.depth) (QaF h.room) h.queue h.now h.depth
 have e:=QeU h.room
 have f:=h.strP
 unfold Js
 rw[<-Zk h.room]at d
 generalize Vh s=pl at d e f ⊢
 obtain⟨b,lt⟩:=pl
 dsimp only at d e f ⊢
 have z:=h.queue.len
 have aa:=hs.run
 have g:=e.len
 dsimp only at g
 have x:=Wb s.queue
 have v:=Yd b
 repeat'(first|(refine zhm fun hb=>?_;try exact zab)|refine zUtp ?_|refine zg2 ?_ ?_|(refine km [500000,500001] (p) rfl rfl (fun i hi=>?_);try dsimp only at hi)|refine kmu d ?_|intro _)
 refine Qa (fun(n:Nat)=>⟨62,[(1,.ptr 1 0),(2,.ptr 2 0),(29,zL (QbM b)),(30,zI (b.length:Nat)),(31,zI n)],[(1,.box 34 (W5 { s with queue:=(runF s.now s.queue s.runs (b.take n)).1 } 500000 500001)),(2,.box 34 ctl0),(500000,.row 66 (runE (runF s.now s.queue s.runs (b.take n)).2) false),(500001,.row 123 (endE s.ends) true)]⟩) (fun n=>n<=b.length) (fun n=>b.length-n) 0 (by exact Xae _) ?_ ?_
 ·exact zll
 intro n w
 obtain⟨t,u⟩:=f n w
 have k:=t.len
 have o:=t.que
 by_cases j:n<b.length
 ·have c:=W3 (now:=s.now) (qs:=s.queue) (rs:=s.runs) j
  generalize runF s.now s.queue s.runs (b.take n)=q at c k o ⊢
  unfold runH at c
  have y:=Qe q.2
  repeat'(first|(refine zhm fun hb=>?_;try exact zab)|refine zUtp ?_|refine zg2 ?_ ?_|refine kc (Qa8 (l:=q.1) (id:=(nth b n).id) (by omega)) rfl rfl ?_|(refine km [] (QlJ (l:=q.1) (id:=(nth b n).id) (by omega)) rfl rfl (fun i hi=>?_);try dsimp only at hi)|intro _)
  refine⟨n+1,by omega,by omega,?_⟩
  refine⟨rfl,?_,?_,rfl⟩
  repeat'(first|exact ze3|refine ze2 ?_ ?_|refine ze4 ?_|exact ze5|fail)
  all_goals exact zp (by first|rfl|(rw[c];done)|(rw[c];exact Qim _ ⟨_,_,_⟩))
 ·obtain rfl:n=b.length:=by omega
  rw[Xal]at *
  repeat'(first|(refine zhm fun hb=>?_;try exact zab)|refine zUrp ?_|refine zg2 ?_ ?_|intro _)
  show AWp _ _ _ _
  apply Qs
  refine zn () [500000,500001] (by exact trivial) ?_ ?_
  all_goals exact zae
theorem Jg.left{a b:List Job}(h:Jg (a++b)):Jg a:=by
 have e:∀i,i<a.length->nth (a++b) i=nth a i:=fun i hi=>by
  rw[Jd (by simp;omega),Jd hi,List.getElem_append_left hi]
 have c:=h.len
 rw[Xab]at c
 refine⟨by omega,fun i hi=>by rw[<-e i hi];exact h.jobs i (by simp;omega),fun i hi k hk=>?_⟩
 rw[<-e i hi,<-e k (by omega)]
 exact h.diff i (by simp;omega) k hk
noncomputable def QyG (s:Qb):Qb:=if Qf s=true then Js s else zS
end
section
attribute [local irreducible] AWp QM OpOk ACalls ChA QsOk MCalls EnC PY
def mH(k:Nat)(r:JL):JL:=⟨(k:Int),((k+1:Nat):Int),JQ (gI (k+2)) r.nodes.length⟩
@[reducible] def wH (r:JL):Nat:=2+r.nodes.length
end
section
attribute [local irreducible] AWp QM OpOk ACalls ChA QsOk MCalls NCalls EnC PY

theorem QhR{s:Qb}{r:Jn}(h:QcV s r)(hs:Qo 1048576 s)(hr:s.runs.length<=1000000):Qo 1048576 (Js s):=by
 have b:=QeU h.room
 obtain⟨a,_⟩:=h.strP (Vh s).1.length (Xaj _)
 rw[show Js s={ s with queue:=(runF s.now s.queue s.runs ((Vh s).1.take (Vh s).1.length)).1,runs:=(runF s.now s.queue s.runs ((Vh s).1.take (Vh s).1.length)).2 } by rw[Xal];rfl]
 have h1:=a.len
 have h2:=a.que
 have h3:=b.len
 have h4:=Wb s.queue
 have h5:=h.queue.len
 refine⟨hs.par,hs.nod,hs.up,by dsimp only;omega,by dsimp only;omega,hs.end',fun j hj=>?_⟩
 dsimp only at hj ⊢
 rcases a.new _ (QE hj)with h6|⟨x,hx,_,h6,_⟩
 ·obtain⟨i,c,e⟩:=Jt h6
  rw[<-e]
  exact hs.rno i c
 ·rw[h6]
  have:=(b.st x (XaE hx)).2.2
  omega
theorem Qax{s:Qb}(h:Qf s=true):s.runs.length<=60:=by
 have:=(pB_t.1 h).jobs.len
 simp only[allJ,Xab,Xar]at this
 omega
noncomputable def QyE (s:Qb):List JL:=if Qf s=true then(Vh s).2 else[]
end
end Go.Proofs.YtkdniahincpmaaaGreat
