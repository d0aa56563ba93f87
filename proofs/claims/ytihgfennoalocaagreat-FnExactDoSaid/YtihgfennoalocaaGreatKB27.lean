/-
  A law's argument that is a state.
-/
import Derived.Test.YtihgfennoalocaaGreatKGlA
set_option maxRecDepth 100000
set_option maxHeartbeats 16000000
namespace Go.Proofs.YtihgfennoalocaaGreat
open Go Go.RowKit Tryz
section

def QkD(s:Qd):List D:=[.sl (intE s.topo.parents),.sl (Qz s.topo.nodes),.sl (Qq s.up),.n .i64 s.lic.a,.n .i64 s.lic.b,.n .i64 s.lic.c,.n .i64 s.depth,.n .i64 s.now,.sl (jobE s.queue),.sl (runE s.runs),.sl (endE s.ends)]
theorem Xu{W:World}{n:Nat}{ds:List D}(h:TyD ⟨Tryz.prog,W,fun _=>true,NoZ,NoB,tt⟩ (n+25) 33 ds):∃s:Qd,ds=QkD s/\Ql 9223372036854775807 s:=by
 obtain⟨_,_,rfl,⟨_,_,rfl,⟨e1,rfl,l1,q1⟩,_,_,rfl,⟨e2,rfl,l2,q2⟩,rfl⟩,_,_,rfl,⟨e3,rfl,l3,q3⟩,_,_,rfl,⟨_,_,rfl,⟨a,rfl,_⟩,_,_,rfl,⟨b,rfl,_⟩,_,_,rfl,⟨c,rfl,_⟩,rfl⟩,_,_,rfl,⟨dp,rfl,_⟩,_,_,rfl,⟨nw,rfl,_⟩,_,_,rfl,⟨e4,rfl,l4,q4⟩,_,_,rfl,⟨e5,rfl,l5,q5⟩,_,_,rfl,⟨e6,rfl,l6,q6⟩,rfl⟩:=h
 obtain⟨p1,rfl,_⟩:=QaH (f:=fun x:Int=>([.n .i64 x]:List D)) (p:=fun _=>True) (es:=e1) fun q hq=>by
  obtain⟨z,rfl,_⟩:=q1 q hq
  exact⟨z,rfl,trivial⟩
 obtain⟨p2,rfl,_⟩:=QaH (f:=fun n:X6=>([.n .i64 n.leaf,.n .i64 n.cap.a,.n .i64 n.cap.b,.n .i64 n.cap.c]:List D)) (p:=fun _=>True) (es:=e2) fun q hq=>by
  obtain⟨_,_,rfl,⟨z,rfl,_⟩,_,_,rfl,⟨_,_,rfl,⟨x,rfl,_⟩,_,_,rfl,⟨y,rfl,_⟩,_,_,rfl,⟨u,rfl,_⟩,rfl⟩,rfl⟩:=q2 q hq
  exact⟨⟨z,⟨x,y,u⟩⟩,rfl,trivial⟩
 obtain⟨p3,rfl,_⟩:=QaH (f:=fun x:Bool=>([.b x]:List D)) (p:=fun _=>True) (es:=e3) fun q hq=>by
  obtain⟨z,rfl⟩:=q3 q hq
  exact⟨z,rfl,trivial⟩
 obtain⟨p4,rfl,_⟩:=QaH (f:=jobD) (p:=fun _=>True) (es:=e4) fun q hq=>by
  obtain⟨_,_,rfl,⟨i,rfl,_⟩,_,_,rfl,⟨pr,rfl,_⟩,_,_,rfl,⟨no,rfl,_⟩,_,_,rfl,⟨_,_,rfl,⟨x,rfl,_⟩,_,_,rfl,⟨y,rfl,_⟩,_,_,rfl,⟨z,rfl,_⟩,rfl⟩,_,_,rfl,⟨_,_,rfl,⟨x',rfl,_⟩,_,_,rfl,⟨y',rfl,_⟩,_,_,rfl,⟨z',rfl,_⟩,rfl⟩,_,_,rfl,⟨wa,rfl,_⟩,_,_,rfl,⟨le,rfl,_⟩,rfl⟩:=q4 q hq
  exact⟨⟨i,pr,no,⟨x,y,z⟩,⟨x',y',z'⟩,wa,le⟩,rfl,trivial⟩
 obtain⟨p5,rfl,g5⟩:=QaH (f:=runD) (p:=fun r=>r.nodes.length<=9223372036854775807) (es:=e5) fun q hq=>by
  obtain⟨_,_,rfl,⟨_,_,rfl,⟨i,rfl,_⟩,_,_,rfl,⟨pr,rfl,_⟩,_,_,rfl,⟨no,rfl,_⟩,_,_,rfl,⟨_,_,rfl,⟨x,rfl,_⟩,_,_,rfl,⟨y,rfl,_⟩,_,_,rfl,⟨z,rfl,_⟩,rfl⟩,_,_,rfl,⟨_,_,rfl,⟨x',rfl,_⟩,_,_,rfl,⟨y',rfl,_⟩,_,_,rfl,⟨z',rfl,_⟩,rfl⟩,_,_,rfl,⟨wa,rfl,_⟩,_,_,rfl,⟨le,rfl,_⟩,rfl⟩,_,_,rfl,⟨at',rfl,_⟩,_,_,rfl,⟨es,rfl,le2,qq⟩,rfl⟩:=q5 q hq
  obtain⟨ns,rfl,_⟩:=QaH (f:=fun x:Int=>([.n .i64 x]:List D)) (p:=fun _=>True) (es:=es) fun q hq=>by
   obtain⟨z,rfl,_⟩:=qq q hq
   exact⟨z,rfl,trivial⟩
  exact⟨⟨⟨i,pr,no,⟨x,y,z⟩,⟨x',y',z'⟩,wa,le⟩,at',ns⟩,rfl,by rw[Xah]at le2;exact le2⟩
 obtain⟨p6,rfl,_⟩:=QaH (f:=fun e:Qb5=>([.n .i64 e.id,.n .i64 e.at',.n .i64 e.why]:List D)) (p:=fun _=>True) (es:=e6) fun q hq=>by
  obtain⟨_,_,rfl,⟨x,rfl,_⟩,_,_,rfl,⟨y,rfl,_⟩,_,_,rfl,⟨z,rfl,_⟩,rfl⟩:=q6 q hq
  exact⟨⟨x,y,z⟩,rfl,trivial⟩
 rw[Xah]at l1 l2 l3 l4 l5 l6
 exact⟨⟨⟨p1,p2⟩,p3,⟨a,b,c⟩,dp,nw,p4,p5,p6⟩,rfl,⟨l1,l2,l3,l4,l5,l6,fun j hj=>g5 _ (QO hj)⟩⟩
end
end Go.Proofs.YtihgfennoalocaaGreat
