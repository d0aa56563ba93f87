/-
  Play, both.
-/
import Derived.Test.YtkdniahincpmaaaGreatKB43
import Derived.Test.YtkdniahincpmaaaGreatKB42
set_option maxRecDepth 100000
set_option maxHeartbeats 16000000
namespace Go.Proofs.YtkdniahincpmaaaGreat
open Go Go.RowKit Tryz
section
attribute [local irreducible] AWp QI OpOk ACalls ChA QsOk MCalls NCalls EnC PY

def V0(l:List WA):List (List D):=l.map fun x=>[.n .i64 x.kind,.n .i64 x.cmd.kind,.n .i64 x.cmd.job.id,.n .i64 x.cmd.job.prio,.n .i64 x.cmd.job.nodes,.n .i64 x.cmd.job.need.a,.n .i64 x.cmd.job.need.b,.n .i64 x.cmd.job.need.c,.n .i64 x.cmd.job.lic.a,.n .i64 x.cmd.job.lic.b,.n .i64 x.cmd.job.lic.c,.n .i64 x.cmd.job.wall,.n .i64 x.cmd.job.level,.n .i64 x.cmd.n,.n .i64 x.cmd.lic.a,.n .i64 x.cmd.lic.b,.n .i64 x.cmd.lic.c,.n .i64 x.keep]
theorem W7(l:List WA):(V0 l).length=l.length:=by simp[V0]
instance:Inhabited Cmd:=⟨⟨0,default,0,⟨0,0,0⟩⟩⟩
instance:Inhabited WA:=⟨⟨0,default,0⟩⟩
@[reducible] def zWC:List AV:=.d (.b false)::(ctl0++(ctl00++[.nil,.nil]))
noncomputable def JL (w:Wld) (l:List WA):Wld:=l.foldl doO w
theorem QxL:QG zW=false:=by
 unfold QG
 have:Jt zW.first=false:=by
  refine pB_f.2 fun h=>?_
  have:=(Zl h.ok).topo.len
  exact absurd this.1 (by decide)
 rw[this]
 rfl
theorem Qr0:∀(l:List WA),l.foldl doO zW=zW
 | []=>rfl
 | x::l=>by
  rw[XaU,show doO zW x=zW from if_neg (by rw[QxL];decide)]
  exact Qr0 l
theorem QoW{w:Wld}{l:List WA}(h:QG w=false)(hl:l≠[]):JL w l=zW:=by
 cases l with
 | nil=>exact absurd rfl hl
 | cons x l=>
  unfold JL
  rw[XaU,show doO w x=zW from if_neg (by rw[h];decide)]
  exact Qr0 l
theorem Qlj{w:Wld}{x:WA}(h:QG w=true):doO w x=J0 w x/\QG (doO w x)=true:=by
 have e:doO w x=J0 w x:=if_pos h
 exact⟨e,by rw[e];exact QvV h⟩
inductive PlK
 | dat (i:Nat) (w:Wld)
 | fin (n:Nat) (w:Wld)
@[reducible] def plOb (n:Nat) (w:Wld):List (Nat×AO):=match n with
 | 0=>[(2,.box 54 (.d (.b w.up)::(stC w.first 26 1026 2026 3026 4026 5026++((stC w.ctl.first 6026 7026 8026 9026 10026 11026++(stC w.ctl.state 12026 13026 14026 15026 16026 17026++[.row 18026,zI w.ctl.jn.synced,zI w.ctl.jn.count]))++[.row 19026,.row 20026])))),(4,.box 54 zWC),(26,.row 3 (intE w.first.topo.parents) true),(1026,.row 62 (Qw w.first.topo.nodes) true),(2026,.row 4 (Qp w.first.up) true),(3026,.row 40 (jobE w.first.queue) true),(4026,.row 66 (runE w.first.runs) true),(5026,.row 123 (endE w.first.ends) true),(6026,.row 3 (intE w.ctl.first.topo.parents) true),(7026,.row 62 (Qw w.ctl.first.topo.nodes) true),(8026,.row 4 (Qp w.ctl.first.up) true),(9026,.row 40 (jobE w.ctl.first.queue) true),(10026,.row 66 (runE w.ctl.first.runs) true),(11026,.row 123 (endE w.ctl.first.ends) true),(12026,.row 3 (intE w.ctl.state.topo.parents) true),(13026,.row 62 (Qw w.ctl.state.topo.nodes) true),(14026,.row 4 (Qp w.ctl.state.up) true),(15026,.row 40 (jobE w.ctl.state.queue) true),(16026,.row 66 (runE w.ctl.state.runs) true),(17026,.row 123 (endE w.ctl.state.ends) true),(18026,.row 5 (QK w.ctl.jn.bytes) true),(19026,.row 5 (QK w.bytes) true),(20026,.row 3 (intE w.codes) true)]
 | 1=>[(2,.box 54 (.d (.b w.up)::(stC w.first 26 1026 2026 3026 4026 5026++(ctl00++[.row 6026,.row 7026])))),(4,.box 54 zWC),(26,.row 3 (intE w.first.topo.parents) true),(1026,.row 62 (Qw w.first.topo.nodes) true),(2026,.row 4 (Qp w.first.up) true),(3026,.row 40 (jobE w.first.queue) true),(4026,.row 66 (runE w.first.runs) true),(5026,.row 123 (endE w.first.ends) true),(6026,.row 5 (QK w.bytes) true),(7026,.row 3 (intE w.codes) true)]
 | _=>[(2,.box 54 (.d (.b w.up)::(stC w.first 26 1026 2026 3026 4026 5026++((stC w.ctl.first 6026 7026 8026 9026 10026 11026++(stC w.ctl.state 12026 13026 14026 15026 16026 17026++[.row 18026,zI w.ctl.jn.synced,zI w.ctl.jn.count]))++[.nil,.row 19026])))),(4,.box 54 zWC),(26,.row 3 (intE w.first.topo.parents) true),(1026,.row 62 (Qw w.first.topo.nodes) true),(2026,.row 4 (Qp w.first.up) true),(3026,.row 40 (jobE w.first.queue) true),(4026,.row 66 (runE w.first.runs) true),(5026,.row 123 (endE w.first.ends) true),(6026,.row 3 (intE w.ctl.first.topo.parents) true),(7026,.row 62 (Qw w.ctl.first.topo.nodes) true),(8026,.row 4 (Qp w.ctl.first.up) true),(9026,.row 40 (jobE w.ctl.first.queue) true),(10026,.row 66 (runE w.ctl.first.runs) true),(11026,.row 123 (endE w.ctl.first.ends) true),(12026,.row 3 (intE w.ctl.state.topo.parents) true),(13026,.row 62 (Qw w.ctl.state.topo.nodes) true),(14026,.row 4 (Qp w.ctl.state.up) true),(15026,.row 40 (jobE w.ctl.state.queue) true),(16026,.row 66 (runE w.ctl.state.runs) true),(17026,.row 123 (endE w.ctl.state.ends) true),(18026,.row 5 (QK w.ctl.jn.bytes) true),(19026,.row 3 (intE w.codes) true)]
@[reducible] def plS (l:List WA):PlK->AS
 | .dat i w=>⟨29,[(2,.ptr 2 0),(4,.ptr 4 0),(18,zL (V0 l)),(19,zI (l.length:Nat)),(20,zI i)],[(2,.box 54 (wldC w)),(4,.box 54 zWC)]⟩
 | .fin n w=>⟨29,[(2,.ptr 2 0),(4,.ptr 4 0),(18,zL (V0 l)),(19,zI (l.length:Nat)),(20,zI (l.length:Nat))],plOb n w⟩

theorem Qwa{w:Wld}(hs:Wz w):zAc 14 [wldA w,zL (V0 [])] [Qsc w] (QtJ w):=by
 refine zAC func14 fun w0 Z=>?_
 have c1:=QaH hs
 repeat'(first|(refine zhm fun hb=>?_;try exact zab)|refine Qd ?_|(apply zch;exact zcg)|exact zhk|refine zg3 ?_ ?_|intro _)
 refine Qa (fun(_:Unit)=>⟨29,[(2,.ptr 2 0),(4,.ptr 4 0),(18,zL []),(19,zI 0),(20,zI 0)],[(2,.box 54 (.d (.b w.up)::(stC w.first 17 1017 2017 3017 4017 5017++((stC w.ctl.first 6017 7017 8017 9017 10017 11017++(stC w.ctl.state 12017 13017 14017 15017 16017 17017++[.row 18017,zI w.ctl.jn.synced,zI w.ctl.jn.count]))++[.row 19017,.row 20017])))),(4,.box 54 zWC),(17,.row 3 (intE w.first.topo.parents) true),(1017,.row 62 (Qw w.first.topo.nodes) true),(2017,.row 4 (Qp w.first.up) true),(3017,.row 40 (jobE w.first.queue) true),(4017,.row 66 (runE w.first.runs) true),(5017,.row 123 (endE w.first.ends) true),(6017,.row 3 (intE w.ctl.first.topo.parents) true),(7017,.row 62 (Qw w.ctl.first.topo.nodes) true),(8017,.row 4 (Qp w.ctl.first.up) true),(9017,.row 40 (jobE w.ctl.first.queue) true),(10017,.row 66 (runE w.ctl.first.runs) true),(11017,.row 123 (endE w.ctl.first.ends) true),(12017,.row 3 (intE w.ctl.state.topo.parents) true),(13017,.row 62 (Qw w.ctl.state.topo.nodes) true),(14017,.row 4 (Qp w.ctl.state.up) true),(15017,.row 40 (jobE w.ctl.state.queue) true),(16017,.row 66 (runE w.ctl.state.runs) true),(17017,.row 123 (endE w.ctl.state.ends) true),(18017,.row 5 (QK w.ctl.jn.bytes) true),(19017,.row 5 (QK w.bytes) true),(20017,.row 3 (intE w.codes) true)]⟩) (fun _=>True) (fun _=>0) () trivial ?_ ?_
 ·refine⟨rfl,?_,?_,rfl⟩
  repeat'(first|exact ze3|refine ze2 ?_ ?_|refine ze4 ?_|exact ze5|fail)
  all_goals exact zp rfl
 ·intro _ _
  repeat'(first|(refine zhm fun hb=>?_;try exact zab)|refine Qd ?_|(apply zch;exact zcg)|exact zhk|refine zg3 ?_ ?_|intro _)
  refine zr [17,1017,2017,3017,4017,5017,6017,7017,8017,9017,10017,11017,12017,13017,14017,15017,16017,17017,18017,19017,20017] ?_ ?_
  repeat'(first|exact ze3|refine ze2 ?_ ?_|refine ze4 ?_|exact ze5|fail)
  all_goals exact zp rfl
theorem QwM{w:Wld}{l:List WA}(hs:Wz w)(hw:QG w=false)(hl:l≠[])(hll:l.length<=1048576):zAc 14 [wldA w,zL (V0 l)] [Qx0] []:=by
 refine zAC func14 fun w0 Z=>?_
 have h0:=Xbb.2 hl
 have b:=W7 l
 have a:=QeT hs.v
 rw[hw]at a
 repeat'(first|(refine zhm fun hb=>?_;try exact zab)|refine Qd ?_|(apply zch;exact zcg)|exact zhk|refine zg3 ?_ ?_|intro _)
 all_goals first|(exfalso;omega)|skip
 refine zr [] ?_ ?_
 repeat'(first|exact ze3|refine ze2 ?_ ?_|refine ze4 ?_|exact ze5|fail)
 all_goals exact zp rfl
theorem QyA{w:Wld}{x:WA}(hs:Wz w)(hw:QG w=true):DC Tryz.prog 53 [wldA w,Qcm x] [wldA (J0 w x)]:=by
 have a:=QuV (x:=x) hs hw
 have d:=Qrh (w:=w) (x:=x)
 have e:=Qqh (w:=w) (x:=x)
 have f:=QdE w x
 generalize Wo w x=n at a d e f
 generalize J0 w x=r at a d e ⊢
 rcases f with rfl|rfl|rfl
 ·exact WE (dc_a a)
 ·obtain⟨h,s,c,b,g⟩:=r
  obtain rfl:c=zC:=d rfl
  exact WE (dc_a a)
 ·obtain⟨h,s,c,b,g⟩:=r
  obtain rfl:b=[]:=e rfl
  exact WE (dc_a a)

theorem Zu{w:Wld}{l:List WA}{i:Nat}(h:i<l.length):JL w (l.take (i+1))=doO (JL w (l.take i)) (nth l i):=by
 unfold JL
 rw[Qo h,XaJ]
 rfl
theorem Qxt{w:Wld}{x:WA}(h:Zh w):Zh (doO w x):=by
 unfold doO
 split
 ·exact Qw6 h
 ·exact QlB.v
theorem Qd6(w:Wld)(x:WA):(doO w x).codes.length<=w.codes.length+1:=by
 unfold doO
 split
 ·exact Qkb w x
 ·exact Xad _
theorem QhS{w:Wld}{l:List WA}(h:Zh w):∀i,i<=l.length->Zh (JL w (l.take i))/\(JL w (l.take i)).codes.length<=w.codes.length+i
 | 0,_=>⟨h,Xaj _⟩
 | i+1,hi=>by
  obtain⟨h1,h2⟩:=QhS (l:=l) h i (by omega)
  rw[Zu (by omega)]
  have:=Qd6 (JL w (l.take i)) (nth l i)
  exact⟨Qxt h1,by omega⟩
theorem Qdz{w:Wld}{l:List WA}(h:QG w=true):∀i,i<=l.length->QG (JL w (l.take i))=true
 | 0,_=>h
 | i+1,hi=>by
  rw[Zu (by omega)]
  exact(Qlj (Qdz h i (by omega))).2
theorem QpA{w:Wld}{l:List WA}(h:Zh w)(hc:w.codes.length+l.length<=100000000){i:Nat}(hi:i<=l.length):Wz (JL w (l.take i)):=by
 obtain⟨a,h2⟩:=QhS (l:=l) h i hi
 exact⟨a,by omega⟩
noncomputable def pyS (w:Wld) (l:List WA):Nat:=if l=[]then 0 else if QG w=true then Wo (JL w (l.take (l.length-1))) (nth l (l.length-1))else 3
theorem QwD{w:Wld}{l:List WA}(hs:Wz w)(hw:QG w=true)(hl:l≠[])(hll:l.length<=1048576)(hc:w.codes.length+l.length<=100000000):zAc 14 [wldA w,zL (V0 l)] (Qr1 (Wo (JL w (l.take (l.length-1))) (nth l (l.length-1))) (JL w l)) (Qql (Wo (JL w (l.take (l.length-1))) (nth l (l.length-1))) (JL w l)):=by
 refine zAC func14 fun w0 Z=>?_
 have t:=Xbb.2 hl
 have m:=W7 l
 have p:=QeT hs.v
 rw[hw]at p
 have s:DC Tryz.prog 52 [wldA w] [wldA w]:=dc_a (QaH hs)
 repeat'(first|(refine zhm fun hb=>?_;try exact zab)|refine Qd ?_|(apply zch;exact zcg)|exact zhk|refine zg3 ?_ ?_|(refine km [] (s) rfl rfl (fun i g=>?_);try dsimp only at g)|intro _)
 all_goals first|(exfalso;omega)|skip
 refine Qa (plS l) (fun j=>match j with|.dat i v=>i<l.length/\v=JL w (l.take i)|.fin n v=>n=Wo (JL w (l.take (l.length-1))) (nth l (l.length-1))/\v=JL w l) (fun j=>match j with|.dat i _=>l.length-i|.fin _ _=>0) (.dat 0 w) (by exact⟨t,rfl⟩) ?_ ?_
 ·refine⟨rfl,?_,?_,rfl⟩
  repeat'(first|exact ze3|refine ze2 ?_ ?_|refine ze4 ?_|exact ze5|fail)
  all_goals exact zp (by first|rfl|exact m)
 rintro (⟨q,v⟩|⟨n,v⟩) o
 ·obtain⟨g,rfl⟩:=o
  dsimp only
  have f:=QpA (l:=l) hs.v hc (i:=q) (by omega)
  have b:=Qdz (l:=l) hw q (by omega)
  have c:=Zu (w:=w) g
  rw[(Qlj b).1]at c
  by_cases k:q+1=l.length
  ·have a:=QuV (x:=nth l q) f b
   have d:=QdE (JL w (l.take q)) (nth l q)
   have h:q=l.length-1:=by omega
   have e:JL w l=J0 (JL w (l.take q)) (nth l q):=by rw[<-c,k,Xak]
   rw[<-h,e]
   generalize Wo (JL w (l.take q)) (nth l q)=n at a d ⊢
   generalize J0 (JL w (l.take q)) (nth l q)=r at a ⊢
   generalize JL w (l.take q)=v at a ⊢
   rcases d with rfl|rfl|rfl
   ·dsimp only[Qr1,Qql]at a
    repeat'(first|(refine zhm fun hb=>?_;try exact zab)|refine Qd ?_|(apply zch;exact zcg)|exact zhk|refine zg3 ?_ ?_|intro _)
    refine⟨.fin 0 r,⟨rfl,rfl⟩,by dsimp only;omega,?_⟩
    refine⟨rfl,?_,?_,rfl⟩
    repeat'(first|exact ze3|refine ze2 ?_ ?_|refine ze4 ?_|exact ze5|fail)
    all_goals exact zp (by first|rfl|(congr 1;omega))
   ·dsimp only[Qr1,Qql]at a
    repeat'(first|(refine zhm fun hb=>?_;try exact zab)|refine Qd ?_|(apply zch;exact zcg)|exact zhk|refine zg3 ?_ ?_|intro _)
    refine⟨.fin 1 r,⟨rfl,rfl⟩,by dsimp only;omega,?_⟩
    refine⟨rfl,?_,?_,rfl⟩
    repeat'(first|exact ze3|refine ze2 ?_ ?_|refine ze4 ?_|exact ze5|fail)
    all_goals exact zp (by first|rfl|(congr 1;omega))
   ·dsimp only[Qr1,Qql]at a
    repeat'(first|(refine zhm fun hb=>?_;try exact zab)|refine Qd ?_|(apply zch;exact zcg)|exact zhk|refine zg3 ?_ ?_|intro _)
    refine⟨.fin 2 r,⟨rfl,rfl⟩,by dsimp only;omega,?_⟩
    refine⟨rfl,?_,?_,rfl⟩
    repeat'(first|exact ze3|refine ze2 ?_ ?_|refine ze4 ?_|exact ze5|fail)
    all_goals exact zp (by first|rfl|(congr 1;omega))
  ·have a:=QyA (x:=nth l q) f b
   rw[<-c]at a
   generalize JL w (l.take q)=v at a ⊢
   repeat'(first|(refine zhm fun hb=>?_;try exact zab)|refine Qd ?_|(apply zch;exact zcg)|exact zhk|refine zg3 ?_ ?_|refine kmu a ?_|intro _)
   refine⟨.dat (q+1) (JL w (l.take (q+1))),⟨by omega,rfl⟩,by dsimp only;omega,?_⟩
   refine⟨rfl,?_,?_,rfl⟩
   repeat'(first|exact ze3|refine ze2 ?_ ?_|refine ze4 ?_|exact ze5|fail)
   all_goals exact zp rfl
 ·obtain⟨rfl,rfl⟩:=o
  dsimp only
  have d:=QdE (JL w (l.take (l.length-1))) (nth l (l.length-1))
  generalize Wo (JL w (l.take (l.length-1))) (nth l (l.length-1))=n at d ⊢
  generalize JL w l=v
  rcases d with rfl|rfl|rfl
  ·repeat'(first|(refine zhm fun hb=>?_;try exact zab)|refine Qd ?_|(apply zch;exact zcg)|exact zhk|refine zg3 ?_ ?_|intro _)
   refine zr [26,1026,2026,3026,4026,5026,6026,7026,8026,9026,10026,11026,12026,13026,14026,15026,16026,17026,18026,19026,20026] ?_ ?_
   repeat'(first|exact ze3|refine ze2 ?_ ?_|refine ze4 ?_|exact ze5|fail)
   all_goals exact zp rfl
  ·repeat'(first|(refine zhm fun hb=>?_;try exact zab)|refine Qd ?_|(apply zch;exact zcg)|exact zhk|refine zg3 ?_ ?_|intro _)
   refine zr [26,1026,2026,3026,4026,5026,6026,7026] ?_ ?_
   repeat'(first|exact ze3|refine ze2 ?_ ?_|refine ze4 ?_|exact ze5|fail)
   all_goals exact zp rfl
  ·repeat'(first|(refine zhm fun hb=>?_;try exact zab)|refine Qd ?_|(apply zch;exact zcg)|exact zhk|refine zg3 ?_ ?_|intro _)
   refine zr [26,1026,2026,3026,4026,5026,6026,7026,8026,9026,10026,11026,12026,13026,14026,15026,16026,17026,18026,19026] ?_ ?_
   repeat'(first|exact ze3|refine ze2 ?_ ?_|refine ze4 ?_|exact ze5|fail)
   all_goals exact zp rfl
theorem QuT{w:Wld}{l:List WA}(hs:Wz w)(hll:l.length<=1048576)(hc:w.codes.length+l.length<=100000000):DC Tryz.prog 18 [wldA w,zL (V0 l)] [wldA (JL w l)]:=by
 refine zMC func18 fun w0 Z O=>?_
 have c:=W7 l
 have f:=QpM hs
 repeat'(first|(refine zhm fun hb=>?_;try exact zab)|refine Qd ?_|(apply zch;exact zcg)|exact zhk|refine zg3 ?_ ?_|refine kmu f ?_|intro _)
 refine Qa (fun(k:Nat×Wld)=>⟨20,[(2,.ptr 2 0),(4,.ptr 4 0),(9,zL (V0 l)),(10,zI (l.length:Nat)),(11,zI k.1)],[(2,.box 54 (wldC k.2)),(4,.box 54 zWC)]⟩) (fun k=>k.1<=l.length/\k.2=JL w (l.take k.1)) (fun k=>l.length-k.1) (0,w) (by exact⟨Xad _,rfl⟩) ?_ ?_
 ·refine⟨rfl,?_,?_,rfl⟩
  repeat'(first|exact ze3|refine ze2 ?_ ?_|refine ze4 ?_|exact ze5|fail)
  all_goals exact zp (by first|rfl|exact c)
 ·rintro ⟨q,v⟩ ⟨g,e⟩
  dsimp only at g e ⊢
  subst e
  by_cases b:q<l.length
  ·have d:=QpA (l:=l) hs.v hc (i:=q) (by omega)
   have a:=do_s (x:=nth l q) d
   rw[<-Zu (w:=w) b]at a
   generalize JL w (l.take q)=v at a ⊢
   repeat'(first|(refine zhm fun hb=>?_;try exact zab)|refine Qd ?_|(apply zch;exact zcg)|exact zhk|refine zg3 ?_ ?_|refine kmu a ?_|intro _)
   refine⟨(q+1,JL w (l.take (q+1))),⟨by omega,rfl⟩,by dsimp only;omega,?_⟩
   refine⟨rfl,?_,?_,rfl⟩
   repeat'(first|exact ze3|refine ze2 ?_ ?_|refine ze4 ?_|exact ze5|fail)
   all_goals exact zp rfl
  ·obtain rfl:q=l.length:=by omega
   rw[Xak]
   generalize JL w l=v
   repeat'(first|(refine zhm fun hb=>?_;try exact zab)|refine QR ?_|(apply zch;exact zcg)|exact zhk|refine zg3 ?_ ?_|intro _)
   exact zDR
end
end Go.Proofs.YtkdniahincpmaaaGreat
