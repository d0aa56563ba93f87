/-
  Play, both.
-/
import Derived.Test.YtkdniahincpmaaaGreatQB41
import Derived.Test.YtkdniahincpmaaaGreatQB40
set_option maxRecDepth 100000
set_option maxHeartbeats 16000000
namespace Go.Proofs.YtkdniahincpmaaaGreat
open Go Go.RowKit Tryz
section
attribute [local irreducible] AWp QM OpOk ACalls ChA QsOk MCalls NCalls EnC PY

def JR(l:List Vf):List (List D):=l.map fun x=>[.n .i64 x.kind,.n .i64 x.cmd.kind,.n .i64 x.cmd.job.id,.n .i64 x.cmd.job.prio,.n .i64 x.cmd.job.nodes,.n .i64 x.cmd.job.need.a,.n .i64 x.cmd.job.need.b,.n .i64 x.cmd.job.need.c,.n .i64 x.cmd.job.lic.a,.n .i64 x.cmd.job.lic.b,.n .i64 x.cmd.job.lic.c,.n .i64 x.cmd.job.wall,.n .i64 x.cmd.job.level,.n .i64 x.cmd.n,.n .i64 x.cmd.lic.a,.n .i64 x.cmd.lic.b,.n .i64 x.cmd.lic.c,.n .i64 x.keep]
theorem YG(l:List Vf):(JR l).length=l.length:=by simp[JR]
instance:Inhabited Cmd:=⟨⟨0,default,0,⟨0,0,0⟩⟩⟩
instance:Inhabited Vf:=⟨⟨0,default,0⟩⟩
@[reducible] def zWC:List AV:=.d (.b false)::(ctl0++(ctl00++[.nil,.nil]))
noncomputable def JY (w:Wld) (l:List Vf):Wld:=l.foldl doO w
theorem Qym:QK zW=false:=by
 unfold QK
 have:YN zW.first=false:=by
  refine pB_f.2 fun h=>?_
  have:=(Qaj h.ok).topo.len
  exact absurd this.1 (by decide)
 rw[this]
 rfl
theorem QoI:∀(l:List Vf),l.foldl doO zW=zW
 | []=>rfl
 | x::l=>by
  rw[Xa4,show doO zW x=zW from if_neg (by rw[Qym];decide)]
  exact QoI l
theorem QjC{w:Wld}{l:List Vf}(h:QK w=false)(hl:l≠[]):JY w l=zW:=by
 cases l with
 | nil=>exact absurd rfl hl
 | cons x l=>
  unfold JY
  rw[Xa4,show doO w x=zW from if_neg (by rw[h];decide)]
  exact QoI l
theorem QrA{w:Wld}{x:Vf}(h:QK w=true):doO w x=J3 w x/\QK (doO w x)=true:=by
 have e:doO w x=J3 w x:=if_pos h
 exact⟨e,by rw[e];exact Qu1 h⟩
inductive PlK
 | dat (i:Nat) (w:Wld)
 | fin (n:Nat) (w:Wld)
@[reducible] def plOb (n:Nat) (w:Wld):List (Nat×AO):=match n with
 | 0=>[(2,.box 54 (.d (.b w.up)::(stC w.first 26 1026 2026 3026 4026 5026++((stC w.ctl.first 6026 7026 8026 9026 10026 11026++(stC w.ctl.state 12026 13026 14026 15026 16026 17026++[.row 18026,zI w.ctl.jn.synced,zI w.ctl.jn.count]))++[.row 19026,.row 20026])))),(4,.box 54 zWC),(26,.row 3 (intE w.first.topo.parents) true),(1026,.row 62 (Qr w.first.topo.nodes) true),(2026,.row 4 (Qk w.first.up) true),(3026,.row 40 (jobE w.first.queue) true),(4026,.row 66 (runE w.first.runs) true),(5026,.row 123 (endE w.first.ends) true),(6026,.row 3 (intE w.ctl.first.topo.parents) true),(7026,.row 62 (Qr w.ctl.first.topo.nodes) true),(8026,.row 4 (Qk w.ctl.first.up) true),(9026,.row 40 (jobE w.ctl.first.queue) true),(10026,.row 66 (runE w.ctl.first.runs) true),(11026,.row 123 (endE w.ctl.first.ends) true),(12026,.row 3 (intE w.ctl.state.topo.parents) true),(13026,.row 62 (Qr w.ctl.state.topo.nodes) true),(14026,.row 4 (Qk w.ctl.state.up) true),(15026,.row 40 (jobE w.ctl.state.queue) true),(16026,.row 66 (runE w.ctl.state.runs) true),(17026,.row 123 (endE w.ctl.state.ends) true),(18026,.row 5 (QC w.ctl.jn.bytes) true),(19026,.row 5 (QC w.bytes) true),(20026,.row 3 (intE w.codes) true)]
 | 1=>[(2,.box 54 (.d (.b w.up)::(stC w.first 26 1026 2026 3026 4026 5026++(ctl00++[.row 6026,.row 7026])))),(4,.box 54 zWC),(26,.row 3 (intE w.first.topo.parents) true),(1026,.row 62 (Qr w.first.topo.nodes) true),(2026,.row 4 (Qk w.first.up) true),(3026,.row 40 (jobE w.first.queue) true),(4026,.row 66 (runE w.first.runs) true),(5026,.row 123 (endE w.first.ends) true),(6026,.row 5 (QC w.bytes) true),(7026,.row 3 (intE w.codes) true)]
 | _=>[(2,.box 54 (.d (.b w.up)::(stC w.first 26 1026 2026 3026 4026 5026++((stC w.ctl.first 6026 7026 8026 9026 10026 11026++(stC w.ctl.state 12026 13026 14026 15026 16026 17026++[.row 18026,zI w.ctl.jn.synced,zI w.ctl.jn.count]))++[.nil,.row 19026])))),(4,.box 54 zWC),(26,.row 3 (intE w.first.topo.parents) true),(1026,.row 62 (Qr w.first.topo.nodes) true),(2026,.row 4 (Qk w.first.up) true),(3026,.row 40 (jobE w.first.queue) true),(4026,.row 66 (runE w.first.runs) true),(5026,.row 123 (endE w.first.ends) true),(6026,.row 3 (intE w.ctl.first.topo.parents) true),(7026,.row 62 (Qr w.ctl.first.topo.nodes) true),(8026,.row 4 (Qk w.ctl.first.up) true),(9026,.row 40 (jobE w.ctl.first.queue) true),(10026,.row 66 (runE w.ctl.first.runs) true),(11026,.row 123 (endE w.ctl.first.ends) true),(12026,.row 3 (intE w.ctl.state.topo.parents) true),(13026,.row 62 (Qr w.ctl.state.topo.nodes) true),(14026,.row 4 (Qk w.ctl.state.up) true),(15026,.row 40 (jobE w.ctl.state.queue) true),(16026,.row 66 (runE w.ctl.state.runs) true),(17026,.row 123 (endE w.ctl.state.ends) true),(18026,.row 5 (QC w.ctl.jn.bytes) true),(19026,.row 3 (intE w.codes) true)]
@[reducible] def plS (l:List Vf):PlK->AS
 | .dat i w=>⟨29,[(2,.ptr 2 0),(4,.ptr 4 0),(18,zL (JR l)),(19,zI (l.length:Nat)),(20,zI i)],[(2,.box 54 (wldC w)),(4,.box 54 zWC)]⟩
 | .fin n w=>⟨29,[(2,.ptr 2 0),(4,.ptr 4 0),(18,zL (JR l)),(19,zI (l.length:Nat)),(20,zI (l.length:Nat))],plOb n w⟩

theorem QvN{w:Wld}(hs:Yo w):zAc 14 [wldA w,zL (JR [])] [Qnh w] (QnV w):=by
 refine zAC func14 fun w0 Z=>?_
 have c1:=QaC hs
 repeat'(first|(refine zhm fun hb=>?_;try exact zab)|refine Qd ?_|(apply zch;exact zcg)|exact zhk|refine zg3 ?_ ?_|intro _)
 refine Qa (fun(_:Unit)=>⟨29,[(2,.ptr 2 0),(4,.ptr 4 0),(18,zL []),(19,zI 0),(20,zI 0)],[(2,.box 54 (.d (.b w.up)::(stC w.first 17 1017 2017 3017 4017 5017++((stC w.ctl.first 6017 7017 8017 9017 10017 11017++(stC w.ctl.state 12017 13017 14017 15017 16017 17017++[.row 18017,zI w.ctl.jn.synced,zI w.ctl.jn.count]))++[.row 19017,.row 20017])))),(4,.box 54 zWC),(17,.row 3 (intE w.first.topo.parents) true),(1017,.row 62 (Qr w.first.topo.nodes) true),(2017,.row 4 (Qk w.first.up) true),(3017,.row 40 (jobE w.first.queue) true),(4017,.row 66 (runE w.first.runs) true),(5017,.row 123 (endE w.first.ends) true),(6017,.row 3 (intE w.ctl.first.topo.parents) true),(7017,.row 62 (Qr w.ctl.first.topo.nodes) true),(8017,.row 4 (Qk w.ctl.first.up) true),(9017,.row 40 (jobE w.ctl.first.queue) true),(10017,.row 66 (runE w.ctl.first.runs) true),(11017,.row 123 (endE w.ctl.first.ends) true),(12017,.row 3 (intE w.ctl.state.topo.parents) true),(13017,.row 62 (Qr w.ctl.state.topo.nodes) true),(14017,.row 4 (Qk w.ctl.state.up) true),(15017,.row 40 (jobE w.ctl.state.queue) true),(16017,.row 66 (runE w.ctl.state.runs) true),(17017,.row 123 (endE w.ctl.state.ends) true),(18017,.row 5 (QC w.ctl.jn.bytes) true),(19017,.row 5 (QC w.bytes) true),(20017,.row 3 (intE w.codes) true)]⟩) (fun _=>True) (fun _=>0) () trivial ?_ ?_
 ·refine⟨rfl,?_,?_,rfl⟩
  repeat'(first|exact ze3|refine ze2 ?_ ?_|refine ze4 ?_|exact ze5|fail)
  all_goals exact zp rfl
 ·intro _ _
  repeat'(first|(refine zhm fun hb=>?_;try exact zab)|refine Qd ?_|(apply zch;exact zcg)|exact zhk|refine zg3 ?_ ?_|intro _)
  refine zr [17,1017,2017,3017,4017,5017,6017,7017,8017,9017,10017,11017,12017,13017,14017,15017,16017,17017,18017,19017,20017] ?_ ?_
  repeat'(first|exact ze3|refine ze2 ?_ ?_|refine ze4 ?_|exact ze5|fail)
  all_goals exact zp rfl
theorem QvC{w:Wld}{l:List Vf}(hs:Yo w)(hw:QK w=false)(hl:l≠[])(hll:l.length<=1048576):zAc 14 [wldA w,zL (JR l)] [Qwp] []:=by
 refine zAC func14 fun w0 Z=>?_
 have h0:=Xbd.2 hl
 have b:=YG l
 have a:=Qh9 hs.v
 rw[hw]at a
 repeat'(first|(refine zhm fun hb=>?_;try exact zab)|refine Qd ?_|(apply zch;exact zcg)|exact zhk|refine zg3 ?_ ?_|intro _)
 all_goals first|(exfalso;omega)|skip
 refine zr [] ?_ ?_
 repeat'(first|exact ze3|refine ze2 ?_ ?_|refine ze4 ?_|exact ze5|fail)
 all_goals exact zp rfl
theorem QxB{w:Wld}{x:Vf}(hs:Yo w)(hw:QK w=true):DC Tryz.prog 53 [wldA w,QkO x] [wldA (J3 w x)]:=by
 have a:=Que (x:=x) hs hw
 have d:=Qpl (w:=w) (x:=x)
 have e:=QqW (w:=w) (x:=x)
 have f:=Qda w x
 generalize Wp w x=n at a d e f
 generalize J3 w x=r at a d e ⊢
 rcases f with rfl|rfl|rfl
 ·exact Qev (dc_a a)
 ·obtain⟨h,s,c,b,g⟩:=r
  obtain rfl:c=zC:=d rfl
  exact Qev (dc_a a)
 ·obtain⟨h,s,c,b,g⟩:=r
  obtain rfl:b=[]:=e rfl
  exact Qev (dc_a a)

theorem Zw{w:Wld}{l:List Vf}{i:Nat}(h:i<l.length):JY w (l.take (i+1))=doO (JY w (l.take i)) (nth l i):=by
 unfold JY
 rw[QF h,XaN]
 rfl
theorem Qyz{w:Wld}{x:Vf}(h:XN w):XN (doO w x):=by
 unfold doO
 split
 ·exact QvJ h
 ·exact Qsj.v
theorem Qpa(w:Wld)(x:Vf):(doO w x).codes.length<=w.codes.length+1:=by
 unfold doO
 split
 ·exact Qke w x
 ·exact Xae _
theorem Qre{w:Wld}{l:List Vf}(h:XN w):∀i,i<=l.length->XN (JY w (l.take i))/\(JY w (l.take i)).codes.length<=w.codes.length+i
 | 0,_=>⟨h,Xaj _⟩
 | i+1,hi=>by
  obtain⟨h1,h2⟩:=Qre (l:=l) h i (by omega)
  rw[Zw (by omega)]
  have:=Qpa (JY w (l.take i)) (nth l i)
  exact⟨Qyz h1,by omega⟩
theorem QgK{w:Wld}{l:List Vf}(h:QK w=true):∀i,i<=l.length->QK (JY w (l.take i))=true
 | 0,_=>h
 | i+1,hi=>by
  rw[Zw (by omega)]
  exact(QrA (QgK h i (by omega))).2
theorem QkQ{w:Wld}{l:List Vf}(h:XN w)(hc:w.codes.length+l.length<=100000000){i:Nat}(hi:i<=l.length):Yo (JY w (l.take i)):=by
 obtain⟨a,h2⟩:=Qre (l:=l) h i hi
 exact⟨a,by omega⟩
noncomputable def pyS (w:Wld) (l:List Vf):Nat:=if l=[]then 0 else if QK w=true then Wp (JY w (l.take (l.length-1))) (nth l (l.length-1))else 3
theorem QvR{w:Wld}{l:List Vf}(hs:Yo w)(hw:QK w=true)(hl:l≠[])(hll:l.length<=1048576)(hc:w.codes.length+l.length<=100000000):zAc 14 [wldA w,zL (JR l)] (Qnx (Wp (JY w (l.take (l.length-1))) (nth l (l.length-1))) (JY w l)) (Qn0 (Wp (JY w (l.take (l.length-1))) (nth l (l.length-1))) (JY w l)):=by
 refine zAC func14 fun w0 Z=>?_
 have t:=Xbd.2 hl
 have m:=YG l
 have p:=Qh9 hs.v
 rw[hw]at p
 have s:DC Tryz.prog 52 [wldA w] [wldA w]:=dc_a (QaC hs)
 repeat'(first|(refine zhm fun hb=>?_;try exact zab)|refine Qd ?_|(apply zch;exact zcg)|exact zhk|refine zg3 ?_ ?_|(refine km [] (s) rfl rfl (fun i g=>?_);try dsimp only at g)|intro _)
 all_goals first|(exfalso;omega)|skip
 refine Qa (plS l) (fun j=>match j with|.dat i v=>i<l.length/\v=JY w (l.take i)|.fin n v=>n=Wp (JY w (l.take (l.length-1))) (nth l (l.length-1))/\v=JY w l) (fun j=>match j with|.dat i _=>l.length-i|.fin _ _=>0) (.dat 0 w) (by exact⟨t,rfl⟩) ?_ ?_
 ·refine⟨rfl,?_,?_,rfl⟩
  repeat'(first|exact ze3|refine ze2 ?_ ?_|refine ze4 ?_|exact ze5|fail)
  all_goals exact zp (by first|rfl|exact m)
 rintro (⟨q,v⟩|⟨n,v⟩) o
 ·obtain⟨g,rfl⟩:=o
  dsimp only
  have f:=QkQ (l:=l) hs.v hc (i:=q) (by omega)
  have b:=QgK (l:=l) hw q (by omega)
  have c:=Zw (w:=w) g
  rw[(QrA b).1]at c
  by_cases k:q+1=l.length
  ·have a:=Que (x:=nth l q) f b
   have d:=Qda (JY w (l.take q)) (nth l q)
   have h:q=l.length-1:=by omega
   have e:JY w l=J3 (JY w (l.take q)) (nth l q):=by rw[<-c,k,Xal]
   rw[<-h,e]
   generalize Wp (JY w (l.take q)) (nth l q)=n at a d ⊢
   generalize J3 (JY w (l.take q)) (nth l q)=r at a ⊢
   generalize JY w (l.take q)=v at a ⊢
   rcases d with rfl|rfl|rfl
   ·dsimp only[Qnx,Qn0]at a
    repeat'(first|(refine zhm fun hb=>?_;try exact zab)|refine Qd ?_|(apply zch;exact zcg)|exact zhk|refine zg3 ?_ ?_|intro _)
    refine⟨.fin 0 r,⟨rfl,rfl⟩,by dsimp only;omega,?_⟩
    refine⟨rfl,?_,?_,rfl⟩
    repeat'(first|exact ze3|refine ze2 ?_ ?_|refine ze4 ?_|exact ze5|fail)
    all_goals exact zp (by first|rfl|(congr 1;omega))
   ·dsimp only[Qnx,Qn0]at a
    repeat'(first|(refine zhm fun hb=>?_;try exact zab)|refine Qd ?_|(apply zch;exact zcg)|exact zhk|refine zg3 ?_ ?_|intro _)
    refine⟨.fin 1 r,⟨rfl,rfl⟩,by dsimp only;omega,?_⟩
    refine⟨rfl,?_,?_,rfl⟩
    repeat'(first|exact ze3|refine ze2 ?_ ?_|refine ze4 ?_|exact ze5|fail)
    all_goals exact zp (by first|rfl|(congr 1;omega))
   ·dsimp only[Qnx,Qn0]at a
    repeat'(first|(refine zhm fun hb=>?_;try exact zab)|refine Qd ?_|(apply zch;exact zcg)|exact zhk|refine zg3 ?_ ?_|intro _)
    refine⟨.fin 2 r,⟨rfl,rfl⟩,by dsimp only;omega,?_⟩
    refine⟨rfl,?_,?_,rfl⟩
    repeat'(first|exact ze3|refine ze2 ?_ ?_|refine ze4 ?_|exact ze5|fail)
    all_goals exact zp (by first|rfl|(congr 1;omega))
  ·have a:=QxB (x:=nth l q) f b
   rw[<-c]at a
   generalize JY w (l.take q)=v at a ⊢
   repeat'(first|(refine zhm fun hb=>?_;try exact zab)|refine Qd ?_|(apply zch;exact zcg)|exact zhk|refine zg3 ?_ ?_|refine kmu a ?_|intro _)
   refine⟨.dat (q+1) (JY w (l.take (q+1))),⟨by omega,rfl⟩,by dsimp only;omega,?_⟩
   refine⟨rfl,?_,?_,rfl⟩
   repeat'(first|exact ze3|refine ze2 ?_ ?_|refine ze4 ?_|exact ze5|fail)
   all_goals exact zp rfl
 ·obtain⟨rfl,rfl⟩:=o
  dsimp only
  have d:=Qda (JY w (l.take (l.length-1))) (nth l (l.length-1))
  generalize Wp (JY w (l.take (l.length-1))) (nth l (l.length-1))=n at d ⊢
  generalize JY w l=v
  rcases d with rfl|rfl|rfl
  ·repeat'(first|(refine zhm fun hb=>?_;try exact zab)|refine Qd ?_|(apply zch;exact zcg)|exact zhk|refine zg3 ?_ ?_|intro _)
   refine zr [26,1026,2026,3026,4026,5026,6026,7026,8026,9026,10026,11026,12026,13026,14026,15026,16026,17026,18026,19026,20026] ?_ ?_
   repeat'(first|exact ze3|refine ze2 ?_ ?_|refine ze4 ?_|exact ze5|fail)
   all_goals exact zp rfl
  ·repeat'(first|(refine zhm fun hb=>?_;try exact zab)|refine Qd ?_|(apply zch;exact zcg)|exact zhk|refine zg3 ?_ ?_|intro _)
   refine zr [26,1026,2026,3026,4026,5026,6026,7026] ?_ ?_
   repeat'(first|exact ze3|refine ze2 ?_ ?_|refine ze4 ?_|exact ze5|fail)
   all_goals exact zp rfl
  ·repeat'(first|(refine zhm fun hb=>?_;try exact zab)|refine Qd ?_|(apply zch;exact zcg)|exact zhk|refine zg3 ?_ ?_|intro _)
   refine zr [26,1026,2026,3026,4026,5026,6026,7026,8026,9026,10026,11026,12026,13026,14026,15026,16026,17026,18026,19026] ?_ ?_
   repeat'(first|exact ze3|refine ze2 ?_ ?_|refine ze4 ?_|exact ze5|fail)
   all_goals exact zp rfl
theorem QxX{w:Wld}{l:List Vf}(hs:Yo w)(hll:l.length<=1048576)(hc:w.codes.length+l.length<=100000000):zAc 14 [wldA w,zL (JR l)] (Qnx (pyS w l) (JY w l)) (Qn0 (pyS w l) (JY w l)):=by
 unfold pyS
 by_cases a:l=[]
 ·subst a
  rw[if_pos rfl]
  exact QvN hs
 ·rw[if_neg a]
  cases b:QK w with
  | true=>rw[if_pos rfl];exact QvR hs b a hll hc
  | false=>
   rw[if_neg (by decide),QjC b a]
   exact QvC hs b a hll
theorem Qxj{w:Wld}{l:List Vf}(hs:Yo w)(hll:l.length<=1048576)(hc:w.codes.length+l.length<=100000000):DC Tryz.prog 18 [wldA w,zL (JR l)] [wldA (JY w l)]:=by
 refine zMC func18 fun w0 Z O=>?_
 have c:=YG l
 have f:=QrL hs
 repeat'(first|(refine zhm fun hb=>?_;try exact zab)|refine Qd ?_|(apply zch;exact zcg)|exact zhk|refine zg3 ?_ ?_|refine kmu f ?_|intro _)
 refine Qa (fun(k:Nat×Wld)=>⟨20,[(2,.ptr 2 0),(4,.ptr 4 0),(9,zL (JR l)),(10,zI (l.length:Nat)),(11,zI k.1)],[(2,.box 54 (wldC k.2)),(4,.box 54 zWC)]⟩) (fun k=>k.1<=l.length/\k.2=JY w (l.take k.1)) (fun k=>l.length-k.1) (0,w) (by exact⟨Xae _,rfl⟩) ?_ ?_
 ·refine⟨rfl,?_,?_,rfl⟩
  repeat'(first|exact ze3|refine ze2 ?_ ?_|refine ze4 ?_|exact ze5|fail)
  all_goals exact zp (by first|rfl|exact c)
 ·rintro ⟨q,v⟩ ⟨g,e⟩
  dsimp only at g e ⊢
  subst e
  by_cases b:q<l.length
  ·have d:=QkQ (l:=l) hs.v hc (i:=q) (by omega)
   have a:=do_s (x:=nth l q) d
   rw[<-Zw (w:=w) b]at a
   generalize JY w (l.take q)=v at a ⊢
   repeat'(first|(refine zhm fun hb=>?_;try exact zab)|refine Qd ?_|(apply zch;exact zcg)|exact zhk|refine zg3 ?_ ?_|refine kmu a ?_|intro _)
   refine⟨(q+1,JY w (l.take (q+1))),⟨by omega,rfl⟩,by dsimp only;omega,?_⟩
   refine⟨rfl,?_,?_,rfl⟩
   repeat'(first|exact ze3|refine ze2 ?_ ?_|refine ze4 ?_|exact ze5|fail)
   all_goals exact zp rfl
  ·obtain rfl:q=l.length:=by omega
   rw[Xal]
   generalize JY w l=v
   repeat'(first|(refine zhm fun hb=>?_;try exact zab)|refine Q2 ?_|(apply zch;exact zcg)|exact zhk|refine zg3 ?_ ?_|intro _)
   exact zDR
end
end Go.Proofs.YtkdniahincpmaaaGreat
