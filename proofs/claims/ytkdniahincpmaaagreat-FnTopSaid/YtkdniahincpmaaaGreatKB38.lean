/-
  Lines of a report: numTexts, l09Line; what a report says.
-/
import Derived.Test.YtkdniahincpmaaaGreatKB32
import Derived.Test.YtkdniahincpmaaaGreatKB36
import Derived.Test.YtkdniahincpmaaaGreatKB27
set_option maxRecDepth 100000
set_option maxHeartbeats 16000000
namespace Go.Proofs.YtkdniahincpmaaaGreat
open Go Go.RowKit Tryz
section
attribute [local irreducible] AWp QI OpOk ACalls ChA QsOk MCalls NCalls EnC PY

def linT(w:List UInt8)(l:List Int):List UInt8:=w++l.flatMap fun n=>32::QU n
def Yp(w:List UInt8)(l:List Int):List UInt8:=linT w l++[10]
theorem Qlq(w:List UInt8):linT w []=w:=by simp[linT]
theorem QmM(w:List UInt8)(l m:List Int):linT (linT w l) m=linT w (l++m):=by simp[linT]
theorem Qi4(w:List UInt8)(l:List Int)(n:Int):linT w (l++[n])=linT w l++[32]++QU n:=by simp[linT]
theorem Qam{α:Type}{f:α->List UInt8}{k:Nat}:∀{l:List α},(∀x∈l,(f x).length<=k)->(l.flatMap f).length<=k*l.length
 | [],_=>by simp
 | x::l,h=>by
  have h1:=Qam (l:=l) fun y hy=>h y (Xae _ hy)
  have h2:=h x Xac
  rw[Xbo,Xaa,Xao,Nat.mul_succ]
  omega
theorem Wr(w:List UInt8)(l:List Int):(linT w l).length<=w.length+11*l.length:=by
 unfold linT
 rw[Xaa]
 have:=Qam (l:=l) (f:=fun n=>32::QU n) (k:=11) fun x _=>by
  have:=Qs x
  rw[Xao];omega
 omega
theorem lin3{w:List UInt8}{l:List Int}(hw:w.length<=5)(hl:l.length<=3):(linT w l).length<=50:=by
 have:=Wr w l
 omega
theorem line3{w:List UInt8}{l:List Int}(hw:w.length<=5)(hl:l.length<=3):(Yp w l).length<=51:=by
 have:=lin3 hw hl
 unfold Yp
 rw[Xaa,Xap]
 omega
theorem Wg{w:List UInt8}{l:List Int}(hw:w.length<=100000000)(hl:l.length<=100000000):zAc 55 [.d (.s w),zL (intE l)] [.d (.s (linT w l))] []:=by
 refine zAC func55 fun w0 Z=>?_
 have b:=Qc l
 repeat'(first|(refine zhm fun hb=>?_;try exact zab)|refine zUtp ?_|refine zg2 ?_ ?_|intro _)
 refine Qa (fun(i:Nat)=>⟨20,[(0,.d (.s (linT w (l.take i)))),(7,zL (intE l)),(8,zI (l.length:Nat)),(9,zI i)],[]⟩) (fun i=>i<=l.length) (fun i=>l.length-i) 0 (Xad _) ?_ ?_
 ·refine⟨rfl,?_,?_,rfl⟩
  repeat'(first|exact ze3|refine ze2 ?_ ?_|refine ze4 ?_|exact ze5|fail)
  all_goals exact zp (by first|rfl|exact Qc _|rw[XbF,Qlq])
 ·intro i hi
  have c:=Wr w (l.take i)
  have f:(l.take i).length<=l.length:=Xbg _ _
  by_cases a:i<l.length
  ·have e:=Qs (nth l i)
   repeat'(first|(refine zhm fun hb=>?_;try exact zab)|refine zUtp ?_|refine zg2 ?_ ?_|refine kc (Ve (x:=nth l i)) rfl rfl ?_|intro _)
   refine⟨i+1,by omega,by omega,?_⟩
   refine⟨rfl,?_,?_,rfl⟩
   repeat'(first|exact ze3|refine ze2 ?_ ?_|refine ze4 ?_|exact ze5|fail)
   all_goals exact zp (by first|rfl|rw[Qo a,Qi4])
  ·obtain rfl:i=l.length:=by omega
   rw[Xak]at *
   repeat'(first|(refine zhm fun hb=>?_;try exact zab)|refine zUtp ?_|refine zg2 ?_ ?_|intro _)
   refine zr [] ?_ ?_
   repeat'(first|exact ze3|refine ze2 ?_ ?_|refine ze4 ?_|exact ze5|fail)
   all_goals exact zp rfl
theorem Zv{w:List UInt8}{l:List Int}(hw:w.length<=100000000)(hl:l.length<=100000000):zAc 57 [.d (.s w),zL (intE l)] [.d (.s (Yp w l))] []:=by
 refine zAC func57 fun w0 Z=>?_
 have b:=Qc l
 repeat'(first|(refine zhm fun hb=>?_;try exact zab)|refine zUtp ?_|refine zg2 ?_ ?_|intro _)
 refine Qa (fun(i:Nat)=>⟨21,[(0,.d (.s (linT w (l.take i)))),(7,zL (intE l)),(8,zI (l.length:Nat)),(9,zI i)],[]⟩) (fun i=>i<=l.length) (fun i=>l.length-i) 0 (Xad _) ?_ ?_
 ·refine⟨rfl,?_,?_,rfl⟩
  repeat'(first|exact ze3|refine ze2 ?_ ?_|refine ze4 ?_|exact ze5|fail)
  all_goals exact zp (by first|rfl|exact Qc _|rw[XbF,Qlq])
 ·intro i hi
  have c:=Wr w (l.take i)
  have g:(l.take i).length<=l.length:=Xbg _ _
  by_cases a:i<l.length
  ·have f:=Qs (nth l i)
   repeat'(first|(refine zhm fun hb=>?_;try exact zab)|refine zUtp ?_|refine zg2 ?_ ?_|refine kc (VO (x:=nth l i)) rfl rfl ?_|intro _)
   refine⟨i+1,by omega,by omega,?_⟩
   refine⟨rfl,?_,?_,rfl⟩
   repeat'(first|exact ze3|refine ze2 ?_ ?_|refine ze4 ?_|exact ze5|fail)
   all_goals exact zp (by first|rfl|rw[Qo a,Qi4])
  ·obtain rfl:i=l.length:=by omega
   rw[Xak]at *
   repeat'(first|(refine zhm fun hb=>?_;try exact zab)|refine zUtp ?_|refine zg2 ?_ ?_|intro _)
   refine zr [] ?_ ?_
   repeat'(first|exact ze3|refine ze2 ?_ ?_|refine ze4 ?_|exact ze5|fail)
   all_goals exact zp rfl
def Qis:List UInt8:=[100,111,119,110]
def QhK:List UInt8:=[110,111,119]
def XC:List UInt8:=[119,97,105,116]
def QaN:List UInt8:=[114,117,110]
def Qd7:List UInt8:=[101,110,100]
def Y6:List UInt8:=[108,97,116,101,114]
def QnR(j:Job):List UInt8:=Yp XC [j.id]
def runT(r:Run):List UInt8:=Yp QaN (r.job.id::r.at'::r.nodes)
def endT(e:QjS):List UInt8:=Yp Qd7 [e.id,e.at',e.why]
def Qgv(h:JD):List UInt8:=Yp Y6 (h.id::h.at'::h.nodes)
def rp1(s:Qb)(i:Nat):List UInt8:=Yp QhK [s.now]++(s.queue.take i).flatMap QnR
def rp2(s:Qb)(i:Nat):List UInt8:=rp1 s s.queue.length++(s.runs.take i).flatMap runT
def rp3(s:Qb)(i:Nat):List UInt8:=rp2 s s.runs.length++(s.ends.take i).flatMap endT
noncomputable def rp4 (s:Qb) (i:Nat):List UInt8:=rp3 s s.ends.length++((QD s).take i).flatMap Qgv
theorem Qoy(j:Job):(QnR j).length<=100:=by
 have:=Wr XC [j.id]
 simp only[QnR,Yp,Xaa,XC,Xao,XaA]at *
 omega
theorem Qso(e:QjS):(endT e).length<=100:=by
 have:=Wr Qd7 [e.id,e.at',e.why]
 simp only[endT,Yp,Xaa,Qd7,Xao,XaA]at *
 omega
theorem Qt6{r:Run}(h:r.nodes.length<=1048576):(runT r).length<=12000000:=by
 have:=Wr QaN (r.job.id::r.at'::r.nodes)
 simp only[runT,Yp,Xaa,QaN,Xao,XaA]at *
 omega
theorem QnV{h:JD}(hn:h.nodes.length<=24):(Qgv h).length<=1000:=by
 have:=Wr Y6 (h.id::h.at'::h.nodes)
 simp only[Qgv,Yp,Xaa,Y6,Xao,XaA]at *
 omega
theorem QkP{s:Qb}(hs:Qj 1048576 s)(i:Nat):(rp1 s i).length<=200000000:=by
 have h1:=Wr QhK [s.now]
 have h2:=Qam (l:=s.queue.take i) (f:=QnR) (k:=100) fun x _=>Qoy x
 have h3:(s.queue.take i).length<=s.queue.length:=Xbg _ _
 have h4:=hs.que
 simp only[rp1,Yp,Xaa,QhK,Xao,XaA]at *
 omega
theorem Qj3{s:Qb}(hs:Qj 1048576 s)(i:Nat):(rp2 s i).length<=100000000000000:=by
 have h1:=QkP hs s.queue.length
 have h2:=Qam (l:=s.runs.take i) (f:=runT) (k:=12000000) fun x hx=>by
  obtain⟨j,a,rfl⟩:=Jo (XaC hx)
  exact Qt6 (hs.rno j a)
 have h3:(s.runs.take i).length<=s.runs.length:=Xbg _ _
 have h4:=hs.run
 simp only[rp2,Xaa]at *
 omega
theorem QkG{s:Qb}(hs:Qj 1048576 s)(i:Nat):(rp3 s i).length<=100001000000000:=by
 have h1:=Qj3 hs s.runs.length
 have h2:=Qam (l:=s.ends.take i) (f:=endT) (k:=100) fun x _=>Qso x
 have h3:(s.ends.take i).length<=s.ends.length:=Xbg _ _
 have h4:=hs.end'
 simp only[rp3,Xaa]at *
 omega
theorem Qaj(s:Qb):(QD s).length<=60/\∀h∈QD s,h.nodes.length<=24:=by
 cases a:Qe s with
 | true=>
  rw[show QD s=(Ww s).2 from if_pos a]
  obtain⟨r,c⟩:=Qfn a
  have b:=Qcf c.room
  have d:=b.len
  have e:=YL s.queue
  have f:=c.queue.len
  exact⟨by omega,fun h hh=>(b.lt h hh).2⟩
 | false=>rw[show QD s=[] from if_neg (by rw[a];decide)];exact⟨by simp,fun h hh=>by cases hh⟩
theorem QqH{s:Qb}(hs:Qj 1048576 s)(i:Nat):(rp4 s i).length<=100002000000000:=by
 have h1:=QkG hs s.ends.length
 have h2:=Qam (l:=(QD s).take i) (f:=Qgv) (k:=1000) fun x hx=>QnV ((Qaj s).2 x (XaC hx))
 have h3:((QD s).take i).length<=(QD s).length:=Xbg _ _
 have h4:=(Qaj s).1
 simp only[rp4,Xaa]at *
 omega
theorem Qs8{s:Qb}{i:Nat}(h:i<s.queue.length):rp1 s (i+1)=rp1 s i++linT XC [(nth s.queue i).id]++[10]:=by simp[rp1,Qo h,QnR,Yp]
theorem QtI{s:Qb}{i:Nat}(h:i<s.runs.length):rp2 s (i+1)=rp2 s i++linT (linT QaN [(nth s.runs i).job.id,(nth s.runs i).at']) (nth s.runs i).nodes++[10]:=by simp[rp2,Qo h,runT,Yp,QmM]
theorem Qs0{s:Qb}{i:Nat}(h:i<s.ends.length):rp3 s (i+1)=rp3 s i++linT Qd7 [(nth s.ends i).id,(nth s.ends i).at',(nth s.ends i).why]++[10]:=by simp[rp3,Qo h,endT,Yp]
theorem QtZ{s:Qb}{i:Nat}(h:i<(QD s).length):rp4 s (i+1)=rp4 s i++linT (linT Y6 [(nth (QD s) i).id,(nth (QD s) i).at']) (nth (QD s) i).nodes++[10]:=by simp[rp4,Qo h,Qgv,Yp,QmM]
theorem Qzr{s:Qb}{i:Nat}(h:i<s.queue.length):rp1 s (i+1)=rp1 s i++Yp XC [(nth s.queue i).id]:=by simp[rp1,Qo h,QnR]
theorem Qy5{s:Qb}{i:Nat}(h:i<s.runs.length):rp2 s (i+1)=rp2 s i++Yp QaN ([(nth s.runs i).job.id,(nth s.runs i).at']++(nth s.runs i).nodes):=by simp[rp2,Qo h,runT]
theorem Qzd{s:Qb}{i:Nat}(h:i<s.ends.length):rp3 s (i+1)=rp3 s i++Yp Qd7 [(nth s.ends i).id,(nth s.ends i).at',(nth s.ends i).why]:=by simp[rp3,Qo h,endT]
theorem QyV{s:Qb}{i:Nat}(h:i<(QD s).length):rp4 s (i+1)=rp4 s i++Yp Y6 ([(nth (QD s) i).id,(nth (QD s) i).at']++(nth (QD s) i).nodes):=by simp[rp4,Qo h,Qgv]
theorem Qvv{s:Qb}(hs:Qj 100000000 s):DC Tryz.prog 56 [Qt s] [zL (Z4 (QD s))]:=by
 cases h:Qe s with
 | true=>
  rw[show QD s=(Ww s).2 from if_pos h]
  exact dc_a (Qvw hs h)
 | false=>
  rw[show QD s=[] from if_neg (by rw[h];decide)]
  refine zMC func56 fun w0 Z O=>?_
  have a:=JX hs
  rw[h]at a
  repeat'(first|(refine zhm fun hb=>?_;try exact zab)|refine zUro ?_|refine zg2 ?_ ?_|intro _)
  exact zDR
noncomputable def Qb8 (w:Wld):List UInt8:=if w.up=true then rp4 w.ctl.state (QD w.ctl.state).length else Yp Qis [(w.bytes.length:Int)]

theorem QjC(w:List UInt8)(l:List Int):(Yp w l).length<=w.length+11*l.length+1:=by
 have:=Wr w l
 unfold Yp
 rw[Xaa,Xap]
 omega
theorem Qlk{w:Wld}(hs:Xb 1048576 w):zAc 16 [wldA w] [.d (.s (Qb8 w))] []:=by
 refine zAC func16 fun w0 Z=>?_
 obtain⟨up,first,⟨q,s,r⟩,bytes,b⟩:=w
 have hb:=Qy bytes
 have j:=hs.bytes
 have e:=hs.ctl.state
 dsimp only at j e
 have z:Qj 100000000 s:=e.mono (by omega)
 have u:=Qvv z
 cases up with
 | false=>
  rw[show Qb8 ⟨false,first,⟨q,s,r⟩,bytes,b⟩=Yp Qis [(bytes.length:Int)] from rfl]
  have t:zAc 55 [.d (.s [100,111,119,110]),zL [[.n .i64 (bytes.length:Int)]]] [.d (.s (linT [100,111,119,110] [(bytes.length:Int)]))] []:=Wg (w:=Qis) (l:=[(bytes.length:Int)]) (by decide) (by simp)
  have g:(linT [100,111,119,110] [(bytes.length:Int)]).length<=51:=XbC (lin3 (by decide) (by simp))
  repeat'(first|(refine zhm fun hb=>?_;try exact zab)|refine Qd ?_|(apply zch;exact zcg)|exact zhk|refine zg3 ?_ ?_|intro _)
  refine zr [] ?_ ?_
  repeat'(first|exact ze3|refine ze2 ?_ ?_|refine ze4 ?_|exact ze5|fail)
  all_goals exact zp rfl
 | true=>
  rw[show Qb8 ⟨true,first,⟨q,s,r⟩,bytes,b⟩=rp4 s (QD s).length from rfl]
  have hq:=Ql s.queue
  have hr:=Qg s.runs
  have he:=QO s.ends
  have aa:=e.que
  have ab:=e.run
  have y:=e.end'
  have x:=Qaj s
  have hh:=Jn (QD s)
  have t:zAc 55 [.d (.s [110,111,119]),zL [[.n .i64 s.now]]] [.d (.s (linT QhK [s.now]))] []:=Wg (w:=QhK) (l:=[s.now]) (by decide) (by simp)
  have g:(linT QhK [s.now]).length<=51:=XbC (lin3 (by decide) (by simp))
  repeat'(first|(refine zhm fun hb=>?_;try exact zab)|refine Qd ?_|(apply zch;exact zcg)|exact zhk|refine zg3 ?_ ?_|intro _)
  refine Qa (fun(i:Nat)=>⟨106,[(3,.ptr 3 0),(4,.d (.s (rp1 s i))),(31,zL (jobE s.queue)),(32,zI (s.queue.length:Nat)),(33,zI i)],[(3,.box 34 (Q3 s))]⟩) (fun i=>i<=s.queue.length) (fun i=>s.queue.length-i) 0 (Xad _) ?_ ?_
  ·refine⟨rfl,?_,?_,rfl⟩
   repeat'(first|exact ze3|refine ze2 ?_ ?_|refine ze4 ?_|exact ze5|fail)
   all_goals exact zp (by first|rfl|exact Ql _|simp[rp1,Yp])
  intro i k
  have f:=QkP e i
  by_cases a:i<s.queue.length
  ·have h:zAc 55 [.d (.s [119,97,105,116]),zL [[.n .i64 (nth s.queue i).id]]] [.d (.s (linT XC [(nth s.queue i).id]))] []:=Wg (w:=XC) (l:=[(nth s.queue i).id]) (by decide) (by simp)
   have c:(linT XC [(nth s.queue i).id]).length<=51:=XbC (lin3 (by decide) (by simp))
   repeat'(first|(refine zhm fun hb=>?_;try exact zab)|refine Qd ?_|(apply zch;exact zcg)|exact zhk|refine zg3 ?_ ?_|intro _)
   refine⟨i+1,by omega,by omega,?_⟩
   refine⟨rfl,?_,?_,rfl⟩
   repeat'(first|exact ze3|refine ze2 ?_ ?_|refine ze4 ?_|exact ze5|fail)
   all_goals exact zp (by first|rfl|rw[Qs8 a])
  obtain rfl:i=s.queue.length:=by omega
  repeat'(first|(refine zhm fun hb=>?_;try exact zab)|refine Qd ?_|(apply zch;exact zcg)|exact zhk|refine zg3 ?_ ?_|intro _)
  refine Qa (fun(i:Nat)=>⟨106,[(3,.ptr 3 0),(4,.d (.s (rp2 s i))),(46,zL (runE s.runs)),(47,zI (s.runs.length:Nat)),(48,zI i)],[(3,.box 34 (Q3 s))]⟩) (fun i=>i<=s.runs.length) (fun i=>s.runs.length-i) 0 (Xad _) ?_ ?_
  ·refine⟨rfl,?_,?_,rfl⟩
   repeat'(first|exact ze3|refine ze2 ?_ ?_|refine ze4 ?_|exact ze5|fail)
   all_goals exact zp (by first|rfl|exact Qg _|simp[rp2])
  intro i k
  have f:=Qj3 e i
  by_cases a:i<s.runs.length
  ·have p:=e.rno i a
   have o:=Qc (nth s.runs i).nodes
   have h:zAc 55 [.d (.s [114,117,110]),zL [[.n .i64 (nth s.runs i).job.id],[.n .i64 (nth s.runs i).at']]] [.d (.s (linT QaN [(nth s.runs i).job.id,(nth s.runs i).at']))] []:=Wg (w:=QaN) (l:=[(nth s.runs i).job.id,(nth s.runs i).at']) (by decide) (by simp)
   have c:(linT QaN [(nth s.runs i).job.id,(nth s.runs i).at']).length<=51:=XbC (lin3 (by decide) (by simp))
   have m:=Wr (linT QaN [(nth s.runs i).job.id,(nth s.runs i).at']) ((nth s.runs i).nodes)
   have hw:QaN.length<=5:=by decide
   have v:=Wg (w:=linT QaN [(nth s.runs i).job.id,(nth s.runs i).at']) (l:=(nth s.runs i).nodes) (by omega) (by omega)
   repeat'(first|(refine zhm fun hb=>?_;try exact zab)|refine Qd ?_|(apply zch;exact zcg)|exact zhk|refine zg3 ?_ ?_|intro _)
   refine⟨i+1,by omega,by omega,?_⟩
   refine⟨rfl,?_,?_,rfl⟩
   repeat'(first|exact ze3|refine ze2 ?_ ?_|refine ze4 ?_|exact ze5|fail)
   all_goals exact zp (by first|rfl|rw[QtI a])
  obtain rfl:i=s.runs.length:=by omega
  repeat'(first|(refine zhm fun hb=>?_;try exact zab)|refine Qd ?_|(apply zch;exact zcg)|exact zhk|refine zg3 ?_ ?_|intro _)
  refine Qa (fun(i:Nat)=>⟨106,[(3,.ptr 3 0),(4,.d (.s (rp3 s i))),(67,zL (endE s.ends)),(68,zI (s.ends.length:Nat)),(69,zI i)],[(3,.box 34 (Q3 s))]⟩) (fun i=>i<=s.ends.length) (fun i=>s.ends.length-i) 0 (Xad _) ?_ ?_
  ·refine⟨rfl,?_,?_,rfl⟩
   repeat'(first|exact ze3|refine ze2 ?_ ?_|refine ze4 ?_|exact ze5|fail)
   all_goals exact zp (by first|rfl|exact QO _|simp[rp3])
  intro i k
  have f:=QkG e i
  by_cases a:i<s.ends.length
  ·have h:zAc 55 [.d (.s [101,110,100]),zL [[.n .i64 (nth s.ends i).id],[.n .i64 (nth s.ends i).at'],[.n .i64 (nth s.ends i).why]]] [.d (.s (linT Qd7 [(nth s.ends i).id,(nth s.ends i).at',(nth s.ends i).why]))] []:=Wg (w:=Qd7) (l:=[(nth s.ends i).id,(nth s.ends i).at',(nth s.ends i).why]) (by decide) (by simp)
   have c:(linT Qd7 [(nth s.ends i).id,(nth s.ends i).at',(nth s.ends i).why]).length<=51:=XbC (lin3 (by decide) (by simp))
   repeat'(first|(refine zhm fun hb=>?_;try exact zab)|refine Qd ?_|(apply zch;exact zcg)|exact zhk|refine zg3 ?_ ?_|intro _)
   refine⟨i+1,by omega,by omega,?_⟩
   refine⟨rfl,?_,?_,rfl⟩
   repeat'(first|exact ze3|refine ze2 ?_ ?_|refine ze4 ?_|exact ze5|fail)
   all_goals exact zp (by first|rfl|rw[Qs0 a])
  obtain rfl:i=s.ends.length:=by omega
  repeat'(first|(refine zhm fun hb=>?_;try exact zab)|refine Qd ?_|(apply zch;exact zcg)|exact zhk|refine zg3 ?_ ?_|refine kmu u ?_|intro _)
  refine Qa (fun(i:Nat)=>⟨106,[(4,.d (.s (rp4 s i))),(86,zL (Z4 (QD s))),(87,zI ((QD s).length:Nat)),(88,zI i)],[]⟩) (fun i=>i<=(QD s).length) (fun i=>(QD s).length-i) 0 (Xad _) ?_ ?_
  ·refine⟨rfl,?_,?_,rfl⟩
   repeat'(first|exact ze3|refine ze2 ?_ ?_|refine ze4 ?_|exact ze5|fail)
   all_goals exact zp (by first|rfl|exact Jn _|simp[rp4])
  intro i k
  have f:=QqH e i
  by_cases a:i<(QD s).length
  ·have p:=x.2 _ (QC a)
   have o:=Qc (nth (QD s) i).nodes
   have h:zAc 55 [.d (.s [108,97,116,101,114]),zL [[.n .i64 (nth (QD s) i).id],[.n .i64 (nth (QD s) i).at']]] [.d (.s (linT Y6 [(nth (QD s) i).id,(nth (QD s) i).at']))] []:=Wg (w:=Y6) (l:=[(nth (QD s) i).id,(nth (QD s) i).at']) (by decide) (by simp)
   have c:(linT Y6 [(nth (QD s) i).id,(nth (QD s) i).at']).length<=51:=XbC (lin3 (by decide) (by simp))
   have m:=Wr (linT Y6 [(nth (QD s) i).id,(nth (QD s) i).at']) ((nth (QD s) i).nodes)
   have hw:Y6.length<=5:=by decide
   have v:=Wg (w:=linT Y6 [(nth (QD s) i).id,(nth (QD s) i).at']) (l:=(nth (QD s) i).nodes) (by omega) (by omega)
   repeat'(first|(refine zhm fun hb=>?_;try exact zab)|refine Qd ?_|(apply zch;exact zcg)|exact zhk|refine zg3 ?_ ?_|intro _)
   refine⟨i+1,by omega,by omega,?_⟩
   refine⟨rfl,?_,?_,rfl⟩
   repeat'(first|exact ze3|refine ze2 ?_ ?_|refine ze4 ?_|exact ze5|fail)
   all_goals exact zp (by first|rfl|rw[QtZ a])
  obtain rfl:i=(QD s).length:=by omega
  repeat'(first|(refine zhm fun hb=>?_;try exact zab)|refine Qd ?_|(apply zch;exact zcg)|exact zhk|refine zg3 ?_ ?_|intro _)
  refine zr [] ?_ ?_
  repeat'(first|exact ze3|refine ze2 ?_ ?_|refine ze4 ?_|exact ze5|fail)
  all_goals exact zp rfl
theorem QsE{w:Wld}(hs:Xb 1048576 w):zAc 17 [wldA w] [.d (.s (Qb8 w))] []:=by
 refine zAC func17 fun w0 Z=>?_
 obtain⟨up,first,⟨r,s,t⟩,bytes,b⟩:=w
 have hb:=Qy bytes
 have j:=hs.bytes
 have c:=hs.ctl.state
 dsimp only at j c
 have z:Qj 100000000 s:=c.mono (by omega)
 have v:=QwX z
 cases up with
 | false=>
  rw[show Qb8 ⟨false,first,⟨r,s,t⟩,bytes,b⟩=Yp Qis [(bytes.length:Int)] from rfl]
  have u:zAc 57 [.d (.s [100,111,119,110]),zL [[.n .i64 (bytes.length:Int)]]] [.d (.s (Yp [100,111,119,110] [(bytes.length:Int)]))] []:=Zv (w:=Qis) (l:=[(bytes.length:Int)]) (by decide) (by simp)
  have f:(Yp [100,111,119,110] [(bytes.length:Int)]).length<=51:=line3 (by decide) (by simp)
  repeat'(first|(refine zhm fun hb=>?_;try exact zab)|refine zUtp ?_|refine zg2 ?_ ?_|intro _)
  refine zr [] ?_ ?_
  repeat'(first|exact ze3|refine ze2 ?_ ?_|refine ze4 ?_|exact ze5|fail)
  all_goals exact zp rfl
 | true=>
  rw[show Qb8 ⟨true,first,⟨r,s,t⟩,bytes,b⟩=rp4 s (QD s).length from rfl]
  have hq:=Ql s.queue
  have hr:=Qg s.runs
  have he:=QO s.ends
  have aa:=c.que
  have ab:=c.run
  have y:=c.end'
  have x:=Qaj s
  have hh:=Jn (QD s)
  have u:zAc 57 [.d (.s [110,111,119]),zL [[.n .i64 s.now]]] [.d (.s (Yp QhK [s.now]))] []:=Zv (w:=QhK) (l:=[s.now]) (by decide) (by simp)
  have f:(Yp QhK [s.now]).length<=51:=line3 (by decide) (by simp)
  repeat'(first|(refine zhm fun hb=>?_;try exact zab)|refine zUtp ?_|refine zg2 ?_ ?_|intro _)
  refine Qa (fun(i:Nat)=>⟨100,[(3,.ptr 3 0),(4,.d (.s (rp1 s i))),(29,zL (jobE s.queue)),(30,zI (s.queue.length:Nat)),(31,zI i)],[(3,.box 34 (Q3 s))]⟩) (fun i=>i<=s.queue.length) (fun i=>s.queue.length-i) 0 (Xad _) ?_ ?_
  ·refine⟨rfl,?_,?_,rfl⟩
   repeat'(first|exact ze3|refine ze2 ?_ ?_|refine ze4 ?_|exact ze5|fail)
   all_goals exact zp (by first|rfl|exact Ql _|simp[rp1,Yp])
  intro i k
  have e:=QkP c i
  by_cases a:i<s.queue.length
  ·have h:zAc 57 [.d (.s [119,97,105,116]),zL [[.n .i64 (nth s.queue i).id]]] [.d (.s (Yp XC [(nth s.queue i).id]))] []:=Zv (w:=XC) (l:=[(nth s.queue i).id]) (by decide) (by simp)
   have g:(Yp XC [(nth s.queue i).id]).length<=51:=line3 (by decide) (by simp)
   repeat'(first|(refine zhm fun hb=>?_;try exact zab)|refine zUtp ?_|refine zg2 ?_ ?_|intro _)
   refine⟨i+1,by omega,by omega,?_⟩
   refine⟨rfl,?_,?_,rfl⟩
   repeat'(first|exact ze3|refine ze2 ?_ ?_|refine ze4 ?_|exact ze5|fail)
   all_goals exact zp (by first|rfl|rw[Qzr a])
  obtain rfl:i=s.queue.length:=by omega
  repeat'(first|(refine zhm fun hb=>?_;try exact zab)|refine zUtp ?_|refine zg2 ?_ ?_|intro _)
  refine Qa (fun(i:Nat)=>⟨100,[(3,.ptr 3 0),(4,.d (.s (rp2 s i))),(43,zL (runE s.runs)),(44,zI (s.runs.length:Nat)),(45,zI i)],[(3,.box 34 (Q3 s))]⟩) (fun i=>i<=s.runs.length) (fun i=>s.runs.length-i) 0 (Xad _) ?_ ?_
  ·refine⟨rfl,?_,?_,rfl⟩
   repeat'(first|exact ze3|refine ze2 ?_ ?_|refine ze4 ?_|exact ze5|fail)
   all_goals exact zp (by first|rfl|exact Qg _|simp[rp2])
  intro i k
  have e:=Qj3 c i
  by_cases a:i<s.runs.length
  ·have q:=c.rno i a
   have p:=Qc (nth s.runs i).nodes
   have m:=QjC QaN ([(nth s.runs i).job.id,(nth s.runs i).at']++(nth s.runs i).nodes)
   have hw:QaN.length<=5:=by decide
   have o:([(nth s.runs i).job.id,(nth s.runs i).at']++(nth s.runs i).nodes).length=((nth s.runs i).nodes).length+2:=by simp
   have h:zAc 57 [.d (.s [114,117,110]),zL ([[.n .i64 (nth s.runs i).job.id],[.n .i64 (nth s.runs i).at']]++intE (nth s.runs i).nodes)] [.d (.s (Yp QaN ([(nth s.runs i).job.id,(nth s.runs i).at']++(nth s.runs i).nodes)))] []:=Zv (w:=QaN) (l:=[(nth s.runs i).job.id,(nth s.runs i).at']++(nth s.runs i).nodes) (by decide) (by omega)
   repeat'(first|(refine zhm fun hb=>?_;try exact zab)|refine zUtp ?_|refine zg2 ?_ ?_|intro _)
   refine⟨i+1,by omega,by omega,?_⟩
   refine⟨rfl,?_,?_,rfl⟩
   repeat'(first|exact ze3|refine ze2 ?_ ?_|refine ze4 ?_|exact ze5|fail)
   all_goals exact zp (by first|rfl|rw[Qy5 a])
  obtain rfl:i=s.runs.length:=by omega
  repeat'(first|(refine zhm fun hb=>?_;try exact zab)|refine zUtp ?_|refine zg2 ?_ ?_|intro _)
  refine Qa (fun(i:Nat)=>⟨100,[(3,.ptr 3 0),(4,.d (.s (rp3 s i))),(63,zL (endE s.ends)),(64,zI (s.ends.length:Nat)),(65,zI i)],[(3,.box 34 (Q3 s))]⟩) (fun i=>i<=s.ends.length) (fun i=>s.ends.length-i) 0 (Xad _) ?_ ?_
  ·refine⟨rfl,?_,?_,rfl⟩
   repeat'(first|exact ze3|refine ze2 ?_ ?_|refine ze4 ?_|exact ze5|fail)
   all_goals exact zp (by first|rfl|exact QO _|simp[rp3])
  intro i k
  have e:=QkG c i
  by_cases a:i<s.ends.length
  ·have h:zAc 57 [.d (.s [101,110,100]),zL [[.n .i64 (nth s.ends i).id],[.n .i64 (nth s.ends i).at'],[.n .i64 (nth s.ends i).why]]] [.d (.s (Yp Qd7 [(nth s.ends i).id,(nth s.ends i).at',(nth s.ends i).why]))] []:=Zv (w:=Qd7) (l:=[(nth s.ends i).id,(nth s.ends i).at',(nth s.ends i).why]) (by decide) (by simp)
   have g:(Yp Qd7 [(nth s.ends i).id,(nth s.ends i).at',(nth s.ends i).why]).length<=51:=line3 (by decide) (by simp)
   repeat'(first|(refine zhm fun hb=>?_;try exact zab)|refine zUtp ?_|refine zg2 ?_ ?_|intro _)
   refine⟨i+1,by omega,by omega,?_⟩
   refine⟨rfl,?_,?_,rfl⟩
   repeat'(first|exact ze3|refine ze2 ?_ ?_|refine ze4 ?_|exact ze5|fail)
   all_goals exact zp (by first|rfl|rw[Qzd a])
  obtain rfl:i=s.ends.length:=by omega
  repeat'(first|(refine zhm fun hb=>?_;try exact zab)|refine zUtp ?_|refine zg2 ?_ ?_|refine kmu v ?_|intro _)
  refine Qa (fun(i:Nat)=>⟨100,[(4,.d (.s (rp4 s i))),(81,zL (Z4 (QD s))),(82,zI ((QD s).length:Nat)),(83,zI i)],[]⟩) (fun i=>i<=(QD s).length) (fun i=>(QD s).length-i) 0 (Xad _) ?_ ?_
  ·refine⟨rfl,?_,?_,rfl⟩
   repeat'(first|exact ze3|refine ze2 ?_ ?_|refine ze4 ?_|exact ze5|fail)
   all_goals exact zp (by first|rfl|exact Jn _|simp[rp4])
  intro i k
  have e:=QqH c i
  by_cases a:i<(QD s).length
  ·have q:=x.2 _ (QC a)
   have p:=Qc (nth (QD s) i).nodes
   have m:=QjC Y6 ([(nth (QD s) i).id,(nth (QD s) i).at']++(nth (QD s) i).nodes)
   have hw:Y6.length<=5:=by decide
   have o:([(nth (QD s) i).id,(nth (QD s) i).at']++(nth (QD s) i).nodes).length=((nth (QD s) i).nodes).length+2:=by simp
   have h:zAc 57 [.d (.s [108,97,116,101,114]),zL ([[.n .i64 (nth (QD s) i).id],[.n .i64 (nth (QD s) i).at']]++intE (nth (QD s) i).nodes)] [.d (.s (Yp Y6 ([(nth (QD s) i).id,(nth (QD s) i).at']++(nth (QD s) i).nodes)))] []:=Zv (w:=Y6) (l:=[(nth (QD s) i).id,(nth (QD s) i).at']++(nth (QD s) i).nodes) (by decide) (by omega)
   repeat'(first|(refine zhm fun hb=>?_;try exact zab)|refine zUtp ?_|refine zg2 ?_ ?_|intro _)
   refine⟨i+1,by omega,by omega,?_⟩
   refine⟨rfl,?_,?_,rfl⟩
   repeat'(first|exact ze3|refine ze2 ?_ ?_|refine ze4 ?_|exact ze5|fail)
   all_goals exact zp (by first|rfl|rw[QyV a])
  obtain rfl:i=(QD s).length:=by omega
  repeat'(first|(refine zhm fun hb=>?_;try exact zab)|refine zUtp ?_|refine zg2 ?_ ?_|intro _)
  refine zr [] ?_ ?_
  repeat'(first|exact ze3|refine ze2 ?_ ?_|refine ze4 ?_|exact ze5|fail)
  all_goals exact zp rfl
end
end Go.Proofs.YtkdniahincpmaaaGreat
