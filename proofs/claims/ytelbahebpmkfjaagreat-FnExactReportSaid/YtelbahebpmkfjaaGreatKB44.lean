/-
  Lines of a report: numTexts, l09Line; what a report says.
-/
import Derived.Test.YtelbahebpmkfjaaGreatKB7
import Derived.Test.YtelbahebpmkfjaaGreatKB36
import Derived.Test.YtelbahebpmkfjaaGreatKB42
import Derived.Test.YtelbahebpmkfjaaGreatKB30
import Derived.Test.YtelbahebpmkfjaaGreatKB26
import Derived.Test.YtelbahebpmkfjaaGreatKB24
set_option maxRecDepth 100000
set_option maxHeartbeats 16000000
namespace Go.Proofs.YtelbahebpmkfjaaGreat
open Go Go.RowKit
attribute [local irreducible] AWp Qat OpOk ACalls ChA QsOk MCalls NCalls EnC PY

def linT (w:List UInt8) (l:List Int):List UInt8:=w++l.flatMap fun n=>32::Qi9 n
def QbM (w:List UInt8) (l:List Int):List UInt8:=linT w l++[10]
theorem QoE (w:List UInt8):linT w []=w:=by simp [linT]
theorem QoA (w:List UInt8) (l m:List Int):linT (linT w l) m=linT w (l++m):=by simp [linT]
theorem Qmi (w:List UInt8) (l:List Int) (n:Int):linT w (l++[n])=linT w l++[32]++Qi9 n:=by simp [linT]
theorem Qfj {α:Type} {f:α→List UInt8} {k:Nat}:∀{l:List α},(∀x∈l,(f x).length≤k)→(l.flatMap f).length≤k * l.length
 | [],_=>by simp
 | x::l,h=>by
  have h1:=Qfj (l:=l) fun y hy=>h y (List.mem_cons_of_mem _ hy)
  have h2:=h x List.mem_cons_self
  rw [List.flatMap_cons,List.length_append,List.length_cons,Nat.mul_succ]
  omega
theorem QcE (w:List UInt8) (l:List Int):(linT w l).length≤w.length+11 * l.length:=by
 unfold linT
 rw [List.length_append]
 have:=Qfj (l:=l) (f:=fun n=>32::Qi9 n) (k:=11) fun x _=>by
  have:=QfL x
  rw [List.length_cons];omega
 omega
theorem lin3 {w:List UInt8} {l:List Int} (hw:w.length≤5) (hl:l.length≤3):(linT w l).length≤50:=by
 have:=QcE w l
 omega
theorem line3 {w:List UInt8} {l:List Int} (hw:w.length≤5) (hl:l.length≤3):(QbM w l).length≤51:=by
 have:=lin3 hw hl
 unfold QbM
 rw [List.length_append,List.length_singleton]
 omega
theorem Qcz {w:List UInt8} {l:List Int} (hw:w.length≤100000000) (hl:l.length≤100000000):ACalls Tryz.prog 98 [.d (.s w),.d (.sl (intE l))] [.d (.s (linT w l))] []:=by
 refine Qaa tt Tryz.func98 rfl rfl rfl (fun w0 Z=>?_)
 have hle:=Qad l
 repeat' (first|refine zst ?_|(refine zhm fun hb=>?_;try exact zab)|refine zg2 ?_ ?_|refine zln fun _=>?_|refine zop ?_|fail)
 refine Qae (fun (i:Nat)=>⟨20,[(0,.d (.s (linT w (l.take i)))),(7,.d (.sl (intE l))),(8,.d (.n .i64 (l.length:Nat))),(9,.d (.n .i64 i))],[]⟩) (fun i=>i≤l.length) (fun i=>l.length - i) 0 (Nat.zero_le _) ?_ ?_
 ·refine ⟨rfl,?_,?_,rfl⟩
  repeat' (first|apply And.intro|exact zes|refine zet ?_|exact ze0|refine ze1 ?_|refine zei ?_ ?_|exact rfl|trivial)
  all_goals exact Stop.mk (by first|rfl|exact Qad _|rw [List.take_zero,QoE])
 ·intro i hi
  have hll:=QcE w (l.take i)
  have htl:(l.take i).length≤l.length:=List.length_take_le' _ _
  by_cases hi':i<l.length
  ·have hnx:=QfL (nth l i)
   repeat' (first|refine zst ?_|(refine zhm fun hb=>?_;try exact zab)|refine zg2 ?_ ?_|refine zln fun _=>?_|refine zop ?_|refine kc (QqS (x:=nth l i)) rfl rfl ?_|fail)
   refine ⟨i+1,by omega,by omega,?_⟩
   refine ⟨rfl,?_,?_,rfl⟩
   repeat' (first|apply And.intro|exact zes|refine zet ?_|exact ze0|refine ze1 ?_|refine zei ?_ ?_|exact rfl|trivial)
   all_goals exact Stop.mk (by first|rfl|rw [Qas hi',Qmi])
  ·obtain rfl:i=l.length:=by omega
   rw [List.take_length] at *
   repeat' (first|refine zst ?_|(refine zhm fun hb=>?_;try exact zab)|refine zg2 ?_ ?_|refine zln fun _=>?_|refine zop ?_|fail)
   refine zr [] ?_ ?_
   repeat' (first|apply And.intro|exact zes|refine zet ?_|exact ze0|refine ze1 ?_|refine zei ?_ ?_|exact rfl|trivial)
   all_goals exact Stop.mk rfl
theorem Qd3 {w:List UInt8} {l:List Int} (hw:w.length≤100000000) (hl:l.length≤100000000):ACalls Tryz.prog 95 [.d (.s w),.d (.sl (intE l))] [.d (.s (QbM w l))] []:=by
 refine Qaa tt Tryz.func95 rfl rfl rfl (fun w0 Z=>?_)
 have hle:=Qad l
 repeat' (first|refine zst ?_|(refine zhm fun hb=>?_;try exact zab)|refine zg2 ?_ ?_|refine zln fun _=>?_|refine zop ?_|fail)
 refine Qae (fun (i:Nat)=>⟨21,[(0,.d (.s (linT w (l.take i)))),(7,.d (.sl (intE l))),(8,.d (.n .i64 (l.length:Nat))),(9,.d (.n .i64 i))],[]⟩) (fun i=>i≤l.length) (fun i=>l.length - i) 0 (Nat.zero_le _) ?_ ?_
 ·refine ⟨rfl,?_,?_,rfl⟩
  repeat' (first|apply And.intro|exact zes|refine zet ?_|exact ze0|refine ze1 ?_|refine zei ?_ ?_|exact rfl|trivial)
  all_goals exact Stop.mk (by first|rfl|exact Qad _|rw [List.take_zero,QoE])
 ·intro i hi
  have hll:=QcE w (l.take i)
  have htl:(l.take i).length≤l.length:=List.length_take_le' _ _
  by_cases hi':i<l.length
  ·have hnx:=QfL (nth l i)
   repeat' (first|refine zst ?_|(refine zhm fun hb=>?_;try exact zab)|refine zg2 ?_ ?_|refine zln fun _=>?_|refine zop ?_|refine kc (Qsc (x:=nth l i)) rfl rfl ?_|fail)
   refine ⟨i+1,by omega,by omega,?_⟩
   refine ⟨rfl,?_,?_,rfl⟩
   repeat' (first|apply And.intro|exact zes|refine zet ?_|exact ze0|refine ze1 ?_|refine zei ?_ ?_|exact rfl|trivial)
   all_goals exact Stop.mk (by first|rfl|rw [Qas hi',Qmi])
  ·obtain rfl:i=l.length:=by omega
   rw [List.take_length] at *
   repeat' (first|refine zst ?_|(refine zhm fun hb=>?_;try exact zab)|refine zg2 ?_ ?_|refine zln fun _=>?_|refine zop ?_|fail)
   refine zr [] ?_ ?_
   repeat' (first|apply And.intro|exact zes|refine zet ?_|exact ze0|refine ze1 ?_|refine zei ?_ ?_|exact rfl|trivial)
   all_goals exact Stop.mk rfl
def Qlt:List UInt8:=[100,111,119,110]
def QjW:List UInt8:=[110,111,119]
def QeU:List UInt8:=[119,97,105,116]
def QfG:List UInt8:=[114,117,110]
def Qis:List UInt8:=[101,110,100]
def Qcs:List UInt8:=[108,97,116,101,114]
def QpK (j:Job):List UInt8:=QbM QeU [j.id]
def runT (r:Run):List UInt8:=QbM QfG (r.job.id::r.at'::r.nodes)
def endT (e:EndS):List UInt8:=QbM Qis [e.id,e.at',e.why]
def QjJ (h:HeldS):List UInt8:=QbM Qcs (h.id::h.at'::h.nodes)
def rp1 (s:State) (i:Nat):List UInt8:=QbM QjW [s.now]++(s.queue.take i).flatMap QpK
def rp2 (s:State) (i:Nat):List UInt8:=rp1 s s.queue.length++(s.runs.take i).flatMap runT
def rp3 (s:State) (i:Nat):List UInt8:=rp2 s s.runs.length++(s.ends.take i).flatMap endT
noncomputable def rp4 (s:State) (i:Nat):List UInt8:=rp3 s s.ends.length++((Qaz s).take i).flatMap QjJ
theorem Qrf (j:Job):(QpK j).length≤100:=by
 have:=QcE QeU [j.id]
 simp only [QpK,QbM,List.length_append,QeU,List.length_cons,List.length_nil] at *
 omega
theorem QtK (e:EndS):(endT e).length≤100:=by
 have:=QcE Qis [e.id,e.at',e.why]
 simp only [endT,QbM,List.length_append,Qis,List.length_cons,List.length_nil] at *
 omega
theorem Qtf {r:Run} (h:r.nodes.length≤1048576):(runT r).length≤12000000:=by
 have:=QcE QfG (r.job.id::r.at'::r.nodes)
 simp only [runT,QbM,List.length_append,QfG,List.length_cons,List.length_nil] at *
 omega
theorem QpB {h:HeldS} (hn:h.nodes.length≤24):(QjJ h).length≤1000:=by
 have:=QcE Qcs (h.id::h.at'::h.nodes)
 simp only [QjJ,QbM,List.length_append,Qcs,List.length_cons,List.length_nil] at *
 omega
theorem Qnk {s:State} (hs:Small 1048576 s) (i:Nat):(rp1 s i).length≤200000000:=by
 have h1:=QcE QjW [s.now]
 have h2:=Qfj (l:=s.queue.take i) (f:=QpK) (k:=100) fun x _=>Qrf x
 have h3:(s.queue.take i).length≤s.queue.length:=List.length_take_le' _ _
 have h4:=hs.que
 simp only [rp1,QbM,List.length_append,QjW,List.length_cons,List.length_nil] at *
 omega
theorem Qm1 {s:State} (hs:Small 1048576 s) (i:Nat):(rp2 s i).length≤100000000000000:=by
 have h1:=Qnk hs s.queue.length
 have h2:=Qfj (l:=s.runs.take i) (f:=runT) (k:=12000000) fun x hx=>by
  obtain ⟨j,hj,rfl⟩:=QbB (List.mem_of_mem_take hx)
  exact Qtf (hs.rno j hj)
 have h3:(s.runs.take i).length≤s.runs.length:=List.length_take_le' _ _
 have h4:=hs.run
 simp only [rp2,List.length_append] at *
 omega
theorem Qmw {s:State} (hs:Small 1048576 s) (i:Nat):(rp3 s i).length≤100001000000000:=by
 have h1:=Qm1 hs s.runs.length
 have h2:=Qfj (l:=s.ends.take i) (f:=endT) (k:=100) fun x _=>QtK x
 have h3:(s.ends.take i).length≤s.ends.length:=List.length_take_le' _ _
 have h4:=hs.end'
 simp only [rp3,List.length_append] at *
 omega
theorem Qe5 (s:State):(Qaz s).length≤60∧∀h∈Qaz s,h.nodes.length≤24:=by
 cases hok:Qap s with
 | true=>
  rw [show Qaz s=(QcO s).2 from if_pos hok]
  obtain ⟨r,hP⟩:=Qit hok
  have hI:=QgH hP.room
  have hil:=hI.len
  have hol:=Qb3 s.queue
  have hql:=hP.queue.len
  exact ⟨by omega,fun h hh=>(hI.lt h hh).2⟩
 | false=>rw [show Qaz s=[] from if_neg (by rw [hok];decide)];exact ⟨by simp,fun h hh=>by cases hh⟩
theorem QpZ {s:State} (hs:Small 1048576 s) (i:Nat):(rp4 s i).length≤100002000000000:=by
 have h1:=Qmw hs s.ends.length
 have h2:=Qfj (l:=(Qaz s).take i) (f:=QjJ) (k:=1000) fun x hx=>QpB ((Qe5 s).2 x (List.mem_of_mem_take hx))
 have h3:((Qaz s).take i).length≤(Qaz s).length:=List.length_take_le' _ _
 have h4:=(Qe5 s).1
 simp only [rp4,List.length_append] at *
 omega
theorem QtQ {s:State} {i:Nat} (h:i<s.queue.length):rp1 s (i+1)=rp1 s i++linT QeU [(nth s.queue i).id]++[10]:=by simp [rp1,Qas h,QpK,QbM]
theorem QsH {s:State} {i:Nat} (h:i<s.runs.length):rp2 s (i+1)=rp2 s i++linT (linT QfG [(nth s.runs i).job.id,(nth s.runs i).at']) (nth s.runs i).nodes++[10]:=by simp [rp2,Qas h,runT,QbM,QoA]
theorem Qta {s:State} {i:Nat} (h:i<s.ends.length):rp3 s (i+1)=rp3 s i++linT Qis [(nth s.ends i).id,(nth s.ends i).at',(nth s.ends i).why]++[10]:=by simp [rp3,Qas h,endT,QbM]
theorem Qui {s:State} {i:Nat} (h:i<(Qaz s).length):rp4 s (i+1)=rp4 s i++linT (linT Qcs [(nth (Qaz s) i).id,(nth (Qaz s) i).at']) (nth (Qaz s) i).nodes++[10]:=by simp [rp4,Qas h,QjJ,QbM,QoA]
theorem Qx7 {s:State} {i:Nat} (h:i<s.queue.length):rp1 s (i+1)=rp1 s i++QbM QeU [(nth s.queue i).id]:=by simp [rp1,Qas h,QpK]
theorem Qx4 {s:State} {i:Nat} (h:i<s.runs.length):rp2 s (i+1)=rp2 s i++QbM QfG ([(nth s.runs i).job.id,(nth s.runs i).at']++(nth s.runs i).nodes):=by simp [rp2,Qas h,runT]
theorem Qx1 {s:State} {i:Nat} (h:i<s.ends.length):rp3 s (i+1)=rp3 s i++QbM Qis [(nth s.ends i).id,(nth s.ends i).at',(nth s.ends i).why]:=by simp [rp3,Qas h,endT]
theorem Qx6 {s:State} {i:Nat} (h:i<(Qaz s).length):rp4 s (i+1)=rp4 s i++QbM Qcs ([(nth (Qaz s) i).id,(nth (Qaz s) i).at']++(nth (Qaz s) i).nodes):=by simp [rp4,Qas h,QjJ]
theorem Qwa {s:State} (hs:Small 100000000 s):DC Tryz.prog 99 [QaA s] [.d (.sl (Qel (Qaz s)))]:=by
 cases h:Qap s with
 | true=>
  rw [show Qaz s=(QcO s).2 from if_pos h]
  exact dc_a (QvN hs h)
 | false=>
  rw [show Qaz s=[] from if_neg (by rw [h];decide)]
  refine Qag tt Tryz.func99 rfl rfl rfl trivial (fun _ _=>⟨trivial,trivial⟩) (fun w0 Z O=>?_)
  have c1:=Qca hs
  rw [h] at c1
  repeat' (first|refine zsr ?_|(refine zhm fun hb=>?_;try exact zab)|refine zg2 ?_ ?_|refine zop ?_|refine kc (c1) rfl rfl ?_|fail)
  show AWp _ _ _ _
  refine Qac ?_
  apply Qab
  exact zm () [] trivial zae zae zae
noncomputable def QgO (w:Wld):List UInt8:=if w.up=true then rp4 w.ctl.state (Qaz w.ctl.state).length else QbM Qlt [(w.bytes.length:Int)]
end Go.Proofs.YtelbahebpmkfjaaGreat
namespace Go.Proofs.YtelbahebpmkfjaaGreat
open Go Go.RowKit
attribute [local irreducible] AWp Qat OpOk ACalls ChA QsOk MCalls NCalls EnC PY

theorem Qln (w:List UInt8) (l:List Int):(QbM w l).length≤w.length+11 * l.length+1:=by
 have:=QcE w l
 unfold QbM
 rw [List.length_append,List.length_singleton]
 omega
theorem Qt0 {w:Wld} (hs:SmallW 1048576 w):ACalls Tryz.prog 27 [wldA w] [.d (.s (QgO w))] []:=by
 refine Qaa tt Tryz.func27 rfl rfl rfl (fun w0 Z=>?_)
 obtain ⟨up,first,⟨cf,s,jn⟩,bytes,codes⟩:=w
 have hb:=QaE bytes
 have hbl:=hs.bytes
 have hS:=hs.ctl.state
 dsimp only at hbl hS
 have hm:Small 100000000 s:=hS.mono (by omega)
 have c2:=Qwa hm
 cases up with
 | false=>
  rw [show QgO ⟨false,first,⟨cf,s,jn⟩,bytes,codes⟩=QbM Qlt [(bytes.length:Int)] from rfl]
  have c1:ACalls Tryz.prog 98 [.d (.s [100,111,119,110]),.d (.sl [[.n .i64 (bytes.length:Int)]])] [.d (.s (linT [100,111,119,110] [(bytes.length:Int)]))] []:=Qcz (w:=Qlt) (l:=[(bytes.length:Int)]) (by decide) (by simp)
  have hxc1:(linT [100,111,119,110] [(bytes.length:Int)]).length≤51:=Nat.le_succ_of_le (lin3 (by decide) (by simp))
  repeat' (first|refine zst ?_|(refine zhm fun hb=>?_;try exact zab)|refine zdr ?_|(apply zch;exact zcg)|refine HopS.mk fun w0 Z O=>?_|exact zhk|refine zg3 ?_ ?_|refine zln fun _=>?_|refine zop ?_|refine kc (c1) rfl rfl ?_|refine kq (c1) rfl rfl ?_|fail)
  refine zr [] ?_ ?_
  repeat' (first|apply And.intro|exact zeb|refine zec ?_|exact zen|refine zeo ?_|exact zes|refine zet ?_|exact zel|refine zem ?_|exact zep|refine zeq1 ?_|refine zea ?_|refine zei ?_ ?_|refine zex ?_|(apply Qco;iterate 3 exact rfl)|exact rfl|exact trivial)
  all_goals exact Stop.mk rfl
 | true=>
  rw [show QgO ⟨true,first,⟨cf,s,jn⟩,bytes,codes⟩=rp4 s (Qaz s).length from rfl]
  have hq:=Qak s.queue
  have hr:=Qah s.runs
  have he:=QaC s.ends
  have hq1:=hS.que
  have hr1:=hS.run
  have he1:=hS.end'
  have hL:=Qe5 s
  have hh:=Qa3 (Qaz s)
  have c1:ACalls Tryz.prog 98 [.d (.s [110,111,119]),.d (.sl [[.n .i64 s.now]])] [.d (.s (linT QjW [s.now]))] []:=Qcz (w:=QjW) (l:=[s.now]) (by decide) (by simp)
  have hxc1:(linT QjW [s.now]).length≤51:=Nat.le_succ_of_le (lin3 (by decide) (by simp))
  repeat' (first|refine zst ?_|(refine zhm fun hb=>?_;try exact zab)|refine zdr ?_|(apply zch;exact zcg)|refine HopS.mk fun w0 Z O=>?_|exact zhk|refine zg3 ?_ ?_|refine zln fun _=>?_|refine zop ?_|refine kc (c1) rfl rfl ?_|refine kq (c1) rfl rfl ?_|fail)
  refine Qae (fun (i:Nat)=>⟨106,[(3,.ptr 3 0),(4,.d (.s (rp1 s i))),(31,.d (.sl (jobE s.queue))),(32,.d (.n .i64 (s.queue.length:Nat))),(33,.d (.n .i64 i))],[(3,.box 43 (Qbw s))]⟩) (fun i=>i≤s.queue.length) (fun i=>s.queue.length - i) 0 (Nat.zero_le _) ?_ ?_
  ·refine ⟨rfl,?_,?_,rfl⟩
   repeat' (first|apply And.intro|exact zes|refine zet ?_|exact ze0|refine ze1 ?_|refine zei ?_ ?_|exact rfl|trivial)
   all_goals exact Stop.mk (by first|rfl|exact Qak _|simp [rp1,QbM])
  intro i hi
  have hl1:=Qnk hS i
  by_cases hi':i<s.queue.length
  ·have c3:ACalls Tryz.prog 98 [.d (.s [119,97,105,116]),.d (.sl [[.n .i64 (nth s.queue i).id]])] [.d (.s (linT QeU [(nth s.queue i).id]))] []:=Qcz (w:=QeU) (l:=[(nth s.queue i).id]) (by decide) (by simp)
   have hxc3:(linT QeU [(nth s.queue i).id]).length≤51:=Nat.le_succ_of_le (lin3 (by decide) (by simp))
   repeat' (first|refine zst ?_|(refine zhm fun hb=>?_;try exact zab)|refine zdr ?_|(apply zch;exact zcg)|refine HopS.mk fun w0 Z O=>?_|exact zhk|refine zg3 ?_ ?_|refine zln fun _=>?_|refine zop ?_|refine kc (c3) rfl rfl ?_|refine kq (c3) rfl rfl ?_|fail)
   refine ⟨i+1,by omega,by omega,?_⟩
   refine ⟨rfl,?_,?_,rfl⟩
   repeat' (first|apply And.intro|exact zes|refine zet ?_|exact ze0|refine ze1 ?_|refine zei ?_ ?_|exact rfl|trivial)
   all_goals exact Stop.mk (by first|rfl|rw [QtQ hi'])
  obtain rfl:i=s.queue.length:=by omega
  repeat' (first|refine zst ?_|(refine zhm fun hb=>?_;try exact zab)|refine zdr ?_|(apply zch;exact zcg)|refine HopS.mk fun w0 Z O=>?_|exact zhk|refine zg3 ?_ ?_|refine zln fun _=>?_|refine zop ?_|fail)
  refine Qae (fun (i:Nat)=>⟨106,[(3,.ptr 3 0),(4,.d (.s (rp2 s i))),(46,.d (.sl (runE s.runs))),(47,.d (.n .i64 (s.runs.length:Nat))),(48,.d (.n .i64 i))],[(3,.box 43 (Qbw s))]⟩) (fun i=>i≤s.runs.length) (fun i=>s.runs.length - i) 0 (Nat.zero_le _) ?_ ?_
  ·refine ⟨rfl,?_,?_,rfl⟩
   repeat' (first|apply And.intro|exact zes|refine zet ?_|exact ze0|refine ze1 ?_|refine zei ?_ ?_|exact rfl|trivial)
   all_goals exact Stop.mk (by first|rfl|exact Qah _|simp [rp2])
  intro i hi
  have hl1:=Qm1 hS i
  by_cases hi':i<s.runs.length
  ·have hrn:=hS.rno i hi'
   have hrl:=Qad (nth s.runs i).nodes
   have c3:ACalls Tryz.prog 98 [.d (.s [114,117,110]),.d (.sl [[.n .i64 (nth s.runs i).job.id],[.n .i64 (nth s.runs i).at']])] [.d (.s (linT QfG [(nth s.runs i).job.id,(nth s.runs i).at']))] []:=Qcz (w:=QfG) (l:=[(nth s.runs i).job.id,(nth s.runs i).at']) (by decide) (by simp)
   have hxc3:(linT QfG [(nth s.runs i).job.id,(nth s.runs i).at']).length≤51:=Nat.le_succ_of_le (lin3 (by decide) (by simp))
   have hl2:=QcE (linT QfG [(nth s.runs i).job.id,(nth s.runs i).at']) ((nth s.runs i).nodes)
   have hw:QfG.length≤5:=by decide
   have c4:=Qcz (w:=linT QfG [(nth s.runs i).job.id,(nth s.runs i).at']) (l:=(nth s.runs i).nodes) (by omega) (by omega)
   repeat' (first|refine zst ?_|(refine zhm fun hb=>?_;try exact zab)|refine zdr ?_|(apply zch;exact zcg)|refine HopS.mk fun w0 Z O=>?_|exact zhk|refine zg3 ?_ ?_|refine zln fun _=>?_|refine zop ?_|refine kc (c3) rfl rfl ?_|refine kc (c4) rfl rfl ?_|refine kq (c3) rfl rfl ?_|refine kq (c4) rfl rfl ?_|fail)
   refine ⟨i+1,by omega,by omega,?_⟩
   refine ⟨rfl,?_,?_,rfl⟩
   repeat' (first|apply And.intro|exact zes|refine zet ?_|exact ze0|refine ze1 ?_|refine zei ?_ ?_|exact rfl|trivial)
   all_goals exact Stop.mk (by first|rfl|rw [QsH hi'])
  obtain rfl:i=s.runs.length:=by omega
  repeat' (first|refine zst ?_|(refine zhm fun hb=>?_;try exact zab)|refine zdr ?_|(apply zch;exact zcg)|refine HopS.mk fun w0 Z O=>?_|exact zhk|refine zg3 ?_ ?_|refine zln fun _=>?_|refine zop ?_|fail)
  refine Qae (fun (i:Nat)=>⟨106,[(3,.ptr 3 0),(4,.d (.s (rp3 s i))),(67,.d (.sl (endE s.ends))),(68,.d (.n .i64 (s.ends.length:Nat))),(69,.d (.n .i64 i))],[(3,.box 43 (Qbw s))]⟩) (fun i=>i≤s.ends.length) (fun i=>s.ends.length - i) 0 (Nat.zero_le _) ?_ ?_
  ·refine ⟨rfl,?_,?_,rfl⟩
   repeat' (first|apply And.intro|exact zes|refine zet ?_|exact ze0|refine ze1 ?_|refine zei ?_ ?_|exact rfl|trivial)
   all_goals exact Stop.mk (by first|rfl|exact QaC _|simp [rp3])
  intro i hi
  have hl1:=Qmw hS i
  by_cases hi':i<s.ends.length
  ·have c3:ACalls Tryz.prog 98 [.d (.s [101,110,100]),.d (.sl [[.n .i64 (nth s.ends i).id],[.n .i64 (nth s.ends i).at'],[.n .i64 (nth s.ends i).why]])] [.d (.s (linT Qis [(nth s.ends i).id,(nth s.ends i).at',(nth s.ends i).why]))] []:=Qcz (w:=Qis) (l:=[(nth s.ends i).id,(nth s.ends i).at',(nth s.ends i).why]) (by decide) (by simp)
   have hxc3:(linT Qis [(nth s.ends i).id,(nth s.ends i).at',(nth s.ends i).why]).length≤51:=Nat.le_succ_of_le (lin3 (by decide) (by simp))
   repeat' (first|refine zst ?_|(refine zhm fun hb=>?_;try exact zab)|refine zdr ?_|(apply zch;exact zcg)|refine HopS.mk fun w0 Z O=>?_|exact zhk|refine zg3 ?_ ?_|refine zln fun _=>?_|refine zop ?_|refine kc (c3) rfl rfl ?_|refine kq (c3) rfl rfl ?_|fail)
   refine ⟨i+1,by omega,by omega,?_⟩
   refine ⟨rfl,?_,?_,rfl⟩
   repeat' (first|apply And.intro|exact zes|refine zet ?_|exact ze0|refine ze1 ?_|refine zei ?_ ?_|exact rfl|trivial)
   all_goals exact Stop.mk (by first|rfl|rw [Qta hi'])
  obtain rfl:i=s.ends.length:=by omega
  repeat' (first|refine zst ?_|(refine zhm fun hb=>?_;try exact zab)|refine zdr ?_|(apply zch;exact zcg)|refine HopS.mk fun w0 Z O=>?_|exact zhk|refine zg3 ?_ ?_|refine zln fun _=>?_|refine zop ?_|(refine km [] (c2) rfl rfl (fun i hi=>?_);(try dsimp only at hi))|fail)
  refine Qae (fun (i:Nat)=>⟨106,[(4,.d (.s (rp4 s i))),(86,.d (.sl (Qel (Qaz s)))),(87,.d (.n .i64 ((Qaz s).length:Nat))),(88,.d (.n .i64 i))],[]⟩) (fun i=>i≤(Qaz s).length) (fun i=>(Qaz s).length - i) 0 (Nat.zero_le _) ?_ ?_
  ·refine ⟨rfl,?_,?_,rfl⟩
   repeat' (first|apply And.intro|exact zes|refine zet ?_|exact ze0|refine ze1 ?_|refine zei ?_ ?_|exact rfl|trivial)
   all_goals exact Stop.mk (by first|rfl|exact Qa3 _|simp [rp4])
  intro i hi
  have hl1:=QpZ hS i
  by_cases hi':i<(Qaz s).length
  ·have hrn:=hL.2 _ (QaO hi')
   have hrl:=Qad (nth (Qaz s) i).nodes
   have c3:ACalls Tryz.prog 98 [.d (.s [108,97,116,101,114]),.d (.sl [[.n .i64 (nth (Qaz s) i).id],[.n .i64 (nth (Qaz s) i).at']])] [.d (.s (linT Qcs [(nth (Qaz s) i).id,(nth (Qaz s) i).at']))] []:=Qcz (w:=Qcs) (l:=[(nth (Qaz s) i).id,(nth (Qaz s) i).at']) (by decide) (by simp)
   have hxc3:(linT Qcs [(nth (Qaz s) i).id,(nth (Qaz s) i).at']).length≤51:=Nat.le_succ_of_le (lin3 (by decide) (by simp))
   have hl2:=QcE (linT Qcs [(nth (Qaz s) i).id,(nth (Qaz s) i).at']) ((nth (Qaz s) i).nodes)
   have hw:Qcs.length≤5:=by decide
   have c4:=Qcz (w:=linT Qcs [(nth (Qaz s) i).id,(nth (Qaz s) i).at']) (l:=(nth (Qaz s) i).nodes) (by omega) (by omega)
   repeat' (first|refine zst ?_|(refine zhm fun hb=>?_;try exact zab)|refine zdr ?_|(apply zch;exact zcg)|refine HopS.mk fun w0 Z O=>?_|exact zhk|refine zg3 ?_ ?_|refine zln fun _=>?_|refine zop ?_|refine kc (c3) rfl rfl ?_|refine kc (c4) rfl rfl ?_|refine kq (c3) rfl rfl ?_|refine kq (c4) rfl rfl ?_|fail)
   refine ⟨i+1,by omega,by omega,?_⟩
   refine ⟨rfl,?_,?_,rfl⟩
   repeat' (first|apply And.intro|exact zes|refine zet ?_|exact ze0|refine ze1 ?_|refine zei ?_ ?_|exact rfl|trivial)
   all_goals exact Stop.mk (by first|rfl|rw [Qui hi'])
  obtain rfl:i=(Qaz s).length:=by omega
  repeat' (first|refine zst ?_|(refine zhm fun hb=>?_;try exact zab)|refine zdr ?_|(apply zch;exact zcg)|refine HopS.mk fun w0 Z O=>?_|exact zhk|refine zg3 ?_ ?_|refine zln fun _=>?_|refine zop ?_|fail)
  refine zr [] ?_ ?_
  repeat' (first|apply And.intro|exact zeb|refine zec ?_|exact zen|refine zeo ?_|exact zes|refine zet ?_|exact zel|refine zem ?_|exact zep|refine zeq1 ?_|refine zea ?_|refine zei ?_ ?_|refine zex ?_|(apply Qco;iterate 3 exact rfl)|exact rfl|exact trivial)
  all_goals exact Stop.mk rfl
theorem Qul {w:Wld} (hs:SmallW 1048576 w):ACalls Tryz.prog 25 [wldA w] [.d (.s (QgO w))] []:=by
 refine Qaa tt Tryz.func25 rfl rfl rfl (fun w0 Z=>?_)
 obtain ⟨up,first,⟨cf,s,jn⟩,bytes,codes⟩:=w
 have hb:=QaE bytes
 have hbl:=hs.bytes
 have hS:=hs.ctl.state
 dsimp only at hbl hS
 have hm:Small 100000000 s:=hS.mono (by omega)
 have c2:=QwN hm
 cases up with
 | false=>
  rw [show QgO ⟨false,first,⟨cf,s,jn⟩,bytes,codes⟩=QbM Qlt [(bytes.length:Int)] from rfl]
  have c1:ACalls Tryz.prog 95 [.d (.s [100,111,119,110]),.d (.sl [[.n .i64 (bytes.length:Int)]])] [.d (.s (QbM [100,111,119,110] [(bytes.length:Int)]))] []:=Qd3 (w:=Qlt) (l:=[(bytes.length:Int)]) (by decide) (by simp)
  have hxc1:(QbM [100,111,119,110] [(bytes.length:Int)]).length≤51:=line3 (by decide) (by simp)
  repeat' (first|refine zst ?_|(refine zhm fun hb=>?_;try exact zab)|refine zg2 ?_ ?_|refine zln fun _=>?_|refine zop ?_|refine kc (c1) rfl rfl ?_|fail)
  refine zr [] ?_ ?_
  repeat' (first|apply And.intro|exact zeb|refine zec ?_|exact zen|refine zeo ?_|exact zes|refine zet ?_|exact zel|refine zem ?_|exact zep|refine zeq1 ?_|refine zea ?_|refine zei ?_ ?_|refine zex ?_|(apply Qco;iterate 3 exact rfl)|exact rfl|exact trivial)
  all_goals exact Stop.mk rfl
 | true=>
  rw [show QgO ⟨true,first,⟨cf,s,jn⟩,bytes,codes⟩=rp4 s (Qaz s).length from rfl]
  have hq:=Qak s.queue
  have hr:=Qah s.runs
  have he:=QaC s.ends
  have hq1:=hS.que
  have hr1:=hS.run
  have he1:=hS.end'
  have hL:=Qe5 s
  have hh:=Qa3 (Qaz s)
  have c1:ACalls Tryz.prog 95 [.d (.s [110,111,119]),.d (.sl [[.n .i64 s.now]])] [.d (.s (QbM QjW [s.now]))] []:=Qd3 (w:=QjW) (l:=[s.now]) (by decide) (by simp)
  have hxc1:(QbM QjW [s.now]).length≤51:=line3 (by decide) (by simp)
  repeat' (first|refine zst ?_|(refine zhm fun hb=>?_;try exact zab)|refine zg2 ?_ ?_|refine zln fun _=>?_|refine zop ?_|refine kc (c1) rfl rfl ?_|fail)
  refine Qae (fun (i:Nat)=>⟨100,[(3,.ptr 3 0),(4,.d (.s (rp1 s i))),(29,.d (.sl (jobE s.queue))),(30,.d (.n .i64 (s.queue.length:Nat))),(31,.d (.n .i64 i))],[(3,.box 43 (Qbw s))]⟩) (fun i=>i≤s.queue.length) (fun i=>s.queue.length - i) 0 (Nat.zero_le _) ?_ ?_
  ·refine ⟨rfl,?_,?_,rfl⟩
   repeat' (first|apply And.intro|exact zes|refine zet ?_|exact ze0|refine ze1 ?_|refine zei ?_ ?_|exact rfl|trivial)
   all_goals exact Stop.mk (by first|rfl|exact Qak _|simp [rp1,QbM])
  intro i hi
  have hl1:=Qnk hS i
  by_cases hi':i<s.queue.length
  ·have c3:ACalls Tryz.prog 95 [.d (.s [119,97,105,116]),.d (.sl [[.n .i64 (nth s.queue i).id]])] [.d (.s (QbM QeU [(nth s.queue i).id]))] []:=Qd3 (w:=QeU) (l:=[(nth s.queue i).id]) (by decide) (by simp)
   have hxc3:(QbM QeU [(nth s.queue i).id]).length≤51:=line3 (by decide) (by simp)
   repeat' (first|refine zst ?_|(refine zhm fun hb=>?_;try exact zab)|refine zg2 ?_ ?_|refine zln fun _=>?_|refine zop ?_|refine kc (c3) rfl rfl ?_|fail)
   refine ⟨i+1,by omega,by omega,?_⟩
   refine ⟨rfl,?_,?_,rfl⟩
   repeat' (first|apply And.intro|exact zes|refine zet ?_|exact ze0|refine ze1 ?_|refine zei ?_ ?_|exact rfl|trivial)
   all_goals exact Stop.mk (by first|rfl|rw [Qx7 hi'])
  obtain rfl:i=s.queue.length:=by omega
  repeat' (first|refine zst ?_|(refine zhm fun hb=>?_;try exact zab)|refine zg2 ?_ ?_|refine zln fun _=>?_|refine zop ?_|fail)
  refine Qae (fun (i:Nat)=>⟨100,[(3,.ptr 3 0),(4,.d (.s (rp2 s i))),(43,.d (.sl (runE s.runs))),(44,.d (.n .i64 (s.runs.length:Nat))),(45,.d (.n .i64 i))],[(3,.box 43 (Qbw s))]⟩) (fun i=>i≤s.runs.length) (fun i=>s.runs.length - i) 0 (Nat.zero_le _) ?_ ?_
  ·refine ⟨rfl,?_,?_,rfl⟩
   repeat' (first|apply And.intro|exact zes|refine zet ?_|exact ze0|refine ze1 ?_|refine zei ?_ ?_|exact rfl|trivial)
   all_goals exact Stop.mk (by first|rfl|exact Qah _|simp [rp2])
  intro i hi
  have hl1:=Qm1 hS i
  by_cases hi':i<s.runs.length
  ·have hrn:=hS.rno i hi'
   have hrl:=Qad (nth s.runs i).nodes
   have hl2:=Qln QfG ([(nth s.runs i).job.id,(nth s.runs i).at']++(nth s.runs i).nodes)
   have hw:QfG.length≤5:=by decide
   have hl3:([(nth s.runs i).job.id,(nth s.runs i).at']++(nth s.runs i).nodes).length=((nth s.runs i).nodes).length+2:=by simp
   have c3:ACalls Tryz.prog 95 [.d (.s [114,117,110]),.d (.sl ([[.n .i64 (nth s.runs i).job.id],[.n .i64 (nth s.runs i).at']]++intE (nth s.runs i).nodes))] [.d (.s (QbM QfG ([(nth s.runs i).job.id,(nth s.runs i).at']++(nth s.runs i).nodes)))] []:=Qd3 (w:=QfG) (l:=[(nth s.runs i).job.id,(nth s.runs i).at']++(nth s.runs i).nodes) (by decide) (by omega)
   repeat' (first|refine zst ?_|(refine zhm fun hb=>?_;try exact zab)|refine zg2 ?_ ?_|refine zln fun _=>?_|refine zop ?_|refine kc (c3) rfl rfl ?_|fail)
   refine ⟨i+1,by omega,by omega,?_⟩
   refine ⟨rfl,?_,?_,rfl⟩
   repeat' (first|apply And.intro|exact zes|refine zet ?_|exact ze0|refine ze1 ?_|refine zei ?_ ?_|exact rfl|trivial)
   all_goals exact Stop.mk (by first|rfl|rw [Qx4 hi'])
  obtain rfl:i=s.runs.length:=by omega
  repeat' (first|refine zst ?_|(refine zhm fun hb=>?_;try exact zab)|refine zg2 ?_ ?_|refine zln fun _=>?_|refine zop ?_|fail)
  refine Qae (fun (i:Nat)=>⟨100,[(3,.ptr 3 0),(4,.d (.s (rp3 s i))),(63,.d (.sl (endE s.ends))),(64,.d (.n .i64 (s.ends.length:Nat))),(65,.d (.n .i64 i))],[(3,.box 43 (Qbw s))]⟩) (fun i=>i≤s.ends.length) (fun i=>s.ends.length - i) 0 (Nat.zero_le _) ?_ ?_
  ·refine ⟨rfl,?_,?_,rfl⟩
   repeat' (first|apply And.intro|exact zes|refine zet ?_|exact ze0|refine ze1 ?_|refine zei ?_ ?_|exact rfl|trivial)
   all_goals exact Stop.mk (by first|rfl|exact QaC _|simp [rp3])
  intro i hi
  have hl1:=Qmw hS i
  by_cases hi':i<s.ends.length
  ·have c3:ACalls Tryz.prog 95 [.d (.s [101,110,100]),.d (.sl [[.n .i64 (nth s.ends i).id],[.n .i64 (nth s.ends i).at'],[.n .i64 (nth s.ends i).why]])] [.d (.s (QbM Qis [(nth s.ends i).id,(nth s.ends i).at',(nth s.ends i).why]))] []:=Qd3 (w:=Qis) (l:=[(nth s.ends i).id,(nth s.ends i).at',(nth s.ends i).why]) (by decide) (by simp)
   have hxc3:(QbM Qis [(nth s.ends i).id,(nth s.ends i).at',(nth s.ends i).why]).length≤51:=line3 (by decide) (by simp)
   repeat' (first|refine zst ?_|(refine zhm fun hb=>?_;try exact zab)|refine zg2 ?_ ?_|refine zln fun _=>?_|refine zop ?_|refine kc (c3) rfl rfl ?_|fail)
   refine ⟨i+1,by omega,by omega,?_⟩
   refine ⟨rfl,?_,?_,rfl⟩
   repeat' (first|apply And.intro|exact zes|refine zet ?_|exact ze0|refine ze1 ?_|refine zei ?_ ?_|exact rfl|trivial)
   all_goals exact Stop.mk (by first|rfl|rw [Qx1 hi'])
  obtain rfl:i=s.ends.length:=by omega
  repeat' (first|refine zst ?_|(refine zhm fun hb=>?_;try exact zab)|refine zg2 ?_ ?_|refine zln fun _=>?_|refine zop ?_|(refine km [] (c2) rfl rfl (fun i hi=>?_);(try dsimp only at hi))|fail)
  refine Qae (fun (i:Nat)=>⟨100,[(4,.d (.s (rp4 s i))),(81,.d (.sl (Qel (Qaz s)))),(82,.d (.n .i64 ((Qaz s).length:Nat))),(83,.d (.n .i64 i))],[]⟩) (fun i=>i≤(Qaz s).length) (fun i=>(Qaz s).length - i) 0 (Nat.zero_le _) ?_ ?_
  ·refine ⟨rfl,?_,?_,rfl⟩
   repeat' (first|apply And.intro|exact zes|refine zet ?_|exact ze0|refine ze1 ?_|refine zei ?_ ?_|exact rfl|trivial)
   all_goals exact Stop.mk (by first|rfl|exact Qa3 _|simp [rp4])
  intro i hi
  have hl1:=QpZ hS i
  by_cases hi':i<(Qaz s).length
  ·have hrn:=hL.2 _ (QaO hi')
   have hrl:=Qad (nth (Qaz s) i).nodes
   have hl2:=Qln Qcs ([(nth (Qaz s) i).id,(nth (Qaz s) i).at']++(nth (Qaz s) i).nodes)
   have hw:Qcs.length≤5:=by decide
   have hl3:([(nth (Qaz s) i).id,(nth (Qaz s) i).at']++(nth (Qaz s) i).nodes).length=((nth (Qaz s) i).nodes).length+2:=by simp
   have c3:ACalls Tryz.prog 95 [.d (.s [108,97,116,101,114]),.d (.sl ([[.n .i64 (nth (Qaz s) i).id],[.n .i64 (nth (Qaz s) i).at']]++intE (nth (Qaz s) i).nodes))] [.d (.s (QbM Qcs ([(nth (Qaz s) i).id,(nth (Qaz s) i).at']++(nth (Qaz s) i).nodes)))] []:=Qd3 (w:=Qcs) (l:=[(nth (Qaz s) i).id,(nth (Qaz s) i).at']++(nth (Qaz s) i).nodes) (by decide) (by omega)
   repeat' (first|refine zst ?_|(refine zhm fun hb=>?_;try exact zab)|refine zg2 ?_ ?_|refine zln fun _=>?_|refine zop ?_|refine kc (c3) rfl rfl ?_|fail)
   refine ⟨i+1,by omega,by omega,?_⟩
   refine ⟨rfl,?_,?_,rfl⟩
   repeat' (first|apply And.intro|exact zes|refine zet ?_|exact ze0|refine ze1 ?_|refine zei ?_ ?_|exact rfl|trivial)
   all_goals exact Stop.mk (by first|rfl|rw [Qx6 hi'])
  obtain rfl:i=(Qaz s).length:=by omega
  repeat' (first|refine zst ?_|(refine zhm fun hb=>?_;try exact zab)|refine zg2 ?_ ?_|refine zln fun _=>?_|refine zop ?_|fail)
  refine zr [] ?_ ?_
  repeat' (first|apply And.intro|exact zeb|refine zec ?_|exact zen|refine zeo ?_|exact zes|refine zet ?_|exact zel|refine zem ?_|exact zep|refine zeq1 ?_|refine zea ?_|refine zei ?_ ?_|refine zex ?_|(apply Qco;iterate 3 exact rfl)|exact rfl|exact trivial)
  all_goals exact Stop.mk rfl
end Go.Proofs.YtelbahebpmkfjaaGreat
namespace Go.Proofs.YtelbahebpmkfjaaGreat
open Go Go.RowKit
attribute [local irreducible] AWp Qat OpOk ACalls ChA QsOk MCalls NCalls EnC PY

theorem lawReport_e {w:Wld} (h:SmallW 9223372036854775807 w):ACalls Tryz.prog 4 [wldA w] [.d (.b true)] []:=by
 refine Qaa tt Tryz.func4 rfl rfl rfl (fun w0 Z=>?_)
 by_cases hS:SmallW 1048576 w
 ·have c1:=Qul hS
  have c2:=Qt0 hS
  repeat' (first|refine zst ?_|(refine zhm fun hb=>?_;try exact zab)|(apply QaT 10;kernel_rfl;exact rfl)|refine zdr ?_|(apply zch;exact zcg)|refine HopS.mk fun w0 Z O=>?_|exact zhk|refine zg3 ?_ ?_|refine zop ?_|refine kc (c1) rfl rfl ?_|refine kc (c2) rfl rfl ?_|refine kc (QlD (w:=w) (hS.mono (by omega))) rfl rfl ?_|(refine km [] (Qmj h) rfl rfl (fun i hi=>?_);(try dsimp only at hi))|(refine km [] (Qqc hS) rfl rfl (fun i hi=>?_);(try dsimp only at hi))|refine kq (c1) rfl rfl ?_|refine kq (c2) rfl rfl ?_|refine kq (QlD (w:=w) (hS.mono (by omega))) rfl rfl ?_|fail)
  all_goals
   refine zr [] ?_ ?_
   repeat' (first|apply And.intro|exact zes|refine zet ?_|exact ze0|refine ze1 ?_|refine zei ?_ ?_|exact rfl|trivial)
   all_goals exact Stop.mk rfl
 ·repeat' (first|refine zst ?_|(refine zhm fun hb=>?_;try exact zab)|refine zdr ?_|(apply zch;exact zcg)|refine HopS.mk fun w0 Z O=>?_|exact zhk|refine zg3 ?_ ?_|refine zop ?_|(refine km [] (Qmj h) rfl rfl (fun i hi=>?_);(try dsimp only at hi))|fail)
  all_goals first|(exfalso;exact hS (hi.2 (by omega)))|skip
  refine zr [] ?_ ?_
  repeat' (first|apply And.intro|exact zes|refine zet ?_|exact ze0|refine ze1 ?_|refine zei ?_ ?_|exact rfl|trivial)
  all_goals exact Stop.mk rfl
end Go.Proofs.YtelbahebpmkfjaaGreat
