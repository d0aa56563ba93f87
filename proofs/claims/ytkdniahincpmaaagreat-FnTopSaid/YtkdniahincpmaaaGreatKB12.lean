/-
  The law's marks in slices of plain elements: what is written, and that it is held.
-/
import Derived.Test.YtkdniahincpmaaaGreatKGlA
set_option maxRecDepth 100000
set_option maxHeartbeats 16000000
namespace Go.Proofs.YtkdniahincpmaaaGreat
open Go Go.RowKit Tryz
section
attribute [local irreducible] AWp QI OpOk ACalls ChA QsOk MCalls EnC PY
def gI(k j:Nat):Int:=((k+1*j:Nat):Int)
def gN(k j:Nat):Qax:=⟨((k+4*j:Nat):Int),⟨((k+4*j+1:Nat):Int),((k+4*j+1+1:Nat):Int),((k+4*j+1+1+1:Nat):Int)⟩⟩
def gJ(k j:Nat):Job:=⟨((k+11*j:Nat):Int),((k+11*j+1:Nat):Int),((k+11*j+2:Nat):Int),⟨((k+11*j+3:Nat):Int),((k+11*j+4:Nat):Int),((k+11*j+5:Nat):Int)⟩,⟨((k+11*j+6:Nat):Int),((k+11*j+7:Nat):Int),((k+11*j+8:Nat):Int)⟩,((k+11*j+9:Nat):Int),((k+11*j+10:Nat):Int)⟩
def gE(k j:Nat):QjS:=⟨((k+3*j:Nat):Int),((k+3*j+1:Nat):Int),((k+3*j+1+1:Nat):Int)⟩
def mR(k:Nat)(r:Run):Run:=⟨⟨(k:Int),((k+1:Nat):Int),((k+2:Nat):Int),⟨((k+3:Nat):Int),((k+4:Nat):Int),((k+5:Nat):Int)⟩,⟨((k+6:Nat):Int),((k+7:Nat):Int),((k+8:Nat):Int)⟩,((k+9:Nat):Int),((k+10:Nat):Int)⟩,((k+11:Nat):Int),QeZ (gI (k+12)) r.nodes.length⟩
section
variable {α:Type} (m:Nat->α->α) (w:α->Nat)
def mSq:Nat->List α->List α
 | _,[]=>[]
 | k,r::l=>m k r::mSq (k+w r) l
def kSq:Nat->List α->Nat
 | k,[]=>k
 | k,r::l=>kSq (k+w r) l
def mxS(k:Nat)(l:List α)(j:Nat):List α:=mSq m w k (l.take j)++l.drop j
def kAtS(k:Nat)(l:List α)(j:Nat):Nat:=kSq w k (l.take j)
end
theorem QxR{α:Type}[Inhabited α]{l:List α}{j:Nat}(h:j<l.length):l[j]?=some (nth l j):=by simp[nth,h]
@[reducible] def wR (r:Run):Nat:=12+r.nodes.length
@[reducible] def mRs (k:Nat) (l:List Run):List Run:=mSq mR wR k l
@[reducible] def kR (k:Nat) (l:List Run):Nat:=kSq wR k l
@[reducible] def mxR (k:Nat) (l:List Run) (j:Nat):List Run:=mxS mR wR k l j
@[reducible] def kAt (k:Nat) (l:List Run) (j:Nat):Nat:=kAtS wR k l j
theorem QtB{l:List Int}:(∀q∈intE l,q.length=1):=fun q hq=>by
 obtain⟨x,_,rfl⟩:=Xaf.1 hq
 rfl
def gO(k j:Nat):Bool:=decide ((((k+1*j) % 3:Nat):Int)=0)
@[reducible] def runO (r:Run) (q:Nat):AV:=.agg [zI r.job.id,zI r.job.prio,zI r.job.nodes,zI r.job.need.a,zI r.job.need.b,zI r.job.need.c,zI r.job.lic.a,zI r.job.lic.b,zI r.job.lic.c,zI r.job.wall,zI r.job.level,zI r.at',.row q]
@[reducible] def QaX (s:Qb) (q0 q1 q2 q3 q4 q5:Nat):AV:=.agg [.row q0,.row q1,.row q2,zI s.lic.a,zI s.lic.b,zI s.lic.c,zI s.depth,zI s.now,.row q3,.row q4,.row q5]
@[reducible] def QcT (s:Qb):List (Nat×AO):=[(0,.row 3 (intE s.topo.parents) true),(1,.row 62 (Qw s.topo.nodes) true),(2,.row 4 (Qp s.up) true),(3,.row 40 (jobE s.queue) true),(4,.row 66 (runE s.runs) true),(5,.row 123 (endE s.ends) true)]
def mTp(k:Nat)(t:QT):QT:=⟨QeZ (gI k) t.parents.length,QeZ (gN (k+1*t.parents.length)) t.nodes.length⟩
def kTp(k:Nat)(t:QT):Nat:=k+1*t.parents.length+4*t.nodes.length
def kUp(k:Nat)(s:Qb):Nat:=kTp k s.topo+1*s.up.length
def kQu(k:Nat)(s:Qb):Nat:=kUp k s+11*s.queue.length
def kRu(k:Nat)(s:Qb):Nat:=kR (kQu k s) s.runs
def kSt(k:Nat)(s:Qb):Nat:=kRu k s+3*s.ends.length
def mSt(k:Nat)(s:Qb):Qb:=⟨mTp k s.topo,QeZ (gO (kTp k s.topo)) s.up.length,s.lic,s.depth,s.now,QeZ (gJ (kUp k s)) s.queue.length,mRs (kQu k s) s.runs,QeZ (gE (kRu k s)) s.ends.length⟩
end
end Go.Proofs.YtkdniahincpmaaaGreat
