/-
  Topologies as text: NumText, VecText, TopoText of the reference; the text tells the topology.
-/
import Derived.Test.YtelbahebpmkfjaaGreatKB7
import Derived.Test.YtelbahebpmkfjaaGreatKB9
set_option maxRecDepth 100000
set_option maxHeartbeats 16000000
namespace Go.Proofs.YtelbahebpmkfjaaGreat
open Go Go.RowKit
attribute [local irreducible] AWp Qat OpOk ACalls ChA QsOk MCalls EnC PY

def numT (n:Nat):List UInt8:=if n<10 then [UInt8.ofNat (48+n)] else numT (n / 10)++[UInt8.ofNat (48+n % 10)]
theorem Qkm {n:Nat} (h:n<10):numT n=[UInt8.ofNat (48+n)]:=by rw [numT,if_pos h]
theorem Qne {n:Nat} (h:¬n<10):numT n=numT (n / 10)++[UInt8.ofNat (48+n % 10)]:=by rw [numT,if_neg h]
theorem QkB:∀(k n:Nat),n<10 ^ (k+1)→(numT n).length≤k+1
 | 0,n,h=>by rw [Qkm (by omega)];simp
 | k+1,n,h=>by
  by_cases h1:n<10
  ·rw [Qkm h1];simp
  ·rw [Qne h1,List.length_append,List.length_singleton]
   have:=QkB k (n / 10) (by rw [Nat.pow_succ] at h;omega)
   omega
def numV (l:List UInt8):Nat:=l.foldl (fun v b=>10 * v+(b.toNat - 48)) 0
def txS:List UInt8:=[115,119,105,116,99,104,32]
def txN:List UInt8:=[110,111,100,101,32]
def swT (p:Int):List UInt8:=txS++(numT p.toNat++[10])
def vcT (v:V3):List UInt8:=numT v.a.toNat++47::(numT v.b.toNat++47::numT v.c.toNat)
def ndT (n:Node):List UInt8:=txN++(numT n.leaf.toNat++32::(vcT n.cap++[10]))
def nonN (n:Node):Prop:=0≤n.leaf∧0≤n.cap.a∧0≤n.cap.b∧0≤n.cap.c
def Qyd (t:Topo):List UInt8:=(t.parents.drop 1).flatMap swT++t.nodes.flatMap ndT
def Qyb (x:Int):List UInt8:=numT x.toNat
theorem QrA:∀(n:Nat),n≤1000000000→ACalls Tryz.prog 175 [.d (.n .i64 (n:Int))] [.d (.s (numT n))] []:=by
 intro n
 induction n using Nat.strongRecOn with
 | _ n ih=>
  intro hn
  refine Qaa tt Tryz.func175 rfl rfl rfl (fun w0 Z=>?_)
  have hl:=QkB 9 (n / 10) (by omega)
  repeat' (first|refine zst ?_|(refine zhm fun hb=>?_;try exact zab)|refine zdr ?_|(apply zch;exact zcg)|refine HopS.mk fun w0 Z O=>?_|exact zhk|refine zg3 ?_ ?_|refine zop ?_|refine kc (Qce) rfl rfl ?_|refine kc (ih (n / 10) (by omega) (by omega)) rfl rfl ?_|refine kq (Qce) rfl rfl ?_|refine kq (ih (n / 10) (by omega) (by omega)) rfl rfl ?_|fail)
  ·refine zr [] ?_ ?_
   repeat' (first|apply And.intro|exact zeb|refine zec ?_|exact zen|refine zeo ?_|exact zes|refine zet ?_|exact zel|refine zem ?_|exact zep|refine zeq1 ?_|refine zea ?_|refine zei ?_ ?_|refine zex ?_|(apply Qco;iterate 3 exact rfl)|exact rfl|exact trivial)
   refine Stop.mk ?_
   rw [Qkm (by omega)]
   rfl
  ·refine zr [] ?_ ?_
   repeat' (first|apply And.intro|exact zeb|refine zec ?_|exact zen|refine zeo ?_|exact zes|refine zet ?_|exact zel|refine zem ?_|exact zep|refine zeq1 ?_|refine zea ?_|refine zei ?_ ?_|refine zex ?_|(apply Qco;iterate 3 exact rfl)|exact rfl|exact trivial)
   refine Stop.mk ?_
   rw [Qne (n:=n) (by omega)]
   rfl
end Go.Proofs.YtelbahebpmkfjaaGreat
namespace Go.Proofs.YtelbahebpmkfjaaGreat
open Go Go.RowKit
attribute [local irreducible] AWp Qat OpOk ACalls ChA QsOk MCalls EnC PY
end Go.Proofs.YtelbahebpmkfjaaGreat
namespace Go.Proofs.YtelbahebpmkfjaaGreat
open Go Go.RowKit
attribute [local irreducible] AWp Qat OpOk ACalls ChA QsOk MCalls EnC PY

def Qi9 (x:Int):List UInt8:=if 0≤x∧x≤1000000000 then numT x.toNat else []
theorem QfL (x:Int):(Qi9 x).length≤10:=by
 unfold Qi9
 split
 ·exact QkB 9 _ (by omega)
 ·simp
theorem Qnx {x:Int} (h:0≤x∧x≤1000000000):Qi9 x=numT x.toNat:=if_pos h
theorem Qlk {x:Int} (h:x<0∨1000000000<x):Qi9 x=[]:=if_neg (by omega)
theorem QqS {x:Int}:ACalls Tryz.prog 178 [.d (.n .i64 x)] [.d (.s (Qi9 x))] []:=by
 refine Qaa tt Tryz.func178 rfl rfl rfl (fun w0 Z=>?_)
 repeat' (first|refine zst ?_|(refine zhm fun hb=>?_;try exact zab)|refine zg2 ?_ ?_|refine zop ?_|refine kc (QcB) rfl rfl ?_|fail)
 ·refine zr [] ?_ ?_
  repeat' (first|apply And.intro|exact zeb|refine zec ?_|exact zen|refine zeo ?_|exact zes|refine zet ?_|exact zel|refine zem ?_|exact zep|refine zeq1 ?_|refine zea ?_|refine zei ?_ ?_|refine zex ?_|(apply Qco;iterate 3 exact rfl)|exact rfl|exact trivial)
  exact Stop.mk (Qlk hb).symm
 refine Qae (fun (i:Nat×List UInt8)=>⟨26,[(0,.d (.n .i64 (i.1:Int))),(3,.d (.s i.2))],[]⟩) (fun i=>Qi9 x=numT i.1++i.2∧i.1≤1000000000) (fun i=>i.1) (x.toNat,[]) ⟨by rw [Qnx hb];simp,by omega⟩ ?_ ?_
 ·refine ⟨rfl,?_,?_,rfl⟩
  repeat' (first|apply And.intro|exact zeb|refine zec ?_|exact zen|refine zeo ?_|exact zes|refine zet ?_|exact zel|refine zem ?_|exact zep|refine zeq1 ?_|refine zea ?_|refine zei ?_ ?_|refine zex ?_|(apply Qco;iterate 3 exact rfl)|exact rfl|exact trivial)
 ·intro i hi
  obtain ⟨hs,hn⟩:=hi
  have hl:=QfL x
  rw [hs,List.length_append] at hl
  repeat' (first|refine zst ?_|(refine zhm fun hb=>?_;try exact zab)|refine zg2 ?_ ?_|refine zop ?_|fail)
  ·refine ⟨(i.1 / 10,[UInt8.ofNat (48+i.1 % 10)]++i.2),⟨by rw [hs,Qne (by omega)];simp,by simp only;omega⟩,by simp only;omega,?_⟩
   refine ⟨rfl,?_,?_,rfl⟩
   repeat' (first|apply And.intro|exact zeb|refine zec ?_|exact zen|refine zeo ?_|exact zes|refine zet ?_|exact zel|refine zem ?_|exact zep|refine zeq1 ?_|refine zea ?_|refine zei ?_ ?_|refine zex ?_|(apply Qco;iterate 3 exact rfl)|exact rfl|exact trivial)
   refine Stop.mk ?_
   rfl
  ·refine zr [] ?_ ?_
   repeat' (first|apply And.intro|exact zeb|refine zec ?_|exact zen|refine zeo ?_|exact zes|refine zet ?_|exact zel|refine zem ?_|exact zep|refine zeq1 ?_|refine zea ?_|refine zei ?_ ?_|refine zex ?_|(apply Qco;iterate 3 exact rfl)|exact rfl|exact trivial)
   refine Stop.mk ?_
   rw [hs,Qkm (by omega)]
   rfl
theorem Qsc {x:Int}:ACalls Tryz.prog 175 [.d (.n .i64 x)] [.d (.s (Qi9 x))] []:=by
 by_cases h:0≤x∧x≤1000000000
 ·rw [Qnx h]
  have:=QrA x.toNat (by omega)
  rwa [show ((x.toNat:Nat):Int)=x by omega] at this
 ·rw [Qlk (by omega)]
  refine Qaa tt Tryz.func175 rfl rfl rfl (fun w0 Z=>?_)
  repeat' (first|refine zst ?_|(refine zhm fun hb=>?_;try exact zab)|refine zdr ?_|(apply zch;exact zcg)|refine HopS.mk fun w0 Z O=>?_|exact zhk|refine zg3 ?_ ?_|refine zop ?_|refine kc (Qce) rfl rfl ?_|refine kq (Qce) rfl rfl ?_|fail)
  refine zr [] ?_ ?_
  repeat' (first|apply And.intro|exact zeb|refine zec ?_|exact zen|refine zeo ?_|exact zes|refine zet ?_|exact zel|refine zem ?_|exact zep|refine zeq1 ?_|refine zea ?_|refine zei ?_ ?_|refine zex ?_|(apply Qco;iterate 3 exact rfl)|exact rfl|exact trivial)
end Go.Proofs.YtelbahebpmkfjaaGreat
