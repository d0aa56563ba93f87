/-
  Vectors, jobs: VecOk, JobOk, both.
-/
import Derived.Test.YtelbahebpmkfjaaGreatKB7
import Derived.Test.YtelbahebpmkfjaaGreatKTI
import Derived.Test.YtelbahebpmkfjaaGreatKB4
set_option maxRecDepth 100000
set_option maxHeartbeats 16000000
namespace Go.Proofs.YtelbahebpmkfjaaGreat
open Go Go.RowKit
attribute [local irreducible] AWp Qat OpOk ACalls ChA QsOk MCalls EnC PY

def inB (x lo hi:Int):Bool:=decide (lo≤x)&&decide (x≤hi)
theorem QcM {x lo hi:Int}:(inB x lo hi=true)=(lo≤x∧x≤hi):=by simp [inB]
theorem QpC {x lo hi:Int}:(inB x lo hi=false)=(x<lo∨hi<x):=by
 simp only [inB,Bool.and_eq_false_iff,decide_eq_false_iff_not,Int.not_le]
theorem Qxk {x lo hi:Int}:((!inB x lo hi)=true)=(x<lo∨hi<x):=by rw [Bool.not_eq_true',QpC]
theorem Qxl {x lo hi:Int}:((!inB x lo hi)=false)=(lo≤x∧x≤hi):=by rw [Bool.not_eq_false',QcM]
instance (x lo hi:Int):HbT (inB x lo hi=true) (lo≤x∧x≤hi):=⟨fun h=>QcM▸h⟩
instance (x lo hi:Int):HbT (inB x lo hi=false) (x<lo∨hi<x):=⟨fun h=>QpC▸h⟩
instance (x lo hi:Int):HbT ((!inB x lo hi)=true) (x<lo∨hi<x):=⟨fun h=>Qxk▸h⟩
instance (x lo hi:Int):HbT ((!inB x lo hi)=false) (lo≤x∧x≤hi):=⟨fun h=>Qxl▸h⟩
structure V3 where
 a:Int
 b:Int
 c:Int
structure Job where
 id:Int
 prio:Int
 nodes:Int
 need:V3
 lic:V3
 wall:Int
 level:Int
@[reducible] def vecA (v:V3):AV:=.agg [.d (.n .i64 v.a),.d (.n .i64 v.b),.d (.n .i64 v.c)]
@[reducible] def jobA (j:Job):AV:=.agg [.d (.n .i64 j.id),.d (.n .i64 j.prio),.d (.n .i64 j.nodes),.d (.n .i64 j.need.a),.d (.n .i64 j.need.b),.d (.n .i64 j.need.c),.d (.n .i64 j.lic.a),.d (.n .i64 j.lic.b),.d (.n .i64 j.lic.c),.d (.n .i64 j.wall),.d (.n .i64 j.level)]
def Qal (v:V3):Bool:=inB v.a 0 1000000&&inB v.b 0 1000000&&inB v.c 0 1000000
def Qau (j:Job):Bool:=inB j.id 1 999&&inB j.prio 0 999&&inB j.nodes 1 24&&Qal j.need&&Qal j.lic&&inB j.wall 1 1000000&&inB j.level 0 24
theorem QaX {x lo hi:Int}:ACalls Tryz.prog 105 [.d (.n .i64 x),.d (.n .i64 lo),.d (.n .i64 hi)] [.d (.b (inB x lo hi))] []:=by
 refine Qaa tt Tryz.func105 rfl rfl rfl (fun w0 Z=>?_)
 repeat' (first|refine zst ?_|(refine zhm fun hb=>?_;try exact zab)|refine zg2 ?_ ?_|refine zop ?_|fail)
 all_goals
  refine zr [] ?_ ?_
  repeat'(first|apply And.intro|exact ze0|refine ze1 ?_|refine zei ?_ ?_|exact rfl|trivial)
  refine Stop.mk ?_
  simp [inB, *]
theorem QcB {x:Int}:ACalls Tryz.prog 203 [.d (.n .i64 x)] [.d (.b (inB x 0 1000000000))] []:=by
 refine Qaa tt Tryz.func203 rfl rfl rfl (fun w0 Z=>?_)
 repeat' (first|refine zst ?_|(refine zhm fun hb=>?_;try exact zab)|refine zg2 ?_ ?_|refine zop ?_|refine kc (QaX) rfl rfl ?_|fail)
 all_goals
  refine zr [] ?_ ?_
  repeat'(first|apply And.intro|exact ze0|refine ze1 ?_|refine zei ?_ ?_|exact rfl|trivial)
theorem Qct {v:V3}:ACalls Tryz.prog 202 [vecA v] [.d (.b (Qal v))] []:=by
 refine Qaa tt Tryz.func202 rfl rfl rfl (fun w0 Z=>?_)
 repeat' (first|refine zst ?_|(refine zhm fun hb=>?_;try exact zab)|refine zg2 ?_ ?_|refine zop ?_|refine kc (QaX) rfl rfl ?_|fail)
 all_goals
  refine zr [] ?_ ?_
  repeat'(first|apply And.intro|exact ze0|refine ze1 ?_|refine zei ?_ ?_|exact rfl|trivial)
  refine Stop.mk ?_
  first
   | done
   | (rw [Bool.eq_iff_iff];simp [Qal,inB] at *;omega)
   | (rw [Bool.eq_iff_iff];simp [Qal,inB] at *;done)
   | (rw [Bool.eq_iff_iff];simp [Qal,inB] at *;simp [*];done)
   | (rw [Bool.eq_iff_iff];simp [Qal,inB] at *;simp [*];omega)
   | (rw [Bool.eq_iff_iff];simp [Qal,inB] at *;simp [*];intros;omega)
theorem QeC {j:Job}:ACalls Tryz.prog 201 [jobA j] [.d (.b (Qau j))] []:=by
 refine Qaa tt Tryz.func201 rfl rfl rfl (fun w0 Z=>?_)
 repeat' (first|refine zst ?_|(refine zhm fun hb=>?_;try exact zab)|refine zg2 ?_ ?_|refine zop ?_|refine kc (QaX) rfl rfl ?_|refine kc (Qct (v:=j.need)) rfl rfl ?_|refine kc (Qct (v:=j.lic)) rfl rfl ?_|fail)
 all_goals
  refine zr [] ?_ ?_
  repeat'(first|apply And.intro|exact ze0|refine ze1 ?_|refine zei ?_ ?_|exact rfl|trivial)
  refine Stop.mk ?_
  first
   | done
   | (rw [Bool.eq_iff_iff];simp [Qau,Qal,inB] at *;omega)
   | (rw [Bool.eq_iff_iff];simp [Qau,Qal,inB] at *;done)
   | (rw [Bool.eq_iff_iff];simp [Qau,Qal,inB] at *;simp [*];done)
   | (rw [Bool.eq_iff_iff];simp [Qau,Qal,inB] at *;simp [*];omega)
   | (rw [Bool.eq_iff_iff];simp [Qau,Qal,inB] at *;simp [*];intros;omega)
theorem Qx2 {x:Int}:ACalls Tryz.prog 262 [.d (.n .i64 x)] [.d (.b (inB x 0 1000000))] []:=by
 refine Qaa tt Tryz.func262 rfl rfl rfl (fun w0 Z=>?_)
 repeat' (first|refine zst ?_|(refine zhm fun hb=>?_;try exact zab)|refine zg2 ?_ ?_|refine zop ?_|fail)
 all_goals
  refine zr [] ?_ ?_
  repeat'(first|apply And.intro|exact ze0|refine ze1 ?_|refine zei ?_ ?_|exact rfl|trivial)
  refine Stop.mk ?_
  first
   | done
   | (rw [Bool.eq_iff_iff];simp [inB] at *;omega)
   | (rw [Bool.eq_iff_iff];simp [inB] at *;done)
   | (rw [Bool.eq_iff_iff];simp [inB] at *;simp [*];done)
   | (rw [Bool.eq_iff_iff];simp [inB] at *;simp [*];omega)
   | (rw [Bool.eq_iff_iff];simp [inB] at *;simp [*];intros;omega)
theorem Qce {x:Int}:ACalls Tryz.prog 101 [.d (.n .i64 x)] [.d (.b (inB x 0 1000000000))] []:=by
 refine Qaa tt Tryz.func101 rfl rfl rfl (fun w0 Z=>?_)
 repeat' (first|refine zst ?_|(refine zhm fun hb=>?_;try exact zab)|refine zg2 ?_ ?_|refine zop ?_|fail)
 all_goals
  refine zr [] ?_ ?_
  repeat'(first|apply And.intro|exact ze0|refine ze1 ?_|refine zei ?_ ?_|exact rfl|trivial)
  refine Stop.mk ?_
  first
   | done
   | (rw [Bool.eq_iff_iff];simp [inB] at *;omega)
   | (rw [Bool.eq_iff_iff];simp [inB] at *;done)
   | (rw [Bool.eq_iff_iff];simp [inB] at *;simp [*];done)
   | (rw [Bool.eq_iff_iff];simp [inB] at *;simp [*];omega)
   | (rw [Bool.eq_iff_iff];simp [inB] at *;simp [*];intros;omega)
theorem Qb8 {v:V3}:ACalls Tryz.prog 196 [vecA v] [.d (.b (Qal v))] []:=by
 refine Qaa tt Tryz.func196 rfl rfl rfl (fun w0 Z=>?_)
 repeat' (first|refine zst ?_|(refine zhm fun hb=>?_;try exact zab)|refine zg2 ?_ ?_|refine zop ?_|refine kc (Qx2) rfl rfl ?_|fail)
 all_goals
  refine zr [] ?_ ?_
  repeat'(first|apply And.intro|exact ze0|refine ze1 ?_|refine zei ?_ ?_|exact rfl|trivial)
  refine Stop.mk ?_
  first
   | done
   | (rw [Bool.eq_iff_iff];simp [Qal,inB] at *;omega)
   | (rw [Bool.eq_iff_iff];simp [Qal,inB] at *;done)
   | (rw [Bool.eq_iff_iff];simp [Qal,inB] at *;simp [*];done)
   | (rw [Bool.eq_iff_iff];simp [Qal,inB] at *;simp [*];omega)
   | (rw [Bool.eq_iff_iff];simp [Qal,inB] at *;simp [*];intros;omega)
theorem QiD {j:Job}:ACalls Tryz.prog 195 [jobA j] [.d (.b (Qau j))] []:=by
 refine Qaa tt Tryz.func195 rfl rfl rfl (fun w0 Z=>?_)
 repeat' (first|refine zst ?_|(refine zhm fun hb=>?_;try exact zab)|refine zg2 ?_ ?_|refine zop ?_|refine kc (Qb8 (v:=j.need)) rfl rfl ?_|refine kc (Qb8 (v:=j.lic)) rfl rfl ?_|fail)
 all_goals
  refine zr [] ?_ ?_
  repeat'(first|apply And.intro|exact ze0|refine ze1 ?_|refine zei ?_ ?_|exact rfl|trivial)
  refine Stop.mk ?_
  first
   | done
   | (rw [Bool.eq_iff_iff];simp [Qau,Qal,inB] at *;omega)
   | (rw [Bool.eq_iff_iff];simp [Qau,Qal,inB] at *;done)
   | (rw [Bool.eq_iff_iff];simp [Qau,Qal,inB] at *;simp [*];done)
   | (rw [Bool.eq_iff_iff];simp [Qau,Qal,inB] at *;simp [*];omega)
   | (rw [Bool.eq_iff_iff];simp [Qau,Qal,inB] at *;simp [*];intros;omega)
end Go.Proofs.YtelbahebpmkfjaaGreat
namespace Go.Proofs.YtelbahebpmkfjaaGreat
open Go Go.RowKit
attribute [local irreducible] AWp Qat OpOk ACalls ChA QsOk MCalls EnC PY

structure Node where
 leaf:Int
 cap:V3
instance:Inhabited Node:=⟨⟨0,⟨0,0,0⟩⟩⟩
structure Topo where
 parents:List Int
 nodes:List Node
def QaD (l:List Node):List (List D):=l.map fun n=>[.n .i64 n.leaf,.n .i64 n.cap.a,.n .i64 n.cap.b,.n .i64 n.cap.c]
@[reducible] def Qcw (t:Topo):AV:=.agg [.d (.sl (intE t.parents)),.d (.sl (QaD t.nodes))]
theorem Qar (l:List Node):(QaD l).length=l.length:=by simp [QaD]
def hasI (l:List Int) (x:Int):Bool:=l.any fun y=>y==x
def idxI (l:List Int) (x:Int):Int:=if hasI l x=true then ((l.findIdx fun y=>y==x:Nat):Int) else -1
theorem Qka {l:List Int} {x:Int}:hasI l x=true↔∃j,j<l.length∧nth l j=x:=by
 unfold hasI
 rw [List.any_eq_true]
 constructor
 ·rintro ⟨y,hy,h⟩
  obtain ⟨j,hj,e⟩:=List.mem_iff_getElem.1 hy
  exact ⟨j,hj,by simp only [nth,List.getD,List.getElem?_eq_getElem hj,Option.getD_some,e];exact beq_iff_eq.1 h⟩
 ·rintro ⟨j,hj,h⟩
  refine ⟨l[j],List.getElem_mem hj,?_⟩
  simp only [nth,List.getD,List.getElem?_eq_getElem hj,Option.getD_some] at h
  rw [h]
  exact beq_self_eq_true x
theorem QqU {l:List Int} {x:Int} (h:∀j,j<l.length→nth l j≠x):hasI l x=false:=by
 cases e:hasI l x with
 | false=>rfl
 | true=>
  obtain ⟨j,h1,h2⟩:=Qka.1 e
  exact absurd h2 (h j h1)
theorem Qut {l:List Int} {x:Int} {i:Nat} (hi:i<l.length) (h:nth l i=x) (hp:∀j,j<i→nth l j≠x):idxI l x=i:=by
 unfold idxI
 rw [if_pos (Qka.2 ⟨i,hi,h⟩)]
 have e:∀{j:Nat} (hj:j<l.length),nth l j=l[j]:=fun hj=>by simp [nth,List.getD,hj]
 congr 1
 rw [List.findIdx_eq hi]
 refine ⟨by rw [←e hi,h];exact beq_self_eq_true x,fun j hj=>?_⟩
 have:=hp j hj
 rw [e (by omega)] at this
 rw [beq_eq_false_iff_ne]
 exact this
theorem Qvf {l:List Int} {x:Int} (h:∀j,j<l.length→nth l j≠x):idxI l x = -1:=by
 unfold idxI
 rw [if_neg (by rw [QqU h];decide)]
theorem QtP (l:List Int) (x:Int):decide (0≤idxI l x)=hasI l x:=by
 unfold idxI
 cases h:hasI l x with
 | true=>rw [if_pos rfl];simp
 | false=>rw [if_neg (by decide)];decide
theorem Qvc {l:List Int} {x:Int} (h:l.length≤1000000000):ACalls Tryz.prog 271 [.d (.sl (intE l)),.d (.n .i64 x)] [.d (.n .i64 (idxI l x))] []:=by
 refine Qaa tt Tryz.func271 rfl rfl rfl (fun w0 Z=>?_)
 repeat' (first|refine zst ?_|(refine zhm fun hb=>?_;try exact zab)|refine zg2 ?_ ?_|refine zln fun _=>?_|refine zop ?_|fail)
 refine Qae (fun (i:Nat)=>⟨19,[(0,.d (.sl (intE l))),(1,.d (.n .i64 x)),(7,.d (.n .i64 (l.length:Nat))),(8,.d (.n .i64 i))],[]⟩) (fun i=>i≤l.length∧∀j,j<i→nth l j≠x) (fun i=>l.length - i) 0 (by exact ⟨Nat.zero_le _,fun j hj=>absurd hj (Nat.not_lt_zero _)⟩) ?_ ?_
 ·exact ⟨rfl,zae,zae,rfl⟩
 ·rintro i ⟨hi,hp⟩
  repeat' (first|refine zst ?_|(refine zhm fun hb=>?_;try exact zab)|refine zg2 ?_ ?_|refine zln fun _=>?_|refine zop ?_|fail)
  ·rw [Qut (by omega) hb.symm hp]
   exact zr [] zae zae
  ·refine ⟨i+1,⟨by omega,fun j hj=>?_⟩,by omega,?_⟩
   ·by_cases e:j=i
    ·subst e;exact fun e=>hb e.symm
    ·exact hp j (by omega)
   exact ⟨rfl,zae,zae,rfl⟩
  ·rw [Qvf (fun j hj=>hp j (by omega))]
   exact zr [] zae zae
theorem Qdk {l:List Int} {x:Int} (h:l.length≤1000000000):ACalls Tryz.prog 210 [.d (.sl (intE l)),.d (.n .i64 x)] [.d (.b (hasI l x))] []:=by
 refine Qaa tt Tryz.func210 rfl rfl rfl (fun w0 Z=>?_)
 repeat' (first|refine zst ?_|(refine zhm fun hb=>?_;try exact zab)|refine zg2 ?_ ?_|refine zop ?_|refine kc (Qvc h) rfl rfl ?_|fail)
 refine zr [] ?_ ?_
 repeat'(first|apply And.intro|exact ze0|refine ze1 ?_|refine zei ?_ ?_|exact rfl|trivial)
 all_goals exact Stop.mk (QtP l x)
theorem Qc4 {l:List Int} {x:Int} (h:l.length≤1000000000):ACalls Tryz.prog 200 [.d (.sl (intE l)),.d (.n .i64 x)] [.d (.b (hasI l x))] []:=by
 refine Qaa tt Tryz.func200 rfl rfl rfl (fun w0 Z=>?_)
 repeat' (first|refine zst ?_|(refine zhm fun hb=>?_;try exact zab)|refine zg2 ?_ ?_|refine zln fun _=>?_|refine zop ?_|fail)
 refine Qae (fun (i:Nat)=>⟨17,[(1,.d (.n .i64 x)),(7,.d (.sl (intE l))),(8,.d (.n .i64 (l.length:Nat))),(9,.d (.n .i64 i))],[]⟩) (fun i=>i≤l.length∧∀j,j<i→nth l j≠x) (fun i=>l.length - i) 0 (by exact ⟨Nat.zero_le _,fun j hj=>absurd hj (Nat.not_lt_zero _)⟩) ?_ ?_
 ·exact ⟨rfl,zae,zae,rfl⟩
 ·rintro i ⟨hi,hp⟩
  repeat' (first|refine zst ?_|(refine zhm fun hb=>?_;try exact zab)|refine zg2 ?_ ?_|refine zln fun _=>?_|refine zop ?_|fail)
  ·rw [Qka.2 ⟨i,by omega,hb⟩]
   exact zr [] zae zae
  ·refine ⟨i+1,⟨by omega,fun j hj=>?_⟩,by omega,?_⟩
   ·by_cases e:j=i
    ·subst e;exact hb
    ·exact hp j (by omega)
   exact ⟨rfl,zae,zae,rfl⟩
  ·rw [QqU (fun j hj=>hp j (by omega))]
   exact zr [] zae zae
def QbF (ps:List Int):Prop:=∀j,1≤j→j<ps.length→0≤nth ps j∧nth ps j<j
def QcQ (ps:List Int) (s:Int):Bool:=decide (∀j,j<ps.length→1≤j→nth ps j≠s)
theorem Qec {ps:List Int} {s:Int}:QcQ ps s=true↔∀j,j<ps.length→1≤j→nth ps j≠s:=by
 unfold QcQ
 rw [decide_eq_true_eq]
theorem Quq {ps:List Int} {s:Int} {j:Nat} (h1:j<ps.length) (h2:1≤j) (h:nth ps j=s):QcQ ps s=false:=by
 cases e:QcQ ps s with
 | false=>rfl
 | true=>exact absurd h (Qec.1 e j h1 h2)
theorem QjT {ps:List Int} {s:Int} (h:ps.length≤1000000000):ACalls Tryz.prog 298 [.d (.sl (intE ps)),.d (.n .i64 s)] [.d (.b (QcQ ps s))] []:=by
 refine Qaa tt Tryz.func298 rfl rfl rfl (fun w0 Z=>?_)
 repeat' (first|refine zst ?_|(refine zhm fun hb=>?_;try exact zab)|refine zg2 ?_ ?_|refine zln fun _=>?_|refine zop ?_|fail)
 refine Qae (fun (i:Nat)=>⟨18,[(0,.d (.sl (intE ps))),(1,.d (.n .i64 s)),(5,.d (.n .i64 i))],[]⟩) (fun i=>1≤i∧∀j,j<i→1≤j→j<ps.length→nth ps j≠s) (fun i=>ps.length - i) 1 (by exact ⟨Nat.le_refl _,fun j h1 h2=>by omega⟩) ?_ ?_
 ·exact ⟨rfl,zae,zae,rfl⟩
 ·rintro i ⟨hi,hp⟩
  repeat' (first|refine zst ?_|(refine zhm fun hb=>?_;try exact zab)|refine zg2 ?_ ?_|refine zln fun _=>?_|refine zop ?_|fail)
  ·rw [Quq (by omega) hi hb]
   exact zr [] zae zae
  ·refine ⟨i+1,⟨by omega,fun j hj h1 h2=>?_⟩,by omega,?_⟩
   ·by_cases e:j=i
    ·subst e;exact hb
    ·exact hp j (by omega) h1 h2
   exact ⟨rfl,zae,zae,rfl⟩
  ·rw [Qec.2 (fun j h1 h2=>hp j (by omega) h2 h1)]
   exact zr [] zae zae
def dptF (ps:List Int):Nat→Nat→Nat
 | 0,_=>0
 | f+1,s=>if s=0 then 0 else dptF ps f (nth ps s).toNat+1
def dpt (ps:List Int) (s:Nat):Nat:=dptF ps s s
theorem Qv6 {ps:List Int} (hv:QbF ps):∀(s f:Nat),s≤f→s<ps.length→dptF ps f s=dpt ps s:=by
 intro s
 induction s using Nat.strongRecOn with
 | _ s ih=>
  intro f hf hs
  cases s with
  | zero=>
   cases f with
   | zero=>rfl
   | succ f=>rfl
  | succ s=>
   cases f with
   | zero=>omega
   | succ f=>
    have hp:=hv (s+1) (by omega) hs
    unfold dpt
    rw [dptF,dptF,if_neg (by omega),if_neg (by omega),ih _ (by omega) f (by omega) (by omega),ih _ (by omega) s (by omega) (by omega)]
theorem Qw6 (ps:List Int):dpt ps 0=0:=rfl
theorem QtW {ps:List Int} (hv:QbF ps) {s:Nat} (h0:0<s) (hs:s<ps.length):dpt ps s=dpt ps (nth ps s).toNat+1:=by
 have hp:=hv s (by omega) hs
 obtain ⟨k,rfl⟩:∃k,s=k+1:=⟨s - 1,by omega⟩
 conv=>lhs;unfold dpt
 rw [dptF,if_neg (by omega),Qv6 hv _ _ (by omega) (by omega)]
theorem QnL {ps:List Int} (hv:QbF ps):∀(s:Nat),s<ps.length→dpt ps s≤s:=by
 intro s
 induction s using Nat.strongRecOn with
 | _ s ih=>
  intro hs
  by_cases h0:s=0
  ·subst h0;exact Nat.le_refl _
  ·have hp:=hv s (by omega) hs
   rw [QtW hv (by omega) hs]
   have:=ih (nth ps s).toNat (by omega) (by omega)
   omega
theorem Qkn {ps:List Int} (h:ps.length≤1000000000) (hv:QbF ps) {s:Nat} (hs:s<ps.length):ACalls Tryz.prog 257 [.d (.sl (intE ps)),.d (.n .i64 s)] [.d (.n .i64 (dpt ps s:Nat))] []:=by
 refine Qaa tt Tryz.func257 rfl rfl rfl (fun w0 Z=>?_)
 have hd:=QnL hv s hs
 repeat' (first|refine zst ?_|(refine zhm fun hb=>?_;try exact zab)|refine zg2 ?_ ?_|refine zop ?_|fail)
 refine Qae (fun (x:Nat×Nat)=>⟨15,[(0,.d (.sl (intE ps))),(1,.d (.n .i64 x.1)),(5,.d (.n .i64 x.2))],[]⟩) (fun x=>x.1<ps.length∧dpt ps s=dpt ps x.1+x.2) (fun x=>x.1) (s,0) (by exact ⟨hs,rfl⟩) ?_ ?_
 ·exact ⟨rfl,zae,zae,rfl⟩
 ·rintro x ⟨hx,hn⟩
  repeat' (first|refine zst ?_|(refine zhm fun hb=>?_;try exact zab)|refine zg2 ?_ ?_|refine zop ?_|fail)
  ·have hp:=hv x.1 (by omega) hx
   refine ⟨((nth ps x.1).toNat,x.2+1),⟨by dsimp only;omega,by dsimp only;rw [QtW hv (by omega) hx] at hn;omega⟩,by dsimp only;omega,?_⟩
   refine ⟨rfl,?_,?_,rfl⟩
   repeat'(first|apply And.intro|exact ze0|refine ze1 ?_|refine zei ?_ ?_|exact rfl|trivial)
   all_goals exact Stop.mk (by first|rfl|omega)
  ·have h0:x.1=0:=by omega
   rw [h0,Qw6] at hn
   rw [show dpt ps s=x.2 by omega]
   exact zr [] zae zae
end Go.Proofs.YtelbahebpmkfjaaGreat
namespace Go.Proofs.YtelbahebpmkfjaaGreat
open Go Go.RowKit

def Qee (ps:List Int) (s:Nat):List Nat:=(List.range ps.length).filter fun i=>decide (1≤i)&&decide (nth ps i=(s:Int))
theorem Qdg {ps:List Int} {s k:Nat}:k∈Qee ps s↔k<ps.length∧1≤k∧nth ps k=(s:Int):=by
 simp [Qee]
theorem QgN {ps:List Int} (hv:QbF ps) {s k:Nat} (h:k∈Qee ps s):s<k:=by
 obtain ⟨h1,h2,h3⟩:=Qdg.1 h
 have:=hv k h2 h1
 omega
theorem QkF {ps:List Int} {s:Nat}:Qee ps s=[]↔QcQ ps (s:Int)=true:=by
 rw [Qec,List.eq_nil_iff_forall_not_mem]
 constructor
 ·intro h j h1 h2 h3
  exact h j (Qdg.2 ⟨h1,h2,h3⟩)
 ·intro h k hk
  obtain ⟨h1,h2,h3⟩:=Qdg.1 hk
  exact h k h1 h2 h3
def lvGo (f:Nat→Int):List Nat→Option Int→Int
 | [],a=>a.getD (-1)+1
 | k::ks,a=>if f k<0∨(a.isSome=true∧f k≠a.getD (-1)) then -1 else lvGo f ks (some (f k))
theorem QgS {f g:Nat→Int}:∀{ks:List Nat} {a:Option Int},(∀k∈ks,f k=g k)→lvGo f ks a=lvGo g ks a
 | [],_,_=>rfl
 | k::ks,a,h=>by
  simp only [lvGo,h k List.mem_cons_self]
  rw [QgS fun x hx=>h x (List.mem_cons_of_mem _ hx)]
theorem QhU {f:Nat→Int} {m:Int} (hm:0≤m):∀{ks:List Nat},(∀k∈ks,f k=m)→lvGo f ks (some m)=m+1
 | [],_=>rfl
 | k::ks,h=>by
  have hk:=h k List.mem_cons_self
  simp only [lvGo,hk]
  rw [if_neg (by simp;omega)]
  exact QhU hm fun x hx=>h x (List.mem_cons_of_mem _ hx)
theorem Qji {f:Nat→Int} {m:Int} (hm:0≤m):∀{ks:List Nat},0≤lvGo f ks (some m)→∀k∈ks,f k=m
 | [],_,k,hk=>by cases hk
 | x::ks,h,k,hk=>by
  simp only [lvGo] at h
  by_cases hx:f x=m
  ·rw [if_neg (by simp;omega),hx] at h
   rcases List.mem_cons.1 hk with rfl|hk
   ·exact hx
   ·exact Qji hm h k hk
  ·rw [if_pos (by simp;omega)] at h
   omega
theorem QrD {f:Nat→Int} {n:Int} (hn:0≤n) {ks:List Nat} (h0:ks≠[]) (h:∀k∈ks,f k=n):lvGo f ks none=n+1:=by
 cases ks with
 | nil=>exact absurd rfl h0
 | cons k ks=>
  have hk:=h k List.mem_cons_self
  simp only [lvGo,hk]
  rw [if_neg (by simp;omega)]
  exact QhU hn fun x hx=>h x (List.mem_cons_of_mem _ hx)
theorem Qjq {f:Nat→Int} {ks:List Nat} (h:0≤lvGo f ks none) (k:Nat) (hk:k∈ks):0≤f k∧f k+1=lvGo f ks none:=by
 cases ks with
 | nil=>cases hk
 | cons x ks=>
  simp only [lvGo] at h ⊢
  by_cases hx:f x<0
  ·rw [if_pos (by simp;omega)] at h
   omega
  ·rw [if_neg (by simp;omega)] at h ⊢
   have h2:=Qji (by omega) h
   have h3:=QhU (f:=f) (m:=f x) (by omega) h2
   rw [h3]
   rcases List.mem_cons.1 hk with rfl|hk
   ·omega
   ·rw [h2 k hk];omega
def lvF (ps:List Int):Nat→Nat→Int
 | 0,_=>-1
 | f+1,s=>lvGo (lvF ps f) (Qee ps s) none
def lv (ps:List Int) (s:Nat):Int:=lvF ps (ps.length - s) s
theorem Qw4 {ps:List Int} (hv:QbF ps):∀(n s f:Nat),ps.length - s≤n→s<ps.length→ps.length - s≤f→lvF ps f s=lv ps s:=by
 intro n
 induction n with
 | zero=>intro s f h1 h2;omega
 | succ n ih=>
  intro s f h1 h2 h3
  obtain ⟨f',rfl⟩:∃f',f=f'+1:=⟨f - 1,by omega⟩
  unfold lv
  obtain ⟨g,hg⟩:∃g,ps.length - s=g+1:=⟨ps.length - s - 1,by omega⟩
  rw [hg]
  simp only [lvF]
  refine QgS fun k hk=>?_
  have h4:=QgN hv hk
  have h5:=(Qdg.1 hk).1
  rw [ih k f' (by omega) h5 (by omega),ih k g (by omega) h5 (by omega)]
theorem Qj6 {ps:List Int} (hv:QbF ps) {s:Nat} (hs:s<ps.length):lv ps s=lvGo (lv ps) (Qee ps s) none:=by
 conv=>lhs;unfold lv
 obtain ⟨g,hg⟩:∃g,ps.length - s=g+1:=⟨ps.length - s - 1,by omega⟩
 rw [hg]
 simp only [lvF]
 refine QgS fun k hk=>?_
 have h4:=QgN hv hk
 have h5:=(Qdg.1 hk).1
 exact Qw4 hv (ps.length - k) k g (Nat.le_refl _) h5 (by omega)
def Qp6 (ps:List Int):Prop:=∀s s',s<ps.length→s'<ps.length→QcQ ps (s:Int)=true→QcQ ps (s':Int)=true→dpt ps s=dpt ps s'
theorem QrI {ps:List Int} (hv:QbF ps) (h0:0<ps.length):QcQ ps ((ps.length - 1:Nat):Int)=true:=by
 rw [Qec]
 intro j h1 h2 h3
 have:=hv j h2 h1
 omega
theorem Qqr {ps:List Int} (hv:QbF ps) (h:0≤lv ps 0):∀(s:Nat),s<ps.length→0≤lv ps s∧lv ps s+dpt ps s=lv ps 0:=by
 intro s
 induction s using Nat.strongRecOn with
 | _ s ih=>
  intro hs
  by_cases h0:s=0
  ·subst h0
   exact ⟨h,by rw [Qw6];simp⟩
  ·have hp:=hv s (by omega) hs
   obtain ⟨h1,h2⟩:=ih (nth ps s).toNat (by omega) (by omega)
   rw [Qj6 hv (by omega)] at h1 h2
   have h3:=Qjq h1 s (Qdg.2 ⟨hs,by omega,by omega⟩)
   have h4:=QtW hv (by omega) hs
   omega
theorem Qxs {ps:List Int} (hv:QbF ps) (he:Qp6 ps) (h0:0<ps.length):∀(n s:Nat),ps.length - s≤n→s<ps.length→0≤lv ps s∧lv ps s+dpt ps s=dpt ps (ps.length - 1):=by
 intro n
 induction n with
 | zero=>intro s h1 h2;omega
 | succ n ih=>
  intro s h1 hs
  by_cases hk:Qee ps s=[]
  ·rw [Qj6 hv hs,hk]
   have:=he s (ps.length - 1) hs (by omega) (QkF.1 hk) (QrI hv h0)
   simp [lvGo,this]
  ·have h2:∀k∈Qee ps s,0≤lv ps k∧lv ps k=(dpt ps (ps.length - 1):Int) - (dpt ps s+1):=fun k hk=>by
    obtain ⟨h3,h4,h5⟩:=Qdg.1 hk
    have h6:=QgN hv hk
    obtain ⟨h7,h8⟩:=ih k (by omega) h3
    have h9:=QtW hv (by omega) h3
    rw [h5] at h9
    simp only [Int.toNat_natCast] at h9
    omega
   obtain ⟨k,hk'⟩:=List.exists_mem_of_ne_nil _ hk
   have h3:=h2 k hk'
   rw [Qj6 hv hs,QrD (n:=(dpt ps (ps.length - 1):Int) - (dpt ps s+1)) (by omega) hk (fun x hx=>(h2 x hx).2)]
   omega
theorem Qv3 {ps:List Int} (hv:QbF ps) (h0:0<ps.length):0≤lv ps 0↔Qp6 ps:=by
 constructor
 ·intro h s s' hs hs' hl hl'
  have h1:=(Qqr hv h s hs).2
  have h2:=(Qqr hv h s' hs').2
  rw [Qj6 hv hs,QkF.2 hl] at h1
  rw [Qj6 hv hs',QkF.2 hl'] at h2
  simp only [lvGo,Option.getD_none] at h1 h2
  omega
 ·intro h
  exact (Qxs hv h h0 ps.length 0 (by omega) h0).1
def lvl (ps:List Int) (s:Nat):Int:=(dpt ps (ps.length - 1):Int) - (dpt ps s:Int)
theorem QoM {ps:List Int} (hv:QbF ps) (he:Qp6 ps) {s:Nat} (hs:s<ps.length):lv ps s=lvl ps s:=by
 have:=(Qxs hv he (by omega) ps.length s (by omega) hs).2
 unfold lvl
 omega
def Qm0 (ps:List Int) (n:Node):Prop:=(0≤n.leaf∧n.leaf<ps.length)∧QcQ ps n.leaf=true∧Qal n.cap=true
structure TopoOk (t:Topo):Prop where
 len:1≤t.parents.length∧t.parents.length≤24
 zero:nth t.parents 0=0
 nlen:t.nodes.length≤24
 valid:QbF t.parents
 even:Qp6 t.parents
 nodes:∀j,j<t.nodes.length→Qm0 t.parents (nth t.nodes j)
open Classical in
noncomputable def Qbl (t:Topo):Bool:=decide (TopoOk t)
open Classical in
theorem Qbz {t:Topo}:Qbl t=true↔TopoOk t:=by unfold Qbl;exact decide_eq_true_iff
open Classical in
theorem Qdy {t:Topo}:Qbl t=false↔¬TopoOk t:=by unfold Qbl;exact decide_eq_false_iff_not
end Go.Proofs.YtelbahebpmkfjaaGreat
namespace Go.Proofs.YtelbahebpmkfjaaGreat
open Go Go.RowKit

def risI (l:List Int):Prop:=l.Pairwise (·<·)
theorem QgT:∀{l l':List Int},risI l→risI l'→(∀x,x∈l↔x∈l')→l=l'
 | [],[],_,_,_=>rfl
 | [],x::l',_,_,h=>absurd ((h x).2 List.mem_cons_self) (by simp)
 | x::l,[],_,_,h=>absurd ((h x).1 List.mem_cons_self) (by simp)
 | x::l,y::l',h1,h2,h=>by
  unfold risI at h1 h2
  rw [List.pairwise_cons] at h1 h2
  have hxy:x=y:=by
   rcases List.mem_cons.1 ((h x).1 List.mem_cons_self) with e|e
   ·exact e
   ·rcases List.mem_cons.1 ((h y).2 List.mem_cons_self) with e'|e'
    ·exact e'.symm
    ·have:=h2.1 x e
     have:=h1.1 y e'
     omega
  subst hxy
  rw [QgT h1.2 h2.2 fun z=>?_]
  constructor
  ·intro hz
   rcases List.mem_cons.1 ((h z).1 (List.mem_cons_of_mem _ hz)) with e|e
   ·have:=h1.1 z hz;omega
   ·exact e
  ·intro hz
   rcases List.mem_cons.1 ((h z).2 (List.mem_cons_of_mem _ hz)) with e|e
   ·have:=h2.1 z hz;omega
   ·exact e
def insI (t:Int):Bool→List Int→List Int
 | d,[]=>if d=true then [] else [t]
 | d,x::l=>(if d=false∧t≤x then [t] else [])++((if x≠t then [x] else [])++insI t (d||decide (t≤x)) l)
theorem Qlv {t:Int}:∀{l:List Int},(∀x∈l,t<x)→insI t true l=l
 | [],_=>rfl
 | x::l,h=>by
  have:=h x List.mem_cons_self
  simp only [insI,Bool.true_or]
  rw [Qlv fun y hy=>h y (List.mem_cons_of_mem _ hy),if_neg (by simp),if_pos (by omega)]
  rfl
theorem QfN {t:Int}:∀{l:List Int},risI l→risI (insI t false l)∧∀x,x∈insI t false l↔x=t∨x∈l
 | [],_=>by simp [insI,risI]
 | y::l,h=>by
  unfold risI at h ⊢
  rw [List.pairwise_cons] at h
  simp only [insI,Bool.false_or]
  by_cases h1:t≤y
  ·rw [if_pos ⟨trivial,h1⟩,decide_eq_true h1,Qlv fun z hz=>by have:=h.1 z hz;omega]
   by_cases h2:y=t
   ·rw [if_neg (by simp [h2])]
    subst h2
    refine ⟨?_,fun x=>by simp⟩
    simp only [List.nil_append,List.singleton_append,List.pairwise_cons]
    exact h
   ·rw [if_pos h2]
    refine ⟨?_,fun x=>by simp⟩
    simp only [List.singleton_append,List.pairwise_cons]
    refine ⟨fun z hz=>?_,h⟩
    rcases List.mem_cons.1 hz with rfl|hz
    ·omega
    ·have:=h.1 z hz;omega
  ·rw [if_neg (by simp;omega),decide_eq_false h1,if_pos (by omega)]
   obtain ⟨h3,h4⟩:=QfN (t:=t) h.2
   refine ⟨?_,fun x=>by simp [h4];constructor <;> (rintro (h|h|h) <;> simp [h])⟩
   simp only [List.nil_append,List.singleton_append,List.pairwise_cons]
   refine ⟨fun z hz=>?_,h3⟩
   rcases (h4 z).1 hz with rfl|hz
   ·omega
   ·exact h.1 z hz
def QgZ:Int→List Int→List Int
 | _,[]=>[]
 | x,y::l=>if y=x then QgZ x l else y::QgZ y l
def cmpL:List Int→List Int
 | []=>[]
 | x::l=>x::QgZ x l
theorem QhS:∀{l:List Int} {x:Int},(x::l).Pairwise (·≤·)→(∀y∈QgZ x l,x<y)∧risI (QgZ x l)∧∀y,y∈QgZ x l∨y=x↔y∈x::l
 | [],x,_=>by simp [QgZ,risI]
 | z::l,x,h=>by
  rw [List.pairwise_cons] at h
  have h1:=h.1 z List.mem_cons_self
  simp only [QgZ]
  by_cases hz:z=x
  ·subst hz
   rw [if_pos rfl]
   obtain ⟨a1,a2,a3⟩:=QhS h.2
   refine ⟨a1,a2,fun y=>?_⟩
   rw [a3]
   simp
  ·rw [if_neg hz]
   obtain ⟨a1,a2,a3⟩:=QhS h.2
   refine ⟨fun y hy=>?_,?_,fun y=>?_⟩
   ·rcases List.mem_cons.1 hy with rfl|hy
    ·omega
    ·have:=a1 y hy;omega
   ·unfold risI
    rw [List.pairwise_cons]
    exact ⟨a1,a2⟩
   ·have:=a3 y
    simp only [List.mem_cons] at this ⊢
    constructor
    ·rintro ((e|e)|e)
     ·exact .inr (.inl e)
     ·exact .inr (this.1 (.inl e))
     ·exact .inl e
    ·rintro (e|e)
     ·exact .inr e
     ·rcases this.2 e with e|e
      ·exact .inl (.inr e)
      ·exact .inl (.inl e)
theorem Qny {l:List Int} (h:l.Pairwise (·≤·)):risI (cmpL l)∧∀y,y∈cmpL l↔y∈l:=by
 cases l with
 | nil=>simp [cmpL,risI]
 | cons x l=>
  obtain ⟨a1,a2,a3⟩:=QhS h
  refine ⟨?_,fun y=>?_⟩
  ·unfold risI cmpL
   rw [List.pairwise_cons]
   exact ⟨a1,a2⟩
  ·rw [←a3 y,cmpL,List.mem_cons]
   exact Or.comm
def srtI (l:List Int):List Int:=l.mergeSort fun x y=>decide (x≤y)
theorem Qns {l:List Int} {x:Int}:x∈srtI l↔x∈l:=List.mem_mergeSort
theorem Qm3 (l:List Int):(srtI l).Pairwise (·≤·):=by
 have:=List.pairwise_mergeSort (le:=fun (x y:Int)=>decide (x≤y)) (fun a b c h1 h2=>by simp at *;omega) (fun a b=>by simp;omega) l
 exact this.imp fun h=>by simpa using h
theorem QbJ (l:List Int):(srtI l).length=l.length:=List.length_mergeSort l

structure Pt where
 at':Int
 free:V3
instance:Inhabited V3:=⟨⟨0,0,0⟩⟩
instance:Inhabited Pt:=⟨⟨0,⟨0,0,0⟩⟩⟩
deriving instance DecidableEq for V3
def ptE (l:List Pt):List (List D):=l.map fun p=>[.n .i64 p.at',.n .i64 p.free.a,.n .i64 p.free.b,.n .i64 p.free.c]
@[reducible] def Qfn (l:List Pt):AV:=.agg [.d (.sl (ptE l))]
theorem QaR (l:List Pt):(ptE l).length=l.length:=by simp [ptE]
def zV:V3:=⟨0,0,0⟩
structure ProfOk (l:List Pt):Prop where
 len:1≤l.length∧l.length≤200
 zero:(nth l 0).at'=0
 pts:∀j,j<l.length→(0≤(nth l j).at'∧(nth l j).at'≤1000000000)∧Qal (nth l j).free=true
 steps:∀j,j+1<l.length→(nth l j).at'<(nth l (j+1)).at'∧(nth l j).free≠(nth l (j+1)).free
open Classical in
noncomputable def Qbr (l:List Pt):Bool:=decide (ProfOk l)
open Classical in
theorem Qbt {l:List Pt}:Qbr l=true↔ProfOk l:=by unfold Qbr;exact decide_eq_true_iff
open Classical in
theorem QfY {l:List Pt}:Qbr l=false↔¬ProfOk l:=by unfold Qbr;exact decide_eq_false_iff_not
def atsI (l:List Pt):List Int:=l.map Pt.at'
def Qbo (l:List Pt) (t:Int):V3:=l.foldl (fun v x=>if x.at'≤t then x.free else v) zV
def QdT (from' to:Int):Bool:=inB from' 0 1000000000&&inB to 0 1000000000&&decide (from'<to)
theorem Qa8 {α:Type} [Inhabited α] {l:List α} {j:Nat} (h:j<l.length):nth l j=l[j]:=by simp [nth,List.getD,h]
theorem QaO {α:Type} [Inhabited α] {l:List α} {j:Nat} (h:j<l.length):nth l j∈l:=by rw [Qa8 h];exact List.getElem_mem h
theorem QbB {α:Type} [Inhabited α] {l:List α} {x:α} (h:x∈l):∃j,j<l.length∧nth l j=x:=by
 obtain ⟨j,hj,e⟩:=List.getElem_of_mem h
 exact ⟨j,hj,by rw [Qa8 hj];exact e⟩
theorem Qqx {l:List Pt} (h:∀j,j+1<l.length→(nth l j).at'<(nth l (j+1)).at'):risI (atsI l):=by
 unfold risI atsI
 rw [List.pairwise_map,List.pairwise_iff_getElem]
 intro i j hi hj hij
 have key:∀n,i+1+n<l.length→(nth l i).at'<(nth l (i+1+n)).at':=by
  intro n
  induction n with
  | zero=>intro hn;exact h i (by omega)
  | succ n ih=>
   intro hn
   have h1:=ih (by omega)
   have h2:=h (i+1+n) (by omega)
   have e:i+1+n+1=i+1+(n+1):=by omega
   rw [e] at h2
   omega
 have:=key (j - (i+1)) (by omega)
 rw [show i+1+(j - (i+1))=j by omega,Qa8 hi,Qa8 hj] at this
 exact this
theorem ProfOk.ris {l:List Pt} (h:ProfOk l):risI (atsI l):=Qqx fun j hj=>(h.steps j hj).1
def QaI (l:List Pt) (from' to:Int):List Int:=insI to false (insI from' false (atsI l))
def Qbb (l:List Pt) (from' to:Int):List Int:=cmpL (srtI ([from',to]++atsI l))
theorem QtT {l:List Pt} (h:ProfOk l) (from' to:Int):Qbb l from' to=QaI l from' to:=by
 obtain ⟨a1,a2⟩:=QfN (t:=from') h.ris
 obtain ⟨b1,b2⟩:=QfN (t:=to) a1
 obtain ⟨c1,c2⟩:=Qny (Qm3 ([from',to]++atsI l))
 refine QgT c1 b1 fun x=>?_
 rw [Qbb,c2,Qns,QaI,b2,a2]
 simp only [List.mem_append,List.mem_cons,List.not_mem_nil,or_false]
 constructor
 ·rintro ((e|e)|e)
  ·exact .inr (.inl e)
  ·exact .inl e
  ·exact .inr (.inr e)
 ·rintro (e|e|e)
  ·exact .inl (.inr e)
  ·exact .inl (.inl e)
  ·exact .inr e
theorem Qf4 {l:List Pt} (h:ProfOk l) (from' to:Int):risI (QaI l from' to)∧∀x,x∈QaI l from' to↔x=to∨x=from'∨x∈atsI l:=by
 obtain ⟨a1,a2⟩:=QfN (t:=from') h.ris
 obtain ⟨b1,b2⟩:=QfN (t:=to) a1
 exact ⟨b1,fun x=>by rw [QaI,b2,a2]⟩
def chgV (l:List Pt) (from' to:Int) (by':V3→Option V3) (t:Int):Option V3:=if from'≤t∧t<to then by' (Qbo l t) else some (Qbo l t)
def Qfy (out:List Pt) (t:Int) (v:V3):List Pt:=if out=[]∨(nth out (out.length - 1)).free≠v then out++[⟨t,v⟩] else out
def QdR (l:List Pt) (from' to:Int) (by':V3→Option V3):List Int→List Pt→Option (List Pt)
 | [],out=>some out
 | t::ts,out=>match chgV l from' to by' t with
  | none=>none
  | some v=>QdR l from' to by' ts (Qfy out t v)
def chgP (l:List Pt) (from' to:Int) (by':V3→Option V3):Option (List Pt):=(QdR l from' to by' (QaI l from' to) []).bind fun out=>if out.length≤200 then some out else none
end Go.Proofs.YtelbahebpmkfjaaGreat
namespace Go.Proofs.YtelbahebpmkfjaaGreat
open Go Go.RowKit
attribute [local irreducible] AWp Qat OpOk ACalls ChA QsOk MCalls EnC PY

@[reducible] def QcU (t:Topo):List AV:=[.d (.sl (intE t.parents)),.d (.sl (QaD t.nodes))]
theorem Qow {ps:List Int} (h:ps.length≤1000000000) (h0:0<ps.length) (hv:QbF ps):ACalls Tryz.prog 256 [.d (.sl (intE ps))] [.d (.n .i64 (dpt ps (ps.length - 1):Nat))] []:=by
 refine Qaa tt Tryz.func256 rfl rfl rfl (fun w0 Z=>?_)
 repeat' (first|refine zst ?_|(refine zhm fun hb=>?_;try exact zab)|refine zg2 ?_ ?_|refine zln fun _=>?_|refine zop ?_|refine kc (Qkn h hv (s:=ps.length - 1) (by omega)) rfl rfl ?_|fail)
 exact zr [] zae zae
theorem Qkj {t:Topo} (ht:TopoOk t) {s:Nat} (hs:s<t.parents.length):ACalls Tryz.prog 190 [Qcw t,.d (.n .i64 s)] [.d (.n .i64 (lvl t.parents s))] []:=by
 refine Qaa tt Tryz.func190 rfl rfl rfl (fun w0 Z=>?_)
 have hl:=ht.len
 have h1:=QnL ht.valid s hs
 have h2:=QnL ht.valid (t.parents.length - 1) (by omega)
 repeat' (first|refine zst ?_|(refine zhm fun hb=>?_;try exact zab)|refine zdr ?_|(apply zch;exact zcg)|refine HopS.mk fun w0 Z O=>?_|exact zhk|refine zg3 ?_ ?_|refine zop ?_|refine kc (Qow (ps:=t.parents) (by omega) (by omega) ht.valid) rfl rfl ?_|refine kc (Qkn (ps:=t.parents) (by omega) ht.valid hs) rfl rfl ?_|refine kq (Qow (ps:=t.parents) (by omega) (by omega) ht.valid) rfl rfl ?_|refine kq (Qkn (ps:=t.parents) (by omega) ht.valid hs) rfl rfl ?_|fail)
 exact zr [] zae zae
theorem Qhu {t:Topo} (hp:t.parents.length≤1000000000) (hn:t.nodes.length≤1000000000):ACalls Tryz.prog 245 [Qcw t] [.d (.b (Qbl t))] []:=by
 refine Qaa tt Tryz.func245 rfl rfl rfl (fun w0 Z=>?_)
 repeat' (first|refine zst ?_|(refine zhm fun hb=>?_;try exact zab)|refine zg2 ?_ ?_|refine zln fun _=>?_|refine zop ?_|refine kc (QaX) rfl rfl ?_|fail)
 any_goals
  rw [show Qbl t=false from Qdy.2 fun h=>by have h1:=h.len;have h2:=h.zero;have h3:=h.nlen;omega]
  refine zr [] ?_ ?_
  repeat'(first|apply And.intro|exact ze0|refine ze1 ?_|refine zei ?_ ?_|exact rfl|trivial)
  all_goals exact Stop.mk rfl
 refine Qae (fun (i:Nat)=>⟨97,[(1,.ptr 1 0),(3,.d (.n .i64 i))],[(1,.box 37 (QcU t))]⟩) (fun i=>1≤i∧∀j,1≤j→j<i→j<t.parents.length→0≤nth t.parents j∧nth t.parents j<j) (fun i=>t.parents.length - i) 1 (by exact ⟨Nat.le_refl _,fun j h1 h2=>by omega⟩) ?_ ?_
 ·exact ⟨rfl,zae,zae,rfl⟩
 ·rintro i ⟨hi,hv⟩
  repeat' (first|refine zst ?_|(refine zhm fun hb=>?_;try exact zab)|refine zg2 ?_ ?_|refine zln fun _=>?_|refine zop ?_|refine kc (QaX) rfl rfl ?_|fail)
  any_goals
   rw [show Qbl t=false from Qdy.2 fun h=>by have h1:=h.valid i (by omega) (by omega);omega]
   refine zr [] ?_ ?_
   repeat'(first|apply And.intro|exact ze0|refine ze1 ?_|refine zei ?_ ?_|exact rfl|trivial)
   all_goals exact Stop.mk rfl
  ·refine ⟨i+1,⟨by omega,fun j h1 h2 h3=>?_⟩,by omega,?_⟩
   ·by_cases e:j=i
    ·subst e;omega
    ·exact hv j h1 (by omega) h3
   exact ⟨rfl,zae,zae,rfl⟩
  ·have hvp:QbF t.parents:=fun j h1 h2=>hv j h1 (by omega) h2
   refine Qae (fun (x:Nat×Int)=>⟨97,[(1,.ptr 1 0),(4,.d (.n .i64 x.2)),(45,.d (.n .i64 (t.parents.length:Nat))),(46,.d (.n .i64 x.1))],[(1,.box 37 (QcU t))]⟩) (fun x=>x.1≤t.parents.length∧(x.2 = -1∨∃r,r<t.parents.length∧QcQ t.parents (r:Int)=true∧(dpt t.parents r:Int)=x.2)∧∀s,s<x.1→QcQ t.parents (s:Int)=true→(dpt t.parents s:Int)=x.2) (fun x=>t.parents.length - x.1) (0,-1) (by exact ⟨Nat.zero_le _,.inl rfl,fun s h=>absurd h (Nat.not_lt_zero _)⟩) ?_ ?_
   ·exact ⟨rfl,zae,zae,rfl⟩
   ·rintro ⟨s,d⟩ ⟨h1,h2,h3⟩
    dsimp only at h1 h2 h3 ⊢
    by_cases hs:s<t.parents.length
    ·have hdl:=QnL hvp s hs
     have key:QcQ t.parents (s:Int)=true→((dpt t.parents s:Int)=d∨d<0)→∀r,r<s+1→QcQ t.parents (r:Int)=true→(dpt t.parents r:Int)=(dpt t.parents s:Int):=fun hl hd r hr hlr=>by
      by_cases e:r=s
      ·rw [e]
      ·have:=h3 r (by omega) hlr
       omega
     repeat' (first|refine zst ?_|(refine zhm fun hb=>?_;try exact zab)|refine zg2 ?_ ?_|refine zln fun _=>?_|refine zop ?_|refine kc (QjT (ps:=t.parents) (s:=s) hp) rfl rfl ?_|refine kc (Qkn hp hvp hs) rfl rfl ?_|fail)
     ·refine ⟨(s+1,d),⟨by dsimp only;omega,h2,fun r hr hl=>?_⟩,by dsimp only;omega,?_⟩
      ·by_cases e:r=s
       ·subst e;rename_i hb;rw [hl] at hb;cases hb
       ·exact h3 r (by dsimp only at hr;omega) hl
      exact ⟨rfl,zae,zae,rfl⟩
     ·rw [show Qbl t=false from Qdy.2 fun h=>?_]
      ·exact zr [] zae zae
      ·rcases h2 with h2|⟨r,r1,r2,r3⟩
       ·omega
       ·have:=h.even r s r1 hs r2 (by assumption)
        omega
     ·refine ⟨(s+1,(dpt t.parents s:Int)),⟨by dsimp only;omega,.inr ⟨s,hs,by assumption,rfl⟩,key (by assumption) (.inl (by omega))⟩,by dsimp only;omega,?_⟩
      exact ⟨rfl,zae,zae,rfl⟩
     ·refine ⟨(s+1,(dpt t.parents s:Int)),⟨by dsimp only;omega,.inr ⟨s,hs,by assumption,rfl⟩,key (by assumption) (.inr (by omega))⟩,by dsimp only;omega,?_⟩
      exact ⟨rfl,zae,zae,rfl⟩
    ·have hev:Qp6 t.parents:=fun r r' hr hr' hl hl'=>by
      have e1:=h3 r (by omega) hl
      have e2:=h3 r' (by omega) hl'
      omega
     repeat' (first|refine zst ?_|(refine zhm fun hb=>?_;try exact zab)|refine zg2 ?_ ?_|refine zln fun _=>?_|refine zop ?_|refine kc (QjT (ps:=t.parents) (s:=s) hp) rfl rfl ?_|fail)
     refine Qae (fun (i:Nat)=>⟨97,[(1,.ptr 1 0),(68,.d (.sl (QaD t.nodes))),(69,.d (.n .i64 (t.nodes.length:Nat))),(70,.d (.n .i64 i))],[(1,.box 37 (QcU t))]⟩) (fun i=>i≤t.nodes.length∧∀j,j<i→Qm0 t.parents (nth t.nodes j)) (fun i=>t.nodes.length - i) 0 (by exact ⟨Nat.zero_le _,fun s h=>absurd h (Nat.not_lt_zero _)⟩) ?_ ?_
     ·refine ⟨rfl,?_,?_,rfl⟩
      repeat'(first|apply And.intro|exact ze0|refine ze1 ?_|refine zei ?_ ?_|exact rfl|trivial)
      all_goals exact Stop.mk (by first|rfl|exact Qar _)
     ·rintro i ⟨hi,hno⟩
      repeat' (first|refine zst ?_|(refine zhm fun hb=>?_;try exact zab)|refine zg2 ?_ ?_|refine zln fun _=>?_|refine zop ?_|refine kc (QaX) rfl rfl ?_|refine kc (QjT (ps:=t.parents) (s:=(nth t.nodes i).leaf) hp) rfl rfl ?_|refine kc (Qct (v:=(nth t.nodes i).cap)) rfl rfl ?_|fail)
      any_goals
       rw [show Qbl t=false from Qdy.2 fun h=>by have h1:=h.nodes i (by omega);have h2:=h1.1;first|omega|(have h3:=h1.2.1;simp_all;done)|(have h3:=h1.2.2;simp_all;done)]
       refine zr [] ?_ ?_
       repeat'(first|apply And.intro|exact ze0|refine ze1 ?_|refine zei ?_ ?_|exact rfl|trivial)
       all_goals exact Stop.mk rfl
      ·refine ⟨i+1,⟨by omega,fun j hj=>?_⟩,by omega,?_⟩
       ·by_cases e:j=i
        ·subst e;exact ⟨by omega,by assumption,by assumption⟩
        ·exact hno j (by omega)
       exact ⟨rfl,zae,zae,rfl⟩
      ·rw [show Qbl t=true from Qbz.2 ⟨by omega,by omega,by omega,hvp,hev,fun j hj=>hno j (by omega)⟩]
       exact zr [] zae zae
end Go.Proofs.YtelbahebpmkfjaaGreat
