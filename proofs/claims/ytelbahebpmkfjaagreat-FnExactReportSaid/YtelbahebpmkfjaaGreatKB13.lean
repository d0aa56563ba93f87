/-
  Placement: VecFits, the nodes below a switch, a number put into a rising list; both.
-/
import Derived.Test.YtelbahebpmkfjaaGreatKB7
import Derived.Test.YtelbahebpmkfjaaGreatKB11
import Derived.Test.YtelbahebpmkfjaaGreatKB9
set_option maxRecDepth 100000
set_option maxHeartbeats 16000000
namespace Go.Proofs.YtelbahebpmkfjaaGreat
open Go Go.RowKit
attribute [local irreducible] AWp Qat OpOk ACalls ChA QsOk MCalls EnC PY
def Ql5 (t:Topo) (s:Int) (n:Int):Bool:=hasI (abv t.parents (nth t.nodes n.toNat).leaf.toNat) s
def Qa9 (t:Topo) (l:List Int) (s:Int):List Int:=l.filter (Ql5 t s)
theorem Qi6 {t:Topo} {l:List Int} {s:Int} {i:Nat} (h:i<l.length):Qa9 t (l.take (i+1)) s=if Ql5 t s (nth l i)=true then Qa9 t (l.take i) s++[nth l i] else Qa9 t (l.take i) s:=by
 have e:nth l i=l[i]:=by simp [nth,h]
 rw [List.take_succ_eq_append_getElem h,Qa9,List.filter_append,e]
 split
 ·rename_i hb;simp [Qa9,hb]
 ·rename_i hb;simp [Qa9,hb]
theorem QbT {t:Topo} {l:List Int} {s:Int}:(Qa9 t l s).length≤l.length:=List.length_filter_le _ _
theorem Qqh {t:Topo} {l:List Int} {s:Int} (ht:TopoOk t) (hl:Qbj t l) (hll:l.length≤100000000):DC Tryz.prog 312 [Qcw t,.d (.sl (intE l)),.d (.n .i64 s)] [.d (.sl (intE (Qa9 t l s)))]:=by
 refine Qag tt Tryz.func312 rfl rfl rfl trivial (fun _ _=>⟨trivial,trivial⟩) (fun w0 Z O=>?_)
 have htl:=ht.len
 have htn:=ht.nlen
 have hle:=Qad l
 repeat' (first|refine zst ?_|(refine zhm fun hb=>?_;try exact zab)|refine zdr ?_|(apply zch;exact zcg)|refine HopS.mk fun w0 Z O=>?_|exact zhk|refine zg3 ?_ ?_|refine zln fun _=>?_|refine zop ?_|fail)
 refine Qae (fun (i:Nat)=>⟨33,[(1,.d (.sl (intE l))),(2,.d (.n .i64 s)),(3,.ptr 3 0),(7,.row 10),(11,.d (.sl (intE l))),(12,.d (.n .i64 (l.length:Nat))),(13,.d (.n .i64 i))],[(3,.box 37 (QcU t)),(10,.row 3 (intE (Qa9 t (l.take i) s)) true)]⟩) (fun i=>i≤l.length) (fun i=>l.length - i) 0 (by exact Nat.zero_le _) ?_ ?_
 ·exact ⟨rfl,zae,zae,rfl⟩
 ·intro i hi
  have hul:=QbT (t:=t) (l:=l.take i) (s:=s)
  rw [List.length_take] at hul
  by_cases hi':i<l.length
  ·have hin:=hl i hi'
   obtain ⟨h1,_,_⟩:=ht.nodes (nth l i).toNat (by omega)
   have hnl:(nth t.nodes (nth l i).toNat).leaf=((nth t.nodes (nth l i).toNat).leaf.toNat:Int):=by omega
   have c1:=QqR (t:=t) (s:=(nth t.nodes (nth l i).toNat).leaf.toNat) (by omega) ht.valid (by omega)
   rw [←hnl] at c1
   have hab:=Qkf ht.valid (s:=(nth t.nodes (nth l i).toNat).leaf.toNat) (by omega)
   have c2:=Qdk (l:=abv t.parents (nth t.nodes (nth l i).toNat).leaf.toNat) (x:=s) (by omega)
   have hst:=Qi6 (t:=t) (s:=s) hi'
   have hnat:nth l i=((nth l i).toNat:Int):=by omega
   cases hb0:Ql5 t s (nth l i) with
   | true=>
    rw [if_pos hb0] at hst
    rw [show hasI (abv t.parents (nth t.nodes (nth l i).toNat).leaf.toNat) s=true from hb0] at c2
    repeat' (first|refine zst ?_|(refine zhm fun hb=>?_;try exact zab)|(apply QaT 5;kernel_rfl;exact rfl)|refine zdr ?_|(apply zch;exact zcg)|refine HopS.mk fun w0 Z O=>?_|exact zhk|refine zg3 ?_ ?_|refine zln fun _=>?_|refine zop ?_|refine kc (c1) rfl rfl ?_|refine kc (c2) rfl rfl ?_|refine kq (c1) rfl rfl ?_|refine kq (c2) rfl rfl ?_|fail)
    refine ⟨i+1,by omega,by omega,?_⟩
    refine ⟨rfl,?_,?_,rfl⟩
    repeat'(first|apply And.intro|exact ze0|refine ze1 ?_|refine zei ?_ ?_|exact rfl|trivial)
    all_goals exact Stop.mk (by first|rfl|(rw [hst];exact Qbg _ _))
   | false=>
    rw [if_neg (by rw [hb0];simp)] at hst
    rw [show hasI (abv t.parents (nth t.nodes (nth l i).toNat).leaf.toNat) s=false from hb0] at c2
    repeat' (first|refine zst ?_|(refine zhm fun hb=>?_;try exact zab)|(apply QaT 5;kernel_rfl;exact rfl)|refine zdr ?_|(apply zch;exact zcg)|refine HopS.mk fun w0 Z O=>?_|exact zhk|refine zg3 ?_ ?_|refine zln fun _=>?_|refine zop ?_|refine kc (c1) rfl rfl ?_|refine kc (c2) rfl rfl ?_|refine kq (c1) rfl rfl ?_|refine kq (c2) rfl rfl ?_|fail)
    refine ⟨i+1,by omega,by omega,?_⟩
    refine ⟨rfl,?_,?_,rfl⟩
    repeat'(first|apply And.intro|exact ze0|refine ze1 ?_|refine zei ?_ ?_|exact rfl|trivial)
    all_goals exact Stop.mk (by first|rfl|rw [hst])
  ·obtain rfl:i=l.length:=by omega
   repeat' (first|refine zsr ?_|(refine zhm fun hb=>?_;try exact zab)|refine zdr ?_|(apply zch;exact zcg)|refine HopS.mk fun w0 Z O=>?_|exact zhk|refine zg3 ?_ ?_|refine zln fun _=>?_|refine zop ?_|fail)
   show AWp _ _ _ _
   refine Qav 10 rfl ?_
   refine Qac ?_
   apply Qab
   refine zm () [] trivial ?_ ?_ ?_
   repeat'(first|apply And.intro|exact ze0|refine ze1 ?_|refine zei ?_ ?_|exact rfl|trivial)
   all_goals exact Stop.mk (by first|rfl|rw [List.take_length])
theorem Qgw {t:Topo} {l:List Int} {s:Int} (ht:TopoOk t) (hl:Qbj t l) (hll:l.length≤100000000):DC Tryz.prog 345 [Qcw t,.d (.sl (intE l)),.d (.n .i64 s)] [.d (.sl (intE (Qa9 t l s)))]:=by
 refine Qag tt Tryz.func345 rfl rfl rfl trivial (fun _ _=>⟨trivial,trivial⟩) (fun w0 Z O=>?_)
 have htl:=ht.len
 have htn:=ht.nlen
 have hle:=Qad l
 repeat' (first|refine zst ?_|(refine zhm fun hb=>?_;try exact zab)|refine zdr ?_|(apply zch;exact zcg)|refine HopS.mk fun w0 Z O=>?_|exact zhk|refine zg3 ?_ ?_|refine zln fun _=>?_|refine zop ?_|fail)
 refine Qae (fun (i:Nat)=>⟨33,[(1,.d (.sl (intE l))),(2,.d (.n .i64 s)),(3,.ptr 3 0),(7,.row 10),(11,.d (.sl (intE l))),(12,.d (.n .i64 (l.length:Nat))),(13,.d (.n .i64 i))],[(3,.box 37 (QcU t)),(10,.row 3 (intE (Qa9 t (l.take i) s)) true)]⟩) (fun i=>i≤l.length) (fun i=>l.length - i) 0 (by exact Nat.zero_le _) ?_ ?_
 ·exact ⟨rfl,zae,zae,rfl⟩
 ·intro i hi
  have hul:=QbT (t:=t) (l:=l.take i) (s:=s)
  rw [List.length_take] at hul
  by_cases hi':i<l.length
  ·have hin:=hl i hi'
   obtain ⟨h1,_,_⟩:=ht.nodes (nth l i).toNat (by omega)
   have hnl:(nth t.nodes (nth l i).toNat).leaf=((nth t.nodes (nth l i).toNat).leaf.toNat:Int):=by omega
   have c1:=Qr0 (t:=t) (s:=(nth t.nodes (nth l i).toNat).leaf.toNat) (by omega) ht.valid (by omega)
   rw [←hnl] at c1
   have hab:=Qkf ht.valid (s:=(nth t.nodes (nth l i).toNat).leaf.toNat) (by omega)
   have c2:=Qc4 (l:=abv t.parents (nth t.nodes (nth l i).toNat).leaf.toNat) (x:=s) (by omega)
   have hst:=Qi6 (t:=t) (s:=s) hi'
   have hnat:nth l i=((nth l i).toNat:Int):=by omega
   cases hb0:Ql5 t s (nth l i) with
   | true=>
    rw [if_pos hb0] at hst
    rw [show hasI (abv t.parents (nth t.nodes (nth l i).toNat).leaf.toNat) s=true from hb0] at c2
    repeat' (first|refine zst ?_|(refine zhm fun hb=>?_;try exact zab)|(apply QaT 5;kernel_rfl;exact rfl)|refine zdr ?_|(apply zch;exact zcg)|refine HopS.mk fun w0 Z O=>?_|exact zhk|refine zg3 ?_ ?_|refine zln fun _=>?_|refine zop ?_|refine kc (c1) rfl rfl ?_|refine kc (c2) rfl rfl ?_|refine kq (c1) rfl rfl ?_|refine kq (c2) rfl rfl ?_|fail)
    refine ⟨i+1,by omega,by omega,?_⟩
    refine ⟨rfl,?_,?_,rfl⟩
    repeat'(first|apply And.intro|exact ze0|refine ze1 ?_|refine zei ?_ ?_|exact rfl|trivial)
    all_goals exact Stop.mk (by first|rfl|(rw [hst];exact Qbg _ _))
   | false=>
    rw [if_neg (by rw [hb0];simp)] at hst
    rw [show hasI (abv t.parents (nth t.nodes (nth l i).toNat).leaf.toNat) s=false from hb0] at c2
    repeat' (first|refine zst ?_|(refine zhm fun hb=>?_;try exact zab)|(apply QaT 5;kernel_rfl;exact rfl)|refine zdr ?_|(apply zch;exact zcg)|refine HopS.mk fun w0 Z O=>?_|exact zhk|refine zg3 ?_ ?_|refine zln fun _=>?_|refine zop ?_|refine kc (c1) rfl rfl ?_|refine kc (c2) rfl rfl ?_|refine kq (c1) rfl rfl ?_|refine kq (c2) rfl rfl ?_|fail)
    refine ⟨i+1,by omega,by omega,?_⟩
    refine ⟨rfl,?_,?_,rfl⟩
    repeat'(first|apply And.intro|exact ze0|refine ze1 ?_|refine zei ?_ ?_|exact rfl|trivial)
    all_goals exact Stop.mk (by first|rfl|rw [hst])
  ·obtain rfl:i=l.length:=by omega
   repeat' (first|refine zsr ?_|(refine zhm fun hb=>?_;try exact zab)|refine zdr ?_|(apply zch;exact zcg)|refine HopS.mk fun w0 Z O=>?_|exact zhk|refine zg3 ?_ ?_|refine zln fun _=>?_|refine zop ?_|fail)
   show AWp _ _ _ _
   refine Qav 10 rfl ?_
   refine Qac ?_
   apply Qab
   refine zm () [] trivial ?_ ?_ ?_
   repeat'(first|apply And.intro|exact ze0|refine ze1 ?_|refine zei ?_ ?_|exact rfl|trivial)
   all_goals exact Stop.mk (by first|rfl|rw [List.take_length])
def rise (n:Int):List Int→List Int
 | []=>[n]
 | x::l=>if n<x then n::x::l else x::rise n l
def Qhk (n:Int) (q:List Int×Bool) (x:Int):List Int×Bool:=if q.2=false∧n<x then (q.1++[n]++[x],true) else (q.1++[x],q.2)
def Qf8 (n:Int) (l:List Int):List Int×Bool:=l.foldl (Qhk n) ([],false)
theorem QoY {n:Int} {l:List Int} {i:Nat} (h:i<l.length):Qf8 n (l.take (i+1))=Qhk n (Qf8 n (l.take i)) (nth l i):=by
 have e:nth l i=l[i]:=by simp [nth,h]
 rw [List.take_succ_eq_append_getElem h,Qf8,List.foldl_append,e]
 rfl
theorem Qhv {n:Int}:∀(l:List Int) (a:List Int),(let q:=l.foldl (Qhk n) (a,false);if q.2=true then q.1 else q.1++[n])=a++rise n l∧(l.foldl (Qhk n) (a,true))=(a++l,true)
 | [],a=>by simp [rise]
 | x::l,a=>by
  obtain ⟨h1,_⟩:=Qhv (n:=n) l (a++[x])
  have h2:=(Qhv (n:=n) l (a++[n]++[x])).2
  have h3:=(Qhv (n:=n) l (a++[x])).2
  constructor
  ·simp only [List.foldl_cons,Qhk,rise]
   by_cases hn:n<x
   ·simp only [hn,and_self,if_true]
    rw [h2]
    simp
   ·simp only [hn,and_false,if_false]
    simpa using h1
  ·simp only [List.foldl_cons,Qhk,Bool.true_eq_false,false_and,if_false]
   rw [h3]
   simp
theorem Qtz {n:Int} {l:List Int}:(if (Qf8 n l).2=true then (Qf8 n l).1 else (Qf8 n l).1++[n])=rise n l:=by
 have:=(Qhv (n:=n) l []).1
 rw [List.nil_append] at this
 exact this
theorem Qp5 (n:Int) (q:List Int×Bool) (x:Int):(Qhk n q x).1.length+(if (Qhk n q x).2=true then 0 else 1)=q.1.length+(if q.2=true then 0 else 1)+1:=by
 unfold Qhk
 split
 ·rename_i h
  rw [h.1];simp
 ·simp;split <;> omega
theorem Qr9 (n:Int):∀(l:List Int),(Qf8 n l).1.length≤l.length+1:=by
 intro l
 have key:∀(l:List Int) (q:List Int×Bool),(l.foldl (Qhk n) q).1.length+(if (l.foldl (Qhk n) q).2=true then 0 else 1)=q.1.length+(if q.2=true then 0 else 1)+l.length:=by
  intro l
  induction l with
  | nil=>intro q;rfl
  | cons x l ih=>intro q;rw [List.foldl_cons,ih,Qp5,List.length_cons];omega
 have:=key l ([],false)
 simp at this
 unfold Qf8
 omega
end Go.Proofs.YtelbahebpmkfjaaGreat
namespace Go.Proofs.YtelbahebpmkfjaaGreat
open Go Go.RowKit
attribute [local irreducible] AWp Qat OpOk ACalls ChA QsOk MCalls EnC PY
theorem QkG {α:Type} {l:List α} {i:Nat} (h:i≤l.length):(l.take i).length=i:=by rw [List.length_take];omega
theorem Qlh {l:List Int} {n:Int} (hl:l.length≤100000000):DC Tryz.prog 320 [.d (.sl (intE l)),.d (.n .i64 n)] [.d (.sl (intE (rise n l)))]:=by
 refine Qag tt Tryz.func320 rfl rfl rfl trivial (fun _ _=>⟨trivial,trivial⟩) (fun w0 Z O=>?_)
 have hle:=Qad l
 repeat' (first|refine zst ?_|(refine zhm fun hb=>?_;try exact zab)|refine zg2 ?_ ?_|refine zln fun _=>?_|refine zop ?_|fail)
 refine Qae (fun (i:Nat)=>⟨39,[(1,.d (.n .i64 n)),(5,.row 9),(6,.d (.b (Qf8 n (l.take i)).2)),(10,.d (.sl (intE l))),(11,.d (.n .i64 (l.length:Nat))),(12,.d (.n .i64 i))],[(9,.row 3 (intE (Qf8 n (l.take i)).1) true)]⟩) (fun i=>i≤l.length) (fun i=>l.length - i) 0 (by exact Nat.zero_le _) ?_ ?_
 ·exact ⟨rfl,zae,zae,rfl⟩
 ·intro i hi
  have hrl:=Qr9 n (l.take i)
  rw [QkG hi] at hrl
  by_cases hi':i<l.length
  ·have hst:=QoY (n:=n) hi'
   unfold Qhk at hst
   cases hd:(Qf8 n (l.take i)).2 with
   | true=>
    rw [hd,if_neg (by simp)] at hst
    repeat' (first|refine zst ?_|(refine zhm fun hb=>?_;try exact zab)|refine zg2 ?_ ?_|refine zln fun _=>?_|refine zop ?_|fail)
    refine ⟨i+1,by omega,by omega,?_⟩
    refine ⟨rfl,?_,?_,rfl⟩
    repeat'(first|apply And.intro|exact ze0|refine ze1 ?_|refine zei ?_ ?_|exact rfl|trivial)
    all_goals exact Stop.mk (by first|rfl|(rw [hst];exact Qbg _ _)|rw [hst])
   | false=>
    by_cases hn:n<nth l i
    ·rw [hd,if_pos ⟨rfl,hn⟩] at hst
     have hl2:(intE (Qf8 n (l.take i)).1++[[D.n .i64 n]]).length=(Qf8 n (l.take i)).1.length+1:=by simp [intE]
     repeat' (first|refine zst ?_|(refine zhm fun hb=>?_;try exact zab)|refine zg2 ?_ ?_|refine zln fun _=>?_|refine zop ?_|fail)
     refine ⟨i+1,by omega,by omega,?_⟩
     refine ⟨rfl,?_,?_,rfl⟩
     repeat'(first|apply And.intro|exact ze0|refine ze1 ?_|refine zei ?_ ?_|exact rfl|trivial)
     all_goals exact Stop.mk (by first|rfl|(rw [hst];simp [intE];done)|rw [hst])
    ·rw [hd,if_neg (fun h=>hn h.2)] at hst
     repeat' (first|refine zst ?_|(refine zhm fun hb=>?_;try exact zab)|refine zg2 ?_ ?_|refine zln fun _=>?_|refine zop ?_|fail)
     refine ⟨i+1,by omega,by omega,?_⟩
     refine ⟨rfl,?_,?_,rfl⟩
     repeat'(first|apply And.intro|exact ze0|refine ze1 ?_|refine zei ?_ ?_|exact rfl|trivial)
     all_goals exact Stop.mk (by first|rfl|(rw [hst];exact Qbg _ _)|rw [hst])
  ·obtain rfl:i=l.length:=by omega
   rw [List.take_length] at *
   have he:=Qtz (n:=n) (l:=l)
   cases hd:(Qf8 n l).2 with
   | true=>
    rw [hd,if_pos rfl] at he
    repeat' (first|refine zsr ?_|(refine zhm fun hb=>?_;try exact zab)|refine zg2 ?_ ?_|refine zln fun _=>?_|refine zop ?_|fail)
    show AWp _ _ _ _
    refine Qav 9 rfl ?_
    refine Qac ?_
    apply Qab
    refine zm () [] trivial ?_ ?_ ?_
    repeat'(first|apply And.intro|exact ze0|refine ze1 ?_|refine zei ?_ ?_|exact rfl|trivial)
    all_goals exact Stop.mk (by first|rfl|rw [he])
   | false=>
    rw [hd,if_neg (by simp)] at he
    repeat' (first|refine zsr ?_|(refine zhm fun hb=>?_;try exact zab)|refine zg2 ?_ ?_|refine zln fun _=>?_|refine zop ?_|fail)
    show AWp _ _ _ _
    refine Qav 9 rfl ?_
    refine Qac ?_
    apply Qab
    refine zm () [] trivial ?_ ?_ ?_
    repeat'(first|apply And.intro|exact ze0|refine ze1 ?_|refine zei ?_ ?_|exact rfl|trivial)
    all_goals exact Stop.mk (by first|rfl|(rw [←he];exact Qbg _ _))
def befB (a b:Job):Bool:=decide (b.prio<a.prio)||(decide (a.prio=b.prio)&&decide (a.id<b.id))
theorem QmS {a b:Job}:ACalls Tryz.prog 295 [jobA a,jobA b] [.d (.b (befB a b))] []:=by
 refine Qaa tt Tryz.func295 rfl rfl rfl (fun w0 Z=>?_)
 unfold befB
 by_cases h1:b.prio<a.prio
 ·rw [decide_eq_true h1]
  repeat' (first|refine zst ?_|(refine zhm fun hb=>?_;try exact zab)|refine zg2 ?_ ?_|refine zop ?_|fail)
  exact zr [] zae zae
 ·rw [decide_eq_false h1]
  by_cases h2:a.prio=b.prio
  ·rw [decide_eq_true h2]
   repeat' (first|refine zst ?_|(refine zhm fun hb=>?_;try exact zab)|refine zg2 ?_ ?_|refine zop ?_|fail)
   all_goals
    refine zr [] ?_ ?_
    repeat'(first|apply And.intro|exact ze0|refine ze1 ?_|refine zei ?_ ?_|exact rfl|trivial)
    all_goals exact Stop.mk (by first|rfl|(simp;omega))
  ·rw [decide_eq_false h2]
   repeat' (first|refine zst ?_|(refine zhm fun hb=>?_;try exact zab)|refine zg2 ?_ ?_|refine zop ?_|fail)
   all_goals
    refine zr [] ?_ ?_
    repeat'(first|apply And.intro|exact ze0|refine ze1 ?_|refine zei ?_ ?_|exact rfl|trivial)
    all_goals exact Stop.mk (by first|rfl|(simp;omega))
end Go.Proofs.YtelbahebpmkfjaaGreat
namespace Go.Proofs.YtelbahebpmkfjaaGreat
open Go Go.RowKit
attribute [local irreducible] AWp Qat OpOk ACalls ChA QsOk MCalls EnC PY
def cntU (t:Topo) (l:List Int) (s:Nat):Nat:=(Qa9 t l (s:Int)).length
def swS (t:Topo) (l:List Int) (n most:Int) (best:Int) (s:Nat):Int:=
 if n≤(cntU t l s:Int)∧lvl t.parents s≤most∧(best<0∨lvl t.parents s<lvl t.parents best.toNat∨lvl t.parents s=lvl t.parents best.toNat∧cntU t l s<cntU t l best.toNat) then (s:Int) else best
def swU (t:Topo) (l:List Int) (n most:Int) (i:Nat):Int:=(List.range i).foldl (swS t l n most) (-1)
theorem Qt5 {t:Topo} {l:List Int} {n most:Int} {i:Nat}:swU t l n most (i+1)=swS t l n most (swU t l n most i) i:=by
 unfold swU
 rw [List.range_succ,List.foldl_append]
 rfl
theorem QlF {t:Topo} {l:List Int} {n most:Int}:∀(i:Nat),-1≤swU t l n most i∧swU t l n most i<i
 | 0=>by simp [swU]
 | i+1=>by
  have:=QlF (t:=t) (l:=l) (n:=n) (most:=most) i
  rw [Qt5]
  unfold swS
  split <;> omega
def swI (t:Topo) (l:List Int) (n most:Int):Int:=swU t l n most t.parents.length
theorem QjC {t:Topo} (ht:TopoOk t) {s:Nat} (hs:s<t.parents.length):ACalls Tryz.prog 183 [Qcw t,.d (.n .i64 s)] [.d (.n .i64 (lvl t.parents s))] []:=by
 have htl:=ht.len
 rw [←QoM ht.valid ht.even hs]
 exact Qd4 (by omega) ht.valid (t.parents.length - s) s (by omega) hs
theorem QmT {t:Topo} {l:List Int} {n most:Int} (ht:TopoOk t) (hl:Qbj t l) (hll:l.length≤1000000):ACalls Tryz.prog 344 [Qcw t,.d (.sl (intE l)),.d (.n .i64 n),.d (.n .i64 most)] [.d (.n .i64 (swI t l n most))] []:=by
 refine Qaa tt Tryz.func344 rfl rfl rfl (fun w0 Z=>?_)
 have htl:=ht.len
 have htn:=ht.nlen
 have hle:=Qad l
 repeat' (first|refine zst ?_|(refine zhm fun hb=>?_;try exact zab)|refine zg2 ?_ ?_|refine zln fun _=>?_|refine zop ?_|fail)
 refine Qae (fun (i:Nat)=>⟨63,[(1,.d (.sl (intE l))),(2,.d (.n .i64 n)),(3,.d (.n .i64 most)),(4,.ptr 4 0),(9,.d (.n .i64 (swU t l n most i))),(15,.d (.n .i64 (t.parents.length:Nat))),(16,.d (.n .i64 i))],[(4,.box 37 (QcU t))]⟩) (fun i=>i≤t.parents.length) (fun i=>t.parents.length - i) 0 (by exact Nat.zero_le _) ?_ ?_
 ·refine ⟨rfl,?_,?_,rfl⟩
  repeat'(first|apply And.intro|exact ze0|refine ze1 ?_|refine zei ?_ ?_|exact rfl|trivial)
  all_goals exact Stop.mk (by first|rfl|exact Qad _)
 ·intro k hk0
  by_cases hi':k<t.parents.length
  ·have hb:=QlF (t:=t) (l:=l) (n:=n) (most:=most) k
   have hst:=Qt5 (t:=t) (l:=l) (n:=n) (most:=most) (i:=k)
   unfold swS at hst
   have hul:=QbT (t:=t) (l:=l) (s:=(k:Int))
   have hcu:(Qa9 t l (k:Int)).length=cntU t l k:=rfl
   have c1:=Qgw (t:=t) (l:=l) (s:=(k:Int)) ht hl (by omega)
   have c2:=QjC ht hi'
   by_cases hneg:swU t l n most k<0
   ·repeat' (first|refine zst ?_|(refine zhm fun hb=>?_;try exact zab)|refine zg2 ?_ ?_|refine zln fun _=>?_|refine zop ?_|refine kc (c2) rfl rfl ?_|(refine km [] (c1) rfl rfl (fun i hi=>?_);(try dsimp only at hi))|fail)
    all_goals
     refine ⟨k+1,by omega,by omega,?_⟩
     refine ⟨rfl,?_,?_,rfl⟩
     repeat'(first|apply And.intro|exact ze0|refine ze1 ?_|refine zei ?_ ?_|exact rfl|trivial)
     all_goals exact Stop.mk (by first|rfl|(rw [hst,if_pos ⟨by omega,by omega,.inl (by omega)⟩])|(rw [hst,if_neg (fun h=>by omega)]))
   ·have hul2:=QbT (t:=t) (l:=l) (s:=swU t l n most k)
    have hcu2:(Qa9 t l (swU t l n most k)).length=cntU t l (swU t l n most k).toNat:=by unfold cntU;rw [Int.toNat_of_nonneg (by omega)]
    have c3:=Qgw (t:=t) (l:=l) (s:=swU t l n most k) ht hl (by omega)
    have c4:=QjC ht (s:=(swU t l n most k).toNat) (by omega)
    rw [Int.toNat_of_nonneg (by omega)] at c4
    repeat' (first|refine zst ?_|(refine zhm fun hb=>?_;try exact zab)|refine zg2 ?_ ?_|refine zln fun _=>?_|refine zop ?_|refine kc (c2) rfl rfl ?_|refine kc (c4) rfl rfl ?_|(refine km [] (c1) rfl rfl (fun i hi=>?_);(try dsimp only at hi))|(refine km [] (c3) rfl rfl (fun i hi=>?_);(try dsimp only at hi))|fail)
    all_goals
     refine ⟨k+1,by omega,by omega,?_⟩
     refine ⟨rfl,?_,?_,rfl⟩
     repeat'(first|apply And.intro|exact ze0|refine ze1 ?_|refine zei ?_ ?_|exact rfl|trivial)
     all_goals exact Stop.mk (by first|rfl|(rw [hst,if_pos ⟨by omega,by omega,.inr (.inl (by omega))⟩])|(rw [hst,if_pos ⟨by omega,by omega,.inr (.inr ⟨by omega,by omega⟩)⟩])|(rw [hst,if_neg (fun h=>by omega)]))
  ·obtain rfl:k=t.parents.length:=by omega
   repeat' (first|refine zst ?_|(refine zhm fun hb=>?_;try exact zab)|refine zg2 ?_ ?_|refine zln fun _=>?_|refine zop ?_|fail)
   exact zr [] zae zae
end Go.Proofs.YtelbahebpmkfjaaGreat
namespace Go.Proofs.YtelbahebpmkfjaaGreat
open Go Go.RowKit
attribute [local irreducible] AWp Qat OpOk ACalls ChA QsOk MCalls EnC PY
def lfS (t:Topo) (l tk:List Int) (best:Int) (s:Nat):Int:=
 if 0<cntU t l s∧(Qfq t.parents (s:Int)).length=0∧hasI tk (s:Int)=false∧(best<0∨cntU t l best.toNat<cntU t l s) then (s:Int) else best
def lfU (t:Topo) (l tk:List Int) (i:Nat):Int:=(List.range i).foldl (lfS t l tk) (-1)
theorem QtO {t:Topo} {l tk:List Int} {i:Nat}:lfU t l tk (i+1)=lfS t l tk (lfU t l tk i) i:=by
 unfold lfU
 rw [List.range_succ,List.foldl_append]
 rfl
theorem Qnv {t:Topo} {l tk:List Int}:∀(i:Nat),-1≤lfU t l tk i∧lfU t l tk i<i
 | 0=>by simp [lfU]
 | i+1=>by
  have:=Qnv (t:=t) (l:=l) (tk:=tk) i
  rw [QtO]
  unfold lfS
  split <;> omega
def lfI (t:Topo) (l tk:List Int):Int:=lfU t l tk t.parents.length
theorem Qrb {t:Topo} {l tk:List Int} (ht:TopoOk t) (hl:Qbj t l) (hll:l.length≤1000000) (htk:tk.length≤1000000):ACalls Tryz.prog 346 [Qcw t,.d (.sl (intE l)),.d (.sl (intE tk))] [.d (.n .i64 (lfI t l tk))] []:=by
 refine Qaa tt Tryz.func346 rfl rfl rfl (fun w0 Z=>?_)
 have htl:=ht.len
 have htn:=ht.nlen
 have hle:=Qad l
 repeat' (first|refine zst ?_|(refine zhm fun hb=>?_;try exact zab)|refine zg2 ?_ ?_|refine zln fun _=>?_|refine zop ?_|fail)
 refine Qae (fun (i:Nat)=>⟨49,[(1,.d (.sl (intE l))),(2,.d (.sl (intE tk))),(3,.ptr 3 0),(7,.d (.n .i64 (lfU t l tk i))),(12,.d (.n .i64 (t.parents.length:Nat))),(13,.d (.n .i64 i))],[(3,.box 37 (QcU t))]⟩) (fun i=>i≤t.parents.length) (fun i=>t.parents.length - i) 0 (by exact Nat.zero_le _) ?_ ?_
 ·refine ⟨rfl,?_,?_,rfl⟩
  repeat'(first|apply And.intro|exact ze0|refine ze1 ?_|refine zei ?_ ?_|exact rfl|trivial)
  all_goals exact Stop.mk (by first|rfl|exact Qad _)
 ·intro k hk0
  by_cases hi':k<t.parents.length
  ·have hb:=Qnv (t:=t) (l:=l) (tk:=tk) k
   have hst:=QtO (t:=t) (l:=l) (tk:=tk) (i:=k)
   unfold lfS at hst
   have hul:=QbT (t:=t) (l:=l) (s:=(k:Int))
   have hcu:(Qa9 t l (k:Int)).length=cntU t l k:=rfl
   have c1:=Qgw (t:=t) (l:=l) (s:=(k:Int)) ht hl (by omega)
   have c2:=Qic (t:=t) (s:=(k:Int)) (by omega) (by omega)
   cases hh:hasI tk (k:Int) with
   | true=>
    have c5:=Qc4 (l:=tk) (x:=(k:Int)) (by omega)
    rw [hh] at c5
    repeat' (first|refine zst ?_|(refine zhm fun hb=>?_;try exact zab)|refine zg2 ?_ ?_|refine zln fun _=>?_|refine zop ?_|refine kc (c2) rfl rfl ?_|refine kc (c5) rfl rfl ?_|(refine km [] (c1) rfl rfl (fun i hi=>?_);(try dsimp only at hi))|fail)
    all_goals
     refine ⟨k+1,by omega,by omega,?_⟩
     refine ⟨rfl,?_,?_,rfl⟩
     repeat'(first|apply And.intro|exact ze0|refine ze1 ?_|refine zei ?_ ?_|exact rfl|trivial)
     all_goals exact Stop.mk (by first|rfl|(rw [hst,if_neg (fun h=>by rw [hh] at h;simp at h)]))
   | false=>
    have c5:=Qc4 (l:=tk) (x:=(k:Int)) (by omega)
    rw [hh] at c5
    by_cases hneg:lfU t l tk k<0
    ·repeat' (first|refine zst ?_|(refine zhm fun hb=>?_;try exact zab)|refine zg2 ?_ ?_|refine zln fun _=>?_|refine zop ?_|refine kc (c2) rfl rfl ?_|refine kc (c5) rfl rfl ?_|(refine km [] (c1) rfl rfl (fun i hi=>?_);(try dsimp only at hi))|fail)
     all_goals
      refine ⟨k+1,by omega,by omega,?_⟩
      refine ⟨rfl,?_,?_,rfl⟩
      repeat'(first|apply And.intro|exact ze0|refine ze1 ?_|refine zei ?_ ?_|exact rfl|trivial)
      all_goals exact Stop.mk (by first|rfl|(rw [hst,if_pos ⟨by omega,by omega,hh,.inl (by omega)⟩])|(rw [hst,if_neg (fun h=>by omega)]))
    ·have hul2:=QbT (t:=t) (l:=l) (s:=lfU t l tk k)
     have hcu2:(Qa9 t l (lfU t l tk k)).length=cntU t l (lfU t l tk k).toNat:=by unfold cntU;rw [Int.toNat_of_nonneg (by omega)]
     have c3:=Qgw (t:=t) (l:=l) (s:=lfU t l tk k) ht hl (by omega)
     repeat' (first|refine zst ?_|(refine zhm fun hb=>?_;try exact zab)|refine zg2 ?_ ?_|refine zln fun _=>?_|refine zop ?_|refine kc (c2) rfl rfl ?_|refine kc (c5) rfl rfl ?_|(refine km [] (c1) rfl rfl (fun i hi=>?_);(try dsimp only at hi))|(refine km [] (c3) rfl rfl (fun i hi=>?_);(try dsimp only at hi))|fail)
     all_goals
      refine ⟨k+1,by omega,by omega,?_⟩
      refine ⟨rfl,?_,?_,rfl⟩
      repeat'(first|apply And.intro|exact ze0|refine ze1 ?_|refine zei ?_ ?_|exact rfl|trivial)
      all_goals exact Stop.mk (by first|rfl|(rw [hst,if_pos ⟨by omega,by omega,hh,.inr (by omega)⟩])|(rw [hst,if_neg (fun h=>by omega)]))
  ·obtain rfl:k=t.parents.length:=by omega
   repeat' (first|refine zst ?_|(refine zhm fun hb=>?_;try exact zab)|refine zg2 ?_ ?_|refine zln fun _=>?_|refine zop ?_|fail)
   exact zr [] zae zae
end Go.Proofs.YtelbahebpmkfjaaGreat
namespace Go.Proofs.YtelbahebpmkfjaaGreat
open Go Go.RowKit

theorem Qc6 {l:List Int} {x:Int}:hasI l x=true↔x∈l:=by
 unfold hasI
 rw [List.any_eq_true]
 constructor
 ·rintro ⟨y,hy,e⟩
  rw [beq_iff_eq] at e
  exact e▸hy
 ·intro h
  exact ⟨x,h,by simp⟩
theorem Qum {ps:List Int} (hv:QbF ps):∀(s:Nat),s<ps.length→∀x∈abvU ps s,∃j,j<ps.length∧1≤j∧nth ps j=x:=by
 intro s
 induction s using Nat.strongRecOn with
 | _ s ih=>
  intro hs x hx
  by_cases h0:s=0
  ·subst h0;rw [QqD] at hx;cases hx
  ·have hp:=hv s (by omega) hs
   rw [Qlg hv (by omega) hs] at hx
   rcases List.mem_cons.1 hx with rfl|hx
   ·exact ⟨s,hs,by omega,by omega⟩
   ·exact ih (nth ps s).toNat (by omega) (by omega) x hx
theorem Qmm {t:Topo} (ht:TopoOk t) {x:Int} (hx:QaY t x<t.parents.length) {s:Nat} (hs:QcQ t.parents (s:Int)=true):Ql5 t (s:Int) x=decide (QaY t x=s):=by
 rw [Bool.eq_iff_iff,decide_eq_true_eq]
 show hasI (abv t.parents (QaY t x)) (s:Int)=true↔_
 rw [Qc6,abv,List.mem_cons]
 constructor
 ·rintro (h|h)
  ·omega
  ·obtain ⟨j,h1,h2,h3⟩:=Qum ht.valid _ hx _ h
   exact absurd h3 (Qec.1 hs j h1 h2)
 ·intro h;exact .inl (by omega)
theorem Qc0 {t:Topo} (ht:TopoOk t) {m:List Int} (hm:∀x∈m,QaY t x<t.parents.length) {s:Nat} (hs:QcQ t.parents (s:Int)=true):Qa9 t m (s:Int)=m.filter fun x=>decide (QaY t x=s):=
 List.filter_congr fun x hx=>Qmm ht (hm x hx) hs
theorem Qqw {α:Type} {p q:α→Bool} (hpq:∀x,q x=true→p x=true):∀(l:List α),(l.filter q).length≤(l.filter p).length
 | []=>Nat.le_refl _
 | x::l=>by
  have ih:=Qqw hpq l
  rw [List.filter_cons,List.filter_cons]
  cases hq:q x with
  | true=>rw [hpq x hq];simp only [if_true,List.length_cons];omega
  | false=>
   cases hp:p x with
   | true=>simp only [if_true,Bool.false_eq_true,if_false,List.length_cons];omega
   | false=>simpa using ih
theorem Qry {α:Type} {p q:α→Bool} (hpq:∀x,q x=true→p x=true):∀{l:List α} {a:α},a∈l→p a=true→q a=false→(l.filter q).length<(l.filter p).length
 | [],_,h,_,_=>by cases h
 | x::l,a,h,hp,hq=>by
  have hle:=Qqw hpq l
  rw [List.filter_cons,List.filter_cons]
  rcases List.mem_cons.1 h with rfl|h
  ·rw [hp,hq]
   simp only [if_true,Bool.false_eq_true,if_false,List.length_cons];omega
  ·have ih:=Qry hpq h hp hq
   cases hqx:q x with
   | true=>rw [hpq x hqx];simp only [if_true,List.length_cons];omega
   | false=>
    cases hpx:p x with
    | true=>simp only [if_true,Bool.false_eq_true,if_false,List.length_cons];omega
    | false=>simpa using ih
def cand (t:Topo) (m tk:List Int) (s:Nat):Prop:=0<cntU t m s∧(Qfq t.parents (s:Int)).length=0∧hasI tk (s:Int)=false
theorem Qqj {t:Topo} {m tk:List Int}:∀(i:Nat),(0≤lfU t m tk i→cand t m tk (lfU t m tk i).toNat)∧∀s,s<i→cand t m tk s→0≤lfU t m tk i
 | 0=>⟨fun h=>by simp [lfU] at h,fun s hs=>absurd hs (Nat.not_lt_zero _)⟩
 | i+1=>by
  obtain ⟨h1,h2⟩:=Qqj (t:=t) (m:=m) (tk:=tk) i
  rw [QtO]
  unfold lfS
  split
  ·rename_i h
   exact ⟨fun _=>⟨h.1,h.2.1,h.2.2.1⟩,fun _ _ _=>by omega⟩
  ·rename_i h
   refine ⟨h1,fun s hs hc=>?_⟩
   by_cases e:s=i
   ·subst e
    by_cases hb:lfU t m tk s<0
    ·exact absurd ⟨hc.1,hc.2.1,hc.2.2,.inl hb⟩ h
    ·omega
   ·exact h2 s (by omega) hc
theorem QuT {t:Topo} {m tk:List Int} {s:Nat} (hs:s<t.parents.length) (hc:cand t m tk s):(0≤lfI t m tk∧lfI t m tk<t.parents.length)∧cand t m tk (lfI t m tk).toNat:=by
 obtain ⟨h1,h2⟩:=Qqj (t:=t) (m:=m) (tk:=tk) t.parents.length
 have h3:=Qnv (t:=t) (l:=m) (tk:=tk) t.parents.length
 have h4:0≤lfI t m tk:=h2 s hs hc
 exact ⟨⟨h4,h3.2⟩,h1 h4⟩
theorem Qgs {ps:List Int} {s:Int}:(Qfq ps s).length=0↔QcQ ps s=true:=by
 rw [List.length_eq_zero_iff,QiS]
def cntT (t:Topo) (m tk:List Int):Nat:=(m.filter fun x=>hasI tk (QaY t x:Int)).length
theorem QuM (t:Topo) (m:List Int):cntT t m []=0:=by
 unfold cntT
 rw [List.length_eq_zero_iff,List.filter_eq_nil_iff]
 intro x _
 simp [hasI]
theorem Qi4 {tk:List Int} {s x:Int}:hasI (tk++[s]) x=(hasI tk x||decide (x=s)):=by
 rw [Bool.eq_iff_iff,Qc6,Bool.or_eq_true,Qc6,decide_eq_true_eq,List.mem_append,List.mem_singleton]
theorem Qsd {α:Type} {p q:α→Bool} (h:∀x,p x=true→q x=false):∀(l:List α),(l.filter fun x=>p x||q x).length=(l.filter p).length+(l.filter q).length
 | []=>rfl
 | x::l=>by
  have ih:=Qsd h l
  rw [List.filter_cons,List.filter_cons,List.filter_cons]
  cases hp:p x with
  | true=>rw [h x hp];simp only [Bool.true_or,if_true,Bool.false_eq_true,if_false,List.length_cons];omega
  | false=>
   cases hq:q x with
   | true=>simp only [Bool.or_true,if_true,Bool.false_eq_true,if_false,List.length_cons];omega
   | false=>simpa using ih
theorem Qs6 {t:Topo} (ht:TopoOk t) {m tk:List Int} (hm:∀x∈m,QaY t x<t.parents.length) {s:Nat} (hs:QcQ t.parents (s:Int)=true) (hn:hasI tk (s:Int)=false):cntT t m (tk++[(s:Int)])=cntT t m tk+cntU t m s:=by
 unfold cntT cntU
 rw [Qc0 ht hm hs,←Qsd]
 ·congr 1
  refine List.filter_congr fun x _=>?_
  rw [Qi4]
  congr 1
  rw [Bool.eq_iff_iff,decide_eq_true_eq,decide_eq_true_eq];omega
 ·intro x hx
  rw [decide_eq_false_iff_not]
  intro e
  rw [e,hn] at hx
  cases hx
theorem Qr7 {t:Topo} {m tk:List Int} (h:cntT t m tk<m.length):∃x∈m,hasI tk (QaY t x:Int)=false:=by
 refine Classical.byContradiction fun hn=>?_
 have:cntT t m tk=m.length:=by
  unfold cntT
  rw [List.filter_eq_self.2 fun x hx=>?_]
  cases hh:hasI tk (QaY t x:Int) with
  | true=>rfl
  | false=>exact absurd ⟨x,hx,hh⟩ hn
 omega
def QdS (n:Int) (out g:List Int):List Int:=g.foldl (fun o x=>if (o.length:Int)<n then rise x o else o) out
theorem QhQ (n:Int):∀(l:List Int),(rise n l).length=l.length+1
 | []=>rfl
 | x::l=>by
  unfold rise
  split
  ·rfl
  ·simp [QhQ n l]
theorem QfV {n:Int}:∀(g out:List Int),(out.length:Int)≤n→((QdS n out g).length:Int)=min n (out.length+g.length)
 | [],out,h=>by simp [QdS];omega
 | x::g,out,h=>by
  have e:QdS n out (x::g)=QdS n (if (out.length:Int)<n then rise x out else out) g:=rfl
  rw [e]
  split
  ·rw [QfV g _ (by rw [QhQ];omega),QhQ,List.length_cons]
   push_cast
   omega
  ·rw [QfV g _ h,List.length_cons]
   push_cast
   omega
def chR (t:Topo) (m:List Int) (n:Int):Nat→List Int→List Int→List Int
 | 0,out,_=>out
 | f+1,out,tk=>if (out.length:Int)<n then chR t m n f (QdS n out (Qa9 t m (lfI t m tk))) (tk++[lfI t m tk]) else out
def untk (t:Topo) (tk:List Int):Nat:=((List.range t.parents.length).filter fun (s:Nat)=>!hasI tk (s:Int)).length
structure ChJ (t:Topo) (m:List Int) (n:Int) (out tk:List Int):Prop where
 len:(out.length:Int)=min n (cntT t m tk)
theorem Qn6 {t:Topo} (ht:TopoOk t) {m:List Int} {n:Int} {out tk:List Int} (hm:∀x∈m,QaY t x<t.parents.length∧QcQ t.parents (QaY t x:Int)=true) (hn:n≤m.length) (hj:ChJ t m n out tk) (hl:(out.length:Int)<n) :
  (0≤lfI t m tk∧lfI t m tk<t.parents.length)∧ChJ t m n (QdS n out (Qa9 t m (lfI t m tk))) (tk++[lfI t m tk])∧untk t (tk++[lfI t m tk])<untk t tk:=by
 have hc:cntT t m tk<m.length:=by have:=hj.len;omega
 obtain ⟨x,hx,hh⟩:=Qr7 hc
 obtain ⟨hx1,hx2⟩:=hm x hx
 have hcx:cand t m tk (QaY t x):=by
  refine ⟨?_,Qgs.2 hx2,hh⟩
  unfold cntU
  rw [Qc0 ht (fun y hy=>(hm y hy).1) hx2]
  exact List.length_pos_iff.2 (List.ne_nil_of_mem (List.mem_filter.2 ⟨hx,by simp⟩))
 obtain ⟨h1,h2,h3,h4⟩:=QuT hx1 hcx
 have e:((lfI t m tk).toNat:Int)=lfI t m tk:=by omega
 rw [e] at h3 h4
 have hlf:=Qgs.1 h3
 refine ⟨h1,⟨?_⟩,?_⟩
 ·rw [QfV _ _ (by omega),hj.len]
  have h5:=Qs6 ht (fun y hy=>(hm y hy).1) (s:=(lfI t m tk).toNat) (tk:=tk) (by rw [e];exact hlf) (by rw [e];exact h4)
  have h6:cntU t m (lfI t m tk).toNat=(Qa9 t m (lfI t m tk)).length:=by unfold cntU;rw [e]
  rw [e] at h5
  rw [h5,h6]
  push_cast
  omega
 ·unfold untk
  refine Qry (a:=(lfI t m tk).toNat) (fun s hs=>?_) (List.mem_range.2 (by omega)) ?_ ?_
  ·rw [Qi4] at hs
   simp only [Bool.not_or,Bool.and_eq_true] at hs
   exact hs.1
  ·rw [e,h4];rfl
  ·rw [e,Qi4];simp
end Go.Proofs.YtelbahebpmkfjaaGreat
namespace Go.Proofs.YtelbahebpmkfjaaGreat
open Go Go.RowKit
attribute [local irreducible] AWp Qat OpOk ACalls ChA QsOk MCalls EnC PY
theorem Qk5 {t:Topo} {l:List Int} {n most:Int}:∀(i:Nat),0≤swU t l n most i→n≤(cntU t l (swU t l n most i).toNat:Int)
 | 0=>fun h=>by simp [swU] at h
 | i+1=>by
  have ih:=Qk5 (t:=t) (l:=l) (n:=n) (most:=most) i
  rw [Qt5]
  unfold swS
  split
  ·rename_i h
   intro _
   exact h.1
  ·exact ih
def QdB (t:Topo) (l:List Int) (n most:Int):Option (List Int):=if swI t l n most<0 then none else some (chR t (Qa9 t l (swI t l n most)) n (t.parents.length+1) [] [])
@[reducible] def optI (o:Option (List Int)):List AV:=[.d (.sl (intE (o.getD []))),.d (.b o.isSome)]
theorem QoZ {n:Int} {out g:List Int} {j:Nat} (h:j<g.length):QdS n out (g.take (j+1))=if ((QdS n out (g.take j)).length:Int)<n then rise (nth g j) (QdS n out (g.take j)) else QdS n out (g.take j):=by
 have e:nth g j=g[j]:=by simp [nth,h]
 rw [List.take_succ_eq_append_getElem h,QdS,List.foldl_append,e]
 rfl
theorem QmF (t:Topo) (tk:List Int):untk t tk≤t.parents.length:=by
 unfold untk
 exact Nat.le_trans (List.length_filter_le _ _) (by rw [List.length_range];exact Nat.le_refl _)
theorem QdJ {t:Topo} (ht:TopoOk t) {l:List Int} (hl:Qbj t l):∀x∈l,QaY t x<t.parents.length∧QcQ t.parents (QaY t x:Int)=true:=fun x hx=>by
 obtain ⟨j,hj,rfl⟩:∃j,j<l.length∧nth l j=x:=by
  obtain ⟨i,hi,e⟩:=List.getElem_of_mem hx
  exact ⟨i,hi,by rw [nth,List.getD_eq_getElem?_getD,List.getElem?_eq_getElem hi];exact e⟩
 obtain ⟨h1,h2⟩:=ht.leaf hl hj
 have h3:=hl j hj
 have h4:=(ht.nodes (nth l j).toNat (by omega)).2.1
 rw [h2] at h4
 exact ⟨h1,h4⟩
theorem Qst {t:Topo} {l:List Int} {s:Int}:∀x∈Qa9 t l s,x∈l:=fun _ hx=>(List.mem_filter.1 hx).1
theorem QfD {t:Topo} {l:List Int}:Qbj t l↔∀x∈l,0≤x∧x<t.nodes.length:=by
 constructor
 ·intro h x hx
  obtain ⟨i,hi,e⟩:=List.getElem_of_mem hx
  have:=h i hi
  rw [nth,List.getD_eq_getElem?_getD,List.getElem?_eq_getElem hi] at this
  rw [←e];exact this
 ·intro h j hj
  exact h _ (QaO hj)
theorem Qdj {t:Topo} {l:List Int} {s:Int} (h:Qbj t l):Qbj t (Qa9 t l s):=QfD.2 fun x hx=>QfD.1 h x (Qst x hx)
theorem Quy {t:Topo} {l:List Int} {n most:Int} (ht:TopoOk t) (hl:Qbj t l) (ha:ascP l) (hn:1≤n) (hll:l.length≤1000000):DC Tryz.prog 322 [Qcw t,.d (.sl (intE l)),.d (.n .i64 n),.d (.n .i64 most)] (optI (QdB t l n most)):=by
 refine Qag tt Tryz.func322 rfl rfl rfl trivial (fun _ _=>⟨trivial,trivial⟩) (fun w0 Z O=>?_)
 have htl:=ht.len
 have htn:=ht.nlen
 have hle:=Qad l
 have c1:=Qg4 (t:=t) (l:=l) (by omega) (by omega) (by omega)
 rw [Qd0.2 ⟨hl,ht⟩] at c1
 repeat' (first|refine zst ?_|(refine zhm fun hb=>?_;try exact zab)|refine zdr ?_|(apply zch;exact zcg)|refine HopS.mk fun w0 Z O=>?_|exact zhk|refine zg3 ?_ ?_|refine zln fun _=>?_|refine zop ?_|refine kc (c1) rfl rfl ?_|refine kq (c1) rfl rfl ?_|fail)
 refine Qae (fun (i:Nat)=>⟨89,[(1,.d (.sl (intE l))),(2,.d (.n .i64 n)),(3,.d (.n .i64 most)),(4,.ptr 4 0),(27,.d (.n .i64 (l.length:Nat))),(28,.d (.n .i64 i))],[(4,.box 37 (QcU t))]⟩) (fun i=>i≤l.length) (fun i=>l.length - i) 0 (by exact Nat.zero_le _) ?_ ?_
 ·refine ⟨rfl,?_,?_,rfl⟩
  repeat'(first|apply And.intro|exact ze0|refine ze1 ?_|refine zei ?_ ?_|exact rfl|trivial)
  all_goals exact Stop.mk (by first|rfl|exact Qad _)
 intro k hk
 by_cases hk':k<l.length
 ·by_cases hk0:k=0
  ·subst hk0
   repeat' (first|refine zst ?_|(refine zhm fun hb=>?_;try exact zab)|(apply QaT 6;kernel_rfl;exact rfl)|refine zdr ?_|(apply zch;exact zcg)|refine HopS.mk fun w0 Z O=>?_|exact zhk|refine zg3 ?_ ?_|refine zln fun _=>?_|refine zop ?_|fail)
   refine ⟨0+1,by omega,by omega,?_⟩
   exact ⟨rfl,zae,zae,rfl⟩
  ·have has:=ha (k - 1) (by omega)
   rw [show k - 1+1=k by omega] at has
   repeat' (first|refine zst ?_|(refine zhm fun hb=>?_;try exact zab)|(apply QaT 6;kernel_rfl;exact rfl)|refine zdr ?_|(apply zch;exact zcg)|refine HopS.mk fun w0 Z O=>?_|exact zhk|refine zg3 ?_ ?_|refine zln fun _=>?_|refine zop ?_|fail)
   refine ⟨k+1,by omega,by omega,?_⟩
   exact ⟨rfl,zae,zae,rfl⟩
 have c2:=QmT (t:=t) (l:=l) (n:=n) (most:=most) ht hl hll
 have hin:=QlF (t:=t) (l:=l) (n:=n) (most:=most) t.parents.length
 have hok:=Qk5 (t:=t) (l:=l) (n:=n) (most:=most) t.parents.length
 rw [show swU t l n most t.parents.length=swI t l n most from rfl] at hin hok
 by_cases hneg:swI t l n most<0
 ·rw [show QdB t l n most=none from if_pos hneg]
  repeat' (first|refine zsr ?_|(refine zhm fun hb=>?_;try exact zab)|refine zdr ?_|(apply zch;exact zcg)|refine HopS.mk fun w0 Z O=>?_|exact zhk|refine zg3 ?_ ?_|refine zln fun _=>?_|refine zop ?_|refine kc (c2) rfl rfl ?_|refine kq (c2) rfl rfl ?_|fail)
  show AWp _ _ _ _
  refine Qac ?_
  apply Qab
  exact zm () [] trivial zae zae zae
 have hs0:((swI t l n most).toNat:Int)=swI t l n most:=by omega
 have hcn:=hok (by omega)
 unfold cntU at hcn
 rw [hs0] at hcn
 rw [show QdB t l n most=some (chR t (Qa9 t l (swI t l n most)) n (t.parents.length+1) [] []) from if_neg hneg]
 have c3:=Qgw (t:=t) (l:=l) (s:=swI t l n most) ht hl (by omega)
 have hml:=QbT (t:=t) (l:=l) (s:=swI t l n most)
 have hmi:=Qdj (s:=swI t l n most) hl
 generalize Qa9 t l (swI t l n most)=m at hcn c3 hml hmi
 have hmf:=QdJ ht hmi
 have hle2:=Qad m
 repeat' (first|refine zst ?_|(refine zhm fun hb=>?_;try exact zab)|refine zdr ?_|(apply zch;exact zcg)|refine HopS.mk fun w0 Z O=>?_|exact zhk|refine zg3 ?_ ?_|refine zln fun _=>?_|refine zop ?_|refine kc (c2) rfl rfl ?_|(refine km [] (c3) rfl rfl (fun i hi=>?_);(try dsimp only at hi))|refine kq (c2) rfl rfl ?_|fail)
 refine Qav 57 rfl ?_
 refine Qae (fun (x:Nat×List Int×List Int)=>⟨89,[(2,.d (.n .i64 n)),(4,.ptr 4 0),(12,.d (.sl (intE m))),(13,.d (.sl (intE x.2.1))),(14,.row 58)],[(4,.box 37 (QcU t)),(58,.row 3 (intE x.2.2) true)]⟩) (fun x=>ChJ t m n x.2.1 x.2.2∧x.2.2.length≤24∧untk t x.2.2+x.2.2.length≤t.parents.length∧untk t x.2.2<x.1∧chR t m n x.1 x.2.1 x.2.2=chR t m n (t.parents.length+1) [] []) (fun x=>x.1) (t.parents.length+1,[],[]) (by exact ⟨⟨by rw [QuM];simp;omega⟩,by simp,by have:=QmF t [];simpa using this,by have:=QmF t [];dsimp only;omega,rfl⟩) ?_ ?_
 ·exact ⟨rfl,zae,zae,rfl⟩
 rintro ⟨f,out,tk⟩ ⟨hj,hk1,hk2,hk3,hk4⟩
 dsimp only at hj hk1 hk2 hk3 hk4 ⊢
 have hol:=hj.len
 by_cases hlt:(out.length:Int)<n
 ·obtain ⟨g1,g2,g3⟩:=Qn6 ht hmf hcn hj hlt
  obtain ⟨f',rfl⟩:∃f',f=f'+1:=⟨f - 1,by omega⟩
  have hst:chR t m n (f'+1) out tk=chR t m n f' (QdS n out (Qa9 t m (lfI t m tk))) (tk++[lfI t m tk]):=if_pos hlt
  have c4:=Qrb (t:=t) (l:=m) (tk:=tk) ht hmi (by omega) (by omega)
  have c5:=Qgw (t:=t) (l:=m) (s:=lfI t m tk) ht hmi (by omega)
  have hgl:=QbT (t:=t) (l:=m) (s:=lfI t m tk)
  generalize lfI t m tk=lf at g1 g2 g3 hst c4 c5 hgl
  generalize Qa9 t m lf=g at g2 hst c5 hgl
  have hle3:=Qad g
  repeat' (first|refine zst ?_|(refine zhm fun hb=>?_;try exact zab)|refine zdr ?_|(apply zch;exact zcg)|refine HopS.mk fun w0 Z O=>?_|exact zhk|refine zg3 ?_ ?_|refine zln fun _=>?_|refine zop ?_|refine kc (c4) rfl rfl ?_|(refine km [] (c5) rfl rfl (fun i hi=>?_);(try dsimp only at hi))|refine kq (c4) rfl rfl ?_|fail)
  refine Qae (fun (j:Nat)=>⟨89,[(2,.d (.n .i64 n)),(4,.ptr 4 0),(12,.d (.sl (intE m))),(13,.d (.sl (intE (QdS n out (g.take j))))),(14,.row 58),(74,.d (.sl (intE g))),(75,.d (.n .i64 (g.length:Nat))),(76,.d (.n .i64 j))],[(4,.box 37 (QcU t)),(58,.row 3 (intE (tk++[lf])) true)]⟩) (fun j=>j≤g.length) (fun j=>g.length - j) 0 (by exact Nat.zero_le _) ?_ ?_
  ·refine ⟨rfl,?_,?_,rfl⟩
   repeat'(first|apply And.intro|exact ze0|refine ze1 ?_|refine zei ?_ ?_|exact rfl|trivial)
   all_goals exact Stop.mk (by first|rfl|exact Qad _|exact Qbg _ _)
  intro j hjl
  have htl2:=QfV (n:=n) (g.take j) out (by omega)
  have htl3:((QdS n out (g.take j)).length:Int)≤n:=by omega
  by_cases hj':j<g.length
  ·have hts:=QoZ (n:=n) (out:=out) hj'
   by_cases hlt2:((QdS n out (g.take j)).length:Int)<n
   ·rw [if_pos hlt2] at hts
    repeat' (first|refine zst ?_|(refine zhm fun hb=>?_;try exact zab)|refine zdr ?_|(apply zch;exact zcg)|refine HopS.mk fun w0 Z O=>?_|exact zhk|refine zg3 ?_ ?_|refine zln fun _=>?_|refine zop ?_|(refine km [] (Qlh (l:=QdS n out (g.take j)) (n:=nth g j) (by omega)) rfl rfl (fun i hi=>?_);(try dsimp only at hi))|fail)
    refine ⟨j+1,by omega,by omega,?_⟩
    refine ⟨rfl,?_,?_,rfl⟩
    repeat'(first|apply And.intro|exact ze0|refine ze1 ?_|refine zei ?_ ?_|exact rfl|trivial)
    all_goals exact Stop.mk (by first|rfl|rw [hts])
   ·rw [if_neg hlt2] at hts
    repeat' (first|refine zst ?_|(refine zhm fun hb=>?_;try exact zab)|refine zdr ?_|(apply zch;exact zcg)|refine HopS.mk fun w0 Z O=>?_|exact zhk|refine zg3 ?_ ?_|refine zln fun _=>?_|refine zop ?_|fail)
    refine ⟨j+1,by omega,by omega,?_⟩
    refine ⟨rfl,?_,?_,rfl⟩
    repeat'(first|apply And.intro|exact ze0|refine ze1 ?_|refine zei ?_ ?_|exact rfl|trivial)
    all_goals exact Stop.mk (by first|rfl|rw [hts])
  ·obtain rfl:j=g.length:=by omega
   rw [List.take_length] at *
   repeat' (first|refine zst ?_|(refine zhm fun hb=>?_;try exact zab)|refine zdr ?_|(apply zch;exact zcg)|refine HopS.mk fun w0 Z O=>?_|exact zhk|refine zg3 ?_ ?_|refine zln fun _=>?_|refine zop ?_|fail)
   refine ⟨(f',QdS n out g,tk++[lf]),⟨g2,?_,?_,?_,?_⟩,?_,?_⟩
   ·simp only [List.length_append,List.length_singleton];omega
   ·simp only [List.length_append,List.length_singleton];omega
   ·dsimp only;omega
   ·dsimp only;rw [←hst];exact hk4
   ·dsimp only;omega
   exact ⟨rfl,zae,zae,rfl⟩
 ·have hfin:chR t m n f out tk=out:=by
   cases f with
   | zero=>rfl
   | succ f=>exact if_neg hlt
  rw [←hk4,hfin]
  repeat' (first|refine zsr ?_|(refine zhm fun hb=>?_;try exact zab)|refine zdr ?_|(apply zch;exact zcg)|refine HopS.mk fun w0 Z O=>?_|exact zhk|refine zg3 ?_ ?_|refine zln fun _=>?_|refine zop ?_|fail)
  show AWp _ _ _ _
  refine Qac ?_
  apply Qab
  exact zm () [] trivial zae zae zae
end Go.Proofs.YtelbahebpmkfjaaGreat
