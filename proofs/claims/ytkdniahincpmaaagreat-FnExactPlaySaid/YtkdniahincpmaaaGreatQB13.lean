/-
  Placement: VecFits, the nodes below a switch, a number put into a rising list; both.
-/
import Derived.Test.YtkdniahincpmaaaGreatQB11
set_option maxRecDepth 100000
set_option maxHeartbeats 16000000
namespace Go.Proofs.YtkdniahincpmaaaGreat
open Go Go.RowKit Tryz
section
attribute [local irreducible] AWp QM OpOk ACalls ChA QsOk MCalls EnC PY
def Qf9(t:QX)(s:Int)(n:Int):Bool:=hasI (abv t.parents (nth t.nodes n.toNat).leaf.toNat) s
def Ju(t:QX)(l:List Int)(s:Int):List Int:=l.filter (Qf9 t s)
theorem Qe7{t:QX}{l:List Int}{s:Int}{i:Nat}(h:i<l.length):Ju t (l.take (i+1)) s=if Qf9 t s (nth l i)=true then Ju t (l.take i) s++[nth l i]else Ju t (l.take i) s:=by
 have e:nth l i=l[i]:=by simp[nth,h]
 rw[XaA h,Ju,Xa5,e]
 split
 ·rename_i hb;simp[Ju,hb]
 ·rename_i hb;simp[Ju,hb]
theorem Yr{t:QX}{l:List Int}{s:Int}:(Ju t l s).length<=l.length:=Xa2 _ _
theorem Qp2{t:QX}{l:List Int}{s:Int}(ht:Q3 t)(hl:Jo t l)(hll:l.length<=100000000):DC Tryz.prog 299 [YW t,zL (intE l),zI s] [zL (intE (Ju t l s))]:=by
 refine zMC func299 fun w0 Z O=>?_
 have n:=ht.len
 have o:=ht.nlen
 have m:=Qc l
 repeat'(first|(refine zhm fun hb=>?_;try exact zab)|refine Qd ?_|(apply zch;exact zcg)|exact zhk|refine zg3 ?_ ?_|intro _)
 refine Qa (fun(i:Nat)=>⟨33,[(1,zL (intE l)),(2,zI s),(3,.ptr 3 0),(7,.row 10),(11,zL (intE l)),(12,zI (l.length:Nat)),(13,zI i)],[(3,.box 26 (WH t)),(10,.row 3 (intE (Ju t (l.take i) s)) true)]⟩) (fun i=>i<=l.length) (fun i=>l.length-i) 0 (by exact Xae _) ?_ ?_
 ·exact zll
 ·intro i hi
  have e:=Yr (t:=t) (l:=l.take i) (s:=s)
  rw[Xah]at e
  by_cases c:i<l.length
  ·have k:=hl i c
   obtain⟨h1,_,_⟩:=ht.nodes (nth l i).toNat (by omega)
   have d:(nth t.nodes (nth l i).toNat).leaf=((nth t.nodes (nth l i).toNat).leaf.toNat:Int):=by omega
   have h:=Qrk (t:=t) (s:=(nth t.nodes (nth l i).toNat).leaf.toNat) (by omega) ht.valid (by omega)
   rw[<-d]at h
   have j:=Qha ht.valid (s:=(nth t.nodes (nth l i).toNat).leaf.toNat) (by omega)
   have f:=Vt (l:=abv t.parents (nth t.nodes (nth l i).toNat).leaf.toNat) (x:=s) (by omega)
   have b:=Qe7 (t:=t) (s:=s) c
   have g:nth l i=((nth l i).toNat:Int):=by omega
   cases a:Qf9 t s (nth l i) with
   | true=>
    rw[if_pos a]at b
    rw[show hasI (abv t.parents (nth t.nodes (nth l i).toNat).leaf.toNat) s=true from a]at f
    repeat'(first|(apply QY 5;kernel_rfl;exact rfl)|(refine zhm fun hb=>?_;try exact zab)|refine Qd ?_|(apply zch;exact zcg)|exact zhk|refine zg3 ?_ ?_|intro _)
    refine⟨i+1,by omega,by omega,?_⟩
    refine zag ?_;exact zp (by(rw[b];exact JG _ _))
   | false=>
    rw[if_neg (by rw[a];simp)]at b
    rw[show hasI (abv t.parents (nth t.nodes (nth l i).toNat).leaf.toNat) s=false from a]at f
    repeat'(first|(apply QY 5;kernel_rfl;exact rfl)|(refine zhm fun hb=>?_;try exact zab)|refine Qd ?_|(apply zch;exact zcg)|exact zhk|refine zg3 ?_ ?_|intro _)
    refine⟨i+1,by omega,by omega,?_⟩
    refine zag ?_;exact zp (by rw[b])
  ·obtain rfl:i=l.length:=by omega
   repeat'(first|(refine zhm fun hb=>?_;try exact zab)|refine Q2 ?_|(apply zch;exact zcg)|exact zhk|refine zg3 ?_ ?_|intro _)
   show AWp _ _ _ _
   refine Qp 10 rfl ?_
   refine QA ?_
   apply Qs
   refine zm () [] trivial ?_ ?_ ?_
   repeat'(first|exact ze3|refine ze2 ?_ ?_|refine ze4 ?_|exact ze5|fail)
   all_goals exact zp (by first|rfl|rw[Xal])
theorem Qck{t:QX}{l:List Int}{s:Int}(ht:Q3 t)(hl:Jo t l)(hll:l.length<=100000000):DC Tryz.prog 346 [YW t,zL (intE l),zI s] [zL (intE (Ju t l s))]:=by
 refine zMC func346 fun w0 Z O=>?_
 have p:=ht.len
 have r:=ht.nlen
 have o:=Qc l
 repeat'(first|(refine zhm fun hb=>?_;try exact zab)|refine Qd ?_|(apply zch;exact zcg)|exact zhk|refine zg3 ?_ ?_|intro _)
 refine Qa (fun(i:Nat)=>⟨33,[(1,zL (intE l)),(2,zI s),(3,.ptr 3 0),(7,.row 10),(11,zL (intE l)),(12,zI (l.length:Nat)),(13,zI i)],[(3,.box 26 (WH t)),(10,.row 3 (intE (Ju t (l.take i) s)) true)]⟩) (fun i=>i<=l.length) (fun i=>l.length-i) 0 (by exact Xae _) ?_ ?_
 ·exact zll
 ·intro i hi
  have f:=Yr (t:=t) (l:=l.take i) (s:=s)
  rw[Xah]at f
  by_cases d:i<l.length
  ·have m:=hl i d
   obtain⟨h1,_,_⟩:=ht.nodes (nth l i).toNat (by omega)
   have e:(nth t.nodes (nth l i).toNat).leaf=((nth t.nodes (nth l i).toNat).leaf.toNat:Int):=by omega
   have j:=QrG (t:=t) (s:=(nth t.nodes (nth l i).toNat).leaf.toNat) (by omega) ht.valid (by omega)
   rw[<-e]at j
   have k:=Qha ht.valid (s:=(nth t.nodes (nth l i).toNat).leaf.toNat) (by omega)
   have g:=WX (l:=abv t.parents (nth t.nodes (nth l i).toNat).leaf.toNat) (x:=s) (by omega)
   have c:=Qe7 (t:=t) (s:=s) d
   have h:nth l i=((nth l i).toNat:Int):=by omega
   cases b:Qf9 t s (nth l i) with
   | true=>
    rw[if_pos b]at c
    rw[show hasI (abv t.parents (nth t.nodes (nth l i).toNat).leaf.toNat) s=true from b]at g
    repeat'(first|(apply QY 5;kernel_rfl;exact rfl)|(refine zhm fun hb=>?_;try exact zab)|refine Qd ?_|(apply zch;exact zcg)|exact zhk|refine zg3 ?_ ?_|intro _)
    refine⟨i+1,by omega,by omega,?_⟩
    refine zag ?_;exact zp (by(rw[c];exact JG _ _))
   | false=>
    rw[if_neg (by rw[b];simp)]at c
    rw[show hasI (abv t.parents (nth t.nodes (nth l i).toNat).leaf.toNat) s=false from b]at g
    repeat'(first|(apply QY 5;kernel_rfl;exact rfl)|(refine zhm fun hb=>?_;try exact zab)|refine Qd ?_|(apply zch;exact zcg)|exact zhk|refine zg3 ?_ ?_|intro _)
    refine⟨i+1,by omega,by omega,?_⟩
    refine zag ?_;exact zp (by rw[c])
  ·obtain rfl:i=l.length:=by omega
   repeat'(first|(refine zhm fun hb=>?_;try exact zab)|refine Q2 ?_|(apply zch;exact zcg)|exact zhk|refine zg3 ?_ ?_|intro _)
   show AWp _ _ _ _
   refine Qp 10 rfl ?_
   refine QA ?_
   apply Qs
   refine zm () [] trivial ?_ ?_ ?_
   repeat'(first|exact ze3|refine ze2 ?_ ?_|refine ze4 ?_|exact ze5|fail)
   all_goals exact zp (by first|rfl|rw[Xal])
def rise(n:Int):List Int->List Int
 | []=>[n]
 | x::l=>if n<x then n::x::l else x::rise n l
def QcX(n:Int)(q:List Int×Bool)(x:Int):List Int×Bool:=if q.2=false/\n<x then(q.1++[n]++[x],true) else(q.1++[x],q.2)
def QbF(n:Int)(l:List Int):List Int×Bool:=l.foldl (QcX n) ([],false)
theorem QmV{n:Int}{l:List Int}{i:Nat}(h:i<l.length):QbF n (l.take (i+1))=QcX n (QbF n (l.take i)) (nth l i):=by
 have e:nth l i=l[i]:=by simp[nth,h]
 rw[XaA h,QbF,XaN,e]
 rfl
theorem Qdv{n:Int}:∀(l:List Int) (a:List Int),(let q:=l.foldl (QcX n) (a,false);if q.2=true then q.1 else q.1++[n])=a++rise n l/\(l.foldl (QcX n) (a,true))=(a++l,true)
 | [],a=>by simp[rise]
 | x::l,a=>by
  obtain⟨h1,_⟩:=Qdv (n:=n) l (a++[x])
  have h2:=(Qdv (n:=n) l (a++[n]++[x])).2
  have h3:=(Qdv (n:=n) l (a++[x])).2
  constructor
  ·simp only[Xa4,QcX,rise]
   by_cases hn:n<x
   ·simp only[hn,and_self,if_true]
    rw[h2]
    simp
   ·simp only[hn,and_false,if_false]
    simpa using h1
  ·simp only[Xa4,QcX,Bool.true_eq_false,false_and,if_false]
   rw[h3]
   simp
theorem Qsv{n:Int}{l:List Int}:(if(QbF n l).2=true then(QbF n l).1 else(QbF n l).1++[n])=rise n l:=by
 have:=(Qdv (n:=n) l []).1
 rw[Xba]at this
 exact this
theorem Qrh(n:Int)(q:List Int×Bool)(x:Int):(QcX n q x).1.length+(if(QcX n q x).2=true then 0 else 1)=q.1.length+(if q.2=true then 0 else 1)+1:=by
 unfold QcX
 split
 ·rename_i h
  rw[h.1];simp
 ·simp;split <;> omega
theorem Qpf(n:Int):∀(l:List Int),(QbF n l).1.length<=l.length+1:=by
 intro l
 have a:∀(l:List Int) (q:List Int×Bool),(l.foldl (QcX n) q).1.length+(if(l.foldl (QcX n) q).2=true then 0 else 1)=q.1.length+(if q.2=true then 0 else 1)+l.length:=by
  intro l
  induction l with
  | nil=>intro q;rfl
  | cons x l ih=>intro q;rw[Xa4,ih,Qrh,Xap];omega
 have:=a l ([],false)
 simp at this
 unfold QbF
 omega
theorem QgG{α:Type}{l:List α}{i:Nat}(h:i<=l.length):(l.take i).length=i:=by rw[Xah];omega
theorem QiF{l:List Int}{n:Int}(hl:l.length<=100000000):DC Tryz.prog 305 [zL (intE l),zI n] [zL (intE (rise n l))]:=by
 refine zMC func305 fun w0 Z O=>?_
 have p:=Qc l
 repeat'(first|(refine zhm fun hb=>?_;try exact zab)|refine zUtp ?_|refine zg2 ?_ ?_|intro _)
 refine Qa (fun(i:Nat)=>⟨39,[(1,zI n),(5,.row 9),(6,.d (.b (QbF n (l.take i)).2)),(10,zL (intE l)),(11,zI (l.length:Nat)),(12,zI i)],[(9,.row 3 (intE (QbF n (l.take i)).1) true)]⟩) (fun i=>i<=l.length) (fun i=>l.length-i) 0 (by exact Xae _) ?_ ?_
 ·exact zll
 ·intro i m
  have j:=Qpf n (l.take i)
  rw[QgG m]at j
  by_cases g:i<l.length
  ·have c:=QmV (n:=n) g
   unfold QcX at c
   cases e:(QbF n (l.take i)).2 with
   | true=>
    rw[e,if_neg (by simp)]at c
    repeat'(first|(refine zhm fun hb=>?_;try exact zab)|refine zUtp ?_|refine zg2 ?_ ?_|intro _)
    refine⟨i+1,by omega,by omega,?_⟩
    refine⟨rfl,?_,?_,rfl⟩
    repeat'(first|exact ze3|refine ze2 ?_ ?_|refine ze4 ?_|exact ze5|fail)
    all_goals exact zp (by first|rfl|(rw[c];exact JG _ _)|rw[c])
   | false=>
    by_cases k:n<nth l i
    ·rw[e,if_pos ⟨rfl,k⟩]at c
     have o:(intE (QbF n (l.take i)).1++[[D.n .i64 n]]).length=(QbF n (l.take i)).1.length+1:=by simp[intE]
     repeat'(first|(refine zhm fun hb=>?_;try exact zab)|refine zUtp ?_|refine zg2 ?_ ?_|intro _)
     refine⟨i+1,by omega,by omega,?_⟩
     refine⟨rfl,?_,?_,rfl⟩
     repeat'(first|exact ze3|refine ze2 ?_ ?_|refine ze4 ?_|exact ze5|fail)
     all_goals exact zp (by first|rfl|(rw[c];simp[intE];done)|rw[c])
    ·rw[e,if_neg (fun h=>k h.2)]at c
     repeat'(first|(refine zhm fun hb=>?_;try exact zab)|refine zUtp ?_|refine zg2 ?_ ?_|intro _)
     refine⟨i+1,by omega,by omega,?_⟩
     refine⟨rfl,?_,?_,rfl⟩
     repeat'(first|exact ze3|refine ze2 ?_ ?_|refine ze4 ?_|exact ze5|fail)
     all_goals exact zp (by first|rfl|(rw[c];exact JG _ _)|rw[c])
  ·obtain rfl:i=l.length:=by omega
   rw[Xal]at *
   have f:=Qsv (n:=n) (l:=l)
   cases e:(QbF n l).2 with
   | true=>
    rw[e,if_pos rfl]at f
    repeat'(first|(refine zhm fun hb=>?_;try exact zab)|refine zUrp ?_|refine zg2 ?_ ?_|intro _)
    show AWp _ _ _ _
    refine Qp 9 rfl ?_
    refine QA ?_
    apply Qs
    refine zm () [] trivial ?_ ?_ ?_
    repeat'(first|exact ze3|refine ze2 ?_ ?_|refine ze4 ?_|exact ze5|fail)
    all_goals exact zp (by first|rfl|rw[f])
   | false=>
    rw[e,if_neg (by simp)]at f
    repeat'(first|(refine zhm fun hb=>?_;try exact zab)|refine zUrp ?_|refine zg2 ?_ ?_|intro _)
    show AWp _ _ _ _
    refine Qp 9 rfl ?_
    refine QA ?_
    apply Qs
    refine zm () [] trivial ?_ ?_ ?_
    repeat'(first|exact ze3|refine ze2 ?_ ?_|refine ze4 ?_|exact ze5|fail)
    all_goals exact zp (by first|rfl|(rw[<-f];exact JG _ _))
def befB(a b:Job):Bool:=decide (b.prio<a.prio)||(decide (a.prio=b.prio)&&decide (a.id<b.id))
theorem QkM{a b:Job}:zAc 274 [jobA a,jobA b] [.d (.b (befB a b))] []:=by
 refine zAC func274 fun w0 Z=>?_
 unfold befB
 by_cases c:b.prio<a.prio
 ·rw[decide_eq_true c]
  repeat'(first|(refine zhm fun hb=>?_;try exact zab)|refine zUto ?_|refine zg2 ?_ ?_|intro _)
  exact zrr
 ·rw[decide_eq_false c]
  by_cases e:a.prio=b.prio
  ·rw[decide_eq_true e]
   repeat'(first|(refine zhm fun hb=>?_;try exact zab)|refine zUto ?_|refine zg2 ?_ ?_|intro _)
   all_goals
    refine zr [] ?_ ?_
    repeat'(first|exact ze3|refine ze2 ?_ ?_|refine ze4 ?_|exact ze5|fail)
    all_goals exact zp (by first|rfl|(simp;omega))
  ·rw[decide_eq_false e]
   repeat'(first|(refine zhm fun hb=>?_;try exact zab)|refine zUto ?_|refine zg2 ?_ ?_|intro _)
   all_goals
    refine zr [] ?_ ?_
    repeat'(first|exact ze3|refine ze2 ?_ ?_|refine ze4 ?_|exact ze5|fail)
    all_goals exact zp (by first|rfl|(simp;omega))
def cntU(t:QX)(l:List Int)(s:Nat):Nat:=(Ju t l (s:Int)).length
def swS(t:QX)(l:List Int)(n most:Int)(best:Int)(s:Nat):Int:=
 if n<=(cntU t l s:Int)/\lvl t.parents s<=most/\(best<0\/lvl t.parents s<lvl t.parents best.toNat\/lvl t.parents s=lvl t.parents best.toNat/\cntU t l s<cntU t l best.toNat) then(s:Int)else best
def swU(t:QX)(l:List Int)(n most:Int)(i:Nat):Int:=(List.range i).foldl (swS t l n most) (-1)
theorem QrC{t:QX}{l:List Int}{n most:Int}{i:Nat}:swU t l n most (i+1)=swS t l n most (swU t l n most i) i:=by
 unfold swU
 rw[XbR,XaN]
 rfl
theorem QfC{t:QX}{l:List Int}{n most:Int}:∀(i:Nat),-1<=swU t l n most i/\swU t l n most i<i
 | 0=>by simp[swU]
 | i+1=>by
  have:=QfC (t:=t) (l:=l) (n:=n) (most:=most) i
  rw[QrC]
  unfold swS
  split <;> omega
def swI(t:QX)(l:List Int)(n most:Int):Int:=swU t l n most t.parents.length
theorem Qf3{t:QX}(ht:Q3 t){s:Nat}(hs:s<t.parents.length):zAc 208 [YW t,zI s] [zI (lvl t.parents s)] []:=by
 have a:=ht.len
 rw[<-Qk6 ht.valid ht.even hs]
 exact Zs (by omega) ht.valid (t.parents.length-s) s (by omega) hs
theorem QkD{t:QX}{l:List Int}{n most:Int}(ht:Q3 t)(hl:Jo t l)(hll:l.length<=1000000):zAc 345 [YW t,zL (intE l),zI n,zI most] [zI (swI t l n most)] []:=by
 refine zAC func345 fun w0 Z=>?_
 have q:=ht.len
 have r:=ht.nlen
 have p:=Qc l
 repeat'(first|(refine zhm fun hb=>?_;try exact zab)|refine zUtp ?_|refine zg2 ?_ ?_|intro _)
 refine Qa (fun(i:Nat)=>⟨63,[(1,zL (intE l)),(2,zI n),(3,zI most),(4,.ptr 4 0),(9,zI (swU t l n most i)),(15,zI (t.parents.length:Nat)),(16,zI i)],[(4,.box 26 (WH t))]⟩) (fun i=>i<=t.parents.length) (fun i=>t.parents.length-i) 0 (by exact Xae _) ?_ ?_
 ·exact zll
 ·intro k o
  by_cases b:k<t.parents.length
  ·have hb:=QfC (t:=t) (l:=l) (n:=n) (most:=most) k
   have a:=QrC (t:=t) (l:=l) (n:=n) (most:=most) (i:=k)
   unfold swS at a
   have u:=Yr (t:=t) (l:=l) (s:=(k:Int))
   have m:(Ju t l (k:Int)).length=cntU t l k:=rfl
   have c:=Qck (t:=t) (l:=l) (s:=(k:Int)) ht hl (by omega)
   have c2:=Qf3 ht b
   by_cases e:swU t l n most k<0
   ·repeat'(first|(refine zhm fun hb=>?_;try exact zab)|refine zUtp ?_|refine zg2 ?_ ?_|refine kmu c ?_|intro _)
    all_goals
     refine⟨k+1,by omega,by omega,?_⟩
     refine⟨rfl,?_,?_,rfl⟩
     repeat'(first|exact ze3|refine ze2 ?_ ?_|refine ze4 ?_|exact ze5|fail)
     all_goals exact zp (by first|rfl|(rw[a,if_pos ⟨by omega,by omega,.inl (by omega)⟩])|(rw[a,if_neg (fun h=>by omega)]))
   ·have f:=Yr (t:=t) (l:=l) (s:=swU t l n most k)
    have d:(Ju t l (swU t l n most k)).length=cntU t l (swU t l n most k).toNat:=by unfold cntU;rw[Xbi (by omega)]
    have g:=Qck (t:=t) (l:=l) (s:=swU t l n most k) ht hl (by omega)
    have j:=Qf3 ht (s:=(swU t l n most k).toNat) (by omega)
    rw[Xbi (by omega)]at j
    repeat'(first|(refine zhm fun hb=>?_;try exact zab)|refine zUtp ?_|refine zg2 ?_ ?_|refine kmu c ?_|refine kmu g ?_|intro _)
    all_goals
     refine⟨k+1,by omega,by omega,?_⟩
     refine⟨rfl,?_,?_,rfl⟩
     repeat'(first|exact ze3|refine ze2 ?_ ?_|refine ze4 ?_|exact ze5|fail)
     all_goals exact zp (by first|rfl|(rw[a,if_pos ⟨by omega,by omega,.inr (.inl (by omega))⟩])|(rw[a,if_pos ⟨by omega,by omega,.inr (.inr ⟨by omega,by omega⟩)⟩])|(rw[a,if_neg (fun h=>by omega)]))
  ·obtain rfl:k=t.parents.length:=by omega
   repeat'(first|(refine zhm fun hb=>?_;try exact zab)|refine zUtp ?_|refine zg2 ?_ ?_|intro _)
   exact zrr
def lfS(t:QX)(l tk:List Int)(best:Int)(s:Nat):Int:=
 if 0<cntU t l s/\(Qag t.parents (s:Int)).length=0/\hasI tk (s:Int)=false/\(best<0\/cntU t l best.toNat<cntU t l s) then(s:Int)else best
def lfU(t:QX)(l tk:List Int)(i:Nat):Int:=(List.range i).foldl (lfS t l tk) (-1)
theorem Qti{t:QX}{l tk:List Int}{i:Nat}:lfU t l tk (i+1)=lfS t l tk (lfU t l tk i) i:=by
 unfold lfU
 rw[XbR,XaN]
 rfl
theorem Qmu{t:QX}{l tk:List Int}:∀(i:Nat),-1<=lfU t l tk i/\lfU t l tk i<i
 | 0=>by simp[lfU]
 | i+1=>by
  have:=Qmu (t:=t) (l:=l) (tk:=tk) i
  rw[Qti]
  unfold lfS
  split <;> omega
def lfI(t:QX)(l tk:List Int):Int:=lfU t l tk t.parents.length
theorem Qrc{t:QX}{l tk:List Int}(ht:Q3 t)(hl:Jo t l)(hll:l.length<=1000000)(htk:tk.length<=1000000):zAc 347 [YW t,zL (intE l),zL (intE tk)] [zI (lfI t l tk)] []:=by
 refine zAC func347 fun w0 Z=>?_
 have q:=ht.len
 have r:=ht.nlen
 have p:=Qc l
 repeat'(first|(refine zhm fun hb=>?_;try exact zab)|refine zUtp ?_|refine zg2 ?_ ?_|intro _)
 refine Qa (fun(i:Nat)=>⟨49,[(1,zL (intE l)),(2,zL (intE tk)),(3,.ptr 3 0),(7,zI (lfU t l tk i)),(12,zI (t.parents.length:Nat)),(13,zI i)],[(3,.box 26 (WH t))]⟩) (fun i=>i<=t.parents.length) (fun i=>t.parents.length-i) 0 (by exact Xae _) ?_ ?_
 ·exact zll
 ·intro k o
  by_cases n:k<t.parents.length
  ·have hb:=Qmu (t:=t) (l:=l) (tk:=tk) k
   have a:=Qti (t:=t) (l:=l) (tk:=tk) (i:=k)
   unfold lfS at a
   have u:=Yr (t:=t) (l:=l) (s:=(k:Int))
   have m:(Ju t l (k:Int)).length=cntU t l k:=rfl
   have c:=Qck (t:=t) (l:=l) (s:=(k:Int)) ht hl (by omega)
   have c2:=Qei (t:=t) (s:=(k:Int)) (by omega) (by omega)
   cases b:hasI tk (k:Int) with
   | true=>
    have d:=WX (l:=tk) (x:=(k:Int)) (by omega)
    rw[b]at d
    repeat'(first|(refine zhm fun hb=>?_;try exact zab)|refine zUtp ?_|refine zg2 ?_ ?_|refine kmu c ?_|intro _)
    all_goals
     refine⟨k+1,by omega,by omega,?_⟩
     refine⟨rfl,?_,?_,rfl⟩
     repeat'(first|exact ze3|refine ze2 ?_ ?_|refine ze4 ?_|exact ze5|fail)
     all_goals exact zp (by first|rfl|(rw[a,if_neg (fun h=>by rw[b]at h;simp at h)]))
   | false=>
    have d:=WX (l:=tk) (x:=(k:Int)) (by omega)
    rw[b]at d
    by_cases f:lfU t l tk k<0
    ·repeat'(first|(refine zhm fun hb=>?_;try exact zab)|refine zUtp ?_|refine zg2 ?_ ?_|refine kmu c ?_|intro _)
     all_goals
      refine⟨k+1,by omega,by omega,?_⟩
      refine⟨rfl,?_,?_,rfl⟩
      repeat'(first|exact ze3|refine ze2 ?_ ?_|refine ze4 ?_|exact ze5|fail)
      all_goals exact zp (by first|rfl|(rw[a,if_pos ⟨by omega,by omega,b,.inl (by omega)⟩])|(rw[a,if_neg (fun h=>by omega)]))
    ·have g:=Yr (t:=t) (l:=l) (s:=lfU t l tk k)
     have e:(Ju t l (lfU t l tk k)).length=cntU t l (lfU t l tk k).toNat:=by unfold cntU;rw[Xbi (by omega)]
     have j:=Qck (t:=t) (l:=l) (s:=lfU t l tk k) ht hl (by omega)
     repeat'(first|(refine zhm fun hb=>?_;try exact zab)|refine zUtp ?_|refine zg2 ?_ ?_|refine kmu c ?_|refine kmu j ?_|intro _)
     all_goals
      refine⟨k+1,by omega,by omega,?_⟩
      refine⟨rfl,?_,?_,rfl⟩
      repeat'(first|exact ze3|refine ze2 ?_ ?_|refine ze4 ?_|exact ze5|fail)
      all_goals exact zp (by first|rfl|(rw[a,if_pos ⟨by omega,by omega,b,.inr (by omega)⟩])|(rw[a,if_neg (fun h=>by omega)]))
  ·obtain rfl:k=t.parents.length:=by omega
   repeat'(first|(refine zhm fun hb=>?_;try exact zab)|refine zUtp ?_|refine zg2 ?_ ?_|intro _)
   exact zrr
end
section

theorem WR{l:List Int}{x:Int}:hasI l x=true↔x∈l:=by
 unfold hasI
 rw[XaV]
 constructor
 ·rintro ⟨y,a,e⟩
  rw[beq_iff_eq]at e
  exact e▸a
 ·intro h
  exact⟨x,h,by simp⟩
theorem Qtc{ps:List Int}(hv:Yc ps):∀(s:Nat),s<ps.length->∀x∈abvU ps s,∃j,j<ps.length/\1<=j/\nth ps j=x:=by
 intro s
 induction s using Nat.strongRecOn with
 | _ s ih=>
  intro b x a
  by_cases c:s=0
  ·subst c;rw[QpT]at a;cases a
  ·have hp:=hv s (by omega) b
   rw[QhQ hv (by omega) b]at a
   rcases Xai.1 a with rfl|a
   ·exact⟨s,b,by omega,by omega⟩
   ·exact ih (nth ps s).toNat (by omega) (by omega) x a
theorem Qkq{t:QX}(ht:Q3 t){x:Int}(hx:Jc t x<t.parents.length){s:Nat}(hs:Wx t.parents (s:Int)=true):Qf9 t (s:Int) x=decide (Jc t x=s):=by
 rw[Xan,decide_eq_true_eq]
 show hasI (abv t.parents (Jc t x)) (s:Int)=true↔_
 rw[WR,abv,Xai]
 constructor
 ·rintro (h|h)
  ·omega
  ·obtain⟨j,a,b,c⟩:=Qtc ht.valid _ hx _ h
   exact absurd c (Zx.1 hs j a b)
 ·intro h;exact .inl (by omega)
theorem WQ{t:QX}(ht:Q3 t){m:List Int}(hm:∀x∈m,Jc t x<t.parents.length){s:Nat}(hs:Wx t.parents (s:Int)=true):Ju t m (s:Int)=m.filter fun x=>decide (Jc t x=s):=
 Xb7 fun x hx=>Qkq ht (hm x hx) hs
theorem QpB{α:Type}{p q:α->Bool}(hpq:∀x,q x=true->p x=true):∀(l:List α),(l.filter q).length<=(l.filter p).length
 | []=>Xaj _
 | x::l=>by
  have ih:=QpB hpq l
  rw[Xa7,Xa7]
  cases hq:q x with
  | true=>rw[hpq x hq];simp only[if_true,Xap];omega
  | false=>
   cases hp:p x with
   | true=>simp only[if_true,XaT,if_false,Xap];omega
   | false=>simpa using ih
theorem Qon{α:Type}{p q:α->Bool}(hpq:∀x,q x=true->p x=true):∀{l:List α} {a:α},a∈l->p a=true->q a=false->(l.filter q).length<(l.filter p).length
 | [],_,h,_,_=>by cases h
 | x::l,a,h,hp,hq=>by
  have hle:=QpB hpq l
  rw[Xa7,Xa7]
  rcases Xai.1 h with rfl|h
  ·rw[hp,hq]
   simp only[if_true,XaT,if_false,Xap];omega
  ·have ih:=Qon hpq h hp hq
   cases hqx:q x with
   | true=>rw[hpq x hqx];simp only[if_true,Xap];omega
   | false=>
    cases hpx:p x with
    | true=>simp only[if_true,XaT,if_false,Xap];omega
    | false=>simpa using ih
def cand(t:QX)(m tk:List Int)(s:Nat):Prop:=0<cntU t m s/\(Qag t.parents (s:Int)).length=0/\hasI tk (s:Int)=false
theorem Qo0{t:QX}{m tk:List Int}:∀(i:Nat),(0<=lfU t m tk i->cand t m tk (lfU t m tk i).toNat)/\∀s,s<i->cand t m tk s->0<=lfU t m tk i
 | 0=>⟨fun h=>by simp[lfU]at h,fun s hs=>absurd hs (Nat.not_lt_zero _)⟩
 | i+1=>by
  obtain⟨h1,h2⟩:=Qo0 (t:=t) (m:=m) (tk:=tk) i
  rw[Qti]
  unfold lfS
  split
  ·rename_i h
   exact⟨fun _=>⟨h.1,h.2.1,h.2.2.1⟩,fun _ _ _=>by omega⟩
  ·rename_i h
   refine⟨h1,fun s hs hc=>?_⟩
   by_cases e:s=i
   ·subst e
    by_cases hb:lfU t m tk s<0
    ·exact absurd ⟨hc.1,hc.2.1,hc.2.2,.inl hb⟩ h
    ·omega
   ·exact h2 s (by omega) hc
theorem Qux{t:QX}{m tk:List Int}{s:Nat}(hs:s<t.parents.length)(hc:cand t m tk s):(0<=lfI t m tk/\lfI t m tk<t.parents.length)/\cand t m tk (lfI t m tk).toNat:=by
 obtain⟨b,c⟩:=Qo0 (t:=t) (m:=m) (tk:=tk) t.parents.length
 have d:=Qmu (t:=t) (l:=m) (tk:=tk) t.parents.length
 have a:0<=lfI t m tk:=c s hs hc
 exact⟨⟨a,d.2⟩,b a⟩
theorem Qbw{ps:List Int}{s:Int}:(Qag ps s).length=0↔Wx ps s=true:=by
 rw[Xbl,Qd5]
def cntT(t:QX)(m tk:List Int):Nat:=(m.filter fun x=>hasI tk (Jc t x:Int)).length
theorem Quy(t:QX)(m:List Int):cntT t m []=0:=by
 unfold cntT
 rw[Xbl,Xb0]
 intro x _
 simp[hasI]
theorem Qek{tk:List Int}{s x:Int}:hasI (tk++[s]) x=(hasI tk x||decide (x=s)):=by
 rw[Xan,WR,Xcw,WR,decide_eq_true_eq,Xag,XaH]
theorem QqR{α:Type}{p q:α->Bool}(h:∀x,p x=true->q x=false):∀(l:List α),(l.filter fun x=>p x||q x).length=(l.filter p).length+(l.filter q).length
 | []=>rfl
 | x::l=>by
  have ih:=QqR h l
  rw[Xa7,Xa7,Xa7]
  cases hp:p x with
  | true=>rw[h x hp];simp only[Bool.true_or,if_true,XaT,if_false,Xap];omega
  | false=>
   cases hq:q x with
   | true=>simp only[Bool.or_true,if_true,XaT,if_false,Xap];omega
   | false=>simpa using ih
theorem QtQ{t:QX}(ht:Q3 t){m tk:List Int}(hm:∀x∈m,Jc t x<t.parents.length){s:Nat}(hs:Wx t.parents (s:Int)=true)(hn:hasI tk (s:Int)=false):cntT t m (tk++[(s:Int)])=cntT t m tk+cntU t m s:=by
 unfold cntT cntU
 rw[WQ ht hm hs,<-QqR]
 ·congr 1
  refine Xb7 fun x _=>?_
  rw[Qek]
  congr 1
  rw[Xan,decide_eq_true_eq,decide_eq_true_eq];omega
 ·intro x a
  rw[decide_eq_false_iff_not]
  intro e
  rw[e,hn]at a
  cases a
theorem Qpn{t:QX}{m tk:List Int}(h:cntT t m tk<m.length):∃x∈m,hasI tk (Jc t x:Int)=false:=by
 refine Classical.byContradiction fun hn=>?_
 have:cntT t m tk=m.length:=by
  unfold cntT
  rw[XcC.2 fun x hx=>?_]
  cases a:hasI tk (Jc t x:Int) with
  | true=>rfl
  | false=>exact absurd ⟨x,hx,a⟩ hn
 omega
def WB(n:Int)(out g:List Int):List Int:=g.foldl (fun o x=>if(o.length:Int)<n then rise x o else o) out
theorem Qdp(n:Int):∀(l:List Int),(rise n l).length=l.length+1
 | []=>rfl
 | x::l=>by
  unfold rise
  split
  ·rfl
  ·simp[Qdp n l]
theorem Qbo{n:Int}:∀(g out:List Int),(out.length:Int)<=n->((WB n out g).length:Int)=min n (out.length+g.length)
 | [],out,h=>by simp[WB];omega
 | x::g,out,h=>by
  have e:WB n out (x::g)=WB n (if(out.length:Int)<n then rise x out else out) g:=rfl
  rw[e]
  split
  ·rw[Qbo g _ (by rw[Qdp];omega),Qdp,Xap]
   push_cast
   omega
  ·rw[Qbo g _ h,Xap]
   push_cast
   omega
def chR(t:QX)(m:List Int)(n:Int):Nat->List Int->List Int->List Int
 | 0,out,_=>out
 | f+1,out,tk=>if(out.length:Int)<n then chR t m n f (WB n out (Ju t m (lfI t m tk))) (tk++[lfI t m tk])else out
def untk(t:QX)(tk:List Int):Nat:=((List.range t.parents.length).filter fun(s:Nat)=>!hasI tk (s:Int)).length
structure ChJ (t:QX) (m:List Int) (n:Int) (out tk:List Int):Prop where
 len:(out.length:Int)=min n (cntT t m tk)
theorem QlN{t:QX}(ht:Q3 t){m:List Int}{n:Int}{out tk:List Int}(hm:∀x∈m,Jc t x<t.parents.length/\Wx t.parents (Jc t x:Int)=true)(hn:n<=m.length)(hj:ChJ t m n out tk)(hl:(out.length:Int)<n) :
  (0<=lfI t m tk/\lfI t m tk<t.parents.length)/\ChJ t m n (WB n out (Ju t m (lfI t m tk))) (tk++[lfI t m tk])/\untk t (tk++[lfI t m tk])<untk t tk:=by
 have o:cntT t m tk<m.length:=by have:=hj.len;omega
 obtain⟨x,j,p⟩:=Qpn o
 obtain⟨g,b⟩:=hm x j
 have d:cand t m tk (Jc t x):=by
  refine⟨?_,Qbw.2 b,p⟩
  unfold cntU
  rw[WQ ht (fun y hy=>(hm y hy).1) b]
  exact Xbd.2 (List.ne_nil_of_mem (XaB.2 ⟨j,by simp⟩))
 obtain⟨k,h2,h,c⟩:=Qux g d
 have e:((lfI t m tk).toNat:Int)=lfI t m tk:=by omega
 rw[e]at h c
 have f:=Qbw.1 h
 refine⟨k,⟨?_⟩,?_⟩
 ·rw[Qbo _ _ (by omega),hj.len]
  have i:=QtQ ht (fun y hy=>(hm y hy).1) (s:=(lfI t m tk).toNat) (tk:=tk) (by rw[e];exact f) (by rw[e];exact c)
  have l:cntU t m (lfI t m tk).toNat=(Ju t m (lfI t m tk)).length:=by unfold cntU;rw[e]
  rw[e]at i
  rw[i,l]
  push_cast
  omega
 ·unfold untk
  refine Qon (a:=(lfI t m tk).toNat) (fun s hs=>?_) (XbZ.2 (by omega)) ?_ ?_
  ·rw[Qek]at hs
   simp only[Bool.not_or,Xac]at hs
   exact hs.1
  ·rw[e,c];rfl
  ·rw[e,Qek];simp
end
section
attribute [local irreducible] AWp QM OpOk ACalls ChA QsOk MCalls EnC PY
theorem Qi5{t:QX}{l:List Int}{n most:Int}:∀(i:Nat),0<=swU t l n most i->n<=(cntU t l (swU t l n most i).toNat:Int)
 | 0=>fun h=>by simp[swU]at h
 | i+1=>by
  have ih:=Qi5 (t:=t) (l:=l) (n:=n) (most:=most) i
  rw[QrC]
  unfold swS
  split
  ·rename_i h
   intro _
   exact h.1
  ·exact ih
def WJ(t:QX)(l:List Int)(n most:Int):Option (List Int):=if swI t l n most<0 then none else some (chR t (Ju t l (swI t l n most)) n (t.parents.length+1) [] [])
@[reducible] def optI (o:Option (List Int)):List AV:=[zL (intE (o.getD [])),.d (.b o.isSome)]
theorem QnJ{n:Int}{out g:List Int}{j:Nat}(h:j<g.length):WB n out (g.take (j+1))=if((WB n out (g.take j)).length:Int)<n then rise (nth g j) (WB n out (g.take j))else WB n out (g.take j):=by
 have e:nth g j=g[j]:=by simp[nth,h]
 rw[XaA h,WB,XaN,e]
 rfl
theorem QjN(t:QX)(tk:List Int):untk t tk<=t.parents.length:=by
 unfold untk
 exact Xam (Xa2 _ _) (by rw[List.length_range];exact Xaj _)
theorem V7{t:QX}(ht:Q3 t){l:List Int}(hl:Jo t l):∀x∈l,Jc t x<t.parents.length/\Wx t.parents (Jc t x:Int)=true:=fun x hx=>by
 obtain⟨j,hj,rfl⟩:∃j,j<l.length/\nth l j=x:=by
  obtain⟨i,b,e⟩:=Xbh hx
  exact⟨i,b,by rw[nth,List.getD_eq_getElem?_getD,List.getElem?_eq_getElem b];exact e⟩
 obtain⟨c,d⟩:=ht.leaf hl hj
 have h3:=hl j hj
 have a:=(ht.nodes (nth l j).toNat (by omega)).2.1
 rw[d]at a
 exact⟨c,a⟩
theorem QbL{t:QX}{l:List Int}{s:Int}:∀x∈Ju t l s,x∈l:=fun _ hx=>(XaB.1 hx).1
theorem WP{t:QX}{l:List Int}:Jo t l↔∀x∈l,0<=x/\x<t.nodes.length:=by
 constructor
 ·intro h x c
  obtain⟨i,a,e⟩:=Xbh c
  have:=h i a
  rw[nth,List.getD_eq_getElem?_getD,List.getElem?_eq_getElem a]at this
  rw[<-e];exact this
 ·intro h j b
  exact h _ (QE b)
theorem Vl{t:QX}{l:List Int}{s:Int}(h:Jo t l):Jo t (Ju t l s):=WP.2 fun x hx=>WP.1 h x (QbL x hx)
theorem Qsd{t:QX}{l:List Int}{n most:Int}(ht:Q3 t)(hl:Jo t l)(ha:ascP l)(hn:1<=n)(hll:l.length<=1000000):DC Tryz.prog 307 [YW t,zL (intE l),zI n,zI most] (optI (WJ t l n most)):=by
 refine zMC func307 fun w0 Z O=>?_
 have ay:=ht.len
 have az:=ht.nlen
 have aw:=Qc l
 have c1:=Qce (t:=t) (l:=l) (by omega) (by omega) (by omega)
 rw[Zo.2 ⟨hl,ht⟩]at c1
 repeat'(first|(refine zhm fun hb=>?_;try exact zab)|refine Qd ?_|(apply zch;exact zcg)|exact zhk|refine zg3 ?_ ?_|intro _)
 refine Qa (fun(i:Nat)=>⟨89,[(1,zL (intE l)),(2,zI n),(3,zI most),(4,.ptr 4 0),(27,zI (l.length:Nat)),(28,zI i)],[(4,.box 26 (WH t))]⟩) (fun i=>i<=l.length) (fun i=>l.length-i) 0 (by exact Xae _) ?_ ?_
 ·exact zll
 intro k hk
 by_cases av:k<l.length
 ·by_cases ac:k=0
  ·subst ac
   repeat'(first|(apply QY 6;kernel_rfl;exact rfl)|(refine zhm fun hb=>?_;try exact zab)|refine Qd ?_|(apply zch;exact zcg)|exact zhk|refine zg3 ?_ ?_|intro _)
   exact⟨0+1,by omega,by omega,zll⟩
  ·have y:=ha (k-1) (by omega)
   rw[show k-1+1=k by omega]at y
   repeat'(first|(apply QY 6;kernel_rfl;exact rfl)|(refine zhm fun hb=>?_;try exact zab)|refine Qd ?_|(apply zch;exact zcg)|exact zhk|refine zg3 ?_ ?_|intro _)
   exact⟨k+1,by omega,by omega,zll⟩
 have c2:=QkD (t:=t) (l:=l) (n:=n) (most:=most) ht hl hll
 have z:=QfC (t:=t) (l:=l) (n:=n) (most:=most) t.parents.length
 have u:=Qi5 (t:=t) (l:=l) (n:=n) (most:=most) t.parents.length
 rw[show swU t l n most t.parents.length=swI t l n most from rfl]at z u
 by_cases e:swI t l n most<0
 ·rw[show WJ t l n most=none from if_pos e]
  repeat'(first|(refine zhm fun hb=>?_;try exact zab)|refine Q2 ?_|(apply zch;exact zcg)|exact zhk|refine zg3 ?_ ?_|intro _)
  exact zDR
 have ai:((swI t l n most).toNat:Int)=swI t l n most:=by omega
 have a:=u (by omega)
 unfold cntU at a
 rw[ai]at a
 rw[show WJ t l n most=some (chR t (Ju t l (swI t l n most)) n (t.parents.length+1) [] []) from if_neg e]
 have c3:=Qck (t:=t) (l:=l) (s:=swI t l n most) ht hl (by omega)
 have ah:=Yr (t:=t) (l:=l) (s:=swI t l n most)
 have b:=Vl (s:=swI t l n most) hl
 generalize Ju t l (swI t l n most)=m at a c3 ah b
 have ag:=V7 ht b
 have ak:=Qc m
 repeat'(first|(refine zhm fun hb=>?_;try exact zab)|refine Qd ?_|(apply zch;exact zcg)|exact zhk|refine zg3 ?_ ?_|refine kmu c3 ?_|intro _)
 refine Qp 57 rfl ?_
 refine Qa (fun(x:Nat×List Int×List Int)=>⟨89,[(2,zI n),(4,.ptr 4 0),(12,zL (intE m)),(13,zL (intE x.2.1)),(14,.row 58)],[(4,.box 26 (WH t)),(58,.row 3 (intE x.2.2) true)]⟩) (fun x=>ChJ t m n x.2.1 x.2.2/\x.2.2.length<=24/\untk t x.2.2+x.2.2.length<=t.parents.length/\untk t x.2.2<x.1/\chR t m n x.1 x.2.1 x.2.2=chR t m n (t.parents.length+1) [] []) (fun x=>x.1) (t.parents.length+1,[],[]) (by exact⟨⟨by rw[Quy];simp;omega⟩,by simp,by have:=QjN t [];simpa using this,by have:=QjN t [];dsimp only;omega,rfl⟩) ?_ ?_
 ·exact zll
 rintro ⟨f,out,tk⟩ ⟨hj,ad,ae,af,h⟩
 dsimp only at hj ad ae af h ⊢
 have ax:=hj.len
 by_cases o:(out.length:Int)<n
 ·obtain⟨g1,w,g3⟩:=QlN ht ag a hj o
  obtain⟨f',rfl⟩:∃f',f=f'+1:=⟨f-1,by omega⟩
  have p:chR t m n (f'+1) out tk=chR t m n f' (WB n out (Ju t m (lfI t m tk))) (tk++[lfI t m tk]):=if_pos o
  have c4:=Qrc (t:=t) (l:=m) (tk:=tk) ht b (by omega) (by omega)
  have v:=Qck (t:=t) (l:=m) (s:=lfI t m tk) ht b (by omega)
  have r:=Yr (t:=t) (l:=m) (s:=lfI t m tk)
  generalize lfI t m tk=lf at g1 w g3 p c4 v r
  generalize Ju t m lf=g at w p v r
  have al:=Qc g
  repeat'(first|(refine zhm fun hb=>?_;try exact zab)|refine Qd ?_|(apply zch;exact zcg)|exact zhk|refine zg3 ?_ ?_|refine kmu v ?_|intro _)
  refine Qa (fun(j:Nat)=>⟨89,[(2,zI n),(4,.ptr 4 0),(12,zL (intE m)),(13,zL (intE (WB n out (g.take j)))),(14,.row 58),(74,zL (intE g)),(75,zI (g.length:Nat)),(76,zI j)],[(4,.box 26 (WH t)),(58,.row 3 (intE (tk++[lf])) true)]⟩) (fun j=>j<=g.length) (fun j=>g.length-j) 0 (by exact Xae _) ?_ ?_
  ·refine⟨rfl,?_,?_,rfl⟩
   repeat'(first|exact ze3|refine ze2 ?_ ?_|refine ze4 ?_|exact ze5|fail)
   all_goals exact zp (by first|rfl|exact Qc _|exact JG _ _)
  intro j au
  have am:=Qbo (n:=n) (g.take j) out (by omega)
  have an:((WB n out (g.take j)).length:Int)<=n:=by omega
  by_cases ab:j<g.length
  ·have c:=QnJ (n:=n) (out:=out) ab
   by_cases d:((WB n out (g.take j)).length:Int)<n
   ·rw[if_pos d]at c
    repeat'(first|(refine zhm fun hb=>?_;try exact zab)|refine Qd ?_|(apply zch;exact zcg)|exact zhk|refine zg3 ?_ ?_|(refine km [] (QiF (l:=WB n out (g.take j)) (n:=nth g j) (by omega)) rfl rfl (fun i hi=>?_);try dsimp only at hi)|intro _)
    refine⟨j+1,by omega,by omega,?_⟩
    refine zag ?_;exact zp (by rw[c])
   ·rw[if_neg d]at c
    repeat'(first|(refine zhm fun hb=>?_;try exact zab)|refine Qd ?_|(apply zch;exact zcg)|exact zhk|refine zg3 ?_ ?_|intro _)
    refine⟨j+1,by omega,by omega,?_⟩
    refine zag ?_;exact zp (by rw[c])
  ·obtain rfl:j=g.length:=by omega
   rw[Xal]at *
   repeat'(first|(refine zhm fun hb=>?_;try exact zab)|refine Qd ?_|(apply zch;exact zcg)|exact zhk|refine zg3 ?_ ?_|intro _)
   refine⟨(f',WB n out g,tk++[lf]),⟨w,?_,?_,?_,?_⟩,?_,?_⟩
   ·simp only[Xab,XaF];omega
   ·simp only[Xab,XaF];omega
   ·dsimp only;omega
   ·dsimp only;rw[<-p];exact h
   ·dsimp only;omega
   exact zll
 ·have q:chR t m n f out tk=out:=by
   cases f with
   | zero=>rfl
   | succ f=>exact if_neg o
  rw[<-h,q]
  repeat'(first|(refine zhm fun hb=>?_;try exact zab)|refine Q2 ?_|(apply zch;exact zcg)|exact zhk|refine zg3 ?_ ?_|intro _)
  exact zDR
end
end Go.Proofs.YtkdniahincpmaaaGreat
