/-
  Placement: VecFits, the nodes below a switch, a number put into a rising list; both.
-/
import Derived.Test.YtihgfennoalocaaGreatKB7
import Derived.Test.YtihgfennoalocaaGreatKB11
import Derived.Test.YtihgfennoalocaaGreatKB9
set_option maxRecDepth 100000
set_option maxHeartbeats 16000000
namespace Go.Proofs.YtihgfennoalocaaGreat
open Go Go.RowKit Tryz
section
attribute [local irreducible] AWp QJ OpOk ACalls ChA QsOk MCalls EnC PY
def Qg8(t:QW)(s:Int)(n:Int):Bool:=hasI (abv t.parents (nth t.nodes n.toNat).leaf.toNat) s
def Jk(t:QW)(l:List Int)(s:Int):List Int:=l.filter (Qg8 t s)
theorem Qee{t:QW}{l:List Int}{s:Int}{i:Nat}(h:i<l.length):Jk t (l.take (i+1)) s=if Qg8 t s (nth l i)=true then Jk t (l.take i) s++[nth l i]else Jk t (l.take i) s:=by
 have e:nth l i=l[i]:=by simp[nth,h]
 rw[XaB h,Jk,Xa9,e]
 split
 ·rename_i hb;simp[Jk,hb]
 ·rename_i hb;simp[Jk,hb]
theorem Yf{t:QW}{l:List Int}{s:Int}:(Jk t l s).length<=l.length:=Xa1 _ _
theorem Qmv{t:QW}{l:List Int}{s:Int}(ht:QY t)(hl:Jz t l)(hll:l.length<=100000000):DC Tryz.prog 304 [Yy t,zL (intE l),zI s] [zL (intE (Jk t l s))]:=by
 refine zMC func304 fun w0 Z O=>?_
 have htl:=ht.len
 have htn:=ht.nlen
 have hle:=Qb l
 repeat'(first|(refine zhm fun hb=>?_;try exact zab)|refine Qe ?_|(apply zch;exact zcg)|exact zhk|refine zg3 ?_ ?_|intro _|fail)
 refine Qa (fun(i:Nat)=>⟨33,[(1,zL (intE l)),(2,zI s),(3,.ptr 3 0),(7,.row 10),(11,zL (intE l)),(12,zI (l.length:Nat)),(13,zI i)],[(3,.box 43 (We t)),(10,.row 3 (intE (Jk t (l.take i) s)) true)]⟩) (fun i=>i<=l.length) (fun i=>l.length-i) 0 (by exact Xab _) ?_ ?_
 ·exact zll
 ·intro i hi
  have hul:=Yf (t:=t) (l:=l.take i) (s:=s)
  rw[Xai]at hul
  by_cases hi':i<l.length
  ·have hin:=hl i hi'
   obtain⟨h1,_,_⟩:=ht.nodes (nth l i).toNat (by omega)
   have hnl:(nth t.nodes (nth l i).toNat).leaf=((nth t.nodes (nth l i).toNat).leaf.toNat:Int):=by omega
   have c1:=Qog (t:=t) (s:=(nth t.nodes (nth l i).toNat).leaf.toNat) (by omega) ht.valid (by omega)
   rw[<-hnl]at c1
   have hab:=QgA ht.valid (s:=(nth t.nodes (nth l i).toNat).leaf.toNat) (by omega)
   have c2:=WM (l:=abv t.parents (nth t.nodes (nth l i).toNat).leaf.toNat) (x:=s) (by omega)
   have hst:=Qee (t:=t) (s:=s) hi'
   have hnat:nth l i=((nth l i).toNat:Int):=by omega
   cases hb0:Qg8 t s (nth l i) with
   | true=>
    rw[if_pos hb0]at hst
    rw[show hasI (abv t.parents (nth t.nodes (nth l i).toNat).leaf.toNat) s=true from hb0]at c2
    repeat'(first|(apply QB 5;kernel_rfl;exact rfl)|(refine zhm fun hb=>?_;try exact zab)|refine Qe ?_|(apply zch;exact zcg)|exact zhk|refine zg3 ?_ ?_|intro _|fail)
    refine⟨i+1,by omega,by omega,?_⟩
    refine zag ?_;exact zp (by(rw[hst];exact Jt _ _))
   | false=>
    rw[if_neg (by rw[hb0];simp)]at hst
    rw[show hasI (abv t.parents (nth t.nodes (nth l i).toNat).leaf.toNat) s=false from hb0]at c2
    repeat'(first|(apply QB 5;kernel_rfl;exact rfl)|(refine zhm fun hb=>?_;try exact zab)|refine Qe ?_|(apply zch;exact zcg)|exact zhk|refine zg3 ?_ ?_|intro _|fail)
    refine⟨i+1,by omega,by omega,?_⟩
    refine zag ?_;exact zp (by rw[hst])
  ·obtain rfl:i=l.length:=by omega
   repeat'(first|(refine zhm fun hb=>?_;try exact zab)|refine Q7 ?_|(apply zch;exact zcg)|exact zhk|refine zg3 ?_ ?_|intro _|fail)
   show AWp _ _ _ _
   refine Qs 10 rfl ?_
   refine QD ?_
   apply Qt
   refine zm () [] trivial ?_ ?_ ?_
   repeat'(first|exact ze3|refine ze2 ?_ ?_|refine ze4 ?_|exact ze5|fail)
   all_goals exact zp (by first|rfl|rw[Xap])
theorem Qby{t:QW}{l:List Int}{s:Int}(ht:QY t)(hl:Jz t l)(hll:l.length<=100000000):DC Tryz.prog 335 [Yy t,zL (intE l),zI s] [zL (intE (Jk t l s))]:=by
 refine zMC func335 fun w0 Z O=>?_
 have htl:=ht.len
 have htn:=ht.nlen
 have hle:=Qb l
 repeat'(first|(refine zhm fun hb=>?_;try exact zab)|refine Qe ?_|(apply zch;exact zcg)|exact zhk|refine zg3 ?_ ?_|intro _|fail)
 refine Qa (fun(i:Nat)=>⟨33,[(1,zL (intE l)),(2,zI s),(3,.ptr 3 0),(7,.row 10),(11,zL (intE l)),(12,zI (l.length:Nat)),(13,zI i)],[(3,.box 43 (We t)),(10,.row 3 (intE (Jk t (l.take i) s)) true)]⟩) (fun i=>i<=l.length) (fun i=>l.length-i) 0 (by exact Xab _) ?_ ?_
 ·exact zll
 ·intro i hi
  have hul:=Yf (t:=t) (l:=l.take i) (s:=s)
  rw[Xai]at hul
  by_cases hi':i<l.length
  ·have hin:=hl i hi'
   obtain⟨h1,_,_⟩:=ht.nodes (nth l i).toNat (by omega)
   have hnl:(nth t.nodes (nth l i).toNat).leaf=((nth t.nodes (nth l i).toNat).leaf.toNat:Int):=by omega
   have c1:=QnT (t:=t) (s:=(nth t.nodes (nth l i).toNat).leaf.toNat) (by omega) ht.valid (by omega)
   rw[<-hnl]at c1
   have hab:=QgA ht.valid (s:=(nth t.nodes (nth l i).toNat).leaf.toNat) (by omega)
   have c2:=Wp (l:=abv t.parents (nth t.nodes (nth l i).toNat).leaf.toNat) (x:=s) (by omega)
   have hst:=Qee (t:=t) (s:=s) hi'
   have hnat:nth l i=((nth l i).toNat:Int):=by omega
   cases hb0:Qg8 t s (nth l i) with
   | true=>
    rw[if_pos hb0]at hst
    rw[show hasI (abv t.parents (nth t.nodes (nth l i).toNat).leaf.toNat) s=true from hb0]at c2
    repeat'(first|(apply QB 5;kernel_rfl;exact rfl)|(refine zhm fun hb=>?_;try exact zab)|refine Qe ?_|(apply zch;exact zcg)|exact zhk|refine zg3 ?_ ?_|intro _|fail)
    refine⟨i+1,by omega,by omega,?_⟩
    refine zag ?_;exact zp (by(rw[hst];exact Jt _ _))
   | false=>
    rw[if_neg (by rw[hb0];simp)]at hst
    rw[show hasI (abv t.parents (nth t.nodes (nth l i).toNat).leaf.toNat) s=false from hb0]at c2
    repeat'(first|(apply QB 5;kernel_rfl;exact rfl)|(refine zhm fun hb=>?_;try exact zab)|refine Qe ?_|(apply zch;exact zcg)|exact zhk|refine zg3 ?_ ?_|intro _|fail)
    refine⟨i+1,by omega,by omega,?_⟩
    refine zag ?_;exact zp (by rw[hst])
  ·obtain rfl:i=l.length:=by omega
   repeat'(first|(refine zhm fun hb=>?_;try exact zab)|refine Q7 ?_|(apply zch;exact zcg)|exact zhk|refine zg3 ?_ ?_|intro _|fail)
   show AWp _ _ _ _
   refine Qs 10 rfl ?_
   refine QD ?_
   apply Qt
   refine zm () [] trivial ?_ ?_ ?_
   repeat'(first|exact ze3|refine ze2 ?_ ?_|refine ze4 ?_|exact ze5|fail)
   all_goals exact zp (by first|rfl|rw[Xap])
def rise(n:Int):List Int->List Int
 | []=>[n]
 | x::l=>if n<x then n::x::l else x::rise n l
def Qb3(n:Int)(q:List Int×Bool)(x:Int):List Int×Bool:=if q.2=false/\n<x then(q.1++[n]++[x],true) else(q.1++[x],q.2)
def Qas(n:Int)(l:List Int):List Int×Bool:=l.foldl (Qb3 n) ([],false)
theorem QlA{n:Int}{l:List Int}{i:Nat}(h:i<l.length):Qas n (l.take (i+1))=Qb3 n (Qas n (l.take i)) (nth l i):=by
 have e:nth l i=l[i]:=by simp[nth,h]
 rw[XaB h,Qas,XaQ,e]
 rfl
theorem Qcq{n:Int}:∀(l:List Int) (a:List Int),(let q:=l.foldl (Qb3 n) (a,false);if q.2=true then q.1 else q.1++[n])=a++rise n l/\(l.foldl (Qb3 n) (a,true))=(a++l,true)
 | [],a=>by simp[rise]
 | x::l,a=>by
  obtain⟨h1,_⟩:=Qcq (n:=n) l (a++[x])
  have h2:=(Qcq (n:=n) l (a++[n]++[x])).2
  have h3:=(Qcq (n:=n) l (a++[x])).2
  constructor
  ·simp only[Xbj,Qb3,rise]
   by_cases hn:n<x
   ·simp only[hn,and_self,if_true]
    rw[h2]
    simp
   ·simp only[hn,and_false,if_false]
    simpa using h1
  ·simp only[Xbj,Qb3,Bool.true_eq_false,false_and,if_false]
   rw[h3]
   simp
theorem Qqp{n:Int}{l:List Int}:(if(Qas n l).2=true then(Qas n l).1 else(Qas n l).1++[n])=rise n l:=by
 have:=(Qcq (n:=n) l []).1
 rw[Xa5]at this
 exact this
theorem Qn6(n:Int)(q:List Int×Bool)(x:Int):(Qb3 n q x).1.length+(if(Qb3 n q x).2=true then 0 else 1)=q.1.length+(if q.2=true then 0 else 1)+1:=by
 unfold Qb3
 split
 ·rename_i h
  rw[h.1];simp
 ·simp;split <;> omega
theorem Qnf(n:Int):∀(l:List Int),(Qas n l).1.length<=l.length+1:=by
 intro l
 have key:∀(l:List Int) (q:List Int×Bool),(l.foldl (Qb3 n) q).1.length+(if(l.foldl (Qb3 n) q).2=true then 0 else 1)=q.1.length+(if q.2=true then 0 else 1)+l.length:=by
  intro l
  induction l with
  | nil=>intro q;rfl
  | cons x l ih=>intro q;rw[Xbj,ih,Qn6,Xar];omega
 have:=key l ([],false)
 simp at this
 unfold Qas
 omega
theorem Qgi{α:Type}{l:List α}{i:Nat}(h:i<=l.length):(l.take i).length=i:=by rw[Xai];omega
theorem QgE{l:List Int}{n:Int}(hl:l.length<=100000000):DC Tryz.prog 314 [zL (intE l),zI n] [zL (intE (rise n l))]:=by
 refine zMC func314 fun w0 Z O=>?_
 have hle:=Qb l
 repeat'(first|(refine zhm fun hb=>?_;try exact zab)|refine zUtp ?_|refine zg2 ?_ ?_|intro _|fail)
 refine Qa (fun(i:Nat)=>⟨39,[(1,zI n),(5,.row 9),(6,.d (.b (Qas n (l.take i)).2)),(10,zL (intE l)),(11,zI (l.length:Nat)),(12,zI i)],[(9,.row 3 (intE (Qas n (l.take i)).1) true)]⟩) (fun i=>i<=l.length) (fun i=>l.length-i) 0 (by exact Xab _) ?_ ?_
 ·exact zll
 ·intro i hi
  have hrl:=Qnf n (l.take i)
  rw[Qgi hi]at hrl
  by_cases hi':i<l.length
  ·have hst:=QlA (n:=n) hi'
   unfold Qb3 at hst
   cases hd:(Qas n (l.take i)).2 with
   | true=>
    rw[hd,if_neg (by simp)]at hst
    repeat'(first|(refine zhm fun hb=>?_;try exact zab)|refine zUtp ?_|refine zg2 ?_ ?_|intro _|fail)
    refine⟨i+1,by omega,by omega,?_⟩
    refine⟨rfl,?_,?_,rfl⟩
    repeat'(first|exact ze3|refine ze2 ?_ ?_|refine ze4 ?_|exact ze5|fail)
    all_goals exact zp (by first|rfl|(rw[hst];exact Jt _ _)|rw[hst])
   | false=>
    by_cases hn:n<nth l i
    ·rw[hd,if_pos ⟨rfl,hn⟩]at hst
     have hl2:(intE (Qas n (l.take i)).1++[[D.n .i64 n]]).length=(Qas n (l.take i)).1.length+1:=by simp[intE]
     repeat'(first|(refine zhm fun hb=>?_;try exact zab)|refine zUtp ?_|refine zg2 ?_ ?_|intro _|fail)
     refine⟨i+1,by omega,by omega,?_⟩
     refine⟨rfl,?_,?_,rfl⟩
     repeat'(first|exact ze3|refine ze2 ?_ ?_|refine ze4 ?_|exact ze5|fail)
     all_goals exact zp (by first|rfl|(rw[hst];simp[intE];done)|rw[hst])
    ·rw[hd,if_neg (fun h=>hn h.2)]at hst
     repeat'(first|(refine zhm fun hb=>?_;try exact zab)|refine zUtp ?_|refine zg2 ?_ ?_|intro _|fail)
     refine⟨i+1,by omega,by omega,?_⟩
     refine⟨rfl,?_,?_,rfl⟩
     repeat'(first|exact ze3|refine ze2 ?_ ?_|refine ze4 ?_|exact ze5|fail)
     all_goals exact zp (by first|rfl|(rw[hst];exact Jt _ _)|rw[hst])
  ·obtain rfl:i=l.length:=by omega
   rw[Xap]at *
   have he:=Qqp (n:=n) (l:=l)
   cases hd:(Qas n l).2 with
   | true=>
    rw[hd,if_pos rfl]at he
    repeat'(first|(refine zhm fun hb=>?_;try exact zab)|refine zUrp ?_|refine zg2 ?_ ?_|intro _|fail)
    show AWp _ _ _ _
    refine Qs 9 rfl ?_
    refine QD ?_
    apply Qt
    refine zm () [] trivial ?_ ?_ ?_
    repeat'(first|exact ze3|refine ze2 ?_ ?_|refine ze4 ?_|exact ze5|fail)
    all_goals exact zp (by first|rfl|rw[he])
   | false=>
    rw[hd,if_neg (by simp)]at he
    repeat'(first|(refine zhm fun hb=>?_;try exact zab)|refine zUrp ?_|refine zg2 ?_ ?_|intro _|fail)
    show AWp _ _ _ _
    refine Qs 9 rfl ?_
    refine QD ?_
    apply Qt
    refine zm () [] trivial ?_ ?_ ?_
    repeat'(first|exact ze3|refine ze2 ?_ ?_|refine ze4 ?_|exact ze5|fail)
    all_goals exact zp (by first|rfl|(rw[<-he];exact Jt _ _))
def befB(a b:Job):Bool:=decide (b.prio<a.prio)||(decide (a.prio=b.prio)&&decide (a.id<b.id))
theorem QiA{a b:Job}:zAc 318 [jobA a,jobA b] [.d (.b (befB a b))] []:=by
 refine zAC func318 fun w0 Z=>?_
 unfold befB
 by_cases h1:b.prio<a.prio
 ·rw[decide_eq_true h1]
  repeat'(first|(refine zhm fun hb=>?_;try exact zab)|refine zUto ?_|refine zg2 ?_ ?_|intro _|fail)
  exact zrr
 ·rw[decide_eq_false h1]
  by_cases h2:a.prio=b.prio
  ·rw[decide_eq_true h2]
   repeat'(first|(refine zhm fun hb=>?_;try exact zab)|refine zUto ?_|refine zg2 ?_ ?_|intro _|fail)
   all_goals
    refine zr [] ?_ ?_
    repeat'(first|exact ze3|refine ze2 ?_ ?_|refine ze4 ?_|exact ze5|fail)
    all_goals exact zp (by first|rfl|(simp;omega))
  ·rw[decide_eq_false h2]
   repeat'(first|(refine zhm fun hb=>?_;try exact zab)|refine zUto ?_|refine zg2 ?_ ?_|intro _|fail)
   all_goals
    refine zr [] ?_ ?_
    repeat'(first|exact ze3|refine ze2 ?_ ?_|refine ze4 ?_|exact ze5|fail)
    all_goals exact zp (by first|rfl|(simp;omega))
def cntU(t:QW)(l:List Int)(s:Nat):Nat:=(Jk t l (s:Int)).length
def swS(t:QW)(l:List Int)(n most:Int)(best:Int)(s:Nat):Int:=
 if n<=(cntU t l s:Int)/\lvl t.parents s<=most/\(best<0\/lvl t.parents s<lvl t.parents best.toNat\/lvl t.parents s=lvl t.parents best.toNat/\cntU t l s<cntU t l best.toNat) then(s:Int)else best
def swU(t:QW)(l:List Int)(n most:Int)(i:Nat):Int:=(List.range i).foldl (swS t l n most) (-1)
theorem Qrw{t:QW}{l:List Int}{n most:Int}{i:Nat}:swU t l n most (i+1)=swS t l n most (swU t l n most i) i:=by
 unfold swU
 rw[XbP,XaQ]
 rfl
theorem Qij{t:QW}{l:List Int}{n most:Int}:∀(i:Nat),-1<=swU t l n most i/\swU t l n most i<i
 | 0=>by simp[swU]
 | i+1=>by
  have:=Qij (t:=t) (l:=l) (n:=n) (most:=most) i
  rw[Qrw]
  unfold swS
  split <;> omega
def swI(t:QW)(l:List Int)(n most:Int):Int:=swU t l n most t.parents.length
theorem QeU{t:QW}(ht:QY t){s:Nat}(hs:s<t.parents.length):zAc 174 [Yy t,zI s] [zI (lvl t.parents s)] []:=by
 have htl:=ht.len
 rw[<-QkN ht.valid ht.even hs]
 exact VN (by omega) ht.valid (t.parents.length-s) s (by omega) hs
theorem QiM{t:QW}{l:List Int}{n most:Int}(ht:QY t)(hl:Jz t l)(hll:l.length<=1000000):zAc 334 [Yy t,zL (intE l),zI n,zI most] [zI (swI t l n most)] []:=by
 refine zAC func334 fun w0 Z=>?_
 have htl:=ht.len
 have htn:=ht.nlen
 have hle:=Qb l
 repeat'(first|(refine zhm fun hb=>?_;try exact zab)|refine zUtp ?_|refine zg2 ?_ ?_|intro _|fail)
 refine Qa (fun(i:Nat)=>⟨63,[(1,zL (intE l)),(2,zI n),(3,zI most),(4,.ptr 4 0),(9,zI (swU t l n most i)),(15,zI (t.parents.length:Nat)),(16,zI i)],[(4,.box 43 (We t))]⟩) (fun i=>i<=t.parents.length) (fun i=>t.parents.length-i) 0 (by exact Xab _) ?_ ?_
 ·exact zll
 ·intro k hk0
  by_cases hi':k<t.parents.length
  ·have hb:=Qij (t:=t) (l:=l) (n:=n) (most:=most) k
   have hst:=Qrw (t:=t) (l:=l) (n:=n) (most:=most) (i:=k)
   unfold swS at hst
   have hul:=Yf (t:=t) (l:=l) (s:=(k:Int))
   have hcu:(Jk t l (k:Int)).length=cntU t l k:=rfl
   have c1:=Qby (t:=t) (l:=l) (s:=(k:Int)) ht hl (by omega)
   have c2:=QeU ht hi'
   by_cases hneg:swU t l n most k<0
   ·repeat'(first|(refine zhm fun hb=>?_;try exact zab)|refine zUtp ?_|refine zg2 ?_ ?_|refine kmu c1 ?_|intro _|fail)
    all_goals
     refine⟨k+1,by omega,by omega,?_⟩
     refine⟨rfl,?_,?_,rfl⟩
     repeat'(first|exact ze3|refine ze2 ?_ ?_|refine ze4 ?_|exact ze5|fail)
     all_goals exact zp (by first|rfl|(rw[hst,if_pos ⟨by omega,by omega,.inl (by omega)⟩])|(rw[hst,if_neg (fun h=>by omega)]))
   ·have hul2:=Yf (t:=t) (l:=l) (s:=swU t l n most k)
    have hcu2:(Jk t l (swU t l n most k)).length=cntU t l (swU t l n most k).toNat:=by unfold cntU;rw[Xax (by omega)]
    have c3:=Qby (t:=t) (l:=l) (s:=swU t l n most k) ht hl (by omega)
    have c4:=QeU ht (s:=(swU t l n most k).toNat) (by omega)
    rw[Xax (by omega)]at c4
    repeat'(first|(refine zhm fun hb=>?_;try exact zab)|refine zUtp ?_|refine zg2 ?_ ?_|refine kmu c1 ?_|refine kmu c3 ?_|intro _|fail)
    all_goals
     refine⟨k+1,by omega,by omega,?_⟩
     refine⟨rfl,?_,?_,rfl⟩
     repeat'(first|exact ze3|refine ze2 ?_ ?_|refine ze4 ?_|exact ze5|fail)
     all_goals exact zp (by first|rfl|(rw[hst,if_pos ⟨by omega,by omega,.inr (.inl (by omega))⟩])|(rw[hst,if_pos ⟨by omega,by omega,.inr (.inr ⟨by omega,by omega⟩)⟩])|(rw[hst,if_neg (fun h=>by omega)]))
  ·obtain rfl:k=t.parents.length:=by omega
   repeat'(first|(refine zhm fun hb=>?_;try exact zab)|refine zUtp ?_|refine zg2 ?_ ?_|intro _|fail)
   exact zrr
def lfS(t:QW)(l tk:List Int)(best:Int)(s:Nat):Int:=
 if 0<cntU t l s/\(XB t.parents (s:Int)).length=0/\hasI tk (s:Int)=false/\(best<0\/cntU t l best.toNat<cntU t l s) then(s:Int)else best
def lfU(t:QW)(l tk:List Int)(i:Nat):Int:=(List.range i).foldl (lfS t l tk) (-1)
theorem Qrz{t:QW}{l tk:List Int}{i:Nat}:lfU t l tk (i+1)=lfS t l tk (lfU t l tk i) i:=by
 unfold lfU
 rw[XbP,XaQ]
 rfl
theorem QkA{t:QW}{l tk:List Int}:∀(i:Nat),-1<=lfU t l tk i/\lfU t l tk i<i
 | 0=>by simp[lfU]
 | i+1=>by
  have:=QkA (t:=t) (l:=l) (tk:=tk) i
  rw[Qrz]
  unfold lfS
  split <;> omega
def lfI(t:QW)(l tk:List Int):Int:=lfU t l tk t.parents.length
theorem QmW{t:QW}{l tk:List Int}(ht:QY t)(hl:Jz t l)(hll:l.length<=1000000)(htk:tk.length<=1000000):zAc 336 [Yy t,zL (intE l),zL (intE tk)] [zI (lfI t l tk)] []:=by
 refine zAC func336 fun w0 Z=>?_
 have htl:=ht.len
 have htn:=ht.nlen
 have hle:=Qb l
 repeat'(first|(refine zhm fun hb=>?_;try exact zab)|refine zUtp ?_|refine zg2 ?_ ?_|intro _|fail)
 refine Qa (fun(i:Nat)=>⟨49,[(1,zL (intE l)),(2,zL (intE tk)),(3,.ptr 3 0),(7,zI (lfU t l tk i)),(12,zI (t.parents.length:Nat)),(13,zI i)],[(3,.box 43 (We t))]⟩) (fun i=>i<=t.parents.length) (fun i=>t.parents.length-i) 0 (by exact Xab _) ?_ ?_
 ·exact zll
 ·intro k hk0
  by_cases hi':k<t.parents.length
  ·have hb:=QkA (t:=t) (l:=l) (tk:=tk) k
   have hst:=Qrz (t:=t) (l:=l) (tk:=tk) (i:=k)
   unfold lfS at hst
   have hul:=Yf (t:=t) (l:=l) (s:=(k:Int))
   have hcu:(Jk t l (k:Int)).length=cntU t l k:=rfl
   have c1:=Qby (t:=t) (l:=l) (s:=(k:Int)) ht hl (by omega)
   have c2:=Qd6 (t:=t) (s:=(k:Int)) (by omega) (by omega)
   cases hh:hasI tk (k:Int) with
   | true=>
    have c5:=Wp (l:=tk) (x:=(k:Int)) (by omega)
    rw[hh]at c5
    repeat'(first|(refine zhm fun hb=>?_;try exact zab)|refine zUtp ?_|refine zg2 ?_ ?_|refine kmu c1 ?_|intro _|fail)
    all_goals
     refine⟨k+1,by omega,by omega,?_⟩
     refine⟨rfl,?_,?_,rfl⟩
     repeat'(first|exact ze3|refine ze2 ?_ ?_|refine ze4 ?_|exact ze5|fail)
     all_goals exact zp (by first|rfl|(rw[hst,if_neg (fun h=>by rw[hh]at h;simp at h)]))
   | false=>
    have c5:=Wp (l:=tk) (x:=(k:Int)) (by omega)
    rw[hh]at c5
    by_cases hneg:lfU t l tk k<0
    ·repeat'(first|(refine zhm fun hb=>?_;try exact zab)|refine zUtp ?_|refine zg2 ?_ ?_|refine kmu c1 ?_|intro _|fail)
     all_goals
      refine⟨k+1,by omega,by omega,?_⟩
      refine⟨rfl,?_,?_,rfl⟩
      repeat'(first|exact ze3|refine ze2 ?_ ?_|refine ze4 ?_|exact ze5|fail)
      all_goals exact zp (by first|rfl|(rw[hst,if_pos ⟨by omega,by omega,hh,.inl (by omega)⟩])|(rw[hst,if_neg (fun h=>by omega)]))
    ·have hul2:=Yf (t:=t) (l:=l) (s:=lfU t l tk k)
     have hcu2:(Jk t l (lfU t l tk k)).length=cntU t l (lfU t l tk k).toNat:=by unfold cntU;rw[Xax (by omega)]
     have c3:=Qby (t:=t) (l:=l) (s:=lfU t l tk k) ht hl (by omega)
     repeat'(first|(refine zhm fun hb=>?_;try exact zab)|refine zUtp ?_|refine zg2 ?_ ?_|refine kmu c1 ?_|refine kmu c3 ?_|intro _|fail)
     all_goals
      refine⟨k+1,by omega,by omega,?_⟩
      refine⟨rfl,?_,?_,rfl⟩
      repeat'(first|exact ze3|refine ze2 ?_ ?_|refine ze4 ?_|exact ze5|fail)
      all_goals exact zp (by first|rfl|(rw[hst,if_pos ⟨by omega,by omega,hh,.inr (by omega)⟩])|(rw[hst,if_neg (fun h=>by omega)]))
  ·obtain rfl:k=t.parents.length:=by omega
   repeat'(first|(refine zhm fun hb=>?_;try exact zab)|refine zUtp ?_|refine zg2 ?_ ?_|intro _|fail)
   exact zrr
end
section

theorem Wn{l:List Int}{x:Int}:hasI l x=true↔x∈l:=by
 unfold hasI
 rw[XaX]
 constructor
 ·rintro ⟨y,hy,e⟩
  rw[beq_iff_eq]at e
  exact e▸hy
 ·intro h
  exact⟨x,h,by simp⟩
theorem QqW{ps:List Int}(hv:JZ ps):∀(s:Nat),s<ps.length->∀x∈abvU ps s,∃j,j<ps.length/\1<=j/\nth ps j=x:=by
 intro s
 induction s using Nat.strongRecOn with
 | _ s ih=>
  intro hs x hx
  by_cases h0:s=0
  ·subst h0;rw[Qo9]at hx;cases hx
  ·have hp:=hv s (by omega) hs
   rw[QgH hv (by omega) hs]at hx
   rcases Xaj.1 hx with rfl|hx
   ·exact⟨s,hs,by omega,by omega⟩
   ·exact ih (nth ps s).toNat (by omega) (by omega) x hx
theorem Qin{t:QW}(ht:QY t){x:Int}(hx:Q2 t x<t.parents.length){s:Nat}(hs:Wa t.parents (s:Int)=true):Qg8 t (s:Int) x=decide (Q2 t x=s):=by
 rw[Xan,decide_eq_true_eq]
 show hasI (abv t.parents (Q2 t x)) (s:Int)=true↔_
 rw[Wn,abv,Xaj]
 constructor
 ·rintro (h|h)
  ·omega
  ·obtain⟨j,h1,h2,h3⟩:=QqW ht.valid _ hx _ h
   exact absurd h3 (VS.1 hs j h1 h2)
 ·intro h;exact .inl (by omega)
theorem Wj{t:QW}(ht:QY t){m:List Int}(hm:∀x∈m,Q2 t x<t.parents.length){s:Nat}(hs:Wa t.parents (s:Int)=true):Jk t m (s:Int)=m.filter fun x=>decide (Q2 t x=s):=
 Xb0 fun x hx=>Qin ht (hm x hx) hs
theorem QoQ{α:Type}{p q:α->Bool}(hpq:∀x,q x=true->p x=true):∀(l:List α),(l.filter q).length<=(l.filter p).length
 | []=>Xam _
 | x::l=>by
  have ih:=QoQ hpq l
  rw[XbH,XbH]
  cases hq:q x with
  | true=>rw[hpq x hq];simp only[if_true,Xar];omega
  | false=>
   cases hp:p x with
   | true=>simp only[if_true,XaV,if_false,Xar];omega
   | false=>simpa using ih
theorem Qps{α:Type}{p q:α->Bool}(hpq:∀x,q x=true->p x=true):∀{l:List α} {a:α},a∈l->p a=true->q a=false->(l.filter q).length<(l.filter p).length
 | [],_,h,_,_=>by cases h
 | x::l,a,h,hp,hq=>by
  have hle:=QoQ hpq l
  rw[XbH,XbH]
  rcases Xaj.1 h with rfl|h
  ·rw[hp,hq]
   simp only[if_true,XaV,if_false,Xar];omega
  ·have ih:=Qps hpq h hp hq
   cases hqx:q x with
   | true=>rw[hpq x hqx];simp only[if_true,Xar];omega
   | false=>
    cases hpx:p x with
    | true=>simp only[if_true,XaV,if_false,Xar];omega
    | false=>simpa using ih
def cand(t:QW)(m tk:List Int)(s:Nat):Prop:=0<cntU t m s/\(XB t.parents (s:Int)).length=0/\hasI tk (s:Int)=false
theorem Qoc{t:QW}{m tk:List Int}:∀(i:Nat),(0<=lfU t m tk i->cand t m tk (lfU t m tk i).toNat)/\∀s,s<i->cand t m tk s->0<=lfU t m tk i
 | 0=>⟨fun h=>by simp[lfU]at h,fun s hs=>absurd hs (Nat.not_lt_zero _)⟩
 | i+1=>by
  obtain⟨h1,h2⟩:=Qoc (t:=t) (m:=m) (tk:=tk) i
  rw[Qrz]
  unfold lfS
  split
  ·rename_i h
   exact⟨fun _=>⟨h.1,h.2.1,h.2.2.1⟩,fun _ _ _=>by omega⟩
  ·rename_i h
   refine⟨h1,fun s hs hc=>?_⟩
   by_cases e:s=i
   ·subst e
    by_cases hb:lfU t m tk s<0
    ·exact absurd ⟨hc.1,hc.2.1,hc.2.2,.inl hb⟩ h
    ·omega
   ·exact h2 s (by omega) hc
theorem QrT{t:QW}{m tk:List Int}{s:Nat}(hs:s<t.parents.length)(hc:cand t m tk s):(0<=lfI t m tk/\lfI t m tk<t.parents.length)/\cand t m tk (lfI t m tk).toNat:=by
 obtain⟨h1,h2⟩:=Qoc (t:=t) (m:=m) (tk:=tk) t.parents.length
 have h3:=QkA (t:=t) (l:=m) (tk:=tk) t.parents.length
 have h4:0<=lfI t m tk:=h2 s hs hc
 exact⟨⟨h4,h3.2⟩,h1 h4⟩
theorem Qai{ps:List Int}{s:Int}:(XB ps s).length=0↔Wa ps s=true:=by
 rw[Xbi,Qdb]
def cntT(t:QW)(m tk:List Int):Nat:=(m.filter fun x=>hasI tk (Q2 t x:Int)).length
theorem QrQ(t:QW)(m:List Int):cntT t m []=0:=by
 unfold cntT
 rw[Xbi,Xch]
 intro x _
 simp[hasI]
theorem Qdz{tk:List Int}{s x:Int}:hasI (tk++[s]) x=(hasI tk x||decide (x=s)):=by
 rw[Xan,Wn,Xcs,Wn,decide_eq_true_eq,Xag,XaM]
theorem Qpk{α:Type}{p q:α->Bool}(h:∀x,p x=true->q x=false):∀(l:List α),(l.filter fun x=>p x||q x).length=(l.filter p).length+(l.filter q).length
 | []=>rfl
 | x::l=>by
  have ih:=Qpk h l
  rw[XbH,XbH,XbH]
  cases hp:p x with
  | true=>rw[h x hp];simp only[Bool.true_or,if_true,XaV,if_false,Xar];omega
  | false=>
   cases hq:q x with
   | true=>simp only[Bool.or_true,if_true,XaV,if_false,Xar];omega
   | false=>simpa using ih
theorem Qre{t:QW}(ht:QY t){m tk:List Int}(hm:∀x∈m,Q2 t x<t.parents.length){s:Nat}(hs:Wa t.parents (s:Int)=true)(hn:hasI tk (s:Int)=false):cntT t m (tk++[(s:Int)])=cntT t m tk+cntU t m s:=by
 unfold cntT cntU
 rw[Wj ht hm hs,<-Qpk]
 ·congr 1
  refine Xb0 fun x _=>?_
  rw[Qdz]
  congr 1
  rw[Xan,decide_eq_true_eq,decide_eq_true_eq];omega
 ·intro x hx
  rw[decide_eq_false_iff_not]
  intro e
  rw[e,hn]at hx
  cases hx
theorem Qnr{t:QW}{m tk:List Int}(h:cntT t m tk<m.length):∃x∈m,hasI tk (Q2 t x:Int)=false:=by
 refine Classical.byContradiction fun hn=>?_
 have:cntT t m tk=m.length:=by
  unfold cntT
  rw[Xcy.2 fun x hx=>?_]
  cases hh:hasI tk (Q2 t x:Int) with
  | true=>rfl
  | false=>exact absurd ⟨x,hx,hh⟩ hn
 omega
def Vt(n:Int)(out g:List Int):List Int:=g.foldl (fun o x=>if(o.length:Int)<n then rise x o else o) out
theorem Qct(n:Int):∀(l:List Int),(rise n l).length=l.length+1
 | []=>rfl
 | x::l=>by
  unfold rise
  split
  ·rfl
  ·simp[Qct n l]
theorem Qab{n:Int}:∀(g out:List Int),(out.length:Int)<=n->((Vt n out g).length:Int)=min n (out.length+g.length)
 | [],out,h=>by simp[Vt];omega
 | x::g,out,h=>by
  have e:Vt n out (x::g)=Vt n (if(out.length:Int)<n then rise x out else out) g:=rfl
  rw[e]
  split
  ·rw[Qab g _ (by rw[Qct];omega),Qct,Xar]
   push_cast
   omega
  ·rw[Qab g _ h,Xar]
   push_cast
   omega
def chR(t:QW)(m:List Int)(n:Int):Nat->List Int->List Int->List Int
 | 0,out,_=>out
 | f+1,out,tk=>if(out.length:Int)<n then chR t m n f (Vt n out (Jk t m (lfI t m tk))) (tk++[lfI t m tk])else out
def untk(t:QW)(tk:List Int):Nat:=((List.range t.parents.length).filter fun(s:Nat)=>!hasI tk (s:Int)).length
structure ChJ (t:QW) (m:List Int) (n:Int) (out tk:List Int):Prop where
 len:(out.length:Int)=min n (cntT t m tk)
theorem Qkm{t:QW}(ht:QY t){m:List Int}{n:Int}{out tk:List Int}(hm:∀x∈m,Q2 t x<t.parents.length/\Wa t.parents (Q2 t x:Int)=true)(hn:n<=m.length)(hj:ChJ t m n out tk)(hl:(out.length:Int)<n) :
  (0<=lfI t m tk/\lfI t m tk<t.parents.length)/\ChJ t m n (Vt n out (Jk t m (lfI t m tk))) (tk++[lfI t m tk])/\untk t (tk++[lfI t m tk])<untk t tk:=by
 have hc:cntT t m tk<m.length:=by have:=hj.len;omega
 obtain⟨x,hx,hh⟩:=Qnr hc
 obtain⟨hx1,hx2⟩:=hm x hx
 have hcx:cand t m tk (Q2 t x):=by
  refine⟨?_,Qai.2 hx2,hh⟩
  unfold cntU
  rw[Wj ht (fun y hy=>(hm y hy).1) hx2]
  exact Xbp.2 (List.ne_nil_of_mem (XaF.2 ⟨hx,by simp⟩))
 obtain⟨h1,h2,h3,h4⟩:=QrT hx1 hcx
 have e:((lfI t m tk).toNat:Int)=lfI t m tk:=by omega
 rw[e]at h3 h4
 have hlf:=Qai.1 h3
 refine⟨h1,⟨?_⟩,?_⟩
 ·rw[Qab _ _ (by omega),hj.len]
  have h5:=Qre ht (fun y hy=>(hm y hy).1) (s:=(lfI t m tk).toNat) (tk:=tk) (by rw[e];exact hlf) (by rw[e];exact h4)
  have h6:cntU t m (lfI t m tk).toNat=(Jk t m (lfI t m tk)).length:=by unfold cntU;rw[e]
  rw[e]at h5
  rw[h5,h6]
  push_cast
  omega
 ·unfold untk
  refine Qps (a:=(lfI t m tk).toNat) (fun s hs=>?_) (Xb4.2 (by omega)) ?_ ?_
  ·rw[Qdz]at hs
   simp only[Bool.not_or,Xaf]at hs
   exact hs.1
  ·rw[e,h4];rfl
  ·rw[e,Qdz];simp
end
section
attribute [local irreducible] AWp QJ OpOk ACalls ChA QsOk MCalls EnC PY
theorem Qhw{t:QW}{l:List Int}{n most:Int}:∀(i:Nat),0<=swU t l n most i->n<=(cntU t l (swU t l n most i).toNat:Int)
 | 0=>fun h=>by simp[swU]at h
 | i+1=>by
  have ih:=Qhw (t:=t) (l:=l) (n:=n) (most:=most) i
  rw[Qrw]
  unfold swS
  split
  ·rename_i h
   intro _
   exact h.1
  ·exact ih
def WR(t:QW)(l:List Int)(n most:Int):Option (List Int):=if swI t l n most<0 then none else some (chR t (Jk t l (swI t l n most)) n (t.parents.length+1) [] [])
@[reducible] def optI (o:Option (List Int)):List AV:=[zL (intE (o.getD [])),.d (.b o.isSome)]
theorem Qll{n:Int}{out g:List Int}{j:Nat}(h:j<g.length):Vt n out (g.take (j+1))=if((Vt n out (g.take j)).length:Int)<n then rise (nth g j) (Vt n out (g.take j))else Vt n out (g.take j):=by
 have e:nth g j=g[j]:=by simp[nth,h]
 rw[XaB h,Vt,XaQ,e]
 rfl
theorem Qjp(t:QW)(tk:List Int):untk t tk<=t.parents.length:=by
 unfold untk
 exact Xao (Xa1 _ _) (by rw[List.length_range];exact Xam _)
theorem Vl{t:QW}(ht:QY t){l:List Int}(hl:Jz t l):∀x∈l,Q2 t x<t.parents.length/\Wa t.parents (Q2 t x:Int)=true:=fun x hx=>by
 obtain⟨j,hj,rfl⟩:∃j,j<l.length/\nth l j=x:=by
  obtain⟨i,hi,e⟩:=Xba hx
  exact⟨i,hi,by rw[nth,List.getD_eq_getElem?_getD,List.getElem?_eq_getElem hi];exact e⟩
 obtain⟨h1,h2⟩:=ht.leaf hl hj
 have h3:=hl j hj
 have h4:=(ht.nodes (nth l j).toNat (by omega)).2.1
 rw[h2]at h4
 exact⟨h1,h4⟩
theorem QoY{t:QW}{l:List Int}{s:Int}:∀x∈Jk t l s,x∈l:=fun _ hx=>(XaF.1 hx).1
theorem XV{t:QW}{l:List Int}:Jz t l↔∀x∈l,0<=x/\x<t.nodes.length:=by
 constructor
 ·intro h x hx
  obtain⟨i,hi,e⟩:=Xba hx
  have:=h i hi
  rw[nth,List.getD_eq_getElem?_getD,List.getElem?_eq_getElem hi]at this
  rw[<-e];exact this
 ·intro h j hj
  exact h _ (QO hj)
theorem WD{t:QW}{l:List Int}{s:Int}(h:Jz t l):Jz t (Jk t l s):=XV.2 fun x hx=>XV.1 h x (QoY x hx)
theorem QqJ{t:QW}{l:List Int}{n most:Int}(ht:QY t)(hl:Jz t l)(ha:ascP l)(hn:1<=n)(hll:l.length<=1000000):DC Tryz.prog 316 [Yy t,zL (intE l),zI n,zI most] (optI (WR t l n most)):=by
 refine zMC func316 fun w0 Z O=>?_
 have htl:=ht.len
 have htn:=ht.nlen
 have hle:=Qb l
 have c1:=Qbg (t:=t) (l:=l) (by omega) (by omega) (by omega)
 rw[VQ.2 ⟨hl,ht⟩]at c1
 repeat'(first|(refine zhm fun hb=>?_;try exact zab)|refine Qe ?_|(apply zch;exact zcg)|exact zhk|refine zg3 ?_ ?_|intro _|fail)
 refine Qa (fun(i:Nat)=>⟨89,[(1,zL (intE l)),(2,zI n),(3,zI most),(4,.ptr 4 0),(27,zI (l.length:Nat)),(28,zI i)],[(4,.box 43 (We t))]⟩) (fun i=>i<=l.length) (fun i=>l.length-i) 0 (by exact Xab _) ?_ ?_
 ·exact zll
 intro k hk
 by_cases hk':k<l.length
 ·by_cases hk0:k=0
  ·subst hk0
   repeat'(first|(apply QB 6;kernel_rfl;exact rfl)|(refine zhm fun hb=>?_;try exact zab)|refine Qe ?_|(apply zch;exact zcg)|exact zhk|refine zg3 ?_ ?_|intro _|fail)
   exact⟨0+1,by omega,by omega,zll⟩
  ·have has:=ha (k-1) (by omega)
   rw[show k-1+1=k by omega]at has
   repeat'(first|(apply QB 6;kernel_rfl;exact rfl)|(refine zhm fun hb=>?_;try exact zab)|refine Qe ?_|(apply zch;exact zcg)|exact zhk|refine zg3 ?_ ?_|intro _|fail)
   exact⟨k+1,by omega,by omega,zll⟩
 have c2:=QiM (t:=t) (l:=l) (n:=n) (most:=most) ht hl hll
 have hin:=Qij (t:=t) (l:=l) (n:=n) (most:=most) t.parents.length
 have hok:=Qhw (t:=t) (l:=l) (n:=n) (most:=most) t.parents.length
 rw[show swU t l n most t.parents.length=swI t l n most from rfl]at hin hok
 by_cases hneg:swI t l n most<0
 ·rw[show WR t l n most=none from if_pos hneg]
  repeat'(first|(refine zhm fun hb=>?_;try exact zab)|refine Q7 ?_|(apply zch;exact zcg)|exact zhk|refine zg3 ?_ ?_|intro _|fail)
  exact zDR
 have hs0:((swI t l n most).toNat:Int)=swI t l n most:=by omega
 have hcn:=hok (by omega)
 unfold cntU at hcn
 rw[hs0]at hcn
 rw[show WR t l n most=some (chR t (Jk t l (swI t l n most)) n (t.parents.length+1) [] []) from if_neg hneg]
 have c3:=Qby (t:=t) (l:=l) (s:=swI t l n most) ht hl (by omega)
 have hml:=Yf (t:=t) (l:=l) (s:=swI t l n most)
 have hmi:=WD (s:=swI t l n most) hl
 generalize Jk t l (swI t l n most)=m at hcn c3 hml hmi
 have hmf:=Vl ht hmi
 have hle2:=Qb m
 repeat'(first|(refine zhm fun hb=>?_;try exact zab)|refine Qe ?_|(apply zch;exact zcg)|exact zhk|refine zg3 ?_ ?_|refine kmu c3 ?_|intro _|fail)
 refine Qs 57 rfl ?_
 refine Qa (fun(x:Nat×List Int×List Int)=>⟨89,[(2,zI n),(4,.ptr 4 0),(12,zL (intE m)),(13,zL (intE x.2.1)),(14,.row 58)],[(4,.box 43 (We t)),(58,.row 3 (intE x.2.2) true)]⟩) (fun x=>ChJ t m n x.2.1 x.2.2/\x.2.2.length<=24/\untk t x.2.2+x.2.2.length<=t.parents.length/\untk t x.2.2<x.1/\chR t m n x.1 x.2.1 x.2.2=chR t m n (t.parents.length+1) [] []) (fun x=>x.1) (t.parents.length+1,[],[]) (by exact⟨⟨by rw[QrQ];simp;omega⟩,by simp,by have:=Qjp t [];simpa using this,by have:=Qjp t [];dsimp only;omega,rfl⟩) ?_ ?_
 ·exact zll
 rintro ⟨f,out,tk⟩ ⟨hj,hk1,hk2,hk3,hk4⟩
 dsimp only at hj hk1 hk2 hk3 hk4 ⊢
 have hol:=hj.len
 by_cases hlt:(out.length:Int)<n
 ·obtain⟨g1,g2,g3⟩:=Qkm ht hmf hcn hj hlt
  obtain⟨f',rfl⟩:∃f',f=f'+1:=⟨f-1,by omega⟩
  have hst:chR t m n (f'+1) out tk=chR t m n f' (Vt n out (Jk t m (lfI t m tk))) (tk++[lfI t m tk]):=if_pos hlt
  have c4:=QmW (t:=t) (l:=m) (tk:=tk) ht hmi (by omega) (by omega)
  have c5:=Qby (t:=t) (l:=m) (s:=lfI t m tk) ht hmi (by omega)
  have hgl:=Yf (t:=t) (l:=m) (s:=lfI t m tk)
  generalize lfI t m tk=lf at g1 g2 g3 hst c4 c5 hgl
  generalize Jk t m lf=g at g2 hst c5 hgl
  have hle3:=Qb g
  repeat'(first|(refine zhm fun hb=>?_;try exact zab)|refine Qe ?_|(apply zch;exact zcg)|exact zhk|refine zg3 ?_ ?_|refine kmu c5 ?_|intro _|fail)
  refine Qa (fun(j:Nat)=>⟨89,[(2,zI n),(4,.ptr 4 0),(12,zL (intE m)),(13,zL (intE (Vt n out (g.take j)))),(14,.row 58),(74,zL (intE g)),(75,zI (g.length:Nat)),(76,zI j)],[(4,.box 43 (We t)),(58,.row 3 (intE (tk++[lf])) true)]⟩) (fun j=>j<=g.length) (fun j=>g.length-j) 0 (by exact Xab _) ?_ ?_
  ·refine⟨rfl,?_,?_,rfl⟩
   repeat'(first|exact ze3|refine ze2 ?_ ?_|refine ze4 ?_|exact ze5|fail)
   all_goals exact zp (by first|rfl|exact Qb _|exact Jt _ _)
  intro j hjl
  have htl2:=Qab (n:=n) (g.take j) out (by omega)
  have htl3:((Vt n out (g.take j)).length:Int)<=n:=by omega
  by_cases hj':j<g.length
  ·have hts:=Qll (n:=n) (out:=out) hj'
   by_cases hlt2:((Vt n out (g.take j)).length:Int)<n
   ·rw[if_pos hlt2]at hts
    repeat'(first|(refine zhm fun hb=>?_;try exact zab)|refine Qe ?_|(apply zch;exact zcg)|exact zhk|refine zg3 ?_ ?_|(refine km [] (QgE (l:=Vt n out (g.take j)) (n:=nth g j) (by omega)) rfl rfl (fun i hi=>?_);try dsimp only at hi)|intro _|fail)
    refine⟨j+1,by omega,by omega,?_⟩
    refine zag ?_;exact zp (by rw[hts])
   ·rw[if_neg hlt2]at hts
    repeat'(first|(refine zhm fun hb=>?_;try exact zab)|refine Qe ?_|(apply zch;exact zcg)|exact zhk|refine zg3 ?_ ?_|intro _|fail)
    refine⟨j+1,by omega,by omega,?_⟩
    refine zag ?_;exact zp (by rw[hts])
  ·obtain rfl:j=g.length:=by omega
   rw[Xap]at *
   repeat'(first|(refine zhm fun hb=>?_;try exact zab)|refine Qe ?_|(apply zch;exact zcg)|exact zhk|refine zg3 ?_ ?_|intro _|fail)
   refine⟨(f',Vt n out g,tk++[lf]),⟨g2,?_,?_,?_,?_⟩,?_,?_⟩
   ·simp only[Xac,XaG];omega
   ·simp only[Xac,XaG];omega
   ·dsimp only;omega
   ·dsimp only;rw[<-hst];exact hk4
   ·dsimp only;omega
   exact zll
 ·have hfin:chR t m n f out tk=out:=by
   cases f with
   | zero=>rfl
   | succ f=>exact if_neg hlt
  rw[<-hk4,hfin]
  repeat'(first|(refine zhm fun hb=>?_;try exact zab)|refine Q7 ?_|(apply zch;exact zcg)|exact zhk|refine zg3 ?_ ?_|intro _|fail)
  exact zDR
end
end Go.Proofs.YtihgfennoalocaaGreat
