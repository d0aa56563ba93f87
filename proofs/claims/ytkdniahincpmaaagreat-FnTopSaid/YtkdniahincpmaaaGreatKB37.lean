/-
  Apply, both.
-/
import Derived.Test.YtkdniahincpmaaaGreatKB31
import Derived.Test.YtkdniahincpmaaaGreatKB35
import Derived.Test.YtkdniahincpmaaaGreatKB22
set_option maxRecDepth 100000
set_option maxHeartbeats 16000000
namespace Go.Proofs.YtkdniahincpmaaaGreat
open Go Go.RowKit Tryz
section
attribute [local irreducible] AWp QI OpOk ACalls ChA QsOk MCalls NCalls EnC PY

noncomputable def Jw (s:Qb) (c:Cmd):Option Qb×Int:=
 if Jx c=true/\Qe s=true then
  if c.kind=1 then Yx s c.job
  else if c.kind=2 then fnsO s c.n 3
  else if c.kind=3 then fnsO s c.n 2
  else if c.kind=4 then Xe s c.n
  else if c.kind=5 then Yz s c.n
  else if c.kind=6 then YA s c.lic
  else(untO s c.n,if(untO s c.n).isSome=true then 0 else 10)
 else(none,1)
theorem Qp4{c:Cmd}(h:Jx c=true):c.kind=1\/c.kind=2\/c.kind=3\/c.kind=4\/c.kind=5\/c.kind=6\/c.kind=7:=by
 unfold Jx at h
 split at h
 ·omega
 ·split at h
  ·omega
  ·split at h
   ·omega
   ·split at h
    ·omega
    ·split at h
     ·omega
     ·cases h
theorem We{s:Qb}{c:Cmd}(hs:Qj 1048576 s):∀s',(Jw s c).1=some s'->Qj 1048576 s':=fun s' h=>by
 unfold Jw at h
 repeat' split at h
 ·exact QgP hs s' h
 ·exact Qgm hs s' h
 ·exact Qgm hs s' h
 ·exact QkQ hs s' h
 ·exact Qhx hs s' h
 ·exact QhZ hs s' h
 ·exact Qgu hs s' h
 ·exact Qgu hs s' h
 ·cases h
theorem YD{s:Qb}{k n:Int}{j:Job}{v:V3}(hc:Jx ⟨k,j,n,v⟩=true)(h:Qe s=true):Jw s ⟨k,j,n,v⟩=if k=1 then Yx s j else if k=2 then fnsO s n 3 else if k=3 then fnsO s n 2 else if k=4 then Xe s n else if k=5 then Yz s n else if k=6 then YA s v else(untO s n,if(untO s n).isSome=true then 0 else 10):=if_pos ⟨hc,h⟩
theorem X4{s:Qb}{c:Cmd}(h:¬(Jx c=true/\Qe s=true)):Jw s c=(none,1):=if_neg h
theorem QeO{s:Qb}{c:Cmd}(hs:Qj 1048576 s):SO 101 [Qt s,cmdA c] (Jw s c).1 (Jw s c).2:=by
 refine zAC func101 fun w0 Z=>?_
 have l:Qj 100000000 s:=hs.mono (by omega)
 have f:=Qkv (c:=c)
 have g:=JX l
 cases d:Jx c with
 | false=>
  rw[d]at f
  rw[X4 (fun h=>by rw[d]at h;cases h.1)]
  repeat'(first|(refine zhm fun hb=>?_;try exact zab)|refine zUto ?_|refine zg2 ?_ ?_|intro _)
  exact zrr
 | true=>
 rw[d]at f
 cases h:Qe s with
 | false=>
  rw[h]at g
  rw[X4 (fun h'=>by rw[h]at h';cases h'.2)]
  repeat'(first|(refine zhm fun hb=>?_;try exact zab)|refine zUto ?_|refine zg2 ?_ ?_|intro _)
  exact zrr
 | true=>
 rw[h]at g
 obtain⟨k,j,n,v⟩:=c
 have i:=Qp4 d
 dsimp only at i
 rcases i with rfl|rfl|rfl|rfl|rfl|rfl|rfl
 ·have b:Jw s _=Yx s j:=(YD d h).trans rfl
  rw[b]
  have a:=Qsw (j:=j) hs
  generalize Yx s j=o at a ⊢
  obtain⟨_|e,y⟩:=o
  ·dsimp only[SO,SS,stR,stB,Option.getD]at a ⊢
   repeat'(first|(refine zhm fun hb=>?_;try exact zab)|refine zUto ?_|refine zg2 ?_ ?_|intro _)
   exact zrr
  ·dsimp only[SO,SS,stR,stB,Option.getD]at a ⊢
   repeat'(first|(refine zhm fun hb=>?_;try exact zab)|refine zUto ?_|refine zg2 ?_ ?_|intro _)
   exact zr [24,1024,2024,3024,4024,5024] zae zae
 ·have b:Jw s _=fnsO s n 3:=(YD d h).trans rfl
  rw[b]
  have a:=Qla (id:=n) (why:=3) hs
  generalize fnsO s n 3=o at a ⊢
  obtain⟨_|e,y⟩:=o
  ·dsimp only[SO,SS,stR,stB,Option.getD]at a ⊢
   repeat'(first|(refine zhm fun hb=>?_;try exact zab)|refine zUto ?_|refine zg2 ?_ ?_|intro _)
   exact zrr
  ·dsimp only[SO,SS,stR,stB,Option.getD]at a ⊢
   repeat'(first|(refine zhm fun hb=>?_;try exact zab)|refine zUto ?_|refine zg2 ?_ ?_|intro _)
   exact zr [32,1032,2032,3032,4032,5032] zae zae
 ·have b:Jw s _=fnsO s n 2:=(YD d h).trans rfl
  rw[b]
  have a:=Qla (id:=n) (why:=2) hs
  generalize fnsO s n 2=o at a ⊢
  obtain⟨_|e,y⟩:=o
  ·dsimp only[SO,SS,stR,stB,Option.getD]at a ⊢
   repeat'(first|(refine zhm fun hb=>?_;try exact zab)|refine zUto ?_|refine zg2 ?_ ?_|intro _)
   exact zrr
  ·dsimp only[SO,SS,stR,stB,Option.getD]at a ⊢
   repeat'(first|(refine zhm fun hb=>?_;try exact zab)|refine zUto ?_|refine zg2 ?_ ?_|intro _)
   exact zr [40,1040,2040,3040,4040,5040] zae zae
 ·have b:Jw s _=Xe s n:=(YD d h).trans rfl
  rw[b]
  have a:=Qyz (n:=n) hs
  generalize Xe s n=o at a ⊢
  obtain⟨_|e,y⟩:=o
  ·dsimp only[SO,SS,stR,stB,Option.getD]at a ⊢
   repeat'(first|(refine zhm fun hb=>?_;try exact zab)|refine zUto ?_|refine zg2 ?_ ?_|intro _)
   exact zrr
  ·dsimp only[SO,SS,stR,stB,Option.getD]at a ⊢
   repeat'(first|(refine zhm fun hb=>?_;try exact zab)|refine zUto ?_|refine zg2 ?_ ?_|intro _)
   exact zr [48,1048,2048,3048,4048,5048] zae zae
 ·have b:Jw s _=Yz s n:=(YD d h).trans rfl
  rw[b]
  have a:=QsG (n:=n) hs
  generalize Yz s n=o at a ⊢
  obtain⟨_|e,y⟩:=o
  ·dsimp only[SO,SS,stR,stB,Option.getD]at a ⊢
   repeat'(first|(refine zhm fun hb=>?_;try exact zab)|refine zUto ?_|refine zg2 ?_ ?_|intro _)
   exact zrr
  ·dsimp only[SO,SS,stR,stB,Option.getD]at a ⊢
   repeat'(first|(refine zhm fun hb=>?_;try exact zab)|refine zUto ?_|refine zg2 ?_ ?_|intro _)
   exact zr [56,1056,2056,3056,4056,5056] zae zae
 ·have b:Jw s _=YA s v:=(YD d h).trans rfl
  rw[b]
  have a:=QtV (v:=v) hs
  generalize YA s v=o at a ⊢
  obtain⟨_|e,y⟩:=o
  ·dsimp only[SO,SS,stR,stB,Option.getD]at a ⊢
   repeat'(first|(refine zhm fun hb=>?_;try exact zab)|refine zUto ?_|refine zg2 ?_ ?_|intro _)
   exact zrr
  ·dsimp only[SO,SS,stR,stB,Option.getD]at a ⊢
   repeat'(first|(refine zhm fun hb=>?_;try exact zab)|refine zUto ?_|refine zg2 ?_ ?_|intro _)
   exact zr [64,1064,2064,3064,4064,5064] zae zae
 ·have b:Jw s _=(untO s n,if(untO s n).isSome=true then(0:Int)else 10):=(YD d h).trans rfl
  rw[b]
  have a:=Qwg (t:=n) hs
  generalize untO s n=o at a ⊢
  rcases o with _|e
  ·dsimp only[unR,stR,stB]at a ⊢
   repeat'(first|(refine zhm fun hb=>?_;try exact zab)|refine zUto ?_|refine zg2 ?_ ?_|intro _)
   exact zrr
  ·dsimp only[unR,stR,stB]at a ⊢
   repeat'(first|(refine zhm fun hb=>?_;try exact zab)|refine zUto ?_|refine zg2 ?_ ?_|intro _)
   exact zr [71,1071,2071,3071,4071,5071] zae zae
theorem Qrm{s:Qb}{c:Cmd}(hs:Qj 1048576 s):SS 236 [Qt s,cmdA c] (Jw s c).1 (Jw s c).2:=by
 refine zMC func236 fun w0 Z O=>?_
 have l:Qj 100000000 s:=hs.mono (by omega)
 have f:=Qfb (c:=c)
 have g:=Yl l
 cases d:Jx c with
 | false=>
  rw[d]at f
  rw[X4 (fun h=>by rw[d]at h;cases h.1)]
  repeat'(first|(refine zhm fun hb=>?_;try exact zab)|refine zUro ?_|refine zg2 ?_ ?_|intro _)
  exact zDR
 | true=>
 rw[d]at f
 cases h:Qe s with
 | false=>
  rw[h]at g
  rw[X4 (fun h'=>by rw[h]at h';cases h'.2)]
  repeat'(first|(refine zhm fun hb=>?_;try exact zab)|refine zUro ?_|refine zg2 ?_ ?_|intro _)
  exact zDR
 | true=>
 rw[h]at g
 obtain⟨k,j,n,v⟩:=c
 have i:=Qp4 d
 dsimp only at i
 rcases i with rfl|rfl|rfl|rfl|rfl|rfl|rfl
 ·have b:Jw s _=Yx s j:=(YD d h).trans rfl
  rw[b]
  have a:=Qtj (j:=j) hs
  generalize Yx s j=o at a ⊢
  obtain⟨_|e,y⟩:=o
  ·dsimp only[SO,SS,stR,stB,Option.getD]at a ⊢
   repeat'(first|(refine zhm fun hb=>?_;try exact zab)|refine zUro ?_|refine zg2 ?_ ?_|refine kmu a ?_|intro _)
   exact zDR
  ·dsimp only[SO,SS,stR,stB,Option.getD]at a ⊢
   repeat'(first|(refine zhm fun hb=>?_;try exact zab)|refine zUro ?_|refine zg2 ?_ ?_|refine kmu a ?_|intro _)
   exact zDR
 ·have b:Jw s _=fnsO s n 3:=(YD d h).trans rfl
  rw[b]
  have a:=Qlf (id:=n) (why:=3) hs
  generalize fnsO s n 3=o at a ⊢
  obtain⟨_|e,y⟩:=o
  ·dsimp only[SO,SS,stR,stB,Option.getD]at a ⊢
   repeat'(first|(refine zhm fun hb=>?_;try exact zab)|refine zUro ?_|refine zg2 ?_ ?_|refine kmu a ?_|intro _)
   exact zDR
  ·dsimp only[SO,SS,stR,stB,Option.getD]at a ⊢
   repeat'(first|(refine zhm fun hb=>?_;try exact zab)|refine zUro ?_|refine zg2 ?_ ?_|refine kmu a ?_|intro _)
   exact zDR
 ·have b:Jw s _=fnsO s n 2:=(YD d h).trans rfl
  rw[b]
  have a:=Qlf (id:=n) (why:=2) hs
  generalize fnsO s n 2=o at a ⊢
  obtain⟨_|e,y⟩:=o
  ·dsimp only[SO,SS,stR,stB,Option.getD]at a ⊢
   repeat'(first|(refine zhm fun hb=>?_;try exact zab)|refine zUro ?_|refine zg2 ?_ ?_|refine kmu a ?_|intro _)
   exact zDR
  ·dsimp only[SO,SS,stR,stB,Option.getD]at a ⊢
   repeat'(first|(refine zhm fun hb=>?_;try exact zab)|refine zUro ?_|refine zg2 ?_ ?_|refine kmu a ?_|intro _)
   exact zDR
 ·have b:Jw s _=Xe s n:=(YD d h).trans rfl
  rw[b]
  have a:=QyM (n:=n) hs
  generalize Xe s n=o at a ⊢
  obtain⟨_|e,y⟩:=o
  ·dsimp only[SO,SS,stR,stB,Option.getD]at a ⊢
   repeat'(first|(refine zhm fun hb=>?_;try exact zab)|refine zUro ?_|refine zg2 ?_ ?_|refine kmu a ?_|intro _)
   exact zDR
  ·dsimp only[SO,SS,stR,stB,Option.getD]at a ⊢
   repeat'(first|(refine zhm fun hb=>?_;try exact zab)|refine zUro ?_|refine zg2 ?_ ?_|refine kmu a ?_|intro _)
   exact zDR
 ·have b:Jw s _=Yz s n:=(YD d h).trans rfl
  rw[b]
  have a:=Qub (n:=n) hs
  generalize Yz s n=o at a ⊢
  obtain⟨_|e,y⟩:=o
  ·dsimp only[SO,SS,stR,stB,Option.getD]at a ⊢
   repeat'(first|(refine zhm fun hb=>?_;try exact zab)|refine zUro ?_|refine zg2 ?_ ?_|refine kmu a ?_|intro _)
   exact zDR
  ·dsimp only[SO,SS,stR,stB,Option.getD]at a ⊢
   repeat'(first|(refine zhm fun hb=>?_;try exact zab)|refine zUro ?_|refine zg2 ?_ ?_|refine kmu a ?_|intro _)
   exact zDR
 ·have b:Jw s _=YA s v:=(YD d h).trans rfl
  rw[b]
  have a:=QsN (v:=v) hs
  generalize YA s v=o at a ⊢
  obtain⟨_|e,y⟩:=o
  ·dsimp only[SO,SS,stR,stB,Option.getD]at a ⊢
   repeat'(first|(refine zhm fun hb=>?_;try exact zab)|refine zUro ?_|refine zg2 ?_ ?_|refine kmu a ?_|intro _)
   exact zDR
  ·dsimp only[SO,SS,stR,stB,Option.getD]at a ⊢
   repeat'(first|(refine zhm fun hb=>?_;try exact zab)|refine zUro ?_|refine zg2 ?_ ?_|refine kmu a ?_|intro _)
   exact zDR
 ·have b:Jw s _=(untO s n,if(untO s n).isSome=true then(0:Int)else 10):=(YD d h).trans rfl
  rw[b]
  have a:=Qv3 (t:=n) hs
  generalize untO s n=o at a ⊢
  rcases o with _|e
  ·dsimp only[stB,Option.getD,Option.isSome]at a ⊢
   repeat'(first|(refine zhm fun hb=>?_;try exact zab)|refine zUro ?_|refine zg2 ?_ ?_|refine kmu a ?_|intro _)
   exact zDR
  ·dsimp only[stB,Option.getD,Option.isSome]at a ⊢
   repeat'(first|(refine zhm fun hb=>?_;try exact zab)|refine zUro ?_|refine zg2 ?_ ?_|refine kmu a ?_|intro _)
   exact zDR

theorem Qb9{α:Type}[Inhabited α]{l:List α}{i:Nat}(h:i<l.length):l.drop i=nth l i::l.drop (i+1):=by rw[Jb h];exact Xbm h
noncomputable def repO:Qb->List (List UInt8)->Option Qb
 | s,[]=>some s
 | s,r::l=>if(JR r).2=true then match (Jw s (JR r).1).1 with
  | none=>none
  | some s'=>repO s' l else none
theorem Qfg{s:Qb}{l:List (List UInt8)}{i:Nat}(h:i<l.length)(ht:(JR (nth l i)).2=false):repO s (l.drop i)=none:=by
 rw[Qb9 h,repO,if_neg (by rw[ht];decide)]
theorem QbG{s:Qb}{l:List (List UInt8)}{i:Nat}{c:Cmd}(h:i<l.length)(ht:JR (nth l i)=(c,true))(ha:(Jw s c).1=none):repO s (l.drop i)=none:=by
 rw[Qb9 h,repO,ht,if_pos rfl]
 dsimp only
 rw[ha]
theorem QbP{s s':Qb}{l:List (List UInt8)}{i:Nat}{c:Cmd}(h:i<l.length)(ht:JR (nth l i)=(c,true))(ha:(Jw s c).1=some s'):repO s (l.drop i)=repO s' (l.drop (i+1)):=by
 rw[Qb9 h,repO,ht,if_pos rfl]
 dsimp only
 rw[ha]
def QkA(o:Option Qb×Int):Prop:=(∃s',o=(some s',0))\/∃k:Int,o=(none,k)/\k≠0
theorem Qkc{s:Qb}{j:Job}:QkA (Yx s j):=by
 unfold Yx
 repeat' split
 all_goals first
  | exact .inl ⟨_,rfl⟩
  | exact .inr ⟨_,rfl,by decide⟩
theorem Qlv{s:Qb}{id why:Int}:QkA (fnsO s id why):=by
 unfold fnsO
 repeat' split
 all_goals first
  | exact .inl ⟨_,rfl⟩
  | exact .inr ⟨_,rfl,by decide⟩
theorem Qpl{s:Qb}{n:Int}:QkA (Xe s n):=by
 unfold Xe
 repeat' split
 all_goals first
  | exact .inl ⟨_,rfl⟩
  | exact .inr ⟨_,rfl,by decide⟩
theorem Qkm{s:Qb}{n:Int}:QkA (Yz s n):=by
 unfold Yz
 repeat' split
 all_goals first
  | exact .inl ⟨_,rfl⟩
  | exact .inr ⟨_,rfl,by decide⟩
theorem Qka{s:Qb}{v:V3}:QkA (YA s v):=by
 unfold YA
 repeat' split
 all_goals first
  | exact .inl ⟨_,rfl⟩
  | exact .inr ⟨_,rfl,by decide⟩
theorem Qnd{s:Qb}{t:Int}:QkA (untO s t,if(untO s t).isSome=true then 0 else 10):=by
 cases untO s t with
 | none=>exact .inr ⟨10,rfl,by decide⟩
 | some s'=>exact .inl ⟨s',rfl⟩
theorem YJ{s:Qb}{c:Cmd}:QkA (Jw s c):=by
 by_cases h:Jx c=true/\Qe s=true
 ·rw[show Jw s c=_ from if_pos h]
  by_cases a:c.kind=1
  ·rw[if_pos a];exact Qkc
  rw[if_neg a]
  by_cases b:c.kind=2
  ·rw[if_pos b];exact Qlv
  rw[if_neg b]
  by_cases d:c.kind=3
  ·rw[if_pos d];exact Qlv
  rw[if_neg d]
  by_cases e:c.kind=4
  ·rw[if_pos e];exact Qpl
  rw[if_neg e]
  by_cases f:c.kind=5
  ·rw[if_pos f];exact Qkm
  rw[if_neg f]
  by_cases g:c.kind=6
  ·rw[if_pos g];exact Qka
  rw[if_neg g]
  exact Qnd
 ·rw[X4 h]
  exact .inr ⟨1,rfl,by decide⟩
theorem Qom{b:List UInt8}:∀(f:Nat) {x:RdSt},(∀r∈x.1,r.length<=b.length)->∀r∈(rdF b f x).1,r.length<=b.length
 | 0,x,h=>h
 | f+1,x,h=>by
  unfold rdF
  split
  ·refine Qom f fun r hr=>?_
   rcases Xag.1 hr with hr|hr
   ·exact h r hr
   ·obtain rfl:=XaH.1 hr
    simp only[subB,XaL,Xah]
    omega
  ·exact h
theorem Qpr{b:List UInt8}:∀(f:Nat) {x:RdSt},rdAt b x->(rdF b f x).1.length<=b.length
 | 0,x,h=>by have:=h.1;have:=h.2.1;unfold rdF;omega
 | f+1,x,h=>by
  unfold rdF
  split
  ·rename_i hk
   exact Qpr f (Qag h hk)
  ·have:=h.1;have:=h.2.1;omega
theorem QgQ(b:List UInt8):(Q5 b).1.length<=b.length/\∀r∈(Q5 b).1,r.length<=b.length:=
 ⟨Qpr _ (Qib b),Qom _ fun r hr=>by cases hr⟩
theorem VB:∀{l:List (List UInt8)} {s s':Qb},Qj 1048576 s->repO s l=some s'->Qj 1048576 s'
 | [],s,s',hs,h=>by
  injection h with h
  exact h▸hs
 | r::l,s,s',hs,h=>by
  unfold repO at h
  split at h
  ·split at h
   ·cases h
   ·rename_i s1 h1
    exact VB (We hs s1 h1) h
  ·cases h
theorem Qnf{s:Qb}{l:List (List UInt8)}(hs:Qj 1048576 s)(hl:l.length<=1000000000)(hr:∀r∈l,r.length<=1000000000):DC Tryz.prog 45 [Qt s,zL (strE l)] [Qt ((repO s l).getD zS),.d (.b (repO s l).isSome)]:=by
 refine zMC func45 fun w0 Z O=>?_
 have o:=YH l
 generalize hR:repO s l=R
 repeat'(first|(refine zhm fun hb=>?_;try exact zab)|refine Qd ?_|(apply zch;exact zcg)|exact zhk|refine zg3 ?_ ?_|intro _)
 refine Qa (fun(k:Qb×Nat)=>⟨38,[(2,.ptr 2 0),(4,.ptr 4 0),(12,zL (strE l)),(13,zI (l.length:Nat)),(14,zI k.2)],[(2,.box 34 (Q3 k.1)),(4,.box 34 ctl0)]⟩) (fun k=>k.2<=l.length/\Qj 1048576 k.1/\repO k.1 (l.drop k.2)=R) (fun k=>l.length-k.2) (s,0) ⟨Xad _,hs,by rw[XbO];exact hR⟩ ?_ ?_
 ·refine⟨rfl,?_,?_,rfl⟩
  repeat'(first|exact ze3|refine ze2 ?_ ?_|refine ze4 ?_|exact ze5|fail)
  all_goals exact zp (by first|rfl|exact YH _)
 rintro ⟨p,n⟩ ⟨j,f,a⟩
 dsimp only at j f a ⊢
 by_cases e:n<l.length
 ·have m:=Qfq (s:=nth l n) (hr _ (QC e))
  generalize ht:JR (nth l n)=tc at m
  obtain⟨c,q⟩:=tc
  dsimp only at m
  cases q with
  | false=>
   rw[Qfg e (by rw[ht])]at a
   subst a
   repeat'(first|(refine zhm fun hb=>?_;try exact zab)|refine QR ?_|(apply zch;exact zcg)|exact zhk|refine zg3 ?_ ?_|intro _)
   exact zDR
  | true=>
   have h:=We (c:=c) f
   rcases YJ (s:=p) (c:=c)with ⟨s2,h2⟩|⟨k,h2,hk⟩
   ·have g:=dc_a (QeO (c:=c) f)
    rw[h2]at g h
    dsimp only[stR,stB]at g
    rw[QbP e ht (by rw[h2])]at a
    repeat'(first|(refine zhm fun hb=>?_;try exact zab)|refine Qd ?_|(apply zch;exact zcg)|exact zhk|refine zg3 ?_ ?_|(refine km [] (g) rfl rfl (fun i hi=>?_);try dsimp only at hi)|intro _)
    refine⟨(s2,n+1),⟨by dsimp only;omega,h s2 rfl,a⟩,by dsimp only;omega,?_⟩
    refine⟨rfl,?_,?_,rfl⟩
    repeat'(first|exact ze3|refine ze2 ?_ ?_|refine ze4 ?_|exact ze5|fail)
    all_goals exact zp rfl
   ·have g:=QeO (c:=c) f
    rw[h2]at g
    dsimp only[SO,stR,stB]at g
    rw[QbG e ht (by rw[h2])]at a
    subst a
    repeat'(first|(refine zhm fun hb=>?_;try exact zab)|refine QR ?_|(apply zch;exact zcg)|exact zhk|refine zg3 ?_ ?_|intro _)
    exact zDR
 ·obtain rfl:n=l.length:=by omega
  rw[XcN]at a
  subst a
  repeat'(first|(refine zhm fun hb=>?_;try exact zab)|refine QR ?_|(apply zch;exact zcg)|exact zhk|refine zg3 ?_ ?_|intro _)
  exact zDR
theorem Qi1{s:Qb}{b:List UInt8}(hs:Qj 1048576 s)(hb:b.length<=1000000000):DC Tryz.prog 220 [Qt s,zL (QK b)] [Qt ((repO s (Q5 b).1).getD zS),.d (.b (repO s (Q5 b).1).isSome)]:=by
 refine zMC func220 fun w0 Z O=>?_
 obtain⟨r,p⟩:=QgQ b
 have j:=YH (Q5 b).1
 have m:=dc_a (ZQ hb)
 generalize (Q5 b).1=l at r p j m ⊢
 generalize hR:repO s l=R
 repeat'(first|(refine zhm fun hb=>?_;try exact zab)|refine Qd ?_|(apply zch;exact zcg)|exact zhk|refine zg3 ?_ ?_|refine kmu m ?_|intro _)
 refine Qa (fun(k:Qb×Nat)=>⟨46,[(2,.ptr 2 0),(4,.ptr 4 0),(19,zL (strE l)),(20,zI (l.length:Nat)),(21,zI k.2)],[(2,.box 34 (Q3 k.1)),(4,.box 34 ctl0)]⟩) (fun k=>k.2<=l.length/\Qj 1048576 k.1/\repO k.1 (l.drop k.2)=R) (fun k=>l.length-k.2) (s,0) ⟨Xad _,hs,by rw[XbO];exact hR⟩ ?_ ?_
 ·refine⟨rfl,?_,?_,rfl⟩
  repeat'(first|exact ze3|refine ze2 ?_ ?_|refine ze4 ?_|exact ze5|fail)
  all_goals exact zp (by first|rfl|exact YH _)
 rintro ⟨u,n⟩ ⟨i,h,a⟩
 dsimp only at i h a ⊢
 by_cases e:n<l.length
 ·have o:=Qrl (s:=nth l n) (Xal (p _ (QC e)) hb)
  have f:=Qrm (c:=(JR (nth l n)).1) h
  have g:=We (c:=(JR (nth l n)).1) h
  generalize ht:JR (nth l n)=tc at o f g
  obtain⟨c,q⟩:=tc
  dsimp only at o f g
  rcases YJ (s:=u) (c:=c)with ⟨s2,h2⟩|⟨k,h2,hk⟩
  ·rw[h2]at f g
   dsimp only[SS,Option.getD]at f
   cases q with
   | false=>
    rw[Qfg e (by rw[ht])]at a
    subst a
    repeat'(first|(refine zhm fun hb=>?_;try exact zab)|refine QR ?_|(apply zch;exact zcg)|exact zhk|refine zg3 ?_ ?_|refine kmu f ?_|intro _)
    exact zDR
   | true=>
    rw[QbP e ht (by rw[h2])]at a
    repeat'(first|(refine zhm fun hb=>?_;try exact zab)|refine Qd ?_|(apply zch;exact zcg)|exact zhk|refine zg3 ?_ ?_|refine kmu f ?_|intro _)
    refine⟨(s2,n+1),⟨by dsimp only;omega,g s2 rfl,a⟩,by dsimp only;omega,?_⟩
    refine⟨rfl,?_,?_,rfl⟩
    repeat'(first|exact ze3|refine ze2 ?_ ?_|refine ze4 ?_|exact ze5|fail)
    all_goals exact zp rfl
  ·rw[h2]at f
   dsimp only[SS,Option.getD]at f
   have t:R=none:=by
    cases q with
    | false=>rw[<-a];exact Qfg e (by rw[ht])
    | true=>rw[<-a];exact QbG e ht (by rw[h2])
   subst t
   repeat'(first|(refine zhm fun hb=>?_;try exact zab)|refine QR ?_|(apply zch;exact zcg)|exact zhk|refine zg3 ?_ ?_|refine kmu f ?_|intro _)
   all_goals
    exact zDR
 ·obtain rfl:n=l.length:=by omega
  rw[XcN]at a
  subst a
  repeat'(first|(refine zhm fun hb=>?_;try exact zab)|refine QR ?_|(apply zch;exact zcg)|exact zhk|refine zg3 ?_ ?_|intro _)
  exact zDR
noncomputable def V2 (s:Qb) (b:List UInt8):Option Qb:=repO s (Q5 b).1
noncomputable def J9 (c:Ctl):Bool:=Jt c.first&&(jnOk c.jn&&match V2 c.first c.jn.bytes with
 | none=>false
 | some s=>Xd s c.state)
theorem Qhk{c:Ctl}(hs:Yb 1048576 c):zAc 12 [ctlA c] [.d (.b (J9 c))] []:=by
 refine zAC func12 fun w0 Z=>?_
 have o:Qj 100000000 c.first:=hs.first.mono (by omega)
 have hb:c.jn.bytes.length<=1000000000:=Xal hs.jn (by omega)
 unfold J9
 cases k:Jt c.first with
 | false=>
  have g:=Qhi o (pB_f.1 k)
  repeat'(first|(refine zhm fun hb=>?_;try exact zab)|refine Qd ?_|(apply zch;exact zcg)|exact zhk|refine zg3 ?_ ?_|intro _)
  refine zr [] ?_ ?_
  repeat'(first|exact ze3|refine ze2 ?_ ?_|refine ze4 ?_|exact ze5|fail)
  all_goals exact zp rfl
 | true=>
  have g:=dc_a (Qdt o (pB_t.1 k))
  have i:=Qee (j:=c.jn) hb
  cases m:jnOk c.jn with
  | false=>
   rw[m]at i
   repeat'(first|(refine zhm fun hb=>?_;try exact zab)|refine Qd ?_|(apply zch;exact zcg)|exact zhk|refine zg3 ?_ ?_|refine kmu g ?_|intro _)
   refine zr [] ?_ ?_
   repeat'(first|exact ze3|refine ze2 ?_ ?_|refine ze4 ?_|exact ze5|fail)
   all_goals exact zp rfl
  | true=>
   rw[m]at i
   obtain⟨q,p⟩:=QgQ c.jn.bytes
   have h:=dc_a (Vw hb)
   have f:=Qnf (l:=(Q5 c.jn.bytes).1) hs.first (by omega) (fun r hr'=>Xal (p r hr') hb)
   have e:=VB (l:=(Q5 c.jn.bytes).1) (s:=c.first) (s':=(repO c.first (Q5 c.jn.bytes).1).getD zS) hs.first
   unfold V2
   generalize (Q5 c.jn.bytes).1=l at q p h f e ⊢
   cases n:repO c.first l with
   | none=>
    rw[n]at f
    dsimp only[Option.getD,Option.isSome]at f
    repeat'(first|(refine zhm fun hb=>?_;try exact zab)|refine Qd ?_|(apply zch;exact zcg)|exact zhk|refine zg3 ?_ ?_|refine kmu g ?_|refine kmu h ?_|refine kmu f ?_|intro _)
    refine zr [] ?_ ?_
    repeat'(first|exact ze3|refine ze2 ?_ ?_|refine ze4 ?_|exact ze5|fail)
    all_goals exact zp rfl
   | some s'=>
    rw[n]at f e
    dsimp only[Option.getD,Option.isSome]at f e
    have c5:=ZX (a:=s') (b:=c.state) ((e rfl).mono (by omega)) (hs.state.mono (by omega))
    repeat'(first|(refine zhm fun hb=>?_;try exact zab)|refine Qd ?_|(apply zch;exact zcg)|exact zhk|refine zg3 ?_ ?_|refine kmu g ?_|refine kmu h ?_|refine kmu f ?_|intro _)
    refine zr [] ?_ ?_
    repeat'(first|exact ze3|refine ze2 ?_ ?_|refine ze4 ?_|exact ze5|fail)
    all_goals exact zp rfl
theorem Qqg{c:Ctl}(hs:Yb 1048576 c):zAc 216 [ctlA c] [.d (.b (J9 c))] []:=by
 refine zAC func216 fun w0 Z=>?_
 have n:Qj 100000000 c.first:=hs.first.mono (by omega)
 have hb:c.jn.bytes.length<=1000000000:=Xal hs.jn (by omega)
 have g:=Wj n
 have h:=VT (j:=c.jn) hb
 have f:=Qi1 hs.first hb
 have e:=VB (l:=(Q5 c.jn.bytes).1) (s:=c.first) (s':=(repO c.first (Q5 c.jn.bytes).1).getD zS) hs.first
 unfold J9 V2
 cases i:Jt c.first with
 | false=>
  rw[i]at g
  repeat'(first|(refine zhm fun hb=>?_;try exact zab)|refine Qd ?_|(apply zch;exact zcg)|exact zhk|refine zg3 ?_ ?_|intro _)
  refine zr [] ?_ ?_
  repeat'(first|exact ze3|refine ze2 ?_ ?_|refine ze4 ?_|exact ze5|fail)
  all_goals exact zp rfl
 | true=>
  rw[i]at g
  cases k:jnOk c.jn with
  | false=>
   rw[k]at h
   repeat'(first|(refine zhm fun hb=>?_;try exact zab)|refine Qd ?_|(apply zch;exact zcg)|exact zhk|refine zg3 ?_ ?_|intro _)
   refine zr [] ?_ ?_
   repeat'(first|exact ze3|refine ze2 ?_ ?_|refine ze4 ?_|exact ze5|fail)
   all_goals exact zp rfl
  | true=>
   rw[k]at h
   cases m:repO c.first (Q5 c.jn.bytes).1 with
   | none=>
    rw[m]at f
    dsimp only[Option.getD,Option.isSome]at f
    repeat'(first|(refine zhm fun hb=>?_;try exact zab)|refine Qd ?_|(apply zch;exact zcg)|exact zhk|refine zg3 ?_ ?_|refine kmu f ?_|intro _)
    refine zr [] ?_ ?_
    repeat'(first|exact ze3|refine ze2 ?_ ?_|refine ze4 ?_|exact ze5|fail)
    all_goals exact zp rfl
   | some s'=>
    rw[m]at f e
    dsimp only[Option.getD,Option.isSome]at f e
    have c5:=QdX (a:=s') (b:=c.state) ((e rfl).mono (by omega)) (hs.state.mono (by omega))
    repeat'(first|(refine zhm fun hb=>?_;try exact zab)|refine Qd ?_|(apply zch;exact zcg)|exact zhk|refine zg3 ?_ ?_|refine kmu f ?_|intro _)
    refine zr [] ?_ ?_
    repeat'(first|exact ze3|refine ze2 ?_ ?_|refine ze4 ?_|exact ze5|fail)
    all_goals exact zp rfl
end
end Go.Proofs.YtkdniahincpmaaaGreat
