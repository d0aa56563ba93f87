/-
  Apply, both.
-/
import Derived.Test.YtkdniahincpmaaaGreatQB30
import Derived.Test.YtkdniahincpmaaaGreatQB33
import Derived.Test.YtkdniahincpmaaaGreatQB21
set_option maxRecDepth 100000
set_option maxHeartbeats 16000000
namespace Go.Proofs.YtkdniahincpmaaaGreat
open Go Go.RowKit Tryz
section
attribute [local irreducible] AWp QM OpOk ACalls ChA QsOk MCalls NCalls EnC PY

noncomputable def Jw (s:Qb) (c:Cmd):Option Qb×Int:=
 if Jv c=true/\Qf s=true then
  if c.kind=1 then Yy s c.job
  else if c.kind=2 then fnsO s c.n 3
  else if c.kind=3 then fnsO s c.n 2
  else if c.kind=4 then Z3 s c.n
  else if c.kind=5 then Yw s c.n
  else if c.kind=6 then Yx s c.lic
  else(untO s c.n,if(untO s c.n).isSome=true then 0 else 10)
 else(none,1)
theorem QqF{c:Cmd}(h:Jv c=true):c.kind=1\/c.kind=2\/c.kind=3\/c.kind=4\/c.kind=5\/c.kind=6\/c.kind=7:=by
 unfold Jv at h
 split at h
 ·omega
 ·split at h
  ·omega
  ·split at h
   ·omega
   ·split at h
    ·omega
    ·split at h
     ·omega
     ·cases h
theorem Wm{s:Qb}{c:Cmd}(hs:Qo 1048576 s):∀s',(Jw s c).1=some s'->Qo 1048576 s':=fun s' h=>by
 unfold Jw at h
 repeat' split at h
 ·exact QgP hs s' h
 ·exact Qf1 hs s' h
 ·exact Qf1 hs s' h
 ·exact Qkv hs s' h
 ·exact QhI hs s' h
 ·exact QhD hs s' h
 ·exact QfR hs s' h
 ·exact QfR hs s' h
 ·cases h
theorem YC{s:Qb}{k n:Int}{j:Job}{v:V3}(hc:Jv ⟨k,j,n,v⟩=true)(h:Qf s=true):Jw s ⟨k,j,n,v⟩=if k=1 then Yy s j else if k=2 then fnsO s n 3 else if k=3 then fnsO s n 2 else if k=4 then Z3 s n else if k=5 then Yw s n else if k=6 then Yx s v else(untO s n,if(untO s n).isSome=true then 0 else 10):=if_pos ⟨hc,h⟩
theorem XR{s:Qb}{c:Cmd}(h:¬(Jv c=true/\Qf s=true)):Jw s c=(none,1):=if_neg h
theorem Qee{s:Qb}{c:Cmd}(hs:Qo 1048576 s):SO 101 [Qz s,cmdA c] (Jw s c).1 (Jw s c).2:=by
 refine zAC func101 fun w0 Z=>?_
 have l:Qo 100000000 s:=hs.mono (by omega)
 have f:=Qkj (c:=c)
 have g:=YI l
 cases d:Jv c with
 | false=>
  rw[d]at f
  rw[XR (fun h=>by rw[d]at h;cases h.1)]
  repeat'(first|(refine zhm fun hb=>?_;try exact zab)|refine zUto ?_|refine zg2 ?_ ?_|intro _)
  exact zrr
 | true=>
 rw[d]at f
 cases h:Qf s with
 | false=>
  rw[h]at g
  rw[XR (fun h'=>by rw[h]at h';cases h'.2)]
  repeat'(first|(refine zhm fun hb=>?_;try exact zab)|refine zUto ?_|refine zg2 ?_ ?_|intro _)
  exact zrr
 | true=>
 rw[h]at g
 obtain⟨k,j,n,v⟩:=c
 have i:=QqF d
 dsimp only at i
 rcases i with rfl|rfl|rfl|rfl|rfl|rfl|rfl
 ·have b:Jw s _=Yy s j:=(YC d h).trans rfl
  rw[b]
  have a:=QsG (j:=j) hs
  generalize Yy s j=o at a ⊢
  obtain⟨_|e,y⟩:=o
  ·dsimp only[SO,SS,stR,stB,Option.getD]at a ⊢
   repeat'(first|(refine zhm fun hb=>?_;try exact zab)|refine zUto ?_|refine zg2 ?_ ?_|intro _)
   exact zrr
  ·dsimp only[SO,SS,stR,stB,Option.getD]at a ⊢
   repeat'(first|(refine zhm fun hb=>?_;try exact zab)|refine zUto ?_|refine zg2 ?_ ?_|intro _)
   exact zr [24,1024,2024,3024,4024,5024] zae zae
 ·have b:Jw s _=fnsO s n 3:=(YC d h).trans rfl
  rw[b]
  have a:=Qk5 (id:=n) (why:=3) hs
  generalize fnsO s n 3=o at a ⊢
  obtain⟨_|e,y⟩:=o
  ·dsimp only[SO,SS,stR,stB,Option.getD]at a ⊢
   repeat'(first|(refine zhm fun hb=>?_;try exact zab)|refine zUto ?_|refine zg2 ?_ ?_|intro _)
   exact zrr
  ·dsimp only[SO,SS,stR,stB,Option.getD]at a ⊢
   repeat'(first|(refine zhm fun hb=>?_;try exact zab)|refine zUto ?_|refine zg2 ?_ ?_|intro _)
   exact zr [32,1032,2032,3032,4032,5032] zae zae
 ·have b:Jw s _=fnsO s n 2:=(YC d h).trans rfl
  rw[b]
  have a:=Qk5 (id:=n) (why:=2) hs
  generalize fnsO s n 2=o at a ⊢
  obtain⟨_|e,y⟩:=o
  ·dsimp only[SO,SS,stR,stB,Option.getD]at a ⊢
   repeat'(first|(refine zhm fun hb=>?_;try exact zab)|refine zUto ?_|refine zg2 ?_ ?_|intro _)
   exact zrr
  ·dsimp only[SO,SS,stR,stB,Option.getD]at a ⊢
   repeat'(first|(refine zhm fun hb=>?_;try exact zab)|refine zUto ?_|refine zg2 ?_ ?_|intro _)
   exact zr [40,1040,2040,3040,4040,5040] zae zae
 ·have b:Jw s _=Z3 s n:=(YC d h).trans rfl
  rw[b]
  have a:=Qx8 (n:=n) hs
  generalize Z3 s n=o at a ⊢
  obtain⟨_|e,y⟩:=o
  ·dsimp only[SO,SS,stR,stB,Option.getD]at a ⊢
   repeat'(first|(refine zhm fun hb=>?_;try exact zab)|refine zUto ?_|refine zg2 ?_ ?_|intro _)
   exact zrr
  ·dsimp only[SO,SS,stR,stB,Option.getD]at a ⊢
   repeat'(first|(refine zhm fun hb=>?_;try exact zab)|refine zUto ?_|refine zg2 ?_ ?_|intro _)
   exact zr [48,1048,2048,3048,4048,5048] zae zae
 ·have b:Jw s _=Yw s n:=(YC d h).trans rfl
  rw[b]
  have a:=QrX (n:=n) hs
  generalize Yw s n=o at a ⊢
  obtain⟨_|e,y⟩:=o
  ·dsimp only[SO,SS,stR,stB,Option.getD]at a ⊢
   repeat'(first|(refine zhm fun hb=>?_;try exact zab)|refine zUto ?_|refine zg2 ?_ ?_|intro _)
   exact zrr
  ·dsimp only[SO,SS,stR,stB,Option.getD]at a ⊢
   repeat'(first|(refine zhm fun hb=>?_;try exact zab)|refine zUto ?_|refine zg2 ?_ ?_|intro _)
   exact zr [56,1056,2056,3056,4056,5056] zae zae
 ·have b:Jw s _=Yx s v:=(YC d h).trans rfl
  rw[b]
  have a:=Qtn (v:=v) hs
  generalize Yx s v=o at a ⊢
  obtain⟨_|e,y⟩:=o
  ·dsimp only[SO,SS,stR,stB,Option.getD]at a ⊢
   repeat'(first|(refine zhm fun hb=>?_;try exact zab)|refine zUto ?_|refine zg2 ?_ ?_|intro _)
   exact zrr
  ·dsimp only[SO,SS,stR,stB,Option.getD]at a ⊢
   repeat'(first|(refine zhm fun hb=>?_;try exact zab)|refine zUto ?_|refine zg2 ?_ ?_|intro _)
   exact zr [64,1064,2064,3064,4064,5064] zae zae
 ·have b:Jw s _=(untO s n,if(untO s n).isSome=true then(0:Int)else 10):=(YC d h).trans rfl
  rw[b]
  have a:=QvW (t:=n) hs
  generalize untO s n=o at a ⊢
  rcases o with _|e
  ·dsimp only[unR,stR,stB]at a ⊢
   repeat'(first|(refine zhm fun hb=>?_;try exact zab)|refine zUto ?_|refine zg2 ?_ ?_|intro _)
   exact zrr
  ·dsimp only[unR,stR,stB]at a ⊢
   repeat'(first|(refine zhm fun hb=>?_;try exact zab)|refine zUto ?_|refine zg2 ?_ ?_|intro _)
   exact zr [71,1071,2071,3071,4071,5071] zae zae
theorem Qqp{s:Qb}{c:Cmd}(hs:Qo 1048576 s):SS 236 [Qz s,cmdA c] (Jw s c).1 (Jw s c).2:=by
 refine zMC func236 fun w0 Z O=>?_
 have l:Qo 100000000 s:=hs.mono (by omega)
 have f:=Qep (c:=c)
 have g:=Y3 l
 cases d:Jv c with
 | false=>
  rw[d]at f
  rw[XR (fun h=>by rw[d]at h;cases h.1)]
  repeat'(first|(refine zhm fun hb=>?_;try exact zab)|refine zUro ?_|refine zg2 ?_ ?_|intro _)
  exact zDR
 | true=>
 rw[d]at f
 cases h:Qf s with
 | false=>
  rw[h]at g
  rw[XR (fun h'=>by rw[h]at h';cases h'.2)]
  repeat'(first|(refine zhm fun hb=>?_;try exact zab)|refine zUro ?_|refine zg2 ?_ ?_|intro _)
  exact zDR
 | true=>
 rw[h]at g
 obtain⟨k,j,n,v⟩:=c
 have i:=QqF d
 dsimp only at i
 rcases i with rfl|rfl|rfl|rfl|rfl|rfl|rfl
 ·have b:Jw s _=Yy s j:=(YC d h).trans rfl
  rw[b]
  have a:=Qth (j:=j) hs
  generalize Yy s j=o at a ⊢
  obtain⟨_|e,y⟩:=o
  ·dsimp only[SO,SS,stR,stB,Option.getD]at a ⊢
   repeat'(first|(refine zhm fun hb=>?_;try exact zab)|refine zUro ?_|refine zg2 ?_ ?_|refine kmu a ?_|intro _)
   exact zDR
  ·dsimp only[SO,SS,stR,stB,Option.getD]at a ⊢
   repeat'(first|(refine zhm fun hb=>?_;try exact zab)|refine zUro ?_|refine zg2 ?_ ?_|refine kmu a ?_|intro _)
   exact zDR
 ·have b:Jw s _=fnsO s n 3:=(YC d h).trans rfl
  rw[b]
  have a:=QlU (id:=n) (why:=3) hs
  generalize fnsO s n 3=o at a ⊢
  obtain⟨_|e,y⟩:=o
  ·dsimp only[SO,SS,stR,stB,Option.getD]at a ⊢
   repeat'(first|(refine zhm fun hb=>?_;try exact zab)|refine zUro ?_|refine zg2 ?_ ?_|refine kmu a ?_|intro _)
   exact zDR
  ·dsimp only[SO,SS,stR,stB,Option.getD]at a ⊢
   repeat'(first|(refine zhm fun hb=>?_;try exact zab)|refine zUro ?_|refine zg2 ?_ ?_|refine kmu a ?_|intro _)
   exact zDR
 ·have b:Jw s _=fnsO s n 2:=(YC d h).trans rfl
  rw[b]
  have a:=QlU (id:=n) (why:=2) hs
  generalize fnsO s n 2=o at a ⊢
  obtain⟨_|e,y⟩:=o
  ·dsimp only[SO,SS,stR,stB,Option.getD]at a ⊢
   repeat'(first|(refine zhm fun hb=>?_;try exact zab)|refine zUro ?_|refine zg2 ?_ ?_|refine kmu a ?_|intro _)
   exact zDR
  ·dsimp only[SO,SS,stR,stB,Option.getD]at a ⊢
   repeat'(first|(refine zhm fun hb=>?_;try exact zab)|refine zUro ?_|refine zg2 ?_ ?_|refine kmu a ?_|intro _)
   exact zDR
 ·have b:Jw s _=Z3 s n:=(YC d h).trans rfl
  rw[b]
  have a:=Qxg (n:=n) hs
  generalize Z3 s n=o at a ⊢
  obtain⟨_|e,y⟩:=o
  ·dsimp only[SO,SS,stR,stB,Option.getD]at a ⊢
   repeat'(first|(refine zhm fun hb=>?_;try exact zab)|refine zUro ?_|refine zg2 ?_ ?_|refine kmu a ?_|intro _)
   exact zDR
  ·dsimp only[SO,SS,stR,stB,Option.getD]at a ⊢
   repeat'(first|(refine zhm fun hb=>?_;try exact zab)|refine zUro ?_|refine zg2 ?_ ?_|refine kmu a ?_|intro _)
   exact zDR
 ·have b:Jw s _=Yw s n:=(YC d h).trans rfl
  rw[b]
  have a:=Qt0 (n:=n) hs
  generalize Yw s n=o at a ⊢
  obtain⟨_|e,y⟩:=o
  ·dsimp only[SO,SS,stR,stB,Option.getD]at a ⊢
   repeat'(first|(refine zhm fun hb=>?_;try exact zab)|refine zUro ?_|refine zg2 ?_ ?_|refine kmu a ?_|intro _)
   exact zDR
  ·dsimp only[SO,SS,stR,stB,Option.getD]at a ⊢
   repeat'(first|(refine zhm fun hb=>?_;try exact zab)|refine zUro ?_|refine zg2 ?_ ?_|refine kmu a ?_|intro _)
   exact zDR
 ·have b:Jw s _=Yx s v:=(YC d h).trans rfl
  rw[b]
  have a:=Qtq (v:=v) hs
  generalize Yx s v=o at a ⊢
  obtain⟨_|e,y⟩:=o
  ·dsimp only[SO,SS,stR,stB,Option.getD]at a ⊢
   repeat'(first|(refine zhm fun hb=>?_;try exact zab)|refine zUro ?_|refine zg2 ?_ ?_|refine kmu a ?_|intro _)
   exact zDR
  ·dsimp only[SO,SS,stR,stB,Option.getD]at a ⊢
   repeat'(first|(refine zhm fun hb=>?_;try exact zab)|refine zUro ?_|refine zg2 ?_ ?_|refine kmu a ?_|intro _)
   exact zDR
 ·have b:Jw s _=(untO s n,if(untO s n).isSome=true then(0:Int)else 10):=(YC d h).trans rfl
  rw[b]
  have a:=QwN (t:=n) hs
  generalize untO s n=o at a ⊢
  rcases o with _|e
  ·dsimp only[stB,Option.getD,Option.isSome]at a ⊢
   repeat'(first|(refine zhm fun hb=>?_;try exact zab)|refine zUro ?_|refine zg2 ?_ ?_|refine kmu a ?_|intro _)
   exact zDR
  ·dsimp only[stB,Option.getD,Option.isSome]at a ⊢
   repeat'(first|(refine zhm fun hb=>?_;try exact zab)|refine zUro ?_|refine zg2 ?_ ?_|refine kmu a ?_|intro _)
   exact zDR

theorem Qcr{α:Type}[Inhabited α]{l:List α}{i:Nat}(h:i<l.length):l.drop i=nth l i::l.drop (i+1):=by rw[Jd h];exact Xa8 h
noncomputable def repO:Qb->List (List UInt8)->Option Qb
 | s,[]=>some s
 | s,r::l=>if(JX r).2=true then match (Jw s (JX r).1).1 with
  | none=>none
  | some s'=>repO s' l else none
theorem QdH{s:Qb}{l:List (List UInt8)}{i:Nat}(h:i<l.length)(ht:(JX (nth l i)).2=false):repO s (l.drop i)=none:=by
 rw[Qcr h,repO,if_neg (by rw[ht];decide)]
theorem Qbm{s:Qb}{l:List (List UInt8)}{i:Nat}{c:Cmd}(h:i<l.length)(ht:JX (nth l i)=(c,true))(ha:(Jw s c).1=none):repO s (l.drop i)=none:=by
 rw[Qcr h,repO,ht,if_pos rfl]
 dsimp only
 rw[ha]
theorem Qbz{s s':Qb}{l:List (List UInt8)}{i:Nat}{c:Cmd}(h:i<l.length)(ht:JX (nth l i)=(c,true))(ha:(Jw s c).1=some s'):repO s (l.drop i)=repO s' (l.drop (i+1)):=by
 rw[Qcr h,repO,ht,if_pos rfl]
 dsimp only
 rw[ha]
def Qkz(o:Option Qb×Int):Prop:=(∃s',o=(some s',0))\/∃k:Int,o=(none,k)/\k≠0
theorem Qku{s:Qb}{j:Job}:Qkz (Yy s j):=by
 unfold Yy
 repeat' split
 all_goals first
  | exact .inl ⟨_,rfl⟩
  | exact .inr ⟨_,rfl,by decide⟩
theorem QlS{s:Qb}{id why:Int}:Qkz (fnsO s id why):=by
 unfold fnsO
 repeat' split
 all_goals first
  | exact .inl ⟨_,rfl⟩
  | exact .inr ⟨_,rfl,by decide⟩
theorem Qqw{s:Qb}{n:Int}:Qkz (Z3 s n):=by
 unfold Z3
 repeat' split
 all_goals first
  | exact .inl ⟨_,rfl⟩
  | exact .inr ⟨_,rfl,by decide⟩
theorem QjP{s:Qb}{n:Int}:Qkz (Yw s n):=by
 unfold Yw
 repeat' split
 all_goals first
  | exact .inl ⟨_,rfl⟩
  | exact .inr ⟨_,rfl,by decide⟩
theorem QjM{s:Qb}{v:V3}:Qkz (Yx s v):=by
 unfold Yx
 repeat' split
 all_goals first
  | exact .inl ⟨_,rfl⟩
  | exact .inr ⟨_,rfl,by decide⟩
theorem Qnu{s:Qb}{t:Int}:Qkz (untO s t,if(untO s t).isSome=true then 0 else 10):=by
 cases untO s t with
 | none=>exact .inr ⟨10,rfl,by decide⟩
 | some s'=>exact .inl ⟨s',rfl⟩
theorem YK{s:Qb}{c:Cmd}:Qkz (Jw s c):=by
 by_cases h:Jv c=true/\Qf s=true
 ·rw[show Jw s c=_ from if_pos h]
  by_cases a:c.kind=1
  ·rw[if_pos a];exact Qku
  rw[if_neg a]
  by_cases b:c.kind=2
  ·rw[if_pos b];exact QlS
  rw[if_neg b]
  by_cases d:c.kind=3
  ·rw[if_pos d];exact QlS
  rw[if_neg d]
  by_cases e:c.kind=4
  ·rw[if_pos e];exact Qqw
  rw[if_neg e]
  by_cases f:c.kind=5
  ·rw[if_pos f];exact QjP
  rw[if_neg f]
  by_cases g:c.kind=6
  ·rw[if_pos g];exact QjM
  rw[if_neg g]
  exact Qnu
 ·rw[XR h]
  exact .inr ⟨1,rfl,by decide⟩
theorem Qrz{b:List UInt8}:∀(f:Nat) {x:RdSt},(∀r∈x.1,r.length<=b.length)->∀r∈(rdF b f x).1,r.length<=b.length
 | 0,x,h=>h
 | f+1,x,h=>by
  unfold rdF
  split
  ·refine Qrz f fun r hr=>?_
   rcases Xag.1 hr with hr|hr
   ·exact h r hr
   ·obtain rfl:=XaH.1 hr
    simp only[subB,XaP,Xah]
    omega
  ·exact h
theorem Qqm{b:List UInt8}:∀(f:Nat) {x:RdSt},rdAt b x->(rdF b f x).1.length<=b.length
 | 0,x,h=>by have:=h.1;have:=h.2.1;unfold rdF;omega
 | f+1,x,h=>by
  unfold rdF
  split
  ·rename_i hk
   exact Qqm f (XV h hk)
  ·have:=h.1;have:=h.2.1;omega
theorem Qhu(b:List UInt8):(Ja b).1.length<=b.length/\∀r∈(Ja b).1,r.length<=b.length:=
 ⟨Qqm _ (QjB b),Qrz _ fun r hr=>by cases hr⟩
theorem Vs:∀{l:List (List UInt8)} {s s':Qb},Qo 1048576 s->repO s l=some s'->Qo 1048576 s'
 | [],s,s',hs,h=>by
  injection h with h
  exact h▸hs
 | r::l,s,s',hs,h=>by
  unfold repO at h
  split at h
  ·split at h
   ·cases h
   ·rename_i s1 h1
    exact Vs (Wm hs s1 h1) h
  ·cases h
theorem Qnw{s:Qb}{l:List (List UInt8)}(hs:Qo 1048576 s)(hl:l.length<=1000000000)(hr:∀r∈l,r.length<=1000000000):DC Tryz.prog 45 [Qz s,zL (strE l)] [Qz ((repO s l).getD zS),.d (.b (repO s l).isSome)]:=by
 refine zMC func45 fun w0 Z O=>?_
 have o:=YP l
 generalize hR:repO s l=R
 repeat'(first|(refine zhm fun hb=>?_;try exact zab)|refine Qd ?_|(apply zch;exact zcg)|exact zhk|refine zg3 ?_ ?_|intro _)
 refine Qa (fun(k:Qb×Nat)=>⟨38,[(2,.ptr 2 0),(4,.ptr 4 0),(12,zL (strE l)),(13,zI (l.length:Nat)),(14,zI k.2)],[(2,.box 34 (JI k.1)),(4,.box 34 ctl0)]⟩) (fun k=>k.2<=l.length/\Qo 1048576 k.1/\repO k.1 (l.drop k.2)=R) (fun k=>l.length-k.2) (s,0) ⟨Xae _,hs,by rw[XbO];exact hR⟩ ?_ ?_
 ·refine⟨rfl,?_,?_,rfl⟩
  repeat'(first|exact ze3|refine ze2 ?_ ?_|refine ze4 ?_|exact ze5|fail)
  all_goals exact zp (by first|rfl|exact YP _)
 rintro ⟨p,n⟩ ⟨j,f,a⟩
 dsimp only at j f a ⊢
 by_cases e:n<l.length
 ·have m:=Qe0 (s:=nth l n) (hr _ (QE e))
  generalize ht:JX (nth l n)=tc at m
  obtain⟨c,q⟩:=tc
  dsimp only at m
  cases q with
  | false=>
   rw[QdH e (by rw[ht])]at a
   subst a
   repeat'(first|(refine zhm fun hb=>?_;try exact zab)|refine Q2 ?_|(apply zch;exact zcg)|exact zhk|refine zg3 ?_ ?_|intro _)
   exact zDR
  | true=>
   have h:=Wm (c:=c) f
   rcases YK (s:=p) (c:=c)with ⟨s2,h2⟩|⟨k,h2,hk⟩
   ·have g:=dc_a (Qee (c:=c) f)
    rw[h2]at g h
    dsimp only[stR,stB]at g
    rw[Qbz e ht (by rw[h2])]at a
    repeat'(first|(refine zhm fun hb=>?_;try exact zab)|refine Qd ?_|(apply zch;exact zcg)|exact zhk|refine zg3 ?_ ?_|(refine km [] (g) rfl rfl (fun i hi=>?_);try dsimp only at hi)|intro _)
    refine⟨(s2,n+1),⟨by dsimp only;omega,h s2 rfl,a⟩,by dsimp only;omega,?_⟩
    refine⟨rfl,?_,?_,rfl⟩
    repeat'(first|exact ze3|refine ze2 ?_ ?_|refine ze4 ?_|exact ze5|fail)
    all_goals exact zp rfl
   ·have g:=Qee (c:=c) f
    rw[h2]at g
    dsimp only[SO,stR,stB]at g
    rw[Qbm e ht (by rw[h2])]at a
    subst a
    repeat'(first|(refine zhm fun hb=>?_;try exact zab)|refine Q2 ?_|(apply zch;exact zcg)|exact zhk|refine zg3 ?_ ?_|intro _)
    exact zDR
 ·obtain rfl:n=l.length:=by omega
  rw[XcM]at a
  subst a
  repeat'(first|(refine zhm fun hb=>?_;try exact zab)|refine Q2 ?_|(apply zch;exact zcg)|exact zhk|refine zg3 ?_ ?_|intro _)
  exact zDR
theorem Qi3{s:Qb}{b:List UInt8}(hs:Qo 1048576 s)(hb:b.length<=1000000000):DC Tryz.prog 220 [Qz s,zL (QC b)] [Qz ((repO s (Ja b).1).getD zS),.d (.b (repO s (Ja b).1).isSome)]:=by
 refine zMC func220 fun w0 Z O=>?_
 obtain⟨r,p⟩:=Qhu b
 have j:=YP (Ja b).1
 have m:=dc_a (ZU hb)
 generalize (Ja b).1=l at r p j m ⊢
 generalize hR:repO s l=R
 repeat'(first|(refine zhm fun hb=>?_;try exact zab)|refine Qd ?_|(apply zch;exact zcg)|exact zhk|refine zg3 ?_ ?_|refine kmu m ?_|intro _)
 refine Qa (fun(k:Qb×Nat)=>⟨46,[(2,.ptr 2 0),(4,.ptr 4 0),(19,zL (strE l)),(20,zI (l.length:Nat)),(21,zI k.2)],[(2,.box 34 (JI k.1)),(4,.box 34 ctl0)]⟩) (fun k=>k.2<=l.length/\Qo 1048576 k.1/\repO k.1 (l.drop k.2)=R) (fun k=>l.length-k.2) (s,0) ⟨Xae _,hs,by rw[XbO];exact hR⟩ ?_ ?_
 ·refine⟨rfl,?_,?_,rfl⟩
  repeat'(first|exact ze3|refine ze2 ?_ ?_|refine ze4 ?_|exact ze5|fail)
  all_goals exact zp (by first|rfl|exact YP _)
 rintro ⟨u,n⟩ ⟨i,h,a⟩
 dsimp only at i h a ⊢
 by_cases e:n<l.length
 ·have o:=QoN (s:=nth l n) (Xam (p _ (QE e)) hb)
  have f:=Qqp (c:=(JX (nth l n)).1) h
  have g:=Wm (c:=(JX (nth l n)).1) h
  generalize ht:JX (nth l n)=tc at o f g
  obtain⟨c,q⟩:=tc
  dsimp only at o f g
  rcases YK (s:=u) (c:=c)with ⟨s2,h2⟩|⟨k,h2,hk⟩
  ·rw[h2]at f g
   dsimp only[SS,Option.getD]at f
   cases q with
   | false=>
    rw[QdH e (by rw[ht])]at a
    subst a
    repeat'(first|(refine zhm fun hb=>?_;try exact zab)|refine Q2 ?_|(apply zch;exact zcg)|exact zhk|refine zg3 ?_ ?_|refine kmu f ?_|intro _)
    exact zDR
   | true=>
    rw[Qbz e ht (by rw[h2])]at a
    repeat'(first|(refine zhm fun hb=>?_;try exact zab)|refine Qd ?_|(apply zch;exact zcg)|exact zhk|refine zg3 ?_ ?_|refine kmu f ?_|intro _)
    refine⟨(s2,n+1),⟨by dsimp only;omega,g s2 rfl,a⟩,by dsimp only;omega,?_⟩
    refine⟨rfl,?_,?_,rfl⟩
    repeat'(first|exact ze3|refine ze2 ?_ ?_|refine ze4 ?_|exact ze5|fail)
    all_goals exact zp rfl
  ·rw[h2]at f
   dsimp only[SS,Option.getD]at f
   have t:R=none:=by
    cases q with
    | false=>rw[<-a];exact QdH e (by rw[ht])
    | true=>rw[<-a];exact Qbm e ht (by rw[h2])
   subst t
   repeat'(first|(refine zhm fun hb=>?_;try exact zab)|refine Q2 ?_|(apply zch;exact zcg)|exact zhk|refine zg3 ?_ ?_|refine kmu f ?_|intro _)
   all_goals
    exact zDR
 ·obtain rfl:n=l.length:=by omega
  rw[XcM]at a
  subst a
  repeat'(first|(refine zhm fun hb=>?_;try exact zab)|refine Q2 ?_|(apply zch;exact zcg)|exact zhk|refine zg3 ?_ ?_|intro _)
  exact zDR
noncomputable def ZI (s:Qb) (b:List UInt8):Option Qb:=repO s (Ja b).1
noncomputable def Y8 (c:Ctl):Bool:=YN c.first&&(jnOk c.jn&&match ZI c.first c.jn.bytes with
 | none=>false
 | some s=>Z5 s c.state)
theorem QvH{c:Ctl}(hs:J1 1048576 c):zAc 12 [ctlA c] [.d (.b (Y8 c))] []:=by
 refine zAC func12 fun w0 Z=>?_
 have o:Qo 100000000 c.first:=hs.first.mono (by omega)
 have hb:c.jn.bytes.length<=1000000000:=Xam hs.jn (by omega)
 unfold Y8
 cases k:YN c.first with
 | false=>
  have g:=Qhc o (pB_f.1 k)
  repeat'(first|(refine zhm fun hb=>?_;try exact zab)|refine Qd ?_|(apply zch;exact zcg)|exact zhk|refine zg3 ?_ ?_|intro _)
  refine zr [] ?_ ?_
  repeat'(first|exact ze3|refine ze2 ?_ ?_|refine ze4 ?_|exact ze5|fail)
  all_goals exact zp rfl
 | true=>
  have g:=dc_a (Qc2 o (pB_t.1 k))
  have i:=QeS (j:=c.jn) hb
  cases m:jnOk c.jn with
  | false=>
   rw[m]at i
   repeat'(first|(refine zhm fun hb=>?_;try exact zab)|refine Qd ?_|(apply zch;exact zcg)|exact zhk|refine zg3 ?_ ?_|refine kmu g ?_|intro _)
   refine zr [] ?_ ?_
   repeat'(first|exact ze3|refine ze2 ?_ ?_|refine ze4 ?_|exact ze5|fail)
   all_goals exact zp rfl
  | true=>
   rw[m]at i
   obtain⟨q,p⟩:=Qhu c.jn.bytes
   have h:=dc_a (Vk hb)
   have f:=Qnw (l:=(Ja c.jn.bytes).1) hs.first (by omega) (fun r hr'=>Xam (p r hr') hb)
   have e:=Vs (l:=(Ja c.jn.bytes).1) (s:=c.first) (s':=(repO c.first (Ja c.jn.bytes).1).getD zS) hs.first
   unfold ZI
   generalize (Ja c.jn.bytes).1=l at q p h f e ⊢
   cases n:repO c.first l with
   | none=>
    rw[n]at f
    dsimp only[Option.getD,Option.isSome]at f
    repeat'(first|(refine zhm fun hb=>?_;try exact zab)|refine Qd ?_|(apply zch;exact zcg)|exact zhk|refine zg3 ?_ ?_|refine kmu g ?_|refine kmu h ?_|refine kmu f ?_|intro _)
    refine zr [] ?_ ?_
    repeat'(first|exact ze3|refine ze2 ?_ ?_|refine ze4 ?_|exact ze5|fail)
    all_goals exact zp rfl
   | some s'=>
    rw[n]at f e
    dsimp only[Option.getD,Option.isSome]at f e
    have c5:=QdJ (a:=s') (b:=c.state) ((e rfl).mono (by omega)) (hs.state.mono (by omega))
    repeat'(first|(refine zhm fun hb=>?_;try exact zab)|refine Qd ?_|(apply zch;exact zcg)|exact zhk|refine zg3 ?_ ?_|refine kmu g ?_|refine kmu h ?_|refine kmu f ?_|intro _)
    refine zr [] ?_ ?_
    repeat'(first|exact ze3|refine ze2 ?_ ?_|refine ze4 ?_|exact ze5|fail)
    all_goals exact zp rfl
theorem QpI{c:Ctl}(hs:J1 1048576 c):zAc 216 [ctlA c] [.d (.b (Y8 c))] []:=by
 refine zAC func216 fun w0 Z=>?_
 have n:Qo 100000000 c.first:=hs.first.mono (by omega)
 have hb:c.jn.bytes.length<=1000000000:=Xam hs.jn (by omega)
 have g:=X5 n
 have h:=VL (j:=c.jn) hb
 have f:=Qi3 hs.first hb
 have e:=Vs (l:=(Ja c.jn.bytes).1) (s:=c.first) (s':=(repO c.first (Ja c.jn.bytes).1).getD zS) hs.first
 unfold Y8 ZI
 cases i:YN c.first with
 | false=>
  rw[i]at g
  repeat'(first|(refine zhm fun hb=>?_;try exact zab)|refine Qd ?_|(apply zch;exact zcg)|exact zhk|refine zg3 ?_ ?_|intro _)
  refine zr [] ?_ ?_
  repeat'(first|exact ze3|refine ze2 ?_ ?_|refine ze4 ?_|exact ze5|fail)
  all_goals exact zp rfl
 | true=>
  rw[i]at g
  cases k:jnOk c.jn with
  | false=>
   rw[k]at h
   repeat'(first|(refine zhm fun hb=>?_;try exact zab)|refine Qd ?_|(apply zch;exact zcg)|exact zhk|refine zg3 ?_ ?_|intro _)
   refine zr [] ?_ ?_
   repeat'(first|exact ze3|refine ze2 ?_ ?_|refine ze4 ?_|exact ze5|fail)
   all_goals exact zp rfl
  | true=>
   rw[k]at h
   cases m:repO c.first (Ja c.jn.bytes).1 with
   | none=>
    rw[m]at f
    dsimp only[Option.getD,Option.isSome]at f
    repeat'(first|(refine zhm fun hb=>?_;try exact zab)|refine Qd ?_|(apply zch;exact zcg)|exact zhk|refine zg3 ?_ ?_|refine kmu f ?_|intro _)
    refine zr [] ?_ ?_
    repeat'(first|exact ze3|refine ze2 ?_ ?_|refine ze4 ?_|exact ze5|fail)
    all_goals exact zp rfl
   | some s'=>
    rw[m]at f e
    dsimp only[Option.getD,Option.isSome]at f e
    have c5:=QdU (a:=s') (b:=c.state) ((e rfl).mono (by omega)) (hs.state.mono (by omega))
    repeat'(first|(refine zhm fun hb=>?_;try exact zab)|refine Qd ?_|(apply zch;exact zcg)|exact zhk|refine zg3 ?_ ?_|refine kmu f ?_|intro _)
    refine zr [] ?_ ?_
    repeat'(first|exact ze3|refine ze2 ?_ ?_|refine ze4 ?_|exact ze5|fail)
    all_goals exact zp rfl
end
end Go.Proofs.YtkdniahincpmaaaGreat
