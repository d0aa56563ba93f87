/-
  Apply, both.
-/
import Derived.Test.YtihgfennoalocaaGreatKB34
import Derived.Test.YtihgfennoalocaaGreatKB38
import Derived.Test.YtihgfennoalocaaGreatKB39
import Derived.Test.YtihgfennoalocaaGreatKB22
set_option maxRecDepth 100000
set_option maxHeartbeats 16000000
namespace Go.Proofs.YtihgfennoalocaaGreat
open Go Go.RowKit Tryz
section
attribute [local irreducible] AWp QJ OpOk ACalls ChA QsOk MCalls NCalls EnC PY

noncomputable def JA (s:Qd) (c:Cmd):Option Qd×Int:=
 if JP c=true/\Qp s=true then
  if c.kind=1 then YD s c.job
  else if c.kind=2 then fnsO s c.n 3
  else if c.kind=3 then fnsO s c.n 2
  else if c.kind=4 then XC s c.n
  else if c.kind=5 then YH s c.n
  else if c.kind=6 then YF s c.lic
  else(untO s c.n,if(untO s c.n).isSome=true then 0 else 10)
 else(none,1)
theorem Qng{c:Cmd}(h:JP c=true):c.kind=1\/c.kind=2\/c.kind=3\/c.kind=4\/c.kind=5\/c.kind=6\/c.kind=7:=by
 unfold JP at h
 split at h
 ·omega
 ·split at h
  ·omega
  ·split at h
   ·omega
   ·split at h
    ·omega
    ·split at h
     ·omega
     ·cases h
theorem Y3{s:Qd}{c:Cmd}(hs:Ql 1048576 s):∀s',(JA s c).1=some s'->Ql 1048576 s':=fun s' h=>by
 unfold JA at h
 repeat' split at h
 ·exact Qf0 hs s' h
 ·exact QeS hs s' h
 ·exact QeS hs s' h
 ·exact Qjm hs s' h
 ·exact Qge hs s' h
 ·exact QfU hs s' h
 ·exact Qez hs s' h
 ·exact Qez hs s' h
 ·cases h
theorem Yj{s:Qd}{k n:Int}{j:Job}{v:V3}(hc:JP ⟨k,j,n,v⟩=true)(h:Qp s=true):JA s ⟨k,j,n,v⟩=if k=1 then YD s j else if k=2 then fnsO s n 3 else if k=3 then fnsO s n 2 else if k=4 then XC s n else if k=5 then YH s n else if k=6 then YF s v else(untO s n,if(untO s n).isSome=true then 0 else 10):=if_pos ⟨hc,h⟩
theorem QaM{s:Qd}{c:Cmd}(h:¬(JP c=true/\Qp s=true)):JA s c=(none,1):=if_neg h
theorem QdS{s:Qd}{c:Cmd}(hs:Ql 1048576 s):SO 131 [Qx s,cmdA c] (JA s c).1 (JA s c).2:=by
 refine zAC func131 fun w0 Z=>?_
 have hm:Ql 100000000 s:=hs.mono (by omega)
 have c0:=Qjd (c:=c)
 have c1:=Yo hm
 cases hc:JP c with
 | false=>
  rw[hc]at c0
  rw[QaM (fun h=>by rw[hc]at h;cases h.1)]
  repeat'(first|(refine zhm fun hb=>?_;try exact zab)|refine zUto ?_|refine zg2 ?_ ?_|intro _|fail)
  exact zrr
 | true=>
 rw[hc]at c0
 cases h:Qp s with
 | false=>
  rw[h]at c1
  rw[QaM (fun h'=>by rw[h]at h';cases h'.2)]
  repeat'(first|(refine zhm fun hb=>?_;try exact zab)|refine zUto ?_|refine zg2 ?_ ?_|intro _|fail)
  exact zrr
 | true=>
 rw[h]at c1
 obtain⟨k,j,n,v⟩:=c
 have hk:=Qng hc
 dsimp only at hk
 rcases hk with rfl|rfl|rfl|rfl|rfl|rfl|rfl
 ·have hA:JA s _=YD s j:=(Yj hc h).trans rfl
  rw[hA]
  have c2:=QpU (j:=j) hs
  generalize YD s j=o at c2 ⊢
  obtain⟨_|s',y⟩:=o
  ·dsimp only[SO,SS,stR,stB,Option.getD]at c2 ⊢
   repeat'(first|(refine zhm fun hb=>?_;try exact zab)|refine zUto ?_|refine zg2 ?_ ?_|intro _|fail)
   exact zrr
  ·dsimp only[SO,SS,stR,stB,Option.getD]at c2 ⊢
   repeat'(first|(refine zhm fun hb=>?_;try exact zab)|refine zUto ?_|refine zg2 ?_ ?_|intro _|fail)
   exact zr [24,1024,2024,3024,4024,5024] zae zae
 ·have hA:JA s _=fnsO s n 3:=(Yj hc h).trans rfl
  rw[hA]
  have c2:=Qk5 (id:=n) (why:=3) hs
  generalize fnsO s n 3=o at c2 ⊢
  obtain⟨_|s',y⟩:=o
  ·dsimp only[SO,SS,stR,stB,Option.getD]at c2 ⊢
   repeat'(first|(refine zhm fun hb=>?_;try exact zab)|refine zUto ?_|refine zg2 ?_ ?_|intro _|fail)
   exact zrr
  ·dsimp only[SO,SS,stR,stB,Option.getD]at c2 ⊢
   repeat'(first|(refine zhm fun hb=>?_;try exact zab)|refine zUto ?_|refine zg2 ?_ ?_|intro _|fail)
   exact zr [32,1032,2032,3032,4032,5032] zae zae
 ·have hA:JA s _=fnsO s n 2:=(Yj hc h).trans rfl
  rw[hA]
  have c2:=Qk5 (id:=n) (why:=2) hs
  generalize fnsO s n 2=o at c2 ⊢
  obtain⟨_|s',y⟩:=o
  ·dsimp only[SO,SS,stR,stB,Option.getD]at c2 ⊢
   repeat'(first|(refine zhm fun hb=>?_;try exact zab)|refine zUto ?_|refine zg2 ?_ ?_|intro _|fail)
   exact zrr
  ·dsimp only[SO,SS,stR,stB,Option.getD]at c2 ⊢
   repeat'(first|(refine zhm fun hb=>?_;try exact zab)|refine zUto ?_|refine zg2 ?_ ?_|intro _|fail)
   exact zr [40,1040,2040,3040,4040,5040] zae zae
 ·have hA:JA s _=XC s n:=(Yj hc h).trans rfl
  rw[hA]
  have c2:=QuE (n:=n) hs
  generalize XC s n=o at c2 ⊢
  obtain⟨_|s',y⟩:=o
  ·dsimp only[SO,SS,stR,stB,Option.getD]at c2 ⊢
   repeat'(first|(refine zhm fun hb=>?_;try exact zab)|refine zUto ?_|refine zg2 ?_ ?_|intro _|fail)
   exact zrr
  ·dsimp only[SO,SS,stR,stB,Option.getD]at c2 ⊢
   repeat'(first|(refine zhm fun hb=>?_;try exact zab)|refine zUto ?_|refine zg2 ?_ ?_|intro _|fail)
   exact zr [48,1048,2048,3048,4048,5048] zae zae
 ·have hA:JA s _=YH s n:=(Yj hc h).trans rfl
  rw[hA]
  have c2:=Qqm (n:=n) hs
  generalize YH s n=o at c2 ⊢
  obtain⟨_|s',y⟩:=o
  ·dsimp only[SO,SS,stR,stB,Option.getD]at c2 ⊢
   repeat'(first|(refine zhm fun hb=>?_;try exact zab)|refine zUto ?_|refine zg2 ?_ ?_|intro _|fail)
   exact zrr
  ·dsimp only[SO,SS,stR,stB,Option.getD]at c2 ⊢
   repeat'(first|(refine zhm fun hb=>?_;try exact zab)|refine zUto ?_|refine zg2 ?_ ?_|intro _|fail)
   exact zr [56,1056,2056,3056,4056,5056] zae zae
 ·have hA:JA s _=YF s v:=(Yj hc h).trans rfl
  rw[hA]
  have c2:=QpD (v:=v) hs
  generalize YF s v=o at c2 ⊢
  obtain⟨_|s',y⟩:=o
  ·dsimp only[SO,SS,stR,stB,Option.getD]at c2 ⊢
   repeat'(first|(refine zhm fun hb=>?_;try exact zab)|refine zUto ?_|refine zg2 ?_ ?_|intro _|fail)
   exact zrr
  ·dsimp only[SO,SS,stR,stB,Option.getD]at c2 ⊢
   repeat'(first|(refine zhm fun hb=>?_;try exact zab)|refine zUto ?_|refine zg2 ?_ ?_|intro _|fail)
   exact zr [64,1064,2064,3064,4064,5064] zae zae
 ·have hA:JA s _=(untO s n,if(untO s n).isSome=true then(0:Int)else 10):=(Yj hc h).trans rfl
  rw[hA]
  have c2:=Qtv (t:=n) hs
  generalize untO s n=o at c2 ⊢
  rcases o with _|s'
  ·dsimp only[unR,stR,stB]at c2 ⊢
   repeat'(first|(refine zhm fun hb=>?_;try exact zab)|refine zUto ?_|refine zg2 ?_ ?_|intro _|fail)
   exact zrr
  ·dsimp only[unR,stR,stB]at c2 ⊢
   repeat'(first|(refine zhm fun hb=>?_;try exact zab)|refine zUto ?_|refine zg2 ?_ ?_|intro _|fail)
   exact zr [71,1071,2071,3071,4071,5071] zae zae
theorem QmO{s:Qd}{c:Cmd}(hs:Ql 1048576 s):SS 123 [Qx s,cmdA c] (JA s c).1 (JA s c).2:=by
 refine zMC func123 fun w0 Z O=>?_
 have hm:Ql 100000000 s:=hs.mono (by omega)
 have c0:=Qc8 (c:=c)
 have c1:=YL hm
 cases hc:JP c with
 | false=>
  rw[hc]at c0
  rw[QaM (fun h=>by rw[hc]at h;cases h.1)]
  repeat'(first|(refine zhm fun hb=>?_;try exact zab)|refine zUro ?_|refine zg2 ?_ ?_|intro _|fail)
  exact zDR
 | true=>
 rw[hc]at c0
 cases h:Qp s with
 | false=>
  rw[h]at c1
  rw[QaM (fun h'=>by rw[h]at h';cases h'.2)]
  repeat'(first|(refine zhm fun hb=>?_;try exact zab)|refine zUro ?_|refine zg2 ?_ ?_|intro _|fail)
  exact zDR
 | true=>
 rw[h]at c1
 obtain⟨k,j,n,v⟩:=c
 have hk:=Qng hc
 dsimp only at hk
 rcases hk with rfl|rfl|rfl|rfl|rfl|rfl|rfl
 ·have hA:JA s _=YD s j:=(Yj hc h).trans rfl
  rw[hA]
  have c2:=QpO (j:=j) hs
  generalize YD s j=o at c2 ⊢
  obtain⟨_|s',y⟩:=o
  ·dsimp only[SO,SS,stR,stB,Option.getD]at c2 ⊢
   repeat'(first|(refine zhm fun hb=>?_;try exact zab)|refine zUro ?_|refine zg2 ?_ ?_|refine kmu c2 ?_|intro _|fail)
   exact zDR
  ·dsimp only[SO,SS,stR,stB,Option.getD]at c2 ⊢
   repeat'(first|(refine zhm fun hb=>?_;try exact zab)|refine zUro ?_|refine zg2 ?_ ?_|refine kmu c2 ?_|intro _|fail)
   exact zDR
 ·have hA:JA s _=fnsO s n 3:=(Yj hc h).trans rfl
  rw[hA]
  have c2:=Qk0 (id:=n) (why:=3) hs
  generalize fnsO s n 3=o at c2 ⊢
  obtain⟨_|s',y⟩:=o
  ·dsimp only[SO,SS,stR,stB,Option.getD]at c2 ⊢
   repeat'(first|(refine zhm fun hb=>?_;try exact zab)|refine zUro ?_|refine zg2 ?_ ?_|refine kmu c2 ?_|intro _|fail)
   exact zDR
  ·dsimp only[SO,SS,stR,stB,Option.getD]at c2 ⊢
   repeat'(first|(refine zhm fun hb=>?_;try exact zab)|refine zUro ?_|refine zg2 ?_ ?_|refine kmu c2 ?_|intro _|fail)
   exact zDR
 ·have hA:JA s _=fnsO s n 2:=(Yj hc h).trans rfl
  rw[hA]
  have c2:=Qk0 (id:=n) (why:=2) hs
  generalize fnsO s n 2=o at c2 ⊢
  obtain⟨_|s',y⟩:=o
  ·dsimp only[SO,SS,stR,stB,Option.getD]at c2 ⊢
   repeat'(first|(refine zhm fun hb=>?_;try exact zab)|refine zUro ?_|refine zg2 ?_ ?_|refine kmu c2 ?_|intro _|fail)
   exact zDR
  ·dsimp only[SO,SS,stR,stB,Option.getD]at c2 ⊢
   repeat'(first|(refine zhm fun hb=>?_;try exact zab)|refine zUro ?_|refine zg2 ?_ ?_|refine kmu c2 ?_|intro _|fail)
   exact zDR
 ·have hA:JA s _=XC s n:=(Yj hc h).trans rfl
  rw[hA]
  have c2:=Que (n:=n) hs
  generalize XC s n=o at c2 ⊢
  obtain⟨_|s',y⟩:=o
  ·dsimp only[SO,SS,stR,stB,Option.getD]at c2 ⊢
   repeat'(first|(refine zhm fun hb=>?_;try exact zab)|refine zUro ?_|refine zg2 ?_ ?_|refine kmu c2 ?_|intro _|fail)
   exact zDR
  ·dsimp only[SO,SS,stR,stB,Option.getD]at c2 ⊢
   repeat'(first|(refine zhm fun hb=>?_;try exact zab)|refine zUro ?_|refine zg2 ?_ ?_|refine kmu c2 ?_|intro _|fail)
   exact zDR
 ·have hA:JA s _=YH s n:=(Yj hc h).trans rfl
  rw[hA]
  have c2:=QqP (n:=n) hs
  generalize YH s n=o at c2 ⊢
  obtain⟨_|s',y⟩:=o
  ·dsimp only[SO,SS,stR,stB,Option.getD]at c2 ⊢
   repeat'(first|(refine zhm fun hb=>?_;try exact zab)|refine zUro ?_|refine zg2 ?_ ?_|refine kmu c2 ?_|intro _|fail)
   exact zDR
  ·dsimp only[SO,SS,stR,stB,Option.getD]at c2 ⊢
   repeat'(first|(refine zhm fun hb=>?_;try exact zab)|refine zUro ?_|refine zg2 ?_ ?_|refine kmu c2 ?_|intro _|fail)
   exact zDR
 ·have hA:JA s _=YF s v:=(Yj hc h).trans rfl
  rw[hA]
  have c2:=Qro (v:=v) hs
  generalize YF s v=o at c2 ⊢
  obtain⟨_|s',y⟩:=o
  ·dsimp only[SO,SS,stR,stB,Option.getD]at c2 ⊢
   repeat'(first|(refine zhm fun hb=>?_;try exact zab)|refine zUro ?_|refine zg2 ?_ ?_|refine kmu c2 ?_|intro _|fail)
   exact zDR
  ·dsimp only[SO,SS,stR,stB,Option.getD]at c2 ⊢
   repeat'(first|(refine zhm fun hb=>?_;try exact zab)|refine zUro ?_|refine zg2 ?_ ?_|refine kmu c2 ?_|intro _|fail)
   exact zDR
 ·have hA:JA s _=(untO s n,if(untO s n).isSome=true then(0:Int)else 10):=(Yj hc h).trans rfl
  rw[hA]
  have c2:=Qtm (t:=n) hs
  generalize untO s n=o at c2 ⊢
  rcases o with _|s'
  ·dsimp only[stB,Option.getD,Option.isSome]at c2 ⊢
   repeat'(first|(refine zhm fun hb=>?_;try exact zab)|refine zUro ?_|refine zg2 ?_ ?_|refine kmu c2 ?_|intro _|fail)
   exact zDR
  ·dsimp only[stB,Option.getD,Option.isSome]at c2 ⊢
   repeat'(first|(refine zhm fun hb=>?_;try exact zab)|refine zUro ?_|refine zg2 ?_ ?_|refine kmu c2 ?_|intro _|fail)
   exact zDR

theorem QbC{α:Type}[Inhabited α]{l:List α}{i:Nat}(h:i<l.length):l.drop i=nth l i::l.drop (i+1):=by rw[Ja h];exact Xa4 h
noncomputable def repO:Qd->List (List UInt8)->Option Qd
 | s,[]=>some s
 | s,r::l=>if(J7 r).2=true then match (JA s (J7 r).1).1 with
  | none=>none
  | some s'=>repO s' l else none
theorem QdL{s:Qd}{l:List (List UInt8)}{i:Nat}(h:i<l.length)(ht:(J7 (nth l i)).2=false):repO s (l.drop i)=none:=by
 rw[QbC h,repO,if_neg (by rw[ht];decide)]
theorem X8{s:Qd}{l:List (List UInt8)}{i:Nat}{c:Cmd}(h:i<l.length)(ht:J7 (nth l i)=(c,true))(ha:(JA s c).1=none):repO s (l.drop i)=none:=by
 rw[QbC h,repO,ht,if_pos rfl]
 dsimp only
 rw[ha]
theorem Qax{s s':Qd}{l:List (List UInt8)}{i:Nat}{c:Cmd}(h:i<l.length)(ht:J7 (nth l i)=(c,true))(ha:(JA s c).1=some s'):repO s (l.drop i)=repO s' (l.drop (i+1)):=by
 rw[QbC h,repO,ht,if_pos rfl]
 dsimp only
 rw[ha]
def QiJ(o:Option Qd×Int):Prop:=(∃s',o=(some s',0))\/∃k:Int,o=(none,k)/\k≠0
theorem QiY{s:Qd}{j:Job}:QiJ (YD s j):=by
 unfold YD
 repeat' split
 all_goals first
  | exact .inl ⟨_,rfl⟩
  | exact .inr ⟨_,rfl,by decide⟩
theorem Qj7{s:Qd}{id why:Int}:QiJ (fnsO s id why):=by
 unfold fnsO
 repeat' split
 all_goals first
  | exact .inl ⟨_,rfl⟩
  | exact .inr ⟨_,rfl,by decide⟩
theorem QmI{s:Qd}{n:Int}:QiJ (XC s n):=by
 unfold XC
 repeat' split
 all_goals first
  | exact .inl ⟨_,rfl⟩
  | exact .inr ⟨_,rfl,by decide⟩
theorem Qjh{s:Qd}{n:Int}:QiJ (YH s n):=by
 unfold YH
 repeat' split
 all_goals first
  | exact .inl ⟨_,rfl⟩
  | exact .inr ⟨_,rfl,by decide⟩
theorem Qiy{s:Qd}{v:V3}:QiJ (YF s v):=by
 unfold YF
 repeat' split
 all_goals first
  | exact .inl ⟨_,rfl⟩
  | exact .inr ⟨_,rfl,by decide⟩
theorem Qly{s:Qd}{t:Int}:QiJ (untO s t,if(untO s t).isSome=true then 0 else 10):=by
 cases untO s t with
 | none=>exact .inr ⟨10,rfl,by decide⟩
 | some s'=>exact .inl ⟨s',rfl⟩
theorem Yp{s:Qd}{c:Cmd}:QiJ (JA s c):=by
 by_cases h:JP c=true/\Qp s=true
 ·rw[show JA s c=_ from if_pos h]
  by_cases h1:c.kind=1
  ·rw[if_pos h1];exact QiY
  rw[if_neg h1]
  by_cases h2:c.kind=2
  ·rw[if_pos h2];exact Qj7
  rw[if_neg h2]
  by_cases h3:c.kind=3
  ·rw[if_pos h3];exact Qj7
  rw[if_neg h3]
  by_cases h4:c.kind=4
  ·rw[if_pos h4];exact QmI
  rw[if_neg h4]
  by_cases h5:c.kind=5
  ·rw[if_pos h5];exact Qjh
  rw[if_neg h5]
  by_cases h6:c.kind=6
  ·rw[if_pos h6];exact Qiy
  rw[if_neg h6]
  exact Qly
 ·rw[QaM h]
  exact .inr ⟨1,rfl,by decide⟩
theorem Qmr{b:List UInt8}:∀(f:Nat) {x:RdSt},(∀r∈x.1,r.length<=b.length)->∀r∈(rdF b f x).1,r.length<=b.length
 | 0,x,h=>h
 | f+1,x,h=>by
  unfold rdF
  split
  ·refine Qmr f fun r hr=>?_
   rcases Xag.1 hr with hr|hr
   ·exact h r hr
   ·obtain rfl:=XaM.1 hr
    simp only[subB,XaN,Xai]
    omega
  ·exact h
theorem Qmz{b:List UInt8}:∀(f:Nat) {x:RdSt},rdAt b x->(rdF b f x).1.length<=b.length
 | 0,x,h=>by have:=h.1;have:=h.2.1;unfold rdF;omega
 | f+1,x,h=>by
  unfold rdF
  split
  ·rename_i hk
   exact Qmz f (Xn h hk)
  ·have:=h.1;have:=h.2.1;omega
theorem Qgg(b:List UInt8):(Q8 b).1.length<=b.length/\∀r∈(Q8 b).1,r.length<=b.length:=
 ⟨Qmz _ (Qhn b),Qmr _ fun r hr=>by cases hr⟩
theorem WK:∀{l:List (List UInt8)} {s s':Qd},Ql 1048576 s->repO s l=some s'->Ql 1048576 s'
 | [],s,s',hs,h=>by
  injection h with h
  exact h▸hs
 | r::l,s,s',hs,h=>by
  unfold repO at h
  split at h
  ·split at h
   ·cases h
   ·rename_i s1 h1
    exact WK (Y3 hs s1 h1) h
  ·cases h
theorem Qlw{s:Qd}{l:List (List UInt8)}(hs:Ql 1048576 s)(hl:l.length<=1000000000)(hr:∀r∈l,r.length<=1000000000):DC Tryz.prog 60 [Qx s,zL (strE l)] [Qx ((repO s l).getD zS),.d (.b (repO s l).isSome)]:=by
 refine zMC func60 fun w0 Z O=>?_
 have hle:=QK l
 generalize hR:repO s l=R
 repeat'(first|(refine zhm fun hb=>?_;try exact zab)|refine Qe ?_|(apply zch;exact zcg)|exact zhk|refine zg3 ?_ ?_|intro _|fail)
 refine Qa (fun(k:Qd×Nat)=>⟨38,[(2,.ptr 2 0),(4,.ptr 4 0),(12,zL (strE l)),(13,zI (l.length:Nat)),(14,zI k.2)],[(2,.box 49 (JB k.1)),(4,.box 49 ctl0)]⟩) (fun k=>k.2<=l.length/\Ql 1048576 k.1/\repO k.1 (l.drop k.2)=R) (fun k=>l.length-k.2) (s,0) ⟨Xab _,hs,by rw[XbM];exact hR⟩ ?_ ?_
 ·refine⟨rfl,?_,?_,rfl⟩
  repeat'(first|exact ze3|refine ze2 ?_ ?_|refine ze4 ?_|exact ze5|fail)
  all_goals exact zp (by first|rfl|exact QK _)
 rintro ⟨s1,n⟩ ⟨hin,hs1,hR1⟩
 dsimp only at hin hs1 hR1 ⊢
 by_cases hi':n<l.length
 ·have c1:=QdR (s:=nth l n) (hr _ (QO hi'))
  generalize ht:J7 (nth l n)=tc at c1
  obtain⟨c,tb⟩:=tc
  dsimp only at c1
  cases tb with
  | false=>
   rw[QdL hi' (by rw[ht])]at hR1
   subst hR1
   repeat'(first|(refine zhm fun hb=>?_;try exact zab)|refine Q7 ?_|(apply zch;exact zcg)|exact zhk|refine zg3 ?_ ?_|intro _|fail)
   exact zDR
  | true=>
   have hap:=Y3 (c:=c) hs1
   rcases Yp (s:=s1) (c:=c)with ⟨s2,h2⟩|⟨k,h2,hk⟩
   ·have c2:=dc_a (QdS (c:=c) hs1)
    rw[h2]at c2 hap
    dsimp only[stR,stB]at c2
    rw[Qax hi' ht (by rw[h2])]at hR1
    repeat'(first|(refine zhm fun hb=>?_;try exact zab)|refine Qe ?_|(apply zch;exact zcg)|exact zhk|refine zg3 ?_ ?_|(refine km [] (c2) rfl rfl (fun i hi=>?_);try dsimp only at hi)|intro _|fail)
    refine⟨(s2,n+1),⟨by dsimp only;omega,hap s2 rfl,hR1⟩,by dsimp only;omega,?_⟩
    refine⟨rfl,?_,?_,rfl⟩
    repeat'(first|exact ze3|refine ze2 ?_ ?_|refine ze4 ?_|exact ze5|fail)
    all_goals exact zp rfl
   ·have c2:=QdS (c:=c) hs1
    rw[h2]at c2
    dsimp only[SO,stR,stB]at c2
    rw[X8 hi' ht (by rw[h2])]at hR1
    subst hR1
    repeat'(first|(refine zhm fun hb=>?_;try exact zab)|refine Q7 ?_|(apply zch;exact zcg)|exact zhk|refine zg3 ?_ ?_|intro _|fail)
    exact zDR
 ·obtain rfl:n=l.length:=by omega
  rw[XcL]at hR1
  subst hR1
  repeat'(first|(refine zhm fun hb=>?_;try exact zab)|refine Q7 ?_|(apply zch;exact zcg)|exact zhk|refine zg3 ?_ ?_|intro _|fail)
  exact zDR
theorem Qhc{s:Qd}{b:List UInt8}(hs:Ql 1048576 s)(hb:b.length<=1000000000):DC Tryz.prog 54 [Qx s,zL (QG b)] [Qx ((repO s (Q8 b).1).getD zS),.d (.b (repO s (Q8 b).1).isSome)]:=by
 refine zMC func54 fun w0 Z O=>?_
 obtain⟨hl,hr⟩:=Qgg b
 have hle:=QK (Q8 b).1
 have c0:=dc_a (Ze hb)
 generalize (Q8 b).1=l at hl hr hle c0 ⊢
 generalize hR:repO s l=R
 repeat'(first|(refine zhm fun hb=>?_;try exact zab)|refine Qe ?_|(apply zch;exact zcg)|exact zhk|refine zg3 ?_ ?_|refine kmu c0 ?_|intro _|fail)
 refine Qa (fun(k:Qd×Nat)=>⟨46,[(2,.ptr 2 0),(4,.ptr 4 0),(19,zL (strE l)),(20,zI (l.length:Nat)),(21,zI k.2)],[(2,.box 49 (JB k.1)),(4,.box 49 ctl0)]⟩) (fun k=>k.2<=l.length/\Ql 1048576 k.1/\repO k.1 (l.drop k.2)=R) (fun k=>l.length-k.2) (s,0) ⟨Xab _,hs,by rw[XbM];exact hR⟩ ?_ ?_
 ·refine⟨rfl,?_,?_,rfl⟩
  repeat'(first|exact ze3|refine ze2 ?_ ?_|refine ze4 ?_|exact ze5|fail)
  all_goals exact zp (by first|rfl|exact QK _)
 rintro ⟨s1,n⟩ ⟨hin,hs1,hR1⟩
 dsimp only at hin hs1 hR1 ⊢
 by_cases hi':n<l.length
 ·have c1:=Qok (s:=nth l n) (Xao (hr _ (QO hi')) hb)
  have c2:=QmO (c:=(J7 (nth l n)).1) hs1
  have hap:=Y3 (c:=(J7 (nth l n)).1) hs1
  generalize ht:J7 (nth l n)=tc at c1 c2 hap
  obtain⟨c,tb⟩:=tc
  dsimp only at c1 c2 hap
  rcases Yp (s:=s1) (c:=c)with ⟨s2,h2⟩|⟨k,h2,hk⟩
  ·rw[h2]at c2 hap
   dsimp only[SS,Option.getD]at c2
   cases tb with
   | false=>
    rw[QdL hi' (by rw[ht])]at hR1
    subst hR1
    repeat'(first|(refine zhm fun hb=>?_;try exact zab)|refine Q7 ?_|(apply zch;exact zcg)|exact zhk|refine zg3 ?_ ?_|refine kmu c2 ?_|intro _|fail)
    exact zDR
   | true=>
    rw[Qax hi' ht (by rw[h2])]at hR1
    repeat'(first|(refine zhm fun hb=>?_;try exact zab)|refine Qe ?_|(apply zch;exact zcg)|exact zhk|refine zg3 ?_ ?_|refine kmu c2 ?_|intro _|fail)
    refine⟨(s2,n+1),⟨by dsimp only;omega,hap s2 rfl,hR1⟩,by dsimp only;omega,?_⟩
    refine⟨rfl,?_,?_,rfl⟩
    repeat'(first|exact ze3|refine ze2 ?_ ?_|refine ze4 ?_|exact ze5|fail)
    all_goals exact zp rfl
  ·rw[h2]at c2
   dsimp only[SS,Option.getD]at c2
   have hn:R=none:=by
    cases tb with
    | false=>rw[<-hR1];exact QdL hi' (by rw[ht])
    | true=>rw[<-hR1];exact X8 hi' ht (by rw[h2])
   subst hn
   repeat'(first|(refine zhm fun hb=>?_;try exact zab)|refine Q7 ?_|(apply zch;exact zcg)|exact zhk|refine zg3 ?_ ?_|refine kmu c2 ?_|intro _|fail)
   all_goals
    exact zDR
 ·obtain rfl:n=l.length:=by omega
  rw[XcL]at hR1
  subst hR1
  repeat'(first|(refine zhm fun hb=>?_;try exact zab)|refine Q7 ?_|(apply zch;exact zcg)|exact zhk|refine zg3 ?_ ?_|intro _|fail)
  exact zDR
noncomputable def Qeg (s:Qd) (b:List UInt8):Option Qd:=repO s (Q8 b).1
noncomputable def Vc (c:Ctl):Bool:=WP c.first&&(jnOk c.jn&&match Qeg c.first c.jn.bytes with
 | none=>false
 | some s=>X2 s c.state)
theorem QiO{c:Ctl}(hs:JI 1048576 c):zAc 14 [ctlA c] [.d (.b (Vc c))] []:=by
 refine zAC func14 fun w0 Z=>?_
 have hf:Ql 100000000 c.first:=hs.first.mono (by omega)
 have hb:c.jn.bytes.length<=1000000000:=Xao hs.jn (by omega)
 unfold Vc
 cases h1:WP c.first with
 | false=>
  have c1:=Qfj hf (pB_f.1 h1)
  repeat'(first|(refine zhm fun hb=>?_;try exact zab)|refine Qe ?_|(apply zch;exact zcg)|exact zhk|refine zg3 ?_ ?_|intro _|fail)
  refine zr [] ?_ ?_
  repeat'(first|exact ze3|refine ze2 ?_ ?_|refine ze4 ?_|exact ze5|fail)
  all_goals exact zp rfl
 | true=>
  have c1:=dc_a (Qcn hf (pB_t.1 h1))
  have c2:=Qdf (j:=c.jn) hb
  cases h2:jnOk c.jn with
  | false=>
   rw[h2]at c2
   repeat'(first|(refine zhm fun hb=>?_;try exact zab)|refine Qe ?_|(apply zch;exact zcg)|exact zhk|refine zg3 ?_ ?_|refine kmu c1 ?_|intro _|fail)
   refine zr [] ?_ ?_
   repeat'(first|exact ze3|refine ze2 ?_ ?_|refine ze4 ?_|exact ze5|fail)
   all_goals exact zp rfl
  | true=>
   rw[h2]at c2
   obtain⟨hl,hr⟩:=Qgg c.jn.bytes
   have c3:=dc_a (WF hb)
   have c4:=Qlw (l:=(Q8 c.jn.bytes).1) hs.first (by omega) (fun r hr'=>Xao (hr r hr') hb)
   have hsm:=WK (l:=(Q8 c.jn.bytes).1) (s:=c.first) (s':=(repO c.first (Q8 c.jn.bytes).1).getD zS) hs.first
   unfold Qeg
   generalize (Q8 c.jn.bytes).1=l at hl hr c3 c4 hsm ⊢
   cases h3:repO c.first l with
   | none=>
    rw[h3]at c4
    dsimp only[Option.getD,Option.isSome]at c4
    repeat'(first|(refine zhm fun hb=>?_;try exact zab)|refine Qe ?_|(apply zch;exact zcg)|exact zhk|refine zg3 ?_ ?_|refine kmu c1 ?_|refine kmu c3 ?_|refine kmu c4 ?_|intro _|fail)
    refine zr [] ?_ ?_
    repeat'(first|exact ze3|refine ze2 ?_ ?_|refine ze4 ?_|exact ze5|fail)
    all_goals exact zp rfl
   | some s'=>
    rw[h3]at c4 hsm
    dsimp only[Option.getD,Option.isSome]at c4 hsm
    have c5:=QdW (a:=s') (b:=c.state) ((hsm rfl).mono (by omega)) (hs.state.mono (by omega))
    repeat'(first|(refine zhm fun hb=>?_;try exact zab)|refine Qe ?_|(apply zch;exact zcg)|exact zhk|refine zg3 ?_ ?_|refine kmu c1 ?_|refine kmu c3 ?_|refine kmu c4 ?_|intro _|fail)
    refine zr [] ?_ ?_
    repeat'(first|exact ze3|refine ze2 ?_ ?_|refine ze4 ?_|exact ze5|fail)
    all_goals exact zp rfl
theorem Qi1{c:Ctl}(hs:JI 1048576 c):zAc 12 [ctlA c] [.d (.b (Vc c))] []:=by
 refine zAC func12 fun w0 Z=>?_
 have hf:Ql 100000000 c.first:=hs.first.mono (by omega)
 have hb:c.jn.bytes.length<=1000000000:=Xao hs.jn (by omega)
 have c1:=Xt hf
 have c2:=V5 (j:=c.jn) hb
 have c4:=Qhc hs.first hb
 have hsm:=WK (l:=(Q8 c.jn.bytes).1) (s:=c.first) (s':=(repO c.first (Q8 c.jn.bytes).1).getD zS) hs.first
 unfold Vc Qeg
 cases h1:WP c.first with
 | false=>
  rw[h1]at c1
  repeat'(first|(refine zhm fun hb=>?_;try exact zab)|refine Qe ?_|(apply zch;exact zcg)|exact zhk|refine zg3 ?_ ?_|intro _|fail)
  refine zr [] ?_ ?_
  repeat'(first|exact ze3|refine ze2 ?_ ?_|refine ze4 ?_|exact ze5|fail)
  all_goals exact zp rfl
 | true=>
  rw[h1]at c1
  cases h2:jnOk c.jn with
  | false=>
   rw[h2]at c2
   repeat'(first|(refine zhm fun hb=>?_;try exact zab)|refine Qe ?_|(apply zch;exact zcg)|exact zhk|refine zg3 ?_ ?_|intro _|fail)
   refine zr [] ?_ ?_
   repeat'(first|exact ze3|refine ze2 ?_ ?_|refine ze4 ?_|exact ze5|fail)
   all_goals exact zp rfl
  | true=>
   rw[h2]at c2
   cases h3:repO c.first (Q8 c.jn.bytes).1 with
   | none=>
    rw[h3]at c4
    dsimp only[Option.getD,Option.isSome]at c4
    repeat'(first|(refine zhm fun hb=>?_;try exact zab)|refine Qe ?_|(apply zch;exact zcg)|exact zhk|refine zg3 ?_ ?_|refine kmu c4 ?_|intro _|fail)
    refine zr [] ?_ ?_
    repeat'(first|exact ze3|refine ze2 ?_ ?_|refine ze4 ?_|exact ze5|fail)
    all_goals exact zp rfl
   | some s'=>
    rw[h3]at c4 hsm
    dsimp only[Option.getD,Option.isSome]at c4 hsm
    have c5:=QcF (a:=s') (b:=c.state) ((hsm rfl).mono (by omega)) (hs.state.mono (by omega))
    repeat'(first|(refine zhm fun hb=>?_;try exact zab)|refine Qe ?_|(apply zch;exact zcg)|exact zhk|refine zg3 ?_ ?_|refine kmu c4 ?_|intro _|fail)
    refine zr [] ?_ ?_
    repeat'(first|exact ze3|refine ze2 ?_ ?_|refine ze4 ?_|exact ze5|fail)
    all_goals exact zp rfl
end
end Go.Proofs.YtihgfennoalocaaGreat
