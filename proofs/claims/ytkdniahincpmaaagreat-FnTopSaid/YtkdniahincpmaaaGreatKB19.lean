/-
  Jobs that wait or run; queues; both.
-/
import Derived.Test.YtkdniahincpmaaaGreatKB20
set_option maxRecDepth 100000
set_option maxHeartbeats 16000000
namespace Go.Proofs.YtkdniahincpmaaaGreat
open Go Go.RowKit Tryz
section
attribute [local irreducible] AWp QI OpOk ACalls ChA QsOk MCalls EnC PY

theorem YF(l:List Job)(j:Job):jobE l++[[.n .i64 j.id,.n .i64 j.prio,.n .i64 j.nodes,.n .i64 j.need.a,.n .i64 j.need.b,.n .i64 j.need.c,.n .i64 j.lic.a,.n .i64 j.lic.b,.n .i64 j.lic.c,.n .i64 j.wall,.n .i64 j.level]]=jobE (l++[j]):=by simp[jobE]
theorem Qsa(l l':List Job):jobE l++jobE l'=jobE (l++l'):=by simp[jobE]
theorem Qvl{s:Qb}(hs:Qj 1000000000 s):DC Tryz.prog 112 [Qt s] [zL (jobE (allJ s))]:=by
 refine zMC func112 fun w0 Z O=>?_
 have d:=Ql s.queue
 have e:=hs.que
 have g:=hs.run
 have f:=Qg s.runs
 repeat'(first|(refine zhm fun hb=>?_;try exact zab)|refine zUtp ?_|refine zg2 ?_ ?_|intro _)
 refine Qa (fun(i:Nat)=>⟨24,[(3,.row 6),(11,zL (runE s.runs)),(12,zI (s.runs.length:Nat)),(13,zI i)],[(6,.row 40 (jobE (s.queue++(s.runs.take i).map Run.job)) true)]⟩) (fun i=>i<=s.runs.length) (fun i=>s.runs.length-i) 0 (by exact Xad _) ?_ ?_
 ·refine⟨rfl,?_,?_,rfl⟩
  repeat'(first|exact ze3|refine ze2 ?_ ?_|refine ze4 ?_|exact ze5|fail)
  all_goals exact zp (by first|rfl|exact Qg _|(simp only[List.take_zero,List.map_nil,List.append_nil,List.nil_append];done)|simp[jobE])
 ·intro i hi
  have c:(jobE (s.queue++(s.runs.take i).map Run.job)).length=s.queue.length+i:=by
   rw[Ql,Xaa,XaB,Xah];omega
  have b:(s.queue++(s.runs.take i).map Run.job).length=s.queue.length+i:=by
   rw[Xaa,XaB,Xah];omega
  by_cases a:i<s.runs.length
  ·repeat'(first|(refine zhm fun hb=>?_;try exact zab)|refine zUtp ?_|refine zg2 ?_ ?_|intro _)
   refine⟨i+1,by omega,by omega,?_⟩
   refine zag ?_;exact zp (by(rw[Qo a,XaG,<-Xaq];exact YF _ _))
  ·repeat'(first|(refine zhm fun hb=>?_;try exact zab)|refine zUrp ?_|refine zg2 ?_ ?_|intro _)
   show AWp _ _ _ _
   refine Qr 6 rfl ?_
   refine QA ?_
   apply Qu
   refine zm () [] trivial ?_ ?_ ?_
   repeat'(first|exact ze3|refine ze2 ?_ ?_|refine ze4 ?_|exact ze5|fail)
   all_goals exact zp (by first|rfl|(rw[Xas (by omega)];rfl))
theorem XZ{s:Qb}(hs:Qj 1000000000 s):DC Tryz.prog 95 [Qt s] [zL (jobE (allJ s))]:=by
 refine zMC func95 fun w0 Z O=>?_
 have d:=Ql s.queue
 have e:=hs.que
 have g:=hs.run
 have f:=Qg s.runs
 repeat'(first|(refine zhm fun hb=>?_;try exact zab)|refine zUtp ?_|refine zg2 ?_ ?_|intro _)
 refine Qa (fun(i:Nat)=>⟨24,[(3,.row 6),(11,zL (runE s.runs)),(12,zI (s.runs.length:Nat)),(13,zI i)],[(6,.row 40 (jobE (s.queue++(s.runs.take i).map Run.job)) true)]⟩) (fun i=>i<=s.runs.length) (fun i=>s.runs.length-i) 0 (by exact Xad _) ?_ ?_
 ·refine⟨rfl,?_,?_,rfl⟩
  repeat'(first|exact ze3|refine ze2 ?_ ?_|refine ze4 ?_|exact ze5|fail)
  all_goals exact zp (by first|rfl|exact Qg _|(simp only[List.take_zero,List.map_nil,List.append_nil,List.nil_append];done)|simp[jobE])
 ·intro i hi
  have c:(jobE (s.queue++(s.runs.take i).map Run.job)).length=s.queue.length+i:=by
   rw[Ql,Xaa,XaB,Xah];omega
  have b:(s.queue++(s.runs.take i).map Run.job).length=s.queue.length+i:=by
   rw[Xaa,XaB,Xah];omega
  by_cases a:i<s.runs.length
  ·repeat'(first|(refine zhm fun hb=>?_;try exact zab)|refine zUtp ?_|refine zg2 ?_ ?_|intro _)
   refine⟨i+1,by omega,by omega,?_⟩
   refine zag ?_;exact zp (by(rw[Qo a,XaG,<-Xaq];exact YF _ _))
  ·repeat'(first|(refine zhm fun hb=>?_;try exact zab)|refine zUrp ?_|refine zg2 ?_ ?_|intro _)
   show AWp _ _ _ _
   refine Qr 6 rfl ?_
   refine QA ?_
   apply Qu
   refine zm () [] trivial ?_ ?_ ?_
   repeat'(first|exact ze3|refine ze2 ?_ ?_|refine ze4 ?_|exact ze5|fail)
   all_goals exact zp (by first|rfl|(rw[Xas (by omega)];rfl))
def idxF{α:Type}(l:List α)(p:α->Bool):Int:=if l.any p=true then((l.findIdx p:Nat):Int)else -1
theorem QxK{α:Type}[Inhabited α]{l:List α}{p:α->Bool}(h:∀j,j<l.length->p (nth l j)=false):l.any p=false:=by
 cases e:l.any p with
 | false=>rfl
 | true=>
  obtain⟨x,c,a⟩:=XaX.1 e
  obtain⟨j,b,rfl⟩:=Jo c
  rw[h j b]at a
  cases a
theorem QpC{α:Type}[Inhabited α]{l:List α}{p:α->Bool}{j:Nat}(hj:j<l.length)(h:p (nth l j)=true):l.any p=true:=XaX.2 ⟨_,QC hj,h⟩
theorem QhQ{α:Type}[Inhabited α]{l:List α}{p:α->Bool}{i:Nat}(hi:i<l.length)(h:p (nth l i)=true)(hp:∀j,j<i->p (nth l j)=false):idxF l p=i:=by
 unfold idxF
 rw[if_pos (QpC hi h)]
 congr 1
 rw[List.findIdx_eq hi]
 refine⟨by rw[<-Jb hi];exact h,fun j hj=>?_⟩
 have:=hp j hj
 rwa [Jb (by omega)]at this
theorem Qr3{α:Type}[Inhabited α]{l:List α}{p:α->Bool}(h:∀j,j<l.length->p (nth l j)=false):idxF l p = -1:=by
 unfold idxF
 rw[if_neg (by rw[QxK h];decide)]
theorem Qdp{α:Type}(l:List α)(p:α->Bool):decide (0<=idxF l p)=l.any p:=by
 unfold idxF
 cases h:l.any p with
 | true=>rw[if_pos rfl];simp
 | false=>rw[if_neg (by decide)];decide
theorem QeI{l:List Job}{p:Job->Bool}{g:FuncId}{ds:List D}(h:l.length<=1000000000)(hg:∀j,zAc g [jobA j,.pd ds 0] [.d (.b (p j))] []):zAc 258 [zL (jobE l),.clo g [.pd ds 0]] [zI (idxF l p)] []:=by
 refine zAC func258 fun w0 Z=>?_
 have hl:=Ql l
 repeat'(first|(refine zhm fun hb=>?_;try exact zab)|refine zUtp ?_|refine zg2 ?_ ?_|intro _)
 refine Qa (fun(i:Nat)=>⟨19,[(0,zL (jobE l)),(1,.clo g [.pd ds 0]),(7,zI (l.length:Nat)),(8,zI i)],[]⟩) (fun i=>i<=l.length/\∀j,j<i->p (nth l j)=false) (fun i=>l.length-i) 0 (by exact⟨Xad _,fun j hj=>absurd hj (Xar _)⟩) ?_ ?_
 ·exact zll
 ·rintro i ⟨hi,c⟩
  by_cases a:i<l.length
  ·repeat'(first|(refine zhm fun hb=>?_;try exact zab)|refine zUtp ?_|refine zg2 ?_ ?_|refine kv (hg (nth l i)) rfl rfl rfl rfl rfl ?_|intro _)
   ·rw[QhQ a (by assumption) c]
    exact zrr
   ·refine⟨i+1,⟨by omega,fun j hj=>?_⟩,by omega,?_⟩
    ·by_cases e:j=i
     ·subst e;assumption
     ·exact c j (by omega)
    exact zll
  ·rw[Qr3 (fun j hj=>c j (by omega))]
   repeat'(first|(refine zhm fun hb=>?_;try exact zab)|refine zUtp ?_|refine zg2 ?_ ?_|intro _)
   exact zrr
theorem QfD{l:List Job}{p:Job->Bool}{g:FuncId}{ds:List D}(h:l.length<=1000000000)(hg:∀j,zAc g [jobA j,.pd ds 0] [.d (.b (p j))] []):zAc 198 [zL (jobE l),.clo g [.pd ds 0]] [.d (.b (l.any p))] []:=by
 refine zAC func198 fun w0 Z=>?_
 repeat'(first|(refine zhm fun hb=>?_;try exact zab)|refine zUto ?_|refine zg2 ?_ ?_|refine kc (QeI h hg) rfl rfl ?_|intro _)
 refine zr [] ?_ ?_
 repeat'(first|exact ze3|refine ze2 ?_ ?_|refine ze4 ?_|exact ze5|fail)
 all_goals exact zp (Qdp l p)
theorem QlC{l:List Job}{i:Nat}(hi:i<l.length)(h:Qk (nth l i)=false):YC l=false:=pB_f.2 fun q=>by rw[q.jobs i hi]at h;cases h
theorem Qm1{l:List Job}{i k:Nat}(hi:i<l.length)(hk:k<i)(h:(nth l k).id=(nth l i).id):YC l=false:=pB_f.2 fun q=>q.diff i hi k hk h
theorem Qur{l:List Job}(h:60<l.length):YC l=false:=pB_f.2 fun q=>by have:=q.len;omega
theorem Qp8{l:List Job}(h:∀i,i<l.length->Qk (nth l i)=true/\∀k,k<i->(nth l k).id≠(nth l i).id):YC l=decide (l.length<=60):=by
 rw[Xam,YC,pB_t,decide_eq_true_eq]
 exact⟨fun q=>q.len,fun q=>⟨q,fun i hi=>(h i hi).1,fun i hi=>(h i hi).2⟩⟩
theorem QtE(l:List Job)(i:Nat):(List.drop 0 ((jobE l).take i))=jobE (l.take i):=by simp[jobE,List.map_take]
theorem Qnh{j k:Job}:zAc 199 [jobA k,.pd (jobD j) 0] [.d (.b (k.id==j.id))] []:=by
 refine zAC func199 fun w0 Z=>?_
 repeat'(first|refine zUco ?_|(refine Hb.mk (fun hb=>?_);(first|rw[decide_eq_true_eq]at hb|rw[decide_eq_false_iff_not]at hb|skip);(first|(exfalso;omega)|(exact absurd rfl hb)|skip))|refine zg2 ?_ ?_|intro _)
 exact zrr
theorem Qlx{α:Type}[Inhabited α]{l:List α}{i k:Nat}(h:k<i):nth (l.take i) k=nth l k:=by
 simp[nth,List.getD,List.getElem?_take_of_lt h]
theorem Qjv{l:List Job}(h:l.length<=1000000000):zAc 111 [zL (jobE l)] [.d (.b (YC l))] []:=by
 refine zAC func111 fun w0 Z=>?_
 have hl:=Ql l
 repeat'(first|(refine zhm fun hb=>?_;try exact zab)|refine zUtp ?_|refine zg2 ?_ ?_|intro _)
 refine Qa (fun(i:Nat)=>⟨26,[(0,zL (jobE l)),(5,zL (jobE l)),(6,zI (l.length:Nat)),(7,zI i)],[]⟩) (fun i=>i<=l.length/\∀j,j<i->Qk (nth l j)=true/\∀k,k<j->(nth l k).id≠(nth l j).id) (fun i=>l.length-i) 0 (by exact⟨Xad _,fun j hj=>absurd hj (Xar _)⟩) ?_ ?_
 ·exact zll
 ·rintro i ⟨hi,o⟩
  by_cases a:i<l.length
  ·have q:=QfD (l:=l.take i) (p:=fun k=>k.id==(nth l i).id) (g:=199) (ds:=jobD (nth l i)) (by rw[Xah];omega) (fun k=>Qnh)
   rw[<-QtE]at q
   have r:(l.take i).length=i:=by rw[Xah];omega
   repeat'(first|(refine zhm fun hb=>?_;try exact zab)|refine zUtp ?_|refine zg2 ?_ ?_|refine kc (XT (j:=nth l i)) rfl rfl ?_|intro _)
   ·rw[QlC a (by assumption)]
    exact zrr
   ·obtain⟨x,s,c⟩:=XaX.1 hb
    obtain⟨k,n,rfl⟩:=Jo s
    rw[Qm1 a (by omega:k<i) (by rw[Qlx (by omega)]at c;exact beq_iff_eq.1 c)]
    exact zrr
   ·rename_i m f
    refine⟨i+1,⟨by omega,fun j hj=>?_⟩,by omega,?_⟩
    ·by_cases e:j=i
     ·subst e
      refine⟨by assumption,fun k n c=>?_⟩
      have:=QpC (l:=l.take j) (p:=fun k=>k.id==(nth l j).id) (j:=k) (by omega) (by rw[Qlx n];exact beq_iff_eq.2 c)
      simp_all
     ·exact o j (by omega)
    exact zll
  ·rw[Qp8 fun j hj=>o j (by omega)]
   repeat'(first|refine zUcp ?_|(refine Hb.mk (fun hb=>?_);(first|rw[decide_eq_true_eq]at hb|rw[decide_eq_false_iff_not]at hb|skip);(first|(exfalso;omega)|(exact absurd rfl hb)|skip))|refine zg2 ?_ ?_|intro _)
   refine zr [] ?_ ?_
   repeat'(first|exact ze3|refine ze2 ?_ ?_|refine ze4 ?_|exact ze5|fail)
   all_goals exact zp (by first|rfl|exact decide_eq_decide.2 (by omega))
theorem Qd3{l:List Job}(h:l.length<=1000000000):zAc 207 [zL (jobE l)] [.d (.b (YC l))] []:=by
 refine zAC func207 fun w0 Z=>?_
 have hl:=Ql l
 by_cases f:60<l.length
 ·rw[Qur f]
  repeat'(first|(refine zhm fun hb=>?_;try exact zab)|refine Qd ?_|(apply zch;exact zcg)|exact zhk|refine zg3 ?_ ?_|intro _)
  exact zrr
 ·repeat'(first|(refine zhm fun hb=>?_;try exact zab)|refine Qd ?_|(apply zch;exact zcg)|exact zhk|refine zg3 ?_ ?_|intro _)
  refine Qa (fun(i:Nat)=>⟨33,[(0,zL (jobE l)),(9,zL (jobE l)),(10,zI (l.length:Nat)),(11,zI i)],[]⟩) (fun i=>i<=l.length/\∀j,j<i->Qk (nth l j)=true/\∀k,k<j->(nth l k).id≠(nth l j).id) (fun i=>l.length-i) 0 (by exact⟨Xad _,fun j a=>absurd a (Xar _)⟩) ?_ ?_
  ·exact zll
  ·rintro i ⟨hi,p⟩
   by_cases c:i<l.length
   ·have n:=Qeg (j:=nth l i)
    cases a:Qk (nth l i) with
    | false=>
     rw[a]at n
     rw[QlC c a]
     repeat'(first|(refine zhm fun hb=>?_;try exact zab)|refine Qd ?_|(apply zch;exact zcg)|exact zhk|refine zg3 ?_ ?_|intro _)
     exact zrr
    | true=>
     rw[a]at n
     repeat'(first|(refine zhm fun hb=>?_;try exact zab)|refine Qd ?_|(apply zch;exact zcg)|exact zhk|refine zg3 ?_ ?_|intro _)
     refine Qa (fun(k:Nat)=>⟨33,[(0,zL (jobE l)),(3,zI i),(4,.ptr 4 0),(5,zI k),(9,zL (jobE l)),(10,zI (l.length:Nat)),(11,zI i)],[(4,.box 40 ((jobD (nth l i)).map AV.d))]⟩) (fun k=>k<=i/\∀m,m<k->(nth l m).id≠(nth l i).id) (fun k=>i-k) 0 (by exact⟨Xad _,fun j a=>absurd a (Xar _)⟩) ?_ ?_
     ·exact zll
     ·rintro k ⟨hk,o⟩
      by_cases g:k<i
      ·repeat'(first|(refine zhm fun hb=>?_;try exact zab)|refine Qd ?_|(apply zch;exact zcg)|exact zhk|refine zg3 ?_ ?_|intro _)
       ·rw[Qm1 c g (by assumption)]
        exact zrr
       ·refine⟨k+1,⟨by omega,fun m hm'=>?_⟩,by omega,?_⟩
        ·by_cases e:m=k
         ·subst e;assumption
         ·exact o m (by omega)
        exact zll
      ·repeat'(first|(refine zhm fun hb=>?_;try exact zab)|refine Qd ?_|(apply zch;exact zcg)|exact zhk|refine zg3 ?_ ?_|intro _)
       refine⟨i+1,⟨by omega,fun j hj'=>?_⟩,by omega,?_⟩
       ·by_cases e:j=i
        ·subst e;exact⟨a,fun m hm'=>o m (by omega)⟩
        ·exact p j (by omega)
       exact zll
   ·rw[Qp8 fun j a=>p j (by omega),decide_eq_true (by omega)]
    repeat'(first|(refine zhm fun hb=>?_;try exact zab)|refine Qd ?_|(apply zch;exact zcg)|exact zhk|refine zg3 ?_ ?_|intro _)
    exact zrr

theorem Qjs{s:Qb}:Qda s↔(empO s).isSome=true/\0<=s.now/\s.now<=1000000000:=by
 constructor
 ·intro h
  rw[Qjx h.topo h.up h.lic]
  exact⟨rfl,h.now⟩
 ·rintro ⟨h,b⟩
  unfold empO at h
  split at h
  ·rename_i a
   simp only[Xab,decide_eq_true_eq]at a
   exact⟨JY.1 a.1.1,a.1.2,a.2,b⟩
  ·cases h
theorem Qmj{s:Qb}(hs:Qj 1000000000 s):DC Tryz.prog 125 [Qt s] (QaK (Jg s)):=by
 refine zMC func125 fun w0 Z O=>?_
 have m:=Qns hs
 have w:=Wl (x:=s.now)
 by_cases c:Qda s
 ·have h1:=c.up
  have y:=c.now
  have h3:=c.topo.nlen
  have h4:=c.topo.len
  rw[Qjx c.topo c.up c.lic]at m
  rw[show inB s.now 0 1000000000=true by rw[JA];exact y]at w
  rw[QhP c]
  repeat'(first|(refine zhm fun hb=>?_;try exact zab)|refine zUtp ?_|refine zg2 ?_ ?_|refine kmu m ?_|intro _)
  refine Qa (fun(k:Nat×Jm)=>⟨93,[(1,.ptr 1 0),(2,.ptr 2 0),(4,.ptr 4 0),(27,zL (runE s.runs)),(28,zI (s.runs.length:Nat)),(29,zI k.1)],[(1,.box 34 (Q3 s)),(2,.box 180 [.nil,.nil,.nil,.nil,.nil]),(4,.box 180 (Qb5 k.2))]⟩) (fun k=>GoP s k.1 k.2) (fun k=>s.runs.length-k.1) (0,Jd s.topo s.up s.lic) (by exact⟨Xad _,W3 c.topo h1 c.lic,rfl⟩) ?_ ?_
  ·exact zll
  ·rintro ⟨n,r⟩ d
   dsimp only at d ⊢
   have ad:=d.le
   have ae:=Qg s.runs
   by_cases e:n<s.runs.length
   ·have o:=Qec (j:=(nth s.runs n).job) (l:=(nth s.runs n).nodes) d.ok (hs.rno n e)
    cases g:(Qk (nth s.runs n).job&&Xc r.topo (nth s.runs n).job (nth s.runs n).nodes) with
    | false=>
     rw[g]at o
     have i:Wt s.now s.runs (Jd s.topo s.up s.lic)=none:=by
      cases b:runB s.now (nth s.runs n) with
      | false=>exact Qpp d e b
      | true=>
       refine Qqd d e ?_
       cases z:Qk (nth s.runs n).job with
       | false=>exact Qfp z
       | true=>rw[z,Xbw]at g;exact Qeu g
     rw[i]
     repeat'(first|(refine zhm fun hb=>?_;try exact zab)|refine zUr ?_|refine zg2 ?_ ?_|(apply VS;first|refine zom ?_|(apply QOk.ok;refine ZF rfl rfl rfl rfl rfl rfl ?_))|refine zln fun _=>?_|refine zop ?_|refine zqj o ?_|fail)
     exact zDR
    | true=>
     rw[g]at o
     rw[Xab]at g
     obtain⟨k4,k5⟩:=YB g.1
     cases b:runB s.now (nth s.runs n) with
     | false=>
      rw[Qpp d e b]
      by_cases ac:0<=(nth s.runs n).at'/\(nth s.runs n).at'<=1000000000
      ·have p:=Wl (x:=(nth s.runs n).at')
       repeat'(first|(refine zhm fun hb=>?_;try exact zab)|refine zUrn ?_|refine zg2 ?_ ?_|intro _)
       all_goals first
        | (exfalso;have:=(Zc (now:=s.now) (x:=nth s.runs n)).2 ⟨g.1,by omega,by omega,by omega⟩;rw[b]at this;cases this;done)
        | skip
       any_goals
        show AWp _ _ _ _
        refine QA ?_
        apply Qu
        refine zm () [] trivial ?_ ?_ ?_
        repeat'(first|exact ze3|refine ze2 ?_ ?_|refine ze4 ?_|exact ze5|fail)
        all_goals exact zp rfl
      ·have p:=Wl (x:=(nth s.runs n).at')
       rw[show inB (nth s.runs n).at' 0 1000000000=false by rw[Qoh];omega]at p
       repeat'(first|(refine zhm fun hb=>?_;try exact zab)|refine zUr ?_|refine zg2 ?_ ?_|(apply VS;first|refine zom ?_|(apply QOk.ok;refine ZF rfl rfl rfl rfl rfl rfl ?_))|refine zln fun _=>?_|refine zon ?_|refine zqj o ?_|refine zqj p ?_|fail)
       exact zDR
     | true=>
      obtain⟨k1,k2,k3⟩:=Zc.1 b
      have p:=Wl (x:=(nth s.runs n).at')
      have f:=QeA (j:={ (nth s.runs n).job with wall:=(nth s.runs n).at'+(nth s.runs n).job.wall-s.now }) (a:=s.now) d.ok (hs.rno n e) y
      have u:Qk { (nth s.runs n).job with wall:=(nth s.runs n).at'+(nth s.runs n).job.wall-s.now }=true:=by
       have:=k1
       simp only[Qk,Xab,JA]at this ⊢
       exact⟨⟨this.1.1,by omega⟩,this.2⟩
      rw[Qh5 (j:=(nth s.runs n).job) k1 u rfl rfl rfl]at f
      dsimp only at f
      rw[show s.now+((nth s.runs n).at'+(nth s.runs n).job.wall-s.now)=(nth s.runs n).at'+(nth s.runs n).job.wall by omega]at f
      cases q:resO r (nth s.runs n).job s.now ((nth s.runs n).at'+(nth s.runs n).job.wall) (nth s.runs n).nodes with
      | none=>
       rw[q]at f
       rw[Qqd d e q]
       repeat'(first|(refine zhm fun hb=>?_;try exact zab)|refine zUrn ?_|refine zg2 ?_ ?_|refine kmu f ?_|intro _)
       exact zDR
      | some r'=>
       rw[q]at f
       have v:=Qv8 d e b q
       repeat'(first|(refine zhm fun hb=>?_;try exact zab)|refine zUrn ?_|refine zg2 ?_ ?_|refine kmu f ?_|intro _)
       exact⟨(n+1,r'),v,by dsimp only;omega,zll⟩
   ·rw[QwU d e]
    repeat'(first|(refine zhm fun hb=>?_;try exact zab)|refine zUrp ?_|refine zg2 ?_ ?_|intro _)
    exact zDR
 ·rw[Qg8 c]
  cases t:empO s with
  | none=>
   rw[t]at m
   repeat'(first|(refine zhm fun hb=>?_;try exact zab)|refine zUrp ?_|refine zg2 ?_ ?_|refine kmu m ?_|intro _)
   exact zDR
  | some r0=>
   rw[t]at m
   rw[show inB s.now 0 1000000000=false by
    rw[Qoh]
    rcases Classical.em (0<=s.now/\s.now<=1000000000)with h|h
    ·exact absurd (Qjs.2 ⟨by rw[t];rfl,h⟩) c
    ·omega]at w
   repeat'(first|(refine zhm fun hb=>?_;try exact zab)|refine zUrp ?_|refine zg2 ?_ ?_|refine kmu m ?_|intro _)
   exact zDR
end
end Go.Proofs.YtkdniahincpmaaaGreat
