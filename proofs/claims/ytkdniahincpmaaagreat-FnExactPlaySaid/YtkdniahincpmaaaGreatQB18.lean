/-
  Jobs that wait or run; queues; both.
-/
import Derived.Test.YtkdniahincpmaaaGreatQB19
set_option maxRecDepth 100000
set_option maxHeartbeats 16000000
namespace Go.Proofs.YtkdniahincpmaaaGreat
open Go Go.RowKit Tryz
section
attribute [local irreducible] AWp QM OpOk ACalls ChA QsOk MCalls EnC PY

theorem YF(l:List Job)(j:Job):jobE l++[[.n .i64 j.id,.n .i64 j.prio,.n .i64 j.nodes,.n .i64 j.need.a,.n .i64 j.need.b,.n .i64 j.need.c,.n .i64 j.lic.a,.n .i64 j.lic.b,.n .i64 j.lic.c,.n .i64 j.wall,.n .i64 j.level]]=jobE (l++[j]):=by simp[jobE]
theorem QtW(l l':List Job):jobE l++jobE l'=jobE (l++l'):=by simp[jobE]
theorem Qwy{s:Qb}(hs:Qo 1000000000 s):DC Tryz.prog 112 [Qz s] [zL (jobE (allJ s))]:=by
 refine zMC func112 fun w0 Z O=>?_
 have d:=Qj s.queue
 have e:=hs.que
 have g:=hs.run
 have f:=Qe s.runs
 repeat'(first|(refine zhm fun hb=>?_;try exact zab)|refine zUtp ?_|refine zg2 ?_ ?_|intro _)
 refine Qa (fun(i:Nat)=>⟨24,[(3,.row 6),(11,zL (runE s.runs)),(12,zI (s.runs.length:Nat)),(13,zI i)],[(6,.row 40 (jobE (s.queue++(s.runs.take i).map Run.job)) true)]⟩) (fun i=>i<=s.runs.length) (fun i=>s.runs.length-i) 0 (by exact Xae _) ?_ ?_
 ·refine⟨rfl,?_,?_,rfl⟩
  repeat'(first|exact ze3|refine ze2 ?_ ?_|refine ze4 ?_|exact ze5|fail)
  all_goals exact zp (by first|rfl|exact Qe _|(simp only[List.take_zero,List.map_nil,List.append_nil,List.nil_append];done)|simp[jobE])
 ·intro i hi
  have c:(jobE (s.queue++(s.runs.take i).map Run.job)).length=s.queue.length+i:=by
   rw[Qj,Xab,Xar,Xah];omega
  have b:(s.queue++(s.runs.take i).map Run.job).length=s.queue.length+i:=by
   rw[Xab,Xar,Xah];omega
  by_cases a:i<s.runs.length
  ·repeat'(first|(refine zhm fun hb=>?_;try exact zab)|refine zUtp ?_|refine zg2 ?_ ?_|intro _)
   refine⟨i+1,by omega,by omega,?_⟩
   refine zag ?_;exact zp (by(rw[QF a,XaG,<-Xao];exact YF _ _))
  ·repeat'(first|(refine zhm fun hb=>?_;try exact zab)|refine zUrp ?_|refine zg2 ?_ ?_|intro _)
   show AWp _ _ _ _
   refine Qp 6 rfl ?_
   refine QA ?_
   apply Qs
   refine zm () [] trivial ?_ ?_ ?_
   repeat'(first|exact ze3|refine ze2 ?_ ?_|refine ze4 ?_|exact ze5|fail)
   all_goals exact zp (by first|rfl|(rw[Xay (by omega)];rfl))
theorem QbJ{s:Qb}(hs:Qo 1000000000 s):DC Tryz.prog 95 [Qz s] [zL (jobE (allJ s))]:=by
 refine zMC func95 fun w0 Z O=>?_
 have d:=Qj s.queue
 have e:=hs.que
 have g:=hs.run
 have f:=Qe s.runs
 repeat'(first|(refine zhm fun hb=>?_;try exact zab)|refine zUtp ?_|refine zg2 ?_ ?_|intro _)
 refine Qa (fun(i:Nat)=>⟨24,[(3,.row 6),(11,zL (runE s.runs)),(12,zI (s.runs.length:Nat)),(13,zI i)],[(6,.row 40 (jobE (s.queue++(s.runs.take i).map Run.job)) true)]⟩) (fun i=>i<=s.runs.length) (fun i=>s.runs.length-i) 0 (by exact Xae _) ?_ ?_
 ·refine⟨rfl,?_,?_,rfl⟩
  repeat'(first|exact ze3|refine ze2 ?_ ?_|refine ze4 ?_|exact ze5|fail)
  all_goals exact zp (by first|rfl|exact Qe _|(simp only[List.take_zero,List.map_nil,List.append_nil,List.nil_append];done)|simp[jobE])
 ·intro i hi
  have c:(jobE (s.queue++(s.runs.take i).map Run.job)).length=s.queue.length+i:=by
   rw[Qj,Xab,Xar,Xah];omega
  have b:(s.queue++(s.runs.take i).map Run.job).length=s.queue.length+i:=by
   rw[Xab,Xar,Xah];omega
  by_cases a:i<s.runs.length
  ·repeat'(first|(refine zhm fun hb=>?_;try exact zab)|refine zUtp ?_|refine zg2 ?_ ?_|intro _)
   refine⟨i+1,by omega,by omega,?_⟩
   refine zag ?_;exact zp (by(rw[QF a,XaG,<-Xao];exact YF _ _))
  ·repeat'(first|(refine zhm fun hb=>?_;try exact zab)|refine zUrp ?_|refine zg2 ?_ ?_|intro _)
   show AWp _ _ _ _
   refine Qp 6 rfl ?_
   refine QA ?_
   apply Qs
   refine zm () [] trivial ?_ ?_ ?_
   repeat'(first|exact ze3|refine ze2 ?_ ?_|refine ze4 ?_|exact ze5|fail)
   all_goals exact zp (by first|rfl|(rw[Xay (by omega)];rfl))
def idxF{α:Type}(l:List α)(p:α->Bool):Int:=if l.any p=true then((l.findIdx p:Nat):Int)else -1
theorem QxW{α:Type}[Inhabited α]{l:List α}{p:α->Bool}(h:∀j,j<l.length->p (nth l j)=false):l.any p=false:=by
 cases e:l.any p with
 | false=>rfl
 | true=>
  obtain⟨x,c,a⟩:=XaV.1 e
  obtain⟨j,b,rfl⟩:=Jt c
  rw[h j b]at a
  cases a
theorem QpL{α:Type}[Inhabited α]{l:List α}{p:α->Bool}{j:Nat}(hj:j<l.length)(h:p (nth l j)=true):l.any p=true:=XaV.2 ⟨_,QE hj,h⟩
theorem QgQ{α:Type}[Inhabited α]{l:List α}{p:α->Bool}{i:Nat}(hi:i<l.length)(h:p (nth l i)=true)(hp:∀j,j<i->p (nth l j)=false):idxF l p=i:=by
 unfold idxF
 rw[if_pos (QpL hi h)]
 congr 1
 rw[List.findIdx_eq hi]
 refine⟨by rw[<-Jd hi];exact h,fun j hj=>?_⟩
 have:=hp j hj
 rwa [Jd (by omega)]at this
theorem Qql{α:Type}[Inhabited α]{l:List α}{p:α->Bool}(h:∀j,j<l.length->p (nth l j)=false):idxF l p = -1:=by
 unfold idxF
 rw[if_neg (by rw[QxW h];decide)]
theorem Qdi{α:Type}(l:List α)(p:α->Bool):decide (0<=idxF l p)=l.any p:=by
 unfold idxF
 cases h:l.any p with
 | true=>rw[if_pos rfl];simp
 | false=>rw[if_neg (by decide)];decide
theorem QeE{l:List Job}{p:Job->Bool}{g:FuncId}{ds:List D}(h:l.length<=1000000000)(hg:∀j,zAc g [jobA j,.pd ds 0] [.d (.b (p j))] []):zAc 258 [zL (jobE l),.clo g [.pd ds 0]] [zI (idxF l p)] []:=by
 refine zAC func258 fun w0 Z=>?_
 have hl:=Qj l
 repeat'(first|(refine zhm fun hb=>?_;try exact zab)|refine zUtp ?_|refine zg2 ?_ ?_|intro _)
 refine Qa (fun(i:Nat)=>⟨19,[(0,zL (jobE l)),(1,.clo g [.pd ds 0]),(7,zI (l.length:Nat)),(8,zI i)],[]⟩) (fun i=>i<=l.length/\∀j,j<i->p (nth l j)=false) (fun i=>l.length-i) 0 (by exact⟨Xae _,fun j hj=>absurd hj (Xaq _)⟩) ?_ ?_
 ·exact zll
 ·rintro i ⟨hi,c⟩
  by_cases a:i<l.length
  ·repeat'(first|(refine zhm fun hb=>?_;try exact zab)|refine zUtp ?_|refine zg2 ?_ ?_|refine kv (hg (nth l i)) rfl rfl rfl rfl rfl ?_|intro _)
   ·rw[QgQ a (by assumption) c]
    exact zrr
   ·refine⟨i+1,⟨by omega,fun j hj=>?_⟩,by omega,?_⟩
    ·by_cases e:j=i
     ·subst e;assumption
     ·exact c j (by omega)
    exact zll
  ·rw[Qql (fun j hj=>c j (by omega))]
   repeat'(first|(refine zhm fun hb=>?_;try exact zab)|refine zUtp ?_|refine zg2 ?_ ?_|intro _)
   exact zrr
theorem Qfm{l:List Job}{p:Job->Bool}{g:FuncId}{ds:List D}(h:l.length<=1000000000)(hg:∀j,zAc g [jobA j,.pd ds 0] [.d (.b (p j))] []):zAc 198 [zL (jobE l),.clo g [.pd ds 0]] [.d (.b (l.any p))] []:=by
 refine zAC func198 fun w0 Z=>?_
 repeat'(first|(refine zhm fun hb=>?_;try exact zab)|refine zUto ?_|refine zg2 ?_ ?_|refine kc (QeE h hg) rfl rfl ?_|intro _)
 refine zr [] ?_ ?_
 repeat'(first|exact ze3|refine ze2 ?_ ?_|refine ze4 ?_|exact ze5|fail)
 all_goals exact zp (Qdi l p)
theorem Qmi{l:List Job}{i:Nat}(hi:i<l.length)(h:Qm (nth l i)=false):Yz l=false:=pB_f.2 fun q=>by rw[q.jobs i hi]at h;cases h
theorem Qlp{l:List Job}{i k:Nat}(hi:i<l.length)(hk:k<i)(h:(nth l k).id=(nth l i).id):Yz l=false:=pB_f.2 fun q=>q.diff i hi k hk h
theorem QsU{l:List Job}(h:60<l.length):Yz l=false:=pB_f.2 fun q=>by have:=q.len;omega
theorem Qow{l:List Job}(h:∀i,i<l.length->Qm (nth l i)=true/\∀k,k<i->(nth l k).id≠(nth l i).id):Yz l=decide (l.length<=60):=by
 rw[Xan,Yz,pB_t,decide_eq_true_eq]
 exact⟨fun q=>q.len,fun q=>⟨q,fun i hi=>(h i hi).1,fun i hi=>(h i hi).2⟩⟩
theorem Qsz(l:List Job)(i:Nat):(List.drop 0 ((jobE l).take i))=jobE (l.take i):=by simp[jobE,List.map_take]
theorem QnX{j k:Job}:zAc 199 [jobA k,.pd (jobD j) 0] [.d (.b (k.id==j.id))] []:=by
 refine zAC func199 fun w0 Z=>?_
 repeat'(first|refine zUco ?_|(refine Hb.mk (fun hb=>?_);(first|rw[decide_eq_true_eq]at hb|rw[decide_eq_false_iff_not]at hb|skip);(first|(exfalso;omega)|(exact absurd rfl hb)|skip))|refine zg2 ?_ ?_|intro _)
 exact zrr
theorem QlW{α:Type}[Inhabited α]{l:List α}{i k:Nat}(h:k<i):nth (l.take i) k=nth l k:=by
 simp[nth,List.getD,List.getElem?_take_of_lt h]
theorem Qih{l:List Job}(h:l.length<=1000000000):zAc 111 [zL (jobE l)] [.d (.b (Yz l))] []:=by
 refine zAC func111 fun w0 Z=>?_
 have hl:=Qj l
 repeat'(first|(refine zhm fun hb=>?_;try exact zab)|refine zUtp ?_|refine zg2 ?_ ?_|intro _)
 refine Qa (fun(i:Nat)=>⟨26,[(0,zL (jobE l)),(5,zL (jobE l)),(6,zI (l.length:Nat)),(7,zI i)],[]⟩) (fun i=>i<=l.length/\∀j,j<i->Qm (nth l j)=true/\∀k,k<j->(nth l k).id≠(nth l j).id) (fun i=>l.length-i) 0 (by exact⟨Xae _,fun j hj=>absurd hj (Xaq _)⟩) ?_ ?_
 ·exact zll
 ·rintro i ⟨hi,o⟩
  by_cases a:i<l.length
  ·have q:=Qfm (l:=l.take i) (p:=fun k=>k.id==(nth l i).id) (g:=199) (ds:=jobD (nth l i)) (by rw[Xah];omega) (fun k=>QnX)
   rw[<-Qsz]at q
   have r:(l.take i).length=i:=by rw[Xah];omega
   repeat'(first|(refine zhm fun hb=>?_;try exact zab)|refine zUtp ?_|refine zg2 ?_ ?_|refine kc (Xf (j:=nth l i)) rfl rfl ?_|intro _)
   ·rw[Qmi a (by assumption)]
    exact zrr
   ·obtain⟨x,s,c⟩:=XaV.1 hb
    obtain⟨k,n,rfl⟩:=Jt s
    rw[Qlp a (by omega:k<i) (by rw[QlW (by omega)]at c;exact beq_iff_eq.1 c)]
    exact zrr
   ·rename_i m f
    refine⟨i+1,⟨by omega,fun j hj=>?_⟩,by omega,?_⟩
    ·by_cases e:j=i
     ·subst e
      refine⟨by assumption,fun k n c=>?_⟩
      have:=QpL (l:=l.take j) (p:=fun k=>k.id==(nth l j).id) (j:=k) (by omega) (by rw[QlW n];exact beq_iff_eq.2 c)
      simp_all
     ·exact o j (by omega)
    exact zll
  ·rw[Qow fun j hj=>o j (by omega)]
   repeat'(first|refine zUcp ?_|(refine Hb.mk (fun hb=>?_);(first|rw[decide_eq_true_eq]at hb|rw[decide_eq_false_iff_not]at hb|skip);(first|(exfalso;omega)|(exact absurd rfl hb)|skip))|refine zg2 ?_ ?_|intro _)
   refine zr [] ?_ ?_
   repeat'(first|exact ze3|refine ze2 ?_ ?_|refine ze4 ?_|exact ze5|fail)
   all_goals exact zp (by first|rfl|exact decide_eq_decide.2 (by omega))
theorem Qem{l:List Job}(h:l.length<=1000000000):zAc 207 [zL (jobE l)] [.d (.b (Yz l))] []:=by
 refine zAC func207 fun w0 Z=>?_
 have hl:=Qj l
 by_cases f:60<l.length
 ·rw[QsU f]
  repeat'(first|(refine zhm fun hb=>?_;try exact zab)|refine Qd ?_|(apply zch;exact zcg)|exact zhk|refine zg3 ?_ ?_|intro _)
  exact zrr
 ·repeat'(first|(refine zhm fun hb=>?_;try exact zab)|refine Qd ?_|(apply zch;exact zcg)|exact zhk|refine zg3 ?_ ?_|intro _)
  refine Qa (fun(i:Nat)=>⟨33,[(0,zL (jobE l)),(9,zL (jobE l)),(10,zI (l.length:Nat)),(11,zI i)],[]⟩) (fun i=>i<=l.length/\∀j,j<i->Qm (nth l j)=true/\∀k,k<j->(nth l k).id≠(nth l j).id) (fun i=>l.length-i) 0 (by exact⟨Xae _,fun j a=>absurd a (Xaq _)⟩) ?_ ?_
  ·exact zll
  ·rintro i ⟨hi,p⟩
   by_cases c:i<l.length
   ·have n:=Qe6 (j:=nth l i)
    cases a:Qm (nth l i) with
    | false=>
     rw[a]at n
     rw[Qmi c a]
     repeat'(first|(refine zhm fun hb=>?_;try exact zab)|refine Qd ?_|(apply zch;exact zcg)|exact zhk|refine zg3 ?_ ?_|intro _)
     exact zrr
    | true=>
     rw[a]at n
     repeat'(first|(refine zhm fun hb=>?_;try exact zab)|refine Qd ?_|(apply zch;exact zcg)|exact zhk|refine zg3 ?_ ?_|intro _)
     refine Qa (fun(k:Nat)=>⟨33,[(0,zL (jobE l)),(3,zI i),(4,.ptr 4 0),(5,zI k),(9,zL (jobE l)),(10,zI (l.length:Nat)),(11,zI i)],[(4,.box 40 ((jobD (nth l i)).map AV.d))]⟩) (fun k=>k<=i/\∀m,m<k->(nth l m).id≠(nth l i).id) (fun k=>i-k) 0 (by exact⟨Xae _,fun j a=>absurd a (Xaq _)⟩) ?_ ?_
     ·exact zll
     ·rintro k ⟨hk,o⟩
      by_cases g:k<i
      ·repeat'(first|(refine zhm fun hb=>?_;try exact zab)|refine Qd ?_|(apply zch;exact zcg)|exact zhk|refine zg3 ?_ ?_|intro _)
       ·rw[Qlp c g (by assumption)]
        exact zrr
       ·refine⟨k+1,⟨by omega,fun m hm'=>?_⟩,by omega,?_⟩
        ·by_cases e:m=k
         ·subst e;assumption
         ·exact o m (by omega)
        exact zll
      ·repeat'(first|(refine zhm fun hb=>?_;try exact zab)|refine Qd ?_|(apply zch;exact zcg)|exact zhk|refine zg3 ?_ ?_|intro _)
       refine⟨i+1,⟨by omega,fun j hj'=>?_⟩,by omega,?_⟩
       ·by_cases e:j=i
        ·subst e;exact⟨a,fun m hm'=>o m (by omega)⟩
        ·exact p j (by omega)
       exact zll
   ·rw[Qow fun j a=>p j (by omega),decide_eq_true (by omega)]
    repeat'(first|(refine zhm fun hb=>?_;try exact zab)|refine Qd ?_|(apply zch;exact zcg)|exact zhk|refine zg3 ?_ ?_|intro _)
    exact zrr

theorem Qib{s:Qb}:Qfs s↔(empO s).isSome=true/\0<=s.now/\s.now<=1000000000:=by
 constructor
 ·intro h
  rw[Qit h.topo h.up h.lic]
  exact⟨rfl,h.now⟩
 ·rintro ⟨h,b⟩
  unfold empO at h
  split at h
  ·rename_i a
   simp only[Xac,decide_eq_true_eq]at a
   exact⟨J8.1 a.1.1,a.1.2,a.2,b⟩
  ·cases h
theorem QsT{s:Qb}(hs:Qo 1000000000 s):DC Tryz.prog 125 [Qz s] (QaN (Jr s)):=by
 refine zMC func125 fun w0 Z O=>?_
 have m:=QmW hs
 have w:=Wh (x:=s.now)
 by_cases c:Qfs s
 ·have h1:=c.up
  have y:=c.now
  have h3:=c.topo.nlen
  have h4:=c.topo.len
  rw[Qit c.topo c.up c.lic]at m
  rw[show inB s.now 0 1000000000=true by rw[J4];exact y]at w
  rw[Qg0 c]
  repeat'(first|(refine zhm fun hb=>?_;try exact zab)|refine zUtp ?_|refine zg2 ?_ ?_|refine kmu m ?_|intro _)
  refine Qa (fun(k:Nat×Jn)=>⟨93,[(1,.ptr 1 0),(2,.ptr 2 0),(4,.ptr 4 0),(27,zL (runE s.runs)),(28,zI (s.runs.length:Nat)),(29,zI k.1)],[(1,.box 34 (JI s)),(2,.box 180 [.nil,.nil,.nil,.nil,.nil]),(4,.box 180 (QbV k.2))]⟩) (fun k=>GoP s k.1 k.2) (fun k=>s.runs.length-k.1) (0,Jf s.topo s.up s.lic) (by exact⟨Xae _,WS c.topo h1 c.lic,rfl⟩) ?_ ?_
  ·exact zll
  ·rintro ⟨n,r⟩ d
   dsimp only at d ⊢
   have ad:=d.le
   have ae:=Qe s.runs
   by_cases e:n<s.runs.length
   ·have o:=QeM (j:=(nth s.runs n).job) (l:=(nth s.runs n).nodes) d.ok (hs.rno n e)
    cases g:(Qm (nth s.runs n).job&&Z4 r.topo (nth s.runs n).job (nth s.runs n).nodes) with
    | false=>
     rw[g]at o
     have i:Ww s.now s.runs (Jf s.topo s.up s.lic)=none:=by
      cases b:runB s.now (nth s.runs n) with
      | false=>exact Qp4 d e b
      | true=>
       refine Qqn d e ?_
       cases z:Qm (nth s.runs n).job with
       | false=>exact Qd7 z
       | true=>rw[z,XbD]at g;exact Qea g
     rw[i]
     repeat'(first|(refine zhm fun hb=>?_;try exact zab)|refine zUr ?_|refine zg2 ?_ ?_|(apply YV;first|refine zom ?_|(apply QOk.ok;refine XL rfl rfl rfl rfl rfl rfl ?_))|refine zln fun _=>?_|refine zop ?_|refine zqj o ?_|fail)
     exact zDR
    | true=>
     rw[g]at o
     rw[Xac]at g
     obtain⟨k4,k5⟩:=YA g.1
     cases b:runB s.now (nth s.runs n) with
     | false=>
      rw[Qp4 d e b]
      by_cases ac:0<=(nth s.runs n).at'/\(nth s.runs n).at'<=1000000000
      ·have p:=Wh (x:=(nth s.runs n).at')
       repeat'(first|(refine zhm fun hb=>?_;try exact zab)|refine zUrn ?_|refine zg2 ?_ ?_|intro _)
       all_goals first
        | (exfalso;have:=(VZ (now:=s.now) (x:=nth s.runs n)).2 ⟨g.1,by omega,by omega,by omega⟩;rw[b]at this;cases this;done)
        | skip
       any_goals
        show AWp _ _ _ _
        refine QA ?_
        apply Qs
        refine zm () [] trivial ?_ ?_ ?_
        repeat'(first|exact ze3|refine ze2 ?_ ?_|refine ze4 ?_|exact ze5|fail)
        all_goals exact zp rfl
      ·have p:=Wh (x:=(nth s.runs n).at')
       rw[show inB (nth s.runs n).at' 0 1000000000=false by rw[Qnt];omega]at p
       repeat'(first|(refine zhm fun hb=>?_;try exact zab)|refine zUr ?_|refine zg2 ?_ ?_|(apply YV;first|refine zom ?_|(apply QOk.ok;refine XL rfl rfl rfl rfl rfl rfl ?_))|refine zln fun _=>?_|refine zon ?_|refine zqj o ?_|refine zqj p ?_|fail)
       exact zDR
     | true=>
      obtain⟨k1,k2,k3⟩:=VZ.1 b
      have p:=Wh (x:=(nth s.runs n).at')
      have f:=Qd2 (j:={ (nth s.runs n).job with wall:=(nth s.runs n).at'+(nth s.runs n).job.wall-s.now }) (a:=s.now) d.ok (hs.rno n e) y
      have u:Qm { (nth s.runs n).job with wall:=(nth s.runs n).at'+(nth s.runs n).job.wall-s.now }=true:=by
       have:=k1
       simp only[Qm,Xac,J4]at this ⊢
       exact⟨⟨this.1.1,by omega⟩,this.2⟩
      rw[QjF (j:=(nth s.runs n).job) k1 u rfl rfl rfl]at f
      dsimp only at f
      rw[show s.now+((nth s.runs n).at'+(nth s.runs n).job.wall-s.now)=(nth s.runs n).at'+(nth s.runs n).job.wall by omega]at f
      cases q:resO r (nth s.runs n).job s.now ((nth s.runs n).at'+(nth s.runs n).job.wall) (nth s.runs n).nodes with
      | none=>
       rw[q]at f
       rw[Qqn d e q]
       repeat'(first|(refine zhm fun hb=>?_;try exact zab)|refine zUrn ?_|refine zg2 ?_ ?_|refine kmu f ?_|intro _)
       exact zDR
      | some r'=>
       rw[q]at f
       have v:=QwC d e b q
       repeat'(first|(refine zhm fun hb=>?_;try exact zab)|refine zUrn ?_|refine zg2 ?_ ?_|refine kmu f ?_|intro _)
       exact⟨(n+1,r'),v,by dsimp only;omega,zll⟩
   ·rw[QvG d e]
    repeat'(first|(refine zhm fun hb=>?_;try exact zab)|refine zUrp ?_|refine zg2 ?_ ?_|intro _)
    exact zDR
 ·rw[Qg7 c]
  cases t:empO s with
  | none=>
   rw[t]at m
   repeat'(first|(refine zhm fun hb=>?_;try exact zab)|refine zUrp ?_|refine zg2 ?_ ?_|refine kmu m ?_|intro _)
   exact zDR
  | some r0=>
   rw[t]at m
   rw[show inB s.now 0 1000000000=false by
    rw[Qnt]
    rcases Classical.em (0<=s.now/\s.now<=1000000000)with h|h
    ·exact absurd (Qib.2 ⟨by rw[t];rfl,h⟩) c
    ·omega]at w
   repeat'(first|(refine zhm fun hb=>?_;try exact zab)|refine zUrp ?_|refine zg2 ?_ ?_|refine kmu m ?_|intro _)
   exact zDR
end
end Go.Proofs.YtkdniahincpmaaaGreat
